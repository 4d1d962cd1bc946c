/- Texts of the proof of linearCut_holds, put together by a small program of ours (names shortened, spaces taken out). No condition beyond the given statement. -/
import Derived.Test.YtjgmnoaalbbonaaGreatLCT16
import Derived.Test.YtjgmnoaalbbonaaGreatLCT36
import Derived.Test.YtjgmnoaalbbonaaGreatLCT18
import Derived.Test.YtjgmnoaalbbonaaGreatLCT19
import Derived.Test.YtjgmnoaalbbonaaGreatLCT21
import Derived.Test.YtjgmnoaalbbonaaGreatLCT22
set_option linter.unusedVariables false
set_option linter.unusedSimpArgs false
set_option linter.unnecessarySimpa false
noncomputable section
section
namespace Go.Proofs.YtjgmnoaalbbonaaGreat.Fun
open Go Go.RowKit Go.Proofs.YtjgmnoaalbbonaaGreatA.Am
set_option maxRecDepth 10000
section
variable {G:ae} {H H':aa} {o o':aj} {p m c mp f xp:Nat} {q:Int} {x:Value} {l:PL} {n i:Nat} {cs:List Int} {mx:Int} {T:List Int} {th:uL} {L:List hP} {N M:Nat}
theorem WR.eO (h:WR H o xp mp th L)(z:Int): ∃H1,bS 1 (.pointer (some ⟨xp,7,none⟩)) (cv z) H=some (undef,H1)∧WR H1 o xp mp th L∧Fr H o H1 o [-80]:=by
 obtain⟨c0,c1,c2,inv,eO,mx,tb,cap,cs,Lx,rest,ty,mo,g,ho,gt,lQ,hm,oW,hL⟩:=h;have S:=jM xp 7 z H g rfl (by simp)
 simp only[List.set_cons_succ,List.set_cons_zero] at S;have f:Fr H o (H.put xp ⟨[cv c0,cv c1,cv c2,pv mp,.slice (some ⟨tb,0,none⟩) 3 cap,Lx,cv inv,cv z],ty,1,false⟩) o [-80]:=(Fr.refl _ _ _).put λ_=>by simp[ho]
 refine⟨_,S,⟨c0,c1,c2,inv,z,mx,tb,cap,cs,Lx,rest,ty,mo,aD g,ho,?_,lQ,hm.fr f (by simp) (by simp),λj hj=>?_,hL.fr f (by simp) (by simp)⟩,f⟩
 ·rw[f.same tb (an gt) (by rw[lQ];simp)];exact gt
 ·exact(oW j hj).fr f (by simp<;>omega) (by simp<;>omega) (by simp<;>omega) (by simp)
theorem WR.adq (h:WR H o xp mp th L)(z:Int): ∃H1,bS 1 (.pointer (some ⟨xp,6,none⟩)) (cv z) H=some (undef,H1)∧WR H1 o xp mp th L∧Fr H o H1 o [-80]:=by
 obtain⟨c0,c1,c2,inv,eO,mx,tb,cap,cs,Lx,rest,ty,mo,g,ho,gt,lQ,hm,oW,hL⟩:=h;have S:=jM xp 6 z H g rfl (by simp)
 simp only[List.set_cons_succ,List.set_cons_zero] at S;have f:Fr H o (H.put xp ⟨[cv c0,cv c1,cv c2,pv mp,.slice (some ⟨tb,0,none⟩) 3 cap,Lx,cv z,cv eO],ty,1,false⟩) o [-80]:=(Fr.refl _ _ _).put λ_=>by simp[ho]
 refine⟨_,S,⟨c0,c1,c2,z,eO,mx,tb,cap,cs,Lx,rest,ty,mo,aD g,ho,?_,lQ,hm.fr f (by simp) (by simp),λj hj=>?_,hL.fr f (by simp) (by simp)⟩,f⟩
 ·rw[f.same tb (an gt) (by rw[lQ];simp)];exact gt
 ·exact(oW j hj).fr f (by simp<;>omega) (by simp<;>omega) (by simp<;>omega) (by simp)
theorem YN (h:WR H o xp mp th L)(hi:i<3)(hI:Inv th L N M)(hN:N<4000000)(hM:M<1048576):bA (run G) 43 [pv xp,cv i] H λv H'=>∃o' qM L' r s e,
  v= .tuple #[dL r s,.bool e]∧(∃a n c,s= .slice a n c)∧Fr H o H' o' wt∧WR H' o' xp mp qM L'∧Inv qM L' N (M+1):=by
 refine Ev.up (t:=λk=>F43 (run G k) k (pv xp) (cv i) H) ?_ λk=>VQ ..
 obtain⟨H1,hU⟩: ∃z,z=H.new ⟨rc bM,45,1,false⟩:=⟨_,rfl⟩;have l1:H1.length=H.length+1:=by rw[hU,aW]
 have n0:aO H 45 1 [cv 0,.bool false,cv 0,cv 0,cv 0,ax]=(pv H.length,H1):=by rw[hU];rfl
 obtain⟨oA,Qj⟩: ∃z,z=(o.up H.length (-9)).up H1.length (-9):=⟨_,rfl⟩;have f1:Fr H o H1 (o.up H.length (-9)) []:=by rw[hU];exact(Fr.refl H o []).new _ _
 have YO:Fr H o H1 oA []:=⟨f1.slot,λj hj=>by rw[Qj,cZ (by omega)];exact f1.own j hj,f1.size⟩
 have c1:Cl H.length (rc bM) 45 H1 oA:=⟨by rw[hU];exact ay,by rw[Qj,cZ (by omega)];exact aH⟩
 have h1:=h.DR YO (by simp)
 obtain⟨tb,cap,inv,eO,e3,e4,e6,e7,eT,Mv,hxo,T5,JK⟩:=h1.oR;obtain⟨YL,YM⟩:=eT i hi;obtain⟨no,b1,b7,b8⟩:=h1.YK hi;have hM1: ∀j,j<3→(th j).T.length≤M+1:=λj hj=>by have:=hI.tape j hj;omega
 have abw: ∀{Hx:aa} {ox:aj} {qM:uL} {L':List hP},Cl H.length (rc bM) 45 Hx ox→Fr H o Hx ox wt→WR Hx ox xp mp qM L'→Inv qM L' N (M+1)→Ev (λk=>af (bS 6 (pv H.length) (dL bM ax) Hx) λ_ Hy=>af (pS (cK 6 (pv H.length) Hy) Hy) λr0 _=>some (Value.tuple #[r0,.bool false],Hy)) λrr=>∃o' qM L' r s e,rr.1= .tuple #[dL r s,.bool e]∧(∃a n c,s= .slice a n c)∧Fr H o rr.2 o' wt∧WR rr.2 o' xp mp qM L'∧Inv qM L' N (M+1):=by
  intro Hx ox qM L' hc hf hw hI';have A:=tD H.length bM (s:=ax) rfl Hx hc.1 rfl;have f4:Fr Hx ox (Hx.put H.length ⟨rc bM,45,1,false⟩) ox [-9]:=(Fr.refl _ _ _).put λ_=>by simp[hc.2]
  have Lr:=jJ H.length bM (s:=ax) (t:=45) _ (aD hc.1);simp -implicitDefEqProofs only[A,Lr,sS,Nat.reduceAdd];exact Ev.ret ⟨ox,qM,L',bM,ax,false,rfl,⟨_,_,_,rfl⟩,hf.put (λhh=>by omega),hw.DR f4 (by simp),hI'⟩
 simp -implicitDefEqProofs only[F43,n0,sS,Nat.reduceAdd];refine Ev.lss (λhq=>?_) (λhq=>?_)<;>try simp -implicitDefEqProofs only[e4,cw,sS,Nat.reduceAdd]
 ·omega
 refine Ev.geq (λhq=>?_) (λhq=>?_)<;>try simp -implicitDefEqProofs only[e4,YL,YM,b1,sS,Nat.reduceAdd]
 ·omega
 cases hb:(th i).busy<;>simp -implicitDefEqProofs only[AL,e7,sS,Nat.reduceAdd]
 ·exact abw c1 (YO.wk (by simp)) h1 ⟨hI.len,hI.lists,hM1⟩
 obtain⟨H2,S7,h2,f2⟩:=h1.eO (IntKind.i64.wrap (eO+1));obtain⟨Uc,BS,inv2,YP,j3,j4,j6,j7,jT,jxl,jxo,jtl,jto⟩:=h2.oR;have l2:H2.length=H.length+1:=by
  have:=f2.size
  rw[l1] at this;have e2:H2.length=H1.length:=by
   have hh:=S7;obtain⟨_,_,_,_,_,_,_,_,_,_,_,_,_,g,_⟩:=id h1;rw[jM xp 7 _ H1 g rfl (by simp)] at hh
   injection hh with hh;injection hh with _ hh;rw[←hh,jd]
  omega
 obtain⟨H3,ou⟩: ∃z,z=H2.dr 1:=⟨_,rfl⟩;have f3:Fr H2 oA H3 oA []:=by rw[ou];exact(Fr.refl _ _ _).dr 1
 have h3:=h2.DR f3 (by simp)
 have abx:H3[H2.length]? =some .hole:=by rw[ou];exact um
 have l3:H3.length=H2.length+1:=by rw[ou,uo]
 have m3: ∀{a:Nat} {k:Nat} {b:eu} {y:Value},aq (.pointer (some ⟨a,k,none⟩)) H2=some y→a<H2.length→aq (.pointer (some ⟨a,k,none⟩)) H3=some y:=λ{a k b y} e ha=>by
  have:H3.get a=H2.get a:=cP (f3.slot a ha (by simp))
  simp only[aq,this] at e ⊢;exact e
 have k3:=m3 (b:=⟨[],0,1,false⟩) j3 jxl;have k4:=m3 (b:=⟨[],0,1,false⟩) j4 jxl;obtain⟨jT1,jT2⟩:=jT i hi;have kT:=m3 (b:=⟨[],0,1,false⟩) jT2 jtl;have adr:H2.dr 1=H3:=ou.symm;simp -implicitDefEqProofs only[S7,adr,k4,jT1,kT,k3,sS,Nat.reduceAdd];have hTl:(th i).T.length<1048576:=by have:=hI.tape i hi;omega
 refine Ev.call (Ta h3 hi hb hTl) ?_;rintro v H4 ⟨o4,r,s,e,T',rfl,f4,h4,hT',hs4,hr4⟩;obtain⟨sa,sc,es⟩:=hs4.isSlice;have oA2:oA H2.length= -9:=by rw[Qj,l2, ←l1];exact aH
 have aby:H4[H2.length]? =some .hole:=by rw[f4.slot H2.length (by omega) (by rw[oA2];simp<;>omega)];exact abx
 have o42:o4 H2.length= -9:=by rw[f4.own H2.length (by omega)];exact oA2
 have l4:=f4.size;obtain⟨H5,uK⟩: ∃z:aa,z=H4.set H2.length (.jD ⟨rc bM,45,1,false⟩):=⟨_,rfl⟩;have lay:Et H2.length (some (λi=>Value.pointer (some ⟨i,0,none⟩),(⟨[cv 0,.bool false,cv 0,cv 0,cv 0,ax],45,1,false⟩:eu))) H4=some (pv H2.length,H5):=by rw[uK];exact Ci aby
 have f5:Fr H4 o4 H5 o4 [-9]:=by rw[uK];exact(Fr.refl _ _ _).set _ λ_=>by simp[o42]
 have g5:H5.get H2.length=some ⟨rc bM,45,1,false⟩:=by rw[uK];exact nL (by omega)
 have A6:=tD H2.length r es H5 g5 rfl;obtain⟨H6,Fs⟩: ∃z,z=H5.put H2.length ⟨Md r s,45,1,false⟩:=⟨_,rfl⟩;have e6':(⟨[cv r.qY,.bool r.found,cv r.key,cv r.value,cv r.n,s],45,1,false⟩:eu)=⟨Md r s,45,1,false⟩:=rfl;rw[e6', ←Fs] at A6;have f6:Fr H5 o4 H6 o4 [-9]:=by rw[Fs];exact(Fr.refl _ _ _).put λ_=>by simp[o42]
 have f46:Fr H4 o4 H6 o4 [-9]:=f5.tr f6;have h6:=h4.DR f46 (by simp)
 have c6:Cl H2.length (Md r s) 45 H6 o4:=⟨by rw[Fs];exact aD g5,o42⟩
 have hs6:gE H6 o4 (-41) s r.list:=hs4.fr f46 (by simp)
 have kk: ∀{a:Nat} {k:Nat} {y:Value} {Hx:aa},aq (.pointer (some ⟨a,k,none⟩)) H3=some y→(Hx.get a=H3.get a)→aq (.pointer (some ⟨a,k,none⟩)) Hx=some y:=λ{a k y Hx} e hx=>by
  simp only[aq,hx] at e ⊢;exact e
 have gx4:H4.get xp=H3.get xp:=f4.same xp (by omega) (by rw[jxo];simp<;>omega)
 have gt4:H4.get Uc=H3.get Uc:=f4.same Uc (by omega) (by rw[jto];simp<;>omega)
 have gx5:H5.get xp=H3.get xp:=by rw[uK,cP (iy (by omega))];exact gx4
 have gt5:H5.get Uc=H3.get Uc:=by rw[uK,cP (iy (by omega))];exact gt4
 have ev4:jE (Value.slice (some ⟨Uc,0,none⟩) 3 BS) (Value.slice (some ⟨Uc,0,none⟩) 3 BS)=true:=jm ..;have eE:=kk k4 gx4;have dQ:=kk k4 gx5;have dE:=kk k3 gx4;have bN:=kk k3 gx5;have xT4:=kk kT gt4;have xT5:=kk kT gt5;simp -implicitDefEqProofs only[Nat.add_zero,lay,A6,k4,kT,k3,eE,dQ,dE,bN,xT4,xT5,ev4,pC,sS,Nat.reduceAdd];have hI4:Inv (rQ th i ⟨(th i).ti, !e,(th i).fO,T'⟩) L (if e then N-1 else N) (M+1):=by
  refine⟨?_,hI.lists,λj hj=>?_⟩
  ·have hl:=hI.len;cases e with
   |false=>
    have hp:=DJ (th:=th) (s:=⟨(th i).ti, !false,(th i).fO,T'⟩) (d:=0) hi (by simp[u7,hb])
    simp only[Bool.false_eq_true,if_false];omega
   |true=>
    have hp:=DJ (th:=th) (s:=⟨(th i).ti, !true,(th i).fO,T'⟩) (d:=1) hi (by cases ht:(th i).fO<;>simp[u7,hb,ht])
    simp only[if_true];omega
  ·unfold rQ;split
   ·have:=hI.tape i hi
    show T'.length≤M+1
    omega
   ·exact hM1 j hj
 refine Ev.call (Tb h6 hI4 (by split<;>omega)) ?_
 rintro v H7 ⟨o7,th7,L7,f7,h7,Mg,pw⟩;have fA7:Fr H o H7 o7 wt:=((((YO.trans f2 (rs:=wt) (by simp) (by simp)).trans f3 (rs:=wt) (λ_ h=>h) (by simp)).trans f4 (rs:=wt) (λ_ h=>h) (IZ hi)).trans f46 (rs:= -9::wt) (by simp) (by simp)).trans f7 (rs:= -9::wt) (λ_ h=>h) (by simp) |> λf=>by
  exact⟨λj hj hn=>by
   rw[f7.slot j (by have:=f46.size;omega) (by rw[(f46.own j (by omega)),f4.own j (by omega)];have:=YO.own j hj;rw[this];exact hn)]
   have dX:j≠H2.length:=by omega
   rw[Fs,db dX,uK,iy dX,f4.slot j (by omega) (by rw[YO.own j hj];exact λhh=>hn (IZ hi _ hh)),f3.slot j (by omega) (by simp),f2.slot j (by omega) (by rw[YO.own j hj];exact λhh=>hn (by simp at hh;simp[hh]))]
   exact YO.slot j hj (by simp),f.own,f.size⟩
 have c7:Cl H2.length (Md r s) 45 H7 o7:=c6.fr f7 (by simp)
 have abz:Cl H.length (rc bM) 45 H7 o7:=by
  have a1:Cl H.length (rc bM) 45 H4 o4:=((c1.fr f2 (by simp)).fr f3 (by simp)).fr f4 (by simp<;>omega)
  have a2:Cl H.length (rc bM) 45 H6 o4:=⟨by rw[Fs,aS (by omega),uK,cP (iy (by omega))];exact a1.1,a1.2⟩
  exact a2.fr f7 (by simp)
 have hs7:gE H7 o7 (-41) s r.list:=hs6.fr f7 (by simp)
 cases e<;>simp -implicitDefEqProofs only[AL,sS,Nat.reduceAdd]
 ·exact abw abz fA7 h7 (by simpa using Mg)
 ·simp only[if_true] at Mg;have hN1:1≤N:=by
   have:=hI.len
   have hp:1≤u7 (th i):=by cases ht:(th i).fO<;>simp[u7,hb,ht]
   have:i=0∨i=1∨i=2:=by omega
   rcases this with rfl|rfl|rfl<;>omega
  obtain⟨tb7,adV,adW,Hn,i3,i4,i6,i7,iT,ixl,ixo,itl,ito⟩:=h7.oR;obtain⟨iT1,iT2⟩:=iT i hi;obtain⟨no7,d1,d7,d8⟩:=h7.YK hi;have Lr:=jJ H2.length r (s:=s) H7 c7.1;have adX:=Mg.len;obtain⟨Lx,q1,q2,q3,x',H8,H9,o9,q4,q5,h9,f9⟩:=h7.app ⟨3,i,no7,⟨0,0,0⟩,r,Hn⟩ (s:=s) hs7 (by omega)
  have c9:Cl H2.length (Md r s) 45 H9 o9:=c7.fr f9 (by simp)
  have PK:Cl H.length (rc bM) 45 H9 o9:=abz.fr f9 (by simp)
  have Lr9:=jJ H2.length r (s:=s) H9 c9.1;have A10:=tD H.length r es H9 PK.1 rfl;have ads:=jJ H.length r (s:=s) (t:=45) _ (aD (c:=⟨Md r s,45,1,false⟩) PK.1);have e10:(⟨[cv r.qY,.bool r.found,cv r.key,cv r.value,cv r.n,s],45,1,false⟩:eu)=⟨Md r s,45,1,false⟩:=rfl;rw[e10] at A10;have f10:Fr H9 o9 (H9.put H.length ⟨Md r s,45,1,false⟩) o9 [-9]:=(Fr.refl _ _ _).put λ_=>by simp[PK.2]
  simp -implicitDefEqProofs only[q1,i4,iT1,iT2,d8,Lr,i7,abr _ _ _ r es,PH _ es,q2,q4,q5,q3,Lr9,A10,ads,sS,Nat.reduceAdd];refine Ev.ret ⟨o9,th7,L7++[⟨3,i,no7,⟨0,0,0⟩,r,Hn⟩],r,s,true,rfl,⟨_,_,_,es⟩,(fA7.trans f9 (rs:=wt) (λ_ h=>h) (by simp)).put (λhh=>by omega),h9.DR f10 (by simp),⟨?_,?_,Mg.tape⟩⟩
  ·simp only[List.length_append,List.length_singleton];omega
  ·intro z hz;rcases List.mem_append.1 hz with hz|hz
   ·exact Mg.lists z hz
   ·have:z=⟨3,i,no7,⟨0,0,0⟩,r,Hn⟩:=by simpa using hz
    subst this;exact hr4
end
section
variable {G:ae} {H H':aa} {o o':aj} {p m c mp f xp:Nat} {q:Int} {x:Value} {l:PL} {n i:Nat} {cs:List Int} {mx:Int} {T:List Int} {th:uL} {L:List hP} {N M:Nat}
theorem YQ (dt:Int)(op:kC):aE Tryz.prog 140 [(1,cv dt),(10,iO op)]=some (.agg (ac dt op).toArray):=by kernel_rfl
theorem adt (t:Nat)(op:kC)(a b k key val:Int)(F:Value)(st no:Int)(bu tk:Bool){T:TypeId}(H:aa)(h:H.get t=some ⟨[cv a,.bool bu,cv k,cv key,cv val,F,cv st,.bool tk,cv no],T,1,false⟩):bS 3 (.pointer (some ⟨t,2,none⟩)) (iO op) H=some (undef,H.put t ⟨[cv a,.bool bu,cv op.kind,cv op.key,cv op.value,F,cv st,.bool tk,cv no],T,1,false⟩):=by
 simp[bS,bl,h,Value.cells,known,av,bB]
theorem Tc (h:WR H o xp mp th L)(hi:i<3)(op:kC):bA (run G) 45 [pv (th i).ti,iO op] H λv H'=>∃o' e qM,v=cv e∧Fr H o H' o' [-200-i, -210-i, -220-i, -70, -71]∧WR H' o' xp mp qM L∧((e=0∧qM=rQ th i ⟨(th i).ti,true,false,[]⟩)∨(e≠0∧qM=th)):=by
 refine Ev.up (t:=λk=>F45 (run G k) k (pv (th i).ti) (iO op) H) ?_ λk=>Wj ..
 obtain⟨H1,hU⟩: ∃z,z=H.new ⟨oQ op,39,1,false⟩:=⟨_,rfl⟩;have bx:=vA op H;rw[←hU] at bx;have f1:Fr H o H1 (o.up H.length (-9)) []:=by rw[hU];exact(Fr.refl H o []).new _ _
 have c1:Cl H.length (oQ op) 39 H1 (o.up H.length (-9)):=by rw[hU];exact Cl.made
 have h1:=h.DR f1 (by simp)
 obtain⟨c0',_,_,_,_,mx,_,_,cs,_,_,_,_,_,_,_,_,hm,oW,_⟩:=id h1;obtain⟨dt,k,key,val,steps,no,F,ty,g,lQ,hF⟩:=oW i hi;have L1:aq (.pointer (some ⟨(th i).ti,1,none⟩)) H1=some (.bool (th i).busy):=ak _ 1 H1 g;have L0:aq (pv (th i).ti) H1=some (cv dt):=ak _ 0 H1 g;have K0:aq (pv H.length) H1=some (cv op.kind):=ak _ 0 H1 c1.1;have KO:cK 3 (pv H.length) H1=some (iO op):=Pc c1.1;have Td: ∀(e:Int),e≠0→Ev (λ_=>some (cv e,H1)) λr=>∃o' e qM,r.1=cv e∧Fr H o r.2 o' [-200-i, -210-i, -220-i, -70, -71]∧WR r.2 o' xp mp qM L∧((e=0∧qM=rQ th i ⟨(th i).ti,true,false,[]⟩)∨(e≠0∧qM=th)):=λe he=>Ev.ret ⟨_,e,th,rfl,f1.wk (by simp),h1,.inr ⟨he,rfl⟩⟩
 simp -implicitDefEqProofs only[F45,bx,L1,sS,Nat.reduceAdd];cases hb:(th i).busy<;>simp -implicitDefEqProofs only[K0,Nat.add_zero,sS,Nat.reduceAdd]
 rotate_left
 ·exact Td 4 (by simp)
 refine Ev.lss (λhq=>?_) (λhq=>?_)<;>try simp -implicitDefEqProofs only[K0,Nat.add_zero,sS,Nat.reduceAdd]
 ·exact Td 5 (by simp)
 refine Ev.gtr (λhq=>?_) (λhq=>?_)<;>try simp -implicitDefEqProofs only[L0,Nat.add_zero,sS,Nat.reduceAdd]
 ·exact Td 5 (by simp)
 refine Ev.lss (λhq=>?_) (λhq=>?_)<;>try simp -implicitDefEqProofs only[L0,Nat.add_zero,sS,Nat.reduceAdd]
 ·exact Td 2 (by simp)
 refine Ev.gtr (λhq=>?_) (λhq=>?_)<;>try simp -implicitDefEqProofs only[sS,Nat.reduceAdd]
 ·exact Td 2 (by simp)
 have dX:(th i).ti≠H.length:=by
  intro e;have a:=c1.2;have b:=lQ;rw[e] at b;omega
 rw[hb] at g;have S1:=kE (th i).ti 1 (.bool true) H1 g rfl (by simp) rfl rfl rfl
 simp only[List.set_cons_succ,List.set_cons_zero] at S1;obtain⟨H2,iL⟩: ∃z,z=H1.put (th i).ti ⟨[cv dt,.bool true,cv k,cv key,cv val,F,cv steps,.bool (th i).fO,cv no],ty,1,false⟩:=⟨_,rfl⟩;rw[←iL] at S1;have g2:H2.get (th i).ti=some ⟨[cv dt,.bool true,cv k,cv key,cv val,F,cv steps,.bool (th i).fO,cv no],ty,1,false⟩:=by rw[iL];exact aD g
 have b2:H2.get H.length=some ⟨oQ op,39,1,false⟩:=by rw[iL,aS (Ne.symm dX)];exact c1.1
 have KO2:cK 3 (pv H.length) H2=some (iO op):=Pc b2;have S2:=adt (th i).ti op dt 0 k key val F steps no true (th i).fO H2 g2;obtain⟨H3,ou⟩: ∃z,z=H2.put (th i).ti ⟨[cv dt,.bool true,cv op.kind,cv op.key,cv op.value,F,cv steps,.bool (th i).fO,cv no],ty,1,false⟩:=⟨_,rfl⟩;rw[←ou] at S2;have g3:H3.get (th i).ti=some ⟨[cv dt,.bool true,cv op.kind,cv op.key,cv op.value,F,cv steps,.bool (th i).fO,cv no],ty,1,false⟩:=by rw[ou];exact aD g2
 have S3:=jM (th i).ti 6 0 H3 g3 rfl (by simp)
 simp only[List.set_cons_succ,List.set_cons_zero] at S3;obtain⟨H4,oV⟩: ∃z,z=H3.put (th i).ti ⟨[cv dt,.bool true,cv op.kind,cv op.key,cv op.value,F,cv 0,.bool (th i).fO,cv no],ty,1,false⟩:=⟨_,rfl⟩;rw[←oV] at S3;have g4:H4.get (th i).ti=some ⟨[cv dt,.bool true,cv op.kind,cv op.key,cv op.value,F,cv 0,.bool (th i).fO,cv no],ty,1,false⟩:=by rw[oV];exact aD g3
 have S4:=kE (th i).ti 7 (.bool false) H4 g4 rfl (by simp) rfl rfl rfl
 simp only[List.set_cons_succ,List.set_cons_zero] at S4;obtain⟨H5,uK⟩: ∃z,z=H4.put (th i).ti ⟨[cv dt,.bool true,cv op.kind,cv op.key,cv op.value,F,cv 0,.bool false,cv no],ty,1,false⟩:=⟨_,rfl⟩;rw[←uK] at S4;have g5:H5.get (th i).ti=some ⟨[cv dt,.bool true,cv op.kind,cv op.key,cv op.value,F,cv 0,.bool false,cv no],ty,1,false⟩:=by rw[uK];exact aD g4
 have b5:H5.get H.length=some ⟨oQ op,39,1,false⟩:=by rw[uK,aS (Ne.symm dX),oV,aS (Ne.symm dX),ou,aS (Ne.symm dX)];exact b2
 have f5:Fr H1 (o.up H.length (-9)) H5 (o.up H.length (-9)) [-200-i]:=by
  rw[uK,oV,ou,iL];exact((((Fr.refl _ _ _).put λ_=>by simp[lQ]).put λ_=>by simp[lQ]).put λ_=>by simp[lQ]).put λ_=>by simp[lQ]
 have KO5:cK 3 (pv H.length) H5=some (iO op):=Pc b5;have K5:aq (pv H.length) H5=some (cv op.kind):=ak _ 0 H5 b5;have L05:aq (pv (th i).ti) H5=some (cv dt):=ak _ 0 H5 g5;have J0: ∀(proc:Int) (x4 x6 aN cd dN:Value),(proc=24∨proc=25)→Ev (λk=>CV (run G k) k [pv (th i).ti,iO op,x4,x6,pv H.length,aN,cd,dN,cv proc] H5) λr=>∃o' e qM,r.1=cv e∧Fr H o r.2 o' [-200-i, -210-i, -220-i, -70, -71]∧WR r.2 o' xp mp qM L∧((e=0∧qM=rQ th i ⟨(th i).ti,true,false,[]⟩)∨(e≠0∧qM=th)):=by
  intro proc x4 x6 aN cd dN hp;simp -implicitDefEqProofs only[Oh,CU,L05,KO5,YQ,Nat.add_zero,sS,Nat.reduceAdd];refine Ev.call (YH (ftI i) hp dt op H5 (o.up H.length (-9))) ?_;rintro v H6 ⟨f,o6,rfl,f6,hf6⟩;have vH:(o.up H.length (-9)) (th i).ti= -200-i:=lQ;have g6:H6.get (th i).ti=some ⟨[cv dt,.bool true,cv op.kind,cv op.key,cv op.value,F,cv 0,.bool false,cv no],ty,1,false⟩:=by rw[f6.same _ (an g5) (by rw[vH];simp<;>omega)];exact g5
  have ho6:o6 (th i).ti= -200-i:=by rw[f6.own _ (an g5)];exact vH
  have S5:=acb (th i).ti 5 (some ⟨f,0,none⟩) H6 g6 rfl (by simp)
  simp only[List.set_cons_succ,List.set_cons_zero] at S5;obtain⟨H7,Qh⟩: ∃z,z=H6.put (th i).ti ⟨[cv dt,.bool true,cv op.kind,cv op.key,cv op.value,pv f,cv 0,.bool false,cv no],ty,1,false⟩:=⟨_,rfl⟩;rw[←Qh] at S5;have f7:Fr H6 o6 H7 o6 [-200-i]:=by rw[Qh];exact(Fr.refl _ _ _).put λ_=>by simp[ho6]
  have fB:Fr H1 (o.up H.length (-9)) H7 o6 [-200-i, -210-i, -220-i, -70, -71]:=(f5.trans f6 (rs:=[-200-i, -210-i, -220-i, -70, -71]) (by simp) (by simp)).trans f7 (by simp) (by simp)
  have ht7:T9 H7 o6 i ⟨(th i).ti,true,false,[]⟩:=⟨dt,op.kind,op.key,op.value,0,no,pv f,ty,by rw[Qh];exact aD g6,ho6,λ_=>⟨f,rfl,hf6.fr f7 (by simp<;>omega) (by simp<;>omega) (by simp<;>omega)⟩⟩
  have hm7:=(((hm.fr f5 (by simp<;>omega) (by simp<;>omega)).fr f6 (by simp<;>omega) (by simp<;>omega)).fr f7 (by simp<;>omega) (by simp<;>omega))
  simp -implicitDefEqProofs only[S5,sS,Nat.reduceAdd];exact Ev.ret ⟨o6,0,_,rfl,f1.trans fB (by simp) (λ_ h=>h),h1.Me hi fB ht7 rfl ⟨_,_,hm7⟩,.inl ⟨rfl,rfl⟩⟩
 simp -implicitDefEqProofs only[S1,KO2,S2,S3,S4,K5,Nat.add_zero,sS,Nat.reduceAdd];refine Ev.gtr (λhq=>?_) (λhq=>?_)<;>try simp -implicitDefEqProofs only[sS,Nat.reduceAdd]
 ·exact J0 25 _ _ _ _ _ (.inr rfl)
 ·exact J0 24 _ _ _ _ _ (.inl rfl)
theorem WR.no (h:WR H o xp mp th L)(hi:i<3)(z:Int): ∃H1,bS 1 (.pointer (some ⟨(th i).ti,8,none⟩)) (cv z) H=some (undef,H1)∧WR H1 o xp mp th L∧Fr H o H1 o [-200-i]:=by
 obtain⟨c0,c1,c2,inv,eO,mx,tb,cap,cs,Lx,rest,ty,mo,g,ho,gt,lQ,hm,oW,hL⟩:=id h;obtain⟨dt,k,key,val,steps,no,F,ty,g,lQ,hF⟩:=oW i hi;have S:=jM (th i).ti 8 z H g rfl (by simp)
 simp only[List.set_cons_succ,List.set_cons_zero] at S;have f:Fr H o (H.put (th i).ti ⟨[cv dt,.bool (th i).busy,cv k,cv key,cv val,F,cv steps,.bool (th i).fO,cv z],ty,1,false⟩) o [-200-i]:=(Fr.refl _ _ _).put λ_=>by simp[lQ]
 have hw:=h.Me hi (s':=th i) (f.wk (by simp)) ⟨dt,k,key,val,steps,z,F,ty,aD g,lQ,λhb=>by
  obtain⟨f',e,hf⟩:=hF hb;exact⟨f',e,hf.fr f (by simp<;>omega) (by simp<;>omega) (by simp<;>omega)⟩⟩ rfl ⟨mx,cs,hm.fr f (by simp<;>omega) (by simp<;>omega)⟩
 have e:Fun.rQ th i (th i)=th:=by
  funext j
  unfold Fun.rQ;split
  ·rename_i e;rw[e]
  ·rfl
 rw[e] at hw;exact⟨_,S,hw,f⟩
theorem PM (h:WR H o xp mp th L)(hi:i<3)(hI:Inv th L N M)(hN:N<4000000)(op:kC):bA (run G) 22 [pv xp,cv i,iO op] H λv H'=>∃o' qM L',Fr H o H' o' wt∧WR H' o' xp mp qM L'∧Inv qM L' (N+3) M:=by
 refine Ev.up (t:=λk=>F22 (run G k) k (pv xp) (cv i) (iO op) H) ?_ λk=>WJ ..
 obtain⟨H1,hU⟩: ∃z,z=H.new ⟨oQ op,39,1,false⟩:=⟨_,rfl⟩;have bx:=vA op H;rw[←hU] at bx;have f1:Fr H o H1 (o.up H.length (-9)) []:=by rw[hU];exact(Fr.refl H o []).new _ _
 have c1:Cl H.length (oQ op) 39 H1 (o.up H.length (-9)):=by rw[hU];exact Cl.made
 have h1:=h.DR f1 (by simp)
 obtain⟨tb,cap,inv,eO,e3,e4,e6,e7,eT,_⟩:=h1.oR;obtain⟨YL,YM⟩:=eT i hi;have KO:cK 3 (pv H.length) H1=some (iO op):=Pc c1.1;have hI3:Inv th L (N+3) M:=⟨by have:=hI.len;omega,hI.lists,hI.tape⟩
 simp -implicitDefEqProofs only[F22,bx,sS,Nat.reduceAdd];refine Ev.lss (λhq=>?_) (λhq=>?_)<;>try simp -implicitDefEqProofs only[e4,cw,sS,Nat.reduceAdd]
 ·omega
 refine Ev.geq (λhq=>?_) (λhq=>?_)<;>try simp -implicitDefEqProofs only[e4,YL,YM,KO,sS,Nat.reduceAdd]
 ·omega
 refine Ev.call (Tc h1 hi op) ?_;rintro v H2 ⟨o2,e,Mf,rfl,f2,h2,he⟩;have f2w:Fr H o H2 o2 wt:=f1.trans f2 (by simp) (IZ hi)
 try simp -implicitDefEqProofs only[sS,Nat.reduceAdd]
 rcases he with⟨rfl,rfl⟩|⟨he,rfl⟩
 rotate_left
 ·refine Ev.neq (λhq=>?_) (λhq=>?_)<;>try simp -implicitDefEqProofs only[sS,Nat.reduceAdd]
  ·exact Ev.ret ⟨o2,_,L,f2w,h2,hI3⟩
  ·exact absurd hq he
 refine Ev.neq (λhq=>?_) (λhq=>?_)<;>try simp -implicitDefEqProofs only[sS,Nat.reduceAdd]
 ·exact absurd rfl hq
 obtain⟨Mf,eth⟩: ∃z,z=rQ th i ⟨(th i).ti,true,false,[]⟩:=⟨_,rfl⟩;rw[←eth] at h2;have eti:(Mf i).ti=(th i).ti:=by rw[eth];simp[rQ]
 have c2:Cl H.length (oQ op) 39 H2 o2:=c1.fr f2 (by simp<;>omega)
 obtain⟨Uc,BS,inv2,YP,j3,j4,j6,j7,jT,_⟩:=h2.oR;obtain⟨jT1,jT2⟩:=jT i hi;obtain⟨H3,S8,h3,f3⟩:=h2.no hi inv2;obtain⟨tb3,adY,adu,adv,k3,k4,k6,k7,kT,_⟩:=h3.oR;obtain⟨H4,S6,h4,f4⟩:=h3.adq (IntKind.i64.wrap (adu+1));obtain⟨tb4,adZ,ad0,Ho,i3,i4,i6,i7,iT,_⟩:=h4.oR;obtain⟨iT1,iT2⟩:=iT i hi;obtain⟨Td,d1,d7,d8⟩:=h4.YK hi;have c4:Cl H.length (oQ op) 39 H4 o2:=(c2.fr f3 (by simp<;>omega)).fr f4 (by simp)
 have KO4:cK 3 (pv H.length) H4=some (iO op):=Pc c4.1;have hl:=hI.len;obtain⟨Lx,q1,q2,q3,x',H5,H6,o6,q4,q5,h6,f6⟩:=h4.app ⟨1,i,Td,op,bM,Ho⟩ (s:=ax) .nil (by omega)
 simp -implicitDefEqProofs only[j4,jT1,jT2,j6,S8,k6,S6,q1,i4,iT1,iT2,d8,KO4,i7,abq,PH _ rfl,q2,q4,q5,q3,sS,Nat.reduceAdd];refine Ev.ret ⟨o6,Mf,L++[⟨1,i,Td,op,bM,Ho⟩],((f2w.trans f3 (rs:=wt) (λ_ h=>h) (I0 hi)).trans f4 (rs:=wt) (λ_ h=>h) (by simp)).trans f6 (λ_ h=>h) (by simp),h6,⟨?_,?_,?_⟩⟩
 ·have hp:=YJ (th:=th) (s:=⟨(th i).ti,true,false,[]⟩) (d:=2) hi (by simp[u7])
  rw[←eth] at hp;simp only[List.length_append,List.length_singleton];omega
 ·intro e he;rcases List.mem_append.1 he with he|he
  ·exact hI.lists e he
  ·have:e=⟨1,i,Td,op,bM,Ho⟩:=by simpa using he
   subst this;simp[bM]
 ·intro j hj;rw[eth];unfold rQ;split
  ·simp
  ·exact hI.tape j hj
theorem abA (t n:Int):aE Tryz.prog 76 [(0,cv 2),(1,cv t),(2,cv n)]=some (.agg #[cv 2,cv t,cv n,cv 0,cv 0,cv 0]):=by kernel_rfl
theorem YR (t n:Int)(H:aa):cO 76 (.agg #[cv 2,cv t,cv n,cv 0,cv 0,cv 0]) H=some (pv H.length,H.new ⟨[cv 2,cv t,cv n,cv 0,cv 0,cv 0],76,1,false⟩):=by
 simp[cO,Value.cells,av,aO]
theorem abB (h:WR H o xp mp th L)(hi:i<3)(hI:Inv th L N M)(hN:N<4000000)(hM:M+24<1048576){k:Int}(hk:1≤k∧k≤24):bA (run G) 21 [pv xp,.agg #[cv 2,cv i,cv k,cv 0,cv 0,cv 0]] H λv H'=>∃o' qM L',Fr H o H' o' wt∧WR H' o' xp mp qM L'∧Inv qM L' N (M+24):=by
 refine Ev.up (t:=λk'=>F21 (run G k') k' (pv xp) (.agg #[cv 2,cv i,cv k,cv 0,cv 0,cv 0]) H) ?_ λk'=>WI ..
 obtain⟨H1,hU⟩: ∃z,z=H.new ⟨[cv 2,cv i,cv k,cv 0,cv 0,cv 0],76,1,false⟩:=⟨_,rfl⟩;have bx:=YR i k H;rw[←hU] at bx;have f1:Fr H o H1 (o.up H.length (-9)) []:=by rw[hU];exact(Fr.refl H o []).new _ _
 have c1:Cl H.length [cv 2,cv i,cv k,cv 0,cv 0,cv 0] 76 H1 (o.up H.length (-9)):=by rw[hU];exact Cl.made
 have h1:=h.DR f1 (by simp)
 have K0:aq (pv H.length) H1=some (cv 2):=ak _ 0 H1 c1.1;simp -implicitDefEqProofs only[F21,bx,K0,Nat.add_zero,sS,Nat.reduceAdd];refine Ev.eql (λhq=>?_) (λhq=>?_)<;>try simp -implicitDefEqProofs only[sS,Nat.reduceAdd]
 ·omega
 refine Ev.eql (λhq=>?_) (λhq=>?_)<;>try simp -implicitDefEqProofs only[sS,Nat.reduceAdd]
 rotate_left
 ·omega
 refine Ev.loop (k:=24) (λkk vs Hx=>∃(j:Nat) (o1:aj) (lR:uL) (L1:List hP) (x4 aN aK cd cy x7 dz cS x8 dO x9 fE ku:Value),j+kk=24∧vs=[pv xp,.agg #[cv 2,cv i,cv k,cv 0,cv 0,cv 0],x4,pv H.length,aN,aK,cd,cv j,cy,x7,dz,cS,x8,dO,x9,fE,ku]∧Fr H o Hx o1 wt∧Cl H.length [cv 2,cv i,cv k,cv 0,cv 0,cv 0] 76 Hx o1∧WR Hx o1 xp mp lR L1∧Inv lR L1 N (M+j))
  (λr=>r.1= .exit 1∧∃(o1:aj) (lR:uL) (L1:List hP) (x4 aN aK cd x5 cy x7 dz cS x8 dO x9 fE ku:Value),r.2.1=[pv xp,.agg #[cv 2,cv i,cv k,cv 0,cv 0,cv 0],x4,pv H.length,aN,aK,cd,x5,cy,x7,dz,cS,x8,dO,x9,fE,ku]∧Fr H o r.2.2 o1 wt∧WR r.2.2 o1 xp mp lR L1∧Inv lR L1 N (M+24)) ?_ ?_ ?_
 ·exact⟨0,_,th,L,_,_,_,_,_,_,_,_,_,_,_,_,_,rfl,rfl,f1.wk (by simp),c1,h1,hI⟩
 ·rintro kk vs Hx ⟨j,o1,lR,L1,x4,aN,aK,cd,cy,x7,dz,cS,x8,dO,x9,fE,ku,BN,rfl,mr,hc,hw,Fx⟩;have K1:aq (.pointer (some ⟨H.length,1,none⟩)) Hx=some (cv i):=ak _ 1 Hx hc.1;have K2:aq (.pointer (some ⟨H.length,2,none⟩)) Hx=some (cv k):=ak _ 2 Hx hc.1;have FY:IntKind.i64.wrap ((j:Int)+1)=((j+1:Nat):Int):=by rw[kr (by omega)];omega
  have adw:Inv lR L1 N (M+24):=⟨Fx.len,Fx.lists,λa ha=>by have:=Fx.tape a ha;omega⟩
  simp -implicitDefEqProofs only[Ox,C9,K2,sS,Nat.reduceAdd];refine Ev.lss (λhq=>?_) (λhq=>?_)<;>try simp -implicitDefEqProofs only[sS,Nat.reduceAdd]
  rotate_left
  ·exact Ev.ret (.inr ⟨by simp,rfl,o1,lR,L1,_,_,_,_,_,_,_,_,_,_,_,_,_,_,rfl,mr,hw,adw⟩)
  refine Ev.lss (λpT=>?_) (λpT=>?_)<;>try simp -implicitDefEqProofs only[K1,sS,Nat.reduceAdd]
  rotate_left
  ·omega
  refine Ev.call (YN hw hi Fx hN (by omega)) ?_
  rintro v H2 ⟨o2,Mf,L2,r,s,e,rfl,⟨sa,sn,sc,es⟩,f2,h2,hI2⟩;obtain⟨H3,ou⟩: ∃z,z=H2.new ⟨rc bM,45,1,false⟩:=⟨_,rfl⟩;have n0:aO H2 45 1 [cv 0,.bool false,cv 0,cv 0,cv 0,ax]=(pv H2.length,H3):=by rw[ou];rfl
  have g3:H3.get H2.length=some ⟨rc bM,45,1,false⟩:=by rw[ou];exact ay
  have A:=tD H2.length r es H3 g3 rfl;obtain⟨H4,oV⟩: ∃z,z=H3.put H2.length ⟨[cv r.qY,.bool r.found,cv r.key,cv r.value,cv r.n,s],45,1,false⟩:=⟨_,rfl⟩;rw[←oV] at A;have f4:Fr H2 o2 H4 (o2.up H2.length (-9)) []:=by rw[oV,ou];exact((Fr.refl _ _ _).new _ _).put λhh=>by omega
  have h4:=h2.DR f4 (by simp)
  have hc4:=(hc.fr f2 (by simp)).fr f4 (by simp)
  have hf4:Fr H o H4 (o2.up H2.length (-9)) wt:=(mr.trans f2 (rs:=wt) (λ_ h=>h) (λ_ h=>h)).trans f4 (λ_ h=>h) (by simp)
  simp -implicitDefEqProofs only[n0,A,sS,Nat.reduceAdd];cases e<;>simp -implicitDefEqProofs only[FY,sS,Nat.reduceAdd]
  ·exact Ev.ret (.inl ⟨rfl,kk-1,by omega,j+1,_,Mf,L2,_,_,_,_,_,_,_,_,_,_,_,_,_,by omega,rfl,hf4,hc4,h4,hI2⟩)
  ·exact Ev.ret (.inr ⟨by simp,rfl,_,Mf,L2,_,_,_,_,_,_,_,_,_,_,_,_,_,_,rfl,hf4,h4,⟨hI2.len,hI2.lists,λa ha=>by have:=hI2.tape a ha;omega⟩⟩)
 ·rintro e vs Hx ⟨he,o1,lR,L1,x4,aN,aK,cd,x5,cy,x7,dz,cS,x8,dO,x9,fE,ku,rfl,mr,hw,Fx⟩;simp only at he;subst he;simp -implicitDefEqProofs only[Ov,C4,sS,Nat.reduceAdd];exact Ev.ret ⟨o1,lR,L1,mr,hw,Fx⟩
theorem ka (a k:Int)(hk:0<k∧k≤1000):bA (run G) 9 [cv a,cv k] H λv H'=>∃z,v=cv z∧0≤z∧z<k∧H'=H:=by
 refine Ev.up (t:=λn=>F9 (run G n) n (cv a) (cv k) H) ?_ λn=>TN ..
 have h1:=Int.tmod_lt_of_pos a hk.1;have h2: -k<a.tmod k:=by
  have h3:=Int.tmod_lt_of_pos (-a) hk.1;rw[Int.neg_tmod] at h3;omega
 simp -implicitDefEqProofs only[F9,sO _ a k (by omega),sS,Nat.reduceAdd]
 refine Ev.lss (λhq=>?_) (λhq=>?_)<;>try simp -implicitDefEqProofs only[Di,yW,sS,Nat.reduceAdd]
 ·refine Ev.ret ⟨_,rfl,?_,?_,rfl⟩
  ·rw[kr (by omega)];omega
  ·rw[kr (by omega)];omega
 ·exact Ev.ret ⟨_,rfl,by omega,by omega,rfl⟩
theorem YS (t:TypeId)(a:Int):ai Tryz.prog .quo t (cv a) (cv 3)=some (cv (IntKind.i64.wrap (a.tdiv 3))):=kd _ a 3 (by decide)
theorem Ud (t:TypeId)(a:Int):ai Tryz.prog .quo t (cv a) (cv 14)=some (cv (IntKind.i64.wrap (a.tdiv 14))):=kd _ a 14 (by decide)
theorem Ue (t:TypeId)(a:Int):ai Tryz.prog .quo t (cv a) (cv 41)=some (cv (IntKind.i64.wrap (a.tdiv 41))):=kd _ a 41 (by decide)
theorem abD (a b c:Int):aE Tryz.prog 39 [(0,cv a),(1,cv b),(2,cv c)]=some (iO ⟨a,b,c⟩):=by kernel_rfl
theorem abE (a:Int):bA (run G) 23 [cv a] H λv H'=>∃op,v=iO op∧Ext H H':=by
 refine Ev.up (t:=λn=>F23 (run G n) n (cv a) H) ?_ λn=>Xx ..
 obtain⟨H1,hU⟩: ∃z,z=H.new ⟨[cv 0,cv 0,cv 0],39,1,false⟩:=⟨_,rfl⟩;have n0:aO H 39 1 [cv 0,cv 0,cv 0]=(pv H.length,H1):=by rw[hU];rfl
 have g1:H1.get H.length=some ⟨[cv 0,cv 0,cv 0],39,1,false⟩:=by rw[hU];exact ay
 have J0: ∀(k:Int) (x8:Value),Ev (λn=>Dn (run G n) n [cv a,pv H.length,cv k,x8] H1) λr=>∃op,r.1=iO op∧Ext H r.2:=by
  intro k x8;simp -implicitDefEqProofs only[OR,Dm,Ud,Ue,sS,Nat.reduceAdd];refine Ev.call (ka _ 41 (by omega)) ?_
  rintro v H' ⟨z1,rfl,_,_,rfl⟩
  try simp -implicitDefEqProofs only[Ud,Ue,sS,Nat.reduceAdd]
  refine Ev.call (ka _ 50 (by omega)) ?_
  rintro v H' ⟨z2,rfl,_,_,rfl⟩;have A: ∀(op:kC),bS 3 (pv H.length) (iO op) H'=some (undef,H'.put H.length ⟨oQ op,39,1,false⟩):=λop=>by simp[bS,bl,g1,Value.cells,known,av,bB]
  have B: ∀(op:kC),cK 3 (pv H.length) (H'.put H.length ⟨oQ op,39,1,false⟩)=some (iO op):=λop=>Pc (t:=39) (aD g1)
  simp -implicitDefEqProofs only[abD,A,B,sS,Nat.reduceAdd];refine Ev.ret ⟨_,rfl,?_⟩;show Ext H (H'.put H.length _)
  rw[hU];exact((Ext.refl H).new _).put (Nat.le_refl _)
 simp -implicitDefEqProofs only[F23,n0,sS,Nat.reduceAdd];refine Ev.call (ka _ 14 (by omega)) ?_
 rintro v H' ⟨z,rfl,_,_,rfl⟩
 try simp -implicitDefEqProofs only[sS,Nat.reduceAdd]
 refine Ev.gtr (λhq=>?_) (λhq=>?_)<;>try simp -implicitDefEqProofs only[sS,Nat.reduceAdd]
 ·refine Ev.call (ka _ 3 (by omega)) ?_
  rintro v H' ⟨z,rfl,_,_,rfl⟩
  try simp -implicitDefEqProofs only[sS,Nat.reduceAdd]
  exact J0 _ _
 ·exact J0 _ _
end
end Go.Proofs.YtjgmnoaalbbonaaGreat.Fun
end
