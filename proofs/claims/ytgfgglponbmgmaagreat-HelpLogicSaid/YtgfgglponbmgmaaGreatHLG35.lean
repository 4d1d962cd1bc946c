/- Texts of the proof of helpLogic_holds, put together by a small program of ours (names shortened, spaces taken out). No condition beyond the given statement. -/
import Derived.Test.YtgfgglponbmgmaaGreatHLG11
import Derived.Test.YtgfgglponbmgmaaGreatHLG16
import Derived.Test.YtgfgglponbmgmaaGreatHLG15
import Derived.Test.YtgfgglponbmgmaaGreatHLG10
import Derived.Test.YtgfgglponbmgmaaGreatHLG14
import Derived.Test.YtgfgglponbmgmaaGreatHLG34
import Derived.Test.YtgfgglponbmgmaaGreatHLG13
import Derived.Test.YtgfgglponbmgmaaGreatHLG32
import Derived.Test.YtgfgglponbmgmaaGreatHLG29
set_option linter.unusedVariables false
set_option linter.unusedSimpArgs false
set_option linter.unnecessarySimpa false
noncomputable section
section
namespace Go.Proofs.YtgfgglponbmgmaaGreat.Fun
open Go Go.RowKit Go.Proofs.YtgfgglponbmgmaaGreatA.Am
set_option maxRecDepth 10000
section
open Go.Proofs.YtgfgglponbmgmaaGreatA
variable {G:ae} {H H':aa} {o o':aj} {p c mp f xp:Nat} {q:Int} {x:Value} {l:PL} {n i:Nat} {m m':Y.Mm} {T:List Int} {th:kl} {L:List ku} {N M:Nat}
theorem XP (bud:Int)(op:jY):aF Tryz.prog 41 [(1,cv bud),(10,jj op)]=some (.agg (ax 0 bud 0 0 op).toArray):=by kernel_rfl
theorem acT (t:Nat)(op:jY)(a b k key val:Int)(F:Value)(st no:Int)(bu tk:Bool){T:TypeId}(H:aa)(h:H.get t=some ⟨[cv a,.bool bu,cv k,cv key,cv val,F,cv st,.bool tk,cv no],T,1,false⟩):bD 3 (.pointer (some ⟨t,2,none⟩)) (jj op) H=some (undef,H.put t ⟨[cv a,.bool bu,cv op.kind,cv op.key,cv op.value,F,cv st,.bool tk,cv no],T,1,false⟩):=by
 simp[bD,bW,h,Value.cells,known,aD,dt]
def XQ (i:Nat)(th jz:kl):Prop:=
 jz=th∨((th i).busy=false∧∃pr proc bud op,zV pr proc 0 bud 0 0 op∧24≤proc∧jz=oU th i ⟨(th i).ti,true,false,[],pr⟩)
def XR (i:Nat)(e:Int)(th jz:kl):Prop:=(e=0∧(th i).busy=false∧∃pr proc bud op,zV pr proc 0 bud 0 0 op∧24≤proc∧jz=oU th i ⟨(th i).ti,true,false,[],pr⟩)∨(e≠0∧jz=th)
theorem Sv (h:WR H o xp mp m th L)(hi:i<3)(op:jY):aE (run G) 100 [pv (th i).ti,jj op] H λv H'=>∃o' e jz,v=cv e∧Fr H o H' o' [-200-i, -210-i, -220-i, -70, -71]∧WR H' o' xp mp m jz L∧XR i e th jz:=by
 refine Ev.up (t:=λk=>V9 (run G k) k (pv (th i).ti) (jj op) H) ?_ λk=>QZ ..
 obtain⟨H1,fV⟩: ∃z,z=H.new ⟨n5 op,39,1,false⟩:=⟨_,rfl⟩;have bx:=CH op H;rw[←fV] at bx;have f1:Fr H o H1 (o.up H.length (-9)) []:=by rw[fV];exact(Fr.refl H o []).new _ _
 have c1:Cl H.length (n5 op) 39 H1 (o.up H.length (-9)):=by rw[fV];exact Cl.made
 have h1:=h.ue f1 (by simp)
 obtain⟨c0',_,_,_,_,_,_,_,_,_,_,_,_,_,_,hm,n6,_⟩:=id h1;obtain⟨bud,k,key,val,steps,no,F,ty,g,lF,hF⟩:=n6 i hi;have L1:aq (.pointer (some ⟨(th i).ti,1,none⟩)) H1=some (.bool (th i).busy):=ao _ 1 H1 g;have L0:aq (pv (th i).ti) H1=some (cv bud):=ao _ 0 H1 g;have K0:aq (pv H.length) H1=some (cv op.kind):=ao _ 0 H1 c1.1;have KO:cZ 3 (pv H.length) H1=some (jj op):=PO c1.1;have Sw: ∀(e:Int),e≠0→Ev (λ_=>some (cv e,H1)) λr=>∃o' e jz,r.1=cv e∧Fr H o r.2 o' [-200-i, -210-i, -220-i, -70, -71]∧WR r.2 o' xp mp m jz L∧XR i e th jz:=λe he=>Ev.ret ⟨_,e,th,rfl,f1.wk (by simp),h1,.inr ⟨he,rfl⟩⟩
 simp -implicitDefEqProofs only[V9,bx,L1,sS,Nat.reduceAdd];cases hb:(th i).busy<;>simp -implicitDefEqProofs only[K0,Nat.add_zero,sS,Nat.reduceAdd]
 rotate_left
 ·exact Sw 4 (by simp)
 refine Ev.lss (λhq=>?_) (λhq=>?_)<;>try simp -implicitDefEqProofs only[K0,Nat.add_zero,sS,Nat.reduceAdd]
 ·exact Sw 5 (by simp)
 refine Ev.gtr (λhq=>?_) (λhq=>?_)<;>try simp -implicitDefEqProofs only[L0,Nat.add_zero,sS,Nat.reduceAdd]
 ·exact Sw 5 (by simp)
 refine Ev.lss (λhq=>?_) (λhq=>?_)<;>try simp -implicitDefEqProofs only[L0,Nat.add_zero,sS,Nat.reduceAdd]
 ·exact Sw 2 (by simp)
 refine Ev.gtr (λhq=>?_) (λhq=>?_)<;>try simp -implicitDefEqProofs only[sS,Nat.reduceAdd]
 ·exact Sw 2 (by simp)
 have dy:(th i).ti≠H.length:=by
  intro e;have a:=c1.2;have b:=lF;rw[e] at b;omega
 rw[hb] at g;have S1:=r9 (th i).ti 1 (.bool true) H1 g rfl (by simp) rfl rfl rfl
 simp only[List.set_cons_succ,List.set_cons_zero] at S1;obtain⟨H2,im⟩: ∃z,z=H1.put (th i).ti ⟨[cv bud,.bool true,cv k,cv key,cv val,F,cv steps,.bool (th i).gX,cv no],ty,1,false⟩:=⟨_,rfl⟩;rw[←im] at S1;have g2:H2.get (th i).ti=some ⟨[cv bud,.bool true,cv k,cv key,cv val,F,cv steps,.bool (th i).gX,cv no],ty,1,false⟩:=by rw[im];exact aG g
 have b2:H2.get H.length=some ⟨n5 op,39,1,false⟩:=by rw[im,bt (Ne.symm dy)];exact c1.1
 have KO2:cZ 3 (pv H.length) H2=some (jj op):=PO b2;have S2:=acT (th i).ti op bud 0 k key val F steps no true (th i).gX H2 g2;obtain⟨H3,mo⟩: ∃z,z=H2.put (th i).ti ⟨[cv bud,.bool true,cv op.kind,cv op.key,cv op.value,F,cv steps,.bool (th i).gX,cv no],ty,1,false⟩:=⟨_,rfl⟩;rw[←mo] at S2;have g3:H3.get (th i).ti=some ⟨[cv bud,.bool true,cv op.kind,cv op.key,cv op.value,F,cv steps,.bool (th i).gX,cv no],ty,1,false⟩:=by rw[mo];exact aG g2
 have S3:=gR (th i).ti 6 0 H3 g3 rfl (by simp)
 simp only[List.set_cons_succ,List.set_cons_zero] at S3;obtain⟨H4,pR⟩: ∃z,z=H3.put (th i).ti ⟨[cv bud,.bool true,cv op.kind,cv op.key,cv op.value,F,cv 0,.bool (th i).gX,cv no],ty,1,false⟩:=⟨_,rfl⟩;rw[←pR] at S3;have g4:H4.get (th i).ti=some ⟨[cv bud,.bool true,cv op.kind,cv op.key,cv op.value,F,cv 0,.bool (th i).gX,cv no],ty,1,false⟩:=by rw[pR];exact aG g3
 have S4:=r9 (th i).ti 7 (.bool false) H4 g4 rfl (by simp) rfl rfl rfl
 simp only[List.set_cons_succ,List.set_cons_zero] at S4;obtain⟨H5,tJ⟩: ∃z,z=H4.put (th i).ti ⟨[cv bud,.bool true,cv op.kind,cv op.key,cv op.value,F,cv 0,.bool false,cv no],ty,1,false⟩:=⟨_,rfl⟩;rw[←tJ] at S4;have g5:H5.get (th i).ti=some ⟨[cv bud,.bool true,cv op.kind,cv op.key,cv op.value,F,cv 0,.bool false,cv no],ty,1,false⟩:=by rw[tJ];exact aG g4
 have b5:H5.get H.length=some ⟨n5 op,39,1,false⟩:=by rw[tJ,bt (Ne.symm dy),pR,bt (Ne.symm dy),mo,bt (Ne.symm dy)];exact b2
 have f5:Fr H1 (o.up H.length (-9)) H5 (o.up H.length (-9)) [-200-i]:=by
  rw[tJ,pR,mo,im];exact((((Fr.refl _ _ _).put λ_=>by simp[lF]).put λ_=>by simp[lF]).put λ_=>by simp[lF]).put λ_=>by simp[lF]
 have KO5:cZ 3 (pv H.length) H5=some (jj op):=PO b5;have K5:aq (pv H.length) H5=some (cv op.kind):=ao _ 0 H5 b5;have L05:aq (pv (th i).ti) H5=some (cv bud):=ao _ 0 H5 g5;have J0: ∀(pr:Pr) (proc:Int) (x4 x6 aO bM cQ:Value),zV pr proc 0 bud 0 0 op→24≤proc→Ev (λk=>vm (run G k) k [pv (th i).ti,jj op,x4,x6,pv H.length,aO,bM,cQ,cv proc] H5) λr=>∃o' e jz,r.1=cv e∧Fr H o r.2 o' [-200-i, -210-i, -220-i, -70, -71]∧WR r.2 o' xp mp m jz L∧XR i e th jz:=by
  intro pr proc x4 x6 aO bM cQ hp h24;simp -implicitDefEqProofs only[Kf,xL,L05,KO5,XP,Nat.add_zero,sS,Nat.reduceAdd];refine Ev.call (XE (ftI i) hp H5 (o.up H.length (-9))) ?_;rintro v H6 ⟨f,o6,d6,r6,adC,rfl,f6,hf6,acU⟩;have vN:(o.up H.length (-9)) (th i).ti= -200-i:=lF;have g6:H6.get (th i).ti=some ⟨[cv bud,.bool true,cv op.kind,cv op.key,cv op.value,F,cv 0,.bool false,cv no],ty,1,false⟩:=by rw[f6.same _ (ar g5) (by rw[vN];simp<;>omega)];exact g5
  have ho6:o6 (th i).ti= -200-i:=by rw[f6.own _ (ar g5)];exact vN
  have S5:=acf (th i).ti 5 (some ⟨f,0,none⟩) H6 g6 rfl (by simp)
  simp only[List.set_cons_succ,List.set_cons_zero] at S5;obtain⟨H7,PQ⟩: ∃z,z=H6.put (th i).ti ⟨[cv bud,.bool true,cv op.kind,cv op.key,cv op.value,pv f,cv 0,.bool false,cv no],ty,1,false⟩:=⟨_,rfl⟩;rw[←PQ] at S5;have f7:Fr H6 o6 H7 o6 [-200-i]:=by rw[PQ];exact(Fr.refl _ _ _).put λ_=>by simp[ho6]
  have fB:Fr H1 (o.up H.length (-9)) H7 o6 [-200-i, -210-i, -220-i, -70, -71]:=(f5.trans f6 (rs:=[-200-i, -210-i, -220-i, -70, -71]) (by simp) (by simp)).trans f7 (by simp) (by simp)
  have ht7:TU H7 o6 i ⟨(th i).ti,true,false,[],pr⟩:=⟨bud,op.kind,op.key,op.value,0,no,pv f,ty,by rw[PQ];exact aG g6,ho6,λ_=>⟨f,_,_,_,rfl,hf6.fr f7 (by simp<;>omega) (by simp<;>omega) (by simp<;>omega),acU⟩⟩
  have hm7:=(((hm.fr f5 (by simp<;>omega) (by simp<;>omega)).fr f6 (by simp<;>omega) (by simp<;>omega)).fr f7 (by simp<;>omega) (by simp<;>omega))
  simp -implicitDefEqProofs only[S5,sS,Nat.reduceAdd];exact Ev.ret ⟨o6,0,_,rfl,f1.trans fB (by simp) (λ_ h=>h),h1.El hi fB ht7 rfl hm7,.inl ⟨rfl,hb,pr,proc,bud,op,hp,h24,rfl⟩⟩
 simp -implicitDefEqProofs only[S1,KO2,S2,S3,S4,K5,Nat.add_zero,sS,Nat.reduceAdd];refine Ev.gtr (λhq=>?_) (λhq=>?_)<;>try simp -implicitDefEqProofs only[sS,Nat.reduceAdd]
 ·exact J0 .rd 25 _ _ _ _ _ ⟨rfl,rfl,rfl,rfl⟩ (by omega)
 ·exact J0 (.ex (Sh op)) 24 _ _ _ _ _ (.inl ⟨rfl,⟨by omega,by omega⟩,rfl⟩) (by omega)
theorem WR.no (h:WR H o xp mp m th L)(hi:i<3)(z:Int): ∃H1,bD 1 (.pointer (some ⟨(th i).ti,8,none⟩)) (cv z) H=some (undef,H1)∧WR H1 o xp mp m th L∧Fr H o H1 o [-200-i]:=by
 obtain⟨c0,c1,c2,inv,dW,tb,cap,Lx,rest,ty,nE,g,ho,gt,lF,hm,n6,hL⟩:=id h;obtain⟨bud,k,key,val,steps,no,F,ty,g,lF,hF⟩:=n6 i hi;have S:=gR (th i).ti 8 z H g rfl (by simp)
 simp only[List.set_cons_succ,List.set_cons_zero] at S;have f:Fr H o (H.put (th i).ti ⟨[cv bud,.bool (th i).busy,cv k,cv key,cv val,F,cv steps,.bool (th i).gX,cv z],ty,1,false⟩) o [-200-i]:=(Fr.refl _ _ _).put λ_=>by simp[lF]
 have hw:=h.El hi (s':=th i) (f.wk (by simp)) ⟨bud,k,key,val,steps,z,F,ty,aG g,lF,λhb=>by
  obtain⟨f',d,r,rec,e,hf,eA⟩:=hF hb;exact⟨f',d,r,rec,e,hf.fr f (by simp<;>omega) (by simp<;>omega) (by simp<;>omega),eA⟩⟩ rfl (hm.fr f (by simp<;>omega) (by simp<;>omega))
 have e:Fun.oU th i (th i)=th:=by
  funext j
  unfold Fun.oU;split
  ·rename_i e;rw[e]
  ·rfl
 rw[e] at hw;exact⟨_,S,hw,f⟩
theorem Pa (h:WR H o xp mp m th L)(hi:i<3)(hI:Inv th L N M)(hN:N<4000000)(op:jY):aE (run G) 72 [pv xp,cv i,jj op] H λv H'=>∃o' jz L',Fr H o H' o' wt∧WR H' o' xp mp m jz L'∧Inv jz L' (N+3) M∧XQ i th jz:=by
 refine Ev.up (t:=λk=>F72 (run G k) k (pv xp) (cv i) (jj op) H) ?_ λk=>WL ..
 obtain⟨H1,fV⟩: ∃z,z=H.new ⟨n5 op,39,1,false⟩:=⟨_,rfl⟩;have bx:=CH op H;rw[←fV] at bx;have f1:Fr H o H1 (o.up H.length (-9)) []:=by rw[fV];exact(Fr.refl H o []).new _ _
 have c1:Cl H.length (n5 op) 39 H1 (o.up H.length (-9)):=by rw[fV];exact Cl.made
 have h1:=h.ue f1 (by simp)
 obtain⟨tb,cap,inv,dW,e3,e4,e6,e7,eT,_⟩:=h1.oa;obtain⟨XK,XL⟩:=eT i hi;have KO:cZ 3 (pv H.length) H1=some (jj op):=PO c1.1;have hI3:Inv th L (N+3) M:=⟨by have:=hI.len;omega,hI.lists,hI.tape⟩
 simp -implicitDefEqProofs only[F72,bx,sS,Nat.reduceAdd];refine Ev.lss (λhq=>?_) (λhq=>?_)<;>try simp -implicitDefEqProofs only[e4,cG,sS,Nat.reduceAdd]
 ·omega
 refine Ev.geq (λhq=>?_) (λhq=>?_)<;>try simp -implicitDefEqProofs only[e4,XK,XL,KO,sS,Nat.reduceAdd]
 ·omega
 refine Ev.call (Sv h1 hi op) ?_;rintro v H2 ⟨o2,e,Mb,rfl,f2,h2,he⟩;have f2w:Fr H o H2 o2 wt:=f1.trans f2 (by simp) (ID hi)
 try simp -implicitDefEqProofs only[sS,Nat.reduceAdd]
 rcases he with⟨rfl,hbz,pr,proc,bud,op',hpr,h24,rfl⟩|⟨he,rfl⟩
 rotate_left
 ·refine Ev.neq (λhq=>?_) (λhq=>?_)<;>try simp -implicitDefEqProofs only[sS,Nat.reduceAdd]
  ·exact Ev.ret ⟨o2,_,L,f2w,h2,hI3,.inl rfl⟩
  ·exact absurd hq he
 refine Ev.neq (λhq=>?_) (λhq=>?_)<;>try simp -implicitDefEqProofs only[sS,Nat.reduceAdd]
 ·exact absurd rfl hq
 obtain⟨Mb,eth⟩: ∃z,z=oU th i ⟨(th i).ti,true,false,[],pr⟩:=⟨_,rfl⟩;rw[←eth] at h2;have eti:(Mb i).ti=(th i).ti:=by rw[eth];simp[oU]
 have c2:Cl H.length (n5 op) 39 H2 o2:=c1.fr f2 (by simp<;>omega)
 obtain⟨TZ,Bl,inv2,XO,j3,j4,j6,j7,jT,_⟩:=h2.oa;obtain⟨jT1,jT2⟩:=jT i hi;obtain⟨H3,S8,h3,f3⟩:=h2.no hi inv2;obtain⟨tb3,adD,acV,acW,k3,k4,k6,k7,kT,_⟩:=h3.oa;obtain⟨H4,S6,h4,f4⟩:=h3.acO (IntKind.i64.wrap (acV+1));obtain⟨tb4,adE,adF,Gh,i3,i4,i6,i7,iT,_⟩:=h4.oa;obtain⟨iT1,iT2⟩:=iT i hi;obtain⟨Sw,d1,d7,d8⟩:=h4.XJ hi;have c4:Cl H.length (n5 op) 39 H4 o2:=(c2.fr f3 (by simp<;>omega)).fr f4 (by simp)
 have KO4:cZ 3 (pv H.length) H4=some (jj op):=PO c4.1;have hl:=hI.len;obtain⟨Lx,q1,q2,q3,x',H5,H6,o6,q4,q5,h6,f6⟩:=h4.app ⟨1,i,Sw,op,bQ,Gh⟩ (s:=aA) .nil (by omega)
 simp -implicitDefEqProofs only[j4,jT1,jT2,j6,S8,k6,S6,q1,i4,iT1,iT2,d8,KO4,i7,aaF,Ss _ rfl,q2,q4,q5,q3,sS,Nat.reduceAdd];refine Ev.ret ⟨o6,Mb,L++[⟨1,i,Sw,op,bQ,Gh⟩],((f2w.trans f3 (rs:=wt) (λ_ h=>h) (IE hi)).trans f4 (rs:=wt) (λ_ h=>h) (by simp)).trans f6 (λ_ h=>h) (by simp),h6,⟨?_,?_,?_⟩,.inr ⟨hbz,pr,proc,bud,op',hpr,h24,eth⟩⟩
 ·have hp:=XI (th:=th) (s:=⟨(th i).ti,true,false,[],pr⟩) (d:=2) hi (by simp[um])
  rw[←eth] at hp;simp only[List.length_append,List.length_singleton];omega
 ·intro e he;rcases List.mem_append.1 he with he|he
  ·exact hI.lists e he
  ·have:e=⟨1,i,Sw,op,bQ,Gh⟩:=by simpa using he
   subst this;simp[bQ]
 ·intro j hj;rw[eth];unfold oU;split
  ·simp
  ·exact hI.tape j hj
theorem aaN (t n:Int):aF Tryz.prog 145 [(0,cv 2),(1,cv t),(2,cv n)]=some (.agg #[cv 2,cv t,cv n,cv 0,cv 0,cv 0]):=by kernel_rfl
theorem XS (t n:Int)(H:aa):dH 145 (.agg #[cv 2,cv t,cv n,cv 0,cv 0,cv 0]) H=some (pv H.length,H.new ⟨[cv 2,cv t,cv n,cv 0,cv 0,cv 0],145,1,false⟩):=by
 simp[dH,Value.cells,aD,aS]
structure T0 (P:kl→Y.Mm→Prop):Prop where
 pick: ∀{th:kl} {m:Y.Mm} {i:Nat} {jz:kl} {m':Y.Mm},P th m→i<3→(∀j,j<3→(th j).T.length<1048000)→A8 i th m jz m'→P jz m'
 inv: ∀{th:kl} {m:Y.Mm} {i:Nat} {jz:kl},P th m→i<3→XQ i th jz→P jz m
theorem aaO {P:kl→Y.Mm→Prop}(kP:T0 P)(hP:P th m)(h:WR H o xp mp m th L)(hi:i<3)(hI:Inv th L N M)(hN:N<4000000)(hM:M+24<1048000){k:Int}(hk:1≤k∧k≤24):aE (run G) 88 [pv xp,.agg #[cv 2,cv i,cv k,cv 0,cv 0,cv 0]] H λv H'=>∃o' jz L' m',Fr H o H' o' wt∧WR H' o' xp mp m' jz L'∧Inv jz L' N (M+24)∧P jz m':=by
 refine Ev.up (t:=λk'=>F88 (run G k') k' (pv xp) (.agg #[cv 2,cv i,cv k,cv 0,cv 0,cv 0]) H) ?_ λk'=>VE ..
 obtain⟨H1,fV⟩: ∃z,z=H.new ⟨[cv 2,cv i,cv k,cv 0,cv 0,cv 0],145,1,false⟩:=⟨_,rfl⟩;have bx:=XS i k H;rw[←fV] at bx;have f1:Fr H o H1 (o.up H.length (-9)) []:=by rw[fV];exact(Fr.refl H o []).new _ _
 have c1:Cl H.length [cv 2,cv i,cv k,cv 0,cv 0,cv 0] 145 H1 (o.up H.length (-9)):=by rw[fV];exact Cl.made
 have h1:=h.ue f1 (by simp)
 have K0:aq (pv H.length) H1=some (cv 2):=ao _ 0 H1 c1.1;simp -implicitDefEqProofs only[F88,bx,K0,Nat.add_zero,sS,Nat.reduceAdd];refine Ev.eql (λhq=>?_) (λhq=>?_)<;>try simp -implicitDefEqProofs only[sS,Nat.reduceAdd]
 ·omega
 refine Ev.eql (λhq=>?_) (λhq=>?_)<;>try simp -implicitDefEqProofs only[sS,Nat.reduceAdd]
 rotate_left
 ·omega
 refine Ev.loop (k:=24) (λkk vs Hx=>∃(j:Nat) (o1:aj) (kA:kl) (L1:List ku) (m1:Y.Mm) (x4 aO aN bM bS x7 cU cw x8 cx x9 dU jN:Value),j+kk=24∧vs=[pv xp,.agg #[cv 2,cv i,cv k,cv 0,cv 0,cv 0],x4,pv H.length,aO,aN,bM,cv j,bS,x7,cU,cw,x8,cx,x9,dU,jN]∧Fr H o Hx o1 wt∧Cl H.length [cv 2,cv i,cv k,cv 0,cv 0,cv 0] 145 Hx o1∧WR Hx o1 xp mp m1 kA L1∧Inv kA L1 N (M+j)∧P kA m1)
  (λr=>r.1= .exit 1∧∃(o1:aj) (kA:kl) (L1:List ku) (m1:Y.Mm) (x4 aO aN bM x5 bS x7 cU cw x8 cx x9 dU jN:Value),r.2.1=[pv xp,.agg #[cv 2,cv i,cv k,cv 0,cv 0,cv 0],x4,pv H.length,aO,aN,bM,x5,bS,x7,cU,cw,x8,cx,x9,dU,jN]∧Fr H o r.2.2 o1 wt∧WR r.2.2 o1 xp mp m1 kA L1∧Inv kA L1 N (M+24)∧P kA m1) ?_ ?_ ?_
 ·exact⟨0,_,th,L,m,_,_,_,_,_,_,_,_,_,_,_,_,_,rfl,rfl,f1.wk (by simp),c1,h1,hI,hP⟩
 ·rintro kk vs Hx ⟨j,o1,kA,L1,m1,x4,aO,aN,bM,bS,x7,cU,cw,x8,cx,x9,dU,jN,z9,rfl,kO,hc,hw,A7,hP1⟩;have K1:aq (.pointer (some ⟨H.length,1,none⟩)) Hx=some (cv i):=ao _ 1 Hx hc.1;have K2:aq (.pointer (some ⟨H.length,2,none⟩)) Hx=some (cv k):=ao _ 2 Hx hc.1;have Br:IntKind.i64.wrap ((j:Int)+1)=((j+1:Nat):Int):=by rw[fL (by omega)];omega
  have acX:Inv kA L1 N (M+24):=⟨A7.len,A7.lists,λa ha=>by have:=A7.tape a ha;omega⟩
  simp -implicitDefEqProofs only[Ni,BY,K2,sS,Nat.reduceAdd];refine Ev.lss (λhq=>?_) (λhq=>?_)<;>try simp -implicitDefEqProofs only[sS,Nat.reduceAdd]
  rotate_left
  ·exact Ev.ret (.inr ⟨by simp,rfl,o1,kA,L1,m1,_,_,_,_,_,_,_,_,_,_,_,_,_,_,rfl,kO,hw,acX,hP1⟩)
  refine Ev.lss (λkt=>?_) (λkt=>?_)<;>try simp -implicitDefEqProofs only[K1,sS,Nat.reduceAdd]
  rotate_left
  ·omega
  refine Ev.call (XM hw hi A7 hN (by omega)) ?_
  rintro v H2 ⟨o2,Mb,L2,m2,r,s,e,rfl,⟨sa,sn,sc,es⟩,f2,h2,hI2,YB⟩;have hP2:=kP.pick hP1 hi (λa ha=>by have:=A7.tape a ha;omega) YB
  obtain⟨H3,mo⟩: ∃z,z=H2.new ⟨rc bQ,47,1,false⟩:=⟨_,rfl⟩;have n0:aS H2 47 1 [cv 0,.bool false,cv 0,cv 0,cv 0,aA]=(pv H2.length,H3):=by rw[mo];rfl
  have g3:H3.get H2.length=some ⟨rc bQ,47,1,false⟩:=by rw[mo];exact aL
  have A:=tD H2.length r es H3 g3 rfl;obtain⟨H4,pR⟩: ∃z,z=H3.put H2.length ⟨[cv r.D5,.bool r.found,cv r.key,cv r.value,cv r.n,s],47,1,false⟩:=⟨_,rfl⟩;rw[←pR] at A;have f4:Fr H2 o2 H4 (o2.up H2.length (-9)) []:=by rw[pR,mo];exact((Fr.refl _ _ _).new _ _).put λhh=>by omega
  have h4:=h2.ue f4 (by simp)
  have hc4:=(hc.fr f2 (by simp)).fr f4 (by simp)
  have TV:Fr H o H4 (o2.up H2.length (-9)) wt:=(kO.trans f2 (rs:=wt) (λ_ h=>h) (λ_ h=>h)).trans f4 (λ_ h=>h) (by simp)
  simp -implicitDefEqProofs only[n0,A,sS,Nat.reduceAdd];cases e<;>simp -implicitDefEqProofs only[Br,sS,Nat.reduceAdd]
  ·exact Ev.ret (.inl ⟨rfl,kk-1,by omega,j+1,_,Mb,L2,m2,_,_,_,_,_,_,_,_,_,_,_,_,_,by omega,rfl,TV,hc4,h4,hI2,hP2⟩)
  ·exact Ev.ret (.inr ⟨by simp,rfl,_,Mb,L2,m2,_,_,_,_,_,_,_,_,_,_,_,_,_,_,rfl,TV,h4,⟨hI2.len,hI2.lists,λa ha=>by have:=hI2.tape a ha;omega⟩,hP2⟩)
 ·rintro e vs Hx ⟨he,o1,kA,L1,m1,x4,aO,aN,bM,x5,bS,x7,cU,cw,x8,cx,x9,dU,jN,rfl,kO,hw,A7,hP1⟩;simp only at he;subst he;simp -implicitDefEqProofs only[Ng,BW,sS,Nat.reduceAdd];exact Ev.ret ⟨o1,kA,L1,m1,kO,hw,A7,hP1⟩
theorem mi (a k:Int)(hk:0<k∧k≤1000000):aE (run G) 18 [cv a,cv k] H λv H'=>∃z,v=cv z∧0≤z∧z<k∧H'=H:=by
 refine Ev.up (t:=λn=>F18 (run G n) n (cv a) (cv k) H) ?_ λn=>Wu ..
 have h1:=Int.tmod_lt_of_pos a hk.1;have h2: -k<a.tmod k:=by
  have h3:=Int.tmod_lt_of_pos (-a) hk.1;rw[Int.neg_tmod] at h3;omega
 simp -implicitDefEqProofs only[F18,vD _ a k (by omega),sS,Nat.reduceAdd]
 refine Ev.lss (λhq=>?_) (λhq=>?_)<;>try simp -implicitDefEqProofs only[NR,Ci,sS,Nat.reduceAdd]
 ·refine Ev.ret ⟨_,rfl,?_,?_,rfl⟩
  ·rw[fL (by omega)];omega
  ·rw[fL (by omega)];omega
 ·exact Ev.ret ⟨_,rfl,by omega,by omega,rfl⟩
theorem XT (t:TypeId)(a:Int):ai Tryz.prog .quo t (cv a) (cv 3)=some (cv (IntKind.i64.wrap (a.tdiv 3))):=nj _ a 3 (by decide)
theorem T3 (t:TypeId)(a:Int):ai Tryz.prog .quo t (cv a) (cv 14)=some (cv (IntKind.i64.wrap (a.tdiv 14))):=nj _ a 14 (by decide)
theorem T4 (t:TypeId)(a:Int):ai Tryz.prog .quo t (cv a) (cv 41)=some (cv (IntKind.i64.wrap (a.tdiv 41))):=nj _ a 41 (by decide)
theorem aaP (a b c:Int):aF Tryz.prog 39 [(0,cv a),(1,cv b),(2,cv c)]=some (jj ⟨a,b,c⟩):=by kernel_rfl
theorem aaQ (a:Int):aE (run G) 73 [cv a] H λv H'=>∃op,v=jj op∧Ext H H':=by
 refine Ev.up (t:=λn=>F73 (run G n) n (cv a) H) ?_ λn=>Va ..
 obtain⟨H1,fV⟩: ∃z,z=H.new ⟨[cv 0,cv 0,cv 0],39,1,false⟩:=⟨_,rfl⟩;have n0:aS H 39 1 [cv 0,cv 0,cv 0]=(pv H.length,H1):=by rw[fV];rfl
 have g1:H1.get H.length=some ⟨[cv 0,cv 0,cv 0],39,1,false⟩:=by rw[fV];exact aL
 have J0: ∀(k:Int) (x8:Value),Ev (λn=>BR (run G n) n [cv a,pv H.length,cv k,x8] H1) λr=>∃op,r.1=jj op∧Ext H r.2:=by
  intro k x8;simp -implicitDefEqProofs only[MZ,BQ,T3,T4,sS,Nat.reduceAdd];refine Ev.call (mi _ 41 (by omega)) ?_
  rintro v H' ⟨z1,rfl,_,_,rfl⟩
  try simp -implicitDefEqProofs only[T3,T4,sS,Nat.reduceAdd]
  refine Ev.call (mi _ 50 (by omega)) ?_
  rintro v H' ⟨z2,rfl,_,_,rfl⟩;have A: ∀(op:jY),bD 3 (pv H.length) (jj op) H'=some (undef,H'.put H.length ⟨n5 op,39,1,false⟩):=λop=>by simp[bD,bW,g1,Value.cells,known,aD,dt]
  have B: ∀(op:jY),cZ 3 (pv H.length) (H'.put H.length ⟨n5 op,39,1,false⟩)=some (jj op):=λop=>PO (t:=39) (aG g1)
  simp -implicitDefEqProofs only[aaP,A,B,sS,Nat.reduceAdd];refine Ev.ret ⟨_,rfl,?_⟩;show Ext H (H'.put H.length _)
  rw[fV];exact((Ext.refl H).new _).put (Nat.le_refl _)
 simp -implicitDefEqProofs only[F73,n0,sS,Nat.reduceAdd];refine Ev.call (mi _ 14 (by omega)) ?_
 rintro v H' ⟨z,rfl,_,_,rfl⟩
 try simp -implicitDefEqProofs only[sS,Nat.reduceAdd]
 refine Ev.gtr (λhq=>?_) (λhq=>?_)<;>try simp -implicitDefEqProofs only[sS,Nat.reduceAdd]
 ·refine Ev.call (mi _ 3 (by omega)) ?_
  rintro v H' ⟨z,rfl,_,_,rfl⟩
  try simp -implicitDefEqProofs only[sS,Nat.reduceAdd]
  exact J0 _ _
 ·exact J0 _ _
end
section
open Go.Proofs.YtgfgglponbmgmaaGreatA
variable {G:ae} {H H':aa} {o o':aj} {p c mp f xp n i mx:Nat} {K:aa→aj→Prop} {q:Int} {x:Value} {l:PL} {m m':Y.Mm} {T:List Int} {th:kl} {L:List ku} {N M:Nat}
abbrev m7:List Int:=[1,0,0,0,0,57,0]
abbrev C3 (mx:Nat):Y.Mm:=⟨m7,mx⟩
theorem k57:Y.kd 57=1:=by decide
theorem a57:Y.aw 57=7:=by decide
theorem o57:Y.fI 1 7=57:=by decide
theorem aaR:(C3 mx).at 6=57:=by simp[Y.Mm.at,Y.Mm.used]
theorem aaS:Y.lf (C3 mx) 6=57:=by unfold Y.lf;rw[aaR,if_pos (by decide)]
theorem JM.look (h:JM K mp m H):qj H mp m:=by
 obtain⟨_,o,hm,_⟩:=h;exact hm.look
theorem JM.ext (h:JM K mp m H)(e:Ext H H'):JM K mp m H':=by
 obtain⟨hK,o,hm,hk⟩:=h;have f:Fr H o H' (o.from H.length (-9)) []:=e.fr o (-9)
 exact⟨hK,_,hm.fr f (by simp) (by simp),hK _ _ _ _ hk (f.wk (by simp))⟩
theorem JM.lt (h:JM K mp m H):mp<H.length:=by
 obtain⟨_,o,⟨_,_,_,_,_,g,_⟩,_⟩:=h;exact ar g
def Bs (H:aa)(q n:Nat):Prop:=∃cells ty,H.get q=some ⟨cells,ty,1,false⟩∧cells.length=n∧∀j,j<n→∃b,cells[j]? =some (.bool b)
theorem Bs.idx {q:Nat}(h:Bs H q n){j:Nat}(hj:j<n):(∀H',cK 1 (.slice (some ⟨q,0,none⟩) n n) (cv j) H'=some (.pointer (some ⟨q,j,none⟩),H'))∧(∃b,aq (.pointer (some ⟨q,j,none⟩)) H=some (.bool b))∧∀b:Bool,∃H',bD 1 (.pointer (some ⟨q,j,none⟩)) (.bool b) H=some (undef,H')∧Bs H' q n∧(∀k,k≠q→H'[k]? =H[k]?)∧H'.length=H.length:=by
 obtain⟨cells,ty,g,hl,hc⟩:=h;refine⟨λH'=>?_,?_,λb=>⟨_,r9 q j (.bool b) H g rfl (by simp;omega) rfl rfl rfl,⟨cells.set j (.bool b),ty,aG g,by simpa using hl,λk hk=>?_⟩,λk hk=>fi hk,iC _ _ _⟩⟩
 ·simp only[cK];rw[if_pos (by constructor<;>omega)];simp
 ·obtain⟨b,e⟩:=hc j hj;exact⟨b,(ao q j H g).trans e⟩
 ·by_cases e:j=k
  ·subst e;exact⟨b,by rw[List.getElem?_set_self (by omega)]⟩
  ·rw[List.getElem?_set_ne e];exact hc k hk
theorem Pb (h:JM K mp (C3 mx) H){q:Nat}(hb:Bs H q 8):aE (run G) 170 [pv mp,cv 7,cv 1,.slice (some ⟨q,0,none⟩) 8 8] H λv H'=>(∃b,v= .bool b)∧(∀k,k≠q→H'[k]? =H[k]?)∧H'.length=H.length:=by
 refine Ev.up (t:=λk=>U5 (run G k) k (pv mp) (cv 7) (cv 1) (.slice (some ⟨q,0,none⟩) 8 8) H) ?_ λk=>Qt ..
 obtain⟨cm,jy,ref,s,ty,g,hl,hj⟩:=h.num;have L1:aq (.pointer (some ⟨mp,1,none⟩)) H=some s:=ao mp 1 H g;have hl7:cG s=some (cv 7):=hl;have w1:IntKind.i64.wrap (7+1)=8:=by decide
 have w2:IntKind.i64.wrap (8-1)=7:=by decide
 obtain⟨b1,⟨bb,b2⟩,b3⟩:=hb.idx (j:=7) (by omega)
 obtain⟨H2,s2,hb2,hx2,hn2⟩:=b3 true;have b1': ∀H',cK 1 (.slice (some ⟨q,0,none⟩) 8 8) (cv 7) H'=some (.pointer (some ⟨q,7,none⟩),H'):=b1;simp -implicitDefEqProofs only[U5,sS,Nat.reduceAdd];refine Ev.lss (λhq=>?_) (λhq=>?_)<;>try simp -implicitDefEqProofs only[L1,hl7,w1,w2,sS,Nat.reduceAdd]
 ·omega
 refine Ev.gtr (λhq=>?_) (λhq=>?_)<;>try simp -implicitDefEqProofs only[sS,Nat.reduceAdd]
 ·omega
 refine Ev.loop (k:=1) (λkk vs Hx=>∃(a:Int) (bF bS bP:Value),vs=[pv mp,cv 7,cv 1,.slice (some ⟨q,0,none⟩) 8 8,.bool false,bF,cv a,bS,bP]∧(∀k,k≠q→Hx[k]? =H[k]?)∧Hx.length=H.length∧Bs Hx q 8∧a+kk=8∧0≤a)
  (λr=>(∀k,k≠q→r.2.2[k]? =H[k]?)∧r.2.2.length=H.length∧∃(x8 bF x9 bS bP:Value),r.2.1=[pv mp,cv 7,cv 1,.slice (some ⟨q,0,none⟩) 8 8,x8,bF,x9,bS,bP]∧(r.1= .exit 0∨(r.1= .ret∧∃b,x8= .bool b))) ⟨7,_,_,_,rfl,λk hk=>rfl,rfl,hb,by omega,by omega⟩ ?_ ?_
 ·rintro kk vs Hx ⟨a,bF,bS,bP,rfl,hx,hn,hbx,ha,ha0⟩;simp -implicitDefEqProofs only[Jv,wX,w1,sS,Nat.reduceAdd];refine Ev.lss (λhq=>?_) (λhq=>?_)<;>try simp -implicitDefEqProofs only[sS,Nat.reduceAdd]
  ·obtain⟨j,rfl⟩: ∃j:Nat,a=j:=⟨a.toNat,by omega⟩
   obtain⟨c1,⟨cb,c2⟩,c3⟩:=hbx.idx (j:=j) (by omega)
   obtain⟨H3,s3,YY,Ym,Sl⟩:=c3 true;have hw:IntKind.i64.wrap ((j:Int)+1)=(j:Int)+1:=fL (by omega)
   simp -implicitDefEqProofs only[c1,c2,sS,Nat.reduceAdd];cases cb<;>simp -implicitDefEqProofs only[c1,s3,hw,sS,Nat.reduceAdd]
   ·exact Ev.ret (.inl ⟨rfl,kk-1,by omega,(j:Int)+1,_,_,_,rfl,λk hk=>by show H3[k]? =_;rw[Ym k hk,hx k hk],Sl.trans hn,YY,by omega,by omega⟩)
   ·exact Ev.ret (.inr ⟨by simp,hx,hn,_,_,_,_,_,rfl,.inr ⟨rfl,_,rfl⟩⟩)
  ·exact Ev.ret (.inr ⟨by simp,hx,hn,_,_,_,_,_,rfl,.inl rfl⟩)
 ·rintro e vs Hx ⟨hx,hn,x8,bF,x9,bS,bP,rfl,he⟩;rcases he with he|⟨he,b,rfl⟩
  ·simp only at he;subst he;simp -implicitDefEqProofs only[Jw,wY,sS,Nat.reduceAdd];exact Ev.ret ⟨⟨_,rfl⟩,hx,hn⟩
  ·simp only at he;subst he;show Ev (λ_=>some (Value.bool b,Hx)) _
   exact Ev.ret ⟨⟨_,rfl⟩,hx,hn⟩
theorem Ext.at {q:Nat}{H0:aa}(hq:q=H0.length){Hx:aa}{b:eM}(h1: ∀k,k≠q→Hx[k]? =(H0.new b)[k]?)(h2:Hx.length=(H0.new b).length):Ext H0 Hx:=
 ⟨λj hj=>by rw[h1 j (by omega),mE hj],by rw[h2,cA];omega⟩
theorem Pc (h:JM K mp (C3 mx) H):aE (run G) 133 [pv mp] H λv H'=>(∃b,v= .bool b)∧Ext H H':=by
 refine Ev.up (t:=λk=>VK (run G k) k (pv mp) H) ?_ λk=>QK ..
 obtain⟨hK,o,⟨cm,jy,ref,s,ty,g,ho,hs,Ma⟩,hk⟩:=id h;have hs:oJ H o (-71) s m7:=hs;have L1:aq (.pointer (some ⟨mp,1,none⟩)) H=some s:=ao mp 1 H g;have hl7:cG s=some (cv 7):=hs.ints.1.len;obtain⟨q0,XU,b0,a1,a2,a3⟩:=hs.ints.1.idx (j:=0) (by decide)
 obtain⟨q2,nN,b2,c1,c2,c3⟩:=hs.ints.1.idx (j:=2) (by decide)
 have A:aq (.pointer (some ⟨q0,XU,none⟩)) H=some (cv 1):=(ao q0 XU H a2).trans a3;have C:aq (.pointer (some ⟨q2,nN,none⟩)) H=some (cv 0):=(ao q2 nN H c2).trans c3;have a1': ∀H',cK 1 s (cv 0) H'=some (.pointer (some ⟨q0,XU,none⟩),H'):=a1;have TD: ∀H',cK 1 s (cv 2) H'=some (.pointer (some ⟨q2,nN,none⟩),H'):=c1;have w8:IntKind.i64.wrap (7+1)=8:=by decide
 have hmk:UM 4 1 1 [.bool false] (cv 8) (cv 8) H=some (.slice (some ⟨H.length,0,none⟩) 8 8,H.new ⟨bK [.bool false] 8,4,1,false⟩):=rfl;have hB:Bs (H.new ⟨bK [.bool false] 8,4,1,false⟩) H.length 8:=⟨bK [.bool false] 8,_,aL,rfl,λj hj=>⟨false,by
  have:bK [Value.bool false] 8=List.replicate 8 (.bool false):=rfl;rw[this,List.getElem?_replicate,if_pos hj]⟩⟩
 simp -implicitDefEqProofs only[VK,L1,hl7,sS,Nat.reduceAdd];refine Ev.lss (λhq=>?_) (λhq=>?_)<;>try simp -implicitDefEqProofs only[L1,a1',A,sS,Nat.reduceAdd]
 ·omega
 refine Ev.neq (λhq=>?_) (λhq=>?_)<;>try simp -implicitDefEqProofs only[L1,TD,C,sS,Nat.reduceAdd]
 ·exact Ev.ret ⟨⟨_,rfl⟩,.refl _⟩
 refine Ev.neq (λhq=>?_) (λhq=>?_)<;>try simp -implicitDefEqProofs only[L1,hl7,w8,hmk,sS,Nat.reduceAdd]
 ·exact Ev.ret ⟨⟨_,rfl⟩,.refl _⟩
 refine Ev.loop (k:=6) (λkk vs Hx=>∃(j:Nat) (x2 cN dD:Value),vs=[pv mp,x2,cN,cv j,dD,.slice (some ⟨H.length,0,none⟩) 8 8]∧(∀k,k≠H.length→Hx[k]? =(H.new ⟨bK [.bool false] 8,4,1,false⟩)[k]?)∧Hx.length=(H.new ⟨bK [.bool false] 8,4,1,false⟩).length∧Bs Hx H.length 8∧j+kk=7)
  (λr=>r.1= .exit 0∧∃(x2 cN x4 dD:Value),r.2.1=[pv mp,x2,cN,x4,dD,.slice (some ⟨H.length,0,none⟩) 8 8]∧(∀k,k≠H.length→r.2.2[k]? =(H.new ⟨bK [.bool false] 8,4,1,false⟩)[k]?)∧r.2.2.length=(H.new ⟨bK [.bool false] 8,4,1,false⟩).length∧Bs r.2.2 H.length 8) ⟨1,_,_,_,rfl,λk hk=>rfl,rfl,hB,rfl⟩ ?_ ?_
 ·rintro kk vs Hx ⟨j,x2,cN,dD,rfl,hx,hn,hb,hj⟩;have hw:IntKind.i64.wrap ((j:Int)+1)=((j+1:Nat):Int):=by rw[fL (by omega)];omega
  simp -implicitDefEqProofs only[JL,xg,sS,Nat.reduceAdd];refine Ev.leq (λhq=>?_) (λhq=>?_)<;>try simp -implicitDefEqProofs only[sS,Nat.reduceAdd]
  ·obtain⟨d1,_,d3⟩:=hb.idx (j:=j) (by omega)
   obtain⟨H3,s3,YY,Ym,Sl⟩:=d3 true;simp -implicitDefEqProofs only[d1,s3,hw,sS,Nat.reduceAdd];exact Ev.ret (.inl ⟨rfl,kk-1,by omega,j+1,_,_,_,rfl,λk hk=>by show H3[k]? =_;rw[Ym k hk,hx k hk],Sl.trans hn,YY,by omega⟩)
  ·exact Ev.ret (.inr ⟨by simp,rfl,_,_,_,_,rfl,hx,hn,hb⟩)
 ·rintro e vs Hx ⟨he,x2,cN,x4,dD,rfl,hx,hn,hb⟩;simp only at he hx hn hb;subst he;have ex:Ext H Hx:=Ext.at rfl hx hn;have Sf:=h.ext ex;simp -implicitDefEqProofs only[JN,xh,sS,Nat.reduceAdd];refine Ev.call (Q1:=λv H'=>(∃b,v= .bool b)∧Ext H H') ?_ ?_
  ·refine Ev.up (t:=λk=>QN (run G k) k (pv mp) (cv 6) (cv (-9223372036854775808)) (cv 9223372036854775807) (.slice (some ⟨H.length,0,none⟩) 8 8) Hx) ?_ λk=>QO ..
   simp -implicitDefEqProofs only[QN,sS,Nat.reduceAdd];refine Ev.is (CN Sf.look Sf.zU 6) ?_;rw[aaR];refine Ev.is (gV 57) ?_;rw[k57]
   try simp -implicitDefEqProofs only[sS,Nat.reduceAdd]
   refine Ev.eql (λhq=>?_) (λhq=>?_)<;>try simp -implicitDefEqProofs only[QN,JR,xk,sS,Nat.reduceAdd]
   ·omega
   refine Ev.is (vJ Sf.look Sf.zU 6) ?_;rw[aaS];refine Ev.call (Q1:=λv H'=>(∃b,v= .bool b)∧Ext H H') ?_ ?_
   ·refine Ev.up (t:=λk=>Vs (run G k) k (pv mp) (cv 57) (cv (-9223372036854775808)) (cv 9223372036854775807) (.slice (some ⟨H.length,0,none⟩) 8 8) Hx) ?_ λk=>QB ..
    simp -implicitDefEqProofs only[Vs,sS,Nat.reduceAdd];refine Ev.is (nX 57) ?_;rw[a57];refine Ev.is (gV 57) ?_;rw[k57]
    try simp -implicitDefEqProofs only[sS,Nat.reduceAdd]
    refine Ev.eql (λhq=>?_) (λhq=>?_)<;>try simp -implicitDefEqProofs only[sS,Nat.reduceAdd]
    rotate_left
    ·omega
    refine Ev.call (Pb Sf hb) ?_;rintro v H3 ⟨⟨b,rfl⟩,Ym,Sl⟩
    try simp -implicitDefEqProofs only[sS,Nat.reduceAdd]
    exact Ev.ret ⟨⟨_,rfl⟩,Ext.at rfl (λk hk=>by show H3[k]? =_;rw[Ym k hk];exact hx k hk) (Sl.trans hn)⟩
   rintro v H2 ⟨⟨b,rfl⟩,ex2⟩
   try simp -implicitDefEqProofs only[sS,Nat.reduceAdd]
   exact Ev.ret ⟨⟨_,rfl⟩,ex2⟩
  rintro v H2 ⟨⟨b,rfl⟩,ex2⟩
  try simp -implicitDefEqProofs only[sS,Nat.reduceAdd]
  exact Ev.ret ⟨⟨_,rfl⟩,ex2⟩
theorem LI:aE (run G) 134 [pv mp,cv 57] H λv H'=>v=aA∧H'=H:=by
 refine Ev.up (t:=λk=>Rq (run G k) k (pv mp) (cv 57) H) ?_ λk=>Rr ..
 simp -implicitDefEqProofs only[Rq,sS,Nat.reduceAdd];refine Ev.is (nX 57) ?_;rw[a57];refine Ev.is (gV 57) ?_;rw[k57]
 try simp -implicitDefEqProofs only[sS,Nat.reduceAdd]
 refine Ev.eql (λhq=>?_) (λhq=>?_)<;>try simp -implicitDefEqProofs only[sS,Nat.reduceAdd]
 ·omega
 refine Ev.eql (λhq=>?_) (λhq=>?_)<;>try simp -implicitDefEqProofs only[sS,Nat.reduceAdd]
 ·omega
 refine Ev.eql (λhq=>?_) (λhq=>?_)<;>try simp -implicitDefEqProofs only[Rq,KA,yi,sS,Nat.reduceAdd]
 ·omega
 exact Ev.ret ⟨rfl,rfl⟩
theorem Pd (h:JM K mp (C3 mx) H):aE (run G) 108 [pv mp] H λv H'=>v=aA∧Ext H H':=by
 refine Ev.up (t:=λk=>VI (run G k) k (pv mp) H) ?_ λk=>QI ..
 simp -implicitDefEqProofs only[VI,sS,Nat.reduceAdd];refine Ev.call (Pc h) ?_;rintro v H1 ⟨⟨b,rfl⟩,ex⟩;have h1:=h.ext ex;cases b<;>simp -implicitDefEqProofs only[sS,Nat.reduceAdd]
 ·exact Ev.ret ⟨rfl,ex⟩
 refine Ev.is (vJ h1.look h1.zU 6) ?_;rw[aaS];refine Ev.call LI ?_;rintro v H2 ⟨rfl,rfl⟩
 try simp -implicitDefEqProofs only[sS,Nat.reduceAdd]
 exact Ev.ret ⟨rfl,ex⟩
end
section
open Go.Proofs.YtgfgglponbmgmaaGreatA
def lj (g:Nat→Nat):Nat→Nat
 |0=>0
 |i+1=>lj g i+g i
theorem CQ (g:Nat→Nat){i:Nat}: ∀j,i≤j→lj g i≤lj g j
 |0,h=>by
  have:i=0:=by omega
  subst this;exact Nat.le_refl _
 |j+1,h=>by
  rcases Nat.lt_or_ge j i with k|k
  ·have:i=j+1:=by omega
   subst this;exact Nat.le_refl _
  ·have:=CQ g j k
   simp only[lj];omega
def dK:Nat→Nat→Nat
 |0,_=>0
 |f+1,n=>if n<2 then n+1 else 4+2*(Y.bo n).toNat+lj (λi:Nat=>dK f (Y.b9 n i).toNat) (Y.bo n).toNat
structure BT (G:Y.Ga) (m:Y.Mm) (p:List Nat) (r:Int×Y.Mm) (c:Nat) (G':Y.Ga):Prop where
 inv:Y.bs G' r.2
 calm:Y.Calm G'
 le:G.le G'
 fit:Y.da G' p r.1
 len:r.2.cs.length=m.cs.length+c
 max:r.2.max=m.max
theorem Gi {m:Y.Mm}{ws:List Int}(h0:ws≠[])(h:ws.length+m.cs.length≤m.max):Y.OM m ws=((m.cs.length:Int)+1,⟨m.cs++ws,m.max⟩):=by
 simp only[Y.OM,Y.eB];rw[if_neg (by
  rintro(a|a)
  ·exact h0 a
  ·omega)]
theorem PM {G:Y.Ga}{m:Y.Mm}(i:Y.bs G m){k:Nat}(h1:1≤k)(h:k+m.cs.length≤m.max):(1:Int)≤m.cs.length+1∧(m.cs.length:Int)+1≤65536:=by
 have:=i.top;omega
theorem Et: ∀(f:Nat) {l:PL} {m:Y.Mm} {G:Y.Ga} (p:List Nat),l.length+1≤f→l.length≤16384→Y.bs G m→Y.Calm G→m.cs.length+dK f l.length≤m.max→∃G',BT G m p (Y.dJ f l m) (dK f l.length) G':=by
 intro f;induction f with
 |zero=>intro l m G p h;omega
 |succ f ih=>
  intro l m G p hf hl i hc hr
  match l,hf,hl,hr with
  | [],hf,hl,hr=>
   have ec:dK (f+1) ([]:PL).length=1:=by simp[dK]
   rw[ec] at hr ⊢;have e:=Gi (m:=m) (ws:=[0]) (by simp) (by simp;omega)
   have eb:Y.dJ (f+1) [] m=(Y.fI 1 (m.cs.length+1),⟨m.cs++[0],m.max⟩):=by unfold Y.dJ;simp only[e]
   rw[eb];have i1:=i.make (r:=.empty) (ws:=[0]) rfl (by simp;omega)
   exact⟨_,i1,hc.make,Y.Ga.nv i.Ea,⟨Y.nZ.fI (r:=.empty) (by omega) (PM i (k:=1) (by omega) (by omega)) (by simp[Y.Ga.make]),.inl (Y.ik (by omega) (PM i (k:=1) (by omega) (by omega)))⟩,by simp,rfl⟩
  | [kv],hf,hl,hr=>
   have ec:dK (f+1) ([kv]:PL).length=2:=by simp[dK]
   rw[ec] at hr ⊢;have e:=Gi (m:=m) (ws:=[kv.1,kv.2]) (by simp) (by simp;omega)
   have eb:Y.dJ (f+1) [kv] m=(Y.fI 2 (m.cs.length+1),⟨m.cs++[kv.1,kv.2],m.max⟩):=by unfold Y.dJ;simp only[e]
   rw[eb];have i1:=i.make (r:=.leaf) (ws:=[kv.1,kv.2]) rfl (by simp;omega)
   exact⟨_,i1,hc.make,Y.Ga.nv i.Ea,⟨Y.nZ.fI (r:=.leaf) (by omega) (PM i (k:=1) (by omega) (by omega)) (by simp[Y.Ga.make]),.inr (.inl (Y.ik (by omega) (PM i (k:=1) (by omega) (by omega))))⟩,by simp,rfl⟩
  |a::b::l,hf,hl,hr=>
   obtain⟨L,eL⟩: ∃L,L=a::b::l:=⟨_,rfl⟩;rw[←eL] at hf hl hr ⊢;have hL2:2≤L.length:=by rw[eL];simp
   have sC:2≤(L.length:Int)∧(L.length:Int)≤16384:=by omega
   have eb:Y.dJ (f+1) L m=Y.il f L (Y.bo L.length).toNat 0 0 [] [] m:=by rw[eL];unfold Y.dJ;rfl
   rw[eb];obtain⟨d,hd⟩: ∃d:Nat,(d:Int)=Y.bo L.length:=⟨(Y.bo L.length).toNat,by have:=Y.nC sC;omega⟩
   have Yx:=Y.nC sC;obtain⟨g,eg⟩: ∃g:Nat→Nat,g=λi:Nat=>dK f (Y.b9 L.length i).toNat:=⟨_,rfl⟩
   have ec:dK (f+1) L.length=4+2*d+lj g d:=by
    show(if L.length<2 then L.length+1 else _)=_
    rw[if_neg (by omega),eg]
    have:(Y.bo L.length).toNat=d:=by omega
    rw[this]
   rw[ec] at hr ⊢;have Sx:(Y.bo L.length).toNat=d:=by omega
   rw[Sx];have key: ∀(r i:Nat) (dS:Nat) (q c:List Int) (m1:Y.Mm) (G1:Y.Ga),i+r=d→(dS:Int)=cD L.length i→c.length=i→(i=0∧q=[]∨q.length+1=i)→(∀j,j<i→Y.da G1 (p++[j]) (c.getD j 0))→Y.bs G1 m1→Y.Calm G1→G.le G1→m1.max=m.max→m1.cs.length=m.cs.length+lj g i→
     ∃G',BT G m p (Y.il f L r i dS q c m1) (4+2*d+lj g d) G':=by
    intro r;induction r with
    |zero=>
     intro i dS q c m1 G1 hi _ Df hq jb i1 c1 g1 Ma hlen;have Mz:i=d:=by omega
     subst Mz;unfold Y.il;have hw:c.length=q.length+1:=by omega
     have hwl:(Y.cP L.length q c).length=4+2*i:=by
      unfold Y.cP;rw[if_neg (by omega)];simp;omega
     have e:=Gi (m:=m1) (ws:=Y.cP L.length q c) (by intro h;rw[h] at hwl;simp at hwl;omega) (by rw[hwl];omega)
     simp only[e];have i2:=i1.make (r:=.inner i p) (ws:=Y.cP L.length q c) ⟨by omega,L.length,q,c,rfl,Df,by omega,λj hj=>.inr (jb j hj)⟩ (by rw[hwl];omega)
     have EU:=PM i1 (k:=1) (by omega) (by omega)
     refine⟨_,i2,c1.make,g1.trans (Y.Ga.nv i1.Ea),⟨Y.nZ.fI (r:=.inner i p) (by omega) EU (by simp[Y.Ga.make]),.inr (.inr (.inl ⟨Y.ik (by omega) EU,i,?_,?_⟩))⟩,by simp[hwl];omega,Ma⟩
     ·rw[Y.iO (by omega) EU];simp[Y.Ga.make]
     ·rw[Y.iO (by omega) EU]
      intro j hj;refine .inr ⟨i,p,j,rfl,hj,rfl,?_⟩;have:=Y.AU (a:=L.length) hw (i:=j) (by omega)
      rw[Df] at this;rw[this];exact(jb j hj).Tw
    |succ r ihr=>
     intro i dS q c m1 G1 hi Yw Df hq jb i1 c1 g1 Ma hlen;have Mz:(i:Int)<bo L.length:=by rw[←pP];omega
     have uq:=jU sC (i:=i) ⟨by omega,Mz⟩
     have hpi:=vE sC (i:=i) Mz;obtain⟨s,hs⟩: ∃s:Nat,(s:Int)=Y.b9 L.length i:=⟨(Y.b9 L.length i).toNat,by rw[sr];omega⟩
     have es:(Y.b9 L.length i).toNat=s:=by omega
     rw[sr] at hs;have TW:((L.drop dS).take s).length=s:=by simp;omega
     have hgi:g i=dK f s:=by rw[eg];simp only[es]
     have hle:=CQ g (i:=i+1) d (by omega)
     have XV:lj g (i+1)=lj g i+dK f s:=by show lj g i+g i=_;rw[hgi]
     unfold Y.il;simp only[es];obtain⟨G2,b⟩:=ih (l:=(L.drop dS).take s) (m:=m1) (G:=G1) (p++[i]) (by rw[TW];omega) (by rw[TW];omega) i1 c1 (by rw[TW,Ma];omega)
     rw[TW] at b;refine ihr (i+1) (dS+s) _ _ _ G2 (by omega) ?_ (by simp[Df]) ?_ ?_ b.inv b.calm (g1.trans b.le) (by rw[b.max,Ma]) (by rw[b.len,hlen,XV];omega)
     ·rw[cD];omega
     ·rcases hq with⟨rfl,rfl⟩|hq
      ·exact .inr rfl
      ·refine .inr ?_;rw[if_pos (by omega)];simp;omega
     ·intro j hj;by_cases e:j=i
      ·subst e;simp only[List.getD_eq_getElem?_getD];rw[List.getElem?_append_right (by omega)]
       simp[Df];exact b.fit
      ·simp only[List.getD_eq_getElem?_getD];rw[List.getElem?_append_left (by omega)]
       have:=(jb j (by omega)).mono b.le
       simpa only[List.getD_eq_getElem?_getD] using this
   exact key d 0 0 [] [] m G (by omega) (by simp[cD]) rfl (.inl ⟨rfl,rfl⟩) (λj hj=>by omega) i hc (Y.Ga.le.refl _) rfl (by simp[lj])
end
end Go.Proofs.YtgfgglponbmgmaaGreat.Fun
end
