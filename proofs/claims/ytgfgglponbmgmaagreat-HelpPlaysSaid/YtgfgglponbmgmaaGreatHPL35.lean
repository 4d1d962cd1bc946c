/- Texts of the proof of helpPlays_holds, put together by a small program of ours (names shortened, spaces taken out). No condition beyond the given statement. -/
import Derived.Test.YtgfgglponbmgmaaGreatHPL12
import Derived.Test.YtgfgglponbmgmaaGreatHPL16
import Derived.Test.YtgfgglponbmgmaaGreatHPL13
import Derived.Test.YtgfgglponbmgmaaGreatHPL14
import Derived.Test.YtgfgglponbmgmaaGreatHPL18
import Derived.Test.YtgfgglponbmgmaaGreatHPL34
import Derived.Test.YtgfgglponbmgmaaGreatHPL15
import Derived.Test.YtgfgglponbmgmaaGreatHPL32
import Derived.Test.YtgfgglponbmgmaaGreatHPL30
set_option linter.unusedVariables false
set_option linter.unusedSimpArgs false
set_option linter.unnecessarySimpa false
noncomputable section
section
namespace Go.Proofs.YtgfgglponbmgmaaGreat.Fun
open Go Go.RowKit Go.Proofs.YtgfgglponbmgmaaGreatA.Am
set_option maxRecDepth 10000
section
open Go.Proofs.YtgfgglponbmgmaaGreatA
variable {G:ae} {H H':aa} {o o':aj} {p c mp f xp:Nat} {q:Int} {x:Value} {l:PL} {n i:Nat} {m m':Y.Mm} {T:List Int} {th:jz} {L:List kq} {N M:Nat}
theorem Zd (bud:Int)(op:kp):aE Tryz.prog 41 [(1,cv bud),(10,jx op)]=some (.agg (ax 0 bud 0 0 op).toArray):=by kernel_rfl
theorem adG (t:Nat)(op:kp)(a b k key val:Int)(F:Value)(st no:Int)(bu tk:Bool){T:TypeId}(H:aa)(h:H.get t=some ⟨[cv a,.bool bu,cv k,cv key,cv val,F,cv st,.bool tk,cv no],T,1,false⟩):bE 3 (.pointer (some ⟨t,2,none⟩)) (jx op) H=some (undef,H.put t ⟨[cv a,.bool bu,cv op.kind,cv op.key,cv op.value,F,cv st,.bool tk,cv no],T,1,false⟩):=by
 simp[bE,bZ,h,Value.cells,known,aD,dz]
def QC (i:Nat)(th ir:jz):Prop:=
 ir=th∨((th i).busy=false∧∃pr proc bud op,zD pr proc 0 bud 0 0 op∧24≤proc∧ir=pc th i ⟨(th i).ti,true,false,[],pr⟩)
def Ze (i:Nat)(e:Int)(th ir:jz):Prop:=(e=0∧(th i).busy=false∧∃pr proc bud op,zD pr proc 0 bud 0 0 op∧24≤proc∧ir=pc th i ⟨(th i).ti,true,false,[],pr⟩)∨(e≠0∧ir=th)
theorem T8 (h:WR H o xp mp m th L)(hi:i<3)(op:kp):aF (run G) 100 [pv (th i).ti,jx op] H λv H'=>∃o' e ir,v=cv e∧Fr H o H' o' [-200-i, -210-i, -220-i, -70, -71]∧WR H' o' xp mp m ir L∧Ze i e th ir:=by
 refine Ev.up (t:=λk=>Yl (run G k) k (pv (th i).ti) (jx op) H) ?_ λk=>SR ..
 obtain⟨H1,gg⟩: ∃z,z=H.new ⟨n8 op,39,1,false⟩:=⟨_,rfl⟩;have bx:=Dj op H;rw[←gg] at bx;have f1:Fr H o H1 (o.up H.length (-9)) []:=by rw[gg];exact(Fr.refl H o []).new _ _
 have c1:Cl H.length (n8 op) 39 H1 (o.up H.length (-9)):=by rw[gg];exact Cl.made
 have h1:=h.uL f1 (by simp)
 obtain⟨c0',_,_,_,_,_,_,_,_,_,_,_,_,_,_,hm,mT,_⟩:=id h1;obtain⟨bud,k,key,val,steps,no,F,ty,g,kW,hF⟩:=mT i hi;have L1:aq (.pointer (some ⟨(th i).ti,1,none⟩)) H1=some (.bool (th i).busy):=an _ 1 H1 g;have L0:aq (pv (th i).ti) H1=some (cv bud):=an _ 0 H1 g;have K0:aq (pv H.length) H1=some (cv op.kind):=an _ 0 H1 c1.1;have KO:dh 3 (pv H.length) H1=some (jx op):=Rf c1.1;have T9: ∀(e:Int),e≠0→Ev (λ_=>some (cv e,H1)) λr=>∃o' e ir,r.1=cv e∧Fr H o r.2 o' [-200-i, -210-i, -220-i, -70, -71]∧WR r.2 o' xp mp m ir L∧Ze i e th ir:=λe he=>Ev.ret ⟨_,e,th,rfl,f1.wk (by simp),h1,.inr ⟨he,rfl⟩⟩
 simp -implicitDefEqProofs only[Yl,bx,L1,sS,Nat.reduceAdd];cases hb:(th i).busy<;>simp -implicitDefEqProofs only[K0,Nat.add_zero,sS,Nat.reduceAdd]
 rotate_left
 ·exact T9 4 (by simp)
 refine Ev.lss (λhq=>?_) (λhq=>?_)<;>try simp -implicitDefEqProofs only[K0,Nat.add_zero,sS,Nat.reduceAdd]
 ·exact T9 5 (by simp)
 refine Ev.gtr (λhq=>?_) (λhq=>?_)<;>try simp -implicitDefEqProofs only[L0,Nat.add_zero,sS,Nat.reduceAdd]
 ·exact T9 5 (by simp)
 refine Ev.lss (λhq=>?_) (λhq=>?_)<;>try simp -implicitDefEqProofs only[L0,Nat.add_zero,sS,Nat.reduceAdd]
 ·exact T9 2 (by simp)
 refine Ev.gtr (λhq=>?_) (λhq=>?_)<;>try simp -implicitDefEqProofs only[sS,Nat.reduceAdd]
 ·exact T9 2 (by simp)
 have dC:(th i).ti≠H.length:=by
  intro e;have a:=c1.2;have b:=kW;rw[e] at b;omega
 rw[hb] at g;have S1:=sA (th i).ti 1 (.bool true) H1 g rfl (by simp) rfl rfl rfl
 simp only[List.set_cons_succ,List.set_cons_zero] at S1;obtain⟨H2,iJ⟩: ∃z,z=H1.put (th i).ti ⟨[cv bud,.bool true,cv k,cv key,cv val,F,cv steps,.bool (th i).ia,cv no],ty,1,false⟩:=⟨_,rfl⟩;rw[←iJ] at S1;have g2:H2.get (th i).ti=some ⟨[cv bud,.bool true,cv k,cv key,cv val,F,cv steps,.bool (th i).ia,cv no],ty,1,false⟩:=by rw[iJ];exact aG g
 have b2:H2.get H.length=some ⟨n8 op,39,1,false⟩:=by rw[iJ,bt (Ne.symm dC)];exact c1.1
 have KO2:dh 3 (pv H.length) H2=some (jx op):=Rf b2;have S2:=adG (th i).ti op bud 0 k key val F steps no true (th i).ia H2 g2;obtain⟨H3,mH⟩: ∃z,z=H2.put (th i).ti ⟨[cv bud,.bool true,cv op.kind,cv op.key,cv op.value,F,cv steps,.bool (th i).ia,cv no],ty,1,false⟩:=⟨_,rfl⟩;rw[←mH] at S2;have g3:H3.get (th i).ti=some ⟨[cv bud,.bool true,cv op.kind,cv op.key,cv op.value,F,cv steps,.bool (th i).ia,cv no],ty,1,false⟩:=by rw[mH];exact aG g2
 have S3:=gY (th i).ti 6 0 H3 g3 rfl (by simp)
 simp only[List.set_cons_succ,List.set_cons_zero] at S3;obtain⟨H4,pW⟩: ∃z,z=H3.put (th i).ti ⟨[cv bud,.bool true,cv op.kind,cv op.key,cv op.value,F,cv 0,.bool (th i).ia,cv no],ty,1,false⟩:=⟨_,rfl⟩;rw[←pW] at S3;have g4:H4.get (th i).ti=some ⟨[cv bud,.bool true,cv op.kind,cv op.key,cv op.value,F,cv 0,.bool (th i).ia,cv no],ty,1,false⟩:=by rw[pW];exact aG g3
 have S4:=sA (th i).ti 7 (.bool false) H4 g4 rfl (by simp) rfl rfl rfl
 simp only[List.set_cons_succ,List.set_cons_zero] at S4;obtain⟨H5,uk⟩: ∃z,z=H4.put (th i).ti ⟨[cv bud,.bool true,cv op.kind,cv op.key,cv op.value,F,cv 0,.bool false,cv no],ty,1,false⟩:=⟨_,rfl⟩;rw[←uk] at S4;have g5:H5.get (th i).ti=some ⟨[cv bud,.bool true,cv op.kind,cv op.key,cv op.value,F,cv 0,.bool false,cv no],ty,1,false⟩:=by rw[uk];exact aG g4
 have b5:H5.get H.length=some ⟨n8 op,39,1,false⟩:=by rw[uk,bt (Ne.symm dC),pW,bt (Ne.symm dC),mH,bt (Ne.symm dC)];exact b2
 have f5:Fr H1 (o.up H.length (-9)) H5 (o.up H.length (-9)) [-200-i]:=by
  rw[uk,pW,mH,iJ];exact((((Fr.refl _ _ _).put λ_=>by simp[kW]).put λ_=>by simp[kW]).put λ_=>by simp[kW]).put λ_=>by simp[kW]
 have KO5:dh 3 (pv H.length) H5=some (jx op):=Rf b5;have K5:aq (pv H.length) H5=some (cv op.kind):=an _ 0 H5 b5;have L05:aq (pv (th i).ti) H5=some (cv bud):=an _ 0 H5 g5;have J0: ∀(pr:Pr) (proc:Int) (x4 x6 aO bT cV:Value),zD pr proc 0 bud 0 0 op→24≤proc→Ev (λk=>vX (run G k) k [pv (th i).ti,jx op,x4,x6,pv H.length,aO,bT,cV,cv proc] H5) λr=>∃o' e ir,r.1=cv e∧Fr H o r.2 o' [-200-i, -210-i, -220-i, -70, -71]∧WR r.2 o' xp mp m ir L∧Ze i e th ir:=by
  intro pr proc x4 x6 aO bT cV hp h24;simp -implicitDefEqProofs only[Mw,yO,L05,KO5,Zd,Nat.add_zero,sS,Nat.reduceAdd];refine Ev.call (HB (ftI i) hp H5 (o.up H.length (-9))) ?_;rintro v H6 ⟨f,o6,d6,r6,abR,rfl,f6,hf6,adH⟩;have wB:(o.up H.length (-9)) (th i).ti= -200-i:=kW;have g6:H6.get (th i).ti=some ⟨[cv bud,.bool true,cv op.kind,cv op.key,cv op.value,F,cv 0,.bool false,cv no],ty,1,false⟩:=by rw[f6.same _ (ar g5) (by rw[wB];simp<;>omega)];exact g5
  have ho6:o6 (th i).ti= -200-i:=by rw[f6.own _ (ar g5)];exact wB
  have S5:=ac3 (th i).ti 5 (some ⟨f,0,none⟩) H6 g6 rfl (by simp)
  simp only[List.set_cons_succ,List.set_cons_zero] at S5;obtain⟨H7,Rg⟩: ∃z,z=H6.put (th i).ti ⟨[cv bud,.bool true,cv op.kind,cv op.key,cv op.value,pv f,cv 0,.bool false,cv no],ty,1,false⟩:=⟨_,rfl⟩;rw[←Rg] at S5;have f7:Fr H6 o6 H7 o6 [-200-i]:=by rw[Rg];exact(Fr.refl _ _ _).put λ_=>by simp[ho6]
  have fB:Fr H1 (o.up H.length (-9)) H7 o6 [-200-i, -210-i, -220-i, -70, -71]:=(f5.trans f6 (rs:=[-200-i, -210-i, -220-i, -70, -71]) (by simp) (by simp)).trans f7 (by simp) (by simp)
  have ht7:Vo H7 o6 i ⟨(th i).ti,true,false,[],pr⟩:=⟨bud,op.kind,op.key,op.value,0,no,pv f,ty,by rw[Rg];exact aG g6,ho6,λ_=>⟨f,_,_,_,rfl,hf6.fr f7 (by simp<;>omega) (by simp<;>omega) (by simp<;>omega),adH⟩⟩
  have hm7:=(((hm.fr f5 (by simp<;>omega) (by simp<;>omega)).fr f6 (by simp<;>omega) (by simp<;>omega)).fr f7 (by simp<;>omega) (by simp<;>omega))
  simp -implicitDefEqProofs only[S5,sS,Nat.reduceAdd];exact Ev.ret ⟨o6,0,_,rfl,f1.trans fB (by simp) (λ_ h=>h),h1.Ft hi fB ht7 rfl hm7,.inl ⟨rfl,hb,pr,proc,bud,op,hp,h24,rfl⟩⟩
 simp -implicitDefEqProofs only[S1,KO2,S2,S3,S4,K5,Nat.add_zero,sS,Nat.reduceAdd];refine Ev.gtr (λhq=>?_) (λhq=>?_)<;>try simp -implicitDefEqProofs only[sS,Nat.reduceAdd]
 ·exact J0 .rd 25 _ _ _ _ _ ⟨rfl,rfl,rfl,rfl⟩ (by omega)
 ·exact J0 (.ex (TR op)) 24 _ _ _ _ _ (.inl ⟨rfl,⟨by omega,by omega⟩,rfl⟩) (by omega)
theorem WR.no (h:WR H o xp mp m th L)(hi:i<3)(z:Int): ∃H1,bE 1 (.pointer (some ⟨(th i).ti,8,none⟩)) (cv z) H=some (undef,H1)∧WR H1 o xp mp m th L∧Fr H o H1 o [-200-i]:=by
 obtain⟨c0,c1,c2,inv,dI,tb,cap,Lx,rest,ty,mV,g,ho,gt,kW,hm,mT,hL⟩:=id h;obtain⟨bud,k,key,val,steps,no,F,ty,g,kW,hF⟩:=mT i hi;have S:=gY (th i).ti 8 z H g rfl (by simp)
 simp only[List.set_cons_succ,List.set_cons_zero] at S;have f:Fr H o (H.put (th i).ti ⟨[cv bud,.bool (th i).busy,cv k,cv key,cv val,F,cv steps,.bool (th i).ia,cv z],ty,1,false⟩) o [-200-i]:=(Fr.refl _ _ _).put λ_=>by simp[kW]
 have hw:=h.Ft hi (s':=th i) (f.wk (by simp)) ⟨bud,k,key,val,steps,z,F,ty,aG g,kW,λhb=>by
  obtain⟨f',d,r,rec,e,hf,dR⟩:=hF hb;exact⟨f',d,r,rec,e,hf.fr f (by simp<;>omega) (by simp<;>omega) (by simp<;>omega),dR⟩⟩ rfl (hm.fr f (by simp<;>omega) (by simp<;>omega))
 have e:Fun.pc th i (th i)=th:=by
  funext j
  unfold Fun.pc;split
  ·rename_i e;rw[e]
  ·rfl
 rw[e] at hw;exact⟨_,S,hw,f⟩
theorem Fy (h:WR H o xp mp m th L)(hi:i<3)(hI:Inv th L N M)(hN:N<4000000)(op:kp):aF (run G) 72 [pv xp,cv i,jx op] H λv H'=>∃o' ir L',Fr H o H' o' wt∧WR H' o' xp mp m ir L'∧Inv ir L' (N+3) M∧QC i th ir:=by
 refine Ev.up (t:=λk=>F72 (run G k) k (pv xp) (cv i) (jx op) H) ?_ λk=>W8 ..
 obtain⟨H1,gg⟩: ∃z,z=H.new ⟨n8 op,39,1,false⟩:=⟨_,rfl⟩;have bx:=Dj op H;rw[←gg] at bx;have f1:Fr H o H1 (o.up H.length (-9)) []:=by rw[gg];exact(Fr.refl H o []).new _ _
 have c1:Cl H.length (n8 op) 39 H1 (o.up H.length (-9)):=by rw[gg];exact Cl.made
 have h1:=h.uL f1 (by simp)
 obtain⟨tb,cap,inv,dI,e3,e4,e6,e7,eT,_⟩:=h1.n9;obtain⟨T5,T6⟩:=eT i hi;have KO:dh 3 (pv H.length) H1=some (jx op):=Rf c1.1;have hI3:Inv th L (N+3) M:=⟨by have:=hI.len;omega,hI.lists,hI.tape⟩
 simp -implicitDefEqProofs only[F72,bx,sS,Nat.reduceAdd];refine Ev.lss (λhq=>?_) (λhq=>?_)<;>try simp -implicitDefEqProofs only[e4,cE,sS,Nat.reduceAdd]
 ·omega
 refine Ev.geq (λhq=>?_) (λhq=>?_)<;>try simp -implicitDefEqProofs only[e4,T5,T6,KO,sS,Nat.reduceAdd]
 ·omega
 refine Ev.call (T8 h1 hi op) ?_;rintro v H2 ⟨o2,e,HD,rfl,f2,h2,he⟩;have f2w:Fr H o H2 o2 wt:=f1.trans f2 (by simp) (JY hi)
 try simp -implicitDefEqProofs only[sS,Nat.reduceAdd]
 rcases he with⟨rfl,hbz,pr,proc,bud,op',hpr,h24,rfl⟩|⟨he,rfl⟩
 rotate_left
 ·refine Ev.neq (λhq=>?_) (λhq=>?_)<;>try simp -implicitDefEqProofs only[sS,Nat.reduceAdd]
  ·exact Ev.ret ⟨o2,_,L,f2w,h2,hI3,.inl rfl⟩
  ·exact absurd hq he
 refine Ev.neq (λhq=>?_) (λhq=>?_)<;>try simp -implicitDefEqProofs only[sS,Nat.reduceAdd]
 ·exact absurd rfl hq
 obtain⟨HD,eth⟩: ∃z,z=pc th i ⟨(th i).ti,true,false,[],pr⟩:=⟨_,rfl⟩;rw[←eth] at h2;have eti:(HD i).ti=(th i).ti:=by rw[eth];simp[pc]
 have c2:Cl H.length (n8 op) 39 H2 o2:=c1.fr f2 (by simp<;>omega)
 obtain⟨Vt,BN,inv2,Zc,j3,j4,j6,j7,jT,_⟩:=h2.n9;obtain⟨jT1,jT2⟩:=jT i hi;obtain⟨H3,S8,h3,f3⟩:=h2.no hi inv2;obtain⟨tb3,aep,adI,adJ,k3,k4,k6,k7,kT,_⟩:=h3.n9;obtain⟨H4,S6,h4,f4⟩:=h3.adB (IntKind.i64.wrap (adI+1));obtain⟨tb4,aeq,aer,HE,i3,i4,i6,i7,iT,_⟩:=h4.n9;obtain⟨iT1,iT2⟩:=iT i hi;obtain⟨T9,d1,d7,d8⟩:=h4.Vq hi;have c4:Cl H.length (n8 op) 39 H4 o2:=(c2.fr f3 (by simp<;>omega)).fr f4 (by simp)
 have KO4:dh 3 (pv H.length) H4=some (jx op):=Rf c4.1;have hl:=hI.len;obtain⟨Lx,q1,q2,q3,x',H5,H6,o6,q4,q5,h6,f6⟩:=h4.app ⟨1,i,T9,op,bS,HE⟩ (s:=aA) .nil (by omega)
 simp -implicitDefEqProofs only[j4,jT1,jT2,j6,S8,k6,S6,q1,i4,iT1,iT2,d8,KO4,i7,abJ,T3 _ rfl,q2,q4,q5,q3,sS,Nat.reduceAdd];refine Ev.ret ⟨o6,HD,L++[⟨1,i,T9,op,bS,HE⟩],((f2w.trans f3 (rs:=wt) (λ_ h=>h) (JZ hi)).trans f4 (rs:=wt) (λ_ h=>h) (by simp)).trans f6 (λ_ h=>h) (by simp),h6,⟨?_,?_,?_⟩,.inr ⟨hbz,pr,proc,bud,op',hpr,h24,eth⟩⟩
 ·have hp:=Za (th:=th) (s:=⟨(th i).ti,true,false,[],pr⟩) (d:=2) hi (by simp[uS])
  rw[←eth] at hp;simp only[List.length_append,List.length_singleton];omega
 ·intro e he;rcases List.mem_append.1 he with he|he
  ·exact hI.lists e he
  ·have:e=⟨1,i,T9,op,bS,HE⟩:=by simpa using he
   subst this;simp[bS]
 ·intro j hj;rw[eth];unfold pc;split
  ·simp
  ·exact hI.tape j hj
theorem abS (t n:Int):aE Tryz.prog 145 [(0,cv 2),(1,cv t),(2,cv n)]=some (.agg #[cv 2,cv t,cv n,cv 0,cv 0,cv 0]):=by kernel_rfl
theorem Zf (t n:Int)(H:aa):dL 145 (.agg #[cv 2,cv t,cv n,cv 0,cv 0,cv 0]) H=some (pv H.length,H.new ⟨[cv 2,cv t,cv n,cv 0,cv 0,cv 0],145,1,false⟩):=by
 simp[dL,Value.cells,aD,aV]
structure Vu (P:jz→Y.Mm→Prop):Prop where
 pick: ∀{th:jz} {m:Y.Mm} {i:Nat} {ir:jz} {m':Y.Mm},P th m→i<3→(∀j,j<3→(th j).T.length<1048000)→sN i th m ir m'→P ir m'
 inv: ∀{th:jz} {m:Y.Mm} {i:Nat} {ir:jz},P th m→i<3→QC i th ir→P ir m
theorem abT {P:jz→Y.Mm→Prop}(kP:Vu P)(hP:P th m)(h:WR H o xp mp m th L)(hi:i<3)(hI:Inv th L N M)(hN:N<4000000)(hM:M+24<1048000){k:Int}(hk:1≤k∧k≤24):aF (run G) 88 [pv xp,.agg #[cv 2,cv i,cv k,cv 0,cv 0,cv 0]] H λv H'=>∃o' ir L' m',Fr H o H' o' wt∧WR H' o' xp mp m' ir L'∧Inv ir L' N (M+24)∧P ir m':=by
 refine Ev.up (t:=λk'=>F88 (run G k') k' (pv xp) (.agg #[cv 2,cv i,cv k,cv 0,cv 0,cv 0]) H) ?_ λk'=>XU ..
 obtain⟨H1,gg⟩: ∃z,z=H.new ⟨[cv 2,cv i,cv k,cv 0,cv 0,cv 0],145,1,false⟩:=⟨_,rfl⟩;have bx:=Zf i k H;rw[←gg] at bx;have f1:Fr H o H1 (o.up H.length (-9)) []:=by rw[gg];exact(Fr.refl H o []).new _ _
 have c1:Cl H.length [cv 2,cv i,cv k,cv 0,cv 0,cv 0] 145 H1 (o.up H.length (-9)):=by rw[gg];exact Cl.made
 have h1:=h.uL f1 (by simp)
 have K0:aq (pv H.length) H1=some (cv 2):=an _ 0 H1 c1.1;simp -implicitDefEqProofs only[F88,bx,K0,Nat.add_zero,sS,Nat.reduceAdd];refine Ev.eql (λhq=>?_) (λhq=>?_)<;>try simp -implicitDefEqProofs only[sS,Nat.reduceAdd]
 ·omega
 refine Ev.eql (λhq=>?_) (λhq=>?_)<;>try simp -implicitDefEqProofs only[sS,Nat.reduceAdd]
 rotate_left
 ·omega
 refine Ev.loop (k:=24) (λkk vs Hx=>∃(j:Nat) (o1:aj) (jJ:jz) (L1:List kq) (m1:Y.Mm) (x4 aO aN bT bV x7 cU cC x8 cH x9 er j9:Value),j+kk=24∧vs=[pv xp,.agg #[cv 2,cv i,cv k,cv 0,cv 0,cv 0],x4,pv H.length,aO,aN,bT,cv j,bV,x7,cU,cC,x8,cH,x9,er,j9]∧Fr H o Hx o1 wt∧Cl H.length [cv 2,cv i,cv k,cv 0,cv 0,cv 0] 145 Hx o1∧WR Hx o1 xp mp m1 jJ L1∧Inv jJ L1 N (M+j)∧P jJ m1)
  (λr=>r.1= .exit 1∧∃(o1:aj) (jJ:jz) (L1:List kq) (m1:Y.Mm) (x4 aO aN bT x5 bV x7 cU cC x8 cH x9 er j9:Value),r.2.1=[pv xp,.agg #[cv 2,cv i,cv k,cv 0,cv 0,cv 0],x4,pv H.length,aO,aN,bT,x5,bV,x7,cU,cC,x8,cH,x9,er,j9]∧Fr H o r.2.2 o1 wt∧WR r.2.2 o1 xp mp m1 jJ L1∧Inv jJ L1 N (M+24)∧P jJ m1) ?_ ?_ ?_
 ·exact⟨0,_,th,L,m,_,_,_,_,_,_,_,_,_,_,_,_,_,rfl,rfl,f1.wk (by simp),c1,h1,hI,hP⟩
 ·rintro kk vs Hx ⟨j,o1,jJ,L1,m1,x4,aO,aN,bT,bV,x7,cU,cC,x8,cH,x9,er,j9,AE,rfl,lj,hc,hw,wm,hP1⟩;have K1:aq (.pointer (some ⟨H.length,1,none⟩)) Hx=some (cv i):=an _ 1 Hx hc.1;have K2:aq (.pointer (some ⟨H.length,2,none⟩)) Hx=some (cv k):=an _ 2 Hx hc.1;have BU:IntKind.i64.wrap ((j:Int)+1)=((j+1:Nat):Int):=by rw[ga (by omega)];omega
  have adK:Inv jJ L1 N (M+24):=⟨wm.len,wm.lists,λa ha=>by have:=wm.tape a ha;omega⟩
  simp -implicitDefEqProofs only[O9,CP,K2,sS,Nat.reduceAdd];refine Ev.lss (λhq=>?_) (λhq=>?_)<;>try simp -implicitDefEqProofs only[sS,Nat.reduceAdd]
  rotate_left
  ·exact Ev.ret (.inr ⟨by simp,rfl,o1,jJ,L1,m1,_,_,_,_,_,_,_,_,_,_,_,_,_,_,rfl,lj,hw,adK,hP1⟩)
  refine Ev.lss (λkn=>?_) (λkn=>?_)<;>try simp -implicitDefEqProofs only[K1,sS,Nat.reduceAdd]
  rotate_left
  ·omega
  refine Ev.call (QA hw hi wm hN (by omega)) ?_
  rintro v H2 ⟨o2,HD,L2,m2,r,s,e,rfl,⟨sa,sn,sc,es⟩,f2,h2,Z1,T7⟩;have hP2:=kP.pick hP1 hi (λa ha=>by have:=wm.tape a ha;omega) T7
  obtain⟨H3,mH⟩: ∃z,z=H2.new ⟨rc bS,47,1,false⟩:=⟨_,rfl⟩;have n0:aV H2 47 1 [cv 0,.bool false,cv 0,cv 0,cv 0,aA]=(pv H2.length,H3):=by rw[mH];rfl
  have g3:H3.get H2.length=some ⟨rc bS,47,1,false⟩:=by rw[mH];exact aL
  have A:=ug H2.length r es H3 g3 rfl;obtain⟨H4,pW⟩: ∃z,z=H3.put H2.length ⟨[cv r.Fa,.bool r.found,cv r.key,cv r.value,cv r.n,s],47,1,false⟩:=⟨_,rfl⟩;rw[←pW] at A;have f4:Fr H2 o2 H4 (o2.up H2.length (-9)) []:=by rw[pW,mH];exact((Fr.refl _ _ _).new _ _).put λhh=>by omega
  have h4:=h2.uL f4 (by simp)
  have hc4:=(hc.fr f2 (by simp)).fr f4 (by simp)
  have hf4:Fr H o H4 (o2.up H2.length (-9)) wt:=(lj.trans f2 (rs:=wt) (λ_ h=>h) (λ_ h=>h)).trans f4 (λ_ h=>h) (by simp)
  simp -implicitDefEqProofs only[n0,A,sS,Nat.reduceAdd];cases e<;>simp -implicitDefEqProofs only[BU,sS,Nat.reduceAdd]
  ·exact Ev.ret (.inl ⟨rfl,kk-1,by omega,j+1,_,HD,L2,m2,_,_,_,_,_,_,_,_,_,_,_,_,_,by omega,rfl,hf4,hc4,h4,Z1,hP2⟩)
  ·exact Ev.ret (.inr ⟨by simp,rfl,_,HD,L2,m2,_,_,_,_,_,_,_,_,_,_,_,_,_,_,rfl,hf4,h4,⟨Z1.len,Z1.lists,λa ha=>by have:=Z1.tape a ha;omega⟩,hP2⟩)
 ·rintro e vs Hx ⟨he,o1,jJ,L1,m1,x4,aO,aN,bT,x5,bV,x7,cU,cC,x8,cH,x9,er,j9,rfl,lj,hw,wm,hP1⟩;simp only at he;subst he;simp -implicitDefEqProofs only[O7,CO,sS,Nat.reduceAdd];exact Ev.ret ⟨o1,jJ,L1,m1,lj,hw,wm,hP1⟩
theorem kG (a k:Int)(hk:0<k∧k≤1000000):aF (run G) 18 [cv a,cv k] H λv H'=>∃z,v=cv z∧0≤z∧z<k∧H'=H:=by
 refine Ev.up (t:=λn=>F18 (run G n) n (cv a) (cv k) H) ?_ λn=>Xj ..
 have h1:=Int.tmod_lt_of_pos a hk.1;have h2: -k<a.tmod k:=by
  have h3:=Int.tmod_lt_of_pos (-a) hk.1;rw[Int.neg_tmod] at h3;omega
 simp -implicitDefEqProofs only[F18,C1 _ a k (by omega),sS,Nat.reduceAdd]
 refine Ev.lss (λhq=>?_) (λhq=>?_)<;>try simp -implicitDefEqProofs only[OS,CG,sS,Nat.reduceAdd]
 ·refine Ev.ret ⟨_,rfl,?_,?_,rfl⟩
  ·rw[ga (by omega)];omega
  ·rw[ga (by omega)];omega
 ·exact Ev.ret ⟨_,rfl,by omega,by omega,rfl⟩
theorem Ua (t:TypeId)(a:Int):ai Tryz.prog .quo t (cv a) (cv 3)=some (cv (IntKind.i64.wrap (a.tdiv 3))):=mi _ a 3 (by decide)
theorem Vv (t:TypeId)(a:Int):ai Tryz.prog .quo t (cv a) (cv 14)=some (cv (IntKind.i64.wrap (a.tdiv 14))):=mi _ a 14 (by decide)
theorem Vw (t:TypeId)(a:Int):ai Tryz.prog .quo t (cv a) (cv 41)=some (cv (IntKind.i64.wrap (a.tdiv 41))):=mi _ a 41 (by decide)
theorem abU (a b c:Int):aE Tryz.prog 39 [(0,cv a),(1,cv b),(2,cv c)]=some (jx ⟨a,b,c⟩):=by kernel_rfl
theorem Vx (a:Int):aF (run G) 73 [cv a] H λv H'=>∃op,v=jx op∧Ext H H':=by
 refine Ev.up (t:=λn=>F73 (run G n) n (cv a) H) ?_ λn=>WN ..
 obtain⟨H1,gg⟩: ∃z,z=H.new ⟨[cv 0,cv 0,cv 0],39,1,false⟩:=⟨_,rfl⟩;have n0:aV H 39 1 [cv 0,cv 0,cv 0]=(pv H.length,H1):=by rw[gg];rfl
 have g1:H1.get H.length=some ⟨[cv 0,cv 0,cv 0],39,1,false⟩:=by rw[gg];exact aL
 have J0: ∀(k:Int) (x8:Value),Ev (λn=>Cw (run G n) n [cv a,pv H.length,cv k,x8] H1) λr=>∃op,r.1=jx op∧Ext H r.2:=by
  intro k x8;simp -implicitDefEqProofs only[OG,Cv,Vv,Vw,sS,Nat.reduceAdd];refine Ev.call (kG _ 41 (by omega)) ?_
  rintro v H' ⟨z1,rfl,_,_,rfl⟩
  try simp -implicitDefEqProofs only[Vv,Vw,sS,Nat.reduceAdd]
  refine Ev.call (kG _ 50 (by omega)) ?_
  rintro v H' ⟨z2,rfl,_,_,rfl⟩;have A: ∀(op:kp),bE 3 (pv H.length) (jx op) H'=some (undef,H'.put H.length ⟨n8 op,39,1,false⟩):=λop=>by simp[bE,bZ,g1,Value.cells,known,aD,dz]
  have B: ∀(op:kp),dh 3 (pv H.length) (H'.put H.length ⟨n8 op,39,1,false⟩)=some (jx op):=λop=>Rf (t:=39) (aG g1)
  simp -implicitDefEqProofs only[abU,A,B,sS,Nat.reduceAdd];refine Ev.ret ⟨_,rfl,?_⟩;show Ext H (H'.put H.length _)
  rw[gg];exact((Ext.refl H).new _).put (Nat.le_refl _)
 simp -implicitDefEqProofs only[F73,n0,sS,Nat.reduceAdd];refine Ev.call (kG _ 14 (by omega)) ?_
 rintro v H' ⟨z,rfl,_,_,rfl⟩
 try simp -implicitDefEqProofs only[sS,Nat.reduceAdd]
 refine Ev.gtr (λhq=>?_) (λhq=>?_)<;>try simp -implicitDefEqProofs only[sS,Nat.reduceAdd]
 ·refine Ev.call (kG _ 3 (by omega)) ?_
  rintro v H' ⟨z,rfl,_,_,rfl⟩
  try simp -implicitDefEqProofs only[sS,Nat.reduceAdd]
  exact J0 _ _
 ·exact J0 _ _
end
section
open Go.Proofs.YtgfgglponbmgmaaGreatA
variable {G:ae} {H H':aa} {o o':aj} {p c mp f xp n i mx:Nat} {K:aa→aj→Prop} {q:Int} {x:Value} {l:PL} {m m':Y.Mm} {T:List Int} {th:jz} {L:List kq} {N M:Nat}
abbrev m7:List Int:=[1,0,0,0,0,57,0]
abbrev DF (mx:Nat):Y.Mm:=⟨m7,mx⟩
theorem k57:Y.kd 57=1:=by decide
theorem a57:Y.aw 57=7:=by decide
theorem o57:Y.fm 1 7=57:=by decide
theorem abV:(DF mx).at 6=57:=by simp[Y.Mm.at,Y.Mm.used]
theorem abW:Y.lB (DF mx) 6=57:=by unfold Y.lB;rw[abV,if_pos (by decide)]
theorem JM.look (h:JM K mp m H):qp H mp m:=by
 obtain⟨_,o,hm,_⟩:=h;exact hm.look
theorem JM.ext (h:JM K mp m H)(e:Ext H H'):JM K mp m H':=by
 obtain⟨hK,o,hm,hk⟩:=h;have f:Fr H o H' (o.from H.length (-9)) []:=e.fr o (-9)
 exact⟨hK,_,hm.fr f (by simp) (by simp),hK _ _ _ _ hk (f.wk (by simp))⟩
theorem JM.lt (h:JM K mp m H):mp<H.length:=by
 obtain⟨_,o,⟨_,_,_,_,_,g,_⟩,_⟩:=h;exact ar g
def Bs (H:aa)(q n:Nat):Prop:=∃cells ty,H.get q=some ⟨cells,ty,1,false⟩∧cells.length=n∧∀j,j<n→∃b,cells[j]? =some (.bool b)
theorem Bs.idx {q:Nat}(h:Bs H q n){j:Nat}(hj:j<n):(∀H',cK 1 (.slice (some ⟨q,0,none⟩) n n) (cv j) H'=some (.pointer (some ⟨q,j,none⟩),H'))∧(∃b,aq (.pointer (some ⟨q,j,none⟩)) H=some (.bool b))∧∀b:Bool,∃H',bE 1 (.pointer (some ⟨q,j,none⟩)) (.bool b) H=some (undef,H')∧Bs H' q n∧(∀k,k≠q→H'[k]? =H[k]?)∧H'.length=H.length:=by
 obtain⟨cells,ty,g,hl,hc⟩:=h;refine⟨λH'=>?_,?_,λb=>⟨_,sA q j (.bool b) H g rfl (by simp;omega) rfl rfl rfl,⟨cells.set j (.bool b),ty,aG g,by simpa using hl,λk hk=>?_⟩,λk hk=>fF hk,iR _ _ _⟩⟩
 ·simp only[cK];rw[if_pos (by constructor<;>omega)];simp
 ·obtain⟨b,e⟩:=hc j hj;exact⟨b,(an q j H g).trans e⟩
 ·by_cases e:j=k
  ·subst e;exact⟨b,by rw[List.getElem?_set_self (by omega)]⟩
  ·rw[List.getElem?_set_ne e];exact hc k hk
theorem QD (h:JM K mp (DF mx) H){q:Nat}(hb:Bs H q 8):aF (run G) 170 [pv mp,cv 7,cv 1,.slice (some ⟨q,0,none⟩) 8 8] H λv H'=>(∃b,v= .bool b)∧(∀k,k≠q→H'[k]? =H[k]?)∧H'.length=H.length:=by
 refine Ev.up (t:=λk=>XJ (run G k) k (pv mp) (cv 7) (cv 1) (.slice (some ⟨q,0,none⟩) 8 8) H) ?_ λk=>Ss ..
 obtain⟨cr,jI,ref,s,ty,g,hl,hj⟩:=h.num;have L1:aq (.pointer (some ⟨mp,1,none⟩)) H=some s:=an mp 1 H g;have hl7:cE s=some (cv 7):=hl;have w1:IntKind.i64.wrap (7+1)=8:=by decide
 have w2:IntKind.i64.wrap (8-1)=7:=by decide
 obtain⟨b1,⟨bb,b2⟩,b3⟩:=hb.idx (j:=7) (by omega)
 obtain⟨H2,s2,hb2,hx2,hn2⟩:=b3 true;have b1': ∀H',cK 1 (.slice (some ⟨q,0,none⟩) 8 8) (cv 7) H'=some (.pointer (some ⟨q,7,none⟩),H'):=b1;simp -implicitDefEqProofs only[XJ,sS,Nat.reduceAdd];refine Ev.lss (λhq=>?_) (λhq=>?_)<;>try simp -implicitDefEqProofs only[L1,hl7,w1,w2,sS,Nat.reduceAdd]
 ·omega
 refine Ev.gtr (λhq=>?_) (λhq=>?_)<;>try simp -implicitDefEqProofs only[sS,Nat.reduceAdd]
 ·omega
 refine Ev.loop (k:=1) (λkk vs Hx=>∃(a:Int) (bL bV bJ:Value),vs=[pv mp,cv 7,cv 1,.slice (some ⟨q,0,none⟩) 8 8,.bool false,bL,cv a,bV,bJ]∧(∀k,k≠q→Hx[k]? =H[k]?)∧Hx.length=H.length∧Bs Hx q 8∧a+kk=8∧0≤a)
  (λr=>(∀k,k≠q→r.2.2[k]? =H[k]?)∧r.2.2.length=H.length∧∃(x8 bL x9 bV bJ:Value),r.2.1=[pv mp,cv 7,cv 1,.slice (some ⟨q,0,none⟩) 8 8,x8,bL,x9,bV,bJ]∧(r.1= .exit 0∨(r.1= .ret∧∃b,x8= .bool b))) ⟨7,_,_,_,rfl,λk hk=>rfl,rfl,hb,by omega,by omega⟩ ?_ ?_
 ·rintro kk vs Hx ⟨a,bL,bV,bJ,rfl,hx,hn,hbx,ha,ha0⟩;simp -implicitDefEqProofs only[LU,yl,w1,sS,Nat.reduceAdd];refine Ev.lss (λhq=>?_) (λhq=>?_)<;>try simp -implicitDefEqProofs only[sS,Nat.reduceAdd]
  ·obtain⟨j,rfl⟩: ∃j:Nat,a=j:=⟨a.toNat,by omega⟩
   obtain⟨c1,⟨cb,c2⟩,c3⟩:=hbx.idx (j:=j) (by omega)
   obtain⟨H3,s3,hb3,ZM,TU⟩:=c3 true;have hw:IntKind.i64.wrap ((j:Int)+1)=(j:Int)+1:=ga (by omega)
   simp -implicitDefEqProofs only[c1,c2,sS,Nat.reduceAdd];cases cb<;>simp -implicitDefEqProofs only[c1,s3,hw,sS,Nat.reduceAdd]
   ·exact Ev.ret (.inl ⟨rfl,kk-1,by omega,(j:Int)+1,_,_,_,rfl,λk hk=>by show H3[k]? =_;rw[ZM k hk,hx k hk],TU.trans hn,hb3,by omega,by omega⟩)
   ·exact Ev.ret (.inr ⟨by simp,hx,hn,_,_,_,_,_,rfl,.inr ⟨rfl,_,rfl⟩⟩)
  ·exact Ev.ret (.inr ⟨by simp,hx,hn,_,_,_,_,_,rfl,.inl rfl⟩)
 ·rintro e vs Hx ⟨hx,hn,x8,bL,x9,bV,bJ,rfl,he⟩;rcases he with he|⟨he,b,rfl⟩
  ·simp only at he;subst he;simp -implicitDefEqProofs only[LV,ym,sS,Nat.reduceAdd];exact Ev.ret ⟨⟨_,rfl⟩,hx,hn⟩
  ·simp only at he;subst he;show Ev (λ_=>some (Value.bool b,Hx)) _
   exact Ev.ret ⟨⟨_,rfl⟩,hx,hn⟩
theorem Ext.at {q:Nat}{H0:aa}(hq:q=H0.length){Hx:aa}{b:eW}(h1: ∀k,k≠q→Hx[k]? =(H0.new b)[k]?)(h2:Hx.length=(H0.new b).length):Ext H0 Hx:=
 ⟨λj hj=>by rw[h1 j (by omega),mR hj],by rw[h2,cD];omega⟩
theorem QE (h:JM K mp (DF mx) H):aF (run G) 133 [pv mp] H λv H'=>(∃b,v= .bool b)∧Ext H H':=by
 refine Ev.up (t:=λk=>XZ (run G k) k (pv mp) H) ?_ λk=>SC ..
 obtain⟨hK,o,⟨cr,jI,ref,s,ty,g,ho,hs,NF⟩,hk⟩:=id h;have hs:oQ H o (-71) s m7:=hs;have L1:aq (.pointer (some ⟨mp,1,none⟩)) H=some s:=an mp 1 H g;have hl7:cE s=some (cv 7):=hs.ints.1.len;obtain⟨q0,Zg,b0,a1,a2,a3⟩:=hs.ints.1.idx (j:=0) (by decide)
 obtain⟨q2,nU,b2,c1,c2,c3⟩:=hs.ints.1.idx (j:=2) (by decide)
 have A:aq (.pointer (some ⟨q0,Zg,none⟩)) H=some (cv 1):=(an q0 Zg H a2).trans a3;have C:aq (.pointer (some ⟨q2,nU,none⟩)) H=some (cv 0):=(an q2 nU H c2).trans c3;have a1': ∀H',cK 1 s (cv 0) H'=some (.pointer (some ⟨q0,Zg,none⟩),H'):=a1;have Va: ∀H',cK 1 s (cv 2) H'=some (.pointer (some ⟨q2,nU,none⟩),H'):=c1;have w8:IntKind.i64.wrap (7+1)=8:=by decide
 have hmk:Wj 4 1 1 [.bool false] (cv 8) (cv 8) H=some (.slice (some ⟨H.length,0,none⟩) 8 8,H.new ⟨bK [.bool false] 8,4,1,false⟩):=rfl;have hB:Bs (H.new ⟨bK [.bool false] 8,4,1,false⟩) H.length 8:=⟨bK [.bool false] 8,_,aL,rfl,λj hj=>⟨false,by
  have:bK [Value.bool false] 8=List.replicate 8 (.bool false):=rfl;rw[this,List.getElem?_replicate,if_pos hj]⟩⟩
 simp -implicitDefEqProofs only[XZ,L1,hl7,sS,Nat.reduceAdd];refine Ev.lss (λhq=>?_) (λhq=>?_)<;>try simp -implicitDefEqProofs only[L1,a1',A,sS,Nat.reduceAdd]
 ·omega
 refine Ev.neq (λhq=>?_) (λhq=>?_)<;>try simp -implicitDefEqProofs only[L1,Va,C,sS,Nat.reduceAdd]
 ·exact Ev.ret ⟨⟨_,rfl⟩,.refl _⟩
 refine Ev.neq (λhq=>?_) (λhq=>?_)<;>try simp -implicitDefEqProofs only[L1,hl7,w8,hmk,sS,Nat.reduceAdd]
 ·exact Ev.ret ⟨⟨_,rfl⟩,.refl _⟩
 refine Ev.loop (k:=6) (λkk vs Hx=>∃(j:Nat) (x2 cd dM:Value),vs=[pv mp,x2,cd,cv j,dM,.slice (some ⟨H.length,0,none⟩) 8 8]∧(∀k,k≠H.length→Hx[k]? =(H.new ⟨bK [.bool false] 8,4,1,false⟩)[k]?)∧Hx.length=(H.new ⟨bK [.bool false] 8,4,1,false⟩).length∧Bs Hx H.length 8∧j+kk=7)
  (λr=>r.1= .exit 0∧∃(x2 cd x4 dM:Value),r.2.1=[pv mp,x2,cd,x4,dM,.slice (some ⟨H.length,0,none⟩) 8 8]∧(∀k,k≠H.length→r.2.2[k]? =(H.new ⟨bK [.bool false] 8,4,1,false⟩)[k]?)∧r.2.2.length=(H.new ⟨bK [.bool false] 8,4,1,false⟩).length∧Bs r.2.2 H.length 8) ⟨1,_,_,_,rfl,λk hk=>rfl,rfl,hB,rfl⟩ ?_ ?_
 ·rintro kk vs Hx ⟨j,x2,cd,dM,rfl,hx,hn,hb,hj⟩;have hw:IntKind.i64.wrap ((j:Int)+1)=((j+1:Nat):Int):=by rw[ga (by omega)];omega
  simp -implicitDefEqProofs only[LX,yo,sS,Nat.reduceAdd];refine Ev.leq (λhq=>?_) (λhq=>?_)<;>try simp -implicitDefEqProofs only[sS,Nat.reduceAdd]
  ·obtain⟨d1,_,d3⟩:=hb.idx (j:=j) (by omega)
   obtain⟨H3,s3,hb3,ZM,TU⟩:=d3 true;simp -implicitDefEqProofs only[d1,s3,hw,sS,Nat.reduceAdd];exact Ev.ret (.inl ⟨rfl,kk-1,by omega,j+1,_,_,_,rfl,λk hk=>by show H3[k]? =_;rw[ZM k hk,hx k hk],TU.trans hn,hb3,by omega⟩)
  ·exact Ev.ret (.inr ⟨by simp,rfl,_,_,_,_,rfl,hx,hn,hb⟩)
 ·rintro e vs Hx ⟨he,x2,cd,x4,dM,rfl,hx,hn,hb⟩;simp only at he hx hn hb;subst he;have ex:Ext H Hx:=Ext.at rfl hx hn;have TP:=h.ext ex;simp -implicitDefEqProofs only[LY,yq,sS,Nat.reduceAdd];refine Ev.call (Q1:=λv H'=>(∃b,v= .bool b)∧Ext H H') ?_ ?_
  ·refine Ev.up (t:=λk=>SF (run G k) k (pv mp) (cv 6) (cv (-9223372036854775808)) (cv 9223372036854775807) (.slice (some ⟨H.length,0,none⟩) 8 8) Hx) ?_ λk=>SG ..
   simp -implicitDefEqProofs only[SF,sS,Nat.reduceAdd];refine Ev.is (Dq TP.look TP.Aw 6) ?_;rw[abV];refine Ev.is (hX 57) ?_;rw[k57]
   try simp -implicitDefEqProofs only[sS,Nat.reduceAdd]
   refine Ev.eql (λhq=>?_) (λhq=>?_)<;>try simp -implicitDefEqProofs only[SF,Mb,yv,sS,Nat.reduceAdd]
   ·omega
   refine Ev.is (wj TP.look TP.Aw 6) ?_;rw[abW];refine Ev.call (Q1:=λv H'=>(∃b,v= .bool b)∧Ext H H') ?_ ?_
   ·refine Ev.up (t:=λk=>WY (run G k) k (pv mp) (cv 57) (cv (-9223372036854775808)) (cv 9223372036854775807) (.slice (some ⟨H.length,0,none⟩) 8 8) Hx) ?_ λk=>RY ..
    simp -implicitDefEqProofs only[WY,sS,Nat.reduceAdd];refine Ev.is (n3 57) ?_;rw[a57];refine Ev.is (hX 57) ?_;rw[k57]
    try simp -implicitDefEqProofs only[sS,Nat.reduceAdd]
    refine Ev.eql (λhq=>?_) (λhq=>?_)<;>try simp -implicitDefEqProofs only[sS,Nat.reduceAdd]
    rotate_left
    ·omega
    refine Ev.call (QD TP hb) ?_;rintro v H3 ⟨⟨b,rfl⟩,ZM,TU⟩
    try simp -implicitDefEqProofs only[sS,Nat.reduceAdd]
    exact Ev.ret ⟨⟨_,rfl⟩,Ext.at rfl (λk hk=>by show H3[k]? =_;rw[ZM k hk];exact hx k hk) (TU.trans hn)⟩
   rintro v H2 ⟨⟨b,rfl⟩,ex2⟩
   try simp -implicitDefEqProofs only[sS,Nat.reduceAdd]
   exact Ev.ret ⟨⟨_,rfl⟩,ex2⟩
  rintro v H2 ⟨⟨b,rfl⟩,ex2⟩
  try simp -implicitDefEqProofs only[sS,Nat.reduceAdd]
  exact Ev.ret ⟨⟨_,rfl⟩,ex2⟩
theorem No:aF (run G) 134 [pv mp,cv 57] H λv H'=>v=aA∧H'=H:=by
 refine Ev.up (t:=λk=>Se (run G k) k (pv mp) (cv 57) H) ?_ λk=>Sf ..
 simp -implicitDefEqProofs only[Se,sS,Nat.reduceAdd];refine Ev.is (n3 57) ?_;rw[a57];refine Ev.is (hX 57) ?_;rw[k57]
 try simp -implicitDefEqProofs only[sS,Nat.reduceAdd]
 refine Ev.eql (λhq=>?_) (λhq=>?_)<;>try simp -implicitDefEqProofs only[sS,Nat.reduceAdd]
 ·omega
 refine Ev.eql (λhq=>?_) (λhq=>?_)<;>try simp -implicitDefEqProofs only[sS,Nat.reduceAdd]
 ·omega
 refine Ev.eql (λhq=>?_) (λhq=>?_)<;>try simp -implicitDefEqProofs only[Se,LF,xX,sS,Nat.reduceAdd]
 ·omega
 exact Ev.ret ⟨rfl,rfl⟩
theorem QF (h:JM K mp (DF mx) H):aF (run G) 108 [pv mp] H λv H'=>v=aA∧Ext H H':=by
 refine Ev.up (t:=λk=>XX (run G k) k (pv mp) H) ?_ λk=>SA ..
 simp -implicitDefEqProofs only[XX,sS,Nat.reduceAdd];refine Ev.call (QE h) ?_;rintro v H1 ⟨⟨b,rfl⟩,ex⟩;have h1:=h.ext ex;cases b<;>simp -implicitDefEqProofs only[sS,Nat.reduceAdd]
 ·exact Ev.ret ⟨rfl,ex⟩
 refine Ev.is (wj h1.look h1.Aw 6) ?_;rw[abW];refine Ev.call No ?_;rintro v H2 ⟨rfl,rfl⟩
 try simp -implicitDefEqProofs only[sS,Nat.reduceAdd]
 exact Ev.ret ⟨rfl,ex⟩
end
section
open Go.Proofs.YtgfgglponbmgmaaGreatA
def lC (g:Nat→Nat):Nat→Nat
 |0=>0
 |i+1=>lC g i+g i
theorem Du (g:Nat→Nat){i:Nat}: ∀j,i≤j→lC g i≤lC g j
 |0,h=>by
  have:i=0:=by omega
  subst this;exact Nat.le_refl _
 |j+1,h=>by
  rcases Nat.lt_or_ge j i with k|k
  ·have:i=j+1:=by omega
   subst this;exact Nat.le_refl _
  ·have:=Du g j k
   simp only[lC];omega
def dO:Nat→Nat→Nat
 |0,_=>0
 |f+1,n=>if n<2 then n+1 else 4+2*(Y.bq n).toNat+lC (λi:Nat=>dO f (Y.cj n i).toNat) (Y.bq n).toNat
structure BT (G:Y.Ga) (m:Y.Mm) (p:List Nat) (r:Int×Y.Mm) (c:Nat) (G':Y.Ga):Prop where
 inv:Y.bs G' r.2
 calm:Y.Calm G'
 le:G.le G'
 fit:Y.di G' p r.1
 len:r.2.cs.length=m.cs.length+c
 max:r.2.max=m.max
theorem HF {m:Y.Mm}{ws:List Int}(h0:ws≠[])(h:ws.length+m.cs.length≤m.max):Y.Qe m ws=((m.cs.length:Int)+1,⟨m.cs++ws,m.max⟩):=by
 simp only[Y.Qe,Y.db];rw[if_neg (by
  rintro(a|a)
  ·exact h0 a
  ·omega)]
theorem Rc {G:Y.Ga}{m:Y.Mm}(i:Y.bs G m){k:Nat}(h1:1≤k)(h:k+m.cs.length≤m.max):(1:Int)≤m.cs.length+1∧(m.cs.length:Int)+1≤65536:=by
 have:=i.top;omega
theorem Fz: ∀(f:Nat) {l:PL} {m:Y.Mm} {G:Y.Ga} (p:List Nat),l.length+1≤f→l.length≤16384→Y.bs G m→Y.Calm G→m.cs.length+dO f l.length≤m.max→∃G',BT G m p (Y.dN f l m) (dO f l.length) G':=by
 intro f;induction f with
 |zero=>intro l m G p h;omega
 |succ f ih=>
  intro l m G p hf hl i hc hr
  match l,hf,hl,hr with
  | [],hf,hl,hr=>
   have ec:dO (f+1) ([]:PL).length=1:=by simp[dO]
   rw[ec] at hr ⊢;have e:=HF (m:=m) (ws:=[0]) (by simp) (by simp;omega)
   have eb:Y.dN (f+1) [] m=(Y.fm 1 (m.cs.length+1),⟨m.cs++[0],m.max⟩):=by unfold Y.dN;simp only[e]
   rw[eb];have i1:=i.make (r:=.empty) (ws:=[0]) rfl (by simp;omega)
   exact⟨_,i1,hc.make,Y.Ga.nF i.Fg,⟨Y.n6.fm (r:=.empty) (by omega) (Rc i (k:=1) (by omega) (by omega)) (by simp[Y.Ga.make]),.inl (Y.iE (by omega) (Rc i (k:=1) (by omega) (by omega)))⟩,by simp,rfl⟩
  | [kv],hf,hl,hr=>
   have ec:dO (f+1) ([kv]:PL).length=2:=by simp[dO]
   rw[ec] at hr ⊢;have e:=HF (m:=m) (ws:=[kv.1,kv.2]) (by simp) (by simp;omega)
   have eb:Y.dN (f+1) [kv] m=(Y.fm 2 (m.cs.length+1),⟨m.cs++[kv.1,kv.2],m.max⟩):=by unfold Y.dN;simp only[e]
   rw[eb];have i1:=i.make (r:=.leaf) (ws:=[kv.1,kv.2]) rfl (by simp;omega)
   exact⟨_,i1,hc.make,Y.Ga.nF i.Fg,⟨Y.n6.fm (r:=.leaf) (by omega) (Rc i (k:=1) (by omega) (by omega)) (by simp[Y.Ga.make]),.inr (.inl (Y.iE (by omega) (Rc i (k:=1) (by omega) (by omega))))⟩,by simp,rfl⟩
  |a::b::l,hf,hl,hr=>
   obtain⟨L,eL⟩: ∃L,L=a::b::l:=⟨_,rfl⟩;rw[←eL] at hf hl hr ⊢;have hL2:2≤L.length:=by rw[eL];simp
   have sT:2≤(L.length:Int)∧(L.length:Int)≤16384:=by omega
   have eb:Y.dN (f+1) L m=Y.iF f L (Y.bq L.length).toNat 0 0 [] [] m:=by rw[eL];unfold Y.dN;rfl
   rw[eb];obtain⟨d,hd⟩: ∃d:Nat,(d:Int)=Y.bq L.length:=⟨(Y.bq L.length).toNat,by have:=Y.nJ sT;omega⟩
   have Re:=Y.nJ sT;obtain⟨g,eg⟩: ∃g:Nat→Nat,g=λi:Nat=>dO f (Y.cj L.length i).toNat:=⟨_,rfl⟩
   have ec:dO (f+1) L.length=4+2*d+lC g d:=by
    show(if L.length<2 then L.length+1 else _)=_
    rw[if_neg (by omega),eg]
    have:(Y.bq L.length).toNat=d:=by omega
    rw[this]
   rw[ec] at hr ⊢;have Ub:(Y.bq L.length).toNat=d:=by omega
   rw[Ub];have key: ∀(r i:Nat) (cI:Nat) (q c:List Int) (m1:Y.Mm) (G1:Y.Ga),i+r=d→(cI:Int)=cG L.length i→c.length=i→(i=0∧q=[]∨q.length+1=i)→(∀j,j<i→Y.di G1 (p++[j]) (c.getD j 0))→Y.bs G1 m1→Y.Calm G1→G.le G1→m1.max=m.max→m1.cs.length=m.cs.length+lC g i→
     ∃G',BT G m p (Y.iF f L r i cI q c m1) (4+2*d+lC g d) G':=by
    intro r;induction r with
    |zero=>
     intro i cI q c m1 G1 hi _ D0 hq jn i1 c1 g1 NF hlen;have N1:i=d:=by omega
     subst N1;unfold Y.iF;have hw:c.length=q.length+1:=by omega
     have hwl:(Y.cT L.length q c).length=4+2*i:=by
      unfold Y.cT;rw[if_neg (by omega)];simp;omega
     have e:=HF (m:=m1) (ws:=Y.cT L.length q c) (by intro h;rw[h] at hwl;simp at hwl;omega) (by rw[hwl];omega)
     simp only[e];have i2:=i1.make (r:=.inner i p) (ws:=Y.cT L.length q c) ⟨by omega,L.length,q,c,rfl,D0,by omega,λj hj=>.inr (jn j hj)⟩ (by rw[hwl];omega)
     have F1:=Rc i1 (k:=1) (by omega) (by omega)
     refine⟨_,i2,c1.make,g1.trans (Y.Ga.nF i1.Fg),⟨Y.n6.fm (r:=.inner i p) (by omega) F1 (by simp[Y.Ga.make]),.inr (.inr (.inl ⟨Y.iE (by omega) F1,i,?_,?_⟩))⟩,by simp[hwl];omega,NF⟩
     ·rw[Y.jb (by omega) F1];simp[Y.Ga.make]
     ·rw[Y.jb (by omega) F1]
      intro j hj;refine .inr ⟨i,p,j,rfl,hj,rfl,?_⟩;have:=Y.Bv (a:=L.length) hw (i:=j) (by omega)
      rw[D0] at this;rw[this];exact(jn j hj).U3
    |succ r ihr=>
     intro i cI q c m1 G1 hi ZX D0 hq jn i1 c1 g1 NF hlen;have N1:(i:Int)<bq L.length:=by rw[←pU];omega
     have uU:=ki sT (i:=i) ⟨by omega,N1⟩
     have hpi:=vZ sT (i:=i) N1;obtain⟨s,hs⟩: ∃s:Nat,(s:Int)=Y.cj L.length i:=⟨(Y.cj L.length i).toNat,by rw[sL];omega⟩
     have es:(Y.cj L.length i).toNat=s:=by omega
     rw[sL] at hs;have Vp:((L.drop cI).take s).length=s:=by simp;omega
     have hgi:g i=dO f s:=by rw[eg];simp only[es]
     have hle:=Du g (i:=i+1) d (by omega)
     have hsi:lC g (i+1)=lC g i+dO f s:=by show lC g i+g i=_;rw[hgi]
     unfold Y.iF;simp only[es];obtain⟨G2,b⟩:=ih (l:=(L.drop cI).take s) (m:=m1) (G:=G1) (p++[i]) (by rw[Vp];omega) (by rw[Vp];omega) i1 c1 (by rw[Vp,NF];omega)
     rw[Vp] at b;refine ihr (i+1) (cI+s) _ _ _ G2 (by omega) ?_ (by simp[D0]) ?_ ?_ b.inv b.calm (g1.trans b.le) (by rw[b.max,NF]) (by rw[b.len,hlen,hsi];omega)
     ·rw[cG];omega
     ·rcases hq with⟨rfl,rfl⟩|hq
      ·exact .inr rfl
      ·refine .inr ?_;rw[if_pos (by omega)];simp;omega
     ·intro j hj;by_cases e:j=i
      ·subst e;simp only[List.getD_eq_getElem?_getD];rw[List.getElem?_append_right (by omega)]
       simp[D0];exact b.fit
      ·simp only[List.getD_eq_getElem?_getD];rw[List.getElem?_append_left (by omega)]
       have:=(jn j (by omega)).mono b.le
       simpa only[List.getD_eq_getElem?_getD] using this
   exact key d 0 0 [] [] m G (by omega) (by simp[cG]) rfl (.inl ⟨rfl,rfl⟩) (λj hj=>by omega) i hc (Y.Ga.le.refl _) rfl (by simp[lC])
end
end Go.Proofs.YtgfgglponbmgmaaGreat.Fun
end
