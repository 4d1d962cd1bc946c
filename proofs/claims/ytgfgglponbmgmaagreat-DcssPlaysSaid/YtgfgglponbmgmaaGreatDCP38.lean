/- Texts of the proof of dcssPlays_holds, put together by a small program of ours (names shortened, spaces taken out). No condition beyond the given statement. -/
import Derived.Test.YtgfgglponbmgmaaGreatDCP10
import Derived.Test.YtgfgglponbmgmaaGreatDCP13
import Derived.Test.YtgfgglponbmgmaaGreatDCP14
import Derived.Test.YtgfgglponbmgmaaGreatDCP15
import Derived.Test.YtgfgglponbmgmaaGreatDCP37
import Derived.Test.YtgfgglponbmgmaaGreatDCP16
import Derived.Test.YtgfgglponbmgmaaGreatDCP18
set_option linter.unusedVariables false
set_option linter.unusedSimpArgs false
set_option linter.unnecessarySimpa false
noncomputable section
section
namespace Go.Proofs.YtgfgglponbmgmaaGreat.Fun
open Go Go.RowKit Go.Proofs.YtgfgglponbmgmaaGreatA.Am
set_option maxRecDepth 10000
section
open Go.Proofs.YtgfgglponbmgmaaGreatA
variable {G:ae} {H H':aa} {o o':aj} {p c mp f xp n i mx:Nat} {K:aa→aj→Prop} {q:Int} {x:Value} {l:PL} {m m':Y.Mm} {T:List Int} {th:jy} {L:List jV} {N M:Nat}
theorem acb (hx:gU H o q x l)(hl:l.length≤100000):aF (run G) 132 [x] H (PJ H):=by
 refine Ev.up (t:=λn=>W5 (run G n) n x H) ?_ λn=>RS ..
 simp -implicitDefEqProofs only[W5,sS,Nat.reduceAdd];refine Ev.loop (k:=l.length) (λkk vs Hx=>∃(j:Nat) (x7 bq:Value),vs=[x,.bool false,cv (j+1:Nat),x7,bq]∧Hx=H∧j+kk=l.length)
  (λr=>r.2.2=H∧∃(x2 x3 x7 bq:Value),r.2.1=[x,x2,x3,x7,bq]∧(r.1= .exit 0∨(r.1= .ret∧∃b,x2= .bool b))) ⟨0,_,_,rfl,rfl,by omega⟩ ?_ ?_
 ·rintro kk vs Hx ⟨j,x7,bq,rfl,rfl,hj⟩;have hw:IntKind.i64.wrap (((j+1:Nat):Int)+1)=((j+1+1:Nat):Int):=by rw[gz (by omega)];omega
  have w5:IntKind.i64.wrap (((j+1:Nat):Int)-1)=(j:Int):=by rw[gz (by omega)];omega
  simp -implicitDefEqProofs only[Kz,xr,hx.len,sS,Nat.reduceAdd];refine Ev.lss (λhq=>?_) (λhq=>?_)<;>try simp -implicitDefEqProofs only[sS,Nat.reduceAdd]
  ·obtain⟨i',off,b',e1,e2,e3,e4⟩:=hx.idx (j:=j+1) (by omega)
   obtain⟨e5,_,_⟩:=e4 _ e2;obtain⟨i2,nT,b2,f1,f2,f3,f4⟩:=hx.idx (j:=j) (by omega)
   obtain⟨f5,_,_⟩:=f4 _ f2;simp -implicitDefEqProofs only[e1,gX,Nat.add_zero,e5,w5,f1,f5,sS,Nat.reduceAdd];refine Ev.leq (λhq=>?_) (λhq=>?_)<;>try simp -implicitDefEqProofs only[hw,sS,Nat.reduceAdd]
   ·exact Ev.ret (.inr ⟨by simp,rfl,_,_,_,_,rfl,.inr ⟨rfl,_,rfl⟩⟩)
   ·exact Ev.ret (.inl ⟨rfl,kk-1,by omega,j+1,_,_,rfl,rfl,by omega⟩)
  ·exact Ev.ret (.inr ⟨by simp,rfl,_,_,_,_,rfl,.inl rfl⟩)
 ·rintro e vs Hx ⟨DR,x2,x3,x7,bq,rfl,he⟩;simp only at DR;subst DR;rcases he with he|⟨he,b,rfl⟩
  ·simp only at he;subst he;simp -implicitDefEqProofs only[KA,xu,sS,Nat.reduceAdd];exact Ev.ret ⟨⟨_,rfl⟩,rfl⟩
  ·simp only at he;subst he;show Ev (λ_=>some (Value.bool b,Hx)) _
   exact Ev.ret ⟨⟨_,rfl⟩,rfl⟩
theorem V4 (hx:gU H o q x l)(hl:l.length≤16384):aF (run G) 107 [x] H (PJ H):=by
 refine Ev.up (t:=λk=>XP (run G k) k x H) ?_ λk=>Sm ..
 simp -implicitDefEqProofs only[XP,sS,Nat.reduceAdd];refine Ev.Y4 (acb hx (by omega)) λb=>?_
 cases b<;>simp -implicitDefEqProofs only[hx.len,sS,Nat.reduceAdd]
 ·exact Ev.ret ⟨⟨_,rfl⟩,rfl⟩
 refine Ev.leq (λhq=>?_) (λhq=>?_)<;>try simp -implicitDefEqProofs only[sS,Nat.reduceAdd]
 ·exact Ev.ret ⟨⟨_,rfl⟩,rfl⟩
 ·exact Ev.ret ⟨⟨_,rfl⟩,rfl⟩
theorem Uo (h:JM K mp m H)(hqq:q≠ -70∧q≠ -71)(hK: ∀H o,K H o→gU H o q x l)(hl:l.length≤1000):aF (run G) 109 [pv mp,x] H λv H'=>
  (v= .tuple #[cv 0,.bool false]∧JM K mp m H')∨(v= .tuple #[cv (Y.dM (l.length+1) l m).1,.bool true]∧JM K mp (Y.dM (l.length+1) l m).2 H'∧m.cs.length+dN (l.length+1) l.length≤m.max):=by
 refine Ev.up (t:=λk=>X3 (run G k) k (pv mp) x H) ?_ λk=>Sw ..
 obtain⟨cl,jH,ref,s,ty,g,hls,hj⟩:=h.num;obtain⟨_,o,hm,hk⟩:=id h;have hx:=hK _ _ hk;have TY:=hm.Au;have L0:aq (pv mp) H=some (cv m.max):=an mp 0 H g;have L1:aq (.pointer (some ⟨mp,1,none⟩)) H=some s:=an mp 1 H g;have AM:oj s s=true:=by
  cases s<;>simp[cD] at hls;exact kN ..
 have w1:IntKind.i64.wrap ((m.max:Int)-m.cs.length)=(m.max:Int)-m.cs.length:=gz (by omega)
 simp -implicitDefEqProofs only[X3,sS,Nat.reduceAdd];refine Ev.Y4 (V4 hx (by omega)) λb=>?_
 cases b<;>simp -implicitDefEqProofs only[hx.len,sS,Nat.reduceAdd]
 ·exact Ev.ret (.inl ⟨rfl,h⟩)
 refine Ev.is (Ui (l.length+1) (by omega) (by omega)) ?_
 simp -implicitDefEqProofs only[L0,L1,hls,w1,AM,Nat.add_zero,lS,sS,Nat.reduceAdd];refine Ev.gtr (λhq=>?_) (λhq=>?_)<;>try simp -implicitDefEqProofs only[L0,L1,AM,lS,sS,Nat.reduceAdd]
 ·exact Ev.ret (.inl ⟨rfl,h⟩)
 refine Ev.call (Uk l.length rfl (by omega) h hqq hK (f:=l.length+1) (Nat.le_refl _)) ?_
 rintro v H4 ⟨rfl,jc⟩
 try simp -implicitDefEqProofs only[sS,Nat.reduceAdd]
 exact Ev.ret (.inr ⟨rfl,jc,by omega⟩)
theorem WR.mem (h:WR H o xp mp m th L)(f:Fr H o H' o' [-70, -71])(hm:lL H' o' mp m'):WR H' o' xp mp m' th L:=by
 obtain⟨_,_,_,_,_,_,_,_,_,_,_,_,_,_,_,_,mQ,_⟩:=id h;have hw:=h.Fe (i:=0) (s':=th 0) (by omega) (f.wk (by simp)) ((mQ 0 (by omega)).fr f (by simp) (by simp) (by simp) (by simp)) rfl hm
 have e:Fun.oU th 0 (th 0)=th:=by
  funext j
  unfold Fun.oU;split
  ·rename_i e;rw[e]
  ·rfl
 rw[e] at hw;exact hw
theorem ZR (h:WR H o xp mp m th L):aF (run G) 106 [pv xp] H λv H'=>(∃b,v= .bool b)∧H'=H:=by
 refine Ev.up (t:=λk=>XA (run G k) k (pv xp) H) ?_ λk=>Se ..
 obtain⟨tb,cap,inv,dG,e3,e4,e6,e7,eT,_⟩:=h.n7;simp -implicitDefEqProofs only[XA,sS,Nat.reduceAdd];refine Ev.loop (k:=3) (λkk vs Hx=>∃(j:Nat) (aD bE:Value),vs=[pv xp,.bool false,cv j,aD,bE]∧Hx=H∧j+kk=3)
  (λr=>r.2.2=H∧∃(x2 x3 aD bE:Value),r.2.1=[pv xp,x2,x3,aD,bE]∧(r.1= .exit 0∨(r.1= .ret∧∃b,x2= .bool b))) ⟨0,_,_,rfl,rfl,rfl⟩ ?_ ?_
 ·rintro kk vs Hx ⟨j,aD,bE,rfl,rfl,hj⟩;have hw:IntKind.i64.wrap ((j:Int)+1)=((j+1:Nat):Int):=by rw[gz (by omega)];omega
  simp -implicitDefEqProofs only[K7,xN,e4,cD,sS,Nat.reduceAdd];refine Ev.lss (λhq=>?_) (λhq=>?_)<;>try simp -implicitDefEqProofs only[sS,Nat.reduceAdd]
  ·have gE:j<3:=by omega
   obtain⟨Uc,Ud⟩:=eT j gE;obtain⟨no,b1,b7,b8⟩:=h.VU gE;simp -implicitDefEqProofs only[e4,Uc,Ud,b1,sS,Nat.reduceAdd];cases(th j).busy<;>simp -implicitDefEqProofs only[hw,sS,Nat.reduceAdd]
   ·exact Ev.ret (.inl ⟨rfl,kk-1,by omega,j+1,_,_,rfl,rfl,by omega⟩)
   ·exact Ev.ret (.inr ⟨by simp,rfl,_,_,_,_,rfl,.inr ⟨rfl,_,rfl⟩⟩)
  ·exact Ev.ret (.inr ⟨by simp,rfl,_,_,_,_,rfl,.inl rfl⟩)
 ·rintro e vs Hx ⟨hx,x2,x3,aD,bE,rfl,he⟩;simp only at hx;subst hx;rcases he with he|⟨he,b,rfl⟩
  ·simp only at he;subst he;simp -implicitDefEqProofs only[K8,xO,sS,Nat.reduceAdd];exact Ev.ret ⟨⟨_,rfl⟩,rfl⟩
  ·simp only at he;subst he;show Ev (λ_=>some (Value.bool b,Hx)) _
   exact Ev.ret ⟨⟨_,rfl⟩,rfl⟩
theorem adE (r:eO)(pick:Int)(a:Option Addr)(m c:Nat):aE Tryz.prog 155 [(0,cv 4),(4,.agg #[cv 0,.bool false,cv 0,cv 0,cv 0,.slice a m c]),(5,cv pick)]=some (evA ⟨4,0,0,⟨0,0,0⟩,⟨0,false,0,0,0,r.list⟩,pick⟩ (.slice a m c)):=by kernel_rfl
theorem ZS (h:WR H o xp mp (Dz mx) th L)(hx:gU H o (-42) x l)(hl:l.length≤1000)(hI:Inv th L N M)(hN:N<4000000):aF (run G) 85 [pv xp,x] H λv H'=>∃o' L' m',Fr H o H' o' wt∧WR H' o' xp mp m' th L'∧Inv th L' (N+1) M∧QQ mx m':=by
 refine Ev.up (t:=λk=>F85 (run G k) k (pv xp) x H) ?_ λk=>X0 ..
 have uh:Inv th L (N+1) M:=⟨by have:=hI.len;omega,hI.lists,hI.tape⟩
 have hm:lL H o mp (Dz mx):=by
  obtain⟨_,_,_,_,_,_,_,_,_,_,_,_,_,_,_,hm,_⟩:=id h;exact hm
 simp -implicitDefEqProofs only[F85,sS,Nat.reduceAdd];refine Ev.call (ZR h) ?_;rintro v H1 ⟨⟨b,rfl⟩,rfl⟩;cases b<;>simp -implicitDefEqProofs only[sS,Nat.reduceAdd]
 ·exact Ev.ret ⟨o,L,_,Fr.refl _ _ _,h,uh,.inl rfl⟩
 refine Ev.Y4 (V4 hx (by omega)) λb=>?_
 obtain⟨tb,cap,inv,dG,e3,e4,e6,e7,eT,_⟩:=h.n7;cases b<;>simp -implicitDefEqProofs only[e3,sS,Nat.reduceAdd]
 ·exact Ev.ret ⟨o,L,_,Fr.refl _ _ _,h,uh,.inl rfl⟩
 have zZ:JM (λH' o'=>Fr H1 o H' o' [-70, -71]∧gU H' o' (-42) x l) mp (Dz mx) H1:=⟨(bL.base (by simp)).and (bL.kC (by simp)),o,hm,Fr.refl _ _ _,hx⟩
 refine Ev.call (QM zZ) ?_;rintro v H3 ⟨rfl,ex3⟩;have gE:=zZ.ext ex3;have hs0:cD aA=some (cv (0:Nat)):=rfl;simp -implicitDefEqProofs only[hs0,sS,Nat.reduceAdd];have back: ∀{Hx:aa} {m1:Y.Mm},JM (λH' o'=>Fr H1 o H' o' [-70, -71]∧gU H' o' (-42) x l) mp m1 Hx→∃ox,WR Hx ox xp mp m1 th L∧Fr H1 o Hx ox [-70, -71]∧gU Hx ox (-42) x l:=λhj=>by
  obtain⟨_,ox,hm,hf,hs⟩:=hj;exact⟨ox,h.mem hf hm,hf,hs⟩
 have ld3: ∀{Hx:aa} {m1:Y.Mm},JM (λH' o'=>Fr H1 o H' o' [-70, -71]∧gU H' o' (-42) x l) mp m1 Hx→aq (.pointer (some ⟨xp,3,none⟩)) Hx=some (pv mp):=λhj=>by
  obtain⟨ox,hw,_⟩:=back hj;obtain⟨_,_,_,_,e,_⟩:=hw.n7;exact e
 refine Ev.gtr (λhq=>?_) (λhq=>?_)<;>try simp -implicitDefEqProofs only[ld3 gE,sS,Nat.reduceAdd]
 ·simp at hq
 refine Ev.call (Uo gE (by decide) (λ_ _ a=>a.2) hl) ?_
 rintro v H4 (⟨rfl,jc⟩|⟨rfl,jc,acd⟩)<;>try simp -implicitDefEqProofs only[ld3 jc,sS,Nat.reduceAdd]
 ·obtain⟨o4,h4,f4,_⟩:=back jc;exact Ev.ret ⟨o4,L,_,f4.wk (by simp),h4,uh,.inl rfl⟩
 refine Ev.call (Fg jc 6 _) ?_;intro v H5 lJ;obtain⟨o5,h5,f5,hx5⟩:=back lJ;obtain⟨m5,em5⟩: ∃z,z=((Y.dM (l.length+1) l (Dz mx)).2).set 6 (Y.dM (l.length+1) l (Dz mx)).1:=⟨_,rfl⟩;rw[←em5] at h5;obtain⟨H6,Dy⟩: ∃t,t=H5.new ⟨[],45,2,false⟩:=⟨_,rfl⟩;have b0:=V3 H5;rw[←Dy] at b0;obtain⟨t,Qb,C2⟩:=gH o5 H5.length;have f6:Fr H5 o5 H6 (o5.up H5.length t) []:=by rw[Dy];exact(Fr.refl _ _ _).new _ _
 have s6:gZ H6 (o5.up H5.length t) t (.slice (some ⟨H5.length,0,none⟩) 0 0) []:=.inr ⟨H5.length,0,[],45,rfl,by rw[Dy];exact aK,by simp,aO⟩
 obtain⟨x7,H7,o7,ap,s7,f7,_⟩:=gZ.app 45 s6 (hx5.fr f6 (by simp)).src (by simp;omega)
 have f57:Fr H5 o5 H7 o7 []:=iL ((f6.wk (by simp)).tr f7) λi hi=>by have:=C2 i hi;omega
 obtain⟨o8,eo8⟩: ∃z:aj,z=λi=>if o7 i=t then -41 else o7 i:=⟨_,rfl⟩
 have f58:Fr H5 o5 H7 o8 []:=⟨f57.slot,λi hi=>by rw[eo8];show(if o7 i=t then(-41:Int) else o7 i)=_;rw[if_neg (by rw[f57.own i hi];have:=C2 i hi;omega)];exact f57.own i hi,f57.size⟩
 have s8:gU H7 o8 (-41) x7 l:=by
  have:=s7.r
  simp only[List.nil_append] at this;exact this.relabel λi hi Um=>by rw[eo8];exact if_pos Um
 have h7:=h5.uJ f58 (by simp)
 obtain⟨tb7,adv,adw,ui,i3,i4,i6,i7,iT,_⟩:=h7.n7;have hlI:=hI.len;obtain⟨xa,xc,exx⟩:=s8.isSlice;obtain⟨Lx,q1,q2,q3,x',H8,H9,o9,q4,q5,h9,f9⟩:=h7.app ⟨4,0,0,⟨0,0,0⟩,⟨0,false,0,0,0,l⟩,ui⟩ (s:=x7) s8 (by omega)
 obtain⟨c0,c1,c2,ace,oV,tb5,acf,Lx5,ad3,ty5,aeq,g5,_⟩:=id h5;have p5:aq (.pointer (some ⟨xp,5,none⟩)) H5=some Lx5:=an xp 5 H5 g5;have p57:aq (.pointer (some ⟨xp,7,none⟩)) H5=some (cv oV):=an xp 7 H5 g5;have g6:H6.get xp=some ⟨[cv c0,cv c1,cv c2,pv mp,.slice (some ⟨tb5,0,none⟩) 3 acf,Lx5,cv ace,cv oV],ty5,1,false⟩:=by rw[f6.same xp (ar g5) (by simp)];exact g5
 have p6:aq (.pointer (some ⟨xp,5,none⟩)) H6=some Lx5:=an xp 5 H6 g6;have p67:aq (.pointer (some ⟨xp,7,none⟩)) H6=some (cv oV):=an xp 7 H6 g6;have g7:H7.get xp=some ⟨[cv c0,cv c1,cv c2,pv mp,.slice (some ⟨tb5,0,none⟩) 3 acf,Lx5,cv ace,cv oV],ty5,1,false⟩:=by rw[f57.same xp (ar g5) (by simp)];exact g5
 have p7:aq (.pointer (some ⟨xp,5,none⟩)) H7=some Lx5:=an xp 5 H7 g7;have p77:aq (.pointer (some ⟨xp,7,none⟩)) H7=some (cv oV):=an xp 7 H7 g7;have eL:Lx5=Lx:=by rw[p7] at q1;simpa using q1
 subst eL;have eP:oV=ui:=by rw[p77] at i7;simpa using i7
 subst eP;subst exx;simp -implicitDefEqProofs only[p5,p6,p7,p57,p67,p77,b0,ap,aby,adE ⟨0,false,0,0,0,l⟩,Ua _ rfl,q2,q4,q5,q3,lS,sS,Nat.reduceAdd];refine Ev.ret ⟨o9,L++[⟨4,0,0,⟨0,0,0⟩,⟨0,false,0,0,0,l⟩,oV⟩],m5,((f5.trans f58 (rs:=wt) (by simp) (by simp)).trans f9 (λ_ h=>h) (by simp)),h9,⟨?_,?_,hI.tape⟩,.inr ⟨l.length+1,l,Nat.le_refl _,by omega,by simpa using acd,em5⟩⟩
 ·simp only[List.length_append,List.length_singleton];omega
 ·intro e he;rcases List.mem_append.1 he with he|he
  ·exact hI.lists e he
  ·have:e=⟨4,0,0,⟨0,0,0⟩,⟨0,false,0,0,0,l⟩,oV⟩:=by simpa using he
   subst this;show l.length≤_;omega
end
section
open Go.Proofs.YtgfgglponbmgmaaGreatA
variable {G:ae} {H H':aa} {o o':aj} {p c mp f xp n i mx c0:Nat} {K:aa→aj→Prop} {q:Int} {x:Value} {l:PL} {m m':Y.Mm} {T:List Int} {th:jy} {L:List jV} {N M:Nat}
theorem QT (h:JM K mp ⟨[],mx⟩ H)(Nu:150≤mx):aF (run G) 105 [pv mp] H λv H'=>JM K mp (Dz mx) H':=by
 refine Ev.up (t:=λn=>YP (run G n) n (pv mp) H) ?_ λn=>SZ ..
 obtain⟨cl,jH,ref,s,ty,g,hl,hj⟩:=h.num;have L0:aq (pv mp) H=some (cv mx):=an mp 0 H g;have L1:aq (.pointer (some ⟨mp,1,none⟩)) H=some s:=an mp 1 H g;simp only[List.length_nil,Int.natCast_zero] at hl;simp -implicitDefEqProofs only[YP,L1,hl,sS,Nat.reduceAdd];refine Ev.gtr (λhq=>?_) (λhq=>?_)<;>try simp -implicitDefEqProofs only[L0,Nat.add_zero,sS,Nat.reduceAdd]
 ·omega
 refine Ev.lss (λhq=>?_) (λhq=>?_)<;>try simp -implicitDefEqProofs only[sS,Nat.reduceAdd]
 ·omega
 refine Ev.is (pJ 1 7) ?_;rw[o57];simp -implicitDefEqProofs only[Ap,sS,Nat.reduceAdd];have hjn:JM K mp ⟨[],mx⟩ (H.new ⟨[cv 57],2,1,false⟩):=h.new _;refine Ev.call (sK 0 (q:=aA) (lq:=[]) (.inl ⟨rfl,rfl⟩) (lv [57] 2) rfl (by simp)) ?_
 intro w H2 w5;refine Ev.call (mR hjn w5) ?_;rintro v H3 ⟨_,gE⟩;refine Ev.call nI ?_;intro w H4 Tm;refine Ev.call (mR gE Tm) ?_;rintro v H5 ⟨_,lJ⟩
 try simp -implicitDefEqProofs only[sS,Nat.reduceAdd]
 have e1:(Y.dC ⟨[],mx⟩ (.mk (Y.cR 0 [] [57]))).2=⟨[1,0,0,0,0,57],mx⟩:=by
  have:Y.cR 0 [] [57]=[1,0,0,0,0,57]:=by decide
  rw[this];simp only[Y.dC];rw[if_neg (by simp;omega)];rfl
 have e2:(Y.dC ⟨[1,0,0,0,0,57],mx⟩ (.mk [0])).2=Dz mx:=by
  simp only[Y.dC];rw[if_neg (by simp;omega)];rfl
 rw[e1,e2] at lJ;exact Ev.ret lJ
abbrev Rl:List Value:=[cv 2,.bool false,cv 0,cv 0,cv 0,.pointer none,cv 0,.bool false,cv 0]
theorem QU (a:Int):aE Tryz.prog 130 [(0,cv a)]=some (.agg #[cv a,aA,cv 0,cv 0,cv 0]):=by kernel_rfl
theorem HA (a:Int)(H:aa):dK 130 (.agg #[cv a,aA,cv 0,cv 0,cv 0]) H=some (pv H.length,H.new ⟨[cv a,aA,cv 0,cv 0,cv 0],130,1,false⟩):=by
 simp[dK,Value.cells,aC,aS]
theorem ZT (hc:150≤c0∧c0<800):aF (run G) 104 [cv c0] H λv H'=>v= .tuple #[pv H.length,cv 0]∧H'=H.new ⟨[cv c0,aA,cv 0,cv 0,cv 0],130,1,false⟩:=by
 refine Ev.up (t:=λk=>YO (run G k) k (cv c0) H) ?_ λk=>SY ..
 simp -implicitDefEqProofs only[YO,QU,HA,sS,Nat.reduceAdd];refine Ev.lss (λhq=>?_) (λhq=>?_)<;>try simp -implicitDefEqProofs only[QU,HA,sS,Nat.reduceAdd]
 ·omega
 refine Ev.gtr (λhq=>?_) (λhq=>?_)<;>try simp -implicitDefEqProofs only[QU,HA,sS,Nat.reduceAdd]
 ·omega
 exact Ev.ret ⟨rfl,rfl⟩
theorem ZU (a b c:Int)(H:aa):dK 60 (.agg #[cv a,cv b,cv c]) H=some (pv H.length,H.new ⟨[cv a,cv b,cv c],60,1,false⟩):=by
 simp[dK,Value.cells,aC,aS]
theorem acg (a b c:Int)(k:Nat):aE Tryz.prog 65 [(0,.agg #[cv a,cv b,cv c]),(1,pv k)]=some (.agg #[cv a,cv b,cv c,pv k,aA,aA,cv 0,cv 0]):=by kernel_rfl
theorem ZV (a b c:Int)(k:Nat)(H:aa):dK 65 (.agg #[cv a,cv b,cv c,pv k,aA,aA,cv 0,cv 0]) H=some (pv H.length,H.new ⟨[cv a,cv b,cv c,pv k,aA,aA,cv 0,cv 0],65,1,false⟩):=by
 simp[dK,Value.cells,aC,aS]
theorem adF:aE Tryz.prog 116 [(0,cv 2)]=some (.agg Rl.toArray):=by kernel_rfl
theorem ach (H:aa):dK 116 (.agg Rl.toArray) H=some (pv H.length,H.new ⟨Rl,116,1,false⟩):=by
 simp[dK,Value.cells,aC,aS]
theorem adG (k:Nat)(H:aa):ay Tryz.prog 62 1 [(0,pv k)] H=some (.slice (some ⟨H.length,0,none⟩) 1 1,H.new ⟨[pv k],117,1,false⟩):=by kernel_rfl
structure NI (H:aa) (o:aj) (b0 xp mp:Nat) (c0:Nat) (tl:List Nat) (Ts:Value):Prop where
 cfg:Cl b0 [cv c0,cv 3,cv 2] 60 H o
 idx:H.get xp=some ⟨[cv c0,cv 3,cv 2,pv mp,Ts,aA,cv 0,cv 0],65,1,false⟩∧o xp= -80
 mem:lL H o mp (Dz c0)
 ts:(Ts=aA∧tl=[])∨∃tb ty,Ts= .slice (some ⟨tb,0,none⟩) tl.length tl.length∧H.get tb=some ⟨tl.map pv,ty,1,false⟩∧o tb= -81
 th: ∀(i t:Nat),tl[i]? =some t→H.get t=some ⟨Rl,116,1,false⟩∧o t= -200-i
theorem NI.grow {b0:Nat}{tl:List Nat}{Ts:Value}(h:NI H o b0 xp mp c0 tl Ts)(hj:tl.length<3): ∃QV H2 H3 o3,oj Ts Ts=true∧
  aq (.pointer (some ⟨xp,4,none⟩)) H=some Ts∧aq (.pointer (some ⟨xp,4,none⟩)) (H.new ⟨Rl,116,1,false⟩)=some Ts∧aq (.pointer (some ⟨xp,4,none⟩)) ((H.new ⟨Rl,116,1,false⟩).new ⟨[pv H.length],117,1,false⟩)=some Ts∧
  dj 117 1 8 Ts (.slice (some ⟨(H.new ⟨Rl,116,1,false⟩).length,0,none⟩) 1 1) ((H.new ⟨Rl,116,1,false⟩).new ⟨[pv H.length],117,1,false⟩)=some (QV,H2)∧
  bD 1 (.pointer (some ⟨xp,4,none⟩)) QV H2=some (undef,H3)∧NI H3 o3 b0 xp mp c0 (tl++[H.length]) QV∧Fr H o H3 o3 [-80, -81]:=by
 obtain⟨ZW,⟨gx,hox⟩,hm,hts,mQ⟩:=h;obtain⟨H1,fY⟩: ∃z,z=H.new ⟨Rl,116,1,false⟩:=⟨_,rfl⟩;have l1:H1.length=H.length+1:=by rw[fY,cC]
 obtain⟨sM,Na⟩: ∃z,z=H1.new ⟨[pv H.length],117,1,false⟩:=⟨_,rfl⟩;have l1b:sM.length=H.length+2:=by rw[Na,cC,l1]
 rw[←fY, ←Na];obtain⟨oA,Rk⟩: ∃z,z=(o.up H.length (-200-(tl.length:Int))).up H1.length (-9):=⟨_,rfl⟩;have f1:Fr H o sM oA []:=by
  rw[Na,Rk];have a:Fr H o H1 (o.up H.length (-200-(tl.length:Int))) []:=by rw[fY];exact(Fr.refl _ _ _).new _ _
  exact a.new _ _
 have VV:H1.get xp=some ⟨[cv c0,cv 3,cv 2,pv mp,Ts,aA,cv 0,cv 0],65,1,false⟩:=by rw[fY,dk (ar gx)];exact gx
 have QW:sM.get xp=some ⟨[cv c0,cv 3,cv 2,pv mp,Ts,aA,cv 0,cv 0],65,1,false⟩:=by rw[Na,dk (ar VV)];exact VV
 have aci:oA xp= -80:=by rw[f1.own xp (ar gx)];exact hox
 have ZX:sM.get H.length=some ⟨Rl,116,1,false⟩:=by rw[Na,dk (by omega),fY];exact aK
 have kR:oA H.length= -200-(tl.length:Int):=by rw[Rk,dO (by omega)];exact aO
 have adH:sM.get H1.length=some ⟨[pv H.length],117,1,false⟩:=by rw[Na];exact aK
 have AM:oj Ts Ts=true:=by
  rcases hts with⟨rfl,_⟩|⟨tb,ty,rfl,_⟩<;>exact kN ..
 have MP:cI sM 1 1 (.slice (some ⟨H1.length,0,none⟩) 1 1)=some [pv H.length]:=by simp[cI,aQ,adH]
 obtain⟨QV,H2,VW,Be,ha,e',g',fr2⟩: ∃QV H2 VW Be,dj 117 1 8 Ts (.slice (some ⟨H1.length,0,none⟩) 1 1) sM=some (QV,H2)∧QV= .slice (some ⟨VW,0,none⟩) (tl++[H.length]).length (tl++[H.length]).length∧H2.get VW=some ⟨(tl++[H.length]).map pv,Be,1,false⟩∧VW=sM.length∧Fr sM oA H2 (oA.up sM.length (-81)) [-81]:=by
  rcases hts with⟨rfl,rfl⟩|⟨tb,ty,rfl,gt,adI⟩
  ·refine⟨_,sM.new ⟨[pv H.length],117,1,false⟩,sM.length,117,?_,rfl,aK,rfl,(Fr.refl _ _ _).new _ _⟩;simp[dj,MP]
  ·have gtb:sM.get tb=some ⟨tl.map pv,ty,1,false⟩:=by rw[f1.same tb (ar gt) (by simp)];exact gt
   have hoA:oA tb= -81:=by rw[f1.own tb (ar gt)];exact adI
   have fk:Fr sM oA ((sM.kill tb).new ⟨tl.map pv++[pv H.length],117,1,false⟩) (oA.up sM.length (-81)) [-81]:=by
    have:=((Fr.refl sM oA [-81]).kill (i:=tb) (λ_=>by simp[hoA])).new ⟨tl.map pv++[pv H.length],117,1,false⟩ (-81)
    rw[gD] at this;exact this
   have ld:aQ sM tb 0 (tl.length*1)=some (tl.map pv):=by
    simp only[aQ,gtb];rw[if_pos (by simp)]
    simp only[List.drop_zero,Nat.mul_one,Option.some.injEq];exact List.take_of_length_le (by simp)
   refine⟨.slice (some ⟨sM.length,0,none⟩) (tl.length+1) (tl.length+1),(sM.kill tb).new ⟨tl.map pv++[pv H.length],117,1,false⟩,sM.length,117,?_,by simp,?_,rfl,fk⟩
   ·simp only[dj,MP,Option.map_some];rw[if_neg (by omega),if_pos (by simp;omega)]
    simp only[gtb];rw[if_pos (by simp)]
    simp only[ld]
   ·have:=aK (H:=sM.kill tb) (c:=⟨tl.map pv++[pv H.length],117,1,false⟩)
    rw[gD] at this;rw[this];simp
 obtain⟨g',fr2⟩:=fr2;have hoB:(oA.up sM.length (-81)) xp= -80:=by rw[fr2.own xp (ar QW)];exact aci
 have gx2:H2.get xp=some ⟨[cv c0,cv 3,cv 2,pv mp,Ts,aA,cv 0,cv 0],65,1,false⟩:=by rw[fr2.same xp (ar QW) (by rw[aci];simp)];exact QW
 have S:=GR xp 4 (some ⟨VW,0,none⟩) (tl++[H.length]).length (tl++[H.length]).length H2 gx2 rfl (by simp)
 rw[←e'] at S;simp only[List.set_cons_succ,List.set_cons_zero] at S;obtain⟨H3,mC⟩: ∃z,z=H2.put xp ⟨[cv c0,cv 3,cv 2,pv mp,QV,aA,cv 0,cv 0],65,1,false⟩:=⟨_,rfl⟩;rw[←mC] at S;have f3:Fr H2 (oA.up sM.length (-81)) H3 (oA.up sM.length (-81)) [-80]:=by rw[mC];exact(Fr.refl _ _ _).put λ_=>by simp[hoB]
 have fA:Fr H o H3 (oA.up sM.length (-81)) [-80, -81]:=(f1.trans fr2 (rs:=[-80, -81]) (by simp) (by simp)).trans f3 (by simp) (by simp)
 have fB:Fr sM oA H3 (oA.up sM.length (-81)) [-80, -81]:=fr2.trans f3 (by simp) (by simp)
 have hxt:xp≠VW:=by have:=ar QW;omega
 refine⟨QV,H2,H3,_,AM,an xp 4 H gx,an xp 4 H1 VV,an xp 4 sM QW,ha,S,⟨ZW.fr fA (by simp),⟨by rw[mC];exact aH gx2,hoB⟩,hm.fr fA (by simp) (by simp),.inr ⟨VW,Be,e',?_,by rw[g'];exact aO⟩,λj t ht=>?_⟩,fA⟩
 ·rw[mC,bA (Ne.symm hxt)];assumption
 ·rcases Nat.lt_or_ge j tl.length with g|g
  ·rw[List.getElem?_append_left g] at ht;obtain⟨a1,a2⟩:=mQ j t ht;exact⟨by rw[fA.same t (ar a1) (by rw[a2];simp<;>omega)];exact a1,by rw[fA.own t (ar a1)];exact a2⟩
  ·rw[List.getElem?_append_right g] at ht;have Y7:j=tl.length:=by
    rcases Nat.lt_or_ge tl.length j with g2|g2
    ·rw[List.getElem?_eq_none (by simp;omega)] at ht;cases ht
    ·omega
   subst Y7;have:H.length=t:=by simpa using ht
   subst this;exact⟨by rw[fB.same H.length (ar ZX) (by rw[kR];simp<;>omega)];exact ZX,by rw[fB.own H.length (ar ZX)];exact kR⟩
theorem ZY (hc:150≤c0∧c0<800)(H:aa)(o:aj):aF (run G) 84 [.agg #[cv c0,cv 3,cv 2]] H λv H'=>∃xp mp o' th,v= .tuple #[pv xp,cv 0]∧Fr H o H' o' wt∧WR H' o' xp mp (Dz c0) th []∧∀i,i<3→th i=⟨(th i).ti,false,false,[],.rd⟩:=by
 refine Ev.up (t:=λk=>F84 (run G k) k (.agg #[cv c0,cv 3,cv 2]) H) ?_ λk=>Xz ..
 obtain⟨H1,fY⟩: ∃z,z=H.new ⟨[cv c0,cv 3,cv 2],60,1,false⟩:=⟨_,rfl⟩;have bx:=ZU c0 3 2 H;rw[←fY] at bx;have l1:H1.length=H.length+1:=by rw[fY,cC]
 have g1:H1.get H.length=some ⟨[cv c0,cv 3,cv 2],60,1,false⟩:=by rw[fY];exact aK
 have L0:aq (pv H.length) H1=some (cv c0):=an _ 0 H1 g1;have L1:aq (.pointer (some ⟨H.length,1,none⟩)) H1=some (cv 3):=an _ 1 H1 g1;have L2:aq (.pointer (some ⟨H.length,2,none⟩)) H1=some (cv 2):=an _ 2 H1 g1;simp -implicitDefEqProofs only[F84,bx,L0,L1,L2,Nat.add_zero,sS,Nat.reduceAdd];refine Ev.lss (λhq=>?_) (λhq=>?_)<;>try simp -implicitDefEqProofs only[L0,L1,L2,Nat.add_zero,sS,Nat.reduceAdd]
 ·omega
 refine Ev.gtr (λhq=>?_) (λhq=>?_)<;>try simp -implicitDefEqProofs only[L0,L1,L2,Nat.add_zero,sS,Nat.reduceAdd]
 ·omega
 refine Ev.lss (λhq=>?_) (λhq=>?_)<;>try simp -implicitDefEqProofs only[L0,L1,L2,Nat.add_zero,sS,Nat.reduceAdd]
 ·omega
 refine Ev.gtr (λhq=>?_) (λhq=>?_)<;>try simp -implicitDefEqProofs only[L0,L1,L2,Nat.add_zero,sS,Nat.reduceAdd]
 ·omega
 refine Ev.lss (λhq=>?_) (λhq=>?_)<;>try simp -implicitDefEqProofs only[L0,L1,L2,Nat.add_zero,sS,Nat.reduceAdd]
 ·omega
 refine Ev.gtr (λhq=>?_) (λhq=>?_)<;>try simp -implicitDefEqProofs only[L0,L1,L2,Nat.add_zero,sS,Nat.reduceAdd]
 ·omega
 refine Ev.call (ZT hc) ?_;rintro v H2 ⟨rfl,iB⟩;have l2:H2.length=H.length+2:=by rw[iB,cC,l1]
 obtain⟨oA,Rk⟩: ∃z,z=(o.up H.length (-9)).up H1.length (-70):=⟨_,rfl⟩;have f1:Fr H o H1 (o.up H.length (-9)) []:=by rw[fY];exact(Fr.refl _ _ _).new _ _
 have f2:Fr H o H2 oA []:=by rw[iB,Rk];exact f1.new _ _
 have ZW:Cl H.length [cv c0,cv 3,cv 2] 60 H2 oA:=⟨by rw[iB,dk (by omega)];exact g1,by rw[Rk,dO (by omega)];exact aO⟩
 have Kg:lL H2 oA H1.length ⟨[],c0⟩:=⟨0,0,0,aA,130,by rw[iB];exact aK,by rw[Rk];exact aO,.inl ⟨rfl,rfl⟩,by simp,by show c0≤65536;omega⟩
 have zZ:JM (λH' o'=>Fr H2 oA H' o' [-70, -71]) H1.length ⟨[],c0⟩ H2:=⟨bL.base (by simp),oA,Kg,Fr.refl _ _ _⟩
 simp -implicitDefEqProofs only[sS,Nat.reduceAdd];refine Ev.call (QT zZ (by omega)) ?_
 rintro v H3 ⟨_,o3,US,f3⟩;have V5:=ZW.fr f3 (by simp)
 have LC:df 3 (pv H.length) H3=some (.agg #[cv c0,cv 3,cv 2]):=by simp[df,aQ,V5.1]
 obtain⟨H4,pM⟩: ∃z,z=H3.new ⟨[cv c0,cv 3,cv 2,pv H1.length,aA,aA,cv 0,cv 0],65,1,false⟩:=⟨_,rfl⟩;have bI:=ZV c0 3 2 H1.length H3;rw[←pM] at bI;have f4:Fr H3 o3 H4 (o3.up H3.length (-80)) []:=by rw[pM];exact(Fr.refl _ _ _).new _ _
 have fA4:Fr H o H4 (o3.up H3.length (-80)) wt:=(f2.trans f3 (rs:=wt) (by simp) (by simp)).trans f4 (λ_ h=>h) (by simp)
 have n4:NI H4 (o3.up H3.length (-80)) H.length H3.length H1.length c0 [] aA:=⟨V5.fr f4 (by simp),⟨by rw[pM];exact aK,aO⟩,US.fr f4 (by simp) (by simp),.inl ⟨rfl,rfl⟩,λi t ht=>by simp at ht⟩
 simp -implicitDefEqProofs only[LC,acg,bI,sS,Nat.reduceAdd];refine Ev.loop (k:=3) (λkk vs Hx=>∃(tl:List Nat) (Ts:Value) (ox:aj) (x0 x2 x3 bJ x4 ef:Value),vs=[x0,x2,x3,pv H.length,bJ,x4,cv (tl.length:Nat),ef,pv H3.length]∧tl.length+kk=3∧NI Hx ox H.length H3.length H1.length c0 tl Ts∧Fr H o Hx ox wt)
  (λr=>r.1= .exit 0∧∃(tl:List Nat) (Ts:Value) (ox:aj) (x0 x2 x3 bJ x4 x7 ef:Value),r.2.1=[x0,x2,x3,pv H.length,bJ,x4,x7,ef,pv H3.length]∧tl.length=3∧NI r.2.2 ox H.length H3.length H1.length c0 tl Ts∧Fr H o r.2.2 ox wt) ⟨[],aA,_,_,_,_,_,_,_,rfl,rfl,n4,fA4⟩ ?_ ?_
 ·rintro kk vs Hx ⟨tl,Ts,ox,x0,x2,x3,bJ,x4,ef,rfl,Zk,hn,hf⟩;have K1:aq (.pointer (some ⟨H.length,1,none⟩)) Hx=some (cv 3):=an _ 1 Hx hn.cfg.1;have K2:aq (.pointer (some ⟨H.length,2,none⟩)) Hx=some (cv 2):=an _ 2 Hx hn.cfg.1;have hw:IntKind.i64.wrap ((tl.length:Int)+1)=((tl.length+1:Nat):Int):=by rw[gz (by omega)];omega
  simp -implicitDefEqProofs only[OW,Cv,K1,sS,Nat.reduceAdd];refine Ev.lss (λhq=>?_) (λhq=>?_)<;>try simp -implicitDefEqProofs only[sS,Nat.reduceAdd]
  ·obtain⟨QV,H5,H6,o6,e0,e1,e2,e3,e4,e5,hn6,f6⟩:=hn.grow (by omega)
   simp -implicitDefEqProofs only[e1,K2,adF,ach,adG,e2,e3,e4,e5,e0,hw,sS,Nat.reduceAdd];exact Ev.ret (.inl ⟨rfl,kk-1,by omega,tl++[Hx.length],QV,o6,x0,x2,x3,bJ,x4,.bool true,by simp,by simp;omega,hn6,hf.trans f6 (λ_ h=>h) (by simp)⟩)
  ·exact Ev.ret (.inr ⟨by simp,rfl,tl,Ts,ox,_,_,_,_,_,_,_,rfl,by omega,hn,hf⟩)
 ·rintro e vs Hx ⟨he,tl,Ts,ox,x0,x2,x3,bJ,x4,x7,ef,rfl,Zk,hn,hf⟩;simp only at he;subst he;simp -implicitDefEqProofs only[OY,Cx,sS,Nat.reduceAdd];obtain⟨t0,t1,t2,rfl⟩: ∃t0 t1 t2,tl=[t0,t1,t2]:=by
   match tl,Zk with
   | [t0,t1,t2],_=>exact⟨t0,t1,t2,rfl⟩
  obtain⟨_,⟨gx,hox⟩,hm,hts,mQ⟩:=hn;rcases hts with⟨_,e⟩|⟨tb,ty,rfl,gt,kR⟩
  ·cases e
  refine Ev.ret ⟨H3.length,H1.length,ox,λi=>⟨if i=0 then t0 else if i=1 then t1 else t2,false,false,[],.rd⟩,rfl,hf,⟨c0,3,2,0,0,tb,3,aA,[],_,ty,gx,hox,gt,kR,hm,λi hi=>?_,.inl ⟨rfl,rfl⟩⟩,λi hi=>rfl⟩
  have:i=0∨i=1∨i=2:=by omega
  have key:([t0,t1,t2]:List Nat)[i]? =some (if i=0 then t0 else if i=1 then t1 else t2):=by
   rcases this with rfl|rfl|rfl<;>rfl
  obtain⟨a1,a2⟩:=mQ i _ key;exact⟨2,0,0,0,0,0,.pointer none,_,a1,a2,λhb=>by cases hb⟩
theorem acj (a b c:Int):aE Tryz.prog 60 [(0,cv a),(1,cv b),(2,cv c)]=some (.agg #[cv a,cv b,cv c]):=by kernel_rfl
theorem Uq (c:Int){ky x:Value}{ks zs:List Int}(hky:sL H ky ks)(hkr:dy H o (-1) ky ks)(hx:dy H o (-1) x zs)(hz:zs.length≤maxLen):aF (run G) 55 [cv c,cv 3,ky,x] H λv H'=>∃xp mp o' m th L,v=pv xp∧Fr H o H' o' wt∧WR H' o' xp mp m th L∧Inv th L 211 1680∧TI th m:=by
 refine Ev.up (t:=λn=>F55 (run G n) n (cv c) (cv 3) ky x H) ?_ λn=>YK ..
 simp -implicitDefEqProofs only[F55,sS,Nat.reduceAdd];refine Ev.call (lA c 650 (by omega)) ?_
 rintro v H1 ⟨z,rfl,Wd,hz1,rfl⟩;obtain⟨c0,hc0⟩: ∃c0:Nat,(c0:Int)=150+z:=⟨(150+z).toNat,by omega⟩
 have Re:IntKind.i64.wrap (150+z)=c0:=by rw[gz (by omega),hc0]
 simp -implicitDefEqProofs only[Re,acj,sS,Nat.reduceAdd];refine Ev.call (ZY (c0:=c0) (by omega) H1 o) ?_
 rintro v H2 ⟨xp,mp,o2,th,rfl,f2,h2,mQ⟩
 try simp -implicitDefEqProofs only[sS,Nat.reduceAdd]
 have adJ:sL H2 ky ks:=⟨(hkr.fr f2 (by simp)).1,hky.2⟩
 refine Ev.call (aca adJ (k:=20)) ?_;rintro y H3 ⟨rfl,ys,hy⟩;refine Ev.call (QS hy) ?_;rintro y H4 ⟨l,⟨ex,hs⟩,hl⟩;have f3:Fr H3 o2 H4 (o2.from H3.length (-42)) []:=ex.fr o2 (-42)
 have UN:gU H4 (o2.from H3.length (-42)) (-42) y l:=hs.r.relabel λi hi Um=>by
  rcases Nat.lt_or_ge i H3.length with g|g
  ·rw[Dc g] at Um;exact absurd Um (by show(-1:Int)≠ -42;decide)
  ·exact Db g
 have h3:=h2.uJ f3 (by simp)
 have hI0:Inv th [] 0 0:=⟨by rw[mQ 0 (by omega),mQ 1 (by omega),mQ 2 (by omega)];simp[uQ],λe he=>by simp at he,λi hi=>by rw[mQ i hi];simp⟩
 refine Ev.call (ZS h3 UN (by omega) hI0 (by omega)) ?_
 rintro v H4 ⟨o4,L4,m4,f4,h4,hI4,ack⟩;obtain⟨G4,i4,r4⟩:=ack.typed (by omega)
 have hT4:TI th m4:=⟨G4,i4,r4,λi hi hb=>by rw[mQ i hi] at hb;cases hb⟩
 have f23:Fr H1 o _ _ wt:=f2.trans f3 (λ_ h=>h) (by simp)
 have f24:Fr H1 o H4 o4 wt:=f23.trans f4 (λ_ h=>h) (λ_ h=>h)
 try simp -implicitDefEqProofs only[sS,Nat.reduceAdd]
 refine Ev.loop (k:=70) (λkk vs Hx=>∃(j:Nat) (ox:aj) (mz:Y.Mm) (og:jy) (Lx:List jV) (x8 bJ aP aG eX:Value),vs=[cv c,cv 3,ky,x,x8,pv xp,cv j,bJ,aP,aG,eX]∧j+kk=70∧Fr H1 o Hx ox wt∧WR Hx ox xp mp mz og Lx∧Inv og Lx (1+3*j) (24*j)∧TI og mz)
  (λr=>r.1= .exit 0∧∃(ox:aj) (mz:Y.Mm) (og:jy) (Lx:List jV) (x8 aN bJ aP aG eX:Value),r.2.1=[cv c,cv 3,ky,x,x8,pv xp,aN,bJ,aP,aG,eX]∧Fr H1 o r.2.2 ox wt∧WR r.2.2 ox xp mp mz og Lx∧Inv og Lx 211 1680∧TI og mz) ⟨0,o4,m4,th,L4,_,_,_,_,_,rfl,rfl,f24,h4,hI4,hT4⟩ ?_ ?_
 ·rintro kk vs Hx ⟨j,ox,mz,og,Lx,x8,bJ,aP,aG,eX,rfl,AD,hf,hw,hI,hT⟩;have hxx:dy Hx ox (-1) x zs:=hx.fr hf (by simp)
  have hwj:IntKind.i64.wrap ((j:Int)+1)=((j+1:Nat):Int):=by rw[gz (by omega)];omega
  have hIe:Inv og Lx 211 1680:=⟨by have:=hI.len;omega,hI.lists,λi hi=>by have:=hI.tape i hi;omega⟩
  have iP: ∀(x8 bJ aP aG eX:Value) {Hy:aa} {oy:aj} {mw:Y.Mm} {thy:jy} {Ly:List jV},j<70→Fr Hx ox Hy oy wt→WR Hy oy xp mp mw thy Ly→Inv thy Ly (1+3*j+3) (24*j+24)→TI thy mw→Ev (λn=>yH (run G n) n [cv c,cv 3,ky,x,x8,pv xp,cv j,bJ,aP,aG,eX] Hy) λr=>(r.1= .normal∧∃k',k'<kk∧∃(j:Nat) (ox:aj) (mz:Y.Mm) (og:jy) (Lx:List jV) (x8 bJ aP aG eX:Value),r.2.1=[cv c,cv 3,ky,x,x8,pv xp,cv j,bJ,aP,aG,eX]∧j+k'=70∧Fr H1 o r.2.2 ox wt∧WR r.2.2 ox xp mp mz og Lx∧Inv og Lx (1+3*j) (24*j)∧TI og mz)∨(r.1≠ .normal∧r.1= .exit 0∧∃(ox:aj) (mz:Y.Mm) (og:jy) (Lx:List jV) (x8 aN bJ aP aG eX:Value),r.2.1=[cv c,cv 3,ky,x,x8,pv xp,aN,bJ,aP,aG,eX]∧Fr H1 o r.2.2 ox wt∧WR r.2.2 ox xp mp mz og Lx∧Inv og Lx 211 1680∧TI og mz):=by
   intro x8 bJ aP aG eX Hy oy mw thy Ly JA a1 a2 a3 a4;simp -implicitDefEqProofs only[Pq,CP,hwj,sS,Nat.reduceAdd];exact Ev.ret (.inl ⟨rfl,kk-1,by omega,j+1,oy,mw,thy,Ly,_,_,_,_,_,rfl,by omega,hf.trans a1 (λ_ h=>h) (λ_ h=>h),a2,⟨by have:=a3.len;omega,a3.lists,λi hi=>by have:=a3.tape i hi;omega⟩,a4⟩)
  simp -implicitDefEqProofs only[Pt,CQ,hxx.1.len,sS,Nat.reduceAdd];refine Ev.lss (λhq=>?_) (λhq=>?_)<;>try simp -implicitDefEqProofs only[sS,Nat.reduceAdd]
  rotate_left
  ·exact Ev.ret (.inr ⟨by simp,rfl,ox,mz,og,Lx,_,_,_,_,_,_,rfl,hf,hw,hIe,hT⟩)
  refine Ev.lss (λkE=>?_) (λkE=>?_)<;>try simp -implicitDefEqProofs only[sS,Nat.reduceAdd]
  rotate_left
  ·exact Ev.ret (.inr ⟨by simp,rfl,ox,mz,og,Lx,_,_,_,_,_,_,rfl,hf,hw,hIe,hT⟩)
  have JA:j<70:=by omega
  obtain⟨qi,off,b,e1,e2,e3⟩:=hxx.1.idx (j:=j) (by omega)
  have e4:aq (.pointer (some ⟨qi,off,none⟩)) Hx=some (cv (zs.getD j 0)):=(an qi off Hx e2).trans e3;simp -implicitDefEqProofs only[e1,e4,sS,Nat.reduceAdd];refine Ev.call (lA _ 3 (by omega)) ?_
  rintro v H5 ⟨t,rfl,Wl,Qb,rfl⟩;obtain⟨ti,rfl⟩: ∃k:Nat,t=k:=⟨t.toNat,by omega⟩
  have ZI:ti<3:=by omega
  simp -implicitDefEqProofs only[QJ,sS,Nat.reduceAdd];refine Ev.call (lA _ 3 (by omega)) ?_
  rintro v H5 ⟨y,rfl,_,_,rfl⟩;obtain⟨tb,cap,inv,dG,i3,i4,i6,i7,iT,_⟩:=hw.n7;obtain⟨iT1,iT2⟩:=iT ti ZI;obtain⟨no,d1,d7,d8⟩:=hw.VU ZI;have JQ: ∀(x8 bJ aP eX:Value) (a:Int),Ev (λn=>af (run G n 73 [cv a] H5) λhZ Hy=>af (run G n 72 [pv xp,cv ti,hZ] Hy) λ_ Hy=>yH (run G n) n [cv c,cv 3,ky,x,x8,pv xp,cv j,bJ,aP,cv ti,eX] Hy) λr=>(r.1= .normal∧∃k',k'<kk∧∃(j:Nat) (ox:aj) (mz:Y.Mm) (og:jy) (Lx:List jV) (x8 bJ aP aG eX:Value),r.2.1=[cv c,cv 3,ky,x,x8,pv xp,cv j,bJ,aP,aG,eX]∧j+k'=70∧Fr H1 o r.2.2 ox wt∧WR r.2.2 ox xp mp mz og Lx∧Inv og Lx (1+3*j) (24*j)∧TI og mz)∨(r.1≠ .normal∧r.1= .exit 0∧∃(ox:aj) (mz:Y.Mm) (og:jy) (Lx:List jV) (x8 aN bJ aP aG eX:Value),r.2.1=[cv c,cv 3,ky,x,x8,pv xp,aN,bJ,aP,aG,eX]∧Fr H1 o r.2.2 ox wt∧WR r.2.2 ox xp mp mz og Lx∧Inv og Lx 211 1680∧TI og mz):=by
   intro x8 bJ aP eX a;refine Ev.call (V1 a) ?_;rintro v H6 ⟨op,rfl,ex⟩;have f6:Fr H5 ox H6 (ox.from H5.length (-9)) []:=ex.fr ox (-9)
   have h6:=hw.uJ f6 (by simp)
   refine Ev.call (Fk h6 ZI hI (by omega) op) ?_
   rintro v H7 ⟨o7,th7,L7,f7,h7,M7,hR7⟩;exact iP _ _ _ _ _ JA (f6.trans f7 (by simp) (λ_ h=>h)) h7 ⟨M7.len,M7.lists,λi hi=>by have:=M7.tape i hi;omega⟩ (TI.keep.inv hT ZI hR7)
  refine Ev.gtr (λVQ=>?_) (λVQ=>?_)<;>try simp -implicitDefEqProofs only[i4,iT1,iT2,d1,sS,Nat.reduceAdd]
  ·cases hb:(og ti).busy<;>simp -implicitDefEqProofs only[QJ,sS,Nat.reduceAdd]
   ·exact JQ _ _ _ _ _
   ·refine Ev.call (lA _ 24 (by omega)) ?_
    rintro v H6 ⟨u,rfl,Wk,ND,rfl⟩;have hwu:IntKind.i64.wrap (1+u)=1+u:=gz (by omega)
    simp -implicitDefEqProofs only[hwu,ab2,sS,Nat.reduceAdd];refine Ev.call (ab3 TI.keep hT hw ZI hI (by omega) (by omega) (k:=1+u) (by omega)) ?_
    rintro v H7 ⟨o7,th7,L7,m7,f7,h7,M7,hT7⟩;exact iP _ _ _ _ _ JA f7 h7 ⟨by have:=M7.len;omega,M7.lists,M7.tape⟩ hT7
  ·try simp -implicitDefEqProofs only[QJ,sS,Nat.reduceAdd]
   exact JQ _ _ _ _ _
 ·rintro e vs Hx ⟨he,ox,mz,og,Lx,x8,aN,bJ,aP,aG,eX,rfl,hf,hw,hI,hT⟩;simp only at he;subst he;simp -implicitDefEqProofs only[Pv,CR,sS,Nat.reduceAdd];exact Ev.ret ⟨xp,mp,ox,mz,og,Lx,rfl,hf,hw,hI,hT⟩
end
end Go.Proofs.YtgfgglponbmgmaaGreat.Fun
end
