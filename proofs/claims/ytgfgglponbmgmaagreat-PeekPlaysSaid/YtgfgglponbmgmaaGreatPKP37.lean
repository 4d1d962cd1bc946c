/- Texts of the proof of peekPlays_holds, put together by a small program of ours (names shortened, spaces taken out). No condition beyond the given statement. -/
import Derived.Test.YtgfgglponbmgmaaGreatPKP11
import Derived.Test.YtgfgglponbmgmaaGreatPKP10
import Derived.Test.YtgfgglponbmgmaaGreatPKP13
import Derived.Test.YtgfgglponbmgmaaGreatPKP14
import Derived.Test.YtgfgglponbmgmaaGreatPKP36
import Derived.Test.YtgfgglponbmgmaaGreatPKP15
import Derived.Test.YtgfgglponbmgmaaGreatPKP17
set_option linter.unusedVariables false
set_option linter.unusedSimpArgs false
set_option linter.unnecessarySimpa false
noncomputable section
section
namespace Go.Proofs.YtgfgglponbmgmaaGreat.Fun
open Go Go.RowKit Go.Proofs.YtgfgglponbmgmaaGreatA.Am
set_option maxRecDepth 10000
section
open Go.Proofs.YtgfgglponbmgmaaGreatA
variable {G:ae} {H H':aa} {o o':aj} {p c mp f xp n i mx:Nat} {K:aa→aj→Prop} {q:Int} {x:Value} {l:PL} {m m':Y.Mm} {T:List Int} {th:jc} {L:List jE} {N M:Nat}
theorem abI (hx:gT H o q x l)(hl:l.length≤100000):aF (run G) 132 [x] H (OQ H):=by
 refine Ev.up (t:=λn=>Wj (run G n) n x H) ?_ λn=>Rf ..
 simp -implicitDefEqProofs only[Wj,sS,Nat.reduceAdd];refine Ev.loop (k:=l.length) (λkk vs Hx=>∃(j:Nat) (x7 bn:Value),vs=[x,.bool false,cv (j+1:Nat),x7,bn]∧Hx=H∧j+kk=l.length)
  (λr=>r.2.2=H∧∃(x2 x3 x7 bn:Value),r.2.1=[x,x2,x3,x7,bn]∧(r.1= .exit 0∨(r.1= .ret∧∃b,x2= .bool b))) ⟨0,_,_,rfl,rfl,by omega⟩ ?_ ?_
 ·rintro kk vs Hx ⟨j,x7,bn,rfl,rfl,hj⟩;have hw:IntKind.i64.wrap (((j+1:Nat):Int)+1)=((j+1+1:Nat):Int):=by rw[fZ (by omega)];omega
  have uQ:IntKind.i64.wrap (((j+1:Nat):Int)-1)=(j:Int):=by rw[fZ (by omega)];omega
  simp -implicitDefEqProofs only[Kg,xx,hx.len,sS,Nat.reduceAdd];refine Ev.lss (λhq=>?_) (λhq=>?_)<;>try simp -implicitDefEqProofs only[sS,Nat.reduceAdd]
  ·obtain⟨i',off,b',e1,e2,e3,e4⟩:=hx.idx (j:=j+1) (by omega)
   obtain⟨e5,_,_⟩:=e4 _ e2;obtain⟨i2,nR,b2,f1,f2,f3,f4⟩:=hx.idx (j:=j) (by omega)
   obtain⟨f5,_,_⟩:=f4 _ f2;simp -implicitDefEqProofs only[e1,gW,Nat.add_zero,e5,uQ,f1,f5,sS,Nat.reduceAdd];refine Ev.leq (λhq=>?_) (λhq=>?_)<;>try simp -implicitDefEqProofs only[hw,sS,Nat.reduceAdd]
   ·exact Ev.ret (.inr ⟨by simp,rfl,_,_,_,_,rfl,.inr ⟨rfl,_,rfl⟩⟩)
   ·exact Ev.ret (.inl ⟨rfl,kk-1,by omega,j+1,_,_,rfl,rfl,by omega⟩)
  ·exact Ev.ret (.inr ⟨by simp,rfl,_,_,_,_,rfl,.inl rfl⟩)
 ·rintro e vs Hx ⟨DE,x2,x3,x7,bn,rfl,he⟩;simp only at DE;subst DE;rcases he with he|⟨he,b,rfl⟩
  ·simp only at he;subst he;simp -implicitDefEqProofs only[Kh,xy,sS,Nat.reduceAdd];exact Ev.ret ⟨⟨_,rfl⟩,rfl⟩
  ·simp only at he;subst he;show Ev (λ_=>some (Value.bool b,Hx)) _
   exact Ev.ret ⟨⟨_,rfl⟩,rfl⟩
theorem U9 (hx:gT H o q x l)(hl:l.length≤16384):aF (run G) 107 [x] H (OQ H):=by
 refine Ev.up (t:=λk=>WM (run G k) k x H) ?_ λk=>RB ..
 simp -implicitDefEqProofs only[WM,sS,Nat.reduceAdd];refine Ev.X1 (abI hx (by omega)) λb=>?_
 cases b<;>simp -implicitDefEqProofs only[hx.len,sS,Nat.reduceAdd]
 ·exact Ev.ret ⟨⟨_,rfl⟩,rfl⟩
 refine Ev.leq (λhq=>?_) (λhq=>?_)<;>try simp -implicitDefEqProofs only[sS,Nat.reduceAdd]
 ·exact Ev.ret ⟨⟨_,rfl⟩,rfl⟩
 ·exact Ev.ret ⟨⟨_,rfl⟩,rfl⟩
theorem Tz (h:JM K mp m H)(hqq:q≠ -70∧q≠ -71)(hK: ∀H o,K H o→gT H o q x l)(hl:l.length≤1000):aF (run G) 109 [pv mp,x] H λv H'=>
  (v= .tuple #[cv 0,.bool false]∧JM K mp m H')∨(v= .tuple #[cv (Y.dM (l.length+1) l m).1,.bool true]∧JM K mp (Y.dM (l.length+1) l m).2 H'∧m.cs.length+dN (l.length+1) l.length≤m.max):=by
 refine Ev.up (t:=λk=>W0 (run G k) k (pv mp) x H) ?_ λk=>RK ..
 obtain⟨bY,jD,ref,s,ty,g,hls,hj⟩:=h.num;obtain⟨_,o,hm,hk⟩:=id h;have hx:=hK _ _ hk;have S9:=hm.Al;have L0:aq (pv mp) H=some (cv m.max):=an mp 0 H g;have L1:aq (.pointer (some ⟨mp,1,none⟩)) H=some s:=an mp 1 H g;have AF:oo s s=true:=by
  cases s<;>simp[cC] at hls;exact kK ..
 have w1:IntKind.i64.wrap ((m.max:Int)-m.cs.length)=(m.max:Int)-m.cs.length:=fZ (by omega)
 simp -implicitDefEqProofs only[W0,sS,Nat.reduceAdd];refine Ev.X1 (U9 hx (by omega)) λb=>?_
 cases b<;>simp -implicitDefEqProofs only[hx.len,sS,Nat.reduceAdd]
 ·exact Ev.ret (.inl ⟨rfl,h⟩)
 refine Ev.is (Tt (l.length+1) (by omega) (by omega)) ?_
 simp -implicitDefEqProofs only[L0,L1,hls,w1,AF,Nat.add_zero,kE,sS,Nat.reduceAdd];refine Ev.gtr (λhq=>?_) (λhq=>?_)<;>try simp -implicitDefEqProofs only[L0,L1,AF,kE,sS,Nat.reduceAdd]
 ·exact Ev.ret (.inl ⟨rfl,h⟩)
 refine Ev.call (Tv l.length rfl (by omega) h hqq hK (f:=l.length+1) (Nat.le_refl _)) ?_
 rintro v H4 ⟨rfl,jb⟩
 try simp -implicitDefEqProofs only[sS,Nat.reduceAdd]
 exact Ev.ret (.inr ⟨rfl,jb,by omega⟩)
theorem WR.mem (h:WR H o xp mp m th L)(f:Fr H o H' o' [-70, -71])(hm:lJ H' o' mp m'):WR H' o' xp mp m' th L:=by
 obtain⟨_,_,_,_,_,_,_,_,_,_,_,_,_,_,_,_,mN,_⟩:=id h;have hw:=h.EO (i:=0) (s':=th 0) (by omega) (f.wk (by simp)) ((mN 0 (by omega)).fr f (by simp) (by simp) (by simp) (by simp)) rfl hm
 have e:Fun.oh th 0 (th 0)=th:=by
  funext j
  unfold Fun.oh;split
  ·rename_i e;rw[e]
  ·rfl
 rw[e] at hw;exact hw
theorem YK (h:WR H o xp mp m th L):aF (run G) 106 [pv xp] H λv H'=>(∃b,v= .bool b)∧H'=H:=by
 refine Ev.up (t:=λk=>V2 (run G k) k (pv xp) H) ?_ λk=>QZ ..
 obtain⟨tb,cap,inv,dD,e3,e4,e6,e7,eT,_⟩:=h.n7;simp -implicitDefEqProofs only[V2,sS,Nat.reduceAdd];refine Ev.loop (k:=3) (λkk vs Hx=>∃(j:Nat) (aC bA:Value),vs=[pv xp,.bool false,cv j,aC,bA]∧Hx=H∧j+kk=3)
  (λr=>r.2.2=H∧∃(x2 x3 aC bA:Value),r.2.1=[pv xp,x2,x3,aC,bA]∧(r.1= .exit 0∨(r.1= .ret∧∃b,x2= .bool b))) ⟨0,_,_,rfl,rfl,rfl⟩ ?_ ?_
 ·rintro kk vs Hx ⟨j,aC,bA,rfl,rfl,hj⟩;have hw:IntKind.i64.wrap ((j:Int)+1)=((j+1:Nat):Int):=by rw[fZ (by omega)];omega
  simp -implicitDefEqProofs only[JS,w9,e4,cC,sS,Nat.reduceAdd];refine Ev.lss (λhq=>?_) (λhq=>?_)<;>try simp -implicitDefEqProofs only[sS,Nat.reduceAdd]
  ·have gF:j<3:=by omega
   obtain⟨Tl,Tm⟩:=eT j gF;obtain⟨no,b1,b7,b8⟩:=h.UZ gF;simp -implicitDefEqProofs only[e4,Tl,Tm,b1,sS,Nat.reduceAdd];cases(th j).busy<;>simp -implicitDefEqProofs only[hw,sS,Nat.reduceAdd]
   ·exact Ev.ret (.inl ⟨rfl,kk-1,by omega,j+1,_,_,rfl,rfl,by omega⟩)
   ·exact Ev.ret (.inr ⟨by simp,rfl,_,_,_,_,rfl,.inr ⟨rfl,_,rfl⟩⟩)
  ·exact Ev.ret (.inr ⟨by simp,rfl,_,_,_,_,rfl,.inl rfl⟩)
 ·rintro e vs Hx ⟨hx,x2,x3,aC,bA,rfl,he⟩;simp only at hx;subst hx;rcases he with he|⟨he,b,rfl⟩
  ·simp only at he;subst he;simp -implicitDefEqProofs only[JT,xb,sS,Nat.reduceAdd];exact Ev.ret ⟨⟨_,rfl⟩,rfl⟩
  ·simp only at he;subst he;show Ev (λ_=>some (Value.bool b,Hx)) _
   exact Ev.ret ⟨⟨_,rfl⟩,rfl⟩
theorem adN (r:eN)(pick:Int)(a:Option Addr)(m c:Nat):aE Tryz.prog 155 [(0,cv 4),(4,.agg #[cv 0,.bool false,cv 0,cv 0,cv 0,.slice a m c]),(5,cv pick)]=some (evA ⟨4,0,0,⟨0,0,0⟩,⟨0,false,0,0,0,r.list⟩,pick⟩ (.slice a m c)):=by kernel_rfl
theorem YL (h:WR H o xp mp (Dl mx) th L)(hx:gT H o (-42) x l)(hl:l.length≤1000)(hI:Inv th L N M)(hN:N<4000000):aF (run G) 85 [pv xp,x] H λv H'=>∃o' L' m',Fr H o H' o' wt∧WR H' o' xp mp m' th L'∧Inv th L' (N+1) M∧P1 mx m':=by
 refine Ev.up (t:=λk=>F85 (run G k) k (pv xp) x H) ?_ λk=>WX ..
 have ub:Inv th L (N+1) M:=⟨by have:=hI.len;omega,hI.lists,hI.tape⟩
 have hm:lJ H o mp (Dl mx):=by
  obtain⟨_,_,_,_,_,_,_,_,_,_,_,_,_,_,_,hm,_⟩:=id h;exact hm
 simp -implicitDefEqProofs only[F85,sS,Nat.reduceAdd];refine Ev.call (YK h) ?_;rintro v H1 ⟨⟨b,rfl⟩,rfl⟩;cases b<;>simp -implicitDefEqProofs only[sS,Nat.reduceAdd]
 ·exact Ev.ret ⟨o,L,_,Fr.refl _ _ _,h,ub,.inl rfl⟩
 refine Ev.X1 (U9 hx (by omega)) λb=>?_
 obtain⟨tb,cap,inv,dD,e3,e4,e6,e7,eT,_⟩:=h.n7;cases b<;>simp -implicitDefEqProofs only[e3,sS,Nat.reduceAdd]
 ·exact Ev.ret ⟨o,L,_,Fr.refl _ _ _,h,ub,.inl rfl⟩
 have zP:JM (λH' o'=>Fr H1 o H' o' [-70, -71]∧gT H' o' (-42) x l) mp (Dl mx) H1:=⟨(bK.base (by simp)).and (bK.ku (by simp)),o,hm,Fr.refl _ _ _,hx⟩
 refine Ev.call (PX zP) ?_;rintro v H3 ⟨rfl,ex3⟩;have gF:=zP.ext ex3;have hs0:cC aA=some (cv (0:Nat)):=rfl;simp -implicitDefEqProofs only[hs0,sS,Nat.reduceAdd];have back: ∀{Hx:aa} {m1:Y.Mm},JM (λH' o'=>Fr H1 o H' o' [-70, -71]∧gT H' o' (-42) x l) mp m1 Hx→∃ox,WR Hx ox xp mp m1 th L∧Fr H1 o Hx ox [-70, -71]∧gT Hx ox (-42) x l:=λhj=>by
  obtain⟨_,ox,hm,hf,hs⟩:=hj;exact⟨ox,h.mem hf hm,hf,hs⟩
 have ld3: ∀{Hx:aa} {m1:Y.Mm},JM (λH' o'=>Fr H1 o H' o' [-70, -71]∧gT H' o' (-42) x l) mp m1 Hx→aq (.pointer (some ⟨xp,3,none⟩)) Hx=some (pv mp):=λhj=>by
  obtain⟨ox,hw,_⟩:=back hj;obtain⟨_,_,_,_,e,_⟩:=hw.n7;exact e
 refine Ev.gtr (λhq=>?_) (λhq=>?_)<;>try simp -implicitDefEqProofs only[ld3 gF,sS,Nat.reduceAdd]
 ·simp at hq
 refine Ev.call (Tz gF (by decide) (λ_ _ a=>a.2) hl) ?_
 rintro v H4 (⟨rfl,jb⟩|⟨rfl,jb,abJ⟩)<;>try simp -implicitDefEqProofs only[ld3 jb,sS,Nat.reduceAdd]
 ·obtain⟨o4,h4,f4,_⟩:=back jb;exact Ev.ret ⟨o4,L,_,f4.wk (by simp),h4,ub,.inl rfl⟩
 refine Ev.call (zo jb 6 _) ?_;intro v H5 lC;obtain⟨o5,h5,f5,hx5⟩:=back lC;obtain⟨m5,em5⟩: ∃z,z=((Y.dM (l.length+1) l (Dl mx)).2).set 6 (Y.dM (l.length+1) l (Dl mx)).1:=⟨_,rfl⟩;rw[←em5] at h5;obtain⟨H6,Dk⟩: ∃t,t=H5.new ⟨[],45,2,false⟩:=⟨_,rfl⟩;have b0:=U8 H5;rw[←Dk] at b0;obtain⟨t,Pg,CS⟩:=gI o5 H5.length;have f6:Fr H5 o5 H6 (o5.up H5.length t) []:=by rw[Dk];exact(Fr.refl _ _ _).new _ _
 have s6:gY H6 (o5.up H5.length t) t (.slice (some ⟨H5.length,0,none⟩) 0 0) []:=.inr ⟨H5.length,0,[],45,rfl,by rw[Dk];exact aL,by simp,aP⟩
 obtain⟨x7,H7,o7,ap,s7,f7,_⟩:=gY.app 45 s6 (hx5.fr f6 (by simp)).src (by simp;omega)
 have f57:Fr H5 o5 H7 o7 []:=iM ((f6.wk (by simp)).tr f7) λi hi=>by have:=CS i hi;omega
 obtain⟨o8,eo8⟩: ∃z:aj,z=λi=>if o7 i=t then -41 else o7 i:=⟨_,rfl⟩
 have f58:Fr H5 o5 H7 o8 []:=⟨f57.slot,λi hi=>by rw[eo8];show(if o7 i=t then(-41:Int) else o7 i)=_;rw[if_neg (by rw[f57.own i hi];have:=CS i hi;omega)];exact f57.own i hi,f57.size⟩
 have s8:gT H7 o8 (-41) x7 l:=by
  have:=s7.r
  simp only[List.nil_append] at this;exact this.relabel λi hi Tx=>by rw[eo8];exact if_pos Tx
 have h7:=h5.uz f58 (by simp)
 obtain⟨tb7,adE,adF,uc,i3,i4,i6,i7,iT,_⟩:=h7.n7;have hlI:=hI.len;obtain⟨xa,xc,exx⟩:=s8.isSlice;obtain⟨Lx,q1,q2,q3,x',H8,H9,o9,q4,q5,h9,f9⟩:=h7.app ⟨4,0,0,⟨0,0,0⟩,⟨0,false,0,0,0,l⟩,uc⟩ (s:=x7) s8 (by omega)
 obtain⟨c0,c1,c2,abK,oX,tb5,abL,Zs,aee,ty5,aeB,g5,_⟩:=id h5;have p5:aq (.pointer (some ⟨xp,5,none⟩)) H5=some Zs:=an xp 5 H5 g5;have p57:aq (.pointer (some ⟨xp,7,none⟩)) H5=some (cv oX):=an xp 7 H5 g5;have g6:H6.get xp=some ⟨[cv c0,cv c1,cv c2,pv mp,.slice (some ⟨tb5,0,none⟩) 3 abL,Zs,cv abK,cv oX],ty5,1,false⟩:=by rw[f6.same xp (ar g5) (by simp)];exact g5
 have p6:aq (.pointer (some ⟨xp,5,none⟩)) H6=some Zs:=an xp 5 H6 g6;have p67:aq (.pointer (some ⟨xp,7,none⟩)) H6=some (cv oX):=an xp 7 H6 g6;have g7:H7.get xp=some ⟨[cv c0,cv c1,cv c2,pv mp,.slice (some ⟨tb5,0,none⟩) 3 abL,Zs,cv abK,cv oX],ty5,1,false⟩:=by rw[f57.same xp (ar g5) (by simp)];exact g5
 have p7:aq (.pointer (some ⟨xp,5,none⟩)) H7=some Zs:=an xp 5 H7 g7;have p77:aq (.pointer (some ⟨xp,7,none⟩)) H7=some (cv oX):=an xp 7 H7 g7;have eL:Zs=Lx:=by rw[p7] at q1;simpa using q1
 subst eL;have eP:oX=uc:=by rw[p77] at i7;simpa using i7
 subst eP;subst exx;simp -implicitDefEqProofs only[p5,p6,p7,p57,p67,p77,b0,ap,aa2,adN ⟨0,false,0,0,0,l⟩,Tj _ rfl,q2,q4,q5,q3,kE,sS,Nat.reduceAdd];refine Ev.ret ⟨o9,L++[⟨4,0,0,⟨0,0,0⟩,⟨0,false,0,0,0,l⟩,oX⟩],m5,((f5.trans f58 (rs:=wt) (by simp) (by simp)).trans f9 (λ_ h=>h) (by simp)),h9,⟨?_,?_,hI.tape⟩,.inr ⟨l.length+1,l,Nat.le_refl _,by omega,by simpa using abJ,em5⟩⟩
 ·simp only[List.length_append,List.length_singleton];omega
 ·intro e he;rcases List.mem_append.1 he with he|he
  ·exact hI.lists e he
  ·have:e=⟨4,0,0,⟨0,0,0⟩,⟨0,false,0,0,0,l⟩,oX⟩:=by simpa using he
   subst this;show l.length≤_;omega
end
section
open Go.Proofs.YtgfgglponbmgmaaGreatA
variable {G:ae} {H H':aa} {o o':aj} {p c mp f xp n i mx c0:Nat} {K:aa→aj→Prop} {q:Int} {x:Value} {l:PL} {m m':Y.Mm} {T:List Int} {th:jc} {L:List jE} {N M:Nat}
theorem P4 (h:JM K mp ⟨[],mx⟩ H)(MQ:150≤mx):aF (run G) 105 [pv mp] H λv H'=>JM K mp (Dl mx) H':=by
 refine Ev.up (t:=λn=>XO (run G n) n (pv mp) H) ?_ λn=>Sc ..
 obtain⟨bY,jD,ref,s,ty,g,hl,hj⟩:=h.num;have L0:aq (pv mp) H=some (cv mx):=an mp 0 H g;have L1:aq (.pointer (some ⟨mp,1,none⟩)) H=some s:=an mp 1 H g;simp only[List.length_nil,Int.natCast_zero] at hl;simp -implicitDefEqProofs only[XO,L1,hl,sS,Nat.reduceAdd];refine Ev.gtr (λhq=>?_) (λhq=>?_)<;>try simp -implicitDefEqProofs only[L0,Nat.add_zero,sS,Nat.reduceAdd]
 ·omega
 refine Ev.lss (λhq=>?_) (λhq=>?_)<;>try simp -implicitDefEqProofs only[sS,Nat.reduceAdd]
 ·omega
 refine Ev.is (nZ 1 7) ?_;rw[o57];simp -implicitDefEqProofs only[Ag,sS,Nat.reduceAdd];have hjn:JM K mp ⟨[],mx⟩ (H.new ⟨[cv 57],2,1,false⟩):=h.new _;refine Ev.call (sH 0 (q:=aA) (lq:=[]) (.inl ⟨rfl,rfl⟩) (ln [57] 2) rfl (by simp)) ?_
 intro w H2 uQ;refine Ev.call (lz hjn uQ) ?_;rintro v H3 ⟨_,gF⟩;refine Ev.call nI ?_;intro w H4 Sr;refine Ev.call (lz gF Sr) ?_;rintro v H5 ⟨_,lC⟩
 try simp -implicitDefEqProofs only[sS,Nat.reduceAdd]
 have e1:(Y.dT ⟨[],mx⟩ (.mk (Y.cR 0 [] [57]))).2=⟨[1,0,0,0,0,57],mx⟩:=by
  have:Y.cR 0 [] [57]=[1,0,0,0,0,57]:=by decide
  rw[this];simp only[Y.dT];rw[if_neg (by simp;omega)];rfl
 have e2:(Y.dT ⟨[1,0,0,0,0,57],mx⟩ (.mk [0])).2=Dl mx:=by
  simp only[Y.dT];rw[if_neg (by simp;omega)];rfl
 rw[e1,e2] at lC;exact Ev.ret lC
abbrev QB:List Value:=[cv 2,.bool false,cv 0,cv 0,cv 0,.pointer none,cv 0,.bool false,cv 0]
theorem P5 (a:Int):aE Tryz.prog 130 [(0,cv a)]=some (.agg #[cv a,aA,cv 0,cv 0,cv 0]):=by kernel_rfl
theorem GS (a:Int)(H:aa):dJ 130 (.agg #[cv a,aA,cv 0,cv 0,cv 0]) H=some (pv H.length,H.new ⟨[cv a,aA,cv 0,cv 0,cv 0],130,1,false⟩):=by
 simp[dJ,Value.cells,aD,aS]
theorem YM (hc:150≤c0∧c0<800):aF (run G) 104 [cv c0] H λv H'=>v= .tuple #[pv H.length,cv 0]∧H'=H.new ⟨[cv c0,aA,cv 0,cv 0,cv 0],130,1,false⟩:=by
 refine Ev.up (t:=λk=>XN (run G k) k (cv c0) H) ?_ λk=>Sb ..
 simp -implicitDefEqProofs only[XN,P5,GS,sS,Nat.reduceAdd];refine Ev.lss (λhq=>?_) (λhq=>?_)<;>try simp -implicitDefEqProofs only[P5,GS,sS,Nat.reduceAdd]
 ·omega
 refine Ev.gtr (λhq=>?_) (λhq=>?_)<;>try simp -implicitDefEqProofs only[P5,GS,sS,Nat.reduceAdd]
 ·omega
 exact Ev.ret ⟨rfl,rfl⟩
theorem YN (a b c:Int)(H:aa):dJ 60 (.agg #[cv a,cv b,cv c]) H=some (pv H.length,H.new ⟨[cv a,cv b,cv c],60,1,false⟩):=by
 simp[dJ,Value.cells,aD,aS]
theorem abM (a b c:Int)(k:Nat):aE Tryz.prog 65 [(0,.agg #[cv a,cv b,cv c]),(1,pv k)]=some (.agg #[cv a,cv b,cv c,pv k,aA,aA,cv 0,cv 0]):=by kernel_rfl
theorem YO (a b c:Int)(k:Nat)(H:aa):dJ 65 (.agg #[cv a,cv b,cv c,pv k,aA,aA,cv 0,cv 0]) H=some (pv H.length,H.new ⟨[cv a,cv b,cv c,pv k,aA,aA,cv 0,cv 0],65,1,false⟩):=by
 simp[dJ,Value.cells,aD,aS]
theorem adO:aE Tryz.prog 116 [(0,cv 2)]=some (.agg QB.toArray):=by kernel_rfl
theorem abN (H:aa):dJ 116 (.agg QB.toArray) H=some (pv H.length,H.new ⟨QB,116,1,false⟩):=by
 simp[dJ,Value.cells,aD,aS]
theorem adP (k:Nat)(H:aa):ay Tryz.prog 62 1 [(0,pv k)] H=some (.slice (some ⟨H.length,0,none⟩) 1 1,H.new ⟨[pv k],117,1,false⟩):=by kernel_rfl
structure NI (H:aa) (o:aj) (b0 xp mp:Nat) (c0:Nat) (tl:List Nat) (Ts:Value):Prop where
 cfg:Cl b0 [cv c0,cv 3,cv 2] 60 H o
 idx:H.get xp=some ⟨[cv c0,cv 3,cv 2,pv mp,Ts,aA,cv 0,cv 0],65,1,false⟩∧o xp= -80
 mem:lJ H o mp (Dl c0)
 ts:(Ts=aA∧tl=[])∨∃tb ty,Ts= .slice (some ⟨tb,0,none⟩) tl.length tl.length∧H.get tb=some ⟨tl.map pv,ty,1,false⟩∧o tb= -81
 th: ∀(i t:Nat),tl[i]? =some t→H.get t=some ⟨QB,116,1,false⟩∧o t= -200-i
theorem NI.grow {b0:Nat}{tl:List Nat}{Ts:Value}(h:NI H o b0 xp mp c0 tl Ts)(hj:tl.length<3): ∃P6 H2 H3 o3,oo Ts Ts=true∧
  aq (.pointer (some ⟨xp,4,none⟩)) H=some Ts∧aq (.pointer (some ⟨xp,4,none⟩)) (H.new ⟨QB,116,1,false⟩)=some Ts∧aq (.pointer (some ⟨xp,4,none⟩)) ((H.new ⟨QB,116,1,false⟩).new ⟨[pv H.length],117,1,false⟩)=some Ts∧
  df 117 1 8 Ts (.slice (some ⟨(H.new ⟨QB,116,1,false⟩).length,0,none⟩) 1 1) ((H.new ⟨QB,116,1,false⟩).new ⟨[pv H.length],117,1,false⟩)=some (P6,H2)∧
  bE 1 (.pointer (some ⟨xp,4,none⟩)) P6 H2=some (undef,H3)∧NI H3 o3 b0 xp mp c0 (tl++[H.length]) P6∧Fr H o H3 o3 [-80, -81]:=by
 obtain⟨YP,⟨gx,hox⟩,hm,hts,mN⟩:=h;obtain⟨H1,ga⟩: ∃z,z=H.new ⟨QB,116,1,false⟩:=⟨_,rfl⟩;have l1:H1.length=H.length+1:=by rw[ga,cB]
 obtain⟨sJ,Mw⟩: ∃z,z=H1.new ⟨[pv H.length],117,1,false⟩:=⟨_,rfl⟩;have l1b:sJ.length=H.length+2:=by rw[Mw,cB,l1]
 rw[←ga, ←Mw];obtain⟨oA,QA⟩: ∃z,z=(o.up H.length (-200-(tl.length:Int))).up H1.length (-9):=⟨_,rfl⟩;have f1:Fr H o sJ oA []:=by
  rw[Mw,QA];have a:Fr H o H1 (o.up H.length (-200-(tl.length:Int))) []:=by rw[ga];exact(Fr.refl _ _ _).new _ _
  exact a.new _ _
 have U0:H1.get xp=some ⟨[cv c0,cv 3,cv 2,pv mp,Ts,aA,cv 0,cv 0],65,1,false⟩:=by rw[ga,dh (ar gx)];exact gx
 have P7:sJ.get xp=some ⟨[cv c0,cv 3,cv 2,pv mp,Ts,aA,cv 0,cv 0],65,1,false⟩:=by rw[Mw,dh (ar U0)];exact U0
 have abO:oA xp= -80:=by rw[f1.own xp (ar gx)];exact hox
 have YQ:sJ.get H.length=some ⟨QB,116,1,false⟩:=by rw[Mw,dh (by omega),ga];exact aL
 have kO:oA H.length= -200-(tl.length:Int):=by rw[QA,dO (by omega)];exact aP
 have adQ:sJ.get H1.length=some ⟨[pv H.length],117,1,false⟩:=by rw[Mw];exact aL
 have AF:oo Ts Ts=true:=by
  rcases hts with⟨rfl,_⟩|⟨tb,ty,rfl,_⟩<;>exact kK ..
 have Me:cI sJ 1 1 (.slice (some ⟨H1.length,0,none⟩) 1 1)=some [pv H.length]:=by simp[cI,aR,adQ]
 obtain⟨P6,H2,U1,A8,ha,e',g',Zt⟩: ∃P6 H2 U1 A8,df 117 1 8 Ts (.slice (some ⟨H1.length,0,none⟩) 1 1) sJ=some (P6,H2)∧P6= .slice (some ⟨U1,0,none⟩) (tl++[H.length]).length (tl++[H.length]).length∧H2.get U1=some ⟨(tl++[H.length]).map pv,A8,1,false⟩∧U1=sJ.length∧Fr sJ oA H2 (oA.up sJ.length (-81)) [-81]:=by
  rcases hts with⟨rfl,rfl⟩|⟨tb,ty,rfl,gt,adR⟩
  ·refine⟨_,sJ.new ⟨[pv H.length],117,1,false⟩,sJ.length,117,?_,rfl,aL,rfl,(Fr.refl _ _ _).new _ _⟩;simp[df,Me]
  ·have gtb:sJ.get tb=some ⟨tl.map pv,ty,1,false⟩:=by rw[f1.same tb (ar gt) (by simp)];exact gt
   have hoA:oA tb= -81:=by rw[f1.own tb (ar gt)];exact adR
   have fk:Fr sJ oA ((sJ.kill tb).new ⟨tl.map pv++[pv H.length],117,1,false⟩) (oA.up sJ.length (-81)) [-81]:=by
    have:=((Fr.refl sJ oA [-81]).kill (i:=tb) (λ_=>by simp[hoA])).new ⟨tl.map pv++[pv H.length],117,1,false⟩ (-81)
    rw[gE] at this;exact this
   have ld:aR sJ tb 0 (tl.length*1)=some (tl.map pv):=by
    simp only[aR,gtb];rw[if_pos (by simp)]
    simp only[List.drop_zero,Nat.mul_one,Option.some.injEq];exact List.take_of_length_le (by simp)
   refine⟨.slice (some ⟨sJ.length,0,none⟩) (tl.length+1) (tl.length+1),(sJ.kill tb).new ⟨tl.map pv++[pv H.length],117,1,false⟩,sJ.length,117,?_,by simp,?_,rfl,fk⟩
   ·simp only[df,Me,Option.map_some];rw[if_neg (by omega),if_pos (by simp;omega)]
    simp only[gtb];rw[if_pos (by simp)]
    simp only[ld]
   ·have:=aL (H:=sJ.kill tb) (c:=⟨tl.map pv++[pv H.length],117,1,false⟩)
    rw[gE] at this;rw[this];simp
 obtain⟨g',Zt⟩:=Zt;have hoB:(oA.up sJ.length (-81)) xp= -80:=by rw[Zt.own xp (ar P7)];exact abO
 have gx2:H2.get xp=some ⟨[cv c0,cv 3,cv 2,pv mp,Ts,aA,cv 0,cv 0],65,1,false⟩:=by rw[Zt.same xp (ar P7) (by rw[abO];simp)];exact P7
 have S:=Gm xp 4 (some ⟨U1,0,none⟩) (tl++[H.length]).length (tl++[H.length]).length H2 gx2 rfl (by simp)
 rw[←e'] at S;simp only[List.set_cons_succ,List.set_cons_zero] at S;obtain⟨H3,mA⟩: ∃z,z=H2.put xp ⟨[cv c0,cv 3,cv 2,pv mp,P6,aA,cv 0,cv 0],65,1,false⟩:=⟨_,rfl⟩;rw[←mA] at S;have f3:Fr H2 (oA.up sJ.length (-81)) H3 (oA.up sJ.length (-81)) [-80]:=by rw[mA];exact(Fr.refl _ _ _).put λ_=>by simp[hoB]
 have fA:Fr H o H3 (oA.up sJ.length (-81)) [-80, -81]:=(f1.trans Zt (rs:=[-80, -81]) (by simp) (by simp)).trans f3 (by simp) (by simp)
 have fB:Fr sJ oA H3 (oA.up sJ.length (-81)) [-80, -81]:=Zt.trans f3 (by simp) (by simp)
 have hxt:xp≠U1:=by have:=ar P7;omega
 refine⟨P6,H2,H3,_,AF,an xp 4 H gx,an xp 4 H1 U0,an xp 4 sJ P7,ha,S,⟨YP.fr fA (by simp),⟨by rw[mA];exact aG gx2,hoB⟩,hm.fr fA (by simp) (by simp),.inr ⟨U1,A8,e',?_,by rw[g'];exact aP⟩,λj t ht=>?_⟩,fA⟩
 ·rw[mA,bz (Ne.symm hxt)];assumption
 ·rcases Nat.lt_or_ge j tl.length with g|g
  ·rw[List.getElem?_append_left g] at ht;obtain⟨a1,a2⟩:=mN j t ht;exact⟨by rw[fA.same t (ar a1) (by rw[a2];simp<;>omega)];exact a1,by rw[fA.own t (ar a1)];exact a2⟩
  ·rw[List.getElem?_append_right g] at ht;have X4:j=tl.length:=by
    rcases Nat.lt_or_ge tl.length j with g2|g2
    ·rw[List.getElem?_eq_none (by simp;omega)] at ht;cases ht
    ·omega
   subst X4;have:H.length=t:=by simpa using ht
   subst this;exact⟨by rw[fB.same H.length (ar YQ) (by rw[kO];simp<;>omega)];exact YQ,by rw[fB.own H.length (ar YQ)];exact kO⟩
theorem YS (hc:150≤c0∧c0<800)(H:aa)(o:aj):aF (run G) 84 [.agg #[cv c0,cv 3,cv 2]] H λv H'=>∃xp mp o' th,v= .tuple #[pv xp,cv 0]∧Fr H o H' o' wt∧WR H' o' xp mp (Dl c0) th []∧∀i,i<3→th i=⟨(th i).ti,false,false,[],.rd⟩:=by
 refine Ev.up (t:=λk=>F84 (run G k) k (.agg #[cv c0,cv 3,cv 2]) H) ?_ λk=>V1 ..
 obtain⟨H1,ga⟩: ∃z,z=H.new ⟨[cv c0,cv 3,cv 2],60,1,false⟩:=⟨_,rfl⟩;have bx:=YN c0 3 2 H;rw[←ga] at bx;have l1:H1.length=H.length+1:=by rw[ga,cB]
 have g1:H1.get H.length=some ⟨[cv c0,cv 3,cv 2],60,1,false⟩:=by rw[ga];exact aL
 have L0:aq (pv H.length) H1=some (cv c0):=an _ 0 H1 g1;have L1:aq (.pointer (some ⟨H.length,1,none⟩)) H1=some (cv 3):=an _ 1 H1 g1;have L2:aq (.pointer (some ⟨H.length,2,none⟩)) H1=some (cv 2):=an _ 2 H1 g1;simp -implicitDefEqProofs only[F84,bx,L0,L1,L2,Nat.add_zero,sS,Nat.reduceAdd];refine Ev.lss (λhq=>?_) (λhq=>?_)<;>try simp -implicitDefEqProofs only[L0,L1,L2,Nat.add_zero,sS,Nat.reduceAdd]
 ·omega
 refine Ev.gtr (λhq=>?_) (λhq=>?_)<;>try simp -implicitDefEqProofs only[L0,L1,L2,Nat.add_zero,sS,Nat.reduceAdd]
 ·omega
 refine Ev.lss (λhq=>?_) (λhq=>?_)<;>try simp -implicitDefEqProofs only[L0,L1,L2,Nat.add_zero,sS,Nat.reduceAdd]
 ·omega
 refine Ev.gtr (λhq=>?_) (λhq=>?_)<;>try simp -implicitDefEqProofs only[L0,L1,L2,Nat.add_zero,sS,Nat.reduceAdd]
 ·omega
 refine Ev.lss (λhq=>?_) (λhq=>?_)<;>try simp -implicitDefEqProofs only[L0,L1,L2,Nat.add_zero,sS,Nat.reduceAdd]
 ·omega
 refine Ev.gtr (λhq=>?_) (λhq=>?_)<;>try simp -implicitDefEqProofs only[L0,L1,L2,Nat.add_zero,sS,Nat.reduceAdd]
 ·omega
 refine Ev.call (YM hc) ?_;rintro v H2 ⟨rfl,iD⟩;have l2:H2.length=H.length+2:=by rw[iD,cB,l1]
 obtain⟨oA,QA⟩: ∃z,z=(o.up H.length (-9)).up H1.length (-70):=⟨_,rfl⟩;have f1:Fr H o H1 (o.up H.length (-9)) []:=by rw[ga];exact(Fr.refl _ _ _).new _ _
 have f2:Fr H o H2 oA []:=by rw[iD,QA];exact f1.new _ _
 have YP:Cl H.length [cv c0,cv 3,cv 2] 60 H2 oA:=⟨by rw[iD,dh (by omega)];exact g1,by rw[QA,dO (by omega)];exact aP⟩
 have Jz:lJ H2 oA H1.length ⟨[],c0⟩:=⟨0,0,0,aA,130,by rw[iD];exact aL,by rw[QA];exact aP,.inl ⟨rfl,rfl⟩,by simp,by show c0≤65536;omega⟩
 have zP:JM (λH' o'=>Fr H2 oA H' o' [-70, -71]) H1.length ⟨[],c0⟩ H2:=⟨bK.base (by simp),oA,Jz,Fr.refl _ _ _⟩
 simp -implicitDefEqProofs only[sS,Nat.reduceAdd];refine Ev.call (P4 zP (by omega)) ?_
 rintro v H3 ⟨_,o3,T3,f3⟩;have Va:=YP.fr f3 (by simp)
 have LC:c8 3 (pv H.length) H3=some (.agg #[cv c0,cv 3,cv 2]):=by simp[c8,aR,Va.1]
 obtain⟨H4,pP⟩: ∃z,z=H3.new ⟨[cv c0,cv 3,cv 2,pv H1.length,aA,aA,cv 0,cv 0],65,1,false⟩:=⟨_,rfl⟩;have bI:=YO c0 3 2 H1.length H3;rw[←pP] at bI;have f4:Fr H3 o3 H4 (o3.up H3.length (-80)) []:=by rw[pP];exact(Fr.refl _ _ _).new _ _
 have fA4:Fr H o H4 (o3.up H3.length (-80)) wt:=(f2.trans f3 (rs:=wt) (by simp) (by simp)).trans f4 (λ_ h=>h) (by simp)
 have n4:NI H4 (o3.up H3.length (-80)) H.length H3.length H1.length c0 [] aA:=⟨Va.fr f4 (by simp),⟨by rw[pP];exact aL,aP⟩,T3.fr f4 (by simp) (by simp),.inl ⟨rfl,rfl⟩,λi t ht=>by simp at ht⟩
 simp -implicitDefEqProofs only[LC,abM,bI,sS,Nat.reduceAdd];refine Ev.loop (k:=3) (λkk vs Hx=>∃(tl:List Nat) (Ts:Value) (ox:aj) (x0 x2 x3 bG x4 dS:Value),vs=[x0,x2,x3,pv H.length,bG,x4,cv (tl.length:Nat),dS,pv H3.length]∧tl.length+kk=3∧NI Hx ox H.length H3.length H1.length c0 tl Ts∧Fr H o Hx ox wt)
  (λr=>r.1= .exit 0∧∃(tl:List Nat) (Ts:Value) (ox:aj) (x0 x2 x3 bG x4 x7 dS:Value),r.2.1=[x0,x2,x3,pv H.length,bG,x4,x7,dS,pv H3.length]∧tl.length=3∧NI r.2.2 ox H.length H3.length H1.length c0 tl Ts∧Fr H o r.2.2 ox wt) ⟨[],aA,_,_,_,_,_,_,_,rfl,rfl,n4,fA4⟩ ?_ ?_
 ·rintro kk vs Hx ⟨tl,Ts,ox,x0,x2,x3,bG,x4,dS,rfl,Yf,hn,hf⟩;have K1:aq (.pointer (some ⟨H.length,1,none⟩)) Hx=some (cv 3):=an _ 1 Hx hn.cfg.1;have K2:aq (.pointer (some ⟨H.length,2,none⟩)) Hx=some (cv 2):=an _ 2 Hx hn.cfg.1;have hw:IntKind.i64.wrap ((tl.length:Int)+1)=((tl.length+1:Nat):Int):=by rw[fZ (by omega)];omega
  simp -implicitDefEqProofs only[NG,Cb,K1,sS,Nat.reduceAdd];refine Ev.lss (λhq=>?_) (λhq=>?_)<;>try simp -implicitDefEqProofs only[sS,Nat.reduceAdd]
  ·obtain⟨P6,H5,H6,o6,e0,e1,e2,e3,e4,e5,hn6,f6⟩:=hn.grow (by omega)
   simp -implicitDefEqProofs only[e1,K2,adO,abN,adP,e2,e3,e4,e5,e0,hw,sS,Nat.reduceAdd];exact Ev.ret (.inl ⟨rfl,kk-1,by omega,tl++[Hx.length],P6,o6,x0,x2,x3,bG,x4,.bool true,by simp,by simp;omega,hn6,hf.trans f6 (λ_ h=>h) (by simp)⟩)
  ·exact Ev.ret (.inr ⟨by simp,rfl,tl,Ts,ox,_,_,_,_,_,_,_,rfl,by omega,hn,hf⟩)
 ·rintro e vs Hx ⟨he,tl,Ts,ox,x0,x2,x3,bG,x4,x7,dS,rfl,Yf,hn,hf⟩;simp only at he;subst he;simp -implicitDefEqProofs only[NJ,Ce,sS,Nat.reduceAdd];obtain⟨t0,t1,t2,rfl⟩: ∃t0 t1 t2,tl=[t0,t1,t2]:=by
   match tl,Yf with
   | [t0,t1,t2],_=>exact⟨t0,t1,t2,rfl⟩
  obtain⟨_,⟨gx,hox⟩,hm,hts,mN⟩:=hn;rcases hts with⟨_,e⟩|⟨tb,ty,rfl,gt,kO⟩
  ·cases e
  refine Ev.ret ⟨H3.length,H1.length,ox,λi=>⟨if i=0 then t0 else if i=1 then t1 else t2,false,false,[],.rd⟩,rfl,hf,⟨c0,3,2,0,0,tb,3,aA,[],_,ty,gx,hox,gt,kO,hm,λi hi=>?_,.inl ⟨rfl,rfl⟩⟩,λi hi=>rfl⟩
  have:i=0∨i=1∨i=2:=by omega
  have key:([t0,t1,t2]:List Nat)[i]? =some (if i=0 then t0 else if i=1 then t1 else t2):=by
   rcases this with rfl|rfl|rfl<;>rfl
  obtain⟨a1,a2⟩:=mN i _ key;exact⟨2,0,0,0,0,0,.pointer none,_,a1,a2,λhb=>by cases hb⟩
theorem abP (a b c:Int):aE Tryz.prog 60 [(0,cv a),(1,cv b),(2,cv c)]=some (.agg #[cv a,cv b,cv c]):=by kernel_rfl
theorem TA (c:Int){ky x:Value}{ks zs:List Int}(hky:sI H ky ks)(hkr:du H o (-1) ky ks)(hx:du H o (-1) x zs)(hz:zs.length≤maxLen):aF (run G) 55 [cv c,cv 3,ky,x] H λv H'=>∃xp mp o' m th L,v=pv xp∧Fr H o H' o' wt∧WR H' o' xp mp m th L∧Inv th L 211 1680∧TI th m:=by
 refine Ev.up (t:=λn=>F55 (run G n) n (cv c) (cv 3) ky x H) ?_ λn=>XJ ..
 simp -implicitDefEqProofs only[F55,sS,Nat.reduceAdd];refine Ev.call (lu c 650 (by omega)) ?_
 rintro v H1 ⟨z,rfl,Vi,Y9,rfl⟩;obtain⟨c0,hc0⟩: ∃c0:Nat,(c0:Int)=150+z:=⟨(150+z).toNat,by omega⟩
 have Ss:IntKind.i64.wrap (150+z)=c0:=by rw[fZ (by omega),hc0]
 simp -implicitDefEqProofs only[Ss,abP,sS,Nat.reduceAdd];refine Ev.call (YS (c0:=c0) (by omega) H1 o) ?_
 rintro v H2 ⟨xp,mp,o2,th,rfl,f2,h2,mN⟩
 try simp -implicitDefEqProofs only[sS,Nat.reduceAdd]
 have adS:sI H2 ky ks:=⟨(hkr.fr f2 (by simp)).1,hky.2⟩
 refine Ev.call (abH adS (k:=20)) ?_;rintro y H3 ⟨rfl,ys,hy⟩;refine Ev.call (P3 hy) ?_;rintro y H4 ⟨l,⟨ex,hs⟩,hl⟩;have f3:Fr H3 o2 H4 (o2.from H3.length (-42)) []:=ex.fr o2 (-42)
 have TW:gT H4 (o2.from H3.length (-42)) (-42) y l:=hs.r.relabel λi hi Tx=>by
  rcases Nat.lt_or_ge i H3.length with g|g
  ·rw[C2 g] at Tx;exact absurd Tx (by show(-1:Int)≠ -42;decide)
  ·exact C1 g
 have h3:=h2.uz f3 (by simp)
 have hI0:Inv th [] 0 0:=⟨by rw[mN 0 (by omega),mN 1 (by omega),mN 2 (by omega)];simp[uG],λe he=>by simp at he,λi hi=>by rw[mN i hi];simp⟩
 refine Ev.call (YL h3 TW (by omega) hI0 (by omega)) ?_
 rintro v H4 ⟨o4,L4,m4,f4,h4,hI4,abQ⟩;obtain⟨G4,i4,r4⟩:=abQ.typed (by omega)
 have hT4:TI th m4:=⟨G4,i4,r4,λi hi hb=>by rw[mN i hi] at hb;cases hb⟩
 have f23:Fr H1 o _ _ wt:=f2.trans f3 (λ_ h=>h) (by simp)
 have f24:Fr H1 o H4 o4 wt:=f23.trans f4 (λ_ h=>h) (λ_ h=>h)
 try simp -implicitDefEqProofs only[sS,Nat.reduceAdd]
 refine Ev.loop (k:=70) (λkk vs Hx=>∃(j:Nat) (ox:aj) (mz:Y.Mm) (oj:jc) (Lx:List jE) (x8 bG aN aI eQ:Value),vs=[cv c,cv 3,ky,x,x8,pv xp,cv j,bG,aN,aI,eQ]∧j+kk=70∧Fr H1 o Hx ox wt∧WR Hx ox xp mp mz oj Lx∧Inv oj Lx (1+3*j) (24*j)∧TI oj mz)
  (λr=>r.1= .exit 0∧∃(ox:aj) (mz:Y.Mm) (oj:jc) (Lx:List jE) (x8 aO bG aN aI eQ:Value),r.2.1=[cv c,cv 3,ky,x,x8,pv xp,aO,bG,aN,aI,eQ]∧Fr H1 o r.2.2 ox wt∧WR r.2.2 ox xp mp mz oj Lx∧Inv oj Lx 211 1680∧TI oj mz) ⟨0,o4,m4,th,L4,_,_,_,_,_,rfl,rfl,f24,h4,hI4,hT4⟩ ?_ ?_
 ·rintro kk vs Hx ⟨j,ox,mz,oj,Lx,x8,bG,aN,aI,eQ,rfl,Av,hf,hw,hI,hT⟩;have hxx:du Hx ox (-1) x zs:=hx.fr hf (by simp)
  have hwj:IntKind.i64.wrap ((j:Int)+1)=((j+1:Nat):Int):=by rw[fZ (by omega)];omega
  have hIe:Inv oj Lx 211 1680:=⟨by have:=hI.len;omega,hI.lists,λi hi=>by have:=hI.tape i hi;omega⟩
  have iQ: ∀(x8 bG aN aI eQ:Value) {Hy:aa} {oy:aj} {mw:Y.Mm} {thy:jc} {Ly:List jE},j<70→Fr Hx ox Hy oy wt→WR Hy oy xp mp mw thy Ly→Inv thy Ly (1+3*j+3) (24*j+24)→TI thy mw→Ev (λn=>yz (run G n) n [cv c,cv 3,ky,x,x8,pv xp,cv j,bG,aN,aI,eQ] Hy) λr=>(r.1= .normal∧∃k',k'<kk∧∃(j:Nat) (ox:aj) (mz:Y.Mm) (oj:jc) (Lx:List jE) (x8 bG aN aI eQ:Value),r.2.1=[cv c,cv 3,ky,x,x8,pv xp,cv j,bG,aN,aI,eQ]∧j+k'=70∧Fr H1 o r.2.2 ox wt∧WR r.2.2 ox xp mp mz oj Lx∧Inv oj Lx (1+3*j) (24*j)∧TI oj mz)∨(r.1≠ .normal∧r.1= .exit 0∧∃(ox:aj) (mz:Y.Mm) (oj:jc) (Lx:List jE) (x8 aO bG aN aI eQ:Value),r.2.1=[cv c,cv 3,ky,x,x8,pv xp,aO,bG,aN,aI,eQ]∧Fr H1 o r.2.2 ox wt∧WR r.2.2 ox xp mp mz oj Lx∧Inv oj Lx 211 1680∧TI oj mz):=by
   intro x8 bG aN aI eQ Hy oy mw thy Ly C0 a1 a2 a3 a4;simp -implicitDefEqProofs only[Oy,CJ,hwj,sS,Nat.reduceAdd];exact Ev.ret (.inl ⟨rfl,kk-1,by omega,j+1,oy,mw,thy,Ly,_,_,_,_,_,rfl,by omega,hf.trans a1 (λ_ h=>h) (λ_ h=>h),a2,⟨by have:=a3.len;omega,a3.lists,λi hi=>by have:=a3.tape i hi;omega⟩,a4⟩)
  simp -implicitDefEqProofs only[OA,CK,hxx.1.len,sS,Nat.reduceAdd];refine Ev.lss (λhq=>?_) (λhq=>?_)<;>try simp -implicitDefEqProofs only[sS,Nat.reduceAdd]
  rotate_left
  ·exact Ev.ret (.inr ⟨by simp,rfl,ox,mz,oj,Lx,_,_,_,_,_,_,rfl,hf,hw,hIe,hT⟩)
  refine Ev.lss (λkB=>?_) (λkB=>?_)<;>try simp -implicitDefEqProofs only[sS,Nat.reduceAdd]
  rotate_left
  ·exact Ev.ret (.inr ⟨by simp,rfl,ox,mz,oj,Lx,_,_,_,_,_,_,rfl,hf,hw,hIe,hT⟩)
  have C0:j<70:=by omega
  obtain⟨qi,off,b,e1,e2,e3⟩:=hxx.1.idx (j:=j) (by omega)
  have e4:aq (.pointer (some ⟨qi,off,none⟩)) Hx=some (cv (zs.getD j 0)):=(an qi off Hx e2).trans e3;simp -implicitDefEqProofs only[e1,e4,sS,Nat.reduceAdd];refine Ev.call (lu _ 3 (by omega)) ?_
  rintro v H5 ⟨t,rfl,Vp,Pg,rfl⟩;obtain⟨ti,rfl⟩: ∃k:Nat,t=k:=⟨t.toNat,by omega⟩
  have YB:ti<3:=by omega
  simp -implicitDefEqProofs only[PU,sS,Nat.reduceAdd];refine Ev.call (lu _ 3 (by omega)) ?_
  rintro v H5 ⟨y,rfl,_,_,rfl⟩;obtain⟨tb,cap,inv,dD,i3,i4,i6,i7,iT,_⟩:=hw.n7;obtain⟨iT1,iT2⟩:=iT ti YB;obtain⟨no,d1,d7,d8⟩:=hw.UZ YB;have Jf: ∀(x8 bG aN eQ:Value) (a:Int),Ev (λn=>af (run G n 73 [cv a] H5) λgR Hy=>af (run G n 72 [pv xp,cv ti,gR] Hy) λ_ Hy=>yz (run G n) n [cv c,cv 3,ky,x,x8,pv xp,cv j,bG,aN,cv ti,eQ] Hy) λr=>(r.1= .normal∧∃k',k'<kk∧∃(j:Nat) (ox:aj) (mz:Y.Mm) (oj:jc) (Lx:List jE) (x8 bG aN aI eQ:Value),r.2.1=[cv c,cv 3,ky,x,x8,pv xp,cv j,bG,aN,aI,eQ]∧j+k'=70∧Fr H1 o r.2.2 ox wt∧WR r.2.2 ox xp mp mz oj Lx∧Inv oj Lx (1+3*j) (24*j)∧TI oj mz)∨(r.1≠ .normal∧r.1= .exit 0∧∃(ox:aj) (mz:Y.Mm) (oj:jc) (Lx:List jE) (x8 aO bG aN aI eQ:Value),r.2.1=[cv c,cv 3,ky,x,x8,pv xp,aO,bG,aN,aI,eQ]∧Fr H1 o r.2.2 ox wt∧WR r.2.2 ox xp mp mz oj Lx∧Inv oj Lx 211 1680∧TI oj mz):=by
   intro x8 bG aN eQ a;refine Ev.call (U6 a) ?_;rintro v H6 ⟨op,rfl,ex⟩;have f6:Fr H5 ox H6 (ox.from H5.length (-9)) []:=ex.fr ox (-9)
   have h6:=hw.uz f6 (by simp)
   refine Ev.call (EV h6 YB hI (by omega) op) ?_
   rintro v H7 ⟨o7,th7,L7,f7,h7,Mt,hR7⟩;exact iQ _ _ _ _ _ C0 (f6.trans f7 (by simp) (λ_ h=>h)) h7 ⟨Mt.len,Mt.lists,λi hi=>by have:=Mt.tape i hi;omega⟩ (TI.keep.inv hT YB hR7)
  refine Ev.gtr (λUU=>?_) (λUU=>?_)<;>try simp -implicitDefEqProofs only[i4,iT1,iT2,d1,sS,Nat.reduceAdd]
  ·cases hb:(oj ti).busy<;>simp -implicitDefEqProofs only[PU,sS,Nat.reduceAdd]
   ·exact Jf _ _ _ _ _
   ·refine Ev.call (lu _ 24 (by omega)) ?_
    rintro v H6 ⟨u,rfl,Vo,MZ,rfl⟩;have hwu:IntKind.i64.wrap (1+u)=1+u:=fZ (by omega)
    simp -implicitDefEqProofs only[hwu,abz,sS,Nat.reduceAdd];refine Ev.call (abA TI.keep hT hw YB hI (by omega) (by omega) (k:=1+u) (by omega)) ?_
    rintro v H7 ⟨o7,th7,L7,m7,f7,h7,Mt,hT7⟩;exact iQ _ _ _ _ _ C0 f7 h7 ⟨by have:=Mt.len;omega,Mt.lists,Mt.tape⟩ hT7
  ·try simp -implicitDefEqProofs only[PU,sS,Nat.reduceAdd]
   exact Jf _ _ _ _ _
 ·rintro e vs Hx ⟨he,ox,mz,oj,Lx,x8,aO,bG,aN,aI,eQ,rfl,hf,hw,hI,hT⟩;simp only at he;subst he;simp -implicitDefEqProofs only[OC,CL,sS,Nat.reduceAdd];exact Ev.ret ⟨xp,mp,ox,mz,oj,Lx,rfl,hf,hw,hI,hT⟩
end
end Go.Proofs.YtgfgglponbmgmaaGreat.Fun
end
