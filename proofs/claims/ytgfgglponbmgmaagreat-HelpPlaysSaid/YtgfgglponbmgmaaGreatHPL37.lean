/- Texts of the proof of helpPlays_holds, put together by a small program of ours (names shortened, spaces taken out). No condition beyond the given statement. -/
import Derived.Test.YtgfgglponbmgmaaGreatHPL11
import Derived.Test.YtgfgglponbmgmaaGreatHPL12
import Derived.Test.YtgfgglponbmgmaaGreatHPL14
import Derived.Test.YtgfgglponbmgmaaGreatHPL18
import Derived.Test.YtgfgglponbmgmaaGreatHPL36
import Derived.Test.YtgfgglponbmgmaaGreatHPL13
import Derived.Test.YtgfgglponbmgmaaGreatHPL17
set_option linter.unusedVariables false
set_option linter.unusedSimpArgs false
set_option linter.unnecessarySimpa false
noncomputable section
section
namespace Go.Proofs.YtgfgglponbmgmaaGreat.Fun
open Go Go.RowKit Go.Proofs.YtgfgglponbmgmaaGreatA.Am
set_option maxRecDepth 10000
section
open Go.Proofs.YtgfgglponbmgmaaGreatA
variable {G:ae} {H H':aa} {o o':aj} {p c mp f xp n i mx:Nat} {K:aa→aj→Prop} {q:Int} {x:Value} {l:PL} {m m':Y.Mm} {T:List Int} {th:jz} {L:List kq} {N M:Nat}
theorem ab1 (hx:gT H o q x l)(hl:l.length≤100000):aF (run G) 132 [x] H (PA H):=by
 refine Ev.up (t:=λn=>WG (run G n) n x H) ?_ λn=>RP ..
 simp -implicitDefEqProofs only[WG,sS,Nat.reduceAdd];refine Ev.loop (k:=l.length) (λkk vs Hx=>∃(j:Nat) (x7 bl:Value),vs=[x,.bool false,cv (j+1:Nat),x7,bl]∧Hx=H∧j+kk=l.length)
  (λr=>r.2.2=H∧∃(x2 x3 x7 bl:Value),r.2.1=[x,x2,x3,x7,bl]∧(r.1= .exit 0∨(r.1= .ret∧∃b,x2= .bool b))) ⟨0,_,_,rfl,rfl,by omega⟩ ?_ ?_
 ·rintro kk vs Hx ⟨j,x7,bl,rfl,rfl,hj⟩;have hw:IntKind.i64.wrap (((j+1:Nat):Int)+1)=((j+1+1:Nat):Int):=by rw[ga (by omega)];omega
  have w7:IntKind.i64.wrap (((j+1:Nat):Int)-1)=(j:Int):=by rw[ga (by omega)];omega
  simp -implicitDefEqProofs only[K7,xx,hx.len,sS,Nat.reduceAdd];refine Ev.lss (λhq=>?_) (λhq=>?_)<;>try simp -implicitDefEqProofs only[sS,Nat.reduceAdd]
  ·obtain⟨i',off,b',e1,e2,e3,e4⟩:=hx.idx (j:=j+1) (by omega)
   obtain⟨e5,_,_⟩:=e4 _ e2;obtain⟨i2,nU,b2,f1,f2,f3,f4⟩:=hx.idx (j:=j) (by omega)
   obtain⟨f5,_,_⟩:=f4 _ f2;simp -implicitDefEqProofs only[e1,gX,Nat.add_zero,e5,w7,f1,f5,sS,Nat.reduceAdd];refine Ev.leq (λhq=>?_) (λhq=>?_)<;>try simp -implicitDefEqProofs only[hw,sS,Nat.reduceAdd]
   ·exact Ev.ret (.inr ⟨by simp,rfl,_,_,_,_,rfl,.inr ⟨rfl,_,rfl⟩⟩)
   ·exact Ev.ret (.inl ⟨rfl,kk-1,by omega,j+1,_,_,rfl,rfl,by omega⟩)
  ·exact Ev.ret (.inr ⟨by simp,rfl,_,_,_,_,rfl,.inl rfl⟩)
 ·rintro e vs Hx ⟨D5,x2,x3,x7,bl,rfl,he⟩;simp only at D5;subst D5;rcases he with he|⟨he,b,rfl⟩
  ·simp only at he;subst he;simp -implicitDefEqProofs only[K8,xy,sS,Nat.reduceAdd];exact Ev.ret ⟨⟨_,rfl⟩,rfl⟩
  ·simp only at he;subst he;show Ev (λ_=>some (Value.bool b,Hx)) _
   exact Ev.ret ⟨⟨_,rfl⟩,rfl⟩
theorem VA (hx:gT H o q x l)(hl:l.length≤16384):aF (run G) 107 [x] H (PA H):=by
 refine Ev.up (t:=λk=>Xt (run G k) k x H) ?_ λk=>Sb ..
 simp -implicitDefEqProofs only[Xt,sS,Nat.reduceAdd];refine Ev.Yx (ab1 hx (by omega)) λb=>?_
 cases b<;>simp -implicitDefEqProofs only[hx.len,sS,Nat.reduceAdd]
 ·exact Ev.ret ⟨⟨_,rfl⟩,rfl⟩
 refine Ev.leq (λhq=>?_) (λhq=>?_)<;>try simp -implicitDefEqProofs only[sS,Nat.reduceAdd]
 ·exact Ev.ret ⟨⟨_,rfl⟩,rfl⟩
 ·exact Ev.ret ⟨⟨_,rfl⟩,rfl⟩
theorem Uh (h:JM K mp m H)(hqq:q≠ -70∧q≠ -71)(hK: ∀H o,K H o→gT H o q x l)(hl:l.length≤1000):aF (run G) 109 [pv mp,x] H λv H'=>
  (v= .tuple #[cv 0,.bool false]∧JM K mp m H')∨(v= .tuple #[cv (Y.dN (l.length+1) l m).1,.bool true]∧JM K mp (Y.dN (l.length+1) l m).2 H'∧m.cs.length+dO (l.length+1) l.length≤m.max):=by
 refine Ev.up (t:=λk=>Ym (run G k) k (pv mp) x H) ?_ λk=>SS ..
 obtain⟨cr,jI,ref,s,ty,g,hls,hj⟩:=h.num;obtain⟨_,o,hm,hk⟩:=id h;have hx:=hK _ _ hk;have TQ:=hm.Aw;have L0:aq (pv mp) H=some (cv m.max):=an mp 0 H g;have L1:aq (.pointer (some ⟨mp,1,none⟩)) H=some s:=an mp 1 H g;have AN:ot s s=true:=by
  cases s<;>simp[cE] at hls;exact kU ..
 have w1:IntKind.i64.wrap ((m.max:Int)-m.cs.length)=(m.max:Int)-m.cs.length:=ga (by omega)
 simp -implicitDefEqProofs only[Ym,sS,Nat.reduceAdd];refine Ev.Yx (VA hx (by omega)) λb=>?_
 cases b<;>simp -implicitDefEqProofs only[hx.len,sS,Nat.reduceAdd]
 ·exact Ev.ret (.inl ⟨rfl,h⟩)
 refine Ev.is (Uc (l.length+1) (by omega) (by omega)) ?_
 simp -implicitDefEqProofs only[L0,L1,hls,w1,AN,Nat.add_zero,lW,sS,Nat.reduceAdd];refine Ev.gtr (λhq=>?_) (λhq=>?_)<;>try simp -implicitDefEqProofs only[L0,L1,AN,lW,sS,Nat.reduceAdd]
 ·exact Ev.ret (.inl ⟨rfl,h⟩)
 refine Ev.call (Ue l.length rfl (by omega) h hqq hK (f:=l.length+1) (Nat.le_refl _)) ?_
 rintro v H4 ⟨rfl,jh⟩
 try simp -implicitDefEqProofs only[sS,Nat.reduceAdd]
 exact Ev.ret (.inr ⟨rfl,jh,by omega⟩)
theorem WR.mem (h:WR H o xp mp m th L)(f:Fr H o H' o' [-70, -71])(hm:lP H' o' mp m'):WR H' o' xp mp m' th L:=by
 obtain⟨_,_,_,_,_,_,_,_,_,_,_,_,_,_,_,_,mT,_⟩:=id h;have hw:=h.Ft (i:=0) (s':=th 0) (by omega) (f.wk (by simp)) ((mT 0 (by omega)).fr f (by simp) (by simp) (by simp) (by simp)) rfl hm
 have e:Fun.pc th 0 (th 0)=th:=by
  funext j
  unfold Fun.pc;split
  ·rename_i e;rw[e]
  ·rfl
 rw[e] at hw;exact hw
theorem Zi (h:WR H o xp mp m th L):aF (run G) 106 [pv xp] H λv H'=>(∃b,v= .bool b)∧H'=H:=by
 refine Ev.up (t:=λk=>WU (run G k) k (pv xp) H) ?_ λk=>RT ..
 obtain⟨tb,cap,inv,dI,e3,e4,e6,e7,eT,_⟩:=h.n9;simp -implicitDefEqProofs only[WU,sS,Nat.reduceAdd];refine Ev.loop (k:=3) (λkk vs Hx=>∃(j:Nat) (aC bB:Value),vs=[pv xp,.bool false,cv j,aC,bB]∧Hx=H∧j+kk=3)
  (λr=>r.2.2=H∧∃(x2 x3 aC bB:Value),r.2.1=[pv xp,x2,x3,aC,bB]∧(r.1= .exit 0∨(r.1= .ret∧∃b,x2= .bool b))) ⟨0,_,_,rfl,rfl,rfl⟩ ?_ ?_
 ·rintro kk vs Hx ⟨j,aC,bB,rfl,rfl,hj⟩;have hw:IntKind.i64.wrap ((j:Int)+1)=((j+1:Nat):Int):=by rw[ga (by omega)];omega
  simp -implicitDefEqProofs only[Lb,xD,e4,cE,sS,Nat.reduceAdd];refine Ev.lss (λhq=>?_) (λhq=>?_)<;>try simp -implicitDefEqProofs only[sS,Nat.reduceAdd]
  ·have gG:j<3:=by omega
   obtain⟨T5,T6⟩:=eT j gG;obtain⟨no,b1,b7,b8⟩:=h.Vq gG;simp -implicitDefEqProofs only[e4,T5,T6,b1,sS,Nat.reduceAdd];cases(th j).busy<;>simp -implicitDefEqProofs only[hw,sS,Nat.reduceAdd]
   ·exact Ev.ret (.inl ⟨rfl,kk-1,by omega,j+1,_,_,rfl,rfl,by omega⟩)
   ·exact Ev.ret (.inr ⟨by simp,rfl,_,_,_,_,rfl,.inr ⟨rfl,_,rfl⟩⟩)
  ·exact Ev.ret (.inr ⟨by simp,rfl,_,_,_,_,rfl,.inl rfl⟩)
 ·rintro e vs Hx ⟨hx,x2,x3,aC,bB,rfl,he⟩;simp only at hx;subst hx;rcases he with he|⟨he,b,rfl⟩
  ·simp only at he;subst he;simp -implicitDefEqProofs only[Lc,xE,sS,Nat.reduceAdd];exact Ev.ret ⟨⟨_,rfl⟩,rfl⟩
  ·simp only at he;subst he;show Ev (λ_=>some (Value.bool b,Hx)) _
   exact Ev.ret ⟨⟨_,rfl⟩,rfl⟩
theorem adM (r:eQ)(pick:Int)(a:Option Addr)(m c:Nat):aE Tryz.prog 155 [(0,cv 4),(4,.agg #[cv 0,.bool false,cv 0,cv 0,cv 0,.slice a m c]),(5,cv pick)]=some (evA ⟨4,0,0,⟨0,0,0⟩,⟨0,false,0,0,0,r.list⟩,pick⟩ (.slice a m c)):=by kernel_rfl
theorem Zj (h:WR H o xp mp (DF mx) th L)(hx:gT H o (-42) x l)(hl:l.length≤1000)(hI:Inv th L N M)(hN:N<4000000):aF (run G) 85 [pv xp,x] H λv H'=>∃o' L' m',Fr H o H' o' wt∧WR H' o' xp mp m' th L'∧Inv th L' (N+1) M∧QJ mx m':=by
 refine Ev.up (t:=λk=>F85 (run G k) k (pv xp) x H) ?_ λk=>Yj ..
 have wm:Inv th L (N+1) M:=⟨by have:=hI.len;omega,hI.lists,hI.tape⟩
 have hm:lP H o mp (DF mx):=by
  obtain⟨_,_,_,_,_,_,_,_,_,_,_,_,_,_,_,hm,_⟩:=id h;exact hm
 simp -implicitDefEqProofs only[F85,sS,Nat.reduceAdd];refine Ev.call (Zi h) ?_;rintro v H1 ⟨⟨b,rfl⟩,rfl⟩;cases b<;>simp -implicitDefEqProofs only[sS,Nat.reduceAdd]
 ·exact Ev.ret ⟨o,L,_,Fr.refl _ _ _,h,wm,.inl rfl⟩
 refine Ev.Yx (VA hx (by omega)) λb=>?_
 obtain⟨tb,cap,inv,dI,e3,e4,e6,e7,eT,_⟩:=h.n9;cases b<;>simp -implicitDefEqProofs only[e3,sS,Nat.reduceAdd]
 ·exact Ev.ret ⟨o,L,_,Fr.refl _ _ _,h,wm,.inl rfl⟩
 have z8:JM (λH' o'=>Fr H1 o H' o' [-70, -71]∧gT H' o' (-42) x l) mp (DF mx) H1:=⟨(bH.base (by simp)).and (bH.kJ (by simp)),o,hm,Fr.refl _ _ _,hx⟩
 refine Ev.call (QF z8) ?_;rintro v H3 ⟨rfl,ex3⟩;have gG:=z8.ext ex3;have hs0:cE aA=some (cv (0:Nat)):=rfl;simp -implicitDefEqProofs only[hs0,sS,Nat.reduceAdd];have back: ∀{Hx:aa} {m1:Y.Mm},JM (λH' o'=>Fr H1 o H' o' [-70, -71]∧gT H' o' (-42) x l) mp m1 Hx→∃ox,WR Hx ox xp mp m1 th L∧Fr H1 o Hx ox [-70, -71]∧gT Hx ox (-42) x l:=λhj=>by
  obtain⟨_,ox,hm,hf,hs⟩:=hj;exact⟨ox,h.mem hf hm,hf,hs⟩
 have ld3: ∀{Hx:aa} {m1:Y.Mm},JM (λH' o'=>Fr H1 o H' o' [-70, -71]∧gT H' o' (-42) x l) mp m1 Hx→aq (.pointer (some ⟨xp,3,none⟩)) Hx=some (pv mp):=λhj=>by
  obtain⟨ox,hw,_⟩:=back hj;obtain⟨_,_,_,_,e,_⟩:=hw.n9;exact e
 refine Ev.gtr (λhq=>?_) (λhq=>?_)<;>try simp -implicitDefEqProofs only[ld3 gG,sS,Nat.reduceAdd]
 ·simp at hq
 refine Ev.call (Uh gG (by decide) (λ_ _ a=>a.2) hl) ?_
 rintro v H4 (⟨rfl,jh⟩|⟨rfl,jh,ab2⟩)<;>try simp -implicitDefEqProofs only[ld3 jh,sS,Nat.reduceAdd]
 ·obtain⟨o4,h4,f4,_⟩:=back jh;exact Ev.ret ⟨o4,L,_,f4.wk (by simp),h4,wm,.inl rfl⟩
 refine Ev.call (zC jh 6 _) ?_;intro v H5 lG;obtain⟨o5,h5,f5,hx5⟩:=back lG;obtain⟨m5,em5⟩: ∃z,z=((Y.dN (l.length+1) l (DF mx)).2).set 6 (Y.dN (l.length+1) l (DF mx)).1:=⟨_,rfl⟩;rw[←em5] at h5;obtain⟨H6,DE⟩: ∃t,t=H5.new ⟨[],45,2,false⟩:=⟨_,rfl⟩;have b0:=Vz H5;rw[←DE] at b0;obtain⟨t,P5,C8⟩:=gI o5 H5.length;have f6:Fr H5 o5 H6 (o5.up H5.length t) []:=by rw[DE];exact(Fr.refl _ _ _).new _ _
 have s6:gZ H6 (o5.up H5.length t) t (.slice (some ⟨H5.length,0,none⟩) 0 0) []:=.inr ⟨H5.length,0,[],45,rfl,by rw[DE];exact aL,by simp,aP⟩
 obtain⟨x7,H7,o7,ap,s7,f7,_⟩:=gZ.app 45 s6 (hx5.fr f6 (by simp)).src (by simp;omega)
 have f57:Fr H5 o5 H7 o7 []:=iS ((f6.wk (by simp)).tr f7) λi hi=>by have:=C8 i hi;omega
 obtain⟨o8,eo8⟩: ∃z:aj,z=λi=>if o7 i=t then -41 else o7 i:=⟨_,rfl⟩
 have f58:Fr H5 o5 H7 o8 []:=⟨f57.slot,λi hi=>by rw[eo8];show(if o7 i=t then(-41:Int) else o7 i)=_;rw[if_neg (by rw[f57.own i hi];have:=C8 i hi;omega)];exact f57.own i hi,f57.size⟩
 have s8:gT H7 o8 (-41) x7 l:=by
  have:=s7.r
  simp only[List.nil_append] at this;exact this.relabel λi hi Ug=>by rw[eo8];exact if_pos Ug
 have h7:=h5.uL f58 (by simp)
 obtain⟨tb7,adD,adE,um,i3,i4,i6,i7,iT,_⟩:=h7.n9;have hlI:=hI.len;obtain⟨xa,xc,exx⟩:=s8.isSlice;obtain⟨Lx,q1,q2,q3,x',H8,H9,o9,q4,q5,h9,f9⟩:=h7.app ⟨4,0,0,⟨0,0,0⟩,⟨0,false,0,0,0,l⟩,um⟩ (s:=x7) s8 (by omega)
 obtain⟨c0,c1,c2,ab3,pd,tb5,ab4,Z2,ad8,ty5,aes,g5,_⟩:=id h5;have p5:aq (.pointer (some ⟨xp,5,none⟩)) H5=some Z2:=an xp 5 H5 g5;have p57:aq (.pointer (some ⟨xp,7,none⟩)) H5=some (cv pd):=an xp 7 H5 g5;have g6:H6.get xp=some ⟨[cv c0,cv c1,cv c2,pv mp,.slice (some ⟨tb5,0,none⟩) 3 ab4,Z2,cv ab3,cv pd],ty5,1,false⟩:=by rw[f6.same xp (ar g5) (by simp)];exact g5
 have p6:aq (.pointer (some ⟨xp,5,none⟩)) H6=some Z2:=an xp 5 H6 g6;have p67:aq (.pointer (some ⟨xp,7,none⟩)) H6=some (cv pd):=an xp 7 H6 g6;have g7:H7.get xp=some ⟨[cv c0,cv c1,cv c2,pv mp,.slice (some ⟨tb5,0,none⟩) 3 ab4,Z2,cv ab3,cv pd],ty5,1,false⟩:=by rw[f57.same xp (ar g5) (by simp)];exact g5
 have p7:aq (.pointer (some ⟨xp,5,none⟩)) H7=some Z2:=an xp 5 H7 g7;have p77:aq (.pointer (some ⟨xp,7,none⟩)) H7=some (cv pd):=an xp 7 H7 g7;have eL:Z2=Lx:=by rw[p7] at q1;simpa using q1
 subst eL;have eP:pd=um:=by rw[p77] at i7;simpa using i7
 subst eP;subst exx;simp -implicitDefEqProofs only[p5,p6,p7,p57,p67,p77,b0,ap,abl,adM ⟨0,false,0,0,0,l⟩,T3 _ rfl,q2,q4,q5,q3,lW,sS,Nat.reduceAdd];refine Ev.ret ⟨o9,L++[⟨4,0,0,⟨0,0,0⟩,⟨0,false,0,0,0,l⟩,pd⟩],m5,((f5.trans f58 (rs:=wt) (by simp) (by simp)).trans f9 (λ_ h=>h) (by simp)),h9,⟨?_,?_,hI.tape⟩,.inr ⟨l.length+1,l,Nat.le_refl _,by omega,by simpa using ab2,em5⟩⟩
 ·simp only[List.length_append,List.length_singleton];omega
 ·intro e he;rcases List.mem_append.1 he with he|he
  ·exact hI.lists e he
  ·have:e=⟨4,0,0,⟨0,0,0⟩,⟨0,false,0,0,0,l⟩,pd⟩:=by simpa using he
   subst this;show l.length≤_;omega
end
section
open Go.Proofs.YtgfgglponbmgmaaGreatA
variable {G:ae} {H H':aa} {o o':aj} {p c mp f xp n i mx c0:Nat} {K:aa→aj→Prop} {q:Int} {x:Value} {l:PL} {m m':Y.Mm} {T:List Int} {th:jz} {L:List kq} {N M:Nat}
theorem QM (h:JM K mp ⟨[],mx⟩ H)(NF:150≤mx):aF (run G) 105 [pv mp] H λv H'=>JM K mp (DF mx) H':=by
 refine Ev.up (t:=λn=>X8 (run G n) n (pv mp) H) ?_ λn=>SJ ..
 obtain⟨cr,jI,ref,s,ty,g,hl,hj⟩:=h.num;have L0:aq (pv mp) H=some (cv mx):=an mp 0 H g;have L1:aq (.pointer (some ⟨mp,1,none⟩)) H=some s:=an mp 1 H g;simp only[List.length_nil,Int.natCast_zero] at hl;simp -implicitDefEqProofs only[X8,L1,hl,sS,Nat.reduceAdd];refine Ev.gtr (λhq=>?_) (λhq=>?_)<;>try simp -implicitDefEqProofs only[L0,Nat.add_zero,sS,Nat.reduceAdd]
 ·omega
 refine Ev.lss (λhq=>?_) (λhq=>?_)<;>try simp -implicitDefEqProofs only[sS,Nat.reduceAdd]
 ·omega
 refine Ev.is (n5 1 7) ?_;rw[o57];simp -implicitDefEqProofs only[Ar,sS,Nat.reduceAdd];have hjn:JM K mp ⟨[],mx⟩ (H.new ⟨[cv 57],2,1,false⟩):=h.new _;refine Ev.call (sO 0 (q:=aA) (lq:=[]) (.inl ⟨rfl,rfl⟩) (lA [57] 2) rfl (by simp)) ?_
 intro w H2 w7;refine Ev.call (lD hjn w7) ?_;rintro v H3 ⟨_,gG⟩;refine Ev.call nK ?_;intro w H4 Te;refine Ev.call (lD gG Te) ?_;rintro v H5 ⟨_,lG⟩
 try simp -implicitDefEqProofs only[sS,Nat.reduceAdd]
 have e1:(Y.db ⟨[],mx⟩ (.mk (Y.cT 0 [] [57]))).2=⟨[1,0,0,0,0,57],mx⟩:=by
  have:Y.cT 0 [] [57]=[1,0,0,0,0,57]:=by decide
  rw[this];simp only[Y.db];rw[if_neg (by simp;omega)];rfl
 have e2:(Y.db ⟨[1,0,0,0,0,57],mx⟩ (.mk [0])).2=DF mx:=by
  simp only[Y.db];rw[if_neg (by simp;omega)];rfl
 rw[e1,e2] at lG;exact Ev.ret lG
abbrev Rj:List Value:=[cv 2,.bool false,cv 0,cv 0,cv 0,.pointer none,cv 0,.bool false,cv 0]
theorem QN (a:Int):aE Tryz.prog 130 [(0,cv a)]=some (.agg #[cv a,aA,cv 0,cv 0,cv 0]):=by kernel_rfl
theorem HH (a:Int)(H:aa):dL 130 (.agg #[cv a,aA,cv 0,cv 0,cv 0]) H=some (pv H.length,H.new ⟨[cv a,aA,cv 0,cv 0,cv 0],130,1,false⟩):=by
 simp[dL,Value.cells,aD,aV]
theorem Zk (hc:150≤c0∧c0<800):aF (run G) 104 [cv c0] H λv H'=>v= .tuple #[pv H.length,cv 0]∧H'=H.new ⟨[cv c0,aA,cv 0,cv 0,cv 0],130,1,false⟩:=by
 refine Ev.up (t:=λk=>X7 (run G k) k (cv c0) H) ?_ λk=>SI ..
 simp -implicitDefEqProofs only[X7,QN,HH,sS,Nat.reduceAdd];refine Ev.lss (λhq=>?_) (λhq=>?_)<;>try simp -implicitDefEqProofs only[QN,HH,sS,Nat.reduceAdd]
 ·omega
 refine Ev.gtr (λhq=>?_) (λhq=>?_)<;>try simp -implicitDefEqProofs only[QN,HH,sS,Nat.reduceAdd]
 ·omega
 exact Ev.ret ⟨rfl,rfl⟩
theorem Zl (a b c:Int)(H:aa):dL 60 (.agg #[cv a,cv b,cv c]) H=some (pv H.length,H.new ⟨[cv a,cv b,cv c],60,1,false⟩):=by
 simp[dL,Value.cells,aD,aV]
theorem ab5 (a b c:Int)(k:Nat):aE Tryz.prog 65 [(0,.agg #[cv a,cv b,cv c]),(1,pv k)]=some (.agg #[cv a,cv b,cv c,pv k,aA,aA,cv 0,cv 0]):=by kernel_rfl
theorem Zm (a b c:Int)(k:Nat)(H:aa):dL 65 (.agg #[cv a,cv b,cv c,pv k,aA,aA,cv 0,cv 0]) H=some (pv H.length,H.new ⟨[cv a,cv b,cv c,pv k,aA,aA,cv 0,cv 0],65,1,false⟩):=by
 simp[dL,Value.cells,aD,aV]
theorem adN:aE Tryz.prog 116 [(0,cv 2)]=some (.agg Rj.toArray):=by kernel_rfl
theorem ab6 (H:aa):dL 116 (.agg Rj.toArray) H=some (pv H.length,H.new ⟨Rj,116,1,false⟩):=by
 simp[dL,Value.cells,aD,aV]
theorem adO (k:Nat)(H:aa):ay Tryz.prog 62 1 [(0,pv k)] H=some (.slice (some ⟨H.length,0,none⟩) 1 1,H.new ⟨[pv k],117,1,false⟩):=by kernel_rfl
structure NI (H:aa) (o:aj) (b0 xp mp:Nat) (c0:Nat) (tl:List Nat) (Ts:Value):Prop where
 cfg:Cl b0 [cv c0,cv 3,cv 2] 60 H o
 idx:H.get xp=some ⟨[cv c0,cv 3,cv 2,pv mp,Ts,aA,cv 0,cv 0],65,1,false⟩∧o xp= -80
 mem:lP H o mp (DF c0)
 ts:(Ts=aA∧tl=[])∨∃tb ty,Ts= .slice (some ⟨tb,0,none⟩) tl.length tl.length∧H.get tb=some ⟨tl.map pv,ty,1,false⟩∧o tb= -81
 th: ∀(i t:Nat),tl[i]? =some t→H.get t=some ⟨Rj,116,1,false⟩∧o t= -200-i
theorem NI.grow {b0:Nat}{tl:List Nat}{Ts:Value}(h:NI H o b0 xp mp c0 tl Ts)(hj:tl.length<3): ∃QO H2 H3 o3,ot Ts Ts=true∧
  aq (.pointer (some ⟨xp,4,none⟩)) H=some Ts∧aq (.pointer (some ⟨xp,4,none⟩)) (H.new ⟨Rj,116,1,false⟩)=some Ts∧aq (.pointer (some ⟨xp,4,none⟩)) ((H.new ⟨Rj,116,1,false⟩).new ⟨[pv H.length],117,1,false⟩)=some Ts∧
  dk 117 1 8 Ts (.slice (some ⟨(H.new ⟨Rj,116,1,false⟩).length,0,none⟩) 1 1) ((H.new ⟨Rj,116,1,false⟩).new ⟨[pv H.length],117,1,false⟩)=some (QO,H2)∧
  bE 1 (.pointer (some ⟨xp,4,none⟩)) QO H2=some (undef,H3)∧NI H3 o3 b0 xp mp c0 (tl++[H.length]) QO∧Fr H o H3 o3 [-80, -81]:=by
 obtain⟨Zn,⟨gx,hox⟩,hm,hts,mT⟩:=h;obtain⟨H1,gg⟩: ∃z,z=H.new ⟨Rj,116,1,false⟩:=⟨_,rfl⟩;have l1:H1.length=H.length+1:=by rw[gg,cD]
 obtain⟨sQ,Np⟩: ∃z,z=H1.new ⟨[pv H.length],117,1,false⟩:=⟨_,rfl⟩;have l1b:sQ.length=H.length+2:=by rw[Np,cD,l1]
 rw[←gg, ←Np];obtain⟨oA,Ri⟩: ∃z,z=(o.up H.length (-200-(tl.length:Int))).up H1.length (-9):=⟨_,rfl⟩;have f1:Fr H o sQ oA []:=by
  rw[Np,Ri];have a:Fr H o H1 (o.up H.length (-200-(tl.length:Int))) []:=by rw[gg];exact(Fr.refl _ _ _).new _ _
  exact a.new _ _
 have Vr:H1.get xp=some ⟨[cv c0,cv 3,cv 2,pv mp,Ts,aA,cv 0,cv 0],65,1,false⟩:=by rw[gg,dq (ar gx)];exact gx
 have QP:sQ.get xp=some ⟨[cv c0,cv 3,cv 2,pv mp,Ts,aA,cv 0,cv 0],65,1,false⟩:=by rw[Np,dq (ar Vr)];exact Vr
 have ab7:oA xp= -80:=by rw[f1.own xp (ar gx)];exact hox
 have Zo:sQ.get H.length=some ⟨Rj,116,1,false⟩:=by rw[Np,dq (by omega),gg];exact aL
 have kW:oA H.length= -200-(tl.length:Int):=by rw[Ri,dP (by omega)];exact aP
 have adP:sQ.get H1.length=some ⟨[pv H.length],117,1,false⟩:=by rw[Np];exact aL
 have AN:ot Ts Ts=true:=by
  rcases hts with⟨rfl,_⟩|⟨tb,ty,rfl,_⟩<;>exact kU ..
 have M9:cJ sQ 1 1 (.slice (some ⟨H1.length,0,none⟩) 1 1)=some [pv H.length]:=by simp[cJ,aR,adP]
 obtain⟨QO,H2,Vs,Bg,ha,e',g',Z3⟩: ∃QO H2 Vs Bg,dk 117 1 8 Ts (.slice (some ⟨H1.length,0,none⟩) 1 1) sQ=some (QO,H2)∧QO= .slice (some ⟨Vs,0,none⟩) (tl++[H.length]).length (tl++[H.length]).length∧H2.get Vs=some ⟨(tl++[H.length]).map pv,Bg,1,false⟩∧Vs=sQ.length∧Fr sQ oA H2 (oA.up sQ.length (-81)) [-81]:=by
  rcases hts with⟨rfl,rfl⟩|⟨tb,ty,rfl,gt,adQ⟩
  ·refine⟨_,sQ.new ⟨[pv H.length],117,1,false⟩,sQ.length,117,?_,rfl,aL,rfl,(Fr.refl _ _ _).new _ _⟩;simp[dk,M9]
  ·have gtb:sQ.get tb=some ⟨tl.map pv,ty,1,false⟩:=by rw[f1.same tb (ar gt) (by simp)];exact gt
   have hoA:oA tb= -81:=by rw[f1.own tb (ar gt)];exact adQ
   have fk:Fr sQ oA ((sQ.kill tb).new ⟨tl.map pv++[pv H.length],117,1,false⟩) (oA.up sQ.length (-81)) [-81]:=by
    have:=((Fr.refl sQ oA [-81]).kill (i:=tb) (λ_=>by simp[hoA])).new ⟨tl.map pv++[pv H.length],117,1,false⟩ (-81)
    rw[gF] at this;exact this
   have ld:aR sQ tb 0 (tl.length*1)=some (tl.map pv):=by
    simp only[aR,gtb];rw[if_pos (by simp)]
    simp only[List.drop_zero,Nat.mul_one,Option.some.injEq];exact List.take_of_length_le (by simp)
   refine⟨.slice (some ⟨sQ.length,0,none⟩) (tl.length+1) (tl.length+1),(sQ.kill tb).new ⟨tl.map pv++[pv H.length],117,1,false⟩,sQ.length,117,?_,by simp,?_,rfl,fk⟩
   ·simp only[dk,M9,Option.map_some];rw[if_neg (by omega),if_pos (by simp;omega)]
    simp only[gtb];rw[if_pos (by simp)]
    simp only[ld]
   ·have:=aL (H:=sQ.kill tb) (c:=⟨tl.map pv++[pv H.length],117,1,false⟩)
    rw[gF] at this;rw[this];simp
 obtain⟨g',Z3⟩:=Z3;have hoB:(oA.up sQ.length (-81)) xp= -80:=by rw[Z3.own xp (ar QP)];exact ab7
 have gx2:H2.get xp=some ⟨[cv c0,cv 3,cv 2,pv mp,Ts,aA,cv 0,cv 0],65,1,false⟩:=by rw[Z3.same xp (ar QP) (by rw[ab7];simp)];exact QP
 have S:=G8 xp 4 (some ⟨Vs,0,none⟩) (tl++[H.length]).length (tl++[H.length]).length H2 gx2 rfl (by simp)
 rw[←e'] at S;simp only[List.set_cons_succ,List.set_cons_zero] at S;obtain⟨H3,mH⟩: ∃z,z=H2.put xp ⟨[cv c0,cv 3,cv 2,pv mp,QO,aA,cv 0,cv 0],65,1,false⟩:=⟨_,rfl⟩;rw[←mH] at S;have f3:Fr H2 (oA.up sQ.length (-81)) H3 (oA.up sQ.length (-81)) [-80]:=by rw[mH];exact(Fr.refl _ _ _).put λ_=>by simp[hoB]
 have fA:Fr H o H3 (oA.up sQ.length (-81)) [-80, -81]:=(f1.trans Z3 (rs:=[-80, -81]) (by simp) (by simp)).trans f3 (by simp) (by simp)
 have fB:Fr sQ oA H3 (oA.up sQ.length (-81)) [-80, -81]:=Z3.trans f3 (by simp) (by simp)
 have hxt:xp≠Vs:=by have:=ar QP;omega
 refine⟨QO,H2,H3,_,AN,an xp 4 H gx,an xp 4 H1 Vr,an xp 4 sQ QP,ha,S,⟨Zn.fr fA (by simp),⟨by rw[mH];exact aG gx2,hoB⟩,hm.fr fA (by simp) (by simp),.inr ⟨Vs,Bg,e',?_,by rw[g'];exact aP⟩,λj t ht=>?_⟩,fA⟩
 ·rw[mH,bt (Ne.symm hxt)];assumption
 ·rcases Nat.lt_or_ge j tl.length with g|g
  ·rw[List.getElem?_append_left g] at ht;obtain⟨a1,a2⟩:=mT j t ht;exact⟨by rw[fA.same t (ar a1) (by rw[a2];simp<;>omega)];exact a1,by rw[fA.own t (ar a1)];exact a2⟩
  ·rw[List.getElem?_append_right g] at ht;have YA:j=tl.length:=by
    rcases Nat.lt_or_ge tl.length j with g2|g2
    ·rw[List.getElem?_eq_none (by simp;omega)] at ht;cases ht
    ·omega
   subst YA;have:H.length=t:=by simpa using ht
   subst this;exact⟨by rw[fB.same H.length (ar Zo) (by rw[kW];simp<;>omega)];exact Zo,by rw[fB.own H.length (ar Zo)];exact kW⟩
theorem Zp (hc:150≤c0∧c0<800)(H:aa)(o:aj):aF (run G) 84 [.agg #[cv c0,cv 3,cv 2]] H λv H'=>∃xp mp o' th,v= .tuple #[pv xp,cv 0]∧Fr H o H' o' wt∧WR H' o' xp mp (DF c0) th []∧∀i,i<3→th i=⟨(th i).ti,false,false,[],.rd⟩:=by
 refine Ev.up (t:=λk=>F84 (run G k) k (.agg #[cv c0,cv 3,cv 2]) H) ?_ λk=>WT ..
 obtain⟨H1,gg⟩: ∃z,z=H.new ⟨[cv c0,cv 3,cv 2],60,1,false⟩:=⟨_,rfl⟩;have bx:=Zl c0 3 2 H;rw[←gg] at bx;have l1:H1.length=H.length+1:=by rw[gg,cD]
 have g1:H1.get H.length=some ⟨[cv c0,cv 3,cv 2],60,1,false⟩:=by rw[gg];exact aL
 have L0:aq (pv H.length) H1=some (cv c0):=an _ 0 H1 g1;have L1:aq (.pointer (some ⟨H.length,1,none⟩)) H1=some (cv 3):=an _ 1 H1 g1;have L2:aq (.pointer (some ⟨H.length,2,none⟩)) H1=some (cv 2):=an _ 2 H1 g1;simp -implicitDefEqProofs only[F84,bx,L0,L1,L2,Nat.add_zero,sS,Nat.reduceAdd];refine Ev.lss (λhq=>?_) (λhq=>?_)<;>try simp -implicitDefEqProofs only[L0,L1,L2,Nat.add_zero,sS,Nat.reduceAdd]
 ·omega
 refine Ev.gtr (λhq=>?_) (λhq=>?_)<;>try simp -implicitDefEqProofs only[L0,L1,L2,Nat.add_zero,sS,Nat.reduceAdd]
 ·omega
 refine Ev.lss (λhq=>?_) (λhq=>?_)<;>try simp -implicitDefEqProofs only[L0,L1,L2,Nat.add_zero,sS,Nat.reduceAdd]
 ·omega
 refine Ev.gtr (λhq=>?_) (λhq=>?_)<;>try simp -implicitDefEqProofs only[L0,L1,L2,Nat.add_zero,sS,Nat.reduceAdd]
 ·omega
 refine Ev.lss (λhq=>?_) (λhq=>?_)<;>try simp -implicitDefEqProofs only[L0,L1,L2,Nat.add_zero,sS,Nat.reduceAdd]
 ·omega
 refine Ev.gtr (λhq=>?_) (λhq=>?_)<;>try simp -implicitDefEqProofs only[L0,L1,L2,Nat.add_zero,sS,Nat.reduceAdd]
 ·omega
 refine Ev.call (Zk hc) ?_;rintro v H2 ⟨rfl,iJ⟩;have l2:H2.length=H.length+2:=by rw[iJ,cD,l1]
 obtain⟨oA,Ri⟩: ∃z,z=(o.up H.length (-9)).up H1.length (-70):=⟨_,rfl⟩;have f1:Fr H o H1 (o.up H.length (-9)) []:=by rw[gg];exact(Fr.refl _ _ _).new _ _
 have f2:Fr H o H2 oA []:=by rw[iJ,Ri];exact f1.new _ _
 have Zn:Cl H.length [cv c0,cv 3,cv 2] 60 H2 oA:=⟨by rw[iJ,dq (by omega)];exact g1,by rw[Ri,dP (by omega)];exact aP⟩
 have Ku:lP H2 oA H1.length ⟨[],c0⟩:=⟨0,0,0,aA,130,by rw[iJ];exact aL,by rw[Ri];exact aP,.inl ⟨rfl,rfl⟩,by simp,by show c0≤65536;omega⟩
 have z8:JM (λH' o'=>Fr H2 oA H' o' [-70, -71]) H1.length ⟨[],c0⟩ H2:=⟨bH.base (by simp),oA,Ku,Fr.refl _ _ _⟩
 simp -implicitDefEqProofs only[sS,Nat.reduceAdd];refine Ev.call (QM z8 (by omega)) ?_
 rintro v H3 ⟨_,o3,UE,f3⟩;have VB:=Zn.fr f3 (by simp)
 have LC:dh 3 (pv H.length) H3=some (.agg #[cv c0,cv 3,cv 2]):=by simp[dh,aR,VB.1]
 obtain⟨H4,pW⟩: ∃z,z=H3.new ⟨[cv c0,cv 3,cv 2,pv H1.length,aA,aA,cv 0,cv 0],65,1,false⟩:=⟨_,rfl⟩;have bI:=Zm c0 3 2 H1.length H3;rw[←pW] at bI;have f4:Fr H3 o3 H4 (o3.up H3.length (-80)) []:=by rw[pW];exact(Fr.refl _ _ _).new _ _
 have fA4:Fr H o H4 (o3.up H3.length (-80)) wt:=(f2.trans f3 (rs:=wt) (by simp) (by simp)).trans f4 (λ_ h=>h) (by simp)
 have n4:NI H4 (o3.up H3.length (-80)) H.length H3.length H1.length c0 [] aA:=⟨VB.fr f4 (by simp),⟨by rw[pW];exact aL,aP⟩,UE.fr f4 (by simp) (by simp),.inl ⟨rfl,rfl⟩,λi t ht=>by simp at ht⟩
 simp -implicitDefEqProofs only[LC,ab5,bI,sS,Nat.reduceAdd];refine Ev.loop (k:=3) (λkk vs Hx=>∃(tl:List Nat) (Ts:Value) (ox:aj) (x0 x2 x3 bJ x4 eo:Value),vs=[x0,x2,x3,pv H.length,bJ,x4,cv (tl.length:Nat),eo,pv H3.length]∧tl.length+kk=3∧NI Hx ox H.length H3.length H1.length c0 tl Ts∧Fr H o Hx ox wt)
  (λr=>r.1= .exit 0∧∃(tl:List Nat) (Ts:Value) (ox:aj) (x0 x2 x3 bJ x4 x7 eo:Value),r.2.1=[x0,x2,x3,pv H.length,bJ,x4,x7,eo,pv H3.length]∧tl.length=3∧NI r.2.2 ox H.length H3.length H1.length c0 tl Ts∧Fr H o r.2.2 ox wt) ⟨[],aA,_,_,_,_,_,_,_,rfl,rfl,n4,fA4⟩ ?_ ?_
 ·rintro kk vs Hx ⟨tl,Ts,ox,x0,x2,x3,bJ,x4,eo,rfl,YL,hn,hf⟩;have K1:aq (.pointer (some ⟨H.length,1,none⟩)) Hx=some (cv 3):=an _ 1 Hx hn.cfg.1;have K2:aq (.pointer (some ⟨H.length,2,none⟩)) Hx=some (cv 2):=an _ 2 Hx hn.cfg.1;have hw:IntKind.i64.wrap ((tl.length:Int)+1)=((tl.length+1:Nat):Int):=by rw[ga (by omega)];omega
  simp -implicitDefEqProofs only[OI,Cx,K1,sS,Nat.reduceAdd];refine Ev.lss (λhq=>?_) (λhq=>?_)<;>try simp -implicitDefEqProofs only[sS,Nat.reduceAdd]
  ·obtain⟨QO,H5,H6,o6,e0,e1,e2,e3,e4,e5,hn6,f6⟩:=hn.grow (by omega)
   simp -implicitDefEqProofs only[e1,K2,adN,ab6,adO,e2,e3,e4,e5,e0,hw,sS,Nat.reduceAdd];exact Ev.ret (.inl ⟨rfl,kk-1,by omega,tl++[Hx.length],QO,o6,x0,x2,x3,bJ,x4,.bool true,by simp,by simp;omega,hn6,hf.trans f6 (λ_ h=>h) (by simp)⟩)
  ·exact Ev.ret (.inr ⟨by simp,rfl,tl,Ts,ox,_,_,_,_,_,_,_,rfl,by omega,hn,hf⟩)
 ·rintro e vs Hx ⟨he,tl,Ts,ox,x0,x2,x3,bJ,x4,x7,eo,rfl,YL,hn,hf⟩;simp only at he;subst he;simp -implicitDefEqProofs only[OK,CA,sS,Nat.reduceAdd];obtain⟨t0,t1,t2,rfl⟩: ∃t0 t1 t2,tl=[t0,t1,t2]:=by
   match tl,YL with
   | [t0,t1,t2],_=>exact⟨t0,t1,t2,rfl⟩
  obtain⟨_,⟨gx,hox⟩,hm,hts,mT⟩:=hn;rcases hts with⟨_,e⟩|⟨tb,ty,rfl,gt,kW⟩
  ·cases e
  refine Ev.ret ⟨H3.length,H1.length,ox,λi=>⟨if i=0 then t0 else if i=1 then t1 else t2,false,false,[],.rd⟩,rfl,hf,⟨c0,3,2,0,0,tb,3,aA,[],_,ty,gx,hox,gt,kW,hm,λi hi=>?_,.inl ⟨rfl,rfl⟩⟩,λi hi=>rfl⟩
  have:i=0∨i=1∨i=2:=by omega
  have key:([t0,t1,t2]:List Nat)[i]? =some (if i=0 then t0 else if i=1 then t1 else t2):=by
   rcases this with rfl|rfl|rfl<;>rfl
  obtain⟨a1,a2⟩:=mT i _ key;exact⟨2,0,0,0,0,0,.pointer none,_,a1,a2,λhb=>by cases hb⟩
theorem ab8 (a b c:Int):aE Tryz.prog 60 [(0,cv a),(1,cv b),(2,cv c)]=some (.agg #[cv a,cv b,cv c]):=by kernel_rfl
theorem Ui (c:Int){ky x:Value}{ks zs:List Int}(hky:sP H ky ks)(hkr:dH H o (-1) ky ks)(hx:dH H o (-1) x zs)(hz:zs.length≤maxLen):aF (run G) 55 [cv c,cv 3,ky,x] H λv H'=>∃xp mp o' m th L,v=pv xp∧Fr H o H' o' wt∧WR H' o' xp mp m th L∧Inv th L 211 1680∧TI th m:=by
 refine Ev.up (t:=λn=>F55 (run G n) n (cv c) (cv 3) ky x H) ?_ λn=>X3 ..
 simp -implicitDefEqProofs only[F55,sS,Nat.reduceAdd];refine Ev.call (kG c 650 (by omega)) ?_
 rintro v H1 ⟨z,rfl,Uz,ZI,rfl⟩;obtain⟨c0,hc0⟩: ∃c0:Nat,(c0:Int)=150+z:=⟨(150+z).toNat,by omega⟩
 have Tf:IntKind.i64.wrap (150+z)=c0:=by rw[ga (by omega),hc0]
 simp -implicitDefEqProofs only[Tf,ab8,sS,Nat.reduceAdd];refine Ev.call (Zp (c0:=c0) (by omega) H1 o) ?_
 rintro v H2 ⟨xp,mp,o2,th,rfl,f2,h2,mT⟩
 try simp -implicitDefEqProofs only[sS,Nat.reduceAdd]
 have adR:sP H2 ky ks:=⟨(hkr.fr f2 (by simp)).1,hky.2⟩
 refine Ev.call (ab0 adR (k:=20)) ?_;rintro y H3 ⟨rfl,ys,hy⟩;refine Ev.call (QL hy) ?_;rintro y H4 ⟨l,⟨ex,hs⟩,hl⟩;have f3:Fr H3 o2 H4 (o2.from H3.length (-42)) []:=ex.fr o2 (-42)
 have Uy:gT H4 (o2.from H3.length (-42)) (-42) y l:=hs.r.relabel λi hi Ug=>by
  rcases Nat.lt_or_ge i H3.length with g|g
  ·rw[Di g] at Ug;exact absurd Ug (by show(-1:Int)≠ -42;decide)
  ·exact Dh g
 have h3:=h2.uL f3 (by simp)
 have hI0:Inv th [] 0 0:=⟨by rw[mT 0 (by omega),mT 1 (by omega),mT 2 (by omega)];simp[uS],λe he=>by simp at he,λi hi=>by rw[mT i hi];simp⟩
 refine Ev.call (Zj h3 Uy (by omega) hI0 (by omega)) ?_
 rintro v H4 ⟨o4,L4,m4,f4,h4,hI4,ab9⟩;obtain⟨G4,i4,r4⟩:=ab9.typed (by omega)
 have hT4:TI th m4:=⟨G4,i4,r4,λi hi hb=>by rw[mT i hi] at hb;cases hb⟩
 have f23:Fr H1 o _ _ wt:=f2.trans f3 (λ_ h=>h) (by simp)
 have f24:Fr H1 o H4 o4 wt:=f23.trans f4 (λ_ h=>h) (λ_ h=>h)
 try simp -implicitDefEqProofs only[sS,Nat.reduceAdd]
 refine Ev.loop (k:=70) (λkk vs Hx=>∃(j:Nat) (ox:aj) (mz:Y.Mm) (oo:jz) (Lx:List kq) (x8 bJ aN aI eU:Value),vs=[cv c,cv 3,ky,x,x8,pv xp,cv j,bJ,aN,aI,eU]∧j+kk=70∧Fr H1 o Hx ox wt∧WR Hx ox xp mp mz oo Lx∧Inv oo Lx (1+3*j) (24*j)∧TI oo mz)
  (λr=>r.1= .exit 0∧∃(ox:aj) (mz:Y.Mm) (oo:jz) (Lx:List kq) (x8 aO bJ aN aI eU:Value),r.2.1=[cv c,cv 3,ky,x,x8,pv xp,aO,bJ,aN,aI,eU]∧Fr H1 o r.2.2 ox wt∧WR r.2.2 ox xp mp mz oo Lx∧Inv oo Lx 211 1680∧TI oo mz) ⟨0,o4,m4,th,L4,_,_,_,_,_,rfl,rfl,f24,h4,hI4,hT4⟩ ?_ ?_
 ·rintro kk vs Hx ⟨j,ox,mz,oo,Lx,x8,bJ,aN,aI,eU,rfl,AE,hf,hw,hI,hT⟩;have hxx:dH Hx ox (-1) x zs:=hx.fr hf (by simp)
  have hwj:IntKind.i64.wrap ((j:Int)+1)=((j+1:Nat):Int):=by rw[ga (by omega)];omega
  have hIe:Inv oo Lx 211 1680:=⟨by have:=hI.len;omega,hI.lists,λi hi=>by have:=hI.tape i hi;omega⟩
  have iX: ∀(x8 bJ aN aI eU:Value) {Hy:aa} {oy:aj} {mw:Y.Mm} {thy:jz} {Ly:List kq},j<70→Fr Hx ox Hy oy wt→WR Hy oy xp mp mw thy Ly→Inv thy Ly (1+3*j+3) (24*j+24)→TI thy mw→Ev (λn=>yz (run G n) n [cv c,cv 3,ky,x,x8,pv xp,cv j,bJ,aN,aI,eU] Hy) λr=>(r.1= .normal∧∃k',k'<kk∧∃(j:Nat) (ox:aj) (mz:Y.Mm) (oo:jz) (Lx:List kq) (x8 bJ aN aI eU:Value),r.2.1=[cv c,cv 3,ky,x,x8,pv xp,cv j,bJ,aN,aI,eU]∧j+k'=70∧Fr H1 o r.2.2 ox wt∧WR r.2.2 ox xp mp mz oo Lx∧Inv oo Lx (1+3*j) (24*j)∧TI oo mz)∨(r.1≠ .normal∧r.1= .exit 0∧∃(ox:aj) (mz:Y.Mm) (oo:jz) (Lx:List kq) (x8 aO bJ aN aI eU:Value),r.2.1=[cv c,cv 3,ky,x,x8,pv xp,aO,bJ,aN,aI,eU]∧Fr H1 o r.2.2 ox wt∧WR r.2.2 ox xp mp mz oo Lx∧Inv oo Lx 211 1680∧TI oo mz):=by
   intro x8 bJ aN aI eU Hy oy mw thy Ly Dg a1 a2 a3 a4;simp -implicitDefEqProofs only[Pf,CT,hwj,sS,Nat.reduceAdd];exact Ev.ret (.inl ⟨rfl,kk-1,by omega,j+1,oy,mw,thy,Ly,_,_,_,_,_,rfl,by omega,hf.trans a1 (λ_ h=>h) (λ_ h=>h),a2,⟨by have:=a3.len;omega,a3.lists,λi hi=>by have:=a3.tape i hi;omega⟩,a4⟩)
  simp -implicitDefEqProofs only[Ph,CU,hxx.1.len,sS,Nat.reduceAdd];refine Ev.lss (λhq=>?_) (λhq=>?_)<;>try simp -implicitDefEqProofs only[sS,Nat.reduceAdd]
  rotate_left
  ·exact Ev.ret (.inr ⟨by simp,rfl,ox,mz,oo,Lx,_,_,_,_,_,_,rfl,hf,hw,hIe,hT⟩)
  refine Ev.lss (λkn=>?_) (λkn=>?_)<;>try simp -implicitDefEqProofs only[sS,Nat.reduceAdd]
  rotate_left
  ·exact Ev.ret (.inr ⟨by simp,rfl,ox,mz,oo,Lx,_,_,_,_,_,_,rfl,hf,hw,hIe,hT⟩)
  have Dg:j<70:=by omega
  obtain⟨qi,off,b,e1,e2,e3⟩:=hxx.1.idx (j:=j) (by omega)
  have e4:aq (.pointer (some ⟨qi,off,none⟩)) Hx=some (cv (zs.getD j 0)):=(an qi off Hx e2).trans e3;simp -implicitDefEqProofs only[e1,e4,sS,Nat.reduceAdd];refine Ev.call (kG _ 3 (by omega)) ?_
  rintro v H5 ⟨t,rfl,VU,P5,rfl⟩;obtain⟨ti,rfl⟩: ∃k:Nat,t=k:=⟨t.toNat,by omega⟩
  have Y8:ti<3:=by omega
  simp -implicitDefEqProofs only[Ua,sS,Nat.reduceAdd];refine Ev.call (kG _ 3 (by omega)) ?_
  rintro v H5 ⟨y,rfl,_,_,rfl⟩;obtain⟨tb,cap,inv,dI,i3,i4,i6,i7,iT,_⟩:=hw.n9;obtain⟨iT1,iT2⟩:=iT ti Y8;obtain⟨no,d1,d7,d8⟩:=hw.Vq Y8;have J6: ∀(x8 bJ aN eU:Value) (a:Int),Ev (λn=>af (run G n 73 [cv a] H5) λgR Hy=>af (run G n 72 [pv xp,cv ti,gR] Hy) λ_ Hy=>yz (run G n) n [cv c,cv 3,ky,x,x8,pv xp,cv j,bJ,aN,cv ti,eU] Hy) λr=>(r.1= .normal∧∃k',k'<kk∧∃(j:Nat) (ox:aj) (mz:Y.Mm) (oo:jz) (Lx:List kq) (x8 bJ aN aI eU:Value),r.2.1=[cv c,cv 3,ky,x,x8,pv xp,cv j,bJ,aN,aI,eU]∧j+k'=70∧Fr H1 o r.2.2 ox wt∧WR r.2.2 ox xp mp mz oo Lx∧Inv oo Lx (1+3*j) (24*j)∧TI oo mz)∨(r.1≠ .normal∧r.1= .exit 0∧∃(ox:aj) (mz:Y.Mm) (oo:jz) (Lx:List kq) (x8 aO bJ aN aI eU:Value),r.2.1=[cv c,cv 3,ky,x,x8,pv xp,aO,bJ,aN,aI,eU]∧Fr H1 o r.2.2 ox wt∧WR r.2.2 ox xp mp mz oo Lx∧Inv oo Lx 211 1680∧TI oo mz):=by
   intro x8 bJ aN eU a;refine Ev.call (Vx a) ?_;rintro v H6 ⟨op,rfl,ex⟩;have f6:Fr H5 ox H6 (ox.from H5.length (-9)) []:=ex.fr ox (-9)
   have h6:=hw.uL f6 (by simp)
   refine Ev.call (Fy h6 Y8 hI (by omega) op) ?_
   rintro v H7 ⟨o7,th7,L7,f7,h7,Nn,hR7⟩;exact iX _ _ _ _ _ Dg (f6.trans f7 (by simp) (λ_ h=>h)) h7 ⟨Nn.len,Nn.lists,λi hi=>by have:=Nn.tape i hi;omega⟩ (TI.keep.inv hT Y8 hR7)
  refine Ev.gtr (λVn=>?_) (λVn=>?_)<;>try simp -implicitDefEqProofs only[i4,iT1,iT2,d1,sS,Nat.reduceAdd]
  ·cases hb:(oo ti).busy<;>simp -implicitDefEqProofs only[Ua,sS,Nat.reduceAdd]
   ·exact J6 _ _ _ _ _
   ·refine Ev.call (kG _ 24 (by omega)) ?_
    rintro v H6 ⟨u,rfl,VT,NP,rfl⟩;have hwu:IntKind.i64.wrap (1+u)=1+u:=ga (by omega)
    simp -implicitDefEqProofs only[hwu,abS,sS,Nat.reduceAdd];refine Ev.call (abT TI.keep hT hw Y8 hI (by omega) (by omega) (k:=1+u) (by omega)) ?_
    rintro v H7 ⟨o7,th7,L7,m7,f7,h7,Nn,hT7⟩;exact iX _ _ _ _ _ Dg f7 h7 ⟨by have:=Nn.len;omega,Nn.lists,Nn.tape⟩ hT7
  ·try simp -implicitDefEqProofs only[Ua,sS,Nat.reduceAdd]
   exact J6 _ _ _ _ _
 ·rintro e vs Hx ⟨he,ox,mz,oo,Lx,x8,aO,bJ,aN,aI,eU,rfl,hf,hw,hI,hT⟩;simp only at he;subst he;simp -implicitDefEqProofs only[Pk,CV,sS,Nat.reduceAdd];exact Ev.ret ⟨xp,mp,ox,mz,oo,Lx,rfl,hf,hw,hI,hT⟩
end
end Go.Proofs.YtgfgglponbmgmaaGreat.Fun
end
