/- Texts of the proof of helpLogic_holds, put together by a small program of ours (names shortened, spaces taken out). No condition beyond the given statement. -/
import Derived.Test.YtgfgglponbmgmaaGreatHLG12
import Derived.Test.YtgfgglponbmgmaaGreatHLG11
import Derived.Test.YtgfgglponbmgmaaGreatHLG10
import Derived.Test.YtgfgglponbmgmaaGreatHLG14
import Derived.Test.YtgfgglponbmgmaaGreatHLG36
import Derived.Test.YtgfgglponbmgmaaGreatHLG15
import Derived.Test.YtgfgglponbmgmaaGreatHLG17
set_option linter.unusedVariables false
set_option linter.unusedSimpArgs false
set_option linter.unnecessarySimpa false
noncomputable section
section
namespace Go.Proofs.YtgfgglponbmgmaaGreat.Fun
open Go Go.RowKit Go.Proofs.YtgfgglponbmgmaaGreatA.Am
set_option maxRecDepth 10000
section
open Go.Proofs.YtgfgglponbmgmaaGreatA
variable {G:ae} {H H':aa} {o o':aj} {p c mp f xp n i mx:Nat} {K:aa→aj→Prop} {q:Int} {x:Value} {l:PL} {m m':Y.Mm} {T:List Int} {th:kl} {L:List ku} {N M:Nat}
theorem aaX (hx:gN H o q x l)(hl:l.length≤100000):aE (run G) 132 [x] H (Oa H):=by
 refine Ev.up (t:=λn=>Wr (run G n) n x H) ?_ λn=>Ri ..
 simp -implicitDefEqProofs only[Wr,sS,Nat.reduceAdd];refine Ev.loop (k:=l.length) (λkk vs Hx=>∃(j:Nat) (x7 bl:Value),vs=[x,.bool false,cv (j+1:Nat),x7,bl]∧Hx=H∧j+kk=l.length)
  (λr=>r.2.2=H∧∃(x2 x3 x7 bl:Value),r.2.1=[x,x2,x3,x7,bl]∧(r.1= .exit 0∨(r.1= .ret∧∃b,x2= .bool b))) ⟨0,_,_,rfl,rfl,by omega⟩ ?_ ?_
 ·rintro kk vs Hx ⟨j,x7,bl,rfl,rfl,hj⟩;have hw:IntKind.i64.wrap (((j+1:Nat):Int)+1)=((j+1+1:Nat):Int):=by rw[fL (by omega)];omega
  have uA:IntKind.i64.wrap (((j+1:Nat):Int)-1)=(j:Int):=by rw[fL (by omega)];omega
  simp -implicitDefEqProofs only[Ku,yc,hx.len,sS,Nat.reduceAdd];refine Ev.lss (λhq=>?_) (λhq=>?_)<;>try simp -implicitDefEqProofs only[sS,Nat.reduceAdd]
  ·obtain⟨i',off,b',e1,e2,e3,e4⟩:=hx.idx (j:=j+1) (by omega)
   obtain⟨e5,_,_⟩:=e4 _ e2;obtain⟨i2,nN,b2,f1,f2,f3,f4⟩:=hx.idx (j:=j) (by omega)
   obtain⟨f5,_,_⟩:=f4 _ f2;simp -implicitDefEqProofs only[e1,gQ,Nat.add_zero,e5,uA,f1,f5,sS,Nat.reduceAdd];refine Ev.leq (λhq=>?_) (λhq=>?_)<;>try simp -implicitDefEqProofs only[hw,sS,Nat.reduceAdd]
   ·exact Ev.ret (.inr ⟨by simp,rfl,_,_,_,_,rfl,.inr ⟨rfl,_,rfl⟩⟩)
   ·exact Ev.ret (.inl ⟨rfl,kk-1,by omega,j+1,_,_,rfl,rfl,by omega⟩)
  ·exact Ev.ret (.inr ⟨by simp,rfl,_,_,_,_,rfl,.inl rfl⟩)
 ·rintro e vs Hx ⟨Dk,x2,x3,x7,bl,rfl,he⟩;simp only at Dk;subst Dk;rcases he with he|⟨he,b,rfl⟩
  ·simp only at he;subst he;simp -implicitDefEqProofs only[Kv,yd,sS,Nat.reduceAdd];exact Ev.ret ⟨⟨_,rfl⟩,rfl⟩
  ·simp only at he;subst he;show Ev (λ_=>some (Value.bool b,Hx)) _
   exact Ev.ret ⟨⟨_,rfl⟩,rfl⟩
theorem T7 (hx:gN H o q x l)(hl:l.length≤16384):aE (run G) 107 [x] H (Oa H):=by
 refine Ev.up (t:=λk=>WC (run G k) k x H) ?_ λk=>Rn ..
 simp -implicitDefEqProofs only[WC,sS,Nat.reduceAdd];refine Ev.W4 (aaX hx (by omega)) λb=>?_
 cases b<;>simp -implicitDefEqProofs only[hx.len,sS,Nat.reduceAdd]
 ·exact Ev.ret ⟨⟨_,rfl⟩,rfl⟩
 refine Ev.leq (λhq=>?_) (λhq=>?_)<;>try simp -implicitDefEqProofs only[sS,Nat.reduceAdd]
 ·exact Ev.ret ⟨⟨_,rfl⟩,rfl⟩
 ·exact Ev.ret ⟨⟨_,rfl⟩,rfl⟩
theorem SD (h:JM K mp m H)(hqq:q≠ -70∧q≠ -71)(hK: ∀H o,K H o→gN H o q x l)(hl:l.length≤1000):aE (run G) 109 [pv mp,x] H λv H'=>
  (v= .tuple #[cv 0,.bool false]∧JM K mp m H')∨(v= .tuple #[cv (Y.dJ (l.length+1) l m).1,.bool true]∧JM K mp (Y.dJ (l.length+1) l m).2 H'∧m.cs.length+dK (l.length+1) l.length≤m.max):=by
 refine Ev.up (t:=λk=>Wa (run G k) k (pv mp) x H) ?_ λk=>Q2 ..
 obtain⟨cm,jy,ref,s,ty,g,hls,hj⟩:=h.num;obtain⟨_,o,hm,hk⟩:=id h;have hx:=hK _ _ hk;have Sg:=hm.zU;have L0:aq (pv mp) H=some (cv m.max):=ao mp 0 H g;have L1:aq (.pointer (some ⟨mp,1,none⟩)) H=some s:=ao mp 1 H g;have Ai:pG s s=true:=by
  cases s<;>simp[cG] at hls;exact kJ ..
 have w1:IntKind.i64.wrap ((m.max:Int)-m.cs.length)=(m.max:Int)-m.cs.length:=fL (by omega)
 simp -implicitDefEqProofs only[Wa,sS,Nat.reduceAdd];refine Ev.W4 (T7 hx (by omega)) λb=>?_
 cases b<;>simp -implicitDefEqProofs only[hx.len,sS,Nat.reduceAdd]
 ·exact Ev.ret (.inl ⟨rfl,h⟩)
 refine Ev.is (Sy (l.length+1) (by omega) (by omega)) ?_
 simp -implicitDefEqProofs only[L0,L1,hls,w1,Ai,Nat.add_zero,mS,sS,Nat.reduceAdd];refine Ev.gtr (λhq=>?_) (λhq=>?_)<;>try simp -implicitDefEqProofs only[L0,L1,Ai,mS,sS,Nat.reduceAdd]
 ·exact Ev.ret (.inl ⟨rfl,h⟩)
 refine Ev.call (SA l.length rfl (by omega) h hqq hK (f:=l.length+1) (Nat.le_refl _)) ?_
 rintro v H4 ⟨rfl,iW⟩
 try simp -implicitDefEqProofs only[sS,Nat.reduceAdd]
 exact Ev.ret (.inr ⟨rfl,iW,by omega⟩)
theorem WR.mem (h:WR H o xp mp m th L)(f:Fr H o H' o' [-70, -71])(hm:mh H' o' mp m'):WR H' o' xp mp m' th L:=by
 obtain⟨_,_,_,_,_,_,_,_,_,_,_,_,_,_,_,_,n6,_⟩:=id h;have hw:=h.El (i:=0) (s':=th 0) (by omega) (f.wk (by simp)) ((n6 0 (by omega)).fr f (by simp) (by simp) (by simp) (by simp)) rfl hm
 have e:Fun.oU th 0 (th 0)=th:=by
  funext j
  unfold Fun.oU;split
  ·rename_i e;rw[e]
  ·rfl
 rw[e] at hw;exact hw
theorem XW (h:WR H o xp mp m th L):aE (run G) 106 [pv xp] H λv H'=>(∃b,v= .bool b)∧H'=H:=by
 refine Ev.up (t:=λk=>Ve (run G k) k (pv xp) H) ?_ λk=>Qv ..
 obtain⟨tb,cap,inv,dW,e3,e4,e6,e7,eT,_⟩:=h.oa;simp -implicitDefEqProofs only[Ve,sS,Nat.reduceAdd];refine Ev.loop (k:=3) (λkk vs Hx=>∃(j:Nat) (aC bA:Value),vs=[pv xp,.bool false,cv j,aC,bA]∧Hx=H∧j+kk=3)
  (λr=>r.2.2=H∧∃(x2 x3 aC bA:Value),r.2.1=[pv xp,x2,x3,aC,bA]∧(r.1= .exit 0∨(r.1= .ret∧∃b,x2= .bool b))) ⟨0,_,_,rfl,rfl,rfl⟩ ?_ ?_
 ·rintro kk vs Hx ⟨j,aC,bA,rfl,rfl,hj⟩;have hw:IntKind.i64.wrap ((j:Int)+1)=((j+1:Nat):Int):=by rw[fL (by omega)];omega
  simp -implicitDefEqProofs only[Jx,wZ,e4,cG,sS,Nat.reduceAdd];refine Ev.lss (λhq=>?_) (λhq=>?_)<;>try simp -implicitDefEqProofs only[sS,Nat.reduceAdd]
  ·have gA:j<3:=by omega
   obtain⟨XK,XL⟩:=eT j gA;obtain⟨no,b1,b7,b8⟩:=h.XJ gA;simp -implicitDefEqProofs only[e4,XK,XL,b1,sS,Nat.reduceAdd];cases(th j).busy<;>simp -implicitDefEqProofs only[hw,sS,Nat.reduceAdd]
   ·exact Ev.ret (.inl ⟨rfl,kk-1,by omega,j+1,_,_,rfl,rfl,by omega⟩)
   ·exact Ev.ret (.inr ⟨by simp,rfl,_,_,_,_,rfl,.inr ⟨rfl,_,rfl⟩⟩)
  ·exact Ev.ret (.inr ⟨by simp,rfl,_,_,_,_,rfl,.inl rfl⟩)
 ·rintro e vs Hx ⟨hx,x2,x3,aC,bA,rfl,he⟩;simp only at hx;subst hx;rcases he with he|⟨he,b,rfl⟩
  ·simp only at he;subst he;simp -implicitDefEqProofs only[Jy,w5,sS,Nat.reduceAdd];exact Ev.ret ⟨⟨_,rfl⟩,rfl⟩
  ·simp only at he;subst he;show Ev (λ_=>some (Value.bool b,Hx)) _
   exact Ev.ret ⟨⟨_,rfl⟩,rfl⟩
theorem acZ (r:eI)(pick:Int)(a:Option Addr)(m c:Nat):aF Tryz.prog 155 [(0,cv 4),(4,.agg #[cv 0,.bool false,cv 0,cv 0,cv 0,.slice a m c]),(5,cv pick)]=some (evA ⟨4,0,0,⟨0,0,0⟩,⟨0,false,0,0,0,r.list⟩,pick⟩ (.slice a m c)):=by kernel_rfl
theorem XX (h:WR H o xp mp (C3 mx) th L)(hx:gN H o (-42) x l)(hl:l.length≤1000)(hI:Inv th L N M)(hN:N<4000000):aE (run G) 85 [pv xp,x] H λv H'=>∃o' L' m',Fr H o H' o' wt∧WR H' o' xp mp m' th L'∧Inv th L' (N+1) M∧Ph mx m':=by
 refine Ev.up (t:=λk=>F85 (run G k) k (pv xp) x H) ?_ λk=>V7 ..
 have A7:Inv th L (N+1) M:=⟨by have:=hI.len;omega,hI.lists,hI.tape⟩
 have hm:mh H o mp (C3 mx):=by
  obtain⟨_,_,_,_,_,_,_,_,_,_,_,_,_,_,_,hm,_⟩:=id h;exact hm
 simp -implicitDefEqProofs only[F85,sS,Nat.reduceAdd];refine Ev.call (XW h) ?_;rintro v H1 ⟨⟨b,rfl⟩,rfl⟩;cases b<;>simp -implicitDefEqProofs only[sS,Nat.reduceAdd]
 ·exact Ev.ret ⟨o,L,_,Fr.refl _ _ _,h,A7,.inl rfl⟩
 refine Ev.W4 (T7 hx (by omega)) λb=>?_
 obtain⟨tb,cap,inv,dW,e3,e4,e6,e7,eT,_⟩:=h.oa;cases b<;>simp -implicitDefEqProofs only[e3,sS,Nat.reduceAdd]
 ·exact Ev.ret ⟨o,L,_,Fr.refl _ _ _,h,A7,.inl rfl⟩
 have zp:JM (λH' o'=>Fr H1 o H' o' [-70, -71]∧gN H' o' (-42) x l) mp (C3 mx) H1:=⟨(bJ.base (by simp)).and (bJ.kq (by simp)),o,hm,Fr.refl _ _ _,hx⟩
 refine Ev.call (Pd zp) ?_;rintro v H3 ⟨rfl,ex3⟩;have gA:=zp.ext ex3;have hs0:cG aA=some (cv (0:Nat)):=rfl;simp -implicitDefEqProofs only[hs0,sS,Nat.reduceAdd];have back: ∀{Hx:aa} {m1:Y.Mm},JM (λH' o'=>Fr H1 o H' o' [-70, -71]∧gN H' o' (-42) x l) mp m1 Hx→∃ox,WR Hx ox xp mp m1 th L∧Fr H1 o Hx ox [-70, -71]∧gN Hx ox (-42) x l:=λhj=>by
  obtain⟨_,ox,hm,hf,hs⟩:=hj;exact⟨ox,h.mem hf hm,hf,hs⟩
 have ld3: ∀{Hx:aa} {m1:Y.Mm},JM (λH' o'=>Fr H1 o H' o' [-70, -71]∧gN H' o' (-42) x l) mp m1 Hx→aq (.pointer (some ⟨xp,3,none⟩)) Hx=some (pv mp):=λhj=>by
  obtain⟨ox,hw,_⟩:=back hj;obtain⟨_,_,_,_,e,_⟩:=hw.oa;exact e
 refine Ev.gtr (λhq=>?_) (λhq=>?_)<;>try simp -implicitDefEqProofs only[ld3 gA,sS,Nat.reduceAdd]
 ·simp at hq
 refine Ev.call (SD gA (by decide) (λ_ _ a=>a.2) hl) ?_
 rintro v H4 (⟨rfl,iW⟩|⟨rfl,iW,aaY⟩)<;>try simp -implicitDefEqProofs only[ld3 iW,sS,Nat.reduceAdd]
 ·obtain⟨o4,h4,f4,_⟩:=back iW;exact Ev.ret ⟨o4,L,_,f4.wk (by simp),h4,A7,.inl rfl⟩
 refine Ev.call (yZ iW 6 _) ?_;intro v H5 kh;obtain⟨o5,h5,f5,hx5⟩:=back kh;obtain⟨m5,em5⟩: ∃z,z=((Y.dJ (l.length+1) l (C3 mx)).2).set 6 (Y.dJ (l.length+1) l (C3 mx)).1:=⟨_,rfl⟩;rw[←em5] at h5;obtain⟨H6,C1⟩: ∃t,t=H5.new ⟨[],45,2,false⟩:=⟨_,rfl⟩;have b0:=T6 H5;rw[←C1] at b0;obtain⟨t,PN,Cw⟩:=gC o5 H5.length;have f6:Fr H5 o5 H6 (o5.up H5.length t) []:=by rw[C1];exact(Fr.refl _ _ _).new _ _
 have s6:gS H6 (o5.up H5.length t) t (.slice (some ⟨H5.length,0,none⟩) 0 0) []:=.inr ⟨H5.length,0,[],45,rfl,by rw[C1];exact aL,by simp,aP⟩
 obtain⟨x7,H7,o7,ap,s7,f7,_⟩:=gS.app 45 s6 (hx5.fr f6 (by simp)).src (by simp;omega)
 have f57:Fr H5 o5 H7 o7 []:=iD ((f6.wk (by simp)).tr f7) λi hi=>by have:=Cw i hi;omega
 obtain⟨o8,eo8⟩: ∃z:aj,z=λi=>if o7 i=t then -41 else o7 i:=⟨_,rfl⟩
 have f58:Fr H5 o5 H7 o8 []:=⟨f57.slot,λi hi=>by rw[eo8];show(if o7 i=t then(-41:Int) else o7 i)=_;rw[if_neg (by rw[f57.own i hi];have:=Cw i hi;omega)];exact f57.own i hi,f57.size⟩
 have s8:gN H7 o8 (-41) x7 l:=by
  have:=s7.r
  simp only[List.nil_append] at this;exact this.relabel λi hi SC=>by rw[eo8];exact if_pos SC
 have h7:=h5.ue f58 (by simp)
 obtain⟨tb7,acQ,acR,tL,i3,i4,i6,i7,iT,_⟩:=h7.oa;have hlI:=hI.len;obtain⟨xa,xc,exx⟩:=s8.isSlice;obtain⟨Lx,q1,q2,q3,x',H8,H9,o9,q4,q5,h9,f9⟩:=h7.app ⟨4,0,0,⟨0,0,0⟩,⟨0,false,0,0,0,l⟩,tL⟩ (s:=x7) s8 (by omega)
 obtain⟨c0,c1,c2,aaZ,oV,tb5,aa0,YC,adk,ty5,adG,g5,_⟩:=id h5;have p5:aq (.pointer (some ⟨xp,5,none⟩)) H5=some YC:=ao xp 5 H5 g5;have p57:aq (.pointer (some ⟨xp,7,none⟩)) H5=some (cv oV):=ao xp 7 H5 g5;have g6:H6.get xp=some ⟨[cv c0,cv c1,cv c2,pv mp,.slice (some ⟨tb5,0,none⟩) 3 aa0,YC,cv aaZ,cv oV],ty5,1,false⟩:=by rw[f6.same xp (ar g5) (by simp)];exact g5
 have p6:aq (.pointer (some ⟨xp,5,none⟩)) H6=some YC:=ao xp 5 H6 g6;have p67:aq (.pointer (some ⟨xp,7,none⟩)) H6=some (cv oV):=ao xp 7 H6 g6;have g7:H7.get xp=some ⟨[cv c0,cv c1,cv c2,pv mp,.slice (some ⟨tb5,0,none⟩) 3 aa0,YC,cv aaZ,cv oV],ty5,1,false⟩:=by rw[f57.same xp (ar g5) (by simp)];exact g5
 have p7:aq (.pointer (some ⟨xp,5,none⟩)) H7=some YC:=ao xp 5 H7 g7;have p77:aq (.pointer (some ⟨xp,7,none⟩)) H7=some (cv oV):=ao xp 7 H7 g7;have eL:YC=Lx:=by rw[p7] at q1;simpa using q1
 subst eL;have eP:oV=tL:=by rw[p77] at i7;simpa using i7
 subst eP;subst exx;simp -implicitDefEqProofs only[p5,p6,p7,p57,p67,p77,b0,ap,aai,acZ ⟨0,false,0,0,0,l⟩,Ss _ rfl,q2,q4,q5,q3,mS,sS,Nat.reduceAdd];refine Ev.ret ⟨o9,L++[⟨4,0,0,⟨0,0,0⟩,⟨0,false,0,0,0,l⟩,oV⟩],m5,((f5.trans f58 (rs:=wt) (by simp) (by simp)).trans f9 (λ_ h=>h) (by simp)),h9,⟨?_,?_,hI.tape⟩,.inr ⟨l.length+1,l,Nat.le_refl _,by omega,by simpa using aaY,em5⟩⟩
 ·simp only[List.length_append,List.length_singleton];omega
 ·intro e he;rcases List.mem_append.1 he with he|he
  ·exact hI.lists e he
  ·have:e=⟨4,0,0,⟨0,0,0⟩,⟨0,false,0,0,0,l⟩,oV⟩:=by simpa using he
   subst this;show l.length≤_;omega
end
section
open Go.Proofs.YtgfgglponbmgmaaGreatA
variable {G:ae} {H H':aa} {o o':aj} {p c mp f xp n i mx c0:Nat} {K:aa→aj→Prop} {q:Int} {x:Value} {l:PL} {m m':Y.Mm} {T:List Int} {th:kl} {L:List ku} {N M:Nat}
theorem Pl (h:JM K mp ⟨[],mx⟩ H)(Ma:150≤mx):aE (run G) 105 [pv mp] H λv H'=>JM K mp (C3 mx) H':=by
 refine Ev.up (t:=λn=>VV (run G n) n (pv mp) H) ?_ λn=>QR ..
 obtain⟨cm,jy,ref,s,ty,g,hl,hj⟩:=h.num;have L0:aq (pv mp) H=some (cv mx):=ao mp 0 H g;have L1:aq (.pointer (some ⟨mp,1,none⟩)) H=some s:=ao mp 1 H g;simp only[List.length_nil,Int.natCast_zero] at hl;simp -implicitDefEqProofs only[VV,L1,hl,sS,Nat.reduceAdd];refine Ev.gtr (λhq=>?_) (λhq=>?_)<;>try simp -implicitDefEqProofs only[L0,Nat.add_zero,sS,Nat.reduceAdd]
 ·omega
 refine Ev.lss (λhq=>?_) (λhq=>?_)<;>try simp -implicitDefEqProofs only[sS,Nat.reduceAdd]
 ·omega
 refine Ev.is (nY 1 7) ?_;rw[o57];simp -implicitDefEqProofs only[zP,sS,Nat.reduceAdd];have hjn:JM K mp ⟨[],mx⟩ (H.new ⟨[cv 57],2,1,false⟩):=h.new _;refine Ev.call (sw 0 (q:=aA) (lq:=[]) (.inl ⟨rfl,rfl⟩) (kZ [57] 2) rfl (by simp)) ?_
 intro w H2 uA;refine Ev.call (lk hjn uA) ?_;rintro v H3 ⟨_,gA⟩;refine Ev.call nD ?_;intro w H4 RI;refine Ev.call (lk gA RI) ?_;rintro v H5 ⟨_,kh⟩
 try simp -implicitDefEqProofs only[sS,Nat.reduceAdd]
 have e1:(Y.eB ⟨[],mx⟩ (.mk (Y.cP 0 [] [57]))).2=⟨[1,0,0,0,0,57],mx⟩:=by
  have:Y.cP 0 [] [57]=[1,0,0,0,0,57]:=by decide
  rw[this];simp only[Y.eB];rw[if_neg (by simp;omega)];rfl
 have e2:(Y.eB ⟨[1,0,0,0,0,57],mx⟩ (.mk [0])).2=C3 mx:=by
  simp only[Y.eB];rw[if_neg (by simp;omega)];rfl
 rw[e1,e2] at kh;exact Ev.ret kh
abbrev PS:List Value:=[cv 2,.bool false,cv 0,cv 0,cv 0,.pointer none,cv 0,.bool false,cv 0]
theorem Pm (a:Int):aF Tryz.prog 130 [(0,cv a)]=some (.agg #[cv a,aA,cv 0,cv 0,cv 0]):=by kernel_rfl
theorem Gk (a:Int)(H:aa):dH 130 (.agg #[cv a,aA,cv 0,cv 0,cv 0]) H=some (pv H.length,H.new ⟨[cv a,aA,cv 0,cv 0,cv 0],130,1,false⟩):=by
 simp[dH,Value.cells,aD,aS]
theorem XY (hc:150≤c0∧c0<800):aE (run G) 104 [cv c0] H λv H'=>v= .tuple #[pv H.length,cv 0]∧H'=H.new ⟨[cv c0,aA,cv 0,cv 0,cv 0],130,1,false⟩:=by
 refine Ev.up (t:=λk=>VU (run G k) k (cv c0) H) ?_ λk=>QQ ..
 simp -implicitDefEqProofs only[VU,Pm,Gk,sS,Nat.reduceAdd];refine Ev.lss (λhq=>?_) (λhq=>?_)<;>try simp -implicitDefEqProofs only[Pm,Gk,sS,Nat.reduceAdd]
 ·omega
 refine Ev.gtr (λhq=>?_) (λhq=>?_)<;>try simp -implicitDefEqProofs only[Pm,Gk,sS,Nat.reduceAdd]
 ·omega
 exact Ev.ret ⟨rfl,rfl⟩
theorem XZ (a b c:Int)(H:aa):dH 60 (.agg #[cv a,cv b,cv c]) H=some (pv H.length,H.new ⟨[cv a,cv b,cv c],60,1,false⟩):=by
 simp[dH,Value.cells,aD,aS]
theorem aa1 (a b c:Int)(k:Nat):aF Tryz.prog 65 [(0,.agg #[cv a,cv b,cv c]),(1,pv k)]=some (.agg #[cv a,cv b,cv c,pv k,aA,aA,cv 0,cv 0]):=by kernel_rfl
theorem X0 (a b c:Int)(k:Nat)(H:aa):dH 65 (.agg #[cv a,cv b,cv c,pv k,aA,aA,cv 0,cv 0]) H=some (pv H.length,H.new ⟨[cv a,cv b,cv c,pv k,aA,aA,cv 0,cv 0],65,1,false⟩):=by
 simp[dH,Value.cells,aD,aS]
theorem ac0:aF Tryz.prog 116 [(0,cv 2)]=some (.agg PS.toArray):=by kernel_rfl
theorem aa2 (H:aa):dH 116 (.agg PS.toArray) H=some (pv H.length,H.new ⟨PS,116,1,false⟩):=by
 simp[dH,Value.cells,aD,aS]
theorem ac1 (k:Nat)(H:aa):ay Tryz.prog 62 1 [(0,pv k)] H=some (.slice (some ⟨H.length,0,none⟩) 1 1,H.new ⟨[pv k],117,1,false⟩):=by kernel_rfl
structure NI (H:aa) (o:aj) (b0 xp mp:Nat) (c0:Nat) (tl:List Nat) (Ts:Value):Prop where
 cfg:Cl b0 [cv c0,cv 3,cv 2] 60 H o
 idx:H.get xp=some ⟨[cv c0,cv 3,cv 2,pv mp,Ts,aA,cv 0,cv 0],65,1,false⟩∧o xp= -80
 mem:mh H o mp (C3 c0)
 ts:(Ts=aA∧tl=[])∨∃tb ty,Ts= .slice (some ⟨tb,0,none⟩) tl.length tl.length∧H.get tb=some ⟨tl.map pv,ty,1,false⟩∧o tb= -81
 th: ∀(i t:Nat),tl[i]? =some t→H.get t=some ⟨PS,116,1,false⟩∧o t= -200-i
theorem NI.grow {b0:Nat}{tl:List Nat}{Ts:Value}(h:NI H o b0 xp mp c0 tl Ts)(hj:tl.length<3): ∃Pn H2 H3 o3,pG Ts Ts=true∧
  aq (.pointer (some ⟨xp,4,none⟩)) H=some Ts∧aq (.pointer (some ⟨xp,4,none⟩)) (H.new ⟨PS,116,1,false⟩)=some Ts∧aq (.pointer (some ⟨xp,4,none⟩)) ((H.new ⟨PS,116,1,false⟩).new ⟨[pv H.length],117,1,false⟩)=some Ts∧
  de 117 1 8 Ts (.slice (some ⟨(H.new ⟨PS,116,1,false⟩).length,0,none⟩) 1 1) ((H.new ⟨PS,116,1,false⟩).new ⟨[pv H.length],117,1,false⟩)=some (Pn,H2)∧
  bD 1 (.pointer (some ⟨xp,4,none⟩)) Pn H2=some (undef,H3)∧NI H3 o3 b0 xp mp c0 (tl++[H.length]) Pn∧Fr H o H3 o3 [-80, -81]:=by
 obtain⟨X1,⟨gx,hox⟩,hm,hts,n6⟩:=h;obtain⟨H1,fV⟩: ∃z,z=H.new ⟨PS,116,1,false⟩:=⟨_,rfl⟩;have l1:H1.length=H.length+1:=by rw[fV,cA]
 obtain⟨sB,LJ⟩: ∃z,z=H1.new ⟨[pv H.length],117,1,false⟩:=⟨_,rfl⟩;have l1b:sB.length=H.length+2:=by rw[LJ,cA,l1]
 rw[←fV, ←LJ];obtain⟨oA,PR⟩: ∃z,z=(o.up H.length (-200-(tl.length:Int))).up H1.length (-9):=⟨_,rfl⟩;have f1:Fr H o sB oA []:=by
  rw[LJ,PR];have a:Fr H o H1 (o.up H.length (-200-(tl.length:Int))) []:=by rw[fV];exact(Fr.refl _ _ _).new _ _
  exact a.new _ _
 have TX:H1.get xp=some ⟨[cv c0,cv 3,cv 2,pv mp,Ts,aA,cv 0,cv 0],65,1,false⟩:=by rw[fV,df (ar gx)];exact gx
 have Po:sB.get xp=some ⟨[cv c0,cv 3,cv 2,pv mp,Ts,aA,cv 0,cv 0],65,1,false⟩:=by rw[LJ,df (ar TX)];exact TX
 have aa3:oA xp= -80:=by rw[f1.own xp (ar gx)];exact hox
 have X2:sB.get H.length=some ⟨PS,116,1,false⟩:=by rw[LJ,df (by omega),fV];exact aL
 have lF:oA H.length= -200-(tl.length:Int):=by rw[PR,dL (by omega)];exact aP
 have ac2:sB.get H1.length=some ⟨[pv H.length],117,1,false⟩:=by rw[LJ];exact aL
 have Ai:pG Ts Ts=true:=by
  rcases hts with⟨rfl,_⟩|⟨tb,ty,rfl,_⟩<;>exact kJ ..
 have Ll:cF sB 1 1 (.slice (some ⟨H1.length,0,none⟩) 1 1)=some [pv H.length]:=by simp[cF,aR,ac2]
 obtain⟨Pn,H2,TY,AG,ha,e',g',YD⟩: ∃Pn H2 TY AG,de 117 1 8 Ts (.slice (some ⟨H1.length,0,none⟩) 1 1) sB=some (Pn,H2)∧Pn= .slice (some ⟨TY,0,none⟩) (tl++[H.length]).length (tl++[H.length]).length∧H2.get TY=some ⟨(tl++[H.length]).map pv,AG,1,false⟩∧TY=sB.length∧Fr sB oA H2 (oA.up sB.length (-81)) [-81]:=by
  rcases hts with⟨rfl,rfl⟩|⟨tb,ty,rfl,gt,ac3⟩
  ·refine⟨_,sB.new ⟨[pv H.length],117,1,false⟩,sB.length,117,?_,rfl,aL,rfl,(Fr.refl _ _ _).new _ _⟩;simp[de,Ll]
  ·have gtb:sB.get tb=some ⟨tl.map pv,ty,1,false⟩:=by rw[f1.same tb (ar gt) (by simp)];exact gt
   have hoA:oA tb= -81:=by rw[f1.own tb (ar gt)];exact ac3
   have fk:Fr sB oA ((sB.kill tb).new ⟨tl.map pv++[pv H.length],117,1,false⟩) (oA.up sB.length (-81)) [-81]:=by
    have:=((Fr.refl sB oA [-81]).kill (i:=tb) (λ_=>by simp[hoA])).new ⟨tl.map pv++[pv H.length],117,1,false⟩ (-81)
    rw[J3] at this;exact this
   have ld:aR sB tb 0 (tl.length*1)=some (tl.map pv):=by
    simp only[aR,gtb];rw[if_pos (by simp)]
    simp only[List.drop_zero,Nat.mul_one,Option.some.injEq];exact List.take_of_length_le (by simp)
   refine⟨.slice (some ⟨sB.length,0,none⟩) (tl.length+1) (tl.length+1),(sB.kill tb).new ⟨tl.map pv++[pv H.length],117,1,false⟩,sB.length,117,?_,by simp,?_,rfl,fk⟩
   ·simp only[de,Ll,Option.map_some];rw[if_neg (by omega),if_pos (by simp;omega)]
    simp only[gtb];rw[if_pos (by simp)]
    simp only[ld]
   ·have:=aL (H:=sB.kill tb) (c:=⟨tl.map pv++[pv H.length],117,1,false⟩)
    rw[J3] at this;rw[this];simp
 obtain⟨g',YD⟩:=YD;have hoB:(oA.up sB.length (-81)) xp= -80:=by rw[YD.own xp (ar Po)];exact aa3
 have gx2:H2.get xp=some ⟨[cv c0,cv 3,cv 2,pv mp,Ts,aA,cv 0,cv 0],65,1,false⟩:=by rw[YD.same xp (ar Po) (by rw[aa3];simp)];exact Po
 have S:=FL xp 4 (some ⟨TY,0,none⟩) (tl++[H.length]).length (tl++[H.length]).length H2 gx2 rfl (by simp)
 rw[←e'] at S;simp only[List.set_cons_succ,List.set_cons_zero] at S;obtain⟨H3,mo⟩: ∃z,z=H2.put xp ⟨[cv c0,cv 3,cv 2,pv mp,Pn,aA,cv 0,cv 0],65,1,false⟩:=⟨_,rfl⟩;rw[←mo] at S;have f3:Fr H2 (oA.up sB.length (-81)) H3 (oA.up sB.length (-81)) [-80]:=by rw[mo];exact(Fr.refl _ _ _).put λ_=>by simp[hoB]
 have fA:Fr H o H3 (oA.up sB.length (-81)) [-80, -81]:=(f1.trans YD (rs:=[-80, -81]) (by simp) (by simp)).trans f3 (by simp) (by simp)
 have fB:Fr sB oA H3 (oA.up sB.length (-81)) [-80, -81]:=YD.trans f3 (by simp) (by simp)
 have hxt:xp≠TY:=by have:=ar Po;omega
 refine⟨Pn,H2,H3,_,Ai,ao xp 4 H gx,ao xp 4 H1 TX,ao xp 4 sB Po,ha,S,⟨X1.fr fA (by simp),⟨by rw[mo];exact aG gx2,hoB⟩,hm.fr fA (by simp) (by simp),.inr ⟨TY,AG,e',?_,by rw[g'];exact aP⟩,λj t ht=>?_⟩,fA⟩
 ·rw[mo,bt (Ne.symm hxt)];assumption
 ·rcases Nat.lt_or_ge j tl.length with g|g
  ·rw[List.getElem?_append_left g] at ht;obtain⟨a1,a2⟩:=n6 j t ht;exact⟨by rw[fA.same t (ar a1) (by rw[a2];simp<;>omega)];exact a1,by rw[fA.own t (ar a1)];exact a2⟩
  ·rw[List.getElem?_append_right g] at ht;have W7:j=tl.length:=by
    rcases Nat.lt_or_ge tl.length j with g2|g2
    ·rw[List.getElem?_eq_none (by simp;omega)] at ht;cases ht
    ·omega
   subst W7;have:H.length=t:=by simpa using ht
   subst this;exact⟨by rw[fB.same H.length (ar X2) (by rw[lF];simp<;>omega)];exact X2,by rw[fB.own H.length (ar X2)];exact lF⟩
theorem X3 (hc:150≤c0∧c0<800)(H:aa)(o:aj):aE (run G) 84 [.agg #[cv c0,cv 3,cv 2]] H λv H'=>∃xp mp o' th,v= .tuple #[pv xp,cv 0]∧Fr H o H' o' wt∧WR H' o' xp mp (C3 c0) th []∧∀i,i<3→th i=⟨(th i).ti,false,false,[],.rd⟩:=by
 refine Ev.up (t:=λk=>F84 (run G k) k (.agg #[cv c0,cv 3,cv 2]) H) ?_ λk=>Vd ..
 obtain⟨H1,fV⟩: ∃z,z=H.new ⟨[cv c0,cv 3,cv 2],60,1,false⟩:=⟨_,rfl⟩;have bx:=XZ c0 3 2 H;rw[←fV] at bx;have l1:H1.length=H.length+1:=by rw[fV,cA]
 have g1:H1.get H.length=some ⟨[cv c0,cv 3,cv 2],60,1,false⟩:=by rw[fV];exact aL
 have L0:aq (pv H.length) H1=some (cv c0):=ao _ 0 H1 g1;have L1:aq (.pointer (some ⟨H.length,1,none⟩)) H1=some (cv 3):=ao _ 1 H1 g1;have L2:aq (.pointer (some ⟨H.length,2,none⟩)) H1=some (cv 2):=ao _ 2 H1 g1;simp -implicitDefEqProofs only[F84,bx,L0,L1,L2,Nat.add_zero,sS,Nat.reduceAdd];refine Ev.lss (λhq=>?_) (λhq=>?_)<;>try simp -implicitDefEqProofs only[L0,L1,L2,Nat.add_zero,sS,Nat.reduceAdd]
 ·omega
 refine Ev.gtr (λhq=>?_) (λhq=>?_)<;>try simp -implicitDefEqProofs only[L0,L1,L2,Nat.add_zero,sS,Nat.reduceAdd]
 ·omega
 refine Ev.lss (λhq=>?_) (λhq=>?_)<;>try simp -implicitDefEqProofs only[L0,L1,L2,Nat.add_zero,sS,Nat.reduceAdd]
 ·omega
 refine Ev.gtr (λhq=>?_) (λhq=>?_)<;>try simp -implicitDefEqProofs only[L0,L1,L2,Nat.add_zero,sS,Nat.reduceAdd]
 ·omega
 refine Ev.lss (λhq=>?_) (λhq=>?_)<;>try simp -implicitDefEqProofs only[L0,L1,L2,Nat.add_zero,sS,Nat.reduceAdd]
 ·omega
 refine Ev.gtr (λhq=>?_) (λhq=>?_)<;>try simp -implicitDefEqProofs only[L0,L1,L2,Nat.add_zero,sS,Nat.reduceAdd]
 ·omega
 refine Ev.call (XY hc) ?_;rintro v H2 ⟨rfl,im⟩;have l2:H2.length=H.length+2:=by rw[im,cA,l1]
 obtain⟨oA,PR⟩: ∃z,z=(o.up H.length (-9)).up H1.length (-70):=⟨_,rfl⟩;have f1:Fr H o H1 (o.up H.length (-9)) []:=by rw[fV];exact(Fr.refl _ _ _).new _ _
 have f2:Fr H o H2 oA []:=by rw[im,PR];exact f1.new _ _
 have X1:Cl H.length [cv c0,cv 3,cv 2] 60 H2 oA:=⟨by rw[im,df (by omega)];exact g1,by rw[PR,dL (by omega)];exact aP⟩
 have I2:mh H2 oA H1.length ⟨[],c0⟩:=⟨0,0,0,aA,130,by rw[im];exact aL,by rw[PR];exact aP,.inl ⟨rfl,rfl⟩,by simp,by show c0≤65536;omega⟩
 have zp:JM (λH' o'=>Fr H2 oA H' o' [-70, -71]) H1.length ⟨[],c0⟩ H2:=⟨bJ.base (by simp),oA,I2,Fr.refl _ _ _⟩
 simp -implicitDefEqProofs only[sS,Nat.reduceAdd];refine Ev.call (Pl zp (by omega)) ?_
 rintro v H3 ⟨_,o3,SZ,f3⟩;have T8:=X1.fr f3 (by simp)
 have LC:cZ 3 (pv H.length) H3=some (.agg #[cv c0,cv 3,cv 2]):=by simp[cZ,aR,T8.1]
 obtain⟨H4,pR⟩: ∃z,z=H3.new ⟨[cv c0,cv 3,cv 2,pv H1.length,aA,aA,cv 0,cv 0],65,1,false⟩:=⟨_,rfl⟩;have bI:=X0 c0 3 2 H1.length H3;rw[←pR] at bI;have f4:Fr H3 o3 H4 (o3.up H3.length (-80)) []:=by rw[pR];exact(Fr.refl _ _ _).new _ _
 have fA4:Fr H o H4 (o3.up H3.length (-80)) wt:=(f2.trans f3 (rs:=wt) (by simp) (by simp)).trans f4 (λ_ h=>h) (by simp)
 have n4:NI H4 (o3.up H3.length (-80)) H.length H3.length H1.length c0 [] aA:=⟨T8.fr f4 (by simp),⟨by rw[pR];exact aL,aP⟩,SZ.fr f4 (by simp) (by simp),.inl ⟨rfl,rfl⟩,λi t ht=>by simp at ht⟩
 simp -implicitDefEqProofs only[LC,aa1,bI,sS,Nat.reduceAdd];refine Ev.loop (k:=3) (λkk vs Hx=>∃(tl:List Nat) (Ts:Value) (ox:aj) (x0 x2 x3 bP x4 dQ:Value),vs=[x0,x2,x3,pv H.length,bP,x4,cv (tl.length:Nat),dQ,pv H3.length]∧tl.length+kk=3∧NI Hx ox H.length H3.length H1.length c0 tl Ts∧Fr H o Hx ox wt)
  (λr=>r.1= .exit 0∧∃(tl:List Nat) (Ts:Value) (ox:aj) (x0 x2 x3 bP x4 x7 dQ:Value),r.2.1=[x0,x2,x3,pv H.length,bP,x4,x7,dQ,pv H3.length]∧tl.length=3∧NI r.2.2 ox H.length H3.length H1.length c0 tl Ts∧Fr H o r.2.2 ox wt) ⟨[],aA,_,_,_,_,_,_,_,rfl,rfl,n4,fA4⟩ ?_ ?_
 ·rintro kk vs Hx ⟨tl,Ts,ox,x0,x2,x3,bP,x4,dQ,rfl,Xk,hn,hf⟩;have K1:aq (.pointer (some ⟨H.length,1,none⟩)) Hx=some (cv 3):=ao _ 1 Hx hn.cfg.1;have K2:aq (.pointer (some ⟨H.length,2,none⟩)) Hx=some (cv 2):=ao _ 2 Hx hn.cfg.1;have hw:IntKind.i64.wrap ((tl.length:Int)+1)=((tl.length+1:Nat):Int):=by rw[fL (by omega)];omega
  simp -implicitDefEqProofs only[M6,BS,K1,sS,Nat.reduceAdd];refine Ev.lss (λhq=>?_) (λhq=>?_)<;>try simp -implicitDefEqProofs only[sS,Nat.reduceAdd]
  ·obtain⟨Pn,H5,H6,o6,e0,e1,e2,e3,e4,e5,hn6,f6⟩:=hn.grow (by omega)
   simp -implicitDefEqProofs only[e1,K2,ac0,aa2,ac1,e2,e3,e4,e5,e0,hw,sS,Nat.reduceAdd];exact Ev.ret (.inl ⟨rfl,kk-1,by omega,tl++[Hx.length],Pn,o6,x0,x2,x3,bP,x4,.bool true,by simp,by simp;omega,hn6,hf.trans f6 (λ_ h=>h) (by simp)⟩)
  ·exact Ev.ret (.inr ⟨by simp,rfl,tl,Ts,ox,_,_,_,_,_,_,_,rfl,by omega,hn,hf⟩)
 ·rintro e vs Hx ⟨he,tl,Ts,ox,x0,x2,x3,bP,x4,x7,dQ,rfl,Xk,hn,hf⟩;simp only at he;subst he;simp -implicitDefEqProofs only[M8,BU,sS,Nat.reduceAdd];obtain⟨t0,t1,t2,rfl⟩: ∃t0 t1 t2,tl=[t0,t1,t2]:=by
   match tl,Xk with
   | [t0,t1,t2],_=>exact⟨t0,t1,t2,rfl⟩
  obtain⟨_,⟨gx,hox⟩,hm,hts,n6⟩:=hn;rcases hts with⟨_,e⟩|⟨tb,ty,rfl,gt,lF⟩
  ·cases e
  refine Ev.ret ⟨H3.length,H1.length,ox,λi=>⟨if i=0 then t0 else if i=1 then t1 else t2,false,false,[],.rd⟩,rfl,hf,⟨c0,3,2,0,0,tb,3,aA,[],_,ty,gx,hox,gt,lF,hm,λi hi=>?_,.inl ⟨rfl,rfl⟩⟩,λi hi=>rfl⟩
  have:i=0∨i=1∨i=2:=by omega
  have key:([t0,t1,t2]:List Nat)[i]? =some (if i=0 then t0 else if i=1 then t1 else t2):=by
   rcases this with rfl|rfl|rfl<;>rfl
  obtain⟨a1,a2⟩:=n6 i _ key;exact⟨2,0,0,0,0,0,.pointer none,_,a1,a2,λhb=>by cases hb⟩
theorem aa4 (a b c:Int):aF Tryz.prog 60 [(0,cv a),(1,cv b),(2,cv c)]=some (.agg #[cv a,cv b,cv c]):=by kernel_rfl
theorem SE (c:Int){ky x:Value}{ks zs:List Int}(hky:sA H ky ks)(hkr:dV H o (-1) ky ks)(hx:dV H o (-1) x zs)(hz:zs.length≤maxLen):aE (run G) 55 [cv c,cv 3,ky,x] H λv H'=>∃xp mp o' m th L,v=pv xp∧Fr H o H' o' wt∧WR H' o' xp mp m th L∧Inv th L 211 1680∧TI th m:=by
 refine Ev.up (t:=λn=>F55 (run G n) n (cv c) (cv 3) ky x H) ?_ λn=>VP ..
 simp -implicitDefEqProofs only[F55,sS,Nat.reduceAdd];refine Ev.call (mi c 650 (by omega)) ?_
 rintro v H1 ⟨z,rfl,Ue,Yi,rfl⟩;obtain⟨c0,hc0⟩: ∃c0:Nat,(c0:Int)=150+z:=⟨(150+z).toNat,by omega⟩
 have RJ:IntKind.i64.wrap (150+z)=c0:=by rw[fL (by omega),hc0]
 simp -implicitDefEqProofs only[RJ,aa4,sS,Nat.reduceAdd];refine Ev.call (X3 (c0:=c0) (by omega) H1 o) ?_
 rintro v H2 ⟨xp,mp,o2,th,rfl,f2,h2,n6⟩
 try simp -implicitDefEqProofs only[sS,Nat.reduceAdd]
 have ac4:sA H2 ky ks:=⟨(hkr.fr f2 (by simp)).1,hky.2⟩
 refine Ev.call (aaW ac4 (k:=20)) ?_;rintro y H3 ⟨rfl,ys,hy⟩;refine Ev.call (Pk hy) ?_;rintro y H4 ⟨l,⟨ex,hs⟩,hl⟩;have f3:Fr H3 o2 H4 (o2.from H3.length (-42)) []:=ex.fr o2 (-42)
 have PB:gN H4 (o2.from H3.length (-42)) (-42) y l:=hs.r.relabel λi hi SC=>by
  rcases Nat.lt_or_ge i H3.length with g|g
  ·rw[CG g] at SC;exact absurd SC (by show(-1:Int)≠ -42;decide)
  ·exact CF g
 have h3:=h2.ue f3 (by simp)
 have hI0:Inv th [] 0 0:=⟨by rw[n6 0 (by omega),n6 1 (by omega),n6 2 (by omega)];simp[um],λe he=>by simp at he,λi hi=>by rw[n6 i hi];simp⟩
 refine Ev.call (XX h3 PB (by omega) hI0 (by omega)) ?_
 rintro v H4 ⟨o4,L4,m4,f4,h4,hI4,aa5⟩;obtain⟨G4,i4,r4⟩:=aa5.typed (by omega)
 have hT4:TI th m4:=⟨G4,i4,r4,λi hi hb=>by rw[n6 i hi] at hb;cases hb⟩
 have f23:Fr H1 o _ _ wt:=f2.trans f3 (λ_ h=>h) (by simp)
 have f24:Fr H1 o H4 o4 wt:=f23.trans f4 (λ_ h=>h) (λ_ h=>h)
 try simp -implicitDefEqProofs only[sS,Nat.reduceAdd]
 refine Ev.loop (k:=70) (λkk vs Hx=>∃(j:Nat) (ox:aj) (mz:Y.Mm) (qJ:kl) (Lx:List ku) (x8 bP aN aI eJ:Value),vs=[cv c,cv 3,ky,x,x8,pv xp,cv j,bP,aN,aI,eJ]∧j+kk=70∧Fr H1 o Hx ox wt∧WR Hx ox xp mp mz qJ Lx∧Inv qJ Lx (1+3*j) (24*j)∧TI qJ mz)
  (λr=>r.1= .exit 0∧∃(ox:aj) (mz:Y.Mm) (qJ:kl) (Lx:List ku) (x8 aO bP aN aI eJ:Value),r.2.1=[cv c,cv 3,ky,x,x8,pv xp,aO,bP,aN,aI,eJ]∧Fr H1 o r.2.2 ox wt∧WR r.2.2 ox xp mp mz qJ Lx∧Inv qJ Lx 211 1680∧TI qJ mz) ⟨0,o4,m4,th,L4,_,_,_,_,_,rfl,rfl,f24,h4,hI4,hT4⟩ ?_ ?_
 ·rintro kk vs Hx ⟨j,ox,mz,qJ,Lx,x8,bP,aN,aI,eJ,rfl,z9,hf,hw,hI,hT⟩;have hxx:dV Hx ox (-1) x zs:=hx.fr hf (by simp)
  have hwj:IntKind.i64.wrap ((j:Int)+1)=((j+1:Nat):Int):=by rw[fL (by omega)];omega
  have hIe:Inv qJ Lx 211 1680:=⟨by have:=hI.len;omega,hI.lists,λi hi=>by have:=hI.tape i hi;omega⟩
  have iJ: ∀(x8 bP aN aI eJ:Value) {Hy:aa} {oy:aj} {mw:Y.Mm} {thy:kl} {Ly:List ku},j<70→Fr Hx ox Hy oy wt→WR Hy oy xp mp mw thy Ly→Inv thy Ly (1+3*j+3) (24*j+24)→TI thy mw→Ev (λn=>xv (run G n) n [cv c,cv 3,ky,x,x8,pv xp,cv j,bP,aN,aI,eJ] Hy) λr=>(r.1= .normal∧∃k',k'<kk∧∃(j:Nat) (ox:aj) (mz:Y.Mm) (qJ:kl) (Lx:List ku) (x8 bP aN aI eJ:Value),r.2.1=[cv c,cv 3,ky,x,x8,pv xp,cv j,bP,aN,aI,eJ]∧j+k'=70∧Fr H1 o r.2.2 ox wt∧WR r.2.2 ox xp mp mz qJ Lx∧Inv qJ Lx (1+3*j) (24*j)∧TI qJ mz)∨(r.1≠ .normal∧r.1= .exit 0∧∃(ox:aj) (mz:Y.Mm) (qJ:kl) (Lx:List ku) (x8 aO bP aN aI eJ:Value),r.2.1=[cv c,cv 3,ky,x,x8,pv xp,aO,bP,aN,aI,eJ]∧Fr H1 o r.2.2 ox wt∧WR r.2.2 ox xp mp mz qJ Lx∧Inv qJ Lx 211 1680∧TI qJ mz):=by
   intro x8 bP aN aI eJ Hy oy mw thy Ly CE a1 a2 a3 a4;simp -implicitDefEqProofs only[No,B5,hwj,sS,Nat.reduceAdd];exact Ev.ret (.inl ⟨rfl,kk-1,by omega,j+1,oy,mw,thy,Ly,_,_,_,_,_,rfl,by omega,hf.trans a1 (λ_ h=>h) (λ_ h=>h),a2,⟨by have:=a3.len;omega,a3.lists,λi hi=>by have:=a3.tape i hi;omega⟩,a4⟩)
  simp -implicitDefEqProofs only[Nq,B6,hxx.1.len,sS,Nat.reduceAdd];refine Ev.lss (λhq=>?_) (λhq=>?_)<;>try simp -implicitDefEqProofs only[sS,Nat.reduceAdd]
  rotate_left
  ·exact Ev.ret (.inr ⟨by simp,rfl,ox,mz,qJ,Lx,_,_,_,_,_,_,rfl,hf,hw,hIe,hT⟩)
  refine Ev.lss (λkt=>?_) (λkt=>?_)<;>try simp -implicitDefEqProofs only[sS,Nat.reduceAdd]
  rotate_left
  ·exact Ev.ret (.inr ⟨by simp,rfl,ox,mz,qJ,Lx,_,_,_,_,_,_,rfl,hf,hw,hIe,hT⟩)
  have CE:j<70:=by omega
  obtain⟨qi,off,b,e1,e2,e3⟩:=hxx.1.idx (j:=j) (by omega)
  have e4:aq (.pointer (some ⟨qi,off,none⟩)) Hx=some (cv (zs.getD j 0)):=(ao qi off Hx e2).trans e3;simp -implicitDefEqProofs only[e1,e4,sS,Nat.reduceAdd];refine Ev.call (mi _ 3 (by omega)) ?_
  rintro v H5 ⟨t,rfl,Yj,PN,rfl⟩;obtain⟨ti,rfl⟩: ∃k:Nat,t=k:=⟨t.toNat,by omega⟩
  have XG:ti<3:=by omega
  simp -implicitDefEqProofs only[XT,sS,Nat.reduceAdd];refine Ev.call (mi _ 3 (by omega)) ?_
  rintro v H5 ⟨y,rfl,_,_,rfl⟩;obtain⟨tb,cap,inv,dW,i3,i4,i6,i7,iT,_⟩:=hw.oa;obtain⟨iT1,iT2⟩:=iT ti XG;obtain⟨no,d1,d7,d8⟩:=hw.XJ XG;have IF: ∀(x8 bP aN eJ:Value) (a:Int),Ev (λn=>af (run G n 73 [cv a] H5) λgL Hy=>af (run G n 72 [pv xp,cv ti,gL] Hy) λ_ Hy=>xv (run G n) n [cv c,cv 3,ky,x,x8,pv xp,cv j,bP,aN,cv ti,eJ] Hy) λr=>(r.1= .normal∧∃k',k'<kk∧∃(j:Nat) (ox:aj) (mz:Y.Mm) (qJ:kl) (Lx:List ku) (x8 bP aN aI eJ:Value),r.2.1=[cv c,cv 3,ky,x,x8,pv xp,cv j,bP,aN,aI,eJ]∧j+k'=70∧Fr H1 o r.2.2 ox wt∧WR r.2.2 ox xp mp mz qJ Lx∧Inv qJ Lx (1+3*j) (24*j)∧TI qJ mz)∨(r.1≠ .normal∧r.1= .exit 0∧∃(ox:aj) (mz:Y.Mm) (qJ:kl) (Lx:List ku) (x8 aO bP aN aI eJ:Value),r.2.1=[cv c,cv 3,ky,x,x8,pv xp,aO,bP,aN,aI,eJ]∧Fr H1 o r.2.2 ox wt∧WR r.2.2 ox xp mp mz qJ Lx∧Inv qJ Lx 211 1680∧TI qJ mz):=by
   intro x8 bP aN eJ a;refine Ev.call (aaQ a) ?_;rintro v H6 ⟨op,rfl,ex⟩;have f6:Fr H5 ox H6 (ox.from H5.length (-9)) []:=ex.fr ox (-9)
   have h6:=hw.ue f6 (by simp)
   refine Ev.call (Pa h6 XG hI (by omega) op) ?_
   rintro v H7 ⟨o7,th7,L7,f7,h7,LH,hR7⟩;exact iJ _ _ _ _ _ CE (f6.trans f7 (by simp) (λ_ h=>h)) h7 ⟨LH.len,LH.lists,λi hi=>by have:=LH.tape i hi;omega⟩ (TI.keep.inv hT XG hR7)
  refine Ev.gtr (λTS=>?_) (λTS=>?_)<;>try simp -implicitDefEqProofs only[i4,iT1,iT2,d1,sS,Nat.reduceAdd]
  ·cases hb:(qJ ti).busy<;>simp -implicitDefEqProofs only[XT,sS,Nat.reduceAdd]
   ·exact IF _ _ _ _ _
   ·refine Ev.call (mi _ 24 (by omega)) ?_
    rintro v H6 ⟨u,rfl,Ul,Mn,rfl⟩;have hwu:IntKind.i64.wrap (1+u)=1+u:=fL (by omega)
    simp -implicitDefEqProofs only[hwu,aaN,sS,Nat.reduceAdd];refine Ev.call (aaO TI.keep hT hw XG hI (by omega) (by omega) (k:=1+u) (by omega)) ?_
    rintro v H7 ⟨o7,th7,L7,m7,f7,h7,LH,hT7⟩;exact iJ _ _ _ _ _ CE f7 h7 ⟨by have:=LH.len;omega,LH.lists,LH.tape⟩ hT7
  ·try simp -implicitDefEqProofs only[XT,sS,Nat.reduceAdd]
   exact IF _ _ _ _ _
 ·rintro e vs Hx ⟨he,ox,mz,qJ,Lx,x8,aO,bP,aN,aI,eJ,rfl,hf,hw,hI,hT⟩;simp only at he;subst he;simp -implicitDefEqProofs only[Ns,B7,sS,Nat.reduceAdd];exact Ev.ret ⟨xp,mp,ox,mz,qJ,Lx,rfl,hf,hw,hI,hT⟩
end
end Go.Proofs.YtgfgglponbmgmaaGreat.Fun
end
