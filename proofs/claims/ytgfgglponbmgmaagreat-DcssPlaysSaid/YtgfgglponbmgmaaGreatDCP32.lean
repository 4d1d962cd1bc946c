/- Texts of the proof of dcssPlays_holds, put together by a small program of ours (names shortened, spaces taken out). No condition beyond the given statement. -/
import Derived.Test.YtgfgglponbmgmaaGreatDCP10
import Derived.Test.YtgfgglponbmgmaaGreatDCP16
import Derived.Test.YtgfgglponbmgmaaGreatDCP31
import Derived.Test.YtgfgglponbmgmaaGreatDCP17
set_option linter.unusedVariables false
set_option linter.unusedSimpArgs false
set_option linter.unnecessarySimpa false
noncomputable section
section
namespace Go.Proofs.YtgfgglponbmgmaaGreat.Fun.R
open Go Go.RowKit Go.Proofs.YtgfgglponbmgmaaGreatA.Am
set_option maxRecDepth 10000
section
variable {G:ae} {H H':aa} {o o':aj} {p m c:Nat} {K K':aa→aj→Prop} {t t1 t2 q:Int} {x:Value} {l lp ls:PL} {n i:Nat} {cs:List Value} {T:TypeId}
theorem KW.mono {w:Nat}{s:WS}(h:J (KW K t t1 t2 w s lp ls) p m H)(ht:FA p t t1 t2)(TL:bL [(p:Int),t,t1,t2] K')(k: ∀H o,K H o→K' H o):J (KW K' t t1 t2 w s lp ls) p m H:=h.mono (KW.fe ht TL) λo a=>⟨k _ _ a.1,a.2⟩
structure KWx (K:aa→aj→Prop) (t t1 t2:Int) (w:Nat) (s:WS) (xp xs:Value) (lp ls:PL) (H:aa) (o:aj):Prop where
 k:K H o
 g: ∃ty,H.get w=some ⟨MY s xp xs,ty,1,false⟩
 ow:o w=t
 sp:gZ H o t1 xp lp
 ss:gZ H o t2 xs ls
theorem KWx.fe {w:Nat}{s:WS}{xp xs:Value}(ht:FA p t t1 t2)(hK:bL [(p:Int),t,t1,t2] K):bL [(p:Int)] (KWx K t t1 t2 w s xp xs lp ls):=λH o H' o' h f=>by
 obtain⟨ty,g⟩:=h.g;exact⟨hK _ _ _ _ h.k (f.wk (by simp)),⟨ty,by rw[f.same w (ar g) (by rw[h.ow];simpa using ht.a.ne)];exact g⟩,by rw[f.own w (ar g)];exact h.ow,gZ.fr h.sp f (by simpa using ht.a1.ne),gZ.fr h.ss f (by simpa using ht.a2.ne)⟩
theorem KW.ex {w:Nat}{s:WS}(h:J (KW K t t1 t2 w s lp ls) p m H)(ht:FA p t t1 t2)(hK:bL [(p:Int),t,t1,t2] K): ∃xp xs,J (KWx K t t1 t2 w s xp xs lp ls) p m H:=by
 obtain⟨_,o,hr,hk,xp,xs,ty,g,ho,h1,h2⟩:=h;exact⟨xp,xs,KWx.fe ht hK,o,hr,hk,⟨ty,g⟩,ho,h1,h2⟩
theorem Zr:aE Tryz.prog 34 [(0,cv (-9223372036854775808)),(1,cv 9223372036854775807),(3,cv 1),(4,.bool true)]=some (.agg #[cv (-9223372036854775808),cv 9223372036854775807,.bool false,cv 1,.bool true,aA,aA]):=by kernel_rfl
theorem TU (s:WS)(H:aa):dK 34 (.agg #[cv s.lo,cv s.hi,.bool s.back,cv s.Qm,.bool s.values,aA,aA]) H=some (pv H.length,H.new ⟨MY s aA aA,34,1,false⟩):=by
 simp[dK,Value.cells,aC,aS]
theorem TV (ht:FA p t t1 t2)(h9:t≠ -9∧t1≠ -9∧t2≠ -9)(hK:bL [(p:Int),t,t1,t2] K)(h:J K p m H)(op:ki):aF (run G) 157 [jw op] H λv H'=>∃w s,v=pv w∧J (KW K t t1 t2 w s [] []) p m H':=by
 refine Ev.up (t:=λk=>W7 (run G k) k (jw op) H) ?_ λk=>RU ..
 obtain⟨i0,e0⟩: ∃i,i=H.length:=⟨_,rfl⟩;obtain⟨w,e1⟩: ∃i,i=H.length+1:=⟨_,rfl⟩;obtain⟨H1,fY⟩: ∃z,z=H.new ⟨n6 op,39,1,false⟩:=⟨_,rfl⟩;have l1:H1.length=H.length+1:=by rw[fY,cC]
 have Nt:bL [(p:Int),t,t1,t2] λH o=>K H o∧Cl i0 (n6 op) 39 H o:=hK.and λH o H' o' a f=>a.fr f (by simp;omega)
 have fH:J (λH o=>K H o∧Cl i0 (n6 op) 39 H o) p m H1:=by
  rw[fY];refine h.nG _ _ 1 (Nt.of (by simp)) λo hk f=>⟨hK _ _ _ _ hk (f.wk (by simp)),?_⟩
  rw[e0];exact Cl.made
 let s0:WS:=⟨-9223372036854775808,9223372036854775807,false,1,true⟩
 obtain⟨H2,iB⟩: ∃z,z=H1.new ⟨MY s0 aA aA,34,1,false⟩:=⟨_,rfl⟩;have fI:J (KW (λH o=>K H o∧Cl i0 (n6 op) 39 H o) t t1 t2 w s0 [] []) p m H2:=by
  obtain⟨_,o,hr,hk⟩:=fH;have f:Fr H1 o H2 (o.up H1.length t) []:=by rw[iB];exact(Fr.refl H1 o []).new _ _
  refine⟨KW.fe ht Nt,_,hr.fr f (by simp) (by simp) (by simp),Nt _ _ _ _ hk (f.wk (by simp)),aA,aA,34,?_,?_,.inl ⟨rfl,rfl⟩,.inl ⟨rfl,rfl⟩⟩
  ·rw[iB,e1, ←l1];exact aK
  ·rw[e1, ←l1];exact aO
 have bx:=Dd op H;rw[←e0, ←fY] at bx;have bw:=TU s0 H1;rw[←iB,l1, ←e1] at bw;have L0: ∀{s:WS} {m':Nat} {H':aa},J (KW (λH o=>K H o∧Cl i0 (n6 op) 39 H o) t t1 t2 w s [] []) p m' H'→aq (pv i0) H'=some (cv op.kind)∧aq (.pointer (some ⟨i0,1,none⟩)) H'=some (cv op.key)∧aq (.pointer (some ⟨i0,2,none⟩)) H'=some (cv op.value):=λhj=>by
  obtain⟨_,o,_,⟨_,g,_⟩,_⟩:=hj;exact⟨an i0 0 _ g,an i0 1 _ g,an i0 2 _ g⟩
 have J0: ∀{s:WS} {H':aa} (x2 x7 x8 aZ bX cr:Value),J (KW (λH o=>K H o∧Cl i0 (n6 op) 39 H o) t t1 t2 w s [] []) p m H'→Ev (λk=>nh (run G k) k [jw op,x2,pv i0,x7,x8,pv w,aZ,bX,cr] H') λr=>∃w s,r.1=pv w∧J (KW K t t1 t2 w s [] []) p m r.2:=by
  intro s H' x2 x7 x8 aZ bX cr hj;simp -implicitDefEqProofs only[KC,xv,sS,Nat.reduceAdd];exact Ev.ret ⟨w,s,rfl,KW.mono hj ht hK λH o a=>a.1⟩
 have J1: ∀{s:WS} {H':aa} (b:Bool) (x2 x7 x8 aZ bX:Value),J (KW (λH o=>K H o∧Cl i0 (n6 op) 39 H o) t t1 t2 w s [] []) p m H'→Ev (λk=>vB (run G k) k [jw op,x2,pv i0,x7,x8,pv w,aZ,bX,.bool b] H') λr=>∃w s,r.1=pv w∧J (KW K t t1 t2 w s [] []) p m r.2:=by
  intro s H' b x2 x7 x8 aZ bX hj;simp -implicitDefEqProofs only[KD,xw,sS,Nat.reduceAdd];cases b<;>simp -implicitDefEqProofs only[sS,Nat.reduceAdd]
  ·exact J0 _ _ _ _ _ _ hj
  ·obtain⟨a0,a1,a2⟩:=L0 hj;obtain⟨H3,g3,gE⟩:=KW.abF ht Nt hj op.key;obtain⟨b0,b1,b2⟩:=L0 gE;obtain⟨H4,g4,jc⟩:=KW.abG ht Nt gE op.value;obtain⟨H5,g5,lJ⟩:=KW.adj ht Nt jc 0;obtain⟨c0,c1,c2⟩:=L0 lJ;simp -implicitDefEqProofs only[a1,Nat.add_zero,g3,b2,g4,g5,c0,sS,Nat.reduceAdd];refine Ev.eql (λhq=>?_) (λhq=>?_)<;>try simp -implicitDefEqProofs only[sS,Nat.reduceAdd]
   ·obtain⟨H6,g6,n9⟩:=KW.abI ht Nt lJ true;simp -implicitDefEqProofs only[g6,sS,Nat.reduceAdd];exact J0 _ _ _ _ _ _ n9
   ·obtain⟨H6,g6,n9⟩:=KW.abI ht Nt lJ false;simp -implicitDefEqProofs only[g6,sS,Nat.reduceAdd];exact J0 _ _ _ _ _ _ n9
 obtain⟨a0,a1,a2⟩:=L0 fI;simp -implicitDefEqProofs only[W7,bx,Zr,Nat.add_zero,sS,Nat.reduceAdd];have bw':dK 34 (.agg #[cv (-9223372036854775808),cv 9223372036854775807,.bool false,cv 1,.bool true,aA,aA]) H1=some (pv w,H2):=bw;simp -implicitDefEqProofs only[bw',a0,Nat.add_zero,sS,Nat.reduceAdd];refine Ev.eql (λhq=>?_) (λhq=>?_)<;>try simp -implicitDefEqProofs only[a1,sS,Nat.reduceAdd]
 ·obtain⟨H3,g3,gE⟩:=KW.abG ht Nt fI op.key;obtain⟨H4,g4,jc⟩:=KW.abH ht Nt gE true;simp -implicitDefEqProofs only[g3,g4,sS,Nat.reduceAdd];exact J0 _ _ _ _ _ _ jc
 refine Ev.eql (λhq=>?_) (λhq=>?_)<;>try simp -implicitDefEqProofs only[a1,sS,Nat.reduceAdd]
 ·obtain⟨H3,g3,gE⟩:=KW.abF ht Nt fI op.key;simp -implicitDefEqProofs only[Nat.add_zero,g3,sS,Nat.reduceAdd];exact J0 _ _ _ _ _ _ gE
 refine Ev.eql (λhq=>?_) (λhq=>?_)<;>try simp -implicitDefEqProofs only[a1,sS,Nat.reduceAdd]
 ·obtain⟨H3,g3,gE⟩:=KW.abH ht Nt fI true;simp -implicitDefEqProofs only[g3,sS,Nat.reduceAdd];exact J0 _ _ _ _ _ _ gE
 refine Ev.eql (λhq=>?_) (λhq=>?_)<;>try simp -implicitDefEqProofs only[a1,sS,Nat.reduceAdd]
 ·exact J1 true _ _ _ _ _ fI
 refine Ev.eql (λhq=>?_) (λhq=>?_)<;>try simp -implicitDefEqProofs only[a1,sS,Nat.reduceAdd]
 ·exact J1 true _ _ _ _ _ fI
 ·exact J1 false _ _ _ _ _ fI
theorem Qn (h:J K p m H)(hs: ∀H o,K H o→gU H o q x l)(hl:l.length≤2147483648)(op:ki):aF (run G) 158 [jw op,x] H λv H'=>∃r s,v=gu r s∧J K p m H'∧((s=x∧r.list=l)∨(s=aA∧r.list=[])):=by
 refine Ev.up (t:=λk=>Yo (run G k) k (jw op) x H) ?_ λk=>SG ..
 obtain⟨i0,e0⟩: ∃i,i=H.length:=⟨_,rfl⟩;obtain⟨i1,e1⟩: ∃i,i=H.length+1:=⟨_,rfl⟩;obtain⟨H1,fY⟩: ∃z,z=H.new ⟨n6 op,39,1,false⟩:=⟨_,rfl⟩;have l1:H1.length=H.length+1:=by rw[fY,cC]
 obtain⟨H2,iB⟩: ∃z,z=H1.new ⟨rc bS,47,1,false⟩:=⟨_,rfl⟩;have fI:J K p m H2:=by rw[iB,fY];exact(h.new _).new _
 have bx:=Dd op H;rw[←e0, ←fY] at bx;have n1:aS H1 47 1 [cv 0,.bool false,cv 0,cv 0,cv 0,aA]=(pv i1,H2):=by rw[iB,e1, ←l1];rfl
 have g0:H2.get i0=some ⟨n6 op,39,1,false⟩:=by rw[iB,dk (by omega),fY,e0];exact aK
 have g1:H2.get i1=some ⟨rc bS,47,1,false⟩:=by rw[iB,e1, ←l1];exact aK
 have a0:aq (pv i0) H2=some (cv op.kind):=an i0 0 _ g0;obtain⟨_,o2,_,hk2⟩:=id fI;have Wg:=hs _ _ hk2;obtain⟨xa,xc,ex⟩:=Wg.isSlice;have fin: ∀(r:eO) (s:Value),(∃a m c,s= .slice a m c)→∃H3,bD 6 (pv i1) (gu r s) H2=some (undef,H3)∧df 6 (pv i1) H3=some (gu r s)∧J K p m H3:=λr s uG=>by
  obtain⟨a,mm,cc,es⟩:=uG;refine⟨_,uc i1 r es H2 g1 rfl,pL _ _ _ (aH g1),h.uJ λo=>⟨(o.up H.length (-9)).up H1.length (-9),?_⟩⟩
  rw[iB,fY];have f1:Fr H o (H.new ⟨n6 op,39,1,false⟩) (o.up H.length (-9)) []:=(Fr.refl H o []).new _ _;have f2:=f1.new ⟨rc bS,47,1,false⟩ (-9);exact f2.put λhh=>by omega
 simp -implicitDefEqProofs only[Yo,bx,n1,a0,Nat.add_zero,sS,Nat.reduceAdd];refine Ev.eql (λhq=>?_) (λhq=>?_)<;>try simp -implicitDefEqProofs only[sS,Nat.reduceAdd]
 ·obtain⟨H3,b1,b2,gE⟩:=fin ⟨0,false,0,0,0,l⟩ x ⟨_,_,_,ex⟩;have ab:aE Tryz.prog 47 [(4,x)]=some (gu ⟨0,false,0,0,0,l⟩ x):=by rw[ex];exact aby _ _ _
  simp -implicitDefEqProofs only[ab,b1,b2,sS,Nat.reduceAdd];exact Ev.ret ⟨_,_,rfl,gE,.inl ⟨rfl,rfl⟩⟩
 try simp -implicitDefEqProofs only[a0,sS,Nat.reduceAdd]
 refine Ev.eql (λhq=>?_) (λhq=>?_)<;>try simp -implicitDefEqProofs only[Wg.len,sS,Nat.reduceAdd]
 ·obtain⟨H3,b1,b2,gE⟩:=fin ⟨0,false,0,0,l.length,[]⟩ aA ⟨_,_,_,rfl⟩;simp -implicitDefEqProofs only[ada,b1,b2,sS,Nat.reduceAdd];exact Ev.ret ⟨_,_,rfl,gE,.inr ⟨rfl,rfl⟩⟩
 refine Ev.eql (λhq=>?_) (λhq=>?_)<;>try simp -implicitDefEqProofs only[sS,Nat.reduceAdd]
 ·obtain⟨H3,b1,b2,gE⟩:=fin bS aA ⟨_,_,_,rfl⟩;simp -implicitDefEqProofs only[De,b1,b2,sS,Nat.reduceAdd];exact Ev.ret ⟨_,_,rfl,gE,.inr ⟨rfl,rfl⟩⟩
 ·obtain⟨i,off,b,e1,e2,e3,e4⟩:=Wg.idx (j:=0) (by omega)
  obtain⟨e5,e6,e7⟩:=e4 H2 e2;simp only[Int.natCast_zero] at e1;obtain⟨H3,b1,b2,gE⟩:=fin (MM ((l.getD 0 (0,0)).1,(l.getD 0 (0,0)).2,true)) aA ⟨_,_,_,rfl⟩;simp -implicitDefEqProofs only[e1,e7,Zh,b1,b2,sS,Nat.reduceAdd];exact Ev.ret ⟨_,_,rfl,gE,.inr ⟨rfl,ud _⟩⟩
abbrev adk (K:aa→aj→Prop)(p c:Nat):Value→aa→Prop:=λv H'=>∃r s,v=gu r s∧r.list.length≤c∧∃m',J (λH o=>K H o∧gU H o (-41) s r.list) p m' H'∧m'≤c
theorem dy.relabel {x:Value}{l:List Int}(h:dy H o q x l)(k: ∀i,i<H.length→o i=q→o' i=q):dy H o' q x l:=⟨h.1,λb n c e dx=>⟨(h.2 b n c e dx).1,k _ (h.2 b n c e dx).1 (h.2 b n c e dx).2⟩⟩
theorem At.relabel (h:At H o p m)(k: ∀i,i<H.length→(o i=(p:Int)∨o i= -50∨o i= -51)→o' i=o i):At H o' p m:=by
 obtain⟨tape,w,T,W,i,nk,na,nx,ny,rec,laid,ty,g,ho,ht,hT,hw,hi⟩:=h;exact⟨tape,w,T,W,i,nk,na,nx,ny,rec,laid,ty,g,by rw[k p (ar g) (.inl ho)];exact ho,dy.relabel ht λi hi hh=>by rw[k i hi (.inr (.inl hh))];exact hh,hT,dy.relabel hw λi hi hh=>by rw[k i hi (.inr (.inr hh))];exact hh,hi⟩
abbrev M5 (r:eO)(s:Value):List Value:=[cv r.ET,.bool r.found,cv r.key,cv r.value,cv r.n,s]
theorem TW (h:J K p m H)(hM:m≤2147483648)(op:ki)(bud:Int):aF (run G) 128 [pv p,jw op,cv bud] H (adk K p m):=by
 refine Ev.up (t:=λk=>W4 (run G k) k (pv p) (jw op) (cv bud) H) ?_ λk=>RR ..
 obtain⟨hK,b,hr,hk⟩:=id h;obtain⟨i0,e0⟩: ∃i,i=H.length:=⟨_,rfl⟩;obtain⟨i1,e1⟩: ∃i,i=H.length+1:=⟨_,rfl⟩;obtain⟨t,Zk,htf⟩:=gH b H.length;have ht:FA p t (t-1) (t-2):=⟨⟨by omega,by omega,by omega⟩,⟨by omega,by omega,by omega⟩,⟨by omega,by omega,by omega⟩,by omega,by omega,by omega⟩
 let KQ:aa→aj→Prop:=λH' o=>Fr H b H' o [t,t-1,t-2,(p:Int)]∧Cl i0 (n6 op) 39 H' o∧Cl i1 (rc bS) 47 H' o
 have hKQ:bL [(p:Int),t,t-1,t-2] KQ:=(bL.base (by simp)).and ((show bL _ _ from λH o H' o' a f=>a.fr f (by simp;omega)).and λH o H' o' a f=>a.fr f (by simp;omega))
 have Qo:bL [(p:Int)] KQ:=hKQ.of (by simp)
 obtain⟨H1,fY⟩: ∃z,z=H.new ⟨n6 op,39,1,false⟩:=⟨_,rfl⟩;have l1:H1.length=H.length+1:=by rw[fY,cC]
 obtain⟨H2,iB⟩: ∃z,z=H1.new ⟨rc bS,47,1,false⟩:=⟨_,rfl⟩;have fH:J (λH' o=>Fr H b H' o [t,t-1,t-2,(p:Int)]∧Cl i0 (n6 op) 39 H' o) p m H1:=by
  rw[fY];have Qf:J (λH' o=>Fr H b H' o [t,t-1,t-2,(p:Int)]) p m H:=⟨bL.base (by simp),b,hr,Fr.refl _ _ _⟩
  refine Qf.nG _ _ 1 ((bL.base (by simp)).and λH o H' o' a f=>a.fr f (by simp)) λo hk f=>⟨hk.new _ _,?_⟩
  rw[e0];exact Cl.made
 have fI:J KQ p m H2:=by
  rw[iB];refine fH.nG _ _ 1 Qo λo hk f=>⟨hk.1.new _ _,hk.2.new,?_⟩
  rw[e1, ←l1];exact Cl.made
 have bx:=Dd op H;rw[←e0, ←fY] at bx;have n1:aS H1 47 1 [cv 0,.bool false,cv 0,cv 0,cv 0,aA]=(pv i1,H2):=by rw[iB,e1, ←l1];rfl
 have n7: ∀{m':Nat} {H':aa},J KQ p m' H'→aq (pv i0) H'=some (cv op.kind)∧aq (.pointer (some ⟨i0,1,none⟩)) H'=some (cv op.key)∧df 3 (pv i0) H'=some (jw op):=λhj=>by
  obtain⟨_,o,_,_,g,_⟩:=hj;exact⟨an i0 0 _ g.1,an i0 1 _ g.1,Ri g.1⟩
 let KE:eO→Value→aa→aj→Prop:=λr s H' o=>Fr H b H' o [t,t-1,t-2,(p:Int)]∧Cl i1 (M5 r s) 47 H' o∧gU H' o (t-1) s r.list
 have hKE: ∀r s,bL [(p:Int)] (KE r s):=λr s=>(bL.base (by simp)).and ((show bL _ _ from λH o H' o' a f=>a.fr f (by simp)).and λH o H' o' a f=>a.fr f (by simp;omega))
 have fin: ∀{m':Nat} {H':aa} (r:eO) (s:Value),(∃a m c,s= .slice a m c)→J (λH o=>KQ H o∧gU H o (t-1) s r.list) p m' H'→∃H3,bD 6 (pv i1) (gu r s) H'=some (undef,H3)∧df 6 (pv i1) H3=some (gu r s)∧J (KE r s) p m' H3:=λ{m' H'} r s uG hj=>by
  obtain⟨a,mm,cc,es⟩:=uG;obtain⟨_,o',rI,kE,Wg⟩:=hj;have f:Fr H' o' (H'.put i1 ⟨M5 r s,47,1,false⟩) o' [-9]:=(Fr.refl _ o' [-9]).put λ_=>by simp[kE.2.2.2]
  exact⟨_,uc i1 r es _ kE.2.2.1 rfl,pL _ _ _ (aH kE.2.2.1),hKE r s,o',rI.fr f (by simp) (by simp) (by simp),kE.1.put λhh=>by omega,kE.2.2.self,Wg.fr f (by simp;omega)⟩
 have out: ∀{m':Nat} {H':aa} {r:eO} {s:Value},J (KE r s) p m' H'→J (λH o=>K H o∧gU H o (-41) s r.list) p m' H':=λ{m' H' r s} hj=>by
  obtain⟨_,o,u4,hf,hc,hs⟩:=hj;have f3:Fr H b H' o [(p:Int)]:=iL (iL (iL hf λi hi=>by have:=htf i hi;omega) λi hi=>by have:=htf i hi;omega) λi hi=>by have:=htf i hi;omega
  let o':aj:=λi=>if o i=t-1 then -41 else o i
  refine⟨hK.and (bL.kC (by simp)),o',u4.relabel λi hi hh=>?_,hK _ _ _ _ hk ⟨f3.slot,λi hi=>?_,f3.size⟩,hs.relabel λi hi hh=>?_⟩
  ·show(if o i=t-1 then(-41:Int) else o i)=o i
   rw[if_neg (by omega)]
  ·show(if o i=t-1 then(-41:Int) else o i)=b i
   have:=f3.own i hi
   have:=htf i hi
   rw[if_neg (by omega)];exact f3.own i hi
  ·show(if o i=t-1 then(-41:Int) else o i)= -41
   rw[if_pos hh]
 have Zs: ∀{m':Nat} {H':aa} (r:eO),r.list=[]→J KQ p m' H'→∃H3,bD 6 (pv i1) (gu r aA) H'=some (undef,H3)∧df 6 (pv i1) H3=some (gu r aA)∧J (KE r aA) p m' H3:=λr hl hj=>fin r aA ⟨_,_,_,rfl⟩ (hj.mono (Qo.and (bL.kC (by simp;omega))) λo a=>⟨a,by rw[hl];exact .nil⟩)
 obtain⟨a0,a1,a2⟩:=n7 fI;simp -implicitDefEqProofs only[W4,bx,n1,a0,Nat.add_zero,sS,Nat.reduceAdd];refine Ev.eql (λhq=>?_) (λhq=>?_)<;>try simp -implicitDefEqProofs only[a1,sS,Nat.reduceAdd]
 ·refine Ev.adg (Zo fI _) λz zb Hz mz hj hm=>?_
  obtain⟨b0,b1,b2⟩:=n7 hj;cases zb<;>simp -implicitDefEqProofs only[b1,sS,Nat.reduceAdd]
  ·obtain⟨H3,c1,c2,gE⟩:=Zs bS rfl hj;simp -implicitDefEqProofs only[De,c1,c2,sS,Nat.reduceAdd];exact Ev.ret ⟨_,_,rfl,by simp[bS],_,out gE,by omega⟩
  ·obtain⟨H3,c1,c2,gE⟩:=Zs (MM (op.key,z,true)) (ud _) hj;simp -implicitDefEqProofs only[zx,Zh,c1,c2,sS,Nat.reduceAdd];exact Ev.ret ⟨_,_,rfl,by rw[ud];simp,_,out gE,by omega⟩
 refine Ev.loop (k:=m) (λk vs Hx=>∃(i:Int) (aG x8 bE x7 dh aD cL fF:Value),J KQ p k Hx∧k≤m∧vs=[pv p,jw op,cv bud,pv i1,pv i0,aG,x8,bE,x7,cv i,dh,aD,cL,fF])
  (λr=>∃(m2:Nat) (aG x8 bE x7 x9 dh aD cL fF:Value),m2≤m∧r.2.1=[pv p,jw op,cv bud,pv i1,pv i0,aG,x8,bE,x7,x9,dh,aD,cL,fF]∧((r.1= .exit 0∧J KQ p m2 r.2.2)∨(r.1= .ret∧∃rr s,J (KE rr s) p m2 r.2.2∧rr.list.length≤m))) ⟨_,_,_,_,_,_,_,_,_,fI,Nat.le_refl _,rfl⟩ ?_ ?_
 ·rintro k vs Hx ⟨i,aG,x8,bE,x7,dh,aD,cL,fF,hj,hkm,rfl⟩;obtain⟨b0,b1,b2⟩:=n7 hj;simp -implicitDefEqProofs only[Ky,xm,sS,Nat.reduceAdd];refine Ev.lss (λhq=>?_) (λhq=>?_)<;>try simp -implicitDefEqProofs only[sS,Nat.reduceAdd]
  ·refine Ev.off hj (λhq0=>?_) (λhq0=>?_)<;>try simp -implicitDefEqProofs only[b2,sS,Nat.reduceAdd]
   ·exact Ev.ret (.inr ⟨by simp,_,_,_,_,_,_,_,_,_,_,hkm,rfl,.inl ⟨rfl,hj⟩⟩)
   refine Ev.call (TV ht ⟨by omega,by omega,by omega⟩ hKQ hj op) ?_
   rintro v H3 ⟨w,s,rfl,hj⟩
   try simp -implicitDefEqProofs only[sS,Nat.reduceAdd]
   refine Ev.gw (MZ ht hKQ (c:=m) hM (k+1) hj (by omega) (by simp;omega) (by simp;omega) _) λz lp ls m2 H4 hj Kg g1 g2=>?_
   have hjq:=hj.mono Qo λo a=>a.1
   try simp -implicitDefEqProofs only[sS,Nat.reduceAdd]
   refine Ev.off hj (λkE=>?_) (λkE=>?_)<;>try simp -implicitDefEqProofs only[sS,Nat.reduceAdd]
   ·exact Ev.ret (.inr ⟨by simp,_,_,_,_,_,_,_,_,_,_,(show m2≤m by omega),rfl,.inl ⟨rfl,hjq⟩⟩)
   obtain⟨xp,xs,TX⟩:=KW.ex hj ht hKQ;have ldx: ∀{m':Nat} {H':aa},J (KWx KQ t (t-1) (t-2) w s xp xs lp ls) p m' H'→aq (.pointer (some ⟨w,6,none⟩)) H'=some xs∧aq (.pointer (some ⟨w,5,none⟩)) H'=some xp∧df 3 (pv i0) H'=some (jw op):=λhj=>by
    obtain⟨_,o,_,hx⟩:=hj;obtain⟨ty,g⟩:=hx.g;exact⟨an w 6 _ g,an w 5 _ g,Ri hx.k.2.1.1⟩
   obtain⟨c0,c1,c2⟩:=ldx TX;simp -implicitDefEqProofs only[c0,sS,Nat.reduceAdd];refine Ev.bool (TT TX (λH o a=>a.ss.r) (by omega) (by omega)) λz Hz mz Nr hmz=>?_
   have adl:=Nr.mono Qo λo a=>a.k
   obtain⟨d0,d1,d2⟩:=ldx Nr;cases z<;>simp -implicitDefEqProofs only[d1,d2,sS,Nat.reduceAdd]
   ·exact Ev.ret (.inl ⟨rfl,mz,by omega,_,_,_,_,_,_,_,_,_,adl,by omega,rfl⟩)
   ·refine Ev.call (Qn Nr (λH o a=>a.sp.r) (by omega) op) ?_
    rintro v H5 ⟨r,s',rfl,lJ,UN⟩;have aai: ∃a m c,s'= .slice a m c:=by
     rcases UN with⟨rfl,_⟩|⟨rfl,_⟩
     ·obtain⟨_,o,_,hx⟩:=TX;obtain⟨a,c,e⟩:=hx.sp.r.isSlice;exact⟨a,_,c,e⟩
     ·exact⟨_,_,_,rfl⟩
    have n9:J (λH o=>KQ H o∧gU H o (t-1) s' r.list) p mz H5:=lJ.mono (Qo.and (bL.kC (by simp;omega))) λo a=>⟨a.k,by
     rcases UN with⟨rfl,e⟩|⟨rfl,e⟩
     ·rw[e];exact a.sp.r
     ·rw[e];exact .nil⟩
    obtain⟨H6,g5,g6,JA⟩:=fin r s' aai n9;simp -implicitDefEqProofs only[g5,sS,Nat.reduceAdd];refine Ev.ret (.inr ⟨by simp,_,_,_,_,_,_,_,_,_,_,(show mz≤m by omega),rfl,.inr ⟨rfl,r,s',JA,?_⟩⟩)
    rcases UN with⟨_,e⟩|⟨_,e⟩
    ·rw[e];omega
    ·rw[e];simp
  ·exact Ev.ret (.inr ⟨by simp,_,_,_,_,_,_,_,_,_,_,hkm,rfl,.inl ⟨rfl,hj⟩⟩)
 ·rintro e vs Hx ⟨m2,aG,x8,bE,x7,x9,dh,aD,cL,fF,hm,rfl,he⟩;rcases he with⟨he,hj⟩|⟨he,rr,s,hj,hl⟩
  ·simp only at he;subst he;obtain⟨H6,g5,g6,lJ⟩:=Zs (lK 9) rfl hj;simp -implicitDefEqProofs only[Kx,xk,MN,g5,g6,sS,Nat.reduceAdd];exact Ev.ret ⟨_,_,rfl,by simp[lK],_,out lJ,hm⟩
  ·simp only at he;subst he;obtain⟨_,o1,_,_,hc,_⟩:=id hj;have VD:=pL i1 rr (s:=s) Hx hc.1;show Ev (λ_=>af (pS (jf Tryz.prog 47 (pv i1) Hx) Hx) λv _=>some (v,Hx)) _
   simp -implicitDefEqProofs only[Zm,VD,sS,Nat.reduceAdd];exact Ev.ret ⟨_,_,rfl,hl,_,out hj,hm⟩
end
section
variable {G:ae} {H H':aa} {o o':aj} {p m c:Nat} {K K':aa→aj→Prop} {t q:Int} {x:Value} {l:PL} {n i:Nat} {cs:List Value} {T:TypeId}
abbrev ac (bud:Int)(op:ki):List Value:=[cv 0,cv bud,cv 0,cv 0,cv 0,cv 0,cv 0,.bool false,cv 0,.bool false,aA,aA,aA,aA,aA,cv 0,cv 0,cv 0,cv op.kind,cv op.key,cv op.value]
abbrev oc (r:eO)(s:Value):List Value:=[cv 0,.bool false,cv 0,cv 0,cv 0,aA,aA,cv r.ET,.bool r.found,cv r.key,cv r.value,cv r.n,s]
abbrev fc (proc bud:Int)(op:ki)(tape:Value)(done:Bool)(r:eO)(s:Value)(rec laid:Int):List Value:=cv proc::(ac bud op++tape:: .bool done::(oc r s++[cv rec,cv laid]))
theorem JD:aE Tryz.prog 49 []=some (.agg (oc bS aA).toArray):=by kernel_rfl
theorem uP (i:Nat)(r:eO){s:Value}{a:Option Addr}{k c:Nat}(es:s= .slice a k c)(r0:eO)(s0:Value){T:TypeId}(H:aa)(h:H.get i=some ⟨oc r0 s0,T,1,false⟩):bD 13 (pv i) (.agg (oc r s).toArray) H=some (undef,H.put i ⟨oc r s,T,1,false⟩):=by
 subst es;simp[bD,bZ,h,Value.cells,known,aC,dz]
theorem zD (i:Nat)(r:eO)(s:Value){T:TypeId}(H:aa)(h:H.get i=some ⟨oc r s,T,1,false⟩):df 13 (pv i) H=some (.agg (oc r s).toArray):=by
 simp[df,aQ,h]
theorem Qp (i:Nat)(r:eO){s:Value}{a:Option Addr}{k c:Nat}(es:s= .slice a k c)(r0:eO)(s0:Value){T:TypeId}(H:aa)(h:H.get i=some ⟨oc r0 s0,T,1,false⟩):bD 6 (.pointer (some ⟨i,7,none⟩)) (gu r s) H=some (undef,H.put i ⟨oc r s,T,1,false⟩):=by
 subst es;simp[bD,bZ,h,Value.cells,known,aC,dz]
theorem Qq (i:Nat)(bud:Int)(op:ki)(b0:Int)(op0:ki){T:TypeId}(H:aa)(h:H.get i=some ⟨ac b0 op0,T,1,false⟩):bD 21 (pv i) (.agg (ac bud op).toArray) H=some (undef,H.put i ⟨ac bud op,T,1,false⟩):=by
 simp[bD,bZ,h,Value.cells,known,aC,dz]
theorem Hq (f:Nat)(proc bud:Int)(op:ki)(tape:Value)(done:Bool)(r:eO)(s:Value)(rec laid:Int){T:TypeId}(H:aa)(h:H.get f=some ⟨fc proc bud op tape done r s rec laid,T,1,false⟩):df 21 (.pointer (some ⟨f,1,none⟩)) H=some (.agg (ac bud op).toArray):=by
 simp[df,aQ,h]
theorem Qr (i:Nat)(bud:Int)(op:ki){T:TypeId}(H:aa)(h:H.get i=some ⟨ac bud op,T,1,false⟩):df 3 (.pointer (some ⟨i,18,none⟩)) H=some (jw op):=by
 simp[df,aQ,h]
structure KH (B:aa) (b:aj) (p i0 i1 i2:Nat) (bud:Int) (op:ki) (r2:eO) (s2:Value) (H:aa) (o:aj):Prop where
 fr:Fr B b H o [(p:Int)]
 k0:Cl i0 (oc bS aA) 49 H o
 k1:Cl i1 (ac bud op) 41 H o
 k2:Cl i2 (oc r2 s2) 49 H o
 sl:gU H o (-41) s2 r2.list
theorem KH.fe {B:aa}{b:aj}{i0 i1 i2:Nat}{bud:Int}{op:ki}{r2:eO}{s2:Value}:bL [(p:Int)] (KH B b p i0 i1 i2 bud op r2 s2):=λH o H' o' h f=>⟨h.fr.tr f,h.k0.fr f (by simp),h.k1.fr f (by simp),h.k2.fr f (by simp),h.sl.fr f (by simp)⟩
abbrev KB (B:aa)(b:aj)(p:Nat)(s:Value)(l:PL):aa→aj→Prop:=λH o=>Fr B b H o [(p:Int)]∧gU H o (-41) s l
theorem Zt {b:aj}{f:Nat}{proc bud:Int}{op:ki}{tape:Value}{done:Bool}{r0:eO}{s0:Value}{rec laid:Int}{T:TypeId}(hr:At H b p m)(hM:m≤2147483648)(hf:H.get f=some ⟨fc proc bud op tape done r0 s0 rec laid,T,1,false⟩)(Hr:b f≠p)(hp:proc=25):
  aF (run G) 97 [pv f,pv p] H λv H'=>∃r s m',v= .agg (oc r s).toArray∧r.list.length≤m∧J (KB H b p s r.list) p m' H':=by
 refine Ev.up (t:=λk=>F97 (run G k) k (pv f) (pv p) H) ?_ λk=>Pn ..
 obtain⟨i0,e0⟩: ∃i,i=H.length:=⟨_,rfl⟩;obtain⟨i1,e1⟩: ∃i,i=H.length+1:=⟨_,rfl⟩;obtain⟨i2,e2⟩: ∃i,i=H.length+2:=⟨_,rfl⟩;have Fy:=ar hf;obtain⟨H1,fY⟩: ∃z,z=H.new ⟨oc bS aA,49,1,false⟩:=⟨_,rfl⟩;have l1:H1.length=H.length+1:=by rw[fY,cC]
 obtain⟨H2,iB⟩: ∃z,z=H1.new ⟨ac 0 ⟨0,0,0⟩,41,1,false⟩:=⟨_,rfl⟩;have l2:H2.length=H.length+2:=by rw[iB,cC,l1]
 have g2:H2.get i1=some ⟨ac 0 ⟨0,0,0⟩,41,1,false⟩:=by rw[iB,e1, ←l1];exact aK
 obtain⟨H3,mC⟩: ∃z,z=H2.put i1 ⟨ac bud op,41,1,false⟩:=⟨_,rfl⟩;have l3:H3.length=H.length+2:=by rw[mC,iK,l2]
 obtain⟨H4,pM⟩: ∃z,z=H3.new ⟨oc bS aA,49,1,false⟩:=⟨_,rfl⟩;have fH:J (λH' o=>Fr H b H' o [(p:Int)]∧Cl i0 (oc bS aA) 49 H' o) p m H1:=by
  rw[fY];have Qf:J (λH' o=>Fr H b H' o [(p:Int)]) p m H:=⟨bL.base (by simp),b,hr,Fr.refl _ _ _⟩
  refine Qf.nG _ _ 1 ((bL.base (by simp)).and λH o H' o' a f=>a.fr f (by simp)) λo hk f=>⟨hk.new _ _,?_⟩
  rw[e0];exact Cl.made
 have fI:J (λH' o=>(Fr H b H' o [(p:Int)]∧Cl i0 (oc bS aA) 49 H' o)∧Cl i1 (ac 0 ⟨0,0,0⟩) 41 H' o) p m H2:=by
  rw[iB];refine fH.nG _ _ 1 (fH.1.and λH o H' o' a f=>a.fr f (by simp)) λo hk f=>⟨⟨hk.1.new _ _,hk.2.new⟩,?_⟩
  rw[e1, ←l1];exact Cl.made
 have gE:J (λH' o=>(Fr H b H' o [(p:Int)]∧Cl i0 (oc bS aA) 49 H' o)∧Cl i1 (ac bud op) 41 H' o) p m H3:=by
  rw[mC];refine fI.uf (λo hg=>hg.2) (fH.1.and λH o H' o' a f=>a.fr f (by simp)) λo hg=>⟨⟨hg.1.1.put λhh=>by omega,hg.1.2.put (by omega)⟩,hg.2.self⟩
 have jc:J (KH H b p i0 i1 i2 bud op bS aA) p m H4:=by
  rw[pM];refine gE.nG _ _ 1 KH.fe λo hk f=>⟨hk.1.1.new _ _,hk.1.2.new,hk.2.new,?_,.nil⟩
  rw[e2, ←l3];exact Cl.made
 have n0:aS H 49 1 [cv 0,.bool false,cv 0,cv 0,cv 0,aA,aA,cv 0,.bool false,cv 0,cv 0,cv 0,aA]=(pv i0,H1):=by rw[fY,e0];rfl
 have n1:aS H1 41 1 [cv 0,cv 0,cv 0,cv 0,cv 0,cv 0,cv 0,.bool false,cv 0,.bool false,aA,aA,aA,aA,aA,cv 0,cv 0,cv 0,cv 0,cv 0,cv 0]=(pv i1,H2):=by rw[iB,e1, ←l1];rfl
 have n2:aS H3 49 1 [cv 0,.bool false,cv 0,cv 0,cv 0,aA,aA,cv 0,.bool false,cv 0,cv 0,cv 0,aA]=(pv i2,H4):=by rw[pM,e2, ←l3];rfl
 have kW: ∀{H':aa} {o':aj},Fr H b H' o' [(p:Int)]→H'.get f=some ⟨fc proc bud op tape done r0 s0 rec laid,T,1,false⟩:=λfr=>by rw[fr.same f Fy (by simpa using Hr)];exact hf
 have gf1:H1.get f=some ⟨fc proc bud op tape done r0 s0 rec laid,T,1,false⟩:=by obtain⟨_,o,_,hk⟩:=fH;exact kW hk.1
 have L1:=Hq f proc bud op tape done r0 s0 rec laid H1 gf1;have S1:=Qq i1 bud op 0 ⟨0,0,0⟩ H2 g2;rw[←mC] at S1;obtain⟨_,o4,_,MS⟩:=id jc;have S2:=uP i2 bS (s:=aA) rfl bS aA H4 MS.k2.1;have Zu:H4.put i2 ⟨oc bS aA,49,1,false⟩=H4:=by
  have hl:=ar MS.k2.1;have hg:=MS.k2.1;unfold aa.put;apply List.ext_getElem?;intro k;by_cases e:k=i2
  ·subst e;rw[List.getElem?_set_self hl];unfold aa.get at hg;cases hx:H4[k]? with
   |none=>rw[hx] at hg;cases hg
   |some z=>rw[hx] at hg;cases z<;>simp_all
  ·rw[List.getElem?_set_ne (Ne.symm e)]
 rw[Zu] at S2;have Lp:aq (pv f) H4=some (cv proc):=an f 0 H4 (kW MS.fr);have n7: ∀{r2:eO} {s2:Value} {m':Nat} {H':aa},J (KH H b p i0 i1 i2 bud op r2 s2) p m' H'→aq (.pointer (some ⟨i1,18,none⟩)) H'=some (cv op.kind)∧aq (.pointer (some ⟨i1,1,none⟩)) H'=some (cv bud)∧df 3 (.pointer (some ⟨i1,18,none⟩)) H'=some (jw op):=λhj=>by
  obtain⟨_,o,_,hg⟩:=hj;exact⟨an i1 18 _ hg.k1.1,an i1 1 _ hg.k1.1,Qr _ _ _ _ hg.k1.1⟩
 have set: ∀{m':Nat} {H':aa} (r:eO) (s:Value),J (λH o=>KH H4 o4 p i0 i1 i2 bud op bS aA H o) p m' H'→True:=λ_ _ _=>trivial
 have fin: ∀{r2:eO} {s2:Value} {m':Nat} {H':aa} (r:eO) (s:Value),(∃a k c,s= .slice a k c)→J (λH' o=>KH H b p i0 i1 i2 bud op r2 s2 H' o∧gU H' o (-41) s r.list) p m' H'→∃H3,bD 6 (.pointer (some ⟨i2,7,none⟩)) (gu r s) H'=some (undef,H3)∧J (KH H b p i0 i1 i2 bud op r s) p m' H3:=λ{r2 s2 m' H'} r s uG hj=>by
  obtain⟨a,k,c,es⟩:=uG;obtain⟨_,o,u4,hg,hs⟩:=id hj;refine⟨_,Qp i2 r es r2 s2 H' hg.k2.1,hj.uf (λo hg=>hg.1.k2) KH.fe λo hg=>⟨hg.1.fr.put λhh=>by omega,hg.1.k0.put (by omega),hg.1.k1.put (by omega),hg.1.k2.self,hg.2.fr ((Fr.refl H' o [-9]).put λ_=>by simp[hg.1.k2.2]) (by simp)⟩⟩
 have J0: ∀{r2:eO} {s2:Value} {m':Nat} {H':aa} (aR aX x5 bN cr cq dL fF fR mL:Value),(∃a k c,s2= .slice a k c)→r2.list.length≤m→J (KH H b p i0 i1 i2 bud op r2 s2) p m' H'→Ev (λk=>kn (run G k) k [pv f,pv p,pv i0,aR,aX,x5,pv i2,bN,cr,cq,dL,fF,fR,mL] H') λr=>∃rr s m',r.1= .agg (oc rr s).toArray∧rr.list.length≤m∧J (KB H b p s rr.list) p m' r.2:=by
  intro r2 s2 m' H' aR aX x5 bN cr cq dL fF fR mL uG hl hj;obtain⟨a,k,c,es⟩:=uG;obtain⟨_,o,u4,hg⟩:=id hj;have A1:=zD i2 r2 s2 H' hg.k2.1;have A2:=uP i0 r2 es bS aA H' hg.k0.1;have A3:=zD i0 r2 s2 (T:=49) _ (aH (c:=⟨oc r2 s2,49,1,false⟩) hg.k0.1);simp -implicitDefEqProofs only[EE,vP,A1,A2,A3,sS,Nat.reduceAdd];refine Ev.ret ⟨r2,s2,m',rfl,hl,hj.uf (λo hg=>hg.k0) ((bL.base (by simp)).and (bL.kC (by simp))) λo hg=>⟨hg.fr.put λhh=>by omega,hg.sl.fr ((Fr.refl H' o [-9]).put λ_=>by simp[hg.k0.2]) (by simp)⟩⟩
 have adm: ∀{r2:eO} {s2:Value} {m':Nat} {H':aa} (r:eO),r.list=[]→J (KH H b p i0 i1 i2 bud op r2 s2) p m' H'→J (λH' o=>KH H b p i0 i1 i2 bud op r2 s2 H' o∧gU H' o (-41) aA r.list) p m' H':=λr hl hj=>hj.mono (KH.fe.and (bL.kC (by simp))) λo a=>⟨a,by rw[hl];exact .nil⟩
 have err: ∀(w:Int),∃H3,bD 6 (.pointer (some ⟨i2,7,none⟩)) (gu (lK w) aA) H4=some (undef,H3)∧J (KH H b p i0 i1 i2 bud op (lK w) aA) p m H3:=λw=>fin (lK w) aA ⟨_,_,_,rfl⟩ (adm _ rfl jc)
 obtain⟨a0,a1,a2⟩:=n7 jc;simp -implicitDefEqProofs only[F97,n0,L1,n1,S1,JD,n2,S2,Lp,Nat.add_zero,sS,Nat.reduceAdd];refine Ev.eql (λhq=>?_) (λhq=>?_)<;>try simp -implicitDefEqProofs only[sS,Nat.reduceAdd]
 ·omega
 refine Ev.eql (λhq=>?_) (λhq=>?_)<;>try simp -implicitDefEqProofs only[sS,Nat.reduceAdd]
 ·omega
 refine Ev.eql (λhq=>?_) (λhq=>?_)<;>try simp -implicitDefEqProofs only[sS,Nat.reduceAdd]
 ·omega
 refine Ev.eql (λhq=>?_) (λhq=>?_)<;>try simp -implicitDefEqProofs only[a0,Nat.add_zero,sS,Nat.reduceAdd]
 ·omega
 refine Ev.eql (λhq=>?_) (λhq=>?_)<;>try simp -implicitDefEqProofs only[a0,Nat.add_zero,sS,Nat.reduceAdd]
 ·have hqu:Ev (λk=>af (run G k 128 [pv p,jw op,cv bud] H4) λy Hy=>af (bD 6 (.pointer (some ⟨i2,7,none⟩)) y Hy) λ_ Hy=>kn (run G k) k [pv f,pv p,pv i0,cv proc,.bool false,pv i1,pv i2,.bool false,.bool false,.bool false,undef,.bool true,.bool false,.bool false] Hy) λr=>∃rr s m',r.1= .agg (oc rr s).toArray∧rr.list.length≤m∧J (KB H b p s rr.list) p m' r.2:=by
   refine Ev.call (TW jc hM op bud) ?_;rintro v H5 ⟨r,s,rfl,hl,m',hj,hm⟩;have uG: ∃a k c,s= .slice a k c:=by
    obtain⟨_,o,_,_,hs⟩:=hj;obtain⟨a,c,e⟩:=hs.isSlice;exact⟨a,_,c,e⟩
   obtain⟨H6,g6,n9⟩:=fin r s uG hj;simp -implicitDefEqProofs only[g6,sS,Nat.reduceAdd];exact J0 _ _ _ _ _ _ _ _ _ _ uG hl n9
  have er5: ∀w,Ev (λk=>af (bD 6 (.pointer (some ⟨i2,7,none⟩)) (gu (lK w) aA) H4) λ_ Hy=>some (undef,Hy)) λr=>J (KH H b p i0 i1 i2 bud op (lK w) aA) p m r.2:=λw=>by
   obtain⟨H6,g6,n9⟩:=err w;simp -implicitDefEqProofs only[g6,sS,Nat.reduceAdd];exact Ev.ret n9
  refine Ev.lss (λhq=>?_) (λhq=>?_)<;>try simp -implicitDefEqProofs only[a0,Nat.add_zero,sS,Nat.reduceAdd]
  ·obtain⟨H6,g6,n9⟩:=err 5;simp -implicitDefEqProofs only[MN,g6,sS,Nat.reduceAdd];exact J0 _ _ _ _ _ _ _ _ _ _ ⟨_,_,_,rfl⟩ (by simp[lK]) n9
  refine Ev.gtr (λhq=>?_) (λhq=>?_)<;>try simp -implicitDefEqProofs only[a1,sS,Nat.reduceAdd]
  ·obtain⟨H6,g6,n9⟩:=err 5;simp -implicitDefEqProofs only[MN,g6,sS,Nat.reduceAdd];exact J0 _ _ _ _ _ _ _ _ _ _ ⟨_,_,_,rfl⟩ (by simp[lK]) n9
  refine Ev.lss (λhq=>?_) (λhq=>?_)<;>try simp -implicitDefEqProofs only[a1,sS,Nat.reduceAdd]
  ·obtain⟨H6,g6,n9⟩:=err 2;simp -implicitDefEqProofs only[MN,g6,sS,Nat.reduceAdd];exact J0 _ _ _ _ _ _ _ _ _ _ ⟨_,_,_,rfl⟩ (by simp[lK]) n9
  refine Ev.gtr (λhq=>?_) (λhq=>?_)<;>try simp -implicitDefEqProofs only[a2,a1,sS,Nat.reduceAdd]
  ·obtain⟨H6,g6,n9⟩:=err 2;simp -implicitDefEqProofs only[MN,g6,sS,Nat.reduceAdd];exact J0 _ _ _ _ _ _ _ _ _ _ ⟨_,_,_,rfl⟩ (by simp[lK]) n9
  ·exact hqu
 ·omega
end
end Go.Proofs.YtgfgglponbmgmaaGreat.Fun.R
end
