/- Texts of the proof of peekPlays_holds, put together by a small program of ours (names shortened, spaces taken out). No condition beyond the given statement. -/
import Derived.Test.YtgfgglponbmgmaaGreatPKP11
import Derived.Test.YtgfgglponbmgmaaGreatPKP15
import Derived.Test.YtgfgglponbmgmaaGreatPKP30
import Derived.Test.YtgfgglponbmgmaaGreatPKP16
set_option linter.unusedVariables false
set_option linter.unusedSimpArgs false
set_option linter.unnecessarySimpa false
noncomputable section
section
namespace Go.Proofs.YtgfgglponbmgmaaGreat.Fun.R
open Go Go.RowKit Go.Proofs.YtgfgglponbmgmaaGreatA.Am
set_option maxRecDepth 10000
section
variable {G:ae} {H H':aa} {o o':aj} {p m c:Nat} {K K':aa→aj→Prop} {t t1 t2 q:Int} {x:Value} {l lp ls:PL} {n i:Nat} {cs:List Value} {T:TypeId}
theorem KW.mono {w:Nat}{s:WS}(h:J (KW K t t1 t2 w s lp ls) p m H)(ht:Fc p t t1 t2)(SN:bK [(p:Int),t,t1,t2] K')(k: ∀H o,K H o→K' H o):J (KW K' t t1 t2 w s lp ls) p m H:=h.mono (KW.eZ ht SN) λo a=>⟨k _ _ a.1,a.2⟩
structure KWx (K:aa→aj→Prop) (t t1 t2:Int) (w:Nat) (s:WS) (xp xs:Value) (lp ls:PL) (H:aa) (o:aj):Prop where
 k:K H o
 g: ∃ty,H.get w=some ⟨Mp s xp xs,ty,1,false⟩
 ow:o w=t
 sp:gY H o t1 xp lp
 ss:gY H o t2 xs ls
theorem KWx.eZ {w:Nat}{s:WS}{xp xs:Value}(ht:Fc p t t1 t2)(hK:bK [(p:Int),t,t1,t2] K):bK [(p:Int)] (KWx K t t1 t2 w s xp xs lp ls):=λH o H' o' h f=>by
 obtain⟨ty,g⟩:=h.g;exact⟨hK _ _ _ _ h.k (f.wk (by simp)),⟨ty,by rw[f.same w (ar g) (by rw[h.ow];simpa using ht.a.ne)];exact g⟩,by rw[f.own w (ar g)];exact h.ow,gY.fr h.sp f (by simpa using ht.a1.ne),gY.fr h.ss f (by simpa using ht.a2.ne)⟩
theorem KW.ex {w:Nat}{s:WS}(h:J (KW K t t1 t2 w s lp ls) p m H)(ht:Fc p t t1 t2)(hK:bK [(p:Int),t,t1,t2] K): ∃xp xs,J (KWx K t t1 t2 w s xp xs lp ls) p m H:=by
 obtain⟨_,o,hr,hk,xp,xs,ty,g,ho,h1,h2⟩:=h;exact⟨xp,xs,KWx.eZ ht hK,o,hr,hk,⟨ty,g⟩,ho,h1,h2⟩
theorem Ym:aE Tryz.prog 34 [(0,cv (-9223372036854775808)),(1,cv 9223372036854775807),(3,cv 1),(4,.bool true)]=some (.agg #[cv (-9223372036854775808),cv 9223372036854775807,.bool false,cv 1,.bool true,aA,aA]):=by kernel_rfl
theorem SX (s:WS)(H:aa):dJ 34 (.agg #[cv s.lo,cv s.hi,.bool s.back,cv s.Pt,.bool s.values,aA,aA]) H=some (pv H.length,H.new ⟨Mp s aA aA,34,1,false⟩):=by
 simp[dJ,Value.cells,aD,aS]
theorem SY (ht:Fc p t t1 t2)(h9:t≠ -9∧t1≠ -9∧t2≠ -9)(hK:bK [(p:Int),t,t1,t2] K)(h:J K p m H)(op:kf):aF (run G) 157 [jr op] H λv H'=>∃w s,v=pv w∧J (KW K t t1 t2 w s [] []) p m H':=by
 refine Ev.up (t:=λk=>Wl (run G k) k (jr op) H) ?_ λk=>Rh ..
 obtain⟨i0,e0⟩: ∃i,i=H.length:=⟨_,rfl⟩;obtain⟨w,e1⟩: ∃i,i=H.length+1:=⟨_,rfl⟩;obtain⟨H1,ga⟩: ∃z,z=H.new ⟨n6 op,39,1,false⟩:=⟨_,rfl⟩;have l1:H1.length=H.length+1:=by rw[ga,cB]
 have MP:bK [(p:Int),t,t1,t2] λH o=>K H o∧Cl i0 (n6 op) 39 H o:=hK.and λH o H' o' a f=>a.fr f (by simp;omega)
 have fG:J (λH o=>K H o∧Cl i0 (n6 op) 39 H o) p m H1:=by
  rw[ga];refine h.nG _ _ 1 (MP.of (by simp)) λo hk f=>⟨hK _ _ _ _ hk (f.wk (by simp)),?_⟩
  rw[e0];exact Cl.made
 let s0:WS:=⟨-9223372036854775808,9223372036854775807,false,1,true⟩
 obtain⟨H2,iD⟩: ∃z,z=H1.new ⟨Mp s0 aA aA,34,1,false⟩:=⟨_,rfl⟩;have fM:J (KW (λH o=>K H o∧Cl i0 (n6 op) 39 H o) t t1 t2 w s0 [] []) p m H2:=by
  obtain⟨_,o,hr,hk⟩:=fG;have f:Fr H1 o H2 (o.up H1.length t) []:=by rw[iD];exact(Fr.refl H1 o []).new _ _
  refine⟨KW.eZ ht MP,_,hr.fr f (by simp) (by simp) (by simp),MP _ _ _ _ hk (f.wk (by simp)),aA,aA,34,?_,?_,.inl ⟨rfl,rfl⟩,.inl ⟨rfl,rfl⟩⟩
  ·rw[iD,e1, ←l1];exact aL
  ·rw[e1, ←l1];exact aP
 have bx:=C3 op H;rw[←e0, ←ga] at bx;have bw:=SX s0 H1;rw[←iD,l1, ←e1] at bw;have L0: ∀{s:WS} {m':Nat} {H':aa},J (KW (λH o=>K H o∧Cl i0 (n6 op) 39 H o) t t1 t2 w s [] []) p m' H'→aq (pv i0) H'=some (cv op.kind)∧aq (.pointer (some ⟨i0,1,none⟩)) H'=some (cv op.key)∧aq (.pointer (some ⟨i0,2,none⟩)) H'=some (cv op.value):=λhj=>by
  obtain⟨_,o,_,⟨_,g,_⟩,_⟩:=hj;exact⟨an i0 0 _ g,an i0 1 _ g,an i0 2 _ g⟩
 have J0: ∀{s:WS} {H':aa} (x2 x7 x8 aV bU ct:Value),J (KW (λH o=>K H o∧Cl i0 (n6 op) 39 H o) t t1 t2 w s [] []) p m H'→Ev (λk=>nm (run G k) k [jr op,x2,pv i0,x7,x8,pv w,aV,bU,ct] H') λr=>∃w s,r.1=pv w∧J (KW K t t1 t2 w s [] []) p m r.2:=by
  intro s H' x2 x7 x8 aV bU ct hj;simp -implicitDefEqProofs only[Ki,xz,sS,Nat.reduceAdd];exact Ev.ret ⟨w,s,rfl,KW.mono hj ht hK λH o a=>a.1⟩
 have J1: ∀{s:WS} {H':aa} (b:Bool) (x2 x7 x8 aV bU:Value),J (KW (λH o=>K H o∧Cl i0 (n6 op) 39 H o) t t1 t2 w s [] []) p m H'→Ev (λk=>vy (run G k) k [jr op,x2,pv i0,x7,x8,pv w,aV,bU,.bool b] H') λr=>∃w s,r.1=pv w∧J (KW K t t1 t2 w s [] []) p m r.2:=by
  intro s H' b x2 x7 x8 aV bU hj;simp -implicitDefEqProofs only[Kj,xA,sS,Nat.reduceAdd];cases b<;>simp -implicitDefEqProofs only[sS,Nat.reduceAdd]
  ·exact J0 _ _ _ _ _ _ hj
  ·obtain⟨a0,a1,a2⟩:=L0 hj;obtain⟨H3,g3,gF⟩:=KW.aa9 ht MP hj op.key;obtain⟨b0,b1,b2⟩:=L0 gF;obtain⟨H4,g4,jb⟩:=KW.aba ht MP gF op.value;obtain⟨H5,g5,lC⟩:=KW.ads ht MP jb 0;obtain⟨c0,c1,c2⟩:=L0 lC;simp -implicitDefEqProofs only[a1,Nat.add_zero,g3,b2,g4,g5,c0,sS,Nat.reduceAdd];refine Ev.eql (λhq=>?_) (λhq=>?_)<;>try simp -implicitDefEqProofs only[sS,Nat.reduceAdd]
   ·obtain⟨H6,g6,oa⟩:=KW.abd ht MP lC true;simp -implicitDefEqProofs only[g6,sS,Nat.reduceAdd];exact J0 _ _ _ _ _ _ oa
   ·obtain⟨H6,g6,oa⟩:=KW.abd ht MP lC false;simp -implicitDefEqProofs only[g6,sS,Nat.reduceAdd];exact J0 _ _ _ _ _ _ oa
 obtain⟨a0,a1,a2⟩:=L0 fM;simp -implicitDefEqProofs only[Wl,bx,Ym,Nat.add_zero,sS,Nat.reduceAdd];have bw':dJ 34 (.agg #[cv (-9223372036854775808),cv 9223372036854775807,.bool false,cv 1,.bool true,aA,aA]) H1=some (pv w,H2):=bw;simp -implicitDefEqProofs only[bw',a0,Nat.add_zero,sS,Nat.reduceAdd];refine Ev.eql (λhq=>?_) (λhq=>?_)<;>try simp -implicitDefEqProofs only[a1,sS,Nat.reduceAdd]
 ·obtain⟨H3,g3,gF⟩:=KW.aba ht MP fM op.key;obtain⟨H4,g4,jb⟩:=KW.abb ht MP gF true;simp -implicitDefEqProofs only[g3,g4,sS,Nat.reduceAdd];exact J0 _ _ _ _ _ _ jb
 refine Ev.eql (λhq=>?_) (λhq=>?_)<;>try simp -implicitDefEqProofs only[a1,sS,Nat.reduceAdd]
 ·obtain⟨H3,g3,gF⟩:=KW.aa9 ht MP fM op.key;simp -implicitDefEqProofs only[Nat.add_zero,g3,sS,Nat.reduceAdd];exact J0 _ _ _ _ _ _ gF
 refine Ev.eql (λhq=>?_) (λhq=>?_)<;>try simp -implicitDefEqProofs only[a1,sS,Nat.reduceAdd]
 ·obtain⟨H3,g3,gF⟩:=KW.abb ht MP fM true;simp -implicitDefEqProofs only[g3,sS,Nat.reduceAdd];exact J0 _ _ _ _ _ _ gF
 refine Ev.eql (λhq=>?_) (λhq=>?_)<;>try simp -implicitDefEqProofs only[a1,sS,Nat.reduceAdd]
 ·exact J1 true _ _ _ _ _ fM
 refine Ev.eql (λhq=>?_) (λhq=>?_)<;>try simp -implicitDefEqProofs only[a1,sS,Nat.reduceAdd]
 ·exact J1 true _ _ _ _ _ fM
 ·exact J1 false _ _ _ _ _ fM
theorem Pu (h:J K p m H)(hs: ∀H o,K H o→gT H o q x l)(hl:l.length≤2147483648)(op:kf):aF (run G) 158 [jr op,x] H λv H'=>∃r s,v=gu r s∧J K p m H'∧((s=x∧r.list=l)∨(s=aA∧r.list=[])):=by
 refine Ev.up (t:=λk=>Xl (run G k) k (jr op) x H) ?_ λk=>RU ..
 obtain⟨i0,e0⟩: ∃i,i=H.length:=⟨_,rfl⟩;obtain⟨i1,e1⟩: ∃i,i=H.length+1:=⟨_,rfl⟩;obtain⟨H1,ga⟩: ∃z,z=H.new ⟨n6 op,39,1,false⟩:=⟨_,rfl⟩;have l1:H1.length=H.length+1:=by rw[ga,cB]
 obtain⟨H2,iD⟩: ∃z,z=H1.new ⟨rc bQ,47,1,false⟩:=⟨_,rfl⟩;have fM:J K p m H2:=by rw[iD,ga];exact(h.new _).new _
 have bx:=C3 op H;rw[←e0, ←ga] at bx;have n1:aS H1 47 1 [cv 0,.bool false,cv 0,cv 0,cv 0,aA]=(pv i1,H2):=by rw[iD,e1, ←l1];rfl
 have g0:H2.get i0=some ⟨n6 op,39,1,false⟩:=by rw[iD,dh (by omega),ga,e0];exact aL
 have g1:H2.get i1=some ⟨rc bQ,47,1,false⟩:=by rw[iD,e1, ←l1];exact aL
 have a0:aq (pv i0) H2=some (cv op.kind):=an i0 0 _ g0;obtain⟨_,o2,_,hk2⟩:=id fM;have QH:=hs _ _ hk2;obtain⟨xa,xc,ex⟩:=QH.isSlice;have fin: ∀(r:eN) (s:Value),(∃a m c,s= .slice a m c)→∃H3,bE 6 (pv i1) (gu r s) H2=some (undef,H3)∧c8 6 (pv i1) H3=some (gu r s)∧J K p m H3:=λr s tU=>by
  obtain⟨a,mm,cc,es⟩:=tU;refine⟨_,tV i1 r es H2 g1 rfl,pO _ _ _ (aG g1),h.uz λo=>⟨(o.up H.length (-9)).up H1.length (-9),?_⟩⟩
  rw[iD,ga];have f1:Fr H o (H.new ⟨n6 op,39,1,false⟩) (o.up H.length (-9)) []:=(Fr.refl H o []).new _ _;have f2:=f1.new ⟨rc bQ,47,1,false⟩ (-9);exact f2.put λhh=>by omega
 simp -implicitDefEqProofs only[Xl,bx,n1,a0,Nat.add_zero,sS,Nat.reduceAdd];refine Ev.eql (λhq=>?_) (λhq=>?_)<;>try simp -implicitDefEqProofs only[sS,Nat.reduceAdd]
 ·obtain⟨H3,b1,b2,gF⟩:=fin ⟨0,false,0,0,0,l⟩ x ⟨_,_,_,ex⟩;have ab:aE Tryz.prog 47 [(4,x)]=some (gu ⟨0,false,0,0,0,l⟩ x):=by rw[ex];exact aa2 _ _ _
  simp -implicitDefEqProofs only[ab,b1,b2,sS,Nat.reduceAdd];exact Ev.ret ⟨_,_,rfl,gF,.inl ⟨rfl,rfl⟩⟩
 try simp -implicitDefEqProofs only[a0,sS,Nat.reduceAdd]
 refine Ev.eql (λhq=>?_) (λhq=>?_)<;>try simp -implicitDefEqProofs only[QH.len,sS,Nat.reduceAdd]
 ·obtain⟨H3,b1,b2,gF⟩:=fin ⟨0,false,0,0,l.length,[]⟩ aA ⟨_,_,_,rfl⟩;simp -implicitDefEqProofs only[adl,b1,b2,sS,Nat.reduceAdd];exact Ev.ret ⟨_,_,rfl,gF,.inr ⟨rfl,rfl⟩⟩
 refine Ev.eql (λhq=>?_) (λhq=>?_)<;>try simp -implicitDefEqProofs only[sS,Nat.reduceAdd]
 ·obtain⟨H3,b1,b2,gF⟩:=fin bQ aA ⟨_,_,_,rfl⟩;simp -implicitDefEqProofs only[C4,b1,b2,sS,Nat.reduceAdd];exact Ev.ret ⟨_,_,rfl,gF,.inr ⟨rfl,rfl⟩⟩
 ·obtain⟨i,off,b,e1,e2,e3,e4⟩:=QH.idx (j:=0) (by omega)
  obtain⟨e5,e6,e7⟩:=e4 H2 e2;simp only[Int.natCast_zero] at e1;obtain⟨H3,b1,b2,gF⟩:=fin (Mb ((l.getD 0 (0,0)).1,(l.getD 0 (0,0)).2,true)) aA ⟨_,_,_,rfl⟩;simp -implicitDefEqProofs only[e1,e7,Yc,b1,b2,sS,Nat.reduceAdd];exact Ev.ret ⟨_,_,rfl,gF,.inr ⟨rfl,tW _⟩⟩
abbrev adt (K:aa→aj→Prop)(p c:Nat):Value→aa→Prop:=λv H'=>∃r s,v=gu r s∧r.list.length≤c∧∃m',J (λH o=>K H o∧gT H o (-41) s r.list) p m' H'∧m'≤c
theorem du.relabel {x:Value}{l:List Int}(h:du H o q x l)(k: ∀i,i<H.length→o i=q→o' i=q):du H o' q x l:=⟨h.1,λb n c e dz=>⟨(h.2 b n c e dz).1,k _ (h.2 b n c e dz).1 (h.2 b n c e dz).2⟩⟩
theorem Ak.relabel (h:Ak H o p m)(k: ∀i,i<H.length→(o i=(p:Int)∨o i= -50∨o i= -51)→o' i=o i):Ak H o' p m:=by
 obtain⟨tape,w,T,W,i,nk,na,nx,ny,rec,laid,ty,g,ho,ht,hT,hw,hi⟩:=h;exact⟨tape,w,T,W,i,nk,na,nx,ny,rec,laid,ty,g,by rw[k p (ar g) (.inl ho)];exact ho,du.relabel ht λi hi hh=>by rw[k i hi (.inr (.inl hh))];exact hh,hT,du.relabel hw λi hi hh=>by rw[k i hi (.inr (.inr hh))];exact hh,hi⟩
abbrev Mr (r:eN)(s:Value):List Value:=[cv r.Ex,.bool r.found,cv r.key,cv r.value,cv r.n,s]
theorem SZ (h:J K p m H)(hM:m≤2147483648)(op:kf)(bud:Int):aF (run G) 128 [pv p,jr op,cv bud] H (adt K p m):=by
 refine Ev.up (t:=λk=>Wi (run G k) k (pv p) (jr op) (cv bud) H) ?_ λk=>Re ..
 obtain⟨hK,b,hr,hk⟩:=id h;obtain⟨i0,e0⟩: ∃i,i=H.length:=⟨_,rfl⟩;obtain⟨i1,e1⟩: ∃i,i=H.length+1:=⟨_,rfl⟩;obtain⟨t,Yf,htf⟩:=gI b H.length;have ht:Fc p t (t-1) (t-2):=⟨⟨by omega,by omega,by omega⟩,⟨by omega,by omega,by omega⟩,⟨by omega,by omega,by omega⟩,by omega,by omega,by omega⟩
 let KQ:aa→aj→Prop:=λH' o=>Fr H b H' o [t,t-1,t-2,(p:Int)]∧Cl i0 (n6 op) 39 H' o∧Cl i1 (rc bQ) 47 H' o
 have hKQ:bK [(p:Int),t,t-1,t-2] KQ:=(bK.base (by simp)).and ((show bK _ _ from λH o H' o' a f=>a.fr f (by simp;omega)).and λH o H' o' a f=>a.fr f (by simp;omega))
 have Pv:bK [(p:Int)] KQ:=hKQ.of (by simp)
 obtain⟨H1,ga⟩: ∃z,z=H.new ⟨n6 op,39,1,false⟩:=⟨_,rfl⟩;have l1:H1.length=H.length+1:=by rw[ga,cB]
 obtain⟨H2,iD⟩: ∃z,z=H1.new ⟨rc bQ,47,1,false⟩:=⟨_,rfl⟩;have fG:J (λH' o=>Fr H b H' o [t,t-1,t-2,(p:Int)]∧Cl i0 (n6 op) 39 H' o) p m H1:=by
  rw[ga];have Pl:J (λH' o=>Fr H b H' o [t,t-1,t-2,(p:Int)]) p m H:=⟨bK.base (by simp),b,hr,Fr.refl _ _ _⟩
  refine Pl.nG _ _ 1 ((bK.base (by simp)).and λH o H' o' a f=>a.fr f (by simp)) λo hk f=>⟨hk.new _ _,?_⟩
  rw[e0];exact Cl.made
 have fM:J KQ p m H2:=by
  rw[iD];refine fG.nG _ _ 1 Pv λo hk f=>⟨hk.1.new _ _,hk.2.new,?_⟩
  rw[e1, ←l1];exact Cl.made
 have bx:=C3 op H;rw[←e0, ←ga] at bx;have n1:aS H1 47 1 [cv 0,.bool false,cv 0,cv 0,cv 0,aA]=(pv i1,H2):=by rw[iD,e1, ←l1];rfl
 have n7: ∀{m':Nat} {H':aa},J KQ p m' H'→aq (pv i0) H'=some (cv op.kind)∧aq (.pointer (some ⟨i0,1,none⟩)) H'=some (cv op.key)∧c8 3 (pv i0) H'=some (jr op):=λhj=>by
  obtain⟨_,o,_,_,g,_⟩:=hj;exact⟨an i0 0 _ g.1,an i0 1 _ g.1,Qy g.1⟩
 let KE:eN→Value→aa→aj→Prop:=λr s H' o=>Fr H b H' o [t,t-1,t-2,(p:Int)]∧Cl i1 (Mr r s) 47 H' o∧gT H' o (t-1) s r.list
 have hKE: ∀r s,bK [(p:Int)] (KE r s):=λr s=>(bK.base (by simp)).and ((show bK _ _ from λH o H' o' a f=>a.fr f (by simp)).and λH o H' o' a f=>a.fr f (by simp;omega))
 have fin: ∀{m':Nat} {H':aa} (r:eN) (s:Value),(∃a m c,s= .slice a m c)→J (λH o=>KQ H o∧gT H o (t-1) s r.list) p m' H'→∃H3,bE 6 (pv i1) (gu r s) H'=some (undef,H3)∧c8 6 (pv i1) H3=some (gu r s)∧J (KE r s) p m' H3:=λ{m' H'} r s tU hj=>by
  obtain⟨a,mm,cc,es⟩:=tU;obtain⟨_,o',sK,kB,QH⟩:=hj;have f:Fr H' o' (H'.put i1 ⟨Mr r s,47,1,false⟩) o' [-9]:=(Fr.refl _ o' [-9]).put λ_=>by simp[kB.2.2.2]
  exact⟨_,tV i1 r es _ kB.2.2.1 rfl,pO _ _ _ (aG kB.2.2.1),hKE r s,o',sK.fr f (by simp) (by simp) (by simp),kB.1.put λhh=>by omega,kB.2.2.self,QH.fr f (by simp;omega)⟩
 have out: ∀{m':Nat} {H':aa} {r:eN} {s:Value},J (KE r s) p m' H'→J (λH o=>K H o∧gT H o (-41) s r.list) p m' H':=λ{m' H' r s} hj=>by
  obtain⟨_,o,uT,hf,hc,hs⟩:=hj;have f3:Fr H b H' o [(p:Int)]:=iM (iM (iM hf λi hi=>by have:=htf i hi;omega) λi hi=>by have:=htf i hi;omega) λi hi=>by have:=htf i hi;omega
  let o':aj:=λi=>if o i=t-1 then -41 else o i
  refine⟨hK.and (bK.ku (by simp)),o',uT.relabel λi hi hh=>?_,hK _ _ _ _ hk ⟨f3.slot,λi hi=>?_,f3.size⟩,hs.relabel λi hi hh=>?_⟩
  ·show(if o i=t-1 then(-41:Int) else o i)=o i
   rw[if_neg (by omega)]
  ·show(if o i=t-1 then(-41:Int) else o i)=b i
   have:=f3.own i hi
   have:=htf i hi
   rw[if_neg (by omega)];exact f3.own i hi
  ·show(if o i=t-1 then(-41:Int) else o i)= -41
   rw[if_pos hh]
 have Yn: ∀{m':Nat} {H':aa} (r:eN),r.list=[]→J KQ p m' H'→∃H3,bE 6 (pv i1) (gu r aA) H'=some (undef,H3)∧c8 6 (pv i1) H3=some (gu r aA)∧J (KE r aA) p m' H3:=λr hl hj=>fin r aA ⟨_,_,_,rfl⟩ (hj.mono (Pv.and (bK.ku (by simp;omega))) λo a=>⟨a,by rw[hl];exact .nil⟩)
 obtain⟨a0,a1,a2⟩:=n7 fM;simp -implicitDefEqProofs only[Wi,bx,n1,a0,Nat.add_zero,sS,Nat.reduceAdd];refine Ev.eql (λhq=>?_) (λhq=>?_)<;>try simp -implicitDefEqProofs only[a1,sS,Nat.reduceAdd]
 ·refine Ev.adp (Yj fM _) λz zb Hz mz hj hm=>?_
  obtain⟨b0,b1,b2⟩:=n7 hj;cases zb<;>simp -implicitDefEqProofs only[b1,sS,Nat.reduceAdd]
  ·obtain⟨H3,c1,c2,gF⟩:=Yn bQ rfl hj;simp -implicitDefEqProofs only[C4,c1,c2,sS,Nat.reduceAdd];exact Ev.ret ⟨_,_,rfl,by simp[bQ],_,out gF,by omega⟩
  ·obtain⟨H3,c1,c2,gF⟩:=Yn (Mb (op.key,z,true)) (tW _) hj;simp -implicitDefEqProofs only[zf,Yc,c1,c2,sS,Nat.reduceAdd];exact Ev.ret ⟨_,_,rfl,by rw[tW];simp,_,out gF,by omega⟩
 refine Ev.loop (k:=m) (λk vs Hx=>∃(i:Int) (aI x8 bA x7 dr aC cM eW:Value),J KQ p k Hx∧k≤m∧vs=[pv p,jr op,cv bud,pv i1,pv i0,aI,x8,bA,x7,cv i,dr,aC,cM,eW])
  (λr=>∃(m2:Nat) (aI x8 bA x7 x9 dr aC cM eW:Value),m2≤m∧r.2.1=[pv p,jr op,cv bud,pv i1,pv i0,aI,x8,bA,x7,x9,dr,aC,cM,eW]∧((r.1= .exit 0∧J KQ p m2 r.2.2)∨(r.1= .ret∧∃rr s,J (KE rr s) p m2 r.2.2∧rr.list.length≤m))) ⟨_,_,_,_,_,_,_,_,_,fM,Nat.le_refl _,rfl⟩ ?_ ?_
 ·rintro k vs Hx ⟨i,aI,x8,bA,x7,dr,aC,cM,eW,hj,hkm,rfl⟩;obtain⟨b0,b1,b2⟩:=n7 hj;simp -implicitDefEqProofs only[Kf,xw,sS,Nat.reduceAdd];refine Ev.lss (λhq=>?_) (λhq=>?_)<;>try simp -implicitDefEqProofs only[sS,Nat.reduceAdd]
  ·refine Ev.off hj (λhq0=>?_) (λhq0=>?_)<;>try simp -implicitDefEqProofs only[b2,sS,Nat.reduceAdd]
   ·exact Ev.ret (.inr ⟨by simp,_,_,_,_,_,_,_,_,_,_,hkm,rfl,.inl ⟨rfl,hj⟩⟩)
   refine Ev.call (SY ht ⟨by omega,by omega,by omega⟩ hKQ hj op) ?_
   rintro v H3 ⟨w,s,rfl,hj⟩
   try simp -implicitDefEqProofs only[sS,Nat.reduceAdd]
   refine Ev.gw (Mq ht hKQ (c:=m) hM (k+1) hj (by omega) (by simp;omega) (by simp;omega) _) λz lp ls m2 H4 hj Jz g1 g2=>?_
   have hjq:=hj.mono Pv λo a=>a.1
   try simp -implicitDefEqProofs only[sS,Nat.reduceAdd]
   refine Ev.off hj (λkB=>?_) (λkB=>?_)<;>try simp -implicitDefEqProofs only[sS,Nat.reduceAdd]
   ·exact Ev.ret (.inr ⟨by simp,_,_,_,_,_,_,_,_,_,_,(show m2≤m by omega),rfl,.inl ⟨rfl,hjq⟩⟩)
   obtain⟨xp,xs,S0⟩:=KW.ex hj ht hKQ;have ldx: ∀{m':Nat} {H':aa},J (KWx KQ t (t-1) (t-2) w s xp xs lp ls) p m' H'→aq (.pointer (some ⟨w,6,none⟩)) H'=some xs∧aq (.pointer (some ⟨w,5,none⟩)) H'=some xp∧c8 3 (pv i0) H'=some (jr op):=λhj=>by
    obtain⟨_,o,_,hx⟩:=hj;obtain⟨ty,g⟩:=hx.g;exact⟨an w 6 _ g,an w 5 _ g,Qy hx.k.2.1.1⟩
   obtain⟨c0,c1,c2⟩:=ldx S0;simp -implicitDefEqProofs only[c0,sS,Nat.reduceAdd];refine Ev.bool (SW S0 (λH o a=>a.ss.r) (by omega) (by omega)) λz Hz mz MN hmz=>?_
   have adu:=MN.mono Pv λo a=>a.k
   obtain⟨d0,d1,d2⟩:=ldx MN;cases z<;>simp -implicitDefEqProofs only[d1,d2,sS,Nat.reduceAdd]
   ·exact Ev.ret (.inl ⟨rfl,mz,by omega,_,_,_,_,_,_,_,_,_,adu,by omega,rfl⟩)
   ·refine Ev.call (Pu MN (λH o a=>a.sp.r) (by omega) op) ?_
    rintro v H5 ⟨r,s',rfl,lC,TW⟩;have ZR: ∃a m c,s'= .slice a m c:=by
     rcases TW with⟨rfl,_⟩|⟨rfl,_⟩
     ·obtain⟨_,o,_,hx⟩:=S0;obtain⟨a,c,e⟩:=hx.sp.r.isSlice;exact⟨a,_,c,e⟩
     ·exact⟨_,_,_,rfl⟩
    have oa:J (λH o=>KQ H o∧gT H o (t-1) s' r.list) p mz H5:=lC.mono (Pv.and (bK.ku (by simp;omega))) λo a=>⟨a.k,by
     rcases TW with⟨rfl,e⟩|⟨rfl,e⟩
     ·rw[e];exact a.sp.r
     ·rw[e];exact .nil⟩
    obtain⟨H6,g5,g6,C0⟩:=fin r s' ZR oa;simp -implicitDefEqProofs only[g5,sS,Nat.reduceAdd];refine Ev.ret (.inr ⟨by simp,_,_,_,_,_,_,_,_,_,_,(show mz≤m by omega),rfl,.inr ⟨rfl,r,s',C0,?_⟩⟩)
    rcases TW with⟨_,e⟩|⟨_,e⟩
    ·rw[e];omega
    ·rw[e];simp
  ·exact Ev.ret (.inr ⟨by simp,_,_,_,_,_,_,_,_,_,_,hkm,rfl,.inl ⟨rfl,hj⟩⟩)
 ·rintro e vs Hx ⟨m2,aI,x8,bA,x7,x9,dr,aC,cM,eW,hm,rfl,he⟩;rcases he with⟨he,hj⟩|⟨he,rr,s,hj,hl⟩
  ·simp only at he;subst he;obtain⟨H6,g5,g6,lC⟩:=Yn (lI 9) rfl hj;simp -implicitDefEqProofs only[Ke,xv,Mc,g5,g6,sS,Nat.reduceAdd];exact Ev.ret ⟨_,_,rfl,by simp[lI],_,out lC,hm⟩
  ·simp only at he;subst he;obtain⟨_,o1,_,_,hc,_⟩:=id hj;have UH:=pO i1 rr (s:=s) Hx hc.1;show Ev (λ_=>af (pS (jd Tryz.prog 47 (pv i1) Hx) Hx) λv _=>some (v,Hx)) _
   simp -implicitDefEqProofs only[Yh,UH,sS,Nat.reduceAdd];exact Ev.ret ⟨_,_,rfl,hl,_,out hj,hm⟩
end
section
variable {G:ae} {H H':aa} {o o':aj} {p m c:Nat} {K K':aa→aj→Prop} {t q:Int} {x:Value} {l:PL} {n i:Nat} {cs:List Value} {T:TypeId}
abbrev ac (bud:Int)(op:kf):List Value:=[cv 0,cv bud,cv 0,cv 0,cv 0,cv 0,cv 0,.bool false,cv 0,.bool false,aA,aA,aA,aA,aA,cv 0,cv 0,cv 0,cv op.kind,cv op.key,cv op.value]
abbrev oc (r:eN)(s:Value):List Value:=[cv 0,.bool false,cv 0,cv 0,cv 0,aA,aA,cv r.Ex,.bool r.found,cv r.key,cv r.value,cv r.n,s]
abbrev fc (proc bud:Int)(op:kf)(tape:Value)(done:Bool)(r:eN)(s:Value)(rec laid:Int):List Value:=cv proc::(ac bud op++tape:: .bool done::(oc r s++[cv rec,cv laid]))
theorem I4:aE Tryz.prog 49 []=some (.agg (oc bQ aA).toArray):=by kernel_rfl
theorem uF (i:Nat)(r:eN){s:Value}{a:Option Addr}{k c:Nat}(es:s= .slice a k c)(r0:eN)(s0:Value){T:TypeId}(H:aa)(h:H.get i=some ⟨oc r0 s0,T,1,false⟩):bE 13 (pv i) (.agg (oc r s).toArray) H=some (undef,H.put i ⟨oc r s,T,1,false⟩):=by
 subst es;simp[bE,bX,h,Value.cells,known,aD,dv]
theorem zn (i:Nat)(r:eN)(s:Value){T:TypeId}(H:aa)(h:H.get i=some ⟨oc r s,T,1,false⟩):c8 13 (pv i) H=some (.agg (oc r s).toArray):=by
 simp[c8,aR,h]
theorem Pw (i:Nat)(r:eN){s:Value}{a:Option Addr}{k c:Nat}(es:s= .slice a k c)(r0:eN)(s0:Value){T:TypeId}(H:aa)(h:H.get i=some ⟨oc r0 s0,T,1,false⟩):bE 6 (.pointer (some ⟨i,7,none⟩)) (gu r s) H=some (undef,H.put i ⟨oc r s,T,1,false⟩):=by
 subst es;simp[bE,bX,h,Value.cells,known,aD,dv]
theorem Px (i:Nat)(bud:Int)(op:kf)(b0:Int)(op0:kf){T:TypeId}(H:aa)(h:H.get i=some ⟨ac b0 op0,T,1,false⟩):bE 21 (pv i) (.agg (ac bud op).toArray) H=some (undef,H.put i ⟨ac bud op,T,1,false⟩):=by
 simp[bE,bX,h,Value.cells,known,aD,dv]
theorem GL (f:Nat)(proc bud:Int)(op:kf)(tape:Value)(done:Bool)(r:eN)(s:Value)(rec laid:Int){T:TypeId}(H:aa)(h:H.get f=some ⟨fc proc bud op tape done r s rec laid,T,1,false⟩):c8 21 (.pointer (some ⟨f,1,none⟩)) H=some (.agg (ac bud op).toArray):=by
 simp[c8,aR,h]
theorem Py (i:Nat)(bud:Int)(op:kf){T:TypeId}(H:aa)(h:H.get i=some ⟨ac bud op,T,1,false⟩):c8 3 (.pointer (some ⟨i,18,none⟩)) H=some (jr op):=by
 simp[c8,aR,h]
structure KH (B:aa) (b:aj) (p i0 i1 i2:Nat) (bud:Int) (op:kf) (r2:eN) (s2:Value) (H:aa) (o:aj):Prop where
 fr:Fr B b H o [(p:Int)]
 k0:Cl i0 (oc bQ aA) 49 H o
 k1:Cl i1 (ac bud op) 41 H o
 k2:Cl i2 (oc r2 s2) 49 H o
 sl:gT H o (-41) s2 r2.list
theorem KH.eZ {B:aa}{b:aj}{i0 i1 i2:Nat}{bud:Int}{op:kf}{r2:eN}{s2:Value}:bK [(p:Int)] (KH B b p i0 i1 i2 bud op r2 s2):=λH o H' o' h f=>⟨h.fr.tr f,h.k0.fr f (by simp),h.k1.fr f (by simp),h.k2.fr f (by simp),h.sl.fr f (by simp)⟩
abbrev KB (B:aa)(b:aj)(p:Nat)(s:Value)(l:PL):aa→aj→Prop:=λH o=>Fr B b H o [(p:Int)]∧gT H o (-41) s l
theorem Yo {b:aj}{f:Nat}{proc bud:Int}{op:kf}{tape:Value}{done:Bool}{r0:eN}{s0:Value}{rec laid:Int}{T:TypeId}(hr:Ak H b p m)(hM:m≤2147483648)(hf:H.get f=some ⟨fc proc bud op tape done r0 s0 rec laid,T,1,false⟩)(GM:b f≠p)(hp:proc=25):
  aF (run G) 97 [pv f,pv p] H λv H'=>∃r s m',v= .agg (oc r s).toArray∧r.list.length≤m∧J (KB H b p s r.list) p m' H':=by
 refine Ev.up (t:=λk=>F97 (run G k) k (pv f) (pv p) H) ?_ λk=>Ov ..
 obtain⟨i0,e0⟩: ∃i,i=H.length:=⟨_,rfl⟩;obtain⟨i1,e1⟩: ∃i,i=H.length+1:=⟨_,rfl⟩;obtain⟨i2,e2⟩: ∃i,i=H.length+2:=⟨_,rfl⟩;have Fa:=ar hf;obtain⟨H1,ga⟩: ∃z,z=H.new ⟨oc bQ aA,49,1,false⟩:=⟨_,rfl⟩;have l1:H1.length=H.length+1:=by rw[ga,cB]
 obtain⟨H2,iD⟩: ∃z,z=H1.new ⟨ac 0 ⟨0,0,0⟩,41,1,false⟩:=⟨_,rfl⟩;have l2:H2.length=H.length+2:=by rw[iD,cB,l1]
 have g2:H2.get i1=some ⟨ac 0 ⟨0,0,0⟩,41,1,false⟩:=by rw[iD,e1, ←l1];exact aL
 obtain⟨H3,mA⟩: ∃z,z=H2.put i1 ⟨ac bud op,41,1,false⟩:=⟨_,rfl⟩;have l3:H3.length=H.length+2:=by rw[mA,iL,l2]
 obtain⟨H4,pP⟩: ∃z,z=H3.new ⟨oc bQ aA,49,1,false⟩:=⟨_,rfl⟩;have fG:J (λH' o=>Fr H b H' o [(p:Int)]∧Cl i0 (oc bQ aA) 49 H' o) p m H1:=by
  rw[ga];have Pl:J (λH' o=>Fr H b H' o [(p:Int)]) p m H:=⟨bK.base (by simp),b,hr,Fr.refl _ _ _⟩
  refine Pl.nG _ _ 1 ((bK.base (by simp)).and λH o H' o' a f=>a.fr f (by simp)) λo hk f=>⟨hk.new _ _,?_⟩
  rw[e0];exact Cl.made
 have fM:J (λH' o=>(Fr H b H' o [(p:Int)]∧Cl i0 (oc bQ aA) 49 H' o)∧Cl i1 (ac 0 ⟨0,0,0⟩) 41 H' o) p m H2:=by
  rw[iD];refine fG.nG _ _ 1 (fG.1.and λH o H' o' a f=>a.fr f (by simp)) λo hk f=>⟨⟨hk.1.new _ _,hk.2.new⟩,?_⟩
  rw[e1, ←l1];exact Cl.made
 have gF:J (λH' o=>(Fr H b H' o [(p:Int)]∧Cl i0 (oc bQ aA) 49 H' o)∧Cl i1 (ac bud op) 41 H' o) p m H3:=by
  rw[mA];refine fM.tY (λo hg=>hg.2) (fG.1.and λH o H' o' a f=>a.fr f (by simp)) λo hg=>⟨⟨hg.1.1.put λhh=>by omega,hg.1.2.put (by omega)⟩,hg.2.self⟩
 have jb:J (KH H b p i0 i1 i2 bud op bQ aA) p m H4:=by
  rw[pP];refine gF.nG _ _ 1 KH.eZ λo hk f=>⟨hk.1.1.new _ _,hk.1.2.new,hk.2.new,?_,.nil⟩
  rw[e2, ←l3];exact Cl.made
 have n0:aS H 49 1 [cv 0,.bool false,cv 0,cv 0,cv 0,aA,aA,cv 0,.bool false,cv 0,cv 0,cv 0,aA]=(pv i0,H1):=by rw[ga,e0];rfl
 have n1:aS H1 41 1 [cv 0,cv 0,cv 0,cv 0,cv 0,cv 0,cv 0,.bool false,cv 0,.bool false,aA,aA,aA,aA,aA,cv 0,cv 0,cv 0,cv 0,cv 0,cv 0]=(pv i1,H2):=by rw[iD,e1, ←l1];rfl
 have n2:aS H3 49 1 [cv 0,.bool false,cv 0,cv 0,cv 0,aA,aA,cv 0,.bool false,cv 0,cv 0,cv 0,aA]=(pv i2,H4):=by rw[pP,e2, ←l3];rfl
 have kU: ∀{H':aa} {o':aj},Fr H b H' o' [(p:Int)]→H'.get f=some ⟨fc proc bud op tape done r0 s0 rec laid,T,1,false⟩:=λfr=>by rw[fr.same f Fa (by simpa using GM)];exact hf
 have gf1:H1.get f=some ⟨fc proc bud op tape done r0 s0 rec laid,T,1,false⟩:=by obtain⟨_,o,_,hk⟩:=fG;exact kU hk.1
 have L1:=GL f proc bud op tape done r0 s0 rec laid H1 gf1;have S1:=Px i1 bud op 0 ⟨0,0,0⟩ H2 g2;rw[←mA] at S1;obtain⟨_,o4,_,Mh⟩:=id jb;have S2:=uF i2 bQ (s:=aA) rfl bQ aA H4 Mh.k2.1;have Yp:H4.put i2 ⟨oc bQ aA,49,1,false⟩=H4:=by
  have hl:=ar Mh.k2.1;have hg:=Mh.k2.1;unfold aa.put;apply List.ext_getElem?;intro k;by_cases e:k=i2
  ·subst e;rw[List.getElem?_set_self hl];unfold aa.get at hg;cases hx:H4[k]? with
   |none=>rw[hx] at hg;cases hg
   |some z=>rw[hx] at hg;cases z<;>simp_all
  ·rw[List.getElem?_set_ne (Ne.symm e)]
 rw[Yp] at S2;have Lp:aq (pv f) H4=some (cv proc):=an f 0 H4 (kU Mh.fr);have n7: ∀{r2:eN} {s2:Value} {m':Nat} {H':aa},J (KH H b p i0 i1 i2 bud op r2 s2) p m' H'→aq (.pointer (some ⟨i1,18,none⟩)) H'=some (cv op.kind)∧aq (.pointer (some ⟨i1,1,none⟩)) H'=some (cv bud)∧c8 3 (.pointer (some ⟨i1,18,none⟩)) H'=some (jr op):=λhj=>by
  obtain⟨_,o,_,hg⟩:=hj;exact⟨an i1 18 _ hg.k1.1,an i1 1 _ hg.k1.1,Py _ _ _ _ hg.k1.1⟩
 have set: ∀{m':Nat} {H':aa} (r:eN) (s:Value),J (λH o=>KH H4 o4 p i0 i1 i2 bud op bQ aA H o) p m' H'→True:=λ_ _ _=>trivial
 have fin: ∀{r2:eN} {s2:Value} {m':Nat} {H':aa} (r:eN) (s:Value),(∃a k c,s= .slice a k c)→J (λH' o=>KH H b p i0 i1 i2 bud op r2 s2 H' o∧gT H' o (-41) s r.list) p m' H'→∃H3,bE 6 (.pointer (some ⟨i2,7,none⟩)) (gu r s) H'=some (undef,H3)∧J (KH H b p i0 i1 i2 bud op r s) p m' H3:=λ{r2 s2 m' H'} r s tU hj=>by
  obtain⟨a,k,c,es⟩:=tU;obtain⟨_,o,uT,hg,hs⟩:=id hj;refine⟨_,Pw i2 r es r2 s2 H' hg.k2.1,hj.tY (λo hg=>hg.1.k2) KH.eZ λo hg=>⟨hg.1.fr.put λhh=>by omega,hg.1.k0.put (by omega),hg.1.k1.put (by omega),hg.1.k2.self,hg.2.fr ((Fr.refl H' o [-9]).put λ_=>by simp[hg.1.k2.2]) (by simp)⟩⟩
 have J0: ∀{r2:eN} {s2:Value} {m':Nat} {H':aa} (aW aU x5 bJ ct cp dF eW fE ml:Value),(∃a k c,s2= .slice a k c)→r2.list.length≤m→J (KH H b p i0 i1 i2 bud op r2 s2) p m' H'→Ev (λk=>ki (run G k) k [pv f,pv p,pv i0,aW,aU,x5,pv i2,bJ,ct,cp,dF,eW,fE,ml] H') λr=>∃rr s m',r.1= .agg (oc rr s).toArray∧rr.list.length≤m∧J (KB H b p s rr.list) p m' r.2:=by
  intro r2 s2 m' H' aW aU x5 bJ ct cp dF eW fE ml tU hl hj;obtain⟨a,k,c,es⟩:=tU;obtain⟨_,o,uT,hg⟩:=id hj;have A1:=zn i2 r2 s2 H' hg.k2.1;have A2:=uF i0 r2 es bQ aA H' hg.k0.1;have A3:=zn i0 r2 s2 (T:=49) _ (aG (c:=⟨oc r2 s2,49,1,false⟩) hg.k0.1);simp -implicitDefEqProofs only[Ed,vK,A1,A2,A3,sS,Nat.reduceAdd];refine Ev.ret ⟨r2,s2,m',rfl,hl,hj.tY (λo hg=>hg.k0) ((bK.base (by simp)).and (bK.ku (by simp))) λo hg=>⟨hg.fr.put λhh=>by omega,hg.sl.fr ((Fr.refl H' o [-9]).put λ_=>by simp[hg.k0.2]) (by simp)⟩⟩
 have adv: ∀{r2:eN} {s2:Value} {m':Nat} {H':aa} (r:eN),r.list=[]→J (KH H b p i0 i1 i2 bud op r2 s2) p m' H'→J (λH' o=>KH H b p i0 i1 i2 bud op r2 s2 H' o∧gT H' o (-41) aA r.list) p m' H':=λr hl hj=>hj.mono (KH.eZ.and (bK.ku (by simp))) λo a=>⟨a,by rw[hl];exact .nil⟩
 have err: ∀(w:Int),∃H3,bE 6 (.pointer (some ⟨i2,7,none⟩)) (gu (lI w) aA) H4=some (undef,H3)∧J (KH H b p i0 i1 i2 bud op (lI w) aA) p m H3:=λw=>fin (lI w) aA ⟨_,_,_,rfl⟩ (adv _ rfl jb)
 obtain⟨a0,a1,a2⟩:=n7 jb;simp -implicitDefEqProofs only[F97,n0,L1,n1,S1,I4,n2,S2,Lp,Nat.add_zero,sS,Nat.reduceAdd];refine Ev.eql (λhq=>?_) (λhq=>?_)<;>try simp -implicitDefEqProofs only[sS,Nat.reduceAdd]
 ·omega
 refine Ev.eql (λhq=>?_) (λhq=>?_)<;>try simp -implicitDefEqProofs only[sS,Nat.reduceAdd]
 ·omega
 refine Ev.eql (λhq=>?_) (λhq=>?_)<;>try simp -implicitDefEqProofs only[sS,Nat.reduceAdd]
 ·omega
 refine Ev.eql (λhq=>?_) (λhq=>?_)<;>try simp -implicitDefEqProofs only[a0,Nat.add_zero,sS,Nat.reduceAdd]
 ·omega
 refine Ev.eql (λhq=>?_) (λhq=>?_)<;>try simp -implicitDefEqProofs only[a0,Nat.add_zero,sS,Nat.reduceAdd]
 ·have hqu:Ev (λk=>af (run G k 128 [pv p,jr op,cv bud] H4) λy Hy=>af (bE 6 (.pointer (some ⟨i2,7,none⟩)) y Hy) λ_ Hy=>ki (run G k) k [pv f,pv p,pv i0,cv proc,.bool false,pv i1,pv i2,.bool false,.bool false,.bool false,undef,.bool true,.bool false,.bool false] Hy) λr=>∃rr s m',r.1= .agg (oc rr s).toArray∧rr.list.length≤m∧J (KB H b p s rr.list) p m' r.2:=by
   refine Ev.call (SZ jb hM op bud) ?_;rintro v H5 ⟨r,s,rfl,hl,m',hj,hm⟩;have tU: ∃a k c,s= .slice a k c:=by
    obtain⟨_,o,_,_,hs⟩:=hj;obtain⟨a,c,e⟩:=hs.isSlice;exact⟨a,_,c,e⟩
   obtain⟨H6,g6,oa⟩:=fin r s tU hj;simp -implicitDefEqProofs only[g6,sS,Nat.reduceAdd];exact J0 _ _ _ _ _ _ _ _ _ _ tU hl oa
  have er5: ∀w,Ev (λk=>af (bE 6 (.pointer (some ⟨i2,7,none⟩)) (gu (lI w) aA) H4) λ_ Hy=>some (undef,Hy)) λr=>J (KH H b p i0 i1 i2 bud op (lI w) aA) p m r.2:=λw=>by
   obtain⟨H6,g6,oa⟩:=err w;simp -implicitDefEqProofs only[g6,sS,Nat.reduceAdd];exact Ev.ret oa
  refine Ev.lss (λhq=>?_) (λhq=>?_)<;>try simp -implicitDefEqProofs only[a0,Nat.add_zero,sS,Nat.reduceAdd]
  ·obtain⟨H6,g6,oa⟩:=err 5;simp -implicitDefEqProofs only[Mc,g6,sS,Nat.reduceAdd];exact J0 _ _ _ _ _ _ _ _ _ _ ⟨_,_,_,rfl⟩ (by simp[lI]) oa
  refine Ev.gtr (λhq=>?_) (λhq=>?_)<;>try simp -implicitDefEqProofs only[a1,sS,Nat.reduceAdd]
  ·obtain⟨H6,g6,oa⟩:=err 5;simp -implicitDefEqProofs only[Mc,g6,sS,Nat.reduceAdd];exact J0 _ _ _ _ _ _ _ _ _ _ ⟨_,_,_,rfl⟩ (by simp[lI]) oa
  refine Ev.lss (λhq=>?_) (λhq=>?_)<;>try simp -implicitDefEqProofs only[a1,sS,Nat.reduceAdd]
  ·obtain⟨H6,g6,oa⟩:=err 2;simp -implicitDefEqProofs only[Mc,g6,sS,Nat.reduceAdd];exact J0 _ _ _ _ _ _ _ _ _ _ ⟨_,_,_,rfl⟩ (by simp[lI]) oa
  refine Ev.gtr (λhq=>?_) (λhq=>?_)<;>try simp -implicitDefEqProofs only[a2,a1,sS,Nat.reduceAdd]
  ·obtain⟨H6,g6,oa⟩:=err 2;simp -implicitDefEqProofs only[Mc,g6,sS,Nat.reduceAdd];exact J0 _ _ _ _ _ _ _ _ _ _ ⟨_,_,_,rfl⟩ (by simp[lI]) oa
  ·exact hqu
 ·omega
end
end Go.Proofs.YtgfgglponbmgmaaGreat.Fun.R
end
