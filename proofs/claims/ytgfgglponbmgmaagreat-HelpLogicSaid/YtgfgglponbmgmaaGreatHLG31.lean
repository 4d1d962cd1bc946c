/- Texts of the proof of helpLogic_holds, put together by a small program of ours (names shortened, spaces taken out). No condition beyond the given statement. -/
import Derived.Test.YtgfgglponbmgmaaGreatHLG12
import Derived.Test.YtgfgglponbmgmaaGreatHLG15
import Derived.Test.YtgfgglponbmgmaaGreatHLG30
import Derived.Test.YtgfgglponbmgmaaGreatHLG16
set_option linter.unusedVariables false
set_option linter.unusedSimpArgs false
set_option linter.unnecessarySimpa false
noncomputable section
section
namespace Go.Proofs.YtgfgglponbmgmaaGreat.Fun.R
open Go Go.RowKit Go.Proofs.YtgfgglponbmgmaaGreatA.Am
set_option maxRecDepth 10000
section
variable {G:ae} {H H':aa} {o o':aj} {p m c:Nat} {K K':aa→aj→Prop} {t t1 t2 q:Int} {x:Value} {l lp ls:PL} {n i:Nat} {cs:List Value} {T:TypeId}
theorem KW.mono {w:Nat}{s:WS}(h:J (KW K t t1 t2 w s lp ls) p m H)(ht:EI p t t1 t2)(R3:bJ [(p:Int),t,t1,t2] K')(k: ∀H o,K H o→K' H o):J (KW K' t t1 t2 w s lp ls) p m H:=h.mono (KW.eU ht R3) λo a=>⟨k _ _ a.1,a.2⟩
structure KWx (K:aa→aj→Prop) (t t1 t2:Int) (w:Nat) (s:WS) (xp xs:Value) (lp ls:PL) (H:aa) (o:aj):Prop where
 k:K H o
 g: ∃ty,H.get w=some ⟨wcs s xp xs,ty,1,false⟩
 ow:o w=t
 sp:gS H o t1 xp lp
 ss:gS H o t2 xs ls
theorem KWx.eU {w:Nat}{s:WS}{xp xs:Value}(ht:EI p t t1 t2)(hK:bJ [(p:Int),t,t1,t2] K):bJ [(p:Int)] (KWx K t t1 t2 w s xp xs lp ls):=λH o H' o' h f=>by
 obtain⟨ty,g⟩:=h.g;exact⟨hK _ _ _ _ h.k (f.wk (by simp)),⟨ty,by rw[f.same w (ar g) (by rw[h.ow];simpa using ht.a.ne)];exact g⟩,by rw[f.own w (ar g)];exact h.ow,gS.fr h.sp f (by simpa using ht.a1.ne),gS.fr h.ss f (by simpa using ht.a2.ne)⟩
theorem KW.ex {w:Nat}{s:WS}(h:J (KW K t t1 t2 w s lp ls) p m H)(ht:EI p t t1 t2)(hK:bJ [(p:Int),t,t1,t2] K): ∃xp xs,J (KWx K t t1 t2 w s xp xs lp ls) p m H:=by
 obtain⟨_,o,hr,hk,xp,xs,ty,g,ho,h1,h2⟩:=h;exact⟨xp,xs,KWx.eU ht hK,o,hr,hk,⟨ty,g⟩,ho,h1,h2⟩
theorem Xr:aF Tryz.prog 34 [(0,cv (-9223372036854775808)),(1,cv 9223372036854775807),(3,cv 1),(4,.bool true)]=some (.agg #[cv (-9223372036854775808),cv 9223372036854775807,.bool false,cv 1,.bool true,aA,aA]):=by kernel_rfl
theorem Sc (s:WS)(H:aa):dH 34 (.agg #[cv s.lo,cv s.hi,.bool s.back,cv s.OO,.bool s.values,aA,aA]) H=some (pv H.length,H.new ⟨wcs s aA aA,34,1,false⟩):=by
 simp[dH,Value.cells,aD,aS]
theorem Sd (ht:EI p t t1 t2)(h9:t≠ -9∧t1≠ -9∧t2≠ -9)(hK:bJ [(p:Int),t,t1,t2] K)(h:J K p m H)(op:jY):aE (run G) 157 [jj op] H λv H'=>∃w s,v=pv w∧J (KW K t t1 t2 w s [] []) p m H':=by
 refine Ev.up (t:=λk=>Wt (run G k) k (jj op) H) ?_ λk=>Rk ..
 obtain⟨i0,e0⟩: ∃i,i=H.length:=⟨_,rfl⟩;obtain⟨w,e1⟩: ∃i,i=H.length+1:=⟨_,rfl⟩;obtain⟨H1,fV⟩: ∃z,z=H.new ⟨n5 op,39,1,false⟩:=⟨_,rfl⟩;have l1:H1.length=H.length+1:=by rw[fV,cA]
 have LZ:bJ [(p:Int),t,t1,t2] λH o=>K H o∧Cl i0 (n5 op) 39 H o:=hK.and λH o H' o' a f=>a.fr f (by simp;omega)
 have fv:J (λH o=>K H o∧Cl i0 (n5 op) 39 H o) p m H1:=by
  rw[fV];refine h.nB _ _ 1 (LZ.of (by simp)) λo hk f=>⟨hK _ _ _ _ hk (f.wk (by simp)),?_⟩
  rw[e0];exact Cl.made
 let s0:WS:=⟨-9223372036854775808,9223372036854775807,false,1,true⟩
 obtain⟨H2,im⟩: ∃z,z=H1.new ⟨wcs s0 aA aA,34,1,false⟩:=⟨_,rfl⟩;have fH:J (KW (λH o=>K H o∧Cl i0 (n5 op) 39 H o) t t1 t2 w s0 [] []) p m H2:=by
  obtain⟨_,o,hr,hk⟩:=fv;have f:Fr H1 o H2 (o.up H1.length t) []:=by rw[im];exact(Fr.refl H1 o []).new _ _
  refine⟨KW.eU ht LZ,_,hr.fr f (by simp) (by simp) (by simp),LZ _ _ _ _ hk (f.wk (by simp)),aA,aA,34,?_,?_,.inl ⟨rfl,rfl⟩,.inl ⟨rfl,rfl⟩⟩
  ·rw[im,e1, ←l1];exact aL
  ·rw[e1, ←l1];exact aP
 have bx:=CH op H;rw[←e0, ←fV] at bx;have bw:=Sc s0 H1;rw[←im,l1, ←e1] at bw;have L0: ∀{s:WS} {m':Nat} {H':aa},J (KW (λH o=>K H o∧Cl i0 (n5 op) 39 H o) t t1 t2 w s [] []) p m' H'→aq (pv i0) H'=some (cv op.kind)∧aq (.pointer (some ⟨i0,1,none⟩)) H'=some (cv op.key)∧aq (.pointer (some ⟨i0,2,none⟩)) H'=some (cv op.value):=λhj=>by
  obtain⟨_,o,_,⟨_,g,_⟩,_⟩:=hj;exact⟨ao i0 0 _ g,ao i0 1 _ g,ao i0 2 _ g⟩
 have J0: ∀{s:WS} {H':aa} (x2 x7 x8 aU bU cr:Value),J (KW (λH o=>K H o∧Cl i0 (n5 op) 39 H o) t t1 t2 w s [] []) p m H'→Ev (λk=>ng (run G k) k [jj op,x2,pv i0,x7,x8,pv w,aU,bU,cr] H') λr=>∃w s,r.1=pv w∧J (KW K t t1 t2 w s [] []) p m r.2:=by
  intro s H' x2 x7 x8 aU bU cr hj;simp -implicitDefEqProofs only[Kw,ye,sS,Nat.reduceAdd];exact Ev.ret ⟨w,s,rfl,KW.mono hj ht hK λH o a=>a.1⟩
 have J1: ∀{s:WS} {H':aa} (b:Bool) (x2 x7 x8 aU bU:Value),J (KW (λH o=>K H o∧Cl i0 (n5 op) 39 H o) t t1 t2 w s [] []) p m H'→Ev (λk=>vw (run G k) k [jj op,x2,pv i0,x7,x8,pv w,aU,bU,.bool b] H') λr=>∃w s,r.1=pv w∧J (KW K t t1 t2 w s [] []) p m r.2:=by
  intro s H' b x2 x7 x8 aU bU hj;simp -implicitDefEqProofs only[Kx,yf,sS,Nat.reduceAdd];cases b<;>simp -implicitDefEqProofs only[sS,Nat.reduceAdd]
  ·exact J0 _ _ _ _ _ _ hj
  ·obtain⟨a0,a1,a2⟩:=L0 hj;obtain⟨H3,g3,gA⟩:=KW.aap ht LZ hj op.key;obtain⟨b0,b1,b2⟩:=L0 gA;obtain⟨H4,g4,iW⟩:=KW.aaq ht LZ gA op.value;obtain⟨H5,g5,kh⟩:=KW.acE ht LZ iW 0;obtain⟨c0,c1,c2⟩:=L0 kh;simp -implicitDefEqProofs only[a1,Nat.add_zero,g3,b2,g4,g5,c0,sS,Nat.reduceAdd];refine Ev.eql (λhq=>?_) (λhq=>?_)<;>try simp -implicitDefEqProofs only[sS,Nat.reduceAdd]
   ·obtain⟨H6,g6,n8⟩:=KW.aas ht LZ kh true;simp -implicitDefEqProofs only[g6,sS,Nat.reduceAdd];exact J0 _ _ _ _ _ _ n8
   ·obtain⟨H6,g6,n8⟩:=KW.aas ht LZ kh false;simp -implicitDefEqProofs only[g6,sS,Nat.reduceAdd];exact J0 _ _ _ _ _ _ n8
 obtain⟨a0,a1,a2⟩:=L0 fH;simp -implicitDefEqProofs only[Wt,bx,Xr,Nat.add_zero,sS,Nat.reduceAdd];have bw':dH 34 (.agg #[cv (-9223372036854775808),cv 9223372036854775807,.bool false,cv 1,.bool true,aA,aA]) H1=some (pv w,H2):=bw;simp -implicitDefEqProofs only[bw',a0,Nat.add_zero,sS,Nat.reduceAdd];refine Ev.eql (λhq=>?_) (λhq=>?_)<;>try simp -implicitDefEqProofs only[a1,sS,Nat.reduceAdd]
 ·obtain⟨H3,g3,gA⟩:=KW.aaq ht LZ fH op.key;obtain⟨H4,g4,iW⟩:=KW.aar ht LZ gA true;simp -implicitDefEqProofs only[g3,g4,sS,Nat.reduceAdd];exact J0 _ _ _ _ _ _ iW
 refine Ev.eql (λhq=>?_) (λhq=>?_)<;>try simp -implicitDefEqProofs only[a1,sS,Nat.reduceAdd]
 ·obtain⟨H3,g3,gA⟩:=KW.aap ht LZ fH op.key;simp -implicitDefEqProofs only[Nat.add_zero,g3,sS,Nat.reduceAdd];exact J0 _ _ _ _ _ _ gA
 refine Ev.eql (λhq=>?_) (λhq=>?_)<;>try simp -implicitDefEqProofs only[a1,sS,Nat.reduceAdd]
 ·obtain⟨H3,g3,gA⟩:=KW.aar ht LZ fH true;simp -implicitDefEqProofs only[g3,sS,Nat.reduceAdd];exact J0 _ _ _ _ _ _ gA
 refine Ev.eql (λhq=>?_) (λhq=>?_)<;>try simp -implicitDefEqProofs only[a1,sS,Nat.reduceAdd]
 ·exact J1 true _ _ _ _ _ fH
 refine Ev.eql (λhq=>?_) (λhq=>?_)<;>try simp -implicitDefEqProofs only[a1,sS,Nat.reduceAdd]
 ·exact J1 true _ _ _ _ _ fH
 ·exact J1 false _ _ _ _ _ fH
theorem OP (h:J K p m H)(hs: ∀H o,K H o→gN H o q x l)(hl:l.length≤2147483648)(op:jY):aE (run G) 158 [jj op,x] H λv H'=>∃r s,v=gj r s∧J K p m H'∧((s=x∧r.list=l)∨(s=aA∧r.list=[])):=by
 refine Ev.up (t:=λk=>WW (run G k) k (jj op) x H) ?_ λk=>Ry ..
 obtain⟨i0,e0⟩: ∃i,i=H.length:=⟨_,rfl⟩;obtain⟨i1,e1⟩: ∃i,i=H.length+1:=⟨_,rfl⟩;obtain⟨H1,fV⟩: ∃z,z=H.new ⟨n5 op,39,1,false⟩:=⟨_,rfl⟩;have l1:H1.length=H.length+1:=by rw[fV,cA]
 obtain⟨H2,im⟩: ∃z,z=H1.new ⟨rc bQ,47,1,false⟩:=⟨_,rfl⟩;have fH:J K p m H2:=by rw[im,fV];exact(h.new _).new _
 have bx:=CH op H;rw[←e0, ←fV] at bx;have n1:aS H1 47 1 [cv 0,.bool false,cv 0,cv 0,cv 0,aA]=(pv i1,H2):=by rw[im,e1, ←l1];rfl
 have g0:H2.get i0=some ⟨n5 op,39,1,false⟩:=by rw[im,df (by omega),fV,e0];exact aL
 have g1:H2.get i1=some ⟨rc bQ,47,1,false⟩:=by rw[im,e1, ←l1];exact aL
 have a0:aq (pv i0) H2=some (cv op.kind):=ao i0 0 _ g0;obtain⟨_,o2,_,hk2⟩:=id fH;have Uh:=hs _ _ hk2;obtain⟨xa,xc,ex⟩:=Uh.isSlice;have fin: ∀(r:eI) (s:Value),(∃a m c,s= .slice a m c)→∃H3,bD 6 (pv i1) (gj r s) H2=some (undef,H3)∧cZ 6 (pv i1) H3=some (gj r s)∧J K p m H3:=λr s uV=>by
  obtain⟨a,mm,cc,es⟩:=uV;refine⟨_,tD i1 r es H2 g1 rfl,pQ _ _ _ (aG g1),h.ue λo=>⟨(o.up H.length (-9)).up H1.length (-9),?_⟩⟩
  rw[im,fV];have f1:Fr H o (H.new ⟨n5 op,39,1,false⟩) (o.up H.length (-9)) []:=(Fr.refl H o []).new _ _;have f2:=f1.new ⟨rc bQ,47,1,false⟩ (-9);exact f2.put λhh=>by omega
 simp -implicitDefEqProofs only[WW,bx,n1,a0,Nat.add_zero,sS,Nat.reduceAdd];refine Ev.eql (λhq=>?_) (λhq=>?_)<;>try simp -implicitDefEqProofs only[sS,Nat.reduceAdd]
 ·obtain⟨H3,b1,b2,gA⟩:=fin ⟨0,false,0,0,0,l⟩ x ⟨_,_,_,ex⟩;have ab:aF Tryz.prog 47 [(4,x)]=some (gj ⟨0,false,0,0,0,l⟩ x):=by rw[ex];exact aai _ _ _
  simp -implicitDefEqProofs only[ab,b1,b2,sS,Nat.reduceAdd];exact Ev.ret ⟨_,_,rfl,gA,.inl ⟨rfl,rfl⟩⟩
 try simp -implicitDefEqProofs only[a0,sS,Nat.reduceAdd]
 refine Ev.eql (λhq=>?_) (λhq=>?_)<;>try simp -implicitDefEqProofs only[Uh.len,sS,Nat.reduceAdd]
 ·obtain⟨H3,b1,b2,gA⟩:=fin ⟨0,false,0,0,l.length,[]⟩ aA ⟨_,_,_,rfl⟩;simp -implicitDefEqProofs only[acx,b1,b2,sS,Nat.reduceAdd];exact Ev.ret ⟨_,_,rfl,gA,.inr ⟨rfl,rfl⟩⟩
 refine Ev.eql (λhq=>?_) (λhq=>?_)<;>try simp -implicitDefEqProofs only[sS,Nat.reduceAdd]
 ·obtain⟨H3,b1,b2,gA⟩:=fin bQ aA ⟨_,_,_,rfl⟩;simp -implicitDefEqProofs only[CI,b1,b2,sS,Nat.reduceAdd];exact Ev.ret ⟨_,_,rfl,gA,.inr ⟨rfl,rfl⟩⟩
 ·obtain⟨i,off,b,e1,e2,e3,e4⟩:=Uh.idx (j:=0) (by omega)
  obtain⟨e5,e6,e7⟩:=e4 H2 e2;simp only[Int.natCast_zero] at e1;obtain⟨H3,b1,b2,gA⟩:=fin (Li ((l.getD 0 (0,0)).1,(l.getD 0 (0,0)).2,true)) aA ⟨_,_,_,rfl⟩;simp -implicitDefEqProofs only[e1,e7,Xh,b1,b2,sS,Nat.reduceAdd];exact Ev.ret ⟨_,_,rfl,gA,.inr ⟨rfl,tF _⟩⟩
abbrev acF (K:aa→aj→Prop)(p c:Nat):Value→aa→Prop:=λv H'=>∃r s,v=gj r s∧r.list.length≤c∧∃m',J (λH o=>K H o∧gN H o (-41) s r.list) p m' H'∧m'≤c
theorem dV.relabel {x:Value}{l:List Int}(h:dV H o q x l)(k: ∀i,i<H.length→o i=q→o' i=q):dV H o' q x l:=⟨h.1,λb n c e dy=>⟨(h.2 b n c e dy).1,k _ (h.2 b n c e dy).1 (h.2 b n c e dy).2⟩⟩
theorem zT.relabel (h:zT H o p m)(k: ∀i,i<H.length→(o i=(p:Int)∨o i= -50∨o i= -51)→o' i=o i):zT H o' p m:=by
 obtain⟨tape,w,T,W,i,nk,na,nx,ny,rec,laid,ty,g,ho,ht,hT,hw,hi⟩:=h;exact⟨tape,w,T,W,i,nk,na,nx,ny,rec,laid,ty,g,by rw[k p (ar g) (.inl ho)];exact ho,dV.relabel ht λi hi hh=>by rw[k i hi (.inr (.inl hh))];exact hh,hT,dV.relabel hw λi hi hh=>by rw[k i hi (.inr (.inr hh))];exact hh,hi⟩
abbrev LF (r:eI)(s:Value):List Value:=[cv r.D5,.bool r.found,cv r.key,cv r.value,cv r.n,s]
theorem Se (h:J K p m H)(hM:m≤2147483648)(op:jY)(bud:Int):aE (run G) 128 [pv p,jj op,cv bud] H (acF K p m):=by
 refine Ev.up (t:=λk=>Wq (run G k) k (pv p) (jj op) (cv bud) H) ?_ λk=>Rh ..
 obtain⟨hK,b,hr,hk⟩:=id h;obtain⟨i0,e0⟩: ∃i,i=H.length:=⟨_,rfl⟩;obtain⟨i1,e1⟩: ∃i,i=H.length+1:=⟨_,rfl⟩;obtain⟨t,Xk,htf⟩:=gC b H.length;have ht:EI p t (t-1) (t-2):=⟨⟨by omega,by omega,by omega⟩,⟨by omega,by omega,by omega⟩,⟨by omega,by omega,by omega⟩,by omega,by omega,by omega⟩
 let KQ:aa→aj→Prop:=λH' o=>Fr H b H' o [t,t-1,t-2,(p:Int)]∧Cl i0 (n5 op) 39 H' o∧Cl i1 (rc bQ) 47 H' o
 have hKQ:bJ [(p:Int),t,t-1,t-2] KQ:=(bJ.base (by simp)).and ((show bJ _ _ from λH o H' o' a f=>a.fr f (by simp;omega)).and λH o H' o' a f=>a.fr f (by simp;omega))
 have OQ:bJ [(p:Int)] KQ:=hKQ.of (by simp)
 obtain⟨H1,fV⟩: ∃z,z=H.new ⟨n5 op,39,1,false⟩:=⟨_,rfl⟩;have l1:H1.length=H.length+1:=by rw[fV,cA]
 obtain⟨H2,im⟩: ∃z,z=H1.new ⟨rc bQ,47,1,false⟩:=⟨_,rfl⟩;have fv:J (λH' o=>Fr H b H' o [t,t-1,t-2,(p:Int)]∧Cl i0 (n5 op) 39 H' o) p m H1:=by
  rw[fV];have OH:J (λH' o=>Fr H b H' o [t,t-1,t-2,(p:Int)]) p m H:=⟨bJ.base (by simp),b,hr,Fr.refl _ _ _⟩
  refine OH.nB _ _ 1 ((bJ.base (by simp)).and λH o H' o' a f=>a.fr f (by simp)) λo hk f=>⟨hk.new _ _,?_⟩
  rw[e0];exact Cl.made
 have fH:J KQ p m H2:=by
  rw[im];refine fv.nB _ _ 1 OQ λo hk f=>⟨hk.1.new _ _,hk.2.new,?_⟩
  rw[e1, ←l1];exact Cl.made
 have bx:=CH op H;rw[←e0, ←fV] at bx;have n1:aS H1 47 1 [cv 0,.bool false,cv 0,cv 0,cv 0,aA]=(pv i1,H2):=by rw[im,e1, ←l1];rfl
 have oa: ∀{m':Nat} {H':aa},J KQ p m' H'→aq (pv i0) H'=some (cv op.kind)∧aq (.pointer (some ⟨i0,1,none⟩)) H'=some (cv op.key)∧cZ 3 (pv i0) H'=some (jj op):=λhj=>by
  obtain⟨_,o,_,_,g,_⟩:=hj;exact⟨ao i0 0 _ g.1,ao i0 1 _ g.1,PO g.1⟩
 let KE:eI→Value→aa→aj→Prop:=λr s H' o=>Fr H b H' o [t,t-1,t-2,(p:Int)]∧Cl i1 (LF r s) 47 H' o∧gN H' o (t-1) s r.list
 have hKE: ∀r s,bJ [(p:Int)] (KE r s):=λr s=>(bJ.base (by simp)).and ((show bJ _ _ from λH o H' o' a f=>a.fr f (by simp)).and λH o H' o' a f=>a.fr f (by simp;omega))
 have fin: ∀{m':Nat} {H':aa} (r:eI) (s:Value),(∃a m c,s= .slice a m c)→J (λH o=>KQ H o∧gN H o (t-1) s r.list) p m' H'→∃H3,bD 6 (pv i1) (gj r s) H'=some (undef,H3)∧cZ 6 (pv i1) H3=some (gj r s)∧J (KE r s) p m' H3:=λ{m' H'} r s uV hj=>by
  obtain⟨a,mm,cc,es⟩:=uV;obtain⟨_,o',sC,kt,Uh⟩:=hj;have f:Fr H' o' (H'.put i1 ⟨LF r s,47,1,false⟩) o' [-9]:=(Fr.refl _ o' [-9]).put λ_=>by simp[kt.2.2.2]
  exact⟨_,tD i1 r es _ kt.2.2.1 rfl,pQ _ _ _ (aG kt.2.2.1),hKE r s,o',sC.fr f (by simp) (by simp) (by simp),kt.1.put λhh=>by omega,kt.2.2.self,Uh.fr f (by simp;omega)⟩
 have out: ∀{m':Nat} {H':aa} {r:eI} {s:Value},J (KE r s) p m' H'→J (λH o=>K H o∧gN H o (-41) s r.list) p m' H':=λ{m' H' r s} hj=>by
  obtain⟨_,o,uD,hf,hc,hs⟩:=hj;have f3:Fr H b H' o [(p:Int)]:=iD (iD (iD hf λi hi=>by have:=htf i hi;omega) λi hi=>by have:=htf i hi;omega) λi hi=>by have:=htf i hi;omega
  let o':aj:=λi=>if o i=t-1 then -41 else o i
  refine⟨hK.and (bJ.kq (by simp)),o',uD.relabel λi hi hh=>?_,hK _ _ _ _ hk ⟨f3.slot,λi hi=>?_,f3.size⟩,hs.relabel λi hi hh=>?_⟩
  ·show(if o i=t-1 then(-41:Int) else o i)=o i
   rw[if_neg (by omega)]
  ·show(if o i=t-1 then(-41:Int) else o i)=b i
   have:=f3.own i hi
   have:=htf i hi
   rw[if_neg (by omega)];exact f3.own i hi
  ·show(if o i=t-1 then(-41:Int) else o i)= -41
   rw[if_pos hh]
 have Xs: ∀{m':Nat} {H':aa} (r:eI),r.list=[]→J KQ p m' H'→∃H3,bD 6 (pv i1) (gj r aA) H'=some (undef,H3)∧cZ 6 (pv i1) H3=some (gj r aA)∧J (KE r aA) p m' H3:=λr hl hj=>fin r aA ⟨_,_,_,rfl⟩ (hj.mono (OQ.and (bJ.kq (by simp;omega))) λo a=>⟨a,by rw[hl];exact .nil⟩)
 obtain⟨a0,a1,a2⟩:=oa fH;simp -implicitDefEqProofs only[Wq,bx,n1,a0,Nat.add_zero,sS,Nat.reduceAdd];refine Ev.eql (λhq=>?_) (λhq=>?_)<;>try simp -implicitDefEqProofs only[a1,sS,Nat.reduceAdd]
 ·refine Ev.acB (Xo fH _) λz zb Hz mz hj hm=>?_
  obtain⟨b0,b1,b2⟩:=oa hj;cases zb<;>simp -implicitDefEqProofs only[b1,sS,Nat.reduceAdd]
  ·obtain⟨H3,c1,c2,gA⟩:=Xs bQ rfl hj;simp -implicitDefEqProofs only[CI,c1,c2,sS,Nat.reduceAdd];exact Ev.ret ⟨_,_,rfl,by simp[bQ],_,out gA,by omega⟩
  ·obtain⟨H3,c1,c2,gA⟩:=Xs (Li (op.key,z,true)) (tF _) hj;simp -implicitDefEqProofs only[yS,Xh,c1,c2,sS,Nat.reduceAdd];exact Ev.ret ⟨_,_,rfl,by rw[tF];simp,_,out gA,by omega⟩
 refine Ev.loop (k:=m) (λk vs Hx=>∃(i:Int) (aI x8 bA x7 dr aC cx eO:Value),J KQ p k Hx∧k≤m∧vs=[pv p,jj op,cv bud,pv i1,pv i0,aI,x8,bA,x7,cv i,dr,aC,cx,eO])
  (λr=>∃(m2:Nat) (aI x8 bA x7 x9 dr aC cx eO:Value),m2≤m∧r.2.1=[pv p,jj op,cv bud,pv i1,pv i0,aI,x8,bA,x7,x9,dr,aC,cx,eO]∧((r.1= .exit 0∧J KQ p m2 r.2.2)∨(r.1= .ret∧∃rr s,J (KE rr s) p m2 r.2.2∧rr.list.length≤m))) ⟨_,_,_,_,_,_,_,_,_,fH,Nat.le_refl _,rfl⟩ ?_ ?_
 ·rintro k vs Hx ⟨i,aI,x8,bA,x7,dr,aC,cx,eO,hj,hkm,rfl⟩;obtain⟨b0,b1,b2⟩:=oa hj;simp -implicitDefEqProofs only[Kt,yb,sS,Nat.reduceAdd];refine Ev.lss (λhq=>?_) (λhq=>?_)<;>try simp -implicitDefEqProofs only[sS,Nat.reduceAdd]
  ·refine Ev.off hj (λhq0=>?_) (λhq0=>?_)<;>try simp -implicitDefEqProofs only[b2,sS,Nat.reduceAdd]
   ·exact Ev.ret (.inr ⟨by simp,_,_,_,_,_,_,_,_,_,_,hkm,rfl,.inl ⟨rfl,hj⟩⟩)
   refine Ev.call (Sd ht ⟨by omega,by omega,by omega⟩ hKQ hj op) ?_
   rintro v H3 ⟨w,s,rfl,hj⟩
   try simp -implicitDefEqProofs only[sS,Nat.reduceAdd]
   refine Ev.gw (LD ht hKQ (c:=m) hM (k+1) hj (by omega) (by simp;omega) (by simp;omega) _) λz lp ls m2 H4 hj I2 g1 g2=>?_
   have hjq:=hj.mono OQ λo a=>a.1
   try simp -implicitDefEqProofs only[sS,Nat.reduceAdd]
   refine Ev.off hj (λkt=>?_) (λkt=>?_)<;>try simp -implicitDefEqProofs only[sS,Nat.reduceAdd]
   ·exact Ev.ret (.inr ⟨by simp,_,_,_,_,_,_,_,_,_,_,(show m2≤m by omega),rfl,.inl ⟨rfl,hjq⟩⟩)
   obtain⟨xp,xs,Sf⟩:=KW.ex hj ht hKQ;have ldx: ∀{m':Nat} {H':aa},J (KWx KQ t (t-1) (t-2) w s xp xs lp ls) p m' H'→aq (.pointer (some ⟨w,6,none⟩)) H'=some xs∧aq (.pointer (some ⟨w,5,none⟩)) H'=some xp∧cZ 3 (pv i0) H'=some (jj op):=λhj=>by
    obtain⟨_,o,_,hx⟩:=hj;obtain⟨ty,g⟩:=hx.g;exact⟨ao w 6 _ g,ao w 5 _ g,PO hx.k.2.1.1⟩
   obtain⟨c0,c1,c2⟩:=ldx Sf;simp -implicitDefEqProofs only[c0,sS,Nat.reduceAdd];refine Ev.bool (Sb Sf (λH o a=>a.ss.r) (by omega) (by omega)) λz Hz mz LY hmz=>?_
   have acG:=LY.mono OQ λo a=>a.k
   obtain⟨d0,d1,d2⟩:=ldx LY;cases z<;>simp -implicitDefEqProofs only[d1,d2,sS,Nat.reduceAdd]
   ·exact Ev.ret (.inl ⟨rfl,mz,by omega,_,_,_,_,_,_,_,_,_,acG,by omega,rfl⟩)
   ·refine Ev.call (OP LY (λH o a=>a.sp.r) (by omega) op) ?_
    rintro v H5 ⟨r,s',rfl,kh,PB⟩;have YV: ∃a m c,s'= .slice a m c:=by
     rcases PB with⟨rfl,_⟩|⟨rfl,_⟩
     ·obtain⟨_,o,_,hx⟩:=Sf;obtain⟨a,c,e⟩:=hx.sp.r.isSlice;exact⟨a,_,c,e⟩
     ·exact⟨_,_,_,rfl⟩
    have n8:J (λH o=>KQ H o∧gN H o (t-1) s' r.list) p mz H5:=kh.mono (OQ.and (bJ.kq (by simp;omega))) λo a=>⟨a.k,by
     rcases PB with⟨rfl,e⟩|⟨rfl,e⟩
     ·rw[e];exact a.sp.r
     ·rw[e];exact .nil⟩
    obtain⟨H6,g5,g6,CE⟩:=fin r s' YV n8;simp -implicitDefEqProofs only[g5,sS,Nat.reduceAdd];refine Ev.ret (.inr ⟨by simp,_,_,_,_,_,_,_,_,_,_,(show mz≤m by omega),rfl,.inr ⟨rfl,r,s',CE,?_⟩⟩)
    rcases PB with⟨_,e⟩|⟨_,e⟩
    ·rw[e];omega
    ·rw[e];simp
  ·exact Ev.ret (.inr ⟨by simp,_,_,_,_,_,_,_,_,_,_,hkm,rfl,.inl ⟨rfl,hj⟩⟩)
 ·rintro e vs Hx ⟨m2,aI,x8,bA,x7,x9,dr,aC,cx,eO,hm,rfl,he⟩;rcases he with⟨he,hj⟩|⟨he,rr,s,hj,hl⟩
  ·simp only at he;subst he;obtain⟨H6,g5,g6,kh⟩:=Xs (lE 9) rfl hj;simp -implicitDefEqProofs only[Ks,ya,Lj,g5,g6,sS,Nat.reduceAdd];exact Ev.ret ⟨_,_,rfl,by simp[lE],_,out kh,hm⟩
  ·simp only at he;subst he;obtain⟨_,o1,_,_,hc,_⟩:=id hj;have TF:=pQ i1 rr (s:=s) Hx hc.1;show Ev (λ_=>af (pS (iY Tryz.prog 47 (pv i1) Hx) Hx) λv _=>some (v,Hx)) _
   simp -implicitDefEqProofs only[Xm,TF,sS,Nat.reduceAdd];exact Ev.ret ⟨_,_,rfl,hl,_,out hj,hm⟩
end
section
variable {G:ae} {H H':aa} {o o':aj} {p m c:Nat} {K K':aa→aj→Prop} {t q:Int} {x:Value} {l:PL} {n i:Nat} {cs:List Value} {T:TypeId}
abbrev ac (bud:Int)(op:jY):List Value:=[cv 0,cv bud,cv 0,cv 0,cv 0,cv 0,cv 0,.bool false,cv 0,.bool false,aA,aA,aA,aA,aA,cv 0,cv 0,cv 0,cv op.kind,cv op.key,cv op.value]
abbrev oc (r:eI)(s:Value):List Value:=[cv 0,.bool false,cv 0,cv 0,cv 0,aA,aA,cv r.D5,.bool r.found,cv r.key,cv r.value,cv r.n,s]
abbrev fc (proc bud:Int)(op:jY)(tape:Value)(done:Bool)(r:eI)(s:Value)(rec laid:Int):List Value:=cv proc::(ac bud op++tape:: .bool done::(oc r s++[cv rec,cv laid]))
theorem Iv:aF Tryz.prog 49 []=some (.agg (oc bQ aA).toArray):=by kernel_rfl
theorem uk (i:Nat)(r:eI){s:Value}{a:Option Addr}{k c:Nat}(es:s= .slice a k c)(r0:eI)(s0:Value){T:TypeId}(H:aa)(h:H.get i=some ⟨oc r0 s0,T,1,false⟩):bD 13 (pv i) (.agg (oc r s).toArray) H=some (undef,H.put i ⟨oc r s,T,1,false⟩):=by
 subst es;simp[bD,bW,h,Value.cells,known,aD,dt]
theorem yY (i:Nat)(r:eI)(s:Value){T:TypeId}(H:aa)(h:H.get i=some ⟨oc r s,T,1,false⟩):cZ 13 (pv i) H=some (.agg (oc r s).toArray):=by
 simp[cZ,aR,h]
theorem OR (i:Nat)(r:eI){s:Value}{a:Option Addr}{k c:Nat}(es:s= .slice a k c)(r0:eI)(s0:Value){T:TypeId}(H:aa)(h:H.get i=some ⟨oc r0 s0,T,1,false⟩):bD 6 (.pointer (some ⟨i,7,none⟩)) (gj r s) H=some (undef,H.put i ⟨oc r s,T,1,false⟩):=by
 subst es;simp[bD,bW,h,Value.cells,known,aD,dt]
theorem OS (i:Nat)(bud:Int)(op:jY)(b0:Int)(op0:jY){T:TypeId}(H:aa)(h:H.get i=some ⟨ac b0 op0,T,1,false⟩):bD 21 (pv i) (.agg (ac bud op).toArray) H=some (undef,H.put i ⟨ac bud op,T,1,false⟩):=by
 simp[bD,bW,h,Value.cells,known,aD,dt]
theorem Ge (f:Nat)(proc bud:Int)(op:jY)(tape:Value)(done:Bool)(r:eI)(s:Value)(rec laid:Int){T:TypeId}(H:aa)(h:H.get f=some ⟨fc proc bud op tape done r s rec laid,T,1,false⟩):cZ 21 (.pointer (some ⟨f,1,none⟩)) H=some (.agg (ac bud op).toArray):=by
 simp[cZ,aR,h]
theorem OT (i:Nat)(bud:Int)(op:jY){T:TypeId}(H:aa)(h:H.get i=some ⟨ac bud op,T,1,false⟩):cZ 3 (.pointer (some ⟨i,18,none⟩)) H=some (jj op):=by
 simp[cZ,aR,h]
structure KH (B:aa) (b:aj) (p i0 i1 i2:Nat) (bud:Int) (op:jY) (r2:eI) (s2:Value) (H:aa) (o:aj):Prop where
 fr:Fr B b H o [(p:Int)]
 k0:Cl i0 (oc bQ aA) 49 H o
 k1:Cl i1 (ac bud op) 41 H o
 k2:Cl i2 (oc r2 s2) 49 H o
 sl:gN H o (-41) s2 r2.list
theorem KH.eU {B:aa}{b:aj}{i0 i1 i2:Nat}{bud:Int}{op:jY}{r2:eI}{s2:Value}:bJ [(p:Int)] (KH B b p i0 i1 i2 bud op r2 s2):=λH o H' o' h f=>⟨h.fr.tr f,h.k0.fr f (by simp),h.k1.fr f (by simp),h.k2.fr f (by simp),h.sl.fr f (by simp)⟩
abbrev KB (B:aa)(b:aj)(p:Nat)(s:Value)(l:PL):aa→aj→Prop:=λH o=>Fr B b H o [(p:Int)]∧gN H o (-41) s l
theorem Xt {b:aj}{f:Nat}{proc bud:Int}{op:jY}{tape:Value}{done:Bool}{r0:eI}{s0:Value}{rec laid:Int}{T:TypeId}(hr:zT H b p m)(hM:m≤2147483648)(hf:H.get f=some ⟨fc proc bud op tape done r0 s0 rec laid,T,1,false⟩)(Gf:b f≠p)(hp:proc=25):
  aE (run G) 97 [pv f,pv p] H λv H'=>∃r s m',v= .agg (oc r s).toArray∧r.list.length≤m∧J (KB H b p s r.list) p m' H':=by
 refine Ev.up (t:=λk=>Zu (run G k) k (pv f) (pv p) H) ?_ λk=>Nl ..
 obtain⟨i0,e0⟩: ∃i,i=H.length:=⟨_,rfl⟩;obtain⟨i1,e1⟩: ∃i,i=H.length+1:=⟨_,rfl⟩;obtain⟨i2,e2⟩: ∃i,i=H.length+2:=⟨_,rfl⟩;have EG:=ar hf;obtain⟨H1,fV⟩: ∃z,z=H.new ⟨oc bQ aA,49,1,false⟩:=⟨_,rfl⟩;have l1:H1.length=H.length+1:=by rw[fV,cA]
 obtain⟨H2,im⟩: ∃z,z=H1.new ⟨ac 0 ⟨0,0,0⟩,41,1,false⟩:=⟨_,rfl⟩;have l2:H2.length=H.length+2:=by rw[im,cA,l1]
 have g2:H2.get i1=some ⟨ac 0 ⟨0,0,0⟩,41,1,false⟩:=by rw[im,e1, ←l1];exact aL
 obtain⟨H3,mo⟩: ∃z,z=H2.put i1 ⟨ac bud op,41,1,false⟩:=⟨_,rfl⟩;have l3:H3.length=H.length+2:=by rw[mo,iC,l2]
 obtain⟨H4,pR⟩: ∃z,z=H3.new ⟨oc bQ aA,49,1,false⟩:=⟨_,rfl⟩;have fv:J (λH' o=>Fr H b H' o [(p:Int)]∧Cl i0 (oc bQ aA) 49 H' o) p m H1:=by
  rw[fV];have OH:J (λH' o=>Fr H b H' o [(p:Int)]) p m H:=⟨bJ.base (by simp),b,hr,Fr.refl _ _ _⟩
  refine OH.nB _ _ 1 ((bJ.base (by simp)).and λH o H' o' a f=>a.fr f (by simp)) λo hk f=>⟨hk.new _ _,?_⟩
  rw[e0];exact Cl.made
 have fH:J (λH' o=>(Fr H b H' o [(p:Int)]∧Cl i0 (oc bQ aA) 49 H' o)∧Cl i1 (ac 0 ⟨0,0,0⟩) 41 H' o) p m H2:=by
  rw[im];refine fv.nB _ _ 1 (fv.1.and λH o H' o' a f=>a.fr f (by simp)) λo hk f=>⟨⟨hk.1.new _ _,hk.2.new⟩,?_⟩
  rw[e1, ←l1];exact Cl.made
 have gA:J (λH' o=>(Fr H b H' o [(p:Int)]∧Cl i0 (oc bQ aA) 49 H' o)∧Cl i1 (ac bud op) 41 H' o) p m H3:=by
  rw[mo];refine fH.tH (λo hg=>hg.2) (fv.1.and λH o H' o' a f=>a.fr f (by simp)) λo hg=>⟨⟨hg.1.1.put λhh=>by omega,hg.1.2.put (by omega)⟩,hg.2.self⟩
 have iW:J (KH H b p i0 i1 i2 bud op bQ aA) p m H4:=by
  rw[pR];refine gA.nB _ _ 1 KH.eU λo hk f=>⟨hk.1.1.new _ _,hk.1.2.new,hk.2.new,?_,.nil⟩
  rw[e2, ←l3];exact Cl.made
 have n0:aS H 49 1 [cv 0,.bool false,cv 0,cv 0,cv 0,aA,aA,cv 0,.bool false,cv 0,cv 0,cv 0,aA]=(pv i0,H1):=by rw[fV,e0];rfl
 have n1:aS H1 41 1 [cv 0,cv 0,cv 0,cv 0,cv 0,cv 0,cv 0,.bool false,cv 0,.bool false,aA,aA,aA,aA,aA,cv 0,cv 0,cv 0,cv 0,cv 0,cv 0]=(pv i1,H2):=by rw[im,e1, ←l1];rfl
 have n2:aS H3 49 1 [cv 0,.bool false,cv 0,cv 0,cv 0,aA,aA,cv 0,.bool false,cv 0,cv 0,cv 0,aA]=(pv i2,H4):=by rw[pR,e2, ←l3];rfl
 have kO: ∀{H':aa} {o':aj},Fr H b H' o' [(p:Int)]→H'.get f=some ⟨fc proc bud op tape done r0 s0 rec laid,T,1,false⟩:=λfr=>by rw[fr.same f EG (by simpa using Gf)];exact hf
 have gf1:H1.get f=some ⟨fc proc bud op tape done r0 s0 rec laid,T,1,false⟩:=by obtain⟨_,o,_,hk⟩:=fv;exact kO hk.1
 have L1:=Ge f proc bud op tape done r0 s0 rec laid H1 gf1;have S1:=OS i1 bud op 0 ⟨0,0,0⟩ H2 g2;rw[←mo] at S1;obtain⟨_,o4,_,Lo⟩:=id iW;have S2:=uk i2 bQ (s:=aA) rfl bQ aA H4 Lo.k2.1;have Xu:H4.put i2 ⟨oc bQ aA,49,1,false⟩=H4:=by
  have hl:=ar Lo.k2.1;have hg:=Lo.k2.1;unfold aa.put;apply List.ext_getElem?;intro k;by_cases e:k=i2
  ·subst e;rw[List.getElem?_set_self hl];unfold aa.get at hg;cases hx:H4[k]? with
   |none=>rw[hx] at hg;cases hg
   |some z=>rw[hx] at hg;cases z<;>simp_all
  ·rw[List.getElem?_set_ne (Ne.symm e)]
 rw[Xu] at S2;have Lp:aq (pv f) H4=some (cv proc):=ao f 0 H4 (kO Lo.fr);have oa: ∀{r2:eI} {s2:Value} {m':Nat} {H':aa},J (KH H b p i0 i1 i2 bud op r2 s2) p m' H'→aq (.pointer (some ⟨i1,18,none⟩)) H'=some (cv op.kind)∧aq (.pointer (some ⟨i1,1,none⟩)) H'=some (cv bud)∧cZ 3 (.pointer (some ⟨i1,18,none⟩)) H'=some (jj op):=λhj=>by
  obtain⟨_,o,_,hg⟩:=hj;exact⟨ao i1 18 _ hg.k1.1,ao i1 1 _ hg.k1.1,OT _ _ _ _ hg.k1.1⟩
 have set: ∀{m':Nat} {H':aa} (r:eI) (s:Value),J (λH o=>KH H4 o4 p i0 i1 i2 bud op bQ aA H o) p m' H'→True:=λ_ _ _=>trivial
 have fin: ∀{r2:eI} {s2:Value} {m':Nat} {H':aa} (r:eI) (s:Value),(∃a k c,s= .slice a k c)→J (λH' o=>KH H b p i0 i1 i2 bud op r2 s2 H' o∧gN H' o (-41) s r.list) p m' H'→∃H3,bD 6 (.pointer (some ⟨i2,7,none⟩)) (gj r s) H'=some (undef,H3)∧J (KH H b p i0 i1 i2 bud op r s) p m' H3:=λ{r2 s2 m' H'} r s uV hj=>by
  obtain⟨a,k,c,es⟩:=uV;obtain⟨_,o,uD,hg,hs⟩:=id hj;refine⟨_,OR i2 r es r2 s2 H' hg.k2.1,hj.tH (λo hg=>hg.1.k2) KH.eU λo hg=>⟨hg.1.fr.put λhh=>by omega,hg.1.k0.put (by omega),hg.1.k1.put (by omega),hg.1.k2.self,hg.2.fr ((Fr.refl H' o [-9]).put λ_=>by simp[hg.1.k2.2]) (by simp)⟩⟩
 have J0: ∀{r2:eI} {s2:Value} {m':Nat} {H':aa} (aT aW x5 bF cr cj dv eO eQ mc:Value),(∃a k c,s2= .slice a k c)→r2.list.length≤m→J (KH H b p i0 i1 i2 bud op r2 s2) p m' H'→Ev (λk=>ka (run G k) k [pv f,pv p,pv i0,aT,aW,x5,pv i2,bF,cr,cj,dv,eO,eQ,mc] H') λr=>∃rr s m',r.1= .agg (oc rr s).toArray∧rr.list.length≤m∧J (KB H b p s rr.list) p m' r.2:=by
  intro r2 s2 m' H' aT aW x5 bF cr cj dv eO eQ mc uV hl hj;obtain⟨a,k,c,es⟩:=uV;obtain⟨_,o,uD,hg⟩:=id hj;have A1:=yY i2 r2 s2 H' hg.k2.1;have A2:=uk i0 r2 es bQ aA H' hg.k0.1;have A3:=yY i0 r2 s2 (T:=49) _ (aG (c:=⟨oc r2 s2,49,1,false⟩) hg.k0.1);simp -implicitDefEqProofs only[DP,vf,A1,A2,A3,sS,Nat.reduceAdd];refine Ev.ret ⟨r2,s2,m',rfl,hl,hj.tH (λo hg=>hg.k0) ((bJ.base (by simp)).and (bJ.kq (by simp))) λo hg=>⟨hg.fr.put λhh=>by omega,hg.sl.fr ((Fr.refl H' o [-9]).put λ_=>by simp[hg.k0.2]) (by simp)⟩⟩
 have acH: ∀{r2:eI} {s2:Value} {m':Nat} {H':aa} (r:eI),r.list=[]→J (KH H b p i0 i1 i2 bud op r2 s2) p m' H'→J (λH' o=>KH H b p i0 i1 i2 bud op r2 s2 H' o∧gN H' o (-41) aA r.list) p m' H':=λr hl hj=>hj.mono (KH.eU.and (bJ.kq (by simp))) λo a=>⟨a,by rw[hl];exact .nil⟩
 have err: ∀(w:Int),∃H3,bD 6 (.pointer (some ⟨i2,7,none⟩)) (gj (lE w) aA) H4=some (undef,H3)∧J (KH H b p i0 i1 i2 bud op (lE w) aA) p m H3:=λw=>fin (lE w) aA ⟨_,_,_,rfl⟩ (acH _ rfl iW)
 obtain⟨a0,a1,a2⟩:=oa iW;simp -implicitDefEqProofs only[Zu,n0,L1,n1,S1,Iv,n2,S2,Lp,Nat.add_zero,sS,Nat.reduceAdd];refine Ev.eql (λhq=>?_) (λhq=>?_)<;>try simp -implicitDefEqProofs only[sS,Nat.reduceAdd]
 ·omega
 refine Ev.eql (λhq=>?_) (λhq=>?_)<;>try simp -implicitDefEqProofs only[sS,Nat.reduceAdd]
 ·omega
 refine Ev.eql (λhq=>?_) (λhq=>?_)<;>try simp -implicitDefEqProofs only[sS,Nat.reduceAdd]
 ·omega
 refine Ev.eql (λhq=>?_) (λhq=>?_)<;>try simp -implicitDefEqProofs only[a0,Nat.add_zero,sS,Nat.reduceAdd]
 ·omega
 refine Ev.eql (λhq=>?_) (λhq=>?_)<;>try simp -implicitDefEqProofs only[a0,Nat.add_zero,sS,Nat.reduceAdd]
 ·have hqu:Ev (λk=>af (run G k 128 [pv p,jj op,cv bud] H4) λy Hy=>af (bD 6 (.pointer (some ⟨i2,7,none⟩)) y Hy) λ_ Hy=>ka (run G k) k [pv f,pv p,pv i0,cv proc,.bool false,pv i1,pv i2,.bool false,.bool false,.bool false,undef,.bool true,.bool false,.bool false] Hy) λr=>∃rr s m',r.1= .agg (oc rr s).toArray∧rr.list.length≤m∧J (KB H b p s rr.list) p m' r.2:=by
   refine Ev.call (Se iW hM op bud) ?_;rintro v H5 ⟨r,s,rfl,hl,m',hj,hm⟩;have uV: ∃a k c,s= .slice a k c:=by
    obtain⟨_,o,_,_,hs⟩:=hj;obtain⟨a,c,e⟩:=hs.isSlice;exact⟨a,_,c,e⟩
   obtain⟨H6,g6,n8⟩:=fin r s uV hj;simp -implicitDefEqProofs only[g6,sS,Nat.reduceAdd];exact J0 _ _ _ _ _ _ _ _ _ _ uV hl n8
  have er5: ∀w,Ev (λk=>af (bD 6 (.pointer (some ⟨i2,7,none⟩)) (gj (lE w) aA) H4) λ_ Hy=>some (undef,Hy)) λr=>J (KH H b p i0 i1 i2 bud op (lE w) aA) p m r.2:=λw=>by
   obtain⟨H6,g6,n8⟩:=err w;simp -implicitDefEqProofs only[g6,sS,Nat.reduceAdd];exact Ev.ret n8
  refine Ev.lss (λhq=>?_) (λhq=>?_)<;>try simp -implicitDefEqProofs only[a0,Nat.add_zero,sS,Nat.reduceAdd]
  ·obtain⟨H6,g6,n8⟩:=err 5;simp -implicitDefEqProofs only[Lj,g6,sS,Nat.reduceAdd];exact J0 _ _ _ _ _ _ _ _ _ _ ⟨_,_,_,rfl⟩ (by simp[lE]) n8
  refine Ev.gtr (λhq=>?_) (λhq=>?_)<;>try simp -implicitDefEqProofs only[a1,sS,Nat.reduceAdd]
  ·obtain⟨H6,g6,n8⟩:=err 5;simp -implicitDefEqProofs only[Lj,g6,sS,Nat.reduceAdd];exact J0 _ _ _ _ _ _ _ _ _ _ ⟨_,_,_,rfl⟩ (by simp[lE]) n8
  refine Ev.lss (λhq=>?_) (λhq=>?_)<;>try simp -implicitDefEqProofs only[a1,sS,Nat.reduceAdd]
  ·obtain⟨H6,g6,n8⟩:=err 2;simp -implicitDefEqProofs only[Lj,g6,sS,Nat.reduceAdd];exact J0 _ _ _ _ _ _ _ _ _ _ ⟨_,_,_,rfl⟩ (by simp[lE]) n8
  refine Ev.gtr (λhq=>?_) (λhq=>?_)<;>try simp -implicitDefEqProofs only[a2,a1,sS,Nat.reduceAdd]
  ·obtain⟨H6,g6,n8⟩:=err 2;simp -implicitDefEqProofs only[Lj,g6,sS,Nat.reduceAdd];exact J0 _ _ _ _ _ _ _ _ _ _ ⟨_,_,_,rfl⟩ (by simp[lE]) n8
  ·exact hqu
 ·omega
end
end Go.Proofs.YtgfgglponbmgmaaGreat.Fun.R
end
