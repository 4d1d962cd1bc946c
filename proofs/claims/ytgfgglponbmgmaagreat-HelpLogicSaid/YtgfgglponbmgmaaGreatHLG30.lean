/- Texts of the proof of helpLogic_holds, put together by a small program of ours (names shortened, spaces taken out). No condition beyond the given statement. -/
import Derived.Test.YtgfgglponbmgmaaGreatHLG12
import Derived.Test.YtgfgglponbmgmaaGreatHLG13
import Derived.Test.YtgfgglponbmgmaaGreatHLG11
import Derived.Test.YtgfgglponbmgmaaGreatHLG17
import Derived.Test.YtgfgglponbmgmaaGreatHLG29
import Derived.Test.YtgfgglponbmgmaaGreatHLG15
set_option linter.unusedVariables false
set_option linter.unusedSimpArgs false
set_option linter.unnecessarySimpa false
noncomputable section
section
namespace Go.Proofs.YtgfgglponbmgmaaGreat.Fun.R
open Go Go.RowKit Go.Proofs.YtgfgglponbmgmaaGreatA.Am
set_option maxRecDepth 10000
section
variable {G:ae} {H H':aa} {o o':aj} {p m:Nat} {K K':aa→aj→Prop}
def zT (H:aa)(o:aj)(p m:Nat):Prop:=
 ∃(tape w:Value) (T W:List Int) (i:Nat) (nk na nx ny rec laid:Int) (ty:TypeId),
  H.get p=some ⟨[tape,cv i,.bool (decide (m=0)),cv nk,cv na,cv nx,cv ny,w,cv rec,cv laid],ty,1,false⟩∧o p=p∧
  dV H o (-50) tape T∧T.length≤1048576∧dV H o (-51) w W∧(m≠0→i≤T.length∧m=T.length-i+1)∧(nk=0∨nk=1)
theorem zT.fr {ps:List Int}(h:zT H o p m)(f:Fr H o H' o' ps)(h1:(p:Int) ∉ ps)(h2:(-50:Int) ∉ ps)(h3:(-51:Int) ∉ ps):zT H' o' p m:=by
 obtain⟨tape,w,T,W,i,nk,na,nx,ny,rec,laid,ty,g,ho,ht,hT,hw,hi⟩:=h;exact⟨tape,w,T,W,i,nk,na,nx,ny,rec,laid,ty,by rw[f.same p (ar g) (by rw[ho];exact h1)];exact g,by rw[f.own p (ar g)];exact ho,ht.fr f h2,hT,hw.fr f h3,hi⟩
def J (K:aa→aj→Prop)(p m:Nat)(H:aa):Prop:=bJ [(p:Int)] K∧∃o,zT H o p m∧K H o
def JW (K:aa→aj→Prop)(p m:Nat)(H:aa)(w:Value):Prop:=bJ [(p:Int)] K∧∃o,zT H o p m∧K H o∧∃l,dV H o (-51) w l
theorem J.mono {L:aa→aj→Prop}(h:J K p m H)(hL:bJ [(p:Int)] L)(k: ∀o,K H o→L H o):J L p m H:=by
 obtain⟨hK,o,h1,h2⟩:=h;exact⟨hL,o,h1,k o h2⟩
theorem J.FQ (h:J K p m H):JW K p m H (.slice none 0 0):=by
 obtain⟨hK,o,h1,h2⟩:=h;exact⟨hK,o,h1,h2,[],.nil⟩
theorem J.off (h:J K p m H):aq (.pointer (some ⟨p,2,none⟩)) H=some (.bool (decide (m=0))):=by
 obtain⟨hK,o,⟨tape,w,T,W,i,nk,na,nx,ny,rec,laid,ty,g,_⟩,_⟩:=h;exact ao p 2 H g
theorem aam {k a x y:Int}{w:Value}(h:JW K p m H w)(Dh:k=1):
  aE (run G) 160 [pv p,nm k a x y w] H λv H'=>∃z,v=cv z∧J K p (m-1) H':=by
 obtain⟨hK,o,⟨tape,w0,T,W,i,nk,na,nx,ny,rec,laid,ty,g,ho,ht,hT,RJ,hi,hnk⟩,hk,l,hw⟩:=h;obtain⟨wb,wc,ew⟩:=hw.1.isSlice;obtain⟨tb,tc,et⟩:=ht.1.isSlice;obtain⟨H1,e1⟩: ∃z,z=H.new ⟨[cv k,cv a,cv x,cv y,w],112,1,false⟩:=⟨_,rfl⟩;have bx:=Cr k a x y (b:=wb) (n:=l.length) (c:=wc) H;rw[←ew, ←e1] at bx;have hp:=ar g;obtain⟨o1,eo1⟩: ∃z,z=o.up H.length (-9):=⟨_,rfl⟩;have f1:Fr H o H1 o1 []:=by rw[e1,eo1];exact(Fr.refl H o []).new _ _
 have g1:H1.get p=some ⟨[tape,cv i,.bool (decide (m=0)),cv nk,cv na,cv nx,cv ny,w0,cv rec,cv laid],ty,1,false⟩:=by rw[e1,df hp];exact g
 have gb:H1.get H.length=some ⟨[cv k,cv a,cv x,cv y,w],112,1,false⟩:=by rw[e1];exact aL
 have IZ:o1 p=p:=by rw[f1.own p hp];exact ho
 have L2:=ao p 2 H1 g1;have L1:=ao p 1 H1 g1;have L0:=ao p 0 H1 g1;simp only[List.getElem?_cons_succ,List.getElem?_cons_zero] at L2 L1 L0;have tl:=ht.1.len;by_cases m0:m=0
 ·subst m0;refine aE.is (v:=cv 0) (H':=H1) (λn=>?_) ⟨0,rfl,hK,o1,⟨tape,w0,T,W,i,nk,na,nx,ny,rec,laid,ty,g1,IZ,ht.fr f1 (by simp),hT,RJ.fr f1 (by simp),by simp,hnk⟩,hK _ _ _ _ hk (f1.wk (by simp))⟩
  rw[pg];simp -implicitDefEqProofs [FC,bx,AJ,gQ,L2]
 ·obtain⟨hi1,hm⟩:=hi m0;have dm:decide (m=0)=false:=by simp[m0]
  rw[dm] at L2;by_cases gB:i<T.length
  ·have FU:(i:Int)<T.length:=by omega
   obtain⟨H2,e2⟩: ∃z,z=H1.put p ⟨[tape,cv (i+1:Nat),.bool (decide (m=0)),cv nk,cv na,cv nx,cv ny,w0,cv rec,cv laid],ty,1,false⟩:=⟨_,rfl⟩;have Br:IntKind.i64.wrap ((i:Int)+1)=((i+1:Nat):Int):=by rw[fL (by omega)];omega
   have uA:IntKind.i64.wrap (((i+1:Nat):Int)-1)=(i:Int):=by rw[fL (by omega)];omega
   have S1:=gR p 1 ((i+1:Nat):Int) H1 g1 rfl (by simp)
   simp only[List.set_cons_succ,List.set_cons_zero] at S1;rw[←e2] at S1;have g2:H2.get p=some ⟨[tape,cv (i+1:Nat),.bool (decide (m=0)),cv nk,cv na,cv nx,cv ny,w0,cv rec,cv laid],ty,1,false⟩:=by rw[e2];exact aG g1
   have f2:Fr H o H2 o1 [(p:Int)]:=by rw[e2];exact(f1.wk (by simp)).put λ_=>by simp[ho]
   have Cw:=ht.fr f2 (by simp)
   obtain⟨q,off,b,ZJ,hb,ZK⟩:=Cw.1.idx gB;have ZL:=ao p 1 H2 g2;have ZM:=ao p 0 H2 g2;simp only[List.getElem?_cons_succ,List.getElem?_cons_zero] at ZL ZM;have LT:=ao q off H2 hb;rw[ZK] at LT;refine aE.is (v:=cv (T.getD i 0)) (H':=H2) (λn=>?_) ⟨_,rfl,hK,o1,⟨tape,w0,T,W,i+1,nk,na,nx,ny,rec,laid,ty,by rw[g2];congr 3;simp;omega,IZ,Cw,hT,RJ.fr f2 (by simp),λ_=>by omega,hnk⟩,hK _ _ _ _ hk f2⟩
   rw[pg];simp -implicitDefEqProofs [-Int.natCast_add,FC,bx,AJ,gQ,L2,L1,L0,tl,r7,FU,Ib,Ic,Br,uA,S1,ZL,ZM,ZJ,LT]
  ·have FU: ¬(i:Int)<T.length:=by omega
   obtain⟨H2,e2⟩: ∃z,z=H1.put p ⟨[tape,cv i,.bool true,cv nk,cv na,cv nx,cv ny,w0,cv rec,cv laid],ty,1,false⟩:=⟨_,rfl⟩;have S1:=r9 p 2 (.bool true) H1 g1 rfl (by simp) rfl rfl rfl
   simp only[List.set_cons_succ,List.set_cons_zero] at S1;rw[←e2] at S1;have g2:H2.get p=some ⟨[tape,cv i,.bool true,cv nk,cv na,cv nx,cv ny,w0,cv rec,cv laid],ty,1,false⟩:=by rw[e2];exact aG g1
   have gb2:H2.get H.length=some ⟨[cv k,cv a,cv x,cv y,w],112,1,false⟩:=by rw[e2,bt (by omega)];exact gb
   have LB:cZ 5 (pv H.length) H2=some (nm k a x y w):=by simp[cZ,aR,gb2]
   obtain⟨H3,e3⟩: ∃z,z=H2.put p ⟨[tape,cv i,.bool true,cv k,cv a,cv x,cv y,w,cv rec,cv laid],ty,1,false⟩:=⟨_,rfl⟩;have S2:bD 5 (.pointer (some ⟨p,3,none⟩)) (nm k a x y w) H2=some (undef,H3):=by
    subst ew;simp[bD,bW,g2,Value.cells,known,aD,dt,e3]
   have g3:H3.get p=some ⟨[tape,cv i,.bool true,cv k,cv a,cv x,cv y,w,cv rec,cv laid],ty,1,false⟩:=by rw[e3];exact aG g2
   have f3:Fr H o H3 o1 [(p:Int)]:=by rw[e3,e2];exact((f1.wk (by simp)).put λ_=>by simp[ho]).put λ_=>by simp[ho]
   refine aE.is (v:=cv 0) (H':=H3) (λn=>?_) ⟨_,rfl,hK,o1,⟨tape,w,T,l,i,k,a,x,y,rec,laid,ty,by rw[g3];congr 3;simp;omega,IZ,ht.fr f3 (by simp),hT,hw.fr f3 (by simp),λ_=>by omega,.inr Dh⟩,hK _ _ _ _ hk f3⟩
   rw[pg];simp -implicitDefEqProofs [FC,bx,AJ,gQ,L2,L1,L0,tl,r7,FU,S1,LB,S2]
abbrev Num (K:aa→aj→Prop)(p c:Nat):Value→aa→Prop:=λv H'=>∃z,v=cv z∧∃m',J K p m' H'∧m'≤c
abbrev Boo (K:aa→aj→Prop)(p c:Nat):Value→aa→Prop:=λv H'=>∃z,v= .bool z∧∃m',J K p m' H'∧m'≤c
abbrev aan (K:aa→aj→Prop)(p c:Nat):Value→aa→Prop:=λv H'=>∃z b,v= .tuple #[cv z,.bool b]∧∃m',J K p m' H'∧m'≤c
abbrev R7 (K:aa→aj→Prop)(p c:Nat):Value→aa→Prop:=λv H'=>∃z b,v= .tuple #[cv z,cv b]∧∃m',J K p m' H'∧m'≤c
section
variable {α:Type} {k:Nat→Value→aa→Option α} {Q:α→Prop} {t:TypeId} {a b:Int} {P:Program} {c:Nat} {C:Nat→ae} {f:Nat} {args:List Value}
theorem Ev.off (h:J K p m H)(h1:m=0→Ev (λn=>k n (.bool true) H) Q)(h2:m≠0→Ev (λn=>k n (.bool false) H) Q):Ev (λn=>af (pS (aq (.pointer (some ⟨p,2,none⟩)) H) H) (k n)) Q:=
 Ev.boo h.off (λe=>h1 (by simpa using e)) (λe=>h2 (by simpa using e))
theorem Ev.num (h:aE C f args H (Num K p c))(hk: ∀z H' m',J K p m' H'→m'≤c→Ev (λn=>k n (cv z) H') Q):Ev (λn=>af (C n f args H) (k n)) Q:=
 Ev.call h λv H' hq=>by obtain⟨z,rfl,m',h1,h2⟩:=hq;exact hk z H' m' h1 h2
theorem Ev.bool (h:aE C f args H (Boo K p c))(hk: ∀z H' m',J K p m' H'→m'≤c→Ev (λn=>k n (.bool z) H') Q):Ev (λn=>af (C n f args H) (k n)) Q:=
 Ev.call h λv H' hq=>by obtain⟨z,rfl,m',h1,h2⟩:=hq;exact hk z H' m' h1 h2
theorem Ev.acB (h:aE C f args H (aan K p c))(hk: ∀z b H' m',J K p m' H'→m'≤c→Ev (λn=>k n (.tuple #[cv z,.bool b]) H') Q):Ev (λn=>af (C n f args H) (k n)) Q:=
 Ev.call h λv H' hq=>by obtain⟨z,b,rfl,m',h1,h2⟩:=hq;exact hk z b H' m' h1 h2
theorem Ev.aao (h:aE C f args H (R7 K p c))(hk: ∀z b H' m',J K p m' H'→m'≤c→Ev (λn=>k n (.tuple #[cv z,cv b]) H') Q):Ev (λn=>af (C n f args H) (k n)) Q:=
 Ev.call h λv H' hq=>by obtain⟨z,b,rfl,m',h1,h2⟩:=hq;exact hk z b H' m' h1 h2
end
theorem Ev.ON {α:Type}{step:Nat→List Value→aa→bn}{kk:Nat→bE→List Value→aa→Option α}{Q:α→Prop}(I:List Value→Prop)(R:bE→List Value→Prop){m:Nat}{vs:List Value}(hj:J K p m H)(hi:I vs)(h: ∀m1 vs H1,J K p m1 H1→m1≤m→I vs→Ev (λn=>step n vs H1) λr=>(r.1= .normal∧(∃m2,J K p m2 r.2.2∧m2<m1)∧I r.2.1)∨(r.1≠ .normal∧(∃m2,J K p m2 r.2.2∧m2≤m1)∧R r.1 r.2.1))(hk: ∀e vs m1 H1,J K p m1 H1→m1≤m→R e vs→Ev (λn=>kk n e vs H1) Q):Ev (λn=>cd (iter n (step n) vs H) (kk n)) Q:=by
 refine Ev.loop (k:=m) (λk vs H1=>J K p k H1∧k≤m∧I vs) (λr=>(∃m2,J K p m2 r.2.2∧m2≤m)∧R r.1 r.2.1) ⟨hj,Nat.le_refl _,hi⟩ ?_ ?_
 ·rintro k vs H1 ⟨h1,h2,h3⟩;refine Ev.mono (h k vs H1 h1 h2 h3) ?_;rintro⟨e,iU,H2⟩ (⟨g1,⟨m2,g2,g3⟩,g4⟩|⟨g1,⟨m2,g2,g3⟩,g4⟩)
  ·exact .inl ⟨g1,m2,g3,g2,by omega,g4⟩
  ·exact .inr ⟨g1,⟨m2,g2,by omega⟩,g4⟩
 ·rintro e vs H1 ⟨⟨m2,g2,g3⟩,g4⟩;exact hk e vs m2 H1 g2 g3 g4
theorem ki (h:J K p m H)(a:Int):aE (run G) 139 [pv p,cv a] H (Num K p (m-1)):=by
 refine Ev.up (t:=λn=>Nw (run G n) n (pv p) (cv a) H) ?_ λn=>Hv ..
 simp -implicitDefEqProofs only[Nw,N9,kC,cO];refine Ev.call (aam h.FQ rfl) ?_;rintro v H' ⟨z,rfl,hj⟩;exact Ev.ret ⟨_,rfl,_,hj,Nat.le_refl _⟩
theorem J.ue (h:J K p m H)(f: ∀o,∃o',Fr H o H' o' []):J K p m H':=by
 obtain⟨hK,o,hr,hk⟩:=h;obtain⟨o',f⟩:=f o;exact⟨hK,o',hr.fr f (by simp) (by simp) (by simp),hK _ _ _ _ hk (f.wk (by simp))⟩
section
variable {i:Nat} {cs:List Value} {T:TypeId}
theorem J.nB (h:J K p m H)(cs:List Value)(T:TypeId)(es:Nat)(R3:bJ [(p:Int)] K')(k: ∀o,K H o→Fr H o (H.new ⟨cs,T,es,false⟩) (o.up H.length (-9)) []→K' (H.new ⟨cs,T,es,false⟩) (o.up H.length (-9))):J K' p m (H.new ⟨cs,T,es,false⟩):=by
 obtain⟨hK,o,hr,hk⟩:=h;have f:Fr H o (H.new ⟨cs,T,es,false⟩) (o.up H.length (-9)) []:=(Fr.refl H o []).new _ _;exact⟨R3,_,hr.fr f (by simp) (by simp) (by simp),k o hk f⟩
theorem J.tH (h:J K p m H){c:eM}(hc: ∀o,K H o→Cl i cs T H o)(R3:bJ [(p:Int)] K')(k: ∀o,K H o→K' (H.put i c) o):J K' p m (H.put i c):=by
 obtain⟨hK,o,hr,hk⟩:=h;have f:Fr H o (H.put i c) o [-9]:=(Fr.refl H o [-9]).put λ_=>by simp[(hc o hk).2]
 exact⟨R3,_,hr.fr f (by simp) (by simp) (by simp),k o hk⟩
theorem J.new (h:J K p m H)(c:eM):J K p m (H.new c):=h.ue λo=>⟨o.up H.length (-9),(Fr.refl H o []).new _ _⟩
end
theorem Iu (h:J K p m H)(a k:Int):aE (run G) 117 [pv p,cv a,cv k] H (R7 K p (m-1)):=by
 refine Ev.up (t:=λn=>NN (run G n) n (pv p) (cv a) (cv k) H) ?_ λn=>HI ..
 simp -implicitDefEqProofs only[NN,sS,Nat.reduceAdd];have L5: ∀(d z:Int) (x6 x7 bl aC bS bR aO cL aN dz fC aI iM fD aM F6 fP:Value) (m1:Nat) (H1:aa),J K p m1 H1→m1≤m-1→(∃i,aM=cv i)→
   Ev (λn=>cd (iter n (vr (run G n) n) [pv p,cv a,cv k,x6,x7,cv d,cv z,bl,aC,bS,bR,aO,cL,aN,dz,fC,aI,iM,fD,aM,F6,fP] H1) (dG 2 (dM (vt (run G n) n) (dX Tryz.prog [.tmp 6,.tmp 7] [0,1,2,6,7,8,9,21,10,29,32,11,41,12,56,68,13,79,88,14,103,112])))) λr=>R7 K p (m-1) r.1 r.2:=by
  rintro d z x6 x7 bl aC bS bR aO cL aN dz fC aI iM fD aM F6 fP m1 H1 fv Mr ⟨i,rfl⟩;refine Ev.ON (λvs=>∃(i:Int) (x6 x7 bl aC bS bR aO cL aN dz fC aI iM fD F6 fP:Value),vs=[pv p,cv a,cv k,x6,x7,cv d,cv z,bl,aC,bS,bR,aO,cL,aN,dz,fC,aI,iM,fD,cv i,F6,fP])
   (λe vs=>(e= .exit 2∨(e= .ret∧∃u,vs[3]? =some (cv d)∧vs[4]? =some (cv u)))∧∃(x6 x7 bl aC bS bR aO cL aN dz fC aI iM fD aM F6 fP:Value),vs=[pv p,cv a,cv k,x6,x7,cv d,cv z,bl,aC,bS,bR,aO,cL,aN,dz,fC,aI,iM,fD,aM,F6,fP]) fv ⟨_,_,_,_,_,_,_,_,_,_,_,_,_,_,_,_,_,rfl⟩ ?_ ?_
  ·rintro m1 vs H1 hj hm ⟨i,x6,x7,bl,aC,bS,bR,aO,cL,aN,dz,fC,aI,iM,fD,F6,fP,rfl⟩;simp -implicitDefEqProofs only[AE,rY,sS,Nat.reduceAdd];repeat' (first|exact Ev.ret (.inl ⟨rfl,⟨_,by assumption,by omega⟩,_,_,_,_,_,_,_,_,_,_,_,_,_,_,_,_,_,rfl⟩)|exact Ev.ret (.inr ⟨by simp,⟨_,by assumption,by omega⟩,.inl rfl,_,_,_,_,_,_,_,_,_,_,_,_,_,_,_,_,_,rfl⟩)|exact Ev.ret (.inr ⟨by simp,⟨_,by assumption,by omega⟩,.inr ⟨rfl,_,rfl,rfl⟩,_,_,_,_,_,_,_,_,_,_,_,_,_,_,_,_,_,rfl⟩)| ((with_reducible first|refine Ev.lss (λhq=>?_) (λhq=>?_)|refine Ev.gtr (λhq=>?_) (λhq=>?_)|refine Ev.leq (λhq=>?_) (λhq=>?_)|refine Ev.geq (λhq=>?_) (λhq=>?_)|refine Ev.eql (λhq=>?_) (λhq=>?_)|refine Ev.off ‹_› (λhq=>?_) (λhq=>?_)|refine Ev.ke (nq _ _) λz=>?_ |refine Ev.ke (sh _ _ _ _) λz=>?_ |refine Ev.num (ki ‹_› _) λz Hz mz hj hm=>?_)<;>try simp -implicitDefEqProofs only[sS,Nat.reduceAdd]))
  ·rintro e vs m2 H2 hj hm ⟨he,x6,x7,bl,aC,bS,bR,aO,cL,aN,dz,fC,aI,iM,fD,aM,F6,fP,rfl⟩;rcases he with rfl|⟨rfl,u,e1,e2⟩
   ·simp -implicitDefEqProofs only[AF,rZ,sS,Nat.reduceAdd];repeat' (first|exact Ev.ret ⟨_,_,rfl,_,by assumption,by omega⟩| ((with_reducible first|refine Ev.lss (λhq=>?_) (λhq=>?_)|refine Ev.gtr (λhq=>?_) (λhq=>?_)|refine Ev.leq (λhq=>?_) (λhq=>?_)|refine Ev.geq (λhq=>?_) (λhq=>?_)|refine Ev.eql (λhq=>?_) (λhq=>?_)|refine Ev.off ‹_› (λhq=>?_) (λhq=>?_)|refine Ev.ke (nq _ _) λz=>?_ |refine Ev.ke (sh _ _ _ _) λz=>?_ |refine Ev.num (ki ‹_› _) λz Hz mz hj hm=>?_)<;>try simp -implicitDefEqProofs only[sS,Nat.reduceAdd]))
   ·simp only[List.getElem?_cons_succ,List.getElem?_cons_zero,Option.some.injEq] at e1 e2;subst e1 e2;show Ev (λ_=>some (Value.tuple #[cv d,cv u],H2)) _
    exact Ev.ret ⟨_,_,rfl,_,hj,by omega⟩
 have L0: ∀(d z:Int) (x6 x7 bl aC bS bR aO cL aN dz fC aI iM fD aM F6 fP:Value) (m1:Nat) (H1:aa),J K p m1 H1→m1≤m-1→(∃i,aI=cv i)→
   Ev (λn=>cd (iter n (vp (run G n) n) [pv p,cv a,cv k,x6,x7,cv d,cv z,bl,aC,bS,bR,aO,cL,aN,dz,fC,aI,iM,fD,aM,F6,fP] H1) (dG 0 (dM (vq (run G n) n) (dM (Ch (run G n) n) (dX Tryz.prog [.tmp 6,.tmp 7] [0,1,2,6,7,8,9,21,10,29,32,11,41,12,56,68,13,79,88,14,103,112]))))) λr=>R7 K p (m-1) r.1 r.2:=by
  rintro d z x6 x7 bl aC bS bR aO cL aN dz fC aI iM fD aM F6 fP m1 H1 fv Mr ⟨i,rfl⟩;refine Ev.ON (λvs=>∃(i:Int) (x6 x7 bl aC bS bR aO cL aN dz fC iM fD aM F6 fP:Value),vs=[pv p,cv a,cv k,x6,x7,cv d,cv z,bl,aC,bS,bR,aO,cL,aN,dz,fC,cv i,iM,fD,aM,F6,fP])
   (λe vs=>(e= .exit 0∨(e= .ret∧∃u,vs[3]? =some (cv d)∧vs[4]? =some (cv u)))∧∃(x6 x7 bl aC bS bR aO cL aN dz fC aI iM fD aM F6 fP:Value),vs=[pv p,cv a,cv k,x6,x7,cv d,cv z,bl,aC,bS,bR,aO,cL,aN,dz,fC,aI,iM,fD,aM,F6,fP]) fv ⟨_,_,_,_,_,_,_,_,_,_,_,_,_,_,_,_,_,rfl⟩ ?_ ?_
  ·rintro m1 vs H1 hj hm ⟨i,x6,x7,bl,aC,bS,bR,aO,cL,aN,dz,fC,iM,fD,aM,F6,fP,rfl⟩;simp -implicitDefEqProofs only[AB,rW,sS,Nat.reduceAdd];repeat' (first|exact Ev.ret (.inl ⟨rfl,⟨_,by assumption,by omega⟩,_,_,_,_,_,_,_,_,_,_,_,_,_,_,_,_,_,rfl⟩)|exact Ev.ret (.inr ⟨by simp,⟨_,by assumption,by omega⟩,.inl rfl,_,_,_,_,_,_,_,_,_,_,_,_,_,_,_,_,_,rfl⟩)|exact Ev.ret (.inr ⟨by simp,⟨_,by assumption,by omega⟩,.inr ⟨rfl,_,rfl,rfl⟩,_,_,_,_,_,_,_,_,_,_,_,_,_,_,_,_,_,rfl⟩)| ((with_reducible first|refine Ev.lss (λhq=>?_) (λhq=>?_)|refine Ev.gtr (λhq=>?_) (λhq=>?_)|refine Ev.leq (λhq=>?_) (λhq=>?_)|refine Ev.geq (λhq=>?_) (λhq=>?_)|refine Ev.eql (λhq=>?_) (λhq=>?_)|refine Ev.off ‹_› (λhq=>?_) (λhq=>?_)|refine Ev.ke (nq _ _) λz=>?_ |refine Ev.ke (sh _ _ _ _) λz=>?_ |refine Ev.num (ki ‹_› _) λz Hz mz hj hm=>?_)<;>try simp -implicitDefEqProofs only[sS,Nat.reduceAdd]))
  ·rintro e vs m2 H2 hj hm ⟨he,x6,x7,bl,aC,bS,bR,aO,cL,aN,dz,fC,aI,iM,fD,aM,F6,fP,rfl⟩;rcases he with rfl|⟨rfl,u,e1,e2⟩
   ·simp -implicitDefEqProofs only[AD,rX,sS,Nat.reduceAdd];repeat' (first|exact Ev.ret ⟨_,_,rfl,_,by assumption,by omega⟩| ((with_reducible first|refine Ev.lss (λhq=>?_) (λhq=>?_)|refine Ev.gtr (λhq=>?_) (λhq=>?_)|refine Ev.leq (λhq=>?_) (λhq=>?_)|refine Ev.geq (λhq=>?_) (λhq=>?_)|refine Ev.eql (λhq=>?_) (λhq=>?_)|refine Ev.off ‹_› (λhq=>?_) (λhq=>?_)|refine Ev.ke (nq _ _) λz=>?_ |refine Ev.ke (sh _ _ _ _) λz=>?_ |refine Ev.num (ki ‹_› _) λz Hz mz hj hm=>?_)<;>try simp -implicitDefEqProofs only[sS,Nat.reduceAdd]))
   ·simp only[List.getElem?_cons_succ,List.getElem?_cons_zero,Option.some.injEq] at e1 e2;subst e1 e2;show Ev (λ_=>some (Value.tuple #[cv d,cv u],H2)) _
    exact Ev.ret ⟨_,_,rfl,_,hj,by omega⟩
 repeat' (first|exact Ev.ret ⟨_,_,rfl,_,by assumption,by omega⟩|exact L5 _ _ _ _ _ _ _ _ _ _ _ _ _ _ _ _ _ _ _ _ _ ‹_› (by omega) ⟨_,rfl⟩|exact L0 _ _ _ _ _ _ _ _ _ _ _ _ _ _ _ _ _ _ _ _ _ ‹_› (by omega) ⟨_,rfl⟩| ((with_reducible first|refine Ev.lss (λhq=>?_) (λhq=>?_)|refine Ev.gtr (λhq=>?_) (λhq=>?_)|refine Ev.leq (λhq=>?_) (λhq=>?_)|refine Ev.geq (λhq=>?_) (λhq=>?_)|refine Ev.eql (λhq=>?_) (λhq=>?_)|refine Ev.off ‹_› (λhq=>?_) (λhq=>?_)|refine Ev.ke (nq _ _) λz=>?_ |refine Ev.ke (sh _ _ _ _) λz=>?_ |refine Ev.num (ki ‹_› _) λz Hz mz hj hm=>?_)<;>try simp -implicitDefEqProofs only[sS,Nat.reduceAdd]))
theorem Gd (h:J K p m H)(a:Int):aE (run G) 113 [pv p,cv a] H (Num K p (m-1)):=by
 refine Ev.up (t:=λn=>NJ (run G n) n (pv p) (cv a) H) ?_ λn=>HH ..
 simp -implicitDefEqProofs only[NJ,sS,Nat.reduceAdd];repeat' (first|exact Ev.ret ⟨_,rfl,_,by assumption,by omega⟩| ((with_reducible first|refine Ev.eql (λhq=>?_) (λhq=>?_)|refine Ev.neq (λhq=>?_) (λhq=>?_)|refine Ev.ke (FN _) λz=>?_ |refine Ev.ke (RH _) λz=>?_ |refine Ev.num (ki ‹_› _) λz Hz mz hj hm=>?_)<;>try simp -implicitDefEqProofs only[sS,Nat.reduceAdd]))
theorem R8 (h:J K p m H)(a k:Int):aE (run G) 144 [pv p,cv a,cv k] H (Num K p (m-1)):=by
 refine Ev.up (t:=λn=>M9 (run G n) n (pv p) (cv a) (cv k) H) ?_ λn=>G8 ..
 simp -implicitDefEqProofs only[M9,sS,Nat.reduceAdd];repeat' (first|exact Ev.ret ⟨_,rfl,_,by assumption,by omega⟩| ((with_reducible first|refine Ev.ke (AK _ _ _) λz=>?_ |refine Ev.aao (Iu ‹_› _ _) λz zb Hz mz hj hm=>?_)<;>try simp -implicitDefEqProofs only[sS,Nat.reduceAdd]))
theorem Xo (h:J K p m H)(k:Int):aE (run G) 118 [pv p,cv k] H (aan K p m):=by
 refine Ev.up (t:=λn=>U0 (run G n) n (pv p) (cv k) H) ?_ λn=>Ql ..
 simp -implicitDefEqProofs only[U0,sS,Nat.reduceAdd];refine Ev.ON (λvs=>∃(i:Int) (x4 x5 aI x7 bF bO x8 cr bP dr:Value),vs=[pv p,cv k,x4,x5,aI,cv i,x7,bF,bO,x8,cr,bP,dr])
  (λe vs=>(e= .exit 0∨(e= .ret∧∃u b,vs[2]? =some (cv u)∧vs[3]? =some (.bool b)))∧∃(x4 x5 aI x6 x7 bF bO x8 cr bP dr:Value),vs=[pv p,cv k,x4,x5,aI,x6,x7,bF,bO,x8,cr,bP,dr]) h ⟨_,_,_,_,_,_,_,_,_,_,_,rfl⟩ ?_ ?_
 ·rintro m1 vs Hx hj hk ⟨i,x4,x5,aI,x7,bF,bO,x8,cr,bP,dr,rfl⟩;simp -implicitDefEqProofs only[Jm,wM,sS,Nat.reduceAdd];repeat' (first|exact Ev.ret (.inl ⟨rfl,⟨_,by assumption,by omega⟩,_,_,_,_,_,_,_,_,_,_,_,rfl⟩)|exact Ev.ret (.inr ⟨by simp,⟨_,by assumption,by omega⟩,.inl rfl,_,_,_,_,_,_,_,_,_,_,_,rfl⟩)|exact Ev.ret (.inr ⟨by simp,⟨_,by assumption,by omega⟩,.inr ⟨rfl,_,_,rfl,rfl⟩,_,_,_,_,_,_,_,_,_,_,_,rfl⟩)| ((with_reducible first|refine Ev.eql (λhq=>?_) (λhq=>?_)|refine Ev.neq (λhq=>?_) (λhq=>?_)|refine Ev.off ‹_› (λhq=>?_) (λhq=>?_)|refine Ev.ke (FN _) λz=>?_ |refine Ev.ke (RH _) λz=>?_ |refine Ev.num (ki ‹_› _) λz Hz mz hj hm=>?_ |refine Ev.num (Gd ‹_› _) λz Hz mz hj hm=>?_ |refine Ev.num (R8 ‹_› _ _) λz Hz mz hj hm=>?_)<;>try simp -implicitDefEqProofs only[sS,Nat.reduceAdd]))
 ·rintro e vs m1 Hx hj hm ⟨he,x4,x5,aI,x6,x7,bF,bO,x8,cr,bP,dr,rfl⟩;rcases he with rfl|⟨rfl,u,b,e1,e2⟩
  ·simp -implicitDefEqProofs only[Jn,wN,sS,Nat.reduceAdd];exact Ev.ret ⟨_,_,rfl,_,hj,by omega⟩
  ·simp only[List.getElem?_cons_succ,List.getElem?_cons_zero,Option.some.injEq] at e1 e2;subst e1 e2;show Ev (λ_=>some (Value.tuple #[cv u,.bool b],Hx)) _
   exact Ev.ret ⟨_,_,rfl,_,hj,by omega⟩
end
section
variable {G:ae} {H H':aa} {o o':aj} {p m c:Nat} {K K':aa→aj→Prop} {t t1 t2 q:Int} {x:Value} {l lp ls:PL} {n i:Nat} {cs:List Value} {T:TypeId}
structure WS where
 lo:Int
 hi:Int
 back:Bool
 OO:Int
 values:Bool
abbrev wcs (s:WS)(xp xs:Value):List Value:=[cv s.lo,cv s.hi,.bool s.back,cv s.OO,.bool s.values,xp,xs]
def KW (K:aa→aj→Prop)(t t1 t2:Int)(w:Nat)(s:WS)(lp ls:PL)(H:aa)(o:aj):Prop:=
 K H o∧∃xp xs ty,H.get w=some ⟨wcs s xp xs,ty,1,false⟩∧o w=t∧gS H o t1 xp lp∧gS H o t2 xs ls
structure EI (p:Nat) (t t1 t2:Int):Prop where
 a:oS t p
 a1:oS t1 p
 a2:oS t2 p
 d1:t≠t1
 d2:t≠t2
 d3:t1≠t2
theorem gS.isSlice {s:Value}(h:gS H o q s l): ∃a c,s= .slice a l.length c:=h.r.isSlice
section
variable {w:Nat} {s:WS}
theorem KW.eU (ht:EI p t t1 t2)(hK:bJ [(p:Int),t,t1,t2] K):bJ [(p:Int)] (KW K t t1 t2 w s lp ls):=λH o H' o' h f=>by
 obtain⟨hk,xp,xs,ty,g,ho,h1,h2⟩:=h;exact⟨hK _ _ _ _ hk (f.wk (by simp)),xp,xs,ty,by rw[f.same w (ar g) (by rw[ho];simpa using ht.a.ne)];exact g,by rw[f.own w (ar g)];exact ho,gS.fr h1 f (by simpa using ht.a1.ne),gS.fr h2 f (by simpa using ht.a2.ne)⟩
theorem KW.oa (h:J (KW K t t1 t2 w s lp ls) p m H):aq (pv w) H=some (cv s.lo)∧aq (.pointer (some ⟨w,1,none⟩)) H=some (cv s.hi)∧aq (.pointer (some ⟨w,2,none⟩)) H=some (.bool s.back)∧aq (.pointer (some ⟨w,3,none⟩)) H=some (cv s.OO)∧aq (.pointer (some ⟨w,4,none⟩)) H=some (.bool s.values):=by
 obtain⟨_,o,_,_,xp,xs,ty,g,_⟩:=h;exact⟨ao w 0 _ g,ao w 1 _ g,ao w 2 _ g,ao w 3 _ g,ao w 4 _ g⟩
theorem KW.len (h:J (KW K t t1 t2 w s lp ls) p m H): ∃xp,aq (.pointer (some ⟨w,5,none⟩)) H=some xp∧cG xp=some (cv lp.length):=by
 obtain⟨_,o,_,_,xp,xs,ty,g,ho,h1,h2⟩:=h;exact⟨xp,ao w 5 _ g,h1.r.len⟩
theorem KW.acC (ht:EI p t t1 t2)(hK:bJ [(p:Int),t,t1,t2] K)(h:J (KW K t t1 t2 w s lp ls) p m H)(hb:lp.length+1≤4294967296): ∃xp,aq (.pointer (some ⟨w,5,none⟩)) H=some xp∧∀(T ty:TypeId) (a b:Int),∃x' l' H1 H2,
  de T 2 16 xp (.slice (some ⟨H.length,0,none⟩) 1 1) (H.new ⟨[cv a,cv b],ty,2,false⟩)=some (x',H1)∧bD 1 (.pointer (some ⟨w,5,none⟩)) x' H1=some (undef,H2)∧J (KW K t t1 t2 w s l' ls) p m H2∧l'.length=lp.length+1:=by
 obtain⟨_,o,hr,hk,xp,xs,ty,g,ho,h1,h2⟩:=h;refine⟨xp,ao w 5 _ g,λT nE a b=>?_⟩
 have f1:Fr H o (H.new ⟨[cv a,cv b],nE,2,false⟩) (o.up H.length (-9)) [t1]:=(Fr.refl H o [t1]).new _ _;have Xd:Fr H o (H.new ⟨[cv a,cv b],nE,2,false⟩) (o.up H.length (-9)) []:=(Fr.refl H o []).new _ _;obtain⟨x',H2,o2,e,s2,f2,_⟩:=gS.app (y:=.slice (some ⟨H.length,0,none⟩) 1 1) (m:=[(a,b)]) T (gS.fr h1 Xd (by simp)) (Src.one aL) (by simpa using hb)
 have f3:=f1.tr f2;have g2:H2.get w=some ⟨wcs s xp xs,ty,1,false⟩:=by rw[f3.same w (ar g) (by rw[ho];simpa using ht.d1)];exact g
 have CY:o2 w=t:=by rw[f3.own w (ar g)];exact ho
 obtain⟨ba,bc,ex⟩:=gS.isSlice s2;obtain⟨H3,e3⟩: ∃z,z=H2.put w ⟨wcs s x' xs,ty,1,false⟩:=⟨_,rfl⟩;have f4:Fr H2 o2 H3 o2 [t]:=by rw[e3];exact(Fr.refl H2 o2 [t]).put λ_=>by simp[CY]
 have f5:Fr H o H3 o2 [t,t1]:=f3.trans f4 (by simp) (by simp)
 refine⟨x',lp++[(a,b)],H2,H3,e,?_,⟨KW.eU ht hK,o2,hr.fr f5 ?_ ?_ ?_,hK _ _ _ _ hk (f5.wk (by simp)),x',xs,ty,by rw[e3];exact aG g2,CY,gS.fr s2 f4 ?_,gS.fr h2 f5 ?_⟩,by simp⟩
 ·rw[ex,FL w 5 ba _ bc H2 g2 rfl (by simp),e3,ex];rfl
 ·have:=ht.a.ne;have:=ht.a1.ne;simp;omega
 ·have:=ht.a.n0;have:=ht.a1.n0;simp;omega
 ·have:=ht.a.n1;have:=ht.a1.n1;simp;omega
 ·have:=ht.d1;have:=ht.d2;have:=ht.d3;simp;omega
 ·have:=ht.d1;have:=ht.d2;have:=ht.d3;simp;omega
theorem KW.acD (ht:EI p t t1 t2)(hK:bJ [(p:Int),t,t1,t2] K)(h:J (KW K t t1 t2 w s lp ls) p m H)(hb:ls.length+1≤4294967296): ∃xp,aq (.pointer (some ⟨w,6,none⟩)) H=some xp∧∀(T ty:TypeId) (a b:Int),∃x' l' H1 H2,
  de T 2 16 xp (.slice (some ⟨H.length,0,none⟩) 1 1) (H.new ⟨[cv a,cv b],ty,2,false⟩)=some (x',H1)∧bD 1 (.pointer (some ⟨w,6,none⟩)) x' H1=some (undef,H2)∧J (KW K t t1 t2 w s lp l') p m H2∧l'.length=ls.length+1:=by
 obtain⟨_,o,hr,hk,xp,xs,ty,g,ho,h1,h2⟩:=h;refine⟨xs,ao w 6 _ g,λT nE a b=>?_⟩
 have f1:Fr H o (H.new ⟨[cv a,cv b],nE,2,false⟩) (o.up H.length (-9)) [t2]:=(Fr.refl H o [t2]).new _ _;have Xd:Fr H o (H.new ⟨[cv a,cv b],nE,2,false⟩) (o.up H.length (-9)) []:=(Fr.refl H o []).new _ _;obtain⟨x',H2,o2,e,s2,f2,_⟩:=gS.app (y:=.slice (some ⟨H.length,0,none⟩) 1 1) (m:=[(a,b)]) T (gS.fr h2 Xd (by simp)) (Src.one aL) (by simpa using hb)
 have f3:=f1.tr f2;have g2:H2.get w=some ⟨wcs s xp xs,ty,1,false⟩:=by rw[f3.same w (ar g) (by rw[ho];simpa using ht.d2)];exact g
 have CY:o2 w=t:=by rw[f3.own w (ar g)];exact ho
 obtain⟨ba,bc,ex⟩:=gS.isSlice s2;obtain⟨H3,e3⟩: ∃z,z=H2.put w ⟨wcs s xp x',ty,1,false⟩:=⟨_,rfl⟩;have f4:Fr H2 o2 H3 o2 [t]:=by rw[e3];exact(Fr.refl H2 o2 [t]).put λ_=>by simp[CY]
 have f5:Fr H o H3 o2 [t,t2]:=f3.trans f4 (by simp) (by simp)
 refine⟨x',ls++[(a,b)],H2,H3,e,?_,⟨KW.eU ht hK,o2,hr.fr f5 ?_ ?_ ?_,hK _ _ _ _ hk (f5.wk (by simp)),xp,x',ty,by rw[e3];exact aG g2,CY,gS.fr h1 f5 ?_,gS.fr s2 f4 ?_⟩,by simp⟩
 ·rw[ex,FL w 6 ba _ bc H2 g2 rfl (by simp),e3,ex];rfl
 ·have:=ht.a.ne;have:=ht.a2.ne;simp;omega
 ·have:=ht.a.n0;have:=ht.a2.n0;simp;omega
 ·have:=ht.a.n1;have:=ht.a2.n1;simp;omega
 ·have:=ht.d1;have:=ht.d2;have:=ht.d3;simp;omega
 ·have:=ht.d1;have:=ht.d2;have:=ht.d3;simp;omega
theorem KW.aap (ht:EI p t t1 t2)(hK:bJ [(p:Int),t,t1,t2] K)(h:J (KW K t t1 t2 w s lp ls) p m H)(v:Int): ∃H2,bD 1 (pv w) (cv v) H=some (undef,H2)∧J (KW K t t1 t2 w {s with lo:=v} lp ls) p m H2:=by
 obtain⟨_,o,hr,hk,xp,xs,ty,g,ho,h1,h2⟩:=h;have f:Fr H o (H.put w ⟨wcs {s with lo:=v} xp xs,ty,1,false⟩) o [t]:=(Fr.refl H o [t]).put λ_=>by simp[ho]
 refine⟨_,r9 w 0 (cv v) H g rfl (by simp) rfl rfl rfl,KW.eU ht hK,o,hr.fr f ?_ ?_ ?_,hK _ _ _ _ hk (f.wk (by simp)),xp,xs,ty,aG g,ho,gS.fr h1 f ?_,gS.fr h2 f ?_⟩
 ·have:=ht.a.ne;simp;omega
 ·have:=ht.a.n0;simp;omega
 ·have:=ht.a.n1;simp;omega
 ·have:=ht.d1;simp;omega
 ·have:=ht.d2;simp;omega
theorem KW.aaq (ht:EI p t t1 t2)(hK:bJ [(p:Int),t,t1,t2] K)(h:J (KW K t t1 t2 w s lp ls) p m H)(v:Int): ∃H2,bD 1 (.pointer (some ⟨w,1,none⟩)) (cv v) H=some (undef,H2)∧J (KW K t t1 t2 w {s with hi:=v} lp ls) p m H2:=by
 obtain⟨_,o,hr,hk,xp,xs,ty,g,ho,h1,h2⟩:=h;have f:Fr H o (H.put w ⟨wcs {s with hi:=v} xp xs,ty,1,false⟩) o [t]:=(Fr.refl H o [t]).put λ_=>by simp[ho]
 refine⟨_,r9 w 1 (cv v) H g rfl (by simp) rfl rfl rfl,KW.eU ht hK,o,hr.fr f ?_ ?_ ?_,hK _ _ _ _ hk (f.wk (by simp)),xp,xs,ty,aG g,ho,gS.fr h1 f ?_,gS.fr h2 f ?_⟩
 ·have:=ht.a.ne;simp;omega
 ·have:=ht.a.n0;simp;omega
 ·have:=ht.a.n1;simp;omega
 ·have:=ht.d1;simp;omega
 ·have:=ht.d2;simp;omega
theorem KW.aar (ht:EI p t t1 t2)(hK:bJ [(p:Int),t,t1,t2] K)(h:J (KW K t t1 t2 w s lp ls) p m H)(v:Bool): ∃H2,bD 1 (.pointer (some ⟨w,2,none⟩)) (.bool v) H=some (undef,H2)∧J (KW K t t1 t2 w {s with back:=v} lp ls) p m H2:=by
 obtain⟨_,o,hr,hk,xp,xs,ty,g,ho,h1,h2⟩:=h;have f:Fr H o (H.put w ⟨wcs {s with back:=v} xp xs,ty,1,false⟩) o [t]:=(Fr.refl H o [t]).put λ_=>by simp[ho]
 refine⟨_,r9 w 2 (.bool v) H g rfl (by simp) rfl rfl rfl,KW.eU ht hK,o,hr.fr f ?_ ?_ ?_,hK _ _ _ _ hk (f.wk (by simp)),xp,xs,ty,aG g,ho,gS.fr h1 f ?_,gS.fr h2 f ?_⟩
 ·have:=ht.a.ne;simp;omega
 ·have:=ht.a.n0;simp;omega
 ·have:=ht.a.n1;simp;omega
 ·have:=ht.d1;simp;omega
 ·have:=ht.d2;simp;omega
theorem KW.acE (ht:EI p t t1 t2)(hK:bJ [(p:Int),t,t1,t2] K)(h:J (KW K t t1 t2 w s lp ls) p m H)(v:Int): ∃H2,bD 1 (.pointer (some ⟨w,3,none⟩)) (cv v) H=some (undef,H2)∧J (KW K t t1 t2 w {s with OO:=v} lp ls) p m H2:=by
 obtain⟨_,o,hr,hk,xp,xs,ty,g,ho,h1,h2⟩:=h;have f:Fr H o (H.put w ⟨wcs {s with OO:=v} xp xs,ty,1,false⟩) o [t]:=(Fr.refl H o [t]).put λ_=>by simp[ho]
 refine⟨_,r9 w 3 (cv v) H g rfl (by simp) rfl rfl rfl,KW.eU ht hK,o,hr.fr f ?_ ?_ ?_,hK _ _ _ _ hk (f.wk (by simp)),xp,xs,ty,aG g,ho,gS.fr h1 f ?_,gS.fr h2 f ?_⟩
 ·have:=ht.a.ne;simp;omega
 ·have:=ht.a.n0;simp;omega
 ·have:=ht.a.n1;simp;omega
 ·have:=ht.d1;simp;omega
 ·have:=ht.d2;simp;omega
theorem KW.aas (ht:EI p t t1 t2)(hK:bJ [(p:Int),t,t1,t2] K)(h:J (KW K t t1 t2 w s lp ls) p m H)(v:Bool): ∃H2,bD 1 (.pointer (some ⟨w,4,none⟩)) (.bool v) H=some (undef,H2)∧J (KW K t t1 t2 w {s with values:=v} lp ls) p m H2:=by
 obtain⟨_,o,hr,hk,xp,xs,ty,g,ho,h1,h2⟩:=h;have f:Fr H o (H.put w ⟨wcs {s with values:=v} xp xs,ty,1,false⟩) o [t]:=(Fr.refl H o [t]).put λ_=>by simp[ho]
 refine⟨_,r9 w 4 (.bool v) H g rfl (by simp) rfl rfl rfl,KW.eU ht hK,o,hr.fr f ?_ ?_ ?_,hK _ _ _ _ hk (f.wk (by simp)),xp,xs,ty,aG g,ho,gS.fr h1 f ?_,gS.fr h2 f ?_⟩
 ·have:=ht.a.ne;simp;omega
 ·have:=ht.a.n0;simp;omega
 ·have:=ht.a.n1;simp;omega
 ·have:=ht.d1;simp;omega
 ·have:=ht.d2;simp;omega
end
abbrev GW (K:aa→aj→Prop)(t t1 t2:Int)(w:Nat)(s:WS)(c p mm:Nat):Value→aa→Prop:=λv H'=>∃z lp' ls' m',v= .bool z∧J (KW K t t1 t2 w s lp' ls') p m' H'∧m'≤mm∧lp'.length+m'≤c∧ls'.length+m'≤c
section
variable {w:Nat} {s:WS}
theorem R9 (ht:EI p t t1 t2)(hK:bJ [(p:Int),t,t1,t2] K)(hc:c≤2147483648)(h:J (KW K t t1 t2 w s lp ls) p m H)(h1:lp.length+m≤c)(h2:ls.length+m≤c)(h3:m≠0)(a:Int):
  aE (run G) 163 [pv w,pv p,cv a] H (GW K t t1 t2 w s c p (m-1)):=by
 refine Ev.up (t:=λk=>Vg (run G k) k (pv w) (pv p) (cv a) H) ?_ λk=>Qx ..
 simp -implicitDefEqProofs only[Vg,sS,Nat.reduceAdd];refine Ev.num (ki h _) λzq Hz mz hj hm=>?_
 obtain⟨a0,a1,a2,a3,a4⟩:=KW.oa hj;have J0: ∀{m1:Nat} {H1:aa} (v:Int) (x6 bU bS:Value),J (KW K t t1 t2 w s lp ls) p m1 H1→m1≤m-1→Ev (λk=>ve (run G k) k [pv w,pv p,cv a,x6,cv zq,bU,bS,cv v] H1) λr=>GW K t t1 t2 w s c p (m-1) r.1 r.2:=by
  intro m1 H1 v x6 bU bS hj hm;obtain⟨xp,b0,b1⟩:=KW.acC ht hK hj (by omega)
  obtain⟨x',l',H2,H3,b2,b3,gA,hl⟩:=b1 45 45 zq v;obtain⟨a0,a1,a2,a3,a4⟩:=KW.oa gA;obtain⟨xq,b4,b5⟩:=KW.len gA;simp -implicitDefEqProofs only[JB,w9,b0,yS,F2,b2,b3,a3,sS,Nat.reduceAdd];refine Ev.gtr (λhq=>?_) (λhq=>?_)<;>try simp -implicitDefEqProofs only[b4,b5,a3,sS,Nat.reduceAdd]
  ·refine Ev.geq (λhq=>?_) (λhq=>?_)<;>try simp -implicitDefEqProofs only[sS,Nat.reduceAdd]
   ·exact Ev.ret ⟨_,_,_,_,rfl,gA,by omega,by omega,by omega⟩
   ·exact Ev.ret ⟨_,_,_,_,rfl,gA,by omega,by omega,by omega⟩
  ·exact Ev.ret ⟨_,_,_,_,rfl,gA,by omega,by omega,by omega⟩
 simp -implicitDefEqProofs only[a0,sS,Nat.reduceAdd];refine Ev.lss (λhq=>?_) (λhq=>?_)<;>try simp -implicitDefEqProofs only[a1,sS,Nat.reduceAdd]
 ·exact Ev.ret ⟨_,_,_,_,rfl,hj,by omega,by omega,by omega⟩
 refine Ev.gtr (λhq=>?_) (λhq=>?_)<;>try simp -implicitDefEqProofs only[a4,sS,Nat.reduceAdd]
 ·exact Ev.ret ⟨_,_,_,_,rfl,hj,by omega,by omega,by omega⟩
 cases hv:s.values<;>try simp -implicitDefEqProofs only[sS,Nat.reduceAdd]
 ·exact J0 _ _ _ _ hj hm
 ·refine Ev.num (ki hj _) λzv Hz mz hj hm=>?_
  exact J0 _ _ _ _ hj (by omega)
theorem Ev.gw {α:Type}{k:Nat→Value→aa→Option α}{Q:α→Prop}{C:Nat→ae}{f:Nat}{args:List Value}{mm:Nat}(h:aE C f args H (GW K t t1 t2 w s c p mm))(hk: ∀z lp ls m' H',J (KW K t t1 t2 w s lp ls) p m' H'→m'≤mm→lp.length+m'≤c→ls.length+m'≤c→Ev (λn=>k n (.bool z) H') Q):Ev (λn=>af (C n f args H) (k n)) Q:=
 Ev.call h λv H' hq=>by obtain⟨z,lp,ls,m',rfl,h1,h2,h3,h4⟩:=hq;exact hk z lp ls m' H' h1 h2 h3 h4
theorem Sa (ht:EI p t t1 t2)(hK:bJ [(p:Int),t,t1,t2] K)(hc:c≤2147483648){M:Nat}(ih: ∀{m:Nat} {lp ls:PL} {H:aa},J (KW K t t1 t2 w s lp ls) p m H→m<M→lp.length+m≤c→ls.length+m≤c→∀a,aE (run G) 119 [pv w,pv p,cv a] H (GW K t t1 t2 w s c p (m-1)))(h:J (KW K t t1 t2 w s lp ls) p m H)(hM:m<M)(h1:lp.length+m≤c)(h2:ls.length+m≤c)(h3:m≠0)(a:Int):
  aE (run G) 145 [pv w,pv p,cv a] H (GW K t t1 t2 w s c p m):=by
 refine Ev.up (t:=λk=>WV (run G k) k (pv w) (pv p) (cv a) H) ?_ λk=>Rx ..
 simp -implicitDefEqProofs only[WV,sS,Nat.reduceAdd];refine Ev.ke (RH _) λza=>?_
 refine Ev.ke (FN _) λzk=>?_
 try simp -implicitDefEqProofs only[sS,Nat.reduceAdd]
 refine Ev.eql (λhq=>?_) (λhq=>?_)<;>try simp -implicitDefEqProofs only[sS,Nat.reduceAdd]
 ·refine Ev.gw (R9 ht hK hc h h1 h2 h3 _) λz lp ls m' H' hj hm g1 g2=>?_
  try simp -implicitDefEqProofs only[sS,Nat.reduceAdd]
  exact Ev.ret ⟨_,_,_,_,rfl,hj,by omega,g1,g2⟩
 refine Ev.eql (λhq=>?_) (λhq=>?_)<;>try simp -implicitDefEqProofs only[sS,Nat.reduceAdd]
 ·refine Ev.gw (ih h hM h1 h2 _) λz lp ls m' H' hj hm g1 g2=>?_
  try simp -implicitDefEqProofs only[sS,Nat.reduceAdd]
  exact Ev.ret ⟨_,_,_,_,rfl,hj,by omega,g1,g2⟩
 refine Ev.eql (λhq=>?_) (λhq=>?_)<;>try simp -implicitDefEqProofs only[sS,Nat.reduceAdd]
 ·refine Ev.num (ki h _) λzr Hz mz hj hm=>?_
  refine Ev.ke (RH _) λza2=>?_
  refine Ev.gw (ih hj (by omega) (by omega) (by omega) _) λz lp ls m' H' hj hm g1 g2=>?_
  try simp -implicitDefEqProofs only[sS,Nat.reduceAdd]
  exact Ev.ret ⟨_,_,_,_,rfl,hj,by omega,g1,g2⟩
 ·exact Ev.ret ⟨_,_,_,_,rfl,h,by omega,h1,h2⟩
theorem Xp (a b:Int):aF Tryz.prog 189 [(0,cv a),(1,cv b)]=some (.agg #[cv a,cv b]):=by kernel_rfl
theorem Xq (a b:Int)(H:aa):ay Tryz.prog 32 1 [(0,.agg #[cv a,cv b])] H=some (.slice (some ⟨H.length,0,none⟩) 1 1,H.new ⟨[cv a,cv b],189,2,false⟩):=by kernel_rfl
theorem LD (ht:EI p t t1 t2)(hK:bJ [(p:Int),t,t1,t2] K)(hc:c≤2147483648): ∀(M:Nat) {m:Nat} {lp ls:PL} {H:aa},J (KW K t t1 t2 w s lp ls) p m H→m<M→lp.length+m≤c→ls.length+m≤c→∀a,aE (run G) 119 [pv w,pv p,cv a] H (GW K t t1 t2 w s c p (m-1)):=by
 intro M;induction M with
 |zero=>intro m lp ls H h hM;omega
 |succ M ih=>
 intro m lp ls H h hM h1 h2 a;refine Ev.up (t:=λk=>VW (run G k) k (pv w) (pv p) (cv a) H) ?_ λk=>QS ..
 obtain⟨a0,a1,a2,a3,a4⟩:=KW.oa h;have J0: ∀(x6 bz bP x8 x9 aC dp aO eJ eQ ln C0:Value) (f:Int),Ev (λk=>vi (run G k) k [pv w,pv p,cv a,x6,bz,cv f,bP,x8,x9,aC,dp,aO,eJ,eQ,ln,C0] H) λr=>GW K t t1 t2 w s c p (m-1) r.1 r.2:=by
  intro x6 bz bP x8 x9 aC dp aO eJ eQ ln C0 f;simp -implicitDefEqProofs only[JZ,xA,sS,Nat.reduceAdd];refine Ev.aao (Iu h _ _) λd i Hz mz hj hm=>?_
  simp -implicitDefEqProofs only[sS,Nat.reduceAdd];refine Ev.loop (k:=mz) (λk vs Hx=>∃(lp ls:PL) (i:Int) (x6 bz x7 bP aC dp aO eJ eQ ln C0:Value),J (KW K t t1 t2 w s lp ls) p k Hx∧k≤mz∧lp.length+k≤c∧ls.length+k≤c∧vs=[pv w,pv p,cv a,x6,bz,x7,bP,cv d,cv i,aC,dp,aO,eJ,eQ,ln,C0])
   (λr=>∃(lp ls:PL) (m2:Nat) (x9 x6 bz x7 bP aC dp aO eJ eQ ln C0:Value),J (KW K t t1 t2 w s lp ls) p m2 r.2.2∧m2≤m-1∧lp.length+m2≤c∧ls.length+m2≤c∧r.2.1=[pv w,pv p,cv a,x6,bz,x7,bP,cv d,x9,aC,dp,aO,eJ,eQ,ln,C0]∧(r.1= .exit 0∨(r.1= .ret∧∃z,x6= .bool z))) ⟨_,_,_,_,_,_,_,_,_,_,_,_,_,_,hj,Nat.le_refl _,by omega,by omega,rfl⟩ ?_ ?_
  ·rintro k vs Hx ⟨lp,ls,i,x6,bz,x7,bP,aC,dp,aO,eJ,eQ,ln,C0,hj,hk,g1,g2,rfl⟩;simp -implicitDefEqProofs only[JY,xz,sS,Nat.reduceAdd];refine Ev.off hj (λhq=>?_) (λhq=>?_)<;>try simp -implicitDefEqProofs only[sS,Nat.reduceAdd]
   ·exact Ev.ret (.inr ⟨by simp,_,_,_,_,_,_,_,_,_,_,_,_,_,_,_,hj,by omega,g1,g2,rfl,.inl rfl⟩)
   refine Ev.ke (AK _ _ _) λzc=>?_
   refine Ev.num (Gd hj _) λzw Hz mz2 hj I2=>?_
   try simp -implicitDefEqProofs only[sS,Nat.reduceAdd]
   refine Ev.off hj (λhq=>?_) (λhq=>?_)<;>try simp -implicitDefEqProofs only[sS,Nat.reduceAdd]
   ·exact Ev.ret (.inr ⟨by simp,_,_,_,_,_,_,_,_,_,_,_,_,_,_,_,hj,by omega,by omega,by omega,rfl,.inl rfl⟩)
   obtain⟨xp,b0,b1⟩:=KW.acD ht hK hj (by omega)
   obtain⟨x',l',H2,H3,b2,b3,gA,hl⟩:=b1 189 189 zc zw;simp -implicitDefEqProofs only[b0,Xp,Xq,b2,b3,sS,Nat.reduceAdd];refine Ev.gw (Sa ht hK hc (M:=M) (λ{m lp ls H} hj hM g1 g2 a=>ih hj hM g1 g2 a) gA (by omega) (by omega) (by omega) (by omega) _) λz lp ls m' H' hj PA g1 g2=>?_
   obtain⟨a0,a1,a2,a3,a4⟩:=KW.oa hj;cases z<;>simp -implicitDefEqProofs only[a2,sS,Nat.reduceAdd]
   ·cases hb:s.back<;>simp -implicitDefEqProofs only[sS,Nat.reduceAdd]
    ·refine Ev.eql (λhq=>?_) (λhq=>?_)<;>try simp -implicitDefEqProofs only[sS,Nat.reduceAdd]
     ·exact Ev.ret (.inr ⟨by simp,_,_,_,_,_,_,_,_,_,_,_,_,_,_,_,hj,by omega,g1,g2,rfl,.inr ⟨rfl,_,rfl⟩⟩)
     ·refine Ev.ke (nq _ _) λzk=>?_
      refine Ev.num (ki hj _) λzr Hz mz3 iW hm4=>?_
      obtain⟨c0,c1,c2,c3,c4⟩:=KW.oa iW;simp -implicitDefEqProofs only[a1,c1,sS,Nat.reduceAdd];refine Ev.gtr (λhq=>?_) (λhq=>?_)<;>try simp -implicitDefEqProofs only[a1,c1,sS,Nat.reduceAdd]
      ·exact Ev.ret (.inr ⟨by simp,_,_,_,_,_,_,_,_,_,_,_,_,_,_,_,iW,by omega,by omega,by omega,rfl,.inr ⟨rfl,_,rfl⟩⟩)
      ·exact Ev.ret (.inl ⟨rfl,_,by omega,_,_,_,_,_,_,_,_,_,_,_,_,_,_,iW,by omega,by omega,by omega,rfl⟩)
    ·refine Ev.eql (λhq=>?_) (λhq=>?_)<;>try simp -implicitDefEqProofs only[sS,Nat.reduceAdd]
     ·exact Ev.ret (.inr ⟨by simp,_,_,_,_,_,_,_,_,_,_,_,_,_,_,_,hj,by omega,g1,g2,rfl,.inr ⟨rfl,_,rfl⟩⟩)
     ·refine Ev.ke (nq _ _) λzk=>?_
      refine Ev.num (ki hj _) λzr Hz mz3 iW hm4=>?_
      obtain⟨c0,c1,c2,c3,c4⟩:=KW.oa iW;simp -implicitDefEqProofs only[a0,c0,sS,Nat.reduceAdd];refine Ev.leq (λhq=>?_) (λhq=>?_)<;>try simp -implicitDefEqProofs only[a0,c0,sS,Nat.reduceAdd]
      ·exact Ev.ret (.inr ⟨by simp,_,_,_,_,_,_,_,_,_,_,_,_,_,_,_,iW,by omega,by omega,by omega,rfl,.inr ⟨rfl,_,rfl⟩⟩)
      ·exact Ev.ret (.inl ⟨rfl,_,by omega,_,_,_,_,_,_,_,_,_,_,_,_,_,_,iW,by omega,by omega,by omega,rfl⟩)
   ·exact Ev.ret (.inr ⟨by simp,_,_,_,_,_,_,_,_,_,_,_,_,_,_,_,hj,by omega,g1,g2,rfl,.inr ⟨rfl,_,rfl⟩⟩)
  ·rintro e vs Hx ⟨lp,ls,m2,x9,x6,bz,x7,bP,aC,dp,aO,eJ,eQ,ln,C0,hj,I2,g1,g2,rfl,he⟩;rcases he with he|⟨he,z,rfl⟩
   ·simp only at he;subst he;simp -implicitDefEqProofs only[JV,xx,sS,Nat.reduceAdd];exact Ev.ret ⟨_,_,_,_,rfl,hj,by omega,g1,g2⟩
   ·simp only at he;subst he;show Ev (λ_=>some (Value.bool z,Hx)) _
    exact Ev.ret ⟨_,_,_,_,rfl,hj,by omega,g1,g2⟩
 simp -implicitDefEqProofs only[VW,a0,a2,sS,Nat.reduceAdd];cases hb:s.back<;>simp -implicitDefEqProofs only[a1,sS,Nat.reduceAdd]
 ·exact J0 ..
 ·exact J0 ..
end
theorem Sb (h:J K p m H)(hx: ∀H o,K H o→gN H o q x l)(hq:q≠(p:Int))(hl:l.length≤2147483648):aE (run G) 120 [pv p,x] H (Boo K p m):=by
 refine Ev.up (t:=λk=>U1 (run G k) k (pv p) x H) ?_ λk=>Qm ..
 simp -implicitDefEqProofs only[U1,sS,Nat.reduceAdd];refine Ev.loop (k:=l.length) (λk vs Hx=>∃(i m2:Nat) (x4 aW cM:Value),J K p m2 Hx∧m2≤m∧i+k=l.length∧vs=[pv p,x,x4,cv i,aW,cM])
  (λr=>(∃m2,J K p m2 r.2.2∧m2≤m)∧∃(x4 x5 aW cM:Value),r.2.1=[pv p,x,x4,x5,aW,cM]∧(r.1= .exit 0∨(r.1= .ret∧∃z,x4= .bool z))) ⟨0,m,_,_,_,h,Nat.le_refl _,by omega,rfl⟩ ?_ ?_
 ·rintro k vs Hx ⟨i,m2,x4,aW,cM,hj,hm,hik,rfl⟩;obtain⟨_,o1,uD,Dh⟩:=id hj;have hs:=hx _ _ Dh;simp -implicitDefEqProofs only[Jo,wO,hs.len,sS,Nat.reduceAdd];refine Ev.lss (λqv=>?_) (λqv=>?_)<;>try simp -implicitDefEqProofs only[sS,Nat.reduceAdd]
  ·obtain⟨ib,off,b,e1,e2,e3,e4⟩:=hs.idx (j:=i) (by omega)
   obtain⟨e5,e6,_⟩:=e4 _ e2;refine Ev.off hj (λkt=>?_) (λkt=>?_)<;>try simp -implicitDefEqProofs only[e1,gQ,Nat.add_zero,e5,sS,Nat.reduceAdd]
   ·exact Ev.ret (.inr ⟨by simp,⟨_,hj,hm⟩,_,_,_,_,rfl,.inl rfl⟩)
   have hjB:J (λH o=>K H o∧H.get ib=some b∧o ib=q) p m2 Hx:=⟨hj.1.and λH o H' o' a f=>⟨by rw[f.same ib (ar a.1) (by rw[a.2];simpa using hq)];exact a.1,by rw[f.own ib (ar a.1)];exact a.2⟩,o1,uD,Dh,e2,e3⟩
   refine Ev.num (Gd hjB _) λzw Hz mz fH I2=>?_
   have gA:=fH.mono hj.1 λo a=>a.1
   obtain⟨_,o2,sC,hk2,g2,_⟩:=id fH;obtain⟨e7,e8,_⟩:=e4 _ g2;simp -implicitDefEqProofs only[e1,gQ,e6,e8,sS,Nat.reduceAdd];have hw:IntKind.i64.wrap ((i:Int)+1)=((i+1:Nat):Int):=by rw[fL (by omega)];omega
   refine Ev.neq (λhq=>?_) (λhq=>?_)<;>try simp -implicitDefEqProofs only[e6,e8,hw,sS,Nat.reduceAdd]
   ·exact Ev.ret (.inr ⟨by simp,⟨_,gA,by omega⟩,_,_,_,_,rfl,.inr ⟨rfl,_,rfl⟩⟩)
   ·exact Ev.ret (.inl ⟨rfl,k-1,by omega,i+1,mz,_,_,_,gA,by omega,by omega,rfl⟩)
  ·exact Ev.ret (.inr ⟨by simp,⟨_,hj,hm⟩,_,_,_,_,rfl,.inl rfl⟩)
 ·rintro e vs Hx ⟨⟨m2,hj,hm⟩,x4,x5,aW,cM,rfl,he⟩;rcases he with he|⟨he,z,rfl⟩
  ·simp only at he;subst he;simp -implicitDefEqProofs only[Jp,wR,sS,Nat.reduceAdd];exact Ev.ret ⟨_,rfl,_,hj,hm⟩
  ·simp only at he;subst he;show Ev (λ_=>some (Value.bool z,Hx)) _
   exact Ev.ret ⟨_,rfl,_,hj,hm⟩
end
end Go.Proofs.YtgfgglponbmgmaaGreat.Fun.R
end
