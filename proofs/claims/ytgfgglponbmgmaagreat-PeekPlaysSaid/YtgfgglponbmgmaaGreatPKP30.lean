/- Texts of the proof of peekPlays_holds, put together by a small program of ours (names shortened, spaces taken out). No condition beyond the given statement. -/
import Derived.Test.YtgfgglponbmgmaaGreatPKP11
import Derived.Test.YtgfgglponbmgmaaGreatPKP12
import Derived.Test.YtgfgglponbmgmaaGreatPKP10
import Derived.Test.YtgfgglponbmgmaaGreatPKP17
import Derived.Test.YtgfgglponbmgmaaGreatPKP29
import Derived.Test.YtgfgglponbmgmaaGreatPKP15
set_option linter.unusedVariables false
set_option linter.unusedSimpArgs false
set_option linter.unnecessarySimpa false
noncomputable section
section
namespace Go.Proofs.YtgfgglponbmgmaaGreat.Fun.R
open Go Go.RowKit Go.Proofs.YtgfgglponbmgmaaGreatA.Am
set_option maxRecDepth 10000
section
variable {G:ae} {H H':aa} {o o':aj} {p m:Nat} {K K':aa→aj→Prop}
def Ak (H:aa)(o:aj)(p m:Nat):Prop:=
 ∃(tape w:Value) (T W:List Int) (i:Nat) (nk na nx ny rec laid:Int) (ty:TypeId),
  H.get p=some ⟨[tape,cv i,.bool (decide (m=0)),cv nk,cv na,cv nx,cv ny,w,cv rec,cv laid],ty,1,false⟩∧o p=p∧
  du H o (-50) tape T∧T.length≤1048576∧du H o (-51) w W∧(m≠0→i≤T.length∧m=T.length-i+1)∧(nk=0∨nk=1)
theorem Ak.fr {ps:List Int}(h:Ak H o p m)(f:Fr H o H' o' ps)(h1:(p:Int) ∉ ps)(h2:(-50:Int) ∉ ps)(h3:(-51:Int) ∉ ps):Ak H' o' p m:=by
 obtain⟨tape,w,T,W,i,nk,na,nx,ny,rec,laid,ty,g,ho,ht,hT,hw,hi⟩:=h;exact⟨tape,w,T,W,i,nk,na,nx,ny,rec,laid,ty,by rw[f.same p (ar g) (by rw[ho];exact h1)];exact g,by rw[f.own p (ar g)];exact ho,ht.fr f h2,hT,hw.fr f h3,hi⟩
def J (K:aa→aj→Prop)(p m:Nat)(H:aa):Prop:=bK [(p:Int)] K∧∃o,Ak H o p m∧K H o
def JW (K:aa→aj→Prop)(p m:Nat)(H:aa)(w:Value):Prop:=bK [(p:Int)] K∧∃o,Ak H o p m∧K H o∧∃l,du H o (-51) w l
theorem J.mono {L:aa→aj→Prop}(h:J K p m H)(hL:bK [(p:Int)] L)(k: ∀o,K H o→L H o):J L p m H:=by
 obtain⟨hK,o,h1,h2⟩:=h;exact⟨hL,o,h1,k o h2⟩
theorem J.Gr (h:J K p m H):JW K p m H (.slice none 0 0):=by
 obtain⟨hK,o,h1,h2⟩:=h;exact⟨hK,o,h1,h2,[],.nil⟩
theorem J.off (h:J K p m H):aq (.pointer (some ⟨p,2,none⟩)) H=some (.bool (decide (m=0))):=by
 obtain⟨hK,o,⟨tape,w,T,W,i,nk,na,nx,ny,rec,laid,ty,g,_⟩,_⟩:=h;exact an p 2 H g
theorem aa6 {k a x y:Int}{w:Value}(h:JW K p m H w)(DB:k=1):
  aF (run G) 160 [pv p,nv k a x y w] H λv H'=>∃z,v=cv z∧J K p (m-1) H':=by
 obtain⟨hK,o,⟨tape,w0,T,W,i,nk,na,nx,ny,rec,laid,ty,g,ho,ht,hT,Ss,hi,hnk⟩,hk,l,hw⟩:=h;obtain⟨wb,wc,ew⟩:=hw.1.isSlice;obtain⟨tb,tc,et⟩:=ht.1.isSlice;obtain⟨H1,e1⟩: ∃z,z=H.new ⟨[cv k,cv a,cv x,cv y,w],112,1,false⟩:=⟨_,rfl⟩;have bx:=CO k a x y (b:=wb) (n:=l.length) (c:=wc) H;rw[←ew, ←e1] at bx;have hp:=ar g;obtain⟨o1,eo1⟩: ∃z,z=o.up H.length (-9):=⟨_,rfl⟩;have f1:Fr H o H1 o1 []:=by rw[e1,eo1];exact(Fr.refl H o []).new _ _
 have g1:H1.get p=some ⟨[tape,cv i,.bool (decide (m=0)),cv nk,cv na,cv nx,cv ny,w0,cv rec,cv laid],ty,1,false⟩:=by rw[e1,dh hp];exact g
 have gb:H1.get H.length=some ⟨[cv k,cv a,cv x,cv y,w],112,1,false⟩:=by rw[e1];exact aL
 have Jw:o1 p=p:=by rw[f1.own p hp];exact ho
 have L2:=an p 2 H1 g1;have L1:=an p 1 H1 g1;have L0:=an p 0 H1 g1;simp only[List.getElem?_cons_succ,List.getElem?_cons_zero] at L2 L1 L0;have tl:=ht.1.len;by_cases m0:m=0
 ·subst m0;refine aF.is (v:=cv 0) (H':=H1) (λn=>?_) ⟨0,rfl,hK,o1,⟨tape,w0,T,W,i,nk,na,nx,ny,rec,laid,ty,g1,Jw,ht.fr f1 (by simp),hT,Ss.fr f1 (by simp),by simp,hnk⟩,hK _ _ _ _ hk (f1.wk (by simp))⟩
  rw[pw];simp -implicitDefEqProofs [Gf,bx,Bb,gW,L2]
 ·obtain⟨hi1,hm⟩:=hi m0;have dm:decide (m=0)=false:=by simp[m0]
  rw[dm] at L2;by_cases gG:i<T.length
  ·have Gs:(i:Int)<T.length:=by omega
   obtain⟨H2,e2⟩: ∃z,z=H1.put p ⟨[tape,cv (i+1:Nat),.bool (decide (m=0)),cv nk,cv na,cv nx,cv ny,w0,cv rec,cv laid],ty,1,false⟩:=⟨_,rfl⟩;have BL:IntKind.i64.wrap ((i:Int)+1)=((i+1:Nat):Int):=by rw[fZ (by omega)];omega
   have uQ:IntKind.i64.wrap (((i+1:Nat):Int)-1)=(i:Int):=by rw[fZ (by omega)];omega
   have S1:=gX p 1 ((i+1:Nat):Int) H1 g1 rfl (by simp)
   simp only[List.set_cons_succ,List.set_cons_zero] at S1;rw[←e2] at S1;have g2:H2.get p=some ⟨[tape,cv (i+1:Nat),.bool (decide (m=0)),cv nk,cv na,cv nx,cv ny,w0,cv rec,cv laid],ty,1,false⟩:=by rw[e2];exact aG g1
   have f2:Fr H o H2 o1 [(p:Int)]:=by rw[e2];exact(f1.wk (by simp)).put λ_=>by simp[ho]
   have CS:=ht.fr f2 (by simp)
   obtain⟨q,off,b,hix,hb,hbc⟩:=CS.1.idx gG;have L1':=an p 1 H2 g2;have L0':=an p 0 H2 g2;simp only[List.getElem?_cons_succ,List.getElem?_cons_zero] at L1' L0';have LT:=an q off H2 hb;rw[hbc] at LT;refine aF.is (v:=cv (T.getD i 0)) (H':=H2) (λn=>?_) ⟨_,rfl,hK,o1,⟨tape,w0,T,W,i+1,nk,na,nx,ny,rec,laid,ty,by rw[g2];congr 3;simp;omega,Jw,CS,hT,Ss.fr f2 (by simp),λ_=>by omega,hnk⟩,hK _ _ _ _ hk f2⟩
   rw[pw];simp -implicitDefEqProofs [-Int.natCast_add,Gf,bx,Bb,gW,L2,L1,L0,tl,se,Gs,IM,IN,BL,uQ,S1,L1',L0',hix,LT]
  ·have Gs: ¬(i:Int)<T.length:=by omega
   obtain⟨H2,e2⟩: ∃z,z=H1.put p ⟨[tape,cv i,.bool true,cv nk,cv na,cv nx,cv ny,w0,cv rec,cv laid],ty,1,false⟩:=⟨_,rfl⟩;have S1:=sj p 2 (.bool true) H1 g1 rfl (by simp) rfl rfl rfl
   simp only[List.set_cons_succ,List.set_cons_zero] at S1;rw[←e2] at S1;have g2:H2.get p=some ⟨[tape,cv i,.bool true,cv nk,cv na,cv nx,cv ny,w0,cv rec,cv laid],ty,1,false⟩:=by rw[e2];exact aG g1
   have gb2:H2.get H.length=some ⟨[cv k,cv a,cv x,cv y,w],112,1,false⟩:=by rw[e2,bz (by omega)];exact gb
   have LB:c8 5 (pv H.length) H2=some (nv k a x y w):=by simp[c8,aR,gb2]
   obtain⟨H3,e3⟩: ∃z,z=H2.put p ⟨[tape,cv i,.bool true,cv k,cv a,cv x,cv y,w,cv rec,cv laid],ty,1,false⟩:=⟨_,rfl⟩;have S2:bE 5 (.pointer (some ⟨p,3,none⟩)) (nv k a x y w) H2=some (undef,H3):=by
    subst ew;simp[bE,bX,g2,Value.cells,known,aD,dv,e3]
   have g3:H3.get p=some ⟨[tape,cv i,.bool true,cv k,cv a,cv x,cv y,w,cv rec,cv laid],ty,1,false⟩:=by rw[e3];exact aG g2
   have f3:Fr H o H3 o1 [(p:Int)]:=by rw[e3,e2];exact((f1.wk (by simp)).put λ_=>by simp[ho]).put λ_=>by simp[ho]
   refine aF.is (v:=cv 0) (H':=H3) (λn=>?_) ⟨_,rfl,hK,o1,⟨tape,w,T,l,i,k,a,x,y,rec,laid,ty,by rw[g3];congr 3;simp;omega,Jw,ht.fr f3 (by simp),hT,hw.fr f3 (by simp),λ_=>by omega,.inr DB⟩,hK _ _ _ _ hk f3⟩
   rw[pw];simp -implicitDefEqProofs [Gf,bx,Bb,gW,L2,L1,L0,tl,se,Gs,S1,LB,S2]
abbrev Num (K:aa→aj→Prop)(p c:Nat):Value→aa→Prop:=λv H'=>∃z,v=cv z∧∃m',J K p m' H'∧m'≤c
abbrev Boo (K:aa→aj→Prop)(p c:Nat):Value→aa→Prop:=λv H'=>∃z,v= .bool z∧∃m',J K p m' H'∧m'≤c
abbrev aa7 (K:aa→aj→Prop)(p c:Nat):Value→aa→Prop:=λv H'=>∃z b,v= .tuple #[cv z,.bool b]∧∃m',J K p m' H'∧m'≤c
abbrev SR (K:aa→aj→Prop)(p c:Nat):Value→aa→Prop:=λv H'=>∃z b,v= .tuple #[cv z,cv b]∧∃m',J K p m' H'∧m'≤c
section
variable {α:Type} {k:Nat→Value→aa→Option α} {Q:α→Prop} {t:TypeId} {a b:Int} {P:Program} {c:Nat} {C:Nat→ae} {f:Nat} {args:List Value}
theorem Ev.off (h:J K p m H)(h1:m=0→Ev (λn=>k n (.bool true) H) Q)(h2:m≠0→Ev (λn=>k n (.bool false) H) Q):Ev (λn=>af (pS (aq (.pointer (some ⟨p,2,none⟩)) H) H) (k n)) Q:=
 Ev.boo h.off (λe=>h1 (by simpa using e)) (λe=>h2 (by simpa using e))
theorem Ev.num (h:aF C f args H (Num K p c))(hk: ∀z H' m',J K p m' H'→m'≤c→Ev (λn=>k n (cv z) H') Q):Ev (λn=>af (C n f args H) (k n)) Q:=
 Ev.call h λv H' hq=>by obtain⟨z,rfl,m',h1,h2⟩:=hq;exact hk z H' m' h1 h2
theorem Ev.bool (h:aF C f args H (Boo K p c))(hk: ∀z H' m',J K p m' H'→m'≤c→Ev (λn=>k n (.bool z) H') Q):Ev (λn=>af (C n f args H) (k n)) Q:=
 Ev.call h λv H' hq=>by obtain⟨z,rfl,m',h1,h2⟩:=hq;exact hk z H' m' h1 h2
theorem Ev.adp (h:aF C f args H (aa7 K p c))(hk: ∀z b H' m',J K p m' H'→m'≤c→Ev (λn=>k n (.tuple #[cv z,.bool b]) H') Q):Ev (λn=>af (C n f args H) (k n)) Q:=
 Ev.call h λv H' hq=>by obtain⟨z,b,rfl,m',h1,h2⟩:=hq;exact hk z b H' m' h1 h2
theorem Ev.aa8 (h:aF C f args H (SR K p c))(hk: ∀z b H' m',J K p m' H'→m'≤c→Ev (λn=>k n (.tuple #[cv z,cv b]) H') Q):Ev (λn=>af (C n f args H) (k n)) Q:=
 Ev.call h λv H' hq=>by obtain⟨z,b,rfl,m',h1,h2⟩:=hq;exact hk z b H' m' h1 h2
end
theorem Ev.Ps {α:Type}{step:Nat→List Value→aa→bh}{kk:Nat→bD→List Value→aa→Option α}{Q:α→Prop}(I:List Value→Prop)(R:bD→List Value→Prop){m:Nat}{vs:List Value}(hj:J K p m H)(hi:I vs)(h: ∀m1 vs H1,J K p m1 H1→m1≤m→I vs→Ev (λn=>step n vs H1) λr=>(r.1= .normal∧(∃m2,J K p m2 r.2.2∧m2<m1)∧I r.2.1)∨(r.1≠ .normal∧(∃m2,J K p m2 r.2.2∧m2≤m1)∧R r.1 r.2.1))(hk: ∀e vs m1 H1,J K p m1 H1→m1≤m→R e vs→Ev (λn=>kk n e vs H1) Q):Ev (λn=>cl (iter n (step n) vs H) (kk n)) Q:=by
 refine Ev.loop (k:=m) (λk vs H1=>J K p k H1∧k≤m∧I vs) (λr=>(∃m2,J K p m2 r.2.2∧m2≤m)∧R r.1 r.2.1) ⟨hj,Nat.le_refl _,hi⟩ ?_ ?_
 ·rintro k vs H1 ⟨h1,h2,h3⟩;refine Ev.mono (h k vs H1 h1 h2 h3) ?_;rintro⟨e,ja,H2⟩ (⟨g1,⟨m2,g2,g3⟩,g4⟩|⟨g1,⟨m2,g2,g3⟩,g4⟩)
  ·exact .inl ⟨g1,m2,g3,g2,by omega,g4⟩
  ·exact .inr ⟨g1,⟨m2,g2,by omega⟩,g4⟩
 ·rintro e vs H1 ⟨⟨m2,g2,g3⟩,g4⟩;exact hk e vs m2 H1 g2 g3 g4
theorem kn (h:J K p m H)(a:Int):aF (run G) 139 [pv p,cv a] H (Num K p (m-1)):=by
 refine Ev.up (t:=λn=>OG (run G n) n (pv p) (cv a) H) ?_ λn=>IG ..
 simp -implicitDefEqProofs only[OG,OP,kD,cQ];refine Ev.call (aa6 h.Gr rfl) ?_;rintro v H' ⟨z,rfl,hj⟩;exact Ev.ret ⟨_,rfl,_,hj,Nat.le_refl _⟩
theorem J.uz (h:J K p m H)(f: ∀o,∃o',Fr H o H' o' []):J K p m H':=by
 obtain⟨hK,o,hr,hk⟩:=h;obtain⟨o',f⟩:=f o;exact⟨hK,o',hr.fr f (by simp) (by simp) (by simp),hK _ _ _ _ hk (f.wk (by simp))⟩
section
variable {i:Nat} {cs:List Value} {T:TypeId}
theorem J.nG (h:J K p m H)(cs:List Value)(T:TypeId)(es:Nat)(SN:bK [(p:Int)] K')(k: ∀o,K H o→Fr H o (H.new ⟨cs,T,es,false⟩) (o.up H.length (-9)) []→K' (H.new ⟨cs,T,es,false⟩) (o.up H.length (-9))):J K' p m (H.new ⟨cs,T,es,false⟩):=by
 obtain⟨hK,o,hr,hk⟩:=h;have f:Fr H o (H.new ⟨cs,T,es,false⟩) (o.up H.length (-9)) []:=(Fr.refl H o []).new _ _;exact⟨SN,_,hr.fr f (by simp) (by simp) (by simp),k o hk f⟩
theorem J.tY (h:J K p m H){c:eU}(hc: ∀o,K H o→Cl i cs T H o)(SN:bK [(p:Int)] K')(k: ∀o,K H o→K' (H.put i c) o):J K' p m (H.put i c):=by
 obtain⟨hK,o,hr,hk⟩:=h;have f:Fr H o (H.put i c) o [-9]:=(Fr.refl H o [-9]).put λ_=>by simp[(hc o hk).2]
 exact⟨SN,_,hr.fr f (by simp) (by simp) (by simp),k o hk⟩
theorem J.new (h:J K p m H)(c:eU):J K p m (H.new c):=h.uz λo=>⟨o.up H.length (-9),(Fr.refl H o []).new _ _⟩
end
theorem I3 (h:J K p m H)(a k:Int):aF (run G) 117 [pv p,cv a,cv k] H (SR K p (m-1)):=by
 refine Ev.up (t:=λn=>NV (run G n) n (pv p) (cv a) (cv k) H) ?_ λn=>HC ..
 simp -implicitDefEqProofs only[NV,sS,Nat.reduceAdd];have L5: ∀(d z:Int) (x6 x7 bn aC bS bP aO cJ aN dA fI aI ij fJ aM fR fN:Value) (m1:Nat) (H1:aa),J K p m1 H1→m1≤m-1→(∃i,aM=cv i)→
   Ev (λn=>cl (iter n (vw (run G n) n) [pv p,cv a,cv k,x6,x7,cv d,cv z,bn,aC,bS,bP,aO,cJ,aN,dA,fI,aI,ij,fJ,aM,fR,fN] H1) (dI 2 (dP (vx (run G n) n) (ef Tryz.prog [.tmp 6,.tmp 7] [0,1,2,6,7,8,9,21,10,29,32,11,41,12,56,68,13,79,88,14,103,112])))) λr=>SR K p (m-1) r.1 r.2:=by
  rintro d z x6 x7 bn aC bS bP aO cJ aN dA fI aI ij fJ aM fR fN m1 H1 fG M8 ⟨i,rfl⟩;refine Ev.Ps (λvs=>∃(i:Int) (x6 x7 bn aC bS bP aO cJ aN dA fI aI ij fJ fR fN:Value),vs=[pv p,cv a,cv k,x6,x7,cv d,cv z,bn,aC,bS,bP,aO,cJ,aN,dA,fI,aI,ij,fJ,cv i,fR,fN])
   (λe vs=>(e= .exit 2∨(e= .ret∧∃u,vs[3]? =some (cv d)∧vs[4]? =some (cv u)))∧∃(x6 x7 bn aC bS bP aO cJ aN dA fI aI ij fJ aM fR fN:Value),vs=[pv p,cv a,cv k,x6,x7,cv d,cv z,bn,aC,bS,bP,aO,cJ,aN,dA,fI,aI,ij,fJ,aM,fR,fN]) fG ⟨_,_,_,_,_,_,_,_,_,_,_,_,_,_,_,_,_,rfl⟩ ?_ ?_
  ·rintro m1 vs H1 hj hm ⟨i,x6,x7,bn,aC,bS,bP,aO,cJ,aN,dA,fI,aI,ij,fJ,fR,fN,rfl⟩;simp -implicitDefEqProofs only[AU,rR,sS,Nat.reduceAdd];repeat' (first|exact Ev.ret (.inl ⟨rfl,⟨_,by assumption,by omega⟩,_,_,_,_,_,_,_,_,_,_,_,_,_,_,_,_,_,rfl⟩)|exact Ev.ret (.inr ⟨by simp,⟨_,by assumption,by omega⟩,.inl rfl,_,_,_,_,_,_,_,_,_,_,_,_,_,_,_,_,_,rfl⟩)|exact Ev.ret (.inr ⟨by simp,⟨_,by assumption,by omega⟩,.inr ⟨rfl,_,rfl,rfl⟩,_,_,_,_,_,_,_,_,_,_,_,_,_,_,_,_,_,rfl⟩)| ((with_reducible first|refine Ev.lss (λhq=>?_) (λhq=>?_)|refine Ev.gtr (λhq=>?_) (λhq=>?_)|refine Ev.leq (λhq=>?_) (λhq=>?_)|refine Ev.geq (λhq=>?_) (λhq=>?_)|refine Ev.eql (λhq=>?_) (λhq=>?_)|refine Ev.off ‹_› (λhq=>?_) (λhq=>?_)|refine Ev.kj (nw _ _) λz=>?_ |refine Ev.kj (sv _ _ _ _) λz=>?_ |refine Ev.num (kn ‹_› _) λz Hz mz hj hm=>?_)<;>try simp -implicitDefEqProofs only[sS,Nat.reduceAdd]))
  ·rintro e vs m2 H2 hj hm ⟨he,x6,x7,bn,aC,bS,bP,aO,cJ,aN,dA,fI,aI,ij,fJ,aM,fR,fN,rfl⟩;rcases he with rfl|⟨rfl,u,e1,e2⟩
   ·simp -implicitDefEqProofs only[AV,rS,sS,Nat.reduceAdd];repeat' (first|exact Ev.ret ⟨_,_,rfl,_,by assumption,by omega⟩| ((with_reducible first|refine Ev.lss (λhq=>?_) (λhq=>?_)|refine Ev.gtr (λhq=>?_) (λhq=>?_)|refine Ev.leq (λhq=>?_) (λhq=>?_)|refine Ev.geq (λhq=>?_) (λhq=>?_)|refine Ev.eql (λhq=>?_) (λhq=>?_)|refine Ev.off ‹_› (λhq=>?_) (λhq=>?_)|refine Ev.kj (nw _ _) λz=>?_ |refine Ev.kj (sv _ _ _ _) λz=>?_ |refine Ev.num (kn ‹_› _) λz Hz mz hj hm=>?_)<;>try simp -implicitDefEqProofs only[sS,Nat.reduceAdd]))
   ·simp only[List.getElem?_cons_succ,List.getElem?_cons_zero,Option.some.injEq] at e1 e2;subst e1 e2;show Ev (λ_=>some (Value.tuple #[cv d,cv u],H2)) _
    exact Ev.ret ⟨_,_,rfl,_,hj,by omega⟩
 have L0: ∀(d z:Int) (x6 x7 bn aC bS bP aO cJ aN dA fI aI ij fJ aM fR fN:Value) (m1:Nat) (H1:aa),J K p m1 H1→m1≤m-1→(∃i,aI=cv i)→
   Ev (λn=>cl (iter n (vr (run G n) n) [pv p,cv a,cv k,x6,x7,cv d,cv z,bn,aC,bS,bP,aO,cJ,aN,dA,fI,aI,ij,fJ,aM,fR,fN] H1) (dI 0 (dP (vt (run G n) n) (dP (Cm (run G n) n) (ef Tryz.prog [.tmp 6,.tmp 7] [0,1,2,6,7,8,9,21,10,29,32,11,41,12,56,68,13,79,88,14,103,112]))))) λr=>SR K p (m-1) r.1 r.2:=by
  rintro d z x6 x7 bn aC bS bP aO cJ aN dA fI aI ij fJ aM fR fN m1 H1 fG M8 ⟨i,rfl⟩;refine Ev.Ps (λvs=>∃(i:Int) (x6 x7 bn aC bS bP aO cJ aN dA fI ij fJ aM fR fN:Value),vs=[pv p,cv a,cv k,x6,x7,cv d,cv z,bn,aC,bS,bP,aO,cJ,aN,dA,fI,cv i,ij,fJ,aM,fR,fN])
   (λe vs=>(e= .exit 0∨(e= .ret∧∃u,vs[3]? =some (cv d)∧vs[4]? =some (cv u)))∧∃(x6 x7 bn aC bS bP aO cJ aN dA fI aI ij fJ aM fR fN:Value),vs=[pv p,cv a,cv k,x6,x7,cv d,cv z,bn,aC,bS,bP,aO,cJ,aN,dA,fI,aI,ij,fJ,aM,fR,fN]) fG ⟨_,_,_,_,_,_,_,_,_,_,_,_,_,_,_,_,_,rfl⟩ ?_ ?_
  ·rintro m1 vs H1 hj hm ⟨i,x6,x7,bn,aC,bS,bP,aO,cJ,aN,dA,fI,ij,fJ,aM,fR,fN,rfl⟩;simp -implicitDefEqProofs only[AS,rP,sS,Nat.reduceAdd];repeat' (first|exact Ev.ret (.inl ⟨rfl,⟨_,by assumption,by omega⟩,_,_,_,_,_,_,_,_,_,_,_,_,_,_,_,_,_,rfl⟩)|exact Ev.ret (.inr ⟨by simp,⟨_,by assumption,by omega⟩,.inl rfl,_,_,_,_,_,_,_,_,_,_,_,_,_,_,_,_,_,rfl⟩)|exact Ev.ret (.inr ⟨by simp,⟨_,by assumption,by omega⟩,.inr ⟨rfl,_,rfl,rfl⟩,_,_,_,_,_,_,_,_,_,_,_,_,_,_,_,_,_,rfl⟩)| ((with_reducible first|refine Ev.lss (λhq=>?_) (λhq=>?_)|refine Ev.gtr (λhq=>?_) (λhq=>?_)|refine Ev.leq (λhq=>?_) (λhq=>?_)|refine Ev.geq (λhq=>?_) (λhq=>?_)|refine Ev.eql (λhq=>?_) (λhq=>?_)|refine Ev.off ‹_› (λhq=>?_) (λhq=>?_)|refine Ev.kj (nw _ _) λz=>?_ |refine Ev.kj (sv _ _ _ _) λz=>?_ |refine Ev.num (kn ‹_› _) λz Hz mz hj hm=>?_)<;>try simp -implicitDefEqProofs only[sS,Nat.reduceAdd]))
  ·rintro e vs m2 H2 hj hm ⟨he,x6,x7,bn,aC,bS,bP,aO,cJ,aN,dA,fI,aI,ij,fJ,aM,fR,fN,rfl⟩;rcases he with rfl|⟨rfl,u,e1,e2⟩
   ·simp -implicitDefEqProofs only[AT,rQ,sS,Nat.reduceAdd];repeat' (first|exact Ev.ret ⟨_,_,rfl,_,by assumption,by omega⟩| ((with_reducible first|refine Ev.lss (λhq=>?_) (λhq=>?_)|refine Ev.gtr (λhq=>?_) (λhq=>?_)|refine Ev.leq (λhq=>?_) (λhq=>?_)|refine Ev.geq (λhq=>?_) (λhq=>?_)|refine Ev.eql (λhq=>?_) (λhq=>?_)|refine Ev.off ‹_› (λhq=>?_) (λhq=>?_)|refine Ev.kj (nw _ _) λz=>?_ |refine Ev.kj (sv _ _ _ _) λz=>?_ |refine Ev.num (kn ‹_› _) λz Hz mz hj hm=>?_)<;>try simp -implicitDefEqProofs only[sS,Nat.reduceAdd]))
   ·simp only[List.getElem?_cons_succ,List.getElem?_cons_zero,Option.some.injEq] at e1 e2;subst e1 e2;show Ev (λ_=>some (Value.tuple #[cv d,cv u],H2)) _
    exact Ev.ret ⟨_,_,rfl,_,hj,by omega⟩
 repeat' (first|exact Ev.ret ⟨_,_,rfl,_,by assumption,by omega⟩|exact L5 _ _ _ _ _ _ _ _ _ _ _ _ _ _ _ _ _ _ _ _ _ ‹_› (by omega) ⟨_,rfl⟩|exact L0 _ _ _ _ _ _ _ _ _ _ _ _ _ _ _ _ _ _ _ _ _ ‹_› (by omega) ⟨_,rfl⟩| ((with_reducible first|refine Ev.lss (λhq=>?_) (λhq=>?_)|refine Ev.gtr (λhq=>?_) (λhq=>?_)|refine Ev.leq (λhq=>?_) (λhq=>?_)|refine Ev.geq (λhq=>?_) (λhq=>?_)|refine Ev.eql (λhq=>?_) (λhq=>?_)|refine Ev.off ‹_› (λhq=>?_) (λhq=>?_)|refine Ev.kj (nw _ _) λz=>?_ |refine Ev.kj (sv _ _ _ _) λz=>?_ |refine Ev.num (kn ‹_› _) λz Hz mz hj hm=>?_)<;>try simp -implicitDefEqProofs only[sS,Nat.reduceAdd]))
theorem GK (h:J K p m H)(a:Int):aF (run G) 113 [pv p,cv a] H (Num K p (m-1)):=by
 refine Ev.up (t:=λn=>NR (run G n) n (pv p) (cv a) H) ?_ λn=>HB ..
 simp -implicitDefEqProofs only[NR,sS,Nat.reduceAdd];repeat' (first|exact Ev.ret ⟨_,rfl,_,by assumption,by omega⟩| ((with_reducible first|refine Ev.eql (λhq=>?_) (λhq=>?_)|refine Ev.neq (λhq=>?_) (λhq=>?_)|refine Ev.kj (Gp _) λz=>?_ |refine Ev.kj (Sq _) λz=>?_ |refine Ev.num (kn ‹_› _) λz Hz mz hj hm=>?_)<;>try simp -implicitDefEqProofs only[sS,Nat.reduceAdd]))
theorem SS (h:J K p m H)(a k:Int):aF (run G) 144 [pv p,cv a,cv k] H (Num K p (m-1)):=by
 refine Ev.up (t:=λn=>NK (run G n) n (pv p) (cv a) (cv k) H) ?_ λn=>Hu ..
 simp -implicitDefEqProofs only[NK,sS,Nat.reduceAdd];repeat' (first|exact Ev.ret ⟨_,rfl,_,by assumption,by omega⟩| ((with_reducible first|refine Ev.kj (Bc _ _ _) λz=>?_ |refine Ev.aa8 (I3 ‹_› _ _) λz zb Hz mz hj hm=>?_)<;>try simp -implicitDefEqProofs only[sS,Nat.reduceAdd]))
theorem Yj (h:J K p m H)(k:Int):aF (run G) 118 [pv p,cv k] H (aa7 K p m):=by
 refine Ev.up (t:=λn=>Wx (run G n) n (pv p) (cv k) H) ?_ λn=>Rp ..
 simp -implicitDefEqProofs only[Wx,sS,Nat.reduceAdd];refine Ev.Ps (λvs=>∃(i:Int) (x4 x5 aI x7 bJ bM x8 ct bG dr:Value),vs=[pv p,cv k,x4,x5,aI,cv i,x7,bJ,bM,x8,ct,bG,dr])
  (λe vs=>(e= .exit 0∨(e= .ret∧∃u b,vs[2]? =some (cv u)∧vs[3]? =some (.bool b)))∧∃(x4 x5 aI x6 x7 bJ bM x8 ct bG dr:Value),vs=[pv p,cv k,x4,x5,aI,x6,x7,bJ,bM,x8,ct,bG,dr]) h ⟨_,_,_,_,_,_,_,_,_,_,_,rfl⟩ ?_ ?_
 ·rintro m1 vs Hx hj hk ⟨i,x4,x5,aI,x7,bJ,bM,x8,ct,bG,dr,rfl⟩;simp -implicitDefEqProofs only[Kn,xE,sS,Nat.reduceAdd];repeat' (first|exact Ev.ret (.inl ⟨rfl,⟨_,by assumption,by omega⟩,_,_,_,_,_,_,_,_,_,_,_,rfl⟩)|exact Ev.ret (.inr ⟨by simp,⟨_,by assumption,by omega⟩,.inl rfl,_,_,_,_,_,_,_,_,_,_,_,rfl⟩)|exact Ev.ret (.inr ⟨by simp,⟨_,by assumption,by omega⟩,.inr ⟨rfl,_,_,rfl,rfl⟩,_,_,_,_,_,_,_,_,_,_,_,rfl⟩)| ((with_reducible first|refine Ev.eql (λhq=>?_) (λhq=>?_)|refine Ev.neq (λhq=>?_) (λhq=>?_)|refine Ev.off ‹_› (λhq=>?_) (λhq=>?_)|refine Ev.kj (Gp _) λz=>?_ |refine Ev.kj (Sq _) λz=>?_ |refine Ev.num (kn ‹_› _) λz Hz mz hj hm=>?_ |refine Ev.num (GK ‹_› _) λz Hz mz hj hm=>?_ |refine Ev.num (SS ‹_› _ _) λz Hz mz hj hm=>?_)<;>try simp -implicitDefEqProofs only[sS,Nat.reduceAdd]))
 ·rintro e vs m1 Hx hj hm ⟨he,x4,x5,aI,x6,x7,bJ,bM,x8,ct,bG,dr,rfl⟩;rcases he with rfl|⟨rfl,u,b,e1,e2⟩
  ·simp -implicitDefEqProofs only[Ko,xF,sS,Nat.reduceAdd];exact Ev.ret ⟨_,_,rfl,_,hj,by omega⟩
  ·simp only[List.getElem?_cons_succ,List.getElem?_cons_zero,Option.some.injEq] at e1 e2;subst e1 e2;show Ev (λ_=>some (Value.tuple #[cv u,.bool b],Hx)) _
   exact Ev.ret ⟨_,_,rfl,_,hj,by omega⟩
end
section
variable {G:ae} {H H':aa} {o o':aj} {p m c:Nat} {K K':aa→aj→Prop} {t t1 t2 q:Int} {x:Value} {l lp ls:PL} {n i:Nat} {cs:List Value} {T:TypeId}
structure WS where
 lo:Int
 hi:Int
 back:Bool
 Pt:Int
 values:Bool
abbrev Mp (s:WS)(xp xs:Value):List Value:=[cv s.lo,cv s.hi,.bool s.back,cv s.Pt,.bool s.values,xp,xs]
def KW (K:aa→aj→Prop)(t t1 t2:Int)(w:Nat)(s:WS)(lp ls:PL)(H:aa)(o:aj):Prop:=
 K H o∧∃xp xs ty,H.get w=some ⟨Mp s xp xs,ty,1,false⟩∧o w=t∧gY H o t1 xp lp∧gY H o t2 xs ls
structure Fc (p:Nat) (t t1 t2:Int):Prop where
 a:oV t p
 a1:oV t1 p
 a2:oV t2 p
 d1:t≠t1
 d2:t≠t2
 d3:t1≠t2
theorem gY.isSlice {s:Value}(h:gY H o q s l): ∃a c,s= .slice a l.length c:=h.r.isSlice
section
variable {w:Nat} {s:WS}
theorem KW.eZ (ht:Fc p t t1 t2)(hK:bK [(p:Int),t,t1,t2] K):bK [(p:Int)] (KW K t t1 t2 w s lp ls):=λH o H' o' h f=>by
 obtain⟨hk,xp,xs,ty,g,ho,h1,h2⟩:=h;exact⟨hK _ _ _ _ hk (f.wk (by simp)),xp,xs,ty,by rw[f.same w (ar g) (by rw[ho];simpa using ht.a.ne)];exact g,by rw[f.own w (ar g)];exact ho,gY.fr h1 f (by simpa using ht.a1.ne),gY.fr h2 f (by simpa using ht.a2.ne)⟩
theorem KW.n7 (h:J (KW K t t1 t2 w s lp ls) p m H):aq (pv w) H=some (cv s.lo)∧aq (.pointer (some ⟨w,1,none⟩)) H=some (cv s.hi)∧aq (.pointer (some ⟨w,2,none⟩)) H=some (.bool s.back)∧aq (.pointer (some ⟨w,3,none⟩)) H=some (cv s.Pt)∧aq (.pointer (some ⟨w,4,none⟩)) H=some (.bool s.values):=by
 obtain⟨_,o,_,_,xp,xs,ty,g,_⟩:=h;exact⟨an w 0 _ g,an w 1 _ g,an w 2 _ g,an w 3 _ g,an w 4 _ g⟩
theorem KW.len (h:J (KW K t t1 t2 w s lp ls) p m H): ∃xp,aq (.pointer (some ⟨w,5,none⟩)) H=some xp∧cC xp=some (cv lp.length):=by
 obtain⟨_,o,_,_,xp,xs,ty,g,ho,h1,h2⟩:=h;exact⟨xp,an w 5 _ g,h1.r.len⟩
theorem KW.adq (ht:Fc p t t1 t2)(hK:bK [(p:Int),t,t1,t2] K)(h:J (KW K t t1 t2 w s lp ls) p m H)(hb:lp.length+1≤4294967296): ∃xp,aq (.pointer (some ⟨w,5,none⟩)) H=some xp∧∀(T ty:TypeId) (a b:Int),∃x' l' H1 H2,
  df T 2 16 xp (.slice (some ⟨H.length,0,none⟩) 1 1) (H.new ⟨[cv a,cv b],ty,2,false⟩)=some (x',H1)∧bE 1 (.pointer (some ⟨w,5,none⟩)) x' H1=some (undef,H2)∧J (KW K t t1 t2 w s l' ls) p m H2∧l'.length=lp.length+1:=by
 obtain⟨_,o,hr,hk,xp,xs,ty,g,ho,h1,h2⟩:=h;refine⟨xp,an w 5 _ g,λT mQ a b=>?_⟩
 have f1:Fr H o (H.new ⟨[cv a,cv b],mQ,2,false⟩) (o.up H.length (-9)) [t1]:=(Fr.refl H o [t1]).new _ _;have X9:Fr H o (H.new ⟨[cv a,cv b],mQ,2,false⟩) (o.up H.length (-9)) []:=(Fr.refl H o []).new _ _;obtain⟨x',H2,o2,e,s2,f2,_⟩:=gY.app (y:=.slice (some ⟨H.length,0,none⟩) 1 1) (m:=[(a,b)]) T (gY.fr h1 X9 (by simp)) (Src.one aL) (by simpa using hb)
 have f3:=f1.tr f2;have g2:H2.get w=some ⟨Mp s xp xs,ty,1,false⟩:=by rw[f3.same w (ar g) (by rw[ho];simpa using ht.d1)];exact g
 have Di:o2 w=t:=by rw[f3.own w (ar g)];exact ho
 obtain⟨ba,bc,ex⟩:=gY.isSlice s2;obtain⟨H3,e3⟩: ∃z,z=H2.put w ⟨Mp s x' xs,ty,1,false⟩:=⟨_,rfl⟩;have f4:Fr H2 o2 H3 o2 [t]:=by rw[e3];exact(Fr.refl H2 o2 [t]).put λ_=>by simp[Di]
 have f5:Fr H o H3 o2 [t,t1]:=f3.trans f4 (by simp) (by simp)
 refine⟨x',lp++[(a,b)],H2,H3,e,?_,⟨KW.eZ ht hK,o2,hr.fr f5 ?_ ?_ ?_,hK _ _ _ _ hk (f5.wk (by simp)),x',xs,ty,by rw[e3];exact aG g2,Di,gY.fr s2 f4 ?_,gY.fr h2 f5 ?_⟩,by simp⟩
 ·rw[ex,Gm w 5 ba _ bc H2 g2 rfl (by simp),e3,ex];rfl
 ·have:=ht.a.ne;have:=ht.a1.ne;simp;omega
 ·have:=ht.a.n0;have:=ht.a1.n0;simp;omega
 ·have:=ht.a.n1;have:=ht.a1.n1;simp;omega
 ·have:=ht.d1;have:=ht.d2;have:=ht.d3;simp;omega
 ·have:=ht.d1;have:=ht.d2;have:=ht.d3;simp;omega
theorem KW.adr (ht:Fc p t t1 t2)(hK:bK [(p:Int),t,t1,t2] K)(h:J (KW K t t1 t2 w s lp ls) p m H)(hb:ls.length+1≤4294967296): ∃xp,aq (.pointer (some ⟨w,6,none⟩)) H=some xp∧∀(T ty:TypeId) (a b:Int),∃x' l' H1 H2,
  df T 2 16 xp (.slice (some ⟨H.length,0,none⟩) 1 1) (H.new ⟨[cv a,cv b],ty,2,false⟩)=some (x',H1)∧bE 1 (.pointer (some ⟨w,6,none⟩)) x' H1=some (undef,H2)∧J (KW K t t1 t2 w s lp l') p m H2∧l'.length=ls.length+1:=by
 obtain⟨_,o,hr,hk,xp,xs,ty,g,ho,h1,h2⟩:=h;refine⟨xs,an w 6 _ g,λT mQ a b=>?_⟩
 have f1:Fr H o (H.new ⟨[cv a,cv b],mQ,2,false⟩) (o.up H.length (-9)) [t2]:=(Fr.refl H o [t2]).new _ _;have X9:Fr H o (H.new ⟨[cv a,cv b],mQ,2,false⟩) (o.up H.length (-9)) []:=(Fr.refl H o []).new _ _;obtain⟨x',H2,o2,e,s2,f2,_⟩:=gY.app (y:=.slice (some ⟨H.length,0,none⟩) 1 1) (m:=[(a,b)]) T (gY.fr h2 X9 (by simp)) (Src.one aL) (by simpa using hb)
 have f3:=f1.tr f2;have g2:H2.get w=some ⟨Mp s xp xs,ty,1,false⟩:=by rw[f3.same w (ar g) (by rw[ho];simpa using ht.d2)];exact g
 have Di:o2 w=t:=by rw[f3.own w (ar g)];exact ho
 obtain⟨ba,bc,ex⟩:=gY.isSlice s2;obtain⟨H3,e3⟩: ∃z,z=H2.put w ⟨Mp s xp x',ty,1,false⟩:=⟨_,rfl⟩;have f4:Fr H2 o2 H3 o2 [t]:=by rw[e3];exact(Fr.refl H2 o2 [t]).put λ_=>by simp[Di]
 have f5:Fr H o H3 o2 [t,t2]:=f3.trans f4 (by simp) (by simp)
 refine⟨x',ls++[(a,b)],H2,H3,e,?_,⟨KW.eZ ht hK,o2,hr.fr f5 ?_ ?_ ?_,hK _ _ _ _ hk (f5.wk (by simp)),xp,x',ty,by rw[e3];exact aG g2,Di,gY.fr h1 f5 ?_,gY.fr s2 f4 ?_⟩,by simp⟩
 ·rw[ex,Gm w 6 ba _ bc H2 g2 rfl (by simp),e3,ex];rfl
 ·have:=ht.a.ne;have:=ht.a2.ne;simp;omega
 ·have:=ht.a.n0;have:=ht.a2.n0;simp;omega
 ·have:=ht.a.n1;have:=ht.a2.n1;simp;omega
 ·have:=ht.d1;have:=ht.d2;have:=ht.d3;simp;omega
 ·have:=ht.d1;have:=ht.d2;have:=ht.d3;simp;omega
theorem KW.aa9 (ht:Fc p t t1 t2)(hK:bK [(p:Int),t,t1,t2] K)(h:J (KW K t t1 t2 w s lp ls) p m H)(v:Int): ∃H2,bE 1 (pv w) (cv v) H=some (undef,H2)∧J (KW K t t1 t2 w {s with lo:=v} lp ls) p m H2:=by
 obtain⟨_,o,hr,hk,xp,xs,ty,g,ho,h1,h2⟩:=h;have f:Fr H o (H.put w ⟨Mp {s with lo:=v} xp xs,ty,1,false⟩) o [t]:=(Fr.refl H o [t]).put λ_=>by simp[ho]
 refine⟨_,sj w 0 (cv v) H g rfl (by simp) rfl rfl rfl,KW.eZ ht hK,o,hr.fr f ?_ ?_ ?_,hK _ _ _ _ hk (f.wk (by simp)),xp,xs,ty,aG g,ho,gY.fr h1 f ?_,gY.fr h2 f ?_⟩
 ·have:=ht.a.ne;simp;omega
 ·have:=ht.a.n0;simp;omega
 ·have:=ht.a.n1;simp;omega
 ·have:=ht.d1;simp;omega
 ·have:=ht.d2;simp;omega
theorem KW.aba (ht:Fc p t t1 t2)(hK:bK [(p:Int),t,t1,t2] K)(h:J (KW K t t1 t2 w s lp ls) p m H)(v:Int): ∃H2,bE 1 (.pointer (some ⟨w,1,none⟩)) (cv v) H=some (undef,H2)∧J (KW K t t1 t2 w {s with hi:=v} lp ls) p m H2:=by
 obtain⟨_,o,hr,hk,xp,xs,ty,g,ho,h1,h2⟩:=h;have f:Fr H o (H.put w ⟨Mp {s with hi:=v} xp xs,ty,1,false⟩) o [t]:=(Fr.refl H o [t]).put λ_=>by simp[ho]
 refine⟨_,sj w 1 (cv v) H g rfl (by simp) rfl rfl rfl,KW.eZ ht hK,o,hr.fr f ?_ ?_ ?_,hK _ _ _ _ hk (f.wk (by simp)),xp,xs,ty,aG g,ho,gY.fr h1 f ?_,gY.fr h2 f ?_⟩
 ·have:=ht.a.ne;simp;omega
 ·have:=ht.a.n0;simp;omega
 ·have:=ht.a.n1;simp;omega
 ·have:=ht.d1;simp;omega
 ·have:=ht.d2;simp;omega
theorem KW.abb (ht:Fc p t t1 t2)(hK:bK [(p:Int),t,t1,t2] K)(h:J (KW K t t1 t2 w s lp ls) p m H)(v:Bool): ∃H2,bE 1 (.pointer (some ⟨w,2,none⟩)) (.bool v) H=some (undef,H2)∧J (KW K t t1 t2 w {s with back:=v} lp ls) p m H2:=by
 obtain⟨_,o,hr,hk,xp,xs,ty,g,ho,h1,h2⟩:=h;have f:Fr H o (H.put w ⟨Mp {s with back:=v} xp xs,ty,1,false⟩) o [t]:=(Fr.refl H o [t]).put λ_=>by simp[ho]
 refine⟨_,sj w 2 (.bool v) H g rfl (by simp) rfl rfl rfl,KW.eZ ht hK,o,hr.fr f ?_ ?_ ?_,hK _ _ _ _ hk (f.wk (by simp)),xp,xs,ty,aG g,ho,gY.fr h1 f ?_,gY.fr h2 f ?_⟩
 ·have:=ht.a.ne;simp;omega
 ·have:=ht.a.n0;simp;omega
 ·have:=ht.a.n1;simp;omega
 ·have:=ht.d1;simp;omega
 ·have:=ht.d2;simp;omega
theorem KW.ads (ht:Fc p t t1 t2)(hK:bK [(p:Int),t,t1,t2] K)(h:J (KW K t t1 t2 w s lp ls) p m H)(v:Int): ∃H2,bE 1 (.pointer (some ⟨w,3,none⟩)) (cv v) H=some (undef,H2)∧J (KW K t t1 t2 w {s with Pt:=v} lp ls) p m H2:=by
 obtain⟨_,o,hr,hk,xp,xs,ty,g,ho,h1,h2⟩:=h;have f:Fr H o (H.put w ⟨Mp {s with Pt:=v} xp xs,ty,1,false⟩) o [t]:=(Fr.refl H o [t]).put λ_=>by simp[ho]
 refine⟨_,sj w 3 (cv v) H g rfl (by simp) rfl rfl rfl,KW.eZ ht hK,o,hr.fr f ?_ ?_ ?_,hK _ _ _ _ hk (f.wk (by simp)),xp,xs,ty,aG g,ho,gY.fr h1 f ?_,gY.fr h2 f ?_⟩
 ·have:=ht.a.ne;simp;omega
 ·have:=ht.a.n0;simp;omega
 ·have:=ht.a.n1;simp;omega
 ·have:=ht.d1;simp;omega
 ·have:=ht.d2;simp;omega
theorem KW.abd (ht:Fc p t t1 t2)(hK:bK [(p:Int),t,t1,t2] K)(h:J (KW K t t1 t2 w s lp ls) p m H)(v:Bool): ∃H2,bE 1 (.pointer (some ⟨w,4,none⟩)) (.bool v) H=some (undef,H2)∧J (KW K t t1 t2 w {s with values:=v} lp ls) p m H2:=by
 obtain⟨_,o,hr,hk,xp,xs,ty,g,ho,h1,h2⟩:=h;have f:Fr H o (H.put w ⟨Mp {s with values:=v} xp xs,ty,1,false⟩) o [t]:=(Fr.refl H o [t]).put λ_=>by simp[ho]
 refine⟨_,sj w 4 (.bool v) H g rfl (by simp) rfl rfl rfl,KW.eZ ht hK,o,hr.fr f ?_ ?_ ?_,hK _ _ _ _ hk (f.wk (by simp)),xp,xs,ty,aG g,ho,gY.fr h1 f ?_,gY.fr h2 f ?_⟩
 ·have:=ht.a.ne;simp;omega
 ·have:=ht.a.n0;simp;omega
 ·have:=ht.a.n1;simp;omega
 ·have:=ht.d1;simp;omega
 ·have:=ht.d2;simp;omega
end
abbrev GW (K:aa→aj→Prop)(t t1 t2:Int)(w:Nat)(s:WS)(c p mm:Nat):Value→aa→Prop:=λv H'=>∃z lp' ls' m',v= .bool z∧J (KW K t t1 t2 w s lp' ls') p m' H'∧m'≤mm∧lp'.length+m'≤c∧ls'.length+m'≤c
section
variable {w:Nat} {s:WS}
theorem SU (ht:Fc p t t1 t2)(hK:bK [(p:Int),t,t1,t2] K)(hc:c≤2147483648)(h:J (KW K t t1 t2 w s lp ls) p m H)(h1:lp.length+m≤c)(h2:ls.length+m≤c)(h3:m≠0)(a:Int):
  aF (run G) 163 [pv w,pv p,cv a] H (GW K t t1 t2 w s c p (m-1)):=by
 refine Ev.up (t:=λk=>V4 (run G k) k (pv w) (pv p) (cv a) H) ?_ λk=>Q2 ..
 simp -implicitDefEqProofs only[V4,sS,Nat.reduceAdd];refine Ev.num (kn h _) λzq Hz mz hj hm=>?_
 obtain⟨a0,a1,a2,a3,a4⟩:=KW.n7 hj;have J0: ∀{m1:Nat} {H1:aa} (v:Int) (x6 bU bS:Value),J (KW K t t1 t2 w s lp ls) p m1 H1→m1≤m-1→Ev (λk=>vp (run G k) k [pv w,pv p,cv a,x6,cv zq,bU,bS,cv v] H1) λr=>GW K t t1 t2 w s c p (m-1) r.1 r.2:=by
  intro m1 H1 v x6 bU bS hj hm;obtain⟨xp,b0,b1⟩:=KW.adq ht hK hj (by omega)
  obtain⟨x',l',H2,H3,b2,b3,gF,hl⟩:=b1 45 45 zq v;obtain⟨a0,a1,a2,a3,a4⟩:=KW.n7 gF;obtain⟨xq,b4,b5⟩:=KW.len gF;simp -implicitDefEqProofs only[JY,xf,b0,zf,GA,b2,b3,a3,sS,Nat.reduceAdd];refine Ev.gtr (λhq=>?_) (λhq=>?_)<;>try simp -implicitDefEqProofs only[b4,b5,a3,sS,Nat.reduceAdd]
  ·refine Ev.geq (λhq=>?_) (λhq=>?_)<;>try simp -implicitDefEqProofs only[sS,Nat.reduceAdd]
   ·exact Ev.ret ⟨_,_,_,_,rfl,gF,by omega,by omega,by omega⟩
   ·exact Ev.ret ⟨_,_,_,_,rfl,gF,by omega,by omega,by omega⟩
  ·exact Ev.ret ⟨_,_,_,_,rfl,gF,by omega,by omega,by omega⟩
 simp -implicitDefEqProofs only[a0,sS,Nat.reduceAdd];refine Ev.lss (λhq=>?_) (λhq=>?_)<;>try simp -implicitDefEqProofs only[a1,sS,Nat.reduceAdd]
 ·exact Ev.ret ⟨_,_,_,_,rfl,hj,by omega,by omega,by omega⟩
 refine Ev.gtr (λhq=>?_) (λhq=>?_)<;>try simp -implicitDefEqProofs only[a4,sS,Nat.reduceAdd]
 ·exact Ev.ret ⟨_,_,_,_,rfl,hj,by omega,by omega,by omega⟩
 cases hv:s.values<;>try simp -implicitDefEqProofs only[sS,Nat.reduceAdd]
 ·exact J0 _ _ _ _ hj hm
 ·refine Ev.num (kn hj _) λzv Hz mz hj hm=>?_
  exact J0 _ _ _ _ hj (by omega)
theorem Ev.gw {α:Type}{k:Nat→Value→aa→Option α}{Q:α→Prop}{C:Nat→ae}{f:Nat}{args:List Value}{mm:Nat}(h:aF C f args H (GW K t t1 t2 w s c p mm))(hk: ∀z lp ls m' H',J (KW K t t1 t2 w s lp ls) p m' H'→m'≤mm→lp.length+m'≤c→ls.length+m'≤c→Ev (λn=>k n (.bool z) H') Q):Ev (λn=>af (C n f args H) (k n)) Q:=
 Ev.call h λv H' hq=>by obtain⟨z,lp,ls,m',rfl,h1,h2,h3,h4⟩:=hq;exact hk z lp ls m' H' h1 h2 h3 h4
theorem SV (ht:Fc p t t1 t2)(hK:bK [(p:Int),t,t1,t2] K)(hc:c≤2147483648){M:Nat}(ih: ∀{m:Nat} {lp ls:PL} {H:aa},J (KW K t t1 t2 w s lp ls) p m H→m<M→lp.length+m≤c→ls.length+m≤c→∀a,aF (run G) 119 [pv w,pv p,cv a] H (GW K t t1 t2 w s c p (m-1)))(h:J (KW K t t1 t2 w s lp ls) p m H)(hM:m<M)(h1:lp.length+m≤c)(h2:ls.length+m≤c)(h3:m≠0)(a:Int):
  aF (run G) 145 [pv w,pv p,cv a] H (GW K t t1 t2 w s c p m):=by
 refine Ev.up (t:=λk=>Xk (run G k) k (pv w) (pv p) (cv a) H) ?_ λk=>RT ..
 simp -implicitDefEqProofs only[Xk,sS,Nat.reduceAdd];refine Ev.kj (Sq _) λza=>?_
 refine Ev.kj (Gp _) λzk=>?_
 try simp -implicitDefEqProofs only[sS,Nat.reduceAdd]
 refine Ev.eql (λhq=>?_) (λhq=>?_)<;>try simp -implicitDefEqProofs only[sS,Nat.reduceAdd]
 ·refine Ev.gw (SU ht hK hc h h1 h2 h3 _) λz lp ls m' H' hj hm g1 g2=>?_
  try simp -implicitDefEqProofs only[sS,Nat.reduceAdd]
  exact Ev.ret ⟨_,_,_,_,rfl,hj,by omega,g1,g2⟩
 refine Ev.eql (λhq=>?_) (λhq=>?_)<;>try simp -implicitDefEqProofs only[sS,Nat.reduceAdd]
 ·refine Ev.gw (ih h hM h1 h2 _) λz lp ls m' H' hj hm g1 g2=>?_
  try simp -implicitDefEqProofs only[sS,Nat.reduceAdd]
  exact Ev.ret ⟨_,_,_,_,rfl,hj,by omega,g1,g2⟩
 refine Ev.eql (λhq=>?_) (λhq=>?_)<;>try simp -implicitDefEqProofs only[sS,Nat.reduceAdd]
 ·refine Ev.num (kn h _) λzr Hz mz hj hm=>?_
  refine Ev.kj (Sq _) λza2=>?_
  refine Ev.gw (ih hj (by omega) (by omega) (by omega) _) λz lp ls m' H' hj hm g1 g2=>?_
  try simp -implicitDefEqProofs only[sS,Nat.reduceAdd]
  exact Ev.ret ⟨_,_,_,_,rfl,hj,by omega,g1,g2⟩
 ·exact Ev.ret ⟨_,_,_,_,rfl,h,by omega,h1,h2⟩
theorem Yk (a b:Int):aE Tryz.prog 189 [(0,cv a),(1,cv b)]=some (.agg #[cv a,cv b]):=by kernel_rfl
theorem Yl (a b:Int)(H:aa):ay Tryz.prog 32 1 [(0,.agg #[cv a,cv b])] H=some (.slice (some ⟨H.length,0,none⟩) 1 1,H.new ⟨[cv a,cv b],189,2,false⟩):=by kernel_rfl
theorem Mq (ht:Fc p t t1 t2)(hK:bK [(p:Int),t,t1,t2] K)(hc:c≤2147483648): ∀(M:Nat) {m:Nat} {lp ls:PL} {H:aa},J (KW K t t1 t2 w s lp ls) p m H→m<M→lp.length+m≤c→ls.length+m≤c→∀a,aF (run G) 119 [pv w,pv p,cv a] H (GW K t t1 t2 w s c p (m-1)):=by
 intro M;induction M with
 |zero=>intro m lp ls H h hM;omega
 |succ M ih=>
 intro m lp ls H h hM h1 h2 a;refine Ev.up (t:=λk=>XP (run G k) k (pv w) (pv p) (cv a) H) ?_ λk=>Sd ..
 obtain⟨a0,a1,a2,a3,a4⟩:=KW.n7 h;have J0: ∀(x6 bt bG x8 x9 aC dq aO eQ fE lB AP:Value) (f:Int),Ev (λk=>vN (run G k) k [pv w,pv p,cv a,x6,bt,cv f,bG,x8,x9,aC,dq,aO,eQ,fE,lB,AP] H) λr=>GW K t t1 t2 w s c p (m-1) r.1 r.2:=by
  intro x6 bt bG x8 x9 aC dq aO eQ fE lB AP f;simp -implicitDefEqProofs only[Lk,yD,sS,Nat.reduceAdd];refine Ev.aa8 (I3 h _ _) λd i Hz mz hj hm=>?_
  simp -implicitDefEqProofs only[sS,Nat.reduceAdd];refine Ev.loop (k:=mz) (λk vs Hx=>∃(lp ls:PL) (i:Int) (x6 bt x7 bG aC dq aO eQ fE lB AP:Value),J (KW K t t1 t2 w s lp ls) p k Hx∧k≤mz∧lp.length+k≤c∧ls.length+k≤c∧vs=[pv w,pv p,cv a,x6,bt,x7,bG,cv d,cv i,aC,dq,aO,eQ,fE,lB,AP])
   (λr=>∃(lp ls:PL) (m2:Nat) (x9 x6 bt x7 bG aC dq aO eQ fE lB AP:Value),J (KW K t t1 t2 w s lp ls) p m2 r.2.2∧m2≤m-1∧lp.length+m2≤c∧ls.length+m2≤c∧r.2.1=[pv w,pv p,cv a,x6,bt,x7,bG,cv d,x9,aC,dq,aO,eQ,fE,lB,AP]∧(r.1= .exit 0∨(r.1= .ret∧∃z,x6= .bool z))) ⟨_,_,_,_,_,_,_,_,_,_,_,_,_,_,hj,Nat.le_refl _,by omega,by omega,rfl⟩ ?_ ?_
  ·rintro k vs Hx ⟨lp,ls,i,x6,bt,x7,bG,aC,dq,aO,eQ,fE,lB,AP,hj,hk,g1,g2,rfl⟩;simp -implicitDefEqProofs only[Lj,yC,sS,Nat.reduceAdd];refine Ev.off hj (λhq=>?_) (λhq=>?_)<;>try simp -implicitDefEqProofs only[sS,Nat.reduceAdd]
   ·exact Ev.ret (.inr ⟨by simp,_,_,_,_,_,_,_,_,_,_,_,_,_,_,_,hj,by omega,g1,g2,rfl,.inl rfl⟩)
   refine Ev.kj (Bc _ _ _) λzc=>?_
   refine Ev.num (GK hj _) λzw Hz mz2 hj Jz=>?_
   try simp -implicitDefEqProofs only[sS,Nat.reduceAdd]
   refine Ev.off hj (λhq=>?_) (λhq=>?_)<;>try simp -implicitDefEqProofs only[sS,Nat.reduceAdd]
   ·exact Ev.ret (.inr ⟨by simp,_,_,_,_,_,_,_,_,_,_,_,_,_,_,_,hj,by omega,by omega,by omega,rfl,.inl rfl⟩)
   obtain⟨xp,b0,b1⟩:=KW.adr ht hK hj (by omega)
   obtain⟨x',l',H2,H3,b2,b3,gF,hl⟩:=b1 189 189 zc zw;simp -implicitDefEqProofs only[b0,Yk,Yl,b2,b3,sS,Nat.reduceAdd];refine Ev.gw (SV ht hK hc (M:=M) (λ{m lp ls H} hj hM g1 g2 a=>ih hj hM g1 g2 a) gF (by omega) (by omega) (by omega) (by omega) _) λz lp ls m' H' hj MD g1 g2=>?_
   obtain⟨a0,a1,a2,a3,a4⟩:=KW.n7 hj;cases z<;>simp -implicitDefEqProofs only[a2,sS,Nat.reduceAdd]
   ·cases hb:s.back<;>simp -implicitDefEqProofs only[sS,Nat.reduceAdd]
    ·refine Ev.eql (λhq=>?_) (λhq=>?_)<;>try simp -implicitDefEqProofs only[sS,Nat.reduceAdd]
     ·exact Ev.ret (.inr ⟨by simp,_,_,_,_,_,_,_,_,_,_,_,_,_,_,_,hj,by omega,g1,g2,rfl,.inr ⟨rfl,_,rfl⟩⟩)
     ·refine Ev.kj (nw _ _) λzk=>?_
      refine Ev.num (kn hj _) λzr Hz mz3 jb hm4=>?_
      obtain⟨c0,c1,c2,c3,c4⟩:=KW.n7 jb;simp -implicitDefEqProofs only[a1,c1,sS,Nat.reduceAdd];refine Ev.gtr (λhq=>?_) (λhq=>?_)<;>try simp -implicitDefEqProofs only[a1,c1,sS,Nat.reduceAdd]
      ·exact Ev.ret (.inr ⟨by simp,_,_,_,_,_,_,_,_,_,_,_,_,_,_,_,jb,by omega,by omega,by omega,rfl,.inr ⟨rfl,_,rfl⟩⟩)
      ·exact Ev.ret (.inl ⟨rfl,_,by omega,_,_,_,_,_,_,_,_,_,_,_,_,_,_,jb,by omega,by omega,by omega,rfl⟩)
    ·refine Ev.eql (λhq=>?_) (λhq=>?_)<;>try simp -implicitDefEqProofs only[sS,Nat.reduceAdd]
     ·exact Ev.ret (.inr ⟨by simp,_,_,_,_,_,_,_,_,_,_,_,_,_,_,_,hj,by omega,g1,g2,rfl,.inr ⟨rfl,_,rfl⟩⟩)
     ·refine Ev.kj (nw _ _) λzk=>?_
      refine Ev.num (kn hj _) λzr Hz mz3 jb hm4=>?_
      obtain⟨c0,c1,c2,c3,c4⟩:=KW.n7 jb;simp -implicitDefEqProofs only[a0,c0,sS,Nat.reduceAdd];refine Ev.leq (λhq=>?_) (λhq=>?_)<;>try simp -implicitDefEqProofs only[a0,c0,sS,Nat.reduceAdd]
      ·exact Ev.ret (.inr ⟨by simp,_,_,_,_,_,_,_,_,_,_,_,_,_,_,_,jb,by omega,by omega,by omega,rfl,.inr ⟨rfl,_,rfl⟩⟩)
      ·exact Ev.ret (.inl ⟨rfl,_,by omega,_,_,_,_,_,_,_,_,_,_,_,_,_,_,jb,by omega,by omega,by omega,rfl⟩)
   ·exact Ev.ret (.inr ⟨by simp,_,_,_,_,_,_,_,_,_,_,_,_,_,_,_,hj,by omega,g1,g2,rfl,.inr ⟨rfl,_,rfl⟩⟩)
  ·rintro e vs Hx ⟨lp,ls,m2,x9,x6,bt,x7,bG,aC,dq,aO,eQ,fE,lB,AP,hj,Jz,g1,g2,rfl,he⟩;rcases he with he|⟨he,z,rfl⟩
   ·simp only at he;subst he;simp -implicitDefEqProofs only[Li,yB,sS,Nat.reduceAdd];exact Ev.ret ⟨_,_,_,_,rfl,hj,by omega,g1,g2⟩
   ·simp only at he;subst he;show Ev (λ_=>some (Value.bool z,Hx)) _
    exact Ev.ret ⟨_,_,_,_,rfl,hj,by omega,g1,g2⟩
 simp -implicitDefEqProofs only[XP,a0,a2,sS,Nat.reduceAdd];cases hb:s.back<;>simp -implicitDefEqProofs only[a1,sS,Nat.reduceAdd]
 ·exact J0 ..
 ·exact J0 ..
end
theorem SW (h:J K p m H)(hx: ∀H o,K H o→gT H o q x l)(hq:q≠(p:Int))(hl:l.length≤2147483648):aF (run G) 120 [pv p,x] H (Boo K p m):=by
 refine Ev.up (t:=λk=>Wy (run G k) k (pv p) x H) ?_ λk=>Rq ..
 simp -implicitDefEqProofs only[Wy,sS,Nat.reduceAdd];refine Ev.loop (k:=l.length) (λk vs Hx=>∃(i m2:Nat) (x4 aU cP:Value),J K p m2 Hx∧m2≤m∧i+k=l.length∧vs=[pv p,x,x4,cv i,aU,cP])
  (λr=>(∃m2,J K p m2 r.2.2∧m2≤m)∧∃(x4 x5 aU cP:Value),r.2.1=[pv p,x,x4,x5,aU,cP]∧(r.1= .exit 0∨(r.1= .ret∧∃z,x4= .bool z))) ⟨0,m,_,_,_,h,Nat.le_refl _,by omega,rfl⟩ ?_ ?_
 ·rintro k vs Hx ⟨i,m2,x4,aU,cP,hj,hm,hik,rfl⟩;obtain⟨_,o1,uT,DB⟩:=id hj;have hs:=hx _ _ DB;simp -implicitDefEqProofs only[Kp,xG,hs.len,sS,Nat.reduceAdd];refine Ev.lss (λqx=>?_) (λqx=>?_)<;>try simp -implicitDefEqProofs only[sS,Nat.reduceAdd]
  ·obtain⟨ib,off,b,e1,e2,e3,e4⟩:=hs.idx (j:=i) (by omega)
   obtain⟨e5,e6,_⟩:=e4 _ e2;refine Ev.off hj (λkB=>?_) (λkB=>?_)<;>try simp -implicitDefEqProofs only[e1,gW,Nat.add_zero,e5,sS,Nat.reduceAdd]
   ·exact Ev.ret (.inr ⟨by simp,⟨_,hj,hm⟩,_,_,_,_,rfl,.inl rfl⟩)
   have hjB:J (λH o=>K H o∧H.get ib=some b∧o ib=q) p m2 Hx:=⟨hj.1.and λH o H' o' a f=>⟨by rw[f.same ib (ar a.1) (by rw[a.2];simpa using hq)];exact a.1,by rw[f.own ib (ar a.1)];exact a.2⟩,o1,uT,DB,e2,e3⟩
   refine Ev.num (GK hjB _) λzw Hz mz fM Jz=>?_
   have gF:=fM.mono hj.1 λo a=>a.1
   obtain⟨_,o2,sK,hk2,g2,_⟩:=id fM;obtain⟨e7,e8,_⟩:=e4 _ g2;simp -implicitDefEqProofs only[e1,gW,e6,e8,sS,Nat.reduceAdd];have hw:IntKind.i64.wrap ((i:Int)+1)=((i+1:Nat):Int):=by rw[fZ (by omega)];omega
   refine Ev.neq (λhq=>?_) (λhq=>?_)<;>try simp -implicitDefEqProofs only[e6,e8,hw,sS,Nat.reduceAdd]
   ·exact Ev.ret (.inr ⟨by simp,⟨_,gF,by omega⟩,_,_,_,_,rfl,.inr ⟨rfl,_,rfl⟩⟩)
   ·exact Ev.ret (.inl ⟨rfl,k-1,by omega,i+1,mz,_,_,_,gF,by omega,by omega,rfl⟩)
  ·exact Ev.ret (.inr ⟨by simp,⟨_,hj,hm⟩,_,_,_,_,rfl,.inl rfl⟩)
 ·rintro e vs Hx ⟨⟨m2,hj,hm⟩,x4,x5,aU,cP,rfl,he⟩;rcases he with he|⟨he,z,rfl⟩
  ·simp only at he;subst he;simp -implicitDefEqProofs only[Kq,xH,sS,Nat.reduceAdd];exact Ev.ret ⟨_,rfl,_,hj,hm⟩
  ·simp only at he;subst he;show Ev (λ_=>some (Value.bool z,Hx)) _
   exact Ev.ret ⟨_,rfl,_,hj,hm⟩
end
end Go.Proofs.YtgfgglponbmgmaaGreat.Fun.R
end
