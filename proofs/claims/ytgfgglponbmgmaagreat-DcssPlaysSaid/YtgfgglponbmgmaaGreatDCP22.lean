/- Texts of the proof of dcssPlays_holds, put together by a small program of ours (names shortened, spaces taken out). No condition beyond the given statement. -/
import Derived.Test.YtgfgglponbmgmaaGreatDCP10
import Derived.Test.YtgfgglponbmgmaaGreatDCP12
import Derived.Test.YtgfgglponbmgmaaGreatDCP17
import Derived.Test.YtgfgglponbmgmaaGreatDCP18
import Derived.Test.YtgfgglponbmgmaaGreatDCP21
import Derived.Test.YtgfgglponbmgmaaGreatDCP13
import Derived.Test.YtgfgglponbmgmaaGreatDCP16
import Derived.Test.YtgfgglponbmgmaaGreatDCP15
import Derived.Test.YtgfgglponbmgmaaGreatDCP14
set_option linter.unusedVariables false
set_option linter.unusedSimpArgs false
set_option linter.unnecessarySimpa false
noncomputable section
section
namespace Go.Proofs.YtgfgglponbmgmaaGreat.Fun
open Go Go.RowKit Go.Proofs.YtgfgglponbmgmaaGreatA.Am
set_option maxRecDepth 10000
section
open Go.Proofs.YtgfgglponbmgmaaGreatA
variable {G:ae} {H H':aa} {o o':aj} {p:Nat} {K:aa→aj→Prop} {st No:Y.St} {α β:Type}
def Js:Y.Ask→Int→Int→Int→Int→List Int→Prop
 | .rd a',k,a,x,y,w=>k=1∧a=a'
 | .wr a' x',k,a,x,y,w=>k=2∧a=a'∧x=x'
 | .cs a' x' y',k,a,x,y,w=>k=3∧a=a'∧x=x'∧y=y'
 | .ad a' x',k,a,x,y,w=>k=4∧a=a'∧x=x'
 | .mk w',k,a,x,y,w=>k=5∧w=w'
def zh (H:aa)(o:aj)(p:Nat)(st:Y.St):Prop:=
 ∃(tape w:Value) (T W:List Int) (i:Nat) (nk na nx ny:Int) (ty:TypeId),
  H.get p=some ⟨[tape,cv i,.bool st.off,cv nk,cv na,cv nx,cv ny,w,cv st.gG,cv st.laid],ty,1,false⟩∧o p=p∧
  dy H o (-50) tape T∧T.length≤1048576∧dy H o (-51) w W∧i≤T.length∧st.rest=T.drop i∧(st.off=true→Js st.next nk na nx ny W)
theorem zh.fr {ps:List Int}(h:zh H o p st)(f:Fr H o H' o' ps)(h1:(p:Int) ∉ ps)(h2:(-50:Int) ∉ ps)(h3:(-51:Int) ∉ ps):zh H' o' p st:=by
 obtain⟨tape,w,T,W,i,nk,na,nx,ny,ty,g,ho,ht,hT,hw,hi⟩:=h;exact⟨tape,w,T,W,i,nk,na,nx,ny,ty,by rw[f.same p (ar g) (by rw[ho];exact h1)];exact g,by rw[f.own p (ar g)];exact ho,ht.fr f h2,hT,hw.fr f h3,hi⟩
def JX (K:aa→aj→Prop)(p:Nat)(st:Y.St)(H:aa):Prop:=bL [(p:Int)] K∧∃o,zh H o p st∧K H o
def PO (K:aa→aj→Prop)(p:Nat)(st:Y.St)(l:List Int)(H:aa)(w:Value):Prop:=bL [(p:Int)] K∧∃o,zh H o p st∧K H o∧dy H o (-51) w l
theorem JX.mono {L:aa→aj→Prop}(h:JX K p st H)(hL:bL [(p:Int)] L)(k: ∀o,K H o→L H o):JX L p st H:=by
 obtain⟨hK,o,h1,h2⟩:=h;exact⟨hL,o,h1,k o h2⟩
theorem JX.GY (h:JX K p st H):PO K p st [] H (.slice none 0 0):=by
 obtain⟨hK,o,h1,h2⟩:=h;exact⟨hK,o,h1,h2,.nil⟩
theorem JX.off (h:JX K p st H):aq (.pointer (some ⟨p,2,none⟩)) H=some (.bool st.off):=by
 obtain⟨hK,o,⟨tape,w,T,W,i,nk,na,nx,ny,ty,g,_⟩,_⟩:=h;exact an p 2 H g
theorem JX.words (h:JX K p st H)(l:List Int)(t:TypeId):PO K p st l (H.new ⟨l.map cv,t,1,false⟩) (.slice (some ⟨H.length,0,none⟩) l.length l.length):=by
 obtain⟨hK,o,hr,hk⟩:=h;have f:Fr H o (H.new ⟨l.map cv,t,1,false⟩) (o.up H.length (-51)) []:=(Fr.refl H o []).new _ _;exact⟨hK,_,hr.fr f (by simp) (by simp) (by simp),hK _ _ _ _ hk (f.wk (by simp)),(oK.new H o (-51) t l).ints⟩
theorem EU {k a x y:Int}{w:Value}{l:List Int}{q:Y.Ask}(h:PO K p st l H w)(hq:Js q k a x y l):
  aF (run G) 160 [pv p,nw k a x y w] H λv H'=>v=cv (Y.lG q st).1∧JX K p (Y.lG q st).2 H':=by
 obtain⟨hK,o,⟨tape,w0,T,W,i,nk,na,nx,ny,ty,g,ho,ht,hT,Re,hi,Jt,Vq⟩,hk,hw⟩:=h;obtain⟨wb,wc,ew⟩:=hw.1.isSlice;obtain⟨tb,tc,et⟩:=ht.1.isSlice;obtain⟨H1,e1⟩: ∃z,z=H.new ⟨[cv k,cv a,cv x,cv y,w],112,1,false⟩:=⟨_,rfl⟩;have bx:=CW k a x y (b:=wb) (n:=l.length) (c:=wc) H;rw[←ew, ←e1] at bx;have hp:=ar g;obtain⟨o1,eo1⟩: ∃z,z=o.up H.length (-9):=⟨_,rfl⟩;have f1:Fr H o H1 o1 []:=by rw[e1,eo1];exact(Fr.refl H o []).new _ _
 have g1:H1.get p=some ⟨[tape,cv i,.bool st.off,cv nk,cv na,cv nx,cv ny,w0,cv st.gG,cv st.laid],ty,1,false⟩:=by rw[e1,dk hp];exact g
 have gb:H1.get H.length=some ⟨[cv k,cv a,cv x,cv y,w],112,1,false⟩:=by rw[e1];exact aK
 have Kd:o1 p=p:=by rw[f1.own p hp];exact ho
 have L2:=an p 2 H1 g1;have L1:=an p 1 H1 g1;have L0:=an p 0 H1 g1;simp only[List.getElem?_cons_succ,List.getElem?_cons_zero] at L2 L1 L0;have tl:=ht.1.len;cases m0:st.off with
 |true=>
  have ea:Y.lG q st=(0,st):=Y.EP q st m0;rw[ea];rw[m0] at L2;refine aF.is (v:=cv 0) (H':=H1) (λn=>?_) ⟨rfl,hK,o1,⟨tape,w0,T,W,i,nk,na,nx,ny,ty,g1,Kd,ht.fr f1 (by simp),hT,Re.fr f1 (by simp),hi,Jt,Vq⟩,hK _ _ _ _ hk (f1.wk (by simp))⟩
  rw[pf];simp -implicitDefEqProofs [GJ,bx,Bh,gX,L2]
 |false=>
  rw[m0] at L2;by_cases gF:i<T.length
  ·have GZ:(i:Int)<T.length:=by omega
   have ed:T.drop i=T.getD i 0::T.drop (i+1):=by
    rw[List.drop_eq_getElem_cons gF];simp[List.getD_eq_getElem?_getD,gF]
   have ea:Y.lG q st=(T.getD i 0,{st with rest:=T.drop (i+1)}):=by
    unfold Y.lG;rw[m0,Jt,ed];rfl
   rw[ea];obtain⟨H2,e2⟩: ∃z,z=H1.put p ⟨[tape,cv (i+1:Nat),.bool st.off,cv nk,cv na,cv nx,cv ny,w0,cv st.gG,cv st.laid],ty,1,false⟩:=⟨_,rfl⟩;have DP:IntKind.i64.wrap ((i:Int)+1)=((i+1:Nat):Int):=by rw[gz (by omega)];omega
   have w5:IntKind.i64.wrap (((i+1:Nat):Int)-1)=(i:Int):=by rw[gz (by omega)];omega
   have S1:=gY p 1 ((i+1:Nat):Int) H1 g1 rfl (by simp)
   simp only[List.set_cons_succ,List.set_cons_zero] at S1;rw[←e2] at S1;have g2:H2.get p=some ⟨[tape,cv (i+1:Nat),.bool st.off,cv nk,cv na,cv nx,cv ny,w0,cv st.gG,cv st.laid],ty,1,false⟩:=by rw[e2];exact aH g1
   have f2:Fr H o H2 o1 [(p:Int)]:=by rw[e2];exact(f1.wk (by simp)).put λ_=>by simp[ho]
   have C2:=ht.fr f2 (by simp)
   obtain⟨q',off,b,hix,hb,hbc⟩:=C2.1.idx gF;have L1':=an p 1 H2 g2;have L0':=an p 0 H2 g2;simp only[List.getElem?_cons_succ,List.getElem?_cons_zero] at L1' L0';have LT:=an q' off H2 hb;rw[hbc] at LT;refine aF.is (v:=cv (T.getD i 0)) (H':=H2) (λn=>?_) ⟨rfl,hK,o1,⟨tape,w0,T,W,i+1,nk,na,nx,ny,ty,g2,Kd,C2,hT,Re.fr f2 (by simp),by omega,rfl,Vq⟩,hK _ _ _ _ hk f2⟩
   rw[pf];simp -implicitDefEqProofs [-Int.natCast_add,GJ,bx,Bh,gX,L2,L1,L0,tl,sk,GZ,Jm,Jn,DP,w5,S1,L1',L0',hix,LT]
  ·have GZ: ¬(i:Int)<T.length:=by omega
   have ed:T.drop i=[]:=List.drop_eq_nil_of_le (by omega)
   have ea:Y.lG q st=(0,{st with off:=true,next:=q}):=by
    unfold Y.lG;rw[m0,Jt,ed];rfl
   rw[ea];obtain⟨H2,e2⟩: ∃z,z=H1.put p ⟨[tape,cv i,.bool true,cv nk,cv na,cv nx,cv ny,w0,cv st.gG,cv st.laid],ty,1,false⟩:=⟨_,rfl⟩;have S1:=sr p 2 (.bool true) H1 g1 rfl (by simp) rfl rfl rfl
   simp only[List.set_cons_succ,List.set_cons_zero] at S1;rw[←e2] at S1;have g2:H2.get p=some ⟨[tape,cv i,.bool true,cv nk,cv na,cv nx,cv ny,w0,cv st.gG,cv st.laid],ty,1,false⟩:=by rw[e2];exact aH g1
   have gb2:H2.get H.length=some ⟨[cv k,cv a,cv x,cv y,w],112,1,false⟩:=by rw[e2,bA (by omega)];exact gb
   have LB:df 5 (pv H.length) H2=some (nw k a x y w):=by simp[df,aQ,gb2]
   obtain⟨H3,e3⟩: ∃z,z=H2.put p ⟨[tape,cv i,.bool true,cv k,cv a,cv x,cv y,w,cv st.gG,cv st.laid],ty,1,false⟩:=⟨_,rfl⟩;have S2:bD 5 (.pointer (some ⟨p,3,none⟩)) (nw k a x y w) H2=some (undef,H3):=by
    subst ew;simp[bD,bZ,g2,Value.cells,known,aC,dz,e3]
   have g3:H3.get p=some ⟨[tape,cv i,.bool true,cv k,cv a,cv x,cv y,w,cv st.gG,cv st.laid],ty,1,false⟩:=by rw[e3];exact aH g2
   have f3:Fr H o H3 o1 [(p:Int)]:=by rw[e3,e2];exact((f1.wk (by simp)).put λ_=>by simp[ho]).put λ_=>by simp[ho]
   refine aF.is (v:=cv 0) (H':=H3) (λn=>?_) ⟨rfl,hK,o1,⟨tape,w,T,l,i,k,a,x,y,ty,g3,Kd,ht.fr f3 (by simp),hT,hw.fr f3 (by simp),hi,Jt,λ_=>hq⟩,hK _ _ _ _ hk f3⟩
   rw[pf];simp -implicitDefEqProofs [GJ,bx,Bh,gX,L2,L1,L0,tl,sk,GZ,S1,LB,S2]
abbrev oO (K:aa→aj→Prop)(p:Nat)(st:Y.St)(t:Y.Tr Int):Value→aa→Prop:=λv H'=>v=cv (Y.ah t st).1∧JX K p (Y.ah t st).2 H'
abbrev jR (K:aa→aj→Prop)(p:Nat)(st:Y.St)(t:Y.Tr Bool):Value→aa→Prop:=λv H'=>v= .bool (Y.ah t st).1∧JX K p (Y.ah t st).2 H'
abbrev PQ (K:aa→aj→Prop)(p:Nat)(st:Y.St)(t:Y.Tr α):Value→aa→Prop:=λv H'=>JX K p (Y.ah t st).2 H'
abbrev iG (K:aa→aj→Prop)(p:Nat)(st:Y.St)(t:Y.Tr (Int×Bool)):Value→aa→Prop:=λv H'=>v= .tuple #[cv (Y.ah t st).1.1,.bool (Y.ah t st).1.2]∧JX K p (Y.ah t st).2 H'
abbrev kg (K:aa→aj→Prop)(p:Nat)(st:Y.St)(t:Y.Tr (Int×Int)):Value→aa→Prop:=λv H'=>v= .tuple #[cv (Y.ah t st).1.1,cv (Y.ah t st).1.2]∧JX K p (Y.ah t st).2 H'
section
variable {k:Nat→Value→aa→Option β} {Q:β→Prop} {C:Nat→ae} {f:Nat} {args:List Value}
theorem Ev.eY {t:Y.Tr Int}(h:aF C f args H (oO K p st t))(hk: ∀z s1 H',Y.ah t st=(z,s1)→JX K p s1 H'→Ev (λn=>k n (cv z) H') Q):Ev (λn=>af (C n f args H) (k n)) Q:=
 Ev.call h λv H' hq=>by obtain⟨rfl,hj⟩:=hq;exact hk _ _ H' rfl hj
theorem Ev.Mx {t:Y.Tr Bool}(h:aF C f args H (jR K p st t))(hk: ∀z s1 H',Y.ah t st=(z,s1)→JX K p s1 H'→Ev (λn=>k n (.bool z) H') Q):Ev (λn=>af (C n f args H) (k n)) Q:=
 Ev.call h λv H' hq=>by obtain⟨rfl,hj⟩:=hq;exact hk _ _ H' rfl hj
theorem Ev.unX {t:Y.Tr α}(h:aF C f args H (PQ K p st t))(hk: ∀v z s1 H',Y.ah t st=(z,s1)→JX K p s1 H'→Ev (λn=>k n v H') Q):Ev (λn=>af (C n f args H) (k n)) Q:=
 Ev.call h λv H' hq=>hk v _ _ H' rfl hq
theorem Ev.EV {t:Y.Tr (Int×Bool)}(h:aF C f args H (iG K p st t))(hk: ∀z b s1 H',Y.ah t st=((z,b),s1)→JX K p s1 H'→Ev (λn=>k n (.tuple #[cv z,.bool b]) H') Q):Ev (λn=>af (C n f args H) (k n)) Q:=
 Ev.call h λv H' hq=>by obtain⟨rfl,hj⟩:=hq;exact hk _ _ _ H' rfl hj
theorem Ev.aa4 {t:Y.Tr (Int×Int)}(h:aF C f args H (kg K p st t))(hk: ∀z b s1 H',Y.ah t st=((z,b),s1)→JX K p s1 H'→Ev (λn=>k n (.tuple #[cv z,cv b]) H') Q):Ev (λn=>af (C n f args H) (k n)) Q:=
 Ev.call h λv H' hq=>by obtain⟨rfl,hj⟩:=hq;exact hk _ _ _ H' rfl hj
theorem Ev.n3 (h:JX K p st H)(h1:st.off=true→Ev (λn=>k n (.bool true) H) Q)(h2:st.off=false→Ev (λn=>k n (.bool false) H) Q):Ev (λn=>af (pS (aq (.pointer (some ⟨p,2,none⟩)) H) H) (k n)) Q:=
 Ev.boo h.off h1 h2
end
theorem de (h:JX K p st H)(a:Int):aF (run G) 139 [pv p,cv a] H (oO K p st (Y.rd a)):=by
 refine Ev.up (t:=λn=>Pz (run G n) n (pv p) (cv a) H) ?_ λn=>Jh ..
 simp -implicitDefEqProofs only[Pz,PI,kG,cQ];refine Ev.call (EU (q:=.rd a) h.GY ⟨rfl,rfl⟩) ?_;rintro v H' ⟨rfl,hj⟩;exact Ev.ret ⟨rfl,hj⟩
theorem C3 (h:JX K p st H)(a x:Int):aF (run G) 146 [pv p,cv a,cv x] H (PQ K p st (Y.wt a x)):=by
 refine Ev.up (t:=λn=>YI (run G n) n (pv p) (cv a) (cv x) H) ?_ λn=>SU ..
 simp -implicitDefEqProofs only[YI,Y0,kG,cQ];refine Ev.call (EU (q:=.wr a x) h.GY ⟨rfl,rfl,rfl⟩) ?_;rintro v H' ⟨rfl,hj⟩;exact Ev.ret hj
theorem Vr (h:JX K p st H)(a x:Int):aF (run G) 154 [pv p,cv a,cv x] H (oO K p st (Y.ad a x)):=by
 refine Ev.up (t:=λn=>Xp (run G n) n (pv p) (cv a) (cv x) H) ?_ λn=>R9 ..
 simp -implicitDefEqProofs only[Xp,Y2,kG,cQ];refine Ev.call (EU (q:=.ad a x) h.GY ⟨rfl,rfl,rfl⟩) ?_;rintro v H' ⟨rfl,hj⟩;exact Ev.ret ⟨rfl,hj⟩
theorem EW (h:JX K p st H)(a x y:Int):aF (run G) 140 [pv p,cv a,cv x,cv y] H λv H'=>v= .bool (decide ((Y.ah (Y.cs a x y) st).1=1))∧JX K p (Y.ah (Y.cs a x y) st).2 H':=by
 refine Ev.up (t:=λn=>Xo (run G n) n (pv p) (cv a) (cv x) (cv y) H) ?_ λn=>R8 ..
 simp -implicitDefEqProofs only[Xo,Y1,kG,cQ];refine Ev.call (EU (q:=.cs a x y) h.GY ⟨rfl,rfl,rfl,rfl⟩) ?_;rintro v H' ⟨rfl,hj⟩;simp -implicitDefEqProofs only[vW,kG,cQ];exact Ev.ret ⟨rfl,hj⟩
theorem nD {w:Value}{l:List Int}(h:PO K p st l H w):aF (run G) 141 [pv p,w] H λv H'=>v= .tuple #[cv (Y.ah (Y.mk l) st).1,.bool (decide ((Y.ah (Y.mk l) st).1>0))]∧JX K p (Y.ah (Y.mk l) st).2 H':=by
 refine Ev.up (t:=λn=>W6 (run G n) n (pv p) w H) ?_ λn=>RT ..
 obtain⟨b,n,c,ew⟩: ∃b n c,w= .slice b n c:=by
  obtain⟨_,o,_,_,hw⟩:=h;obtain⟨b,c,e⟩:=hw.1.isSlice;exact⟨b,_,c,e⟩
 subst ew;simp -implicitDefEqProofs only[W6,Y3,kG,cQ];refine Ev.call (EU (q:=.mk l) h ⟨rfl,rfl⟩) ?_;rintro v H' ⟨rfl,hj⟩;simp -implicitDefEqProofs only[Jl,kG,cQ];exact Ev.ret ⟨rfl,hj⟩
end
section
open Go.Proofs.YtgfgglponbmgmaaGreatA
variable {G:ae} {H H':aa} {o o':aj} {p:Nat} {K:aa→aj→Prop} {st No:Y.St} {α β:Type}
theorem cG (x:Int):IntKind.i64.wrap x=Y.wr x:=by rw[IntKind.wrap_i64];unfold Y.wr;omega
abbrev Is (H:aa)(v:Value):Value→aa→Prop:=λv' H'=>v'=v∧H'=H
theorem Ev.is {k:Nat→Value→aa→Option β}{Q:β→Prop}{C:Nat→ae}{f:Nat}{args:List Value}{v:Value}(h:aF C f args H (Is H v))(hk:Ev (λn=>k n v H) Q):Ev (λn=>af (C n f args H) (k n)) Q:=
 Ev.call h λv' H' hq=>by obtain⟨rfl,rfl⟩:=hq;exact hk
theorem Ju (a:Int):aF (run G) 89 [cv a] H (Is H (.bool (Y.gi a))):=by
 refine Ev.up (t:=λn=>F89 (run G n) n (cv a) H) ?_ λn=>Pl ..
 by_cases h8:a>8
 ·have m:a.tmod 8=a%8:=Int.tmod_eq_emod_of_nonneg (by omega)
  have d:a.tdiv 8=a/8:=Int.tdiv_eq_ediv_of_nonneg (by omega)
  simp -implicitDefEqProofs only[F89,sS,Nat.reduceAdd];repeat' (first| (refine Ev.ret ⟨?_,rfl⟩;refine congrArg Value.bool ?_;simp[Y.gi];simp only[←m, ←d, ←cG];omega)| ((with_reducible first|refine Ev.gtr (λhq=>?_) (λhq=>?_)|refine Ev.leq (λhq=>?_) (λhq=>?_)|refine Ev.geq (λhq=>?_) (λhq=>?_))<;>try simp -implicitDefEqProofs only[sS,Nat.reduceAdd]))
 ·simp -implicitDefEqProofs only[F89,sS,Nat.reduceAdd];repeat' (first| (refine Ev.ret ⟨?_,rfl⟩;refine congrArg Value.bool ?_;simp[Y.gi];omega)| (exfalso;omega)| ((with_reducible first|refine Ev.gtr (λhq=>?_) (λhq=>?_)|refine Ev.leq (λhq=>?_) (λhq=>?_)|refine Ev.geq (λhq=>?_) (λhq=>?_))<;>try simp -implicitDefEqProofs only[sS,Nat.reduceAdd]))
theorem js (a:Int):aF (run G) 57 [cv a] H (Is H (cv (Y.kd a))):=by
 refine Ev.up (t:=λn=>F57 (run G n) n (cv a) H) ?_ λn=>Pf ..
 simp -implicitDefEqProofs only[F57,sS,Nat.reduceAdd];refine Ev.is (Ju a) ?_;cases hr:Y.gi a<;>simp -implicitDefEqProofs only[sS,Nat.reduceAdd]<;>refine Ev.ret ⟨?_,rfl⟩<;>refine congrArg cv ?_
 ·simp[Y.kd,hr]
 ·have h8:a>8:=by simp[Y.gi] at hr;omega
  have m:a.tmod 8=a%8:=Int.tmod_eq_emod_of_nonneg (by omega)
  simp[Y.kd,hr,m]
theorem n5 (a:Int):aF (run G) 83 [cv a] H (Is H (cv (Y.aw a))):=by
 refine Ev.up (t:=λn=>F83 (run G n) n (cv a) H) ?_ λn=>Pe ..
 simp -implicitDefEqProofs only[F83,sS,Nat.reduceAdd];refine Ev.is (Ju a) ?_;cases hr:Y.gi a<;>simp -implicitDefEqProofs only[sS,Nat.reduceAdd]<;>refine Ev.ret ⟨?_,rfl⟩<;>refine congrArg cv ?_
 ·simp[Y.aw,hr]
 ·have h8:a>8:=by simp[Y.gi] at hr;omega
  have d:a.tdiv 8=a/8:=Int.tdiv_eq_ediv_of_nonneg (by omega)
  simp[Y.aw,hr,d,cG]
theorem pJ (k a:Int):aF (run G) 59 [cv k,cv a] H (Is H (cv (Y.fP k a))):=by
 refine Ev.up (t:=λn=>F59 (run G n) n (cv k) (cv a) H) ?_ λn=>Xt ..
 simp -implicitDefEqProofs only[F59,sS,Nat.reduceAdd];repeat' (first| (refine Ev.ret ⟨?_,rfl⟩;refine congrArg cv ?_;simp only[Y.fP];(try rw[cG,cG]);split<;>(try unfold Y.wr)<;>omega)| ((with_reducible first|refine Ev.lss (λhq=>?_) (λhq=>?_)|refine Ev.gtr (λhq=>?_) (λhq=>?_))<;>try simp -implicitDefEqProofs only[sS,Nat.reduceAdd]))
theorem oP (a:Int):aF (run G) 130 [cv a] H (Is H (.bool (Y.ES a))):=by
 refine Ev.up (t:=λn=>Py (run G n) n (cv a) H) ?_ λn=>Jd ..
 simp -implicitDefEqProofs only[Py,sS,Nat.reduceAdd];repeat' (first| (refine Ev.ret ⟨?_,rfl⟩;refine congrArg Value.bool ?_;simp[Y.ES];omega)| ((with_reducible first|refine Ev.geq (λhq=>?_) (λhq=>?_))<;>try simp -implicitDefEqProofs only[sS,Nat.reduceAdd]))
theorem pz (a i:Int):aF (run G) 142 [cv a,cv i] H (Is H (cv (Y.lH a i))):=by
 refine Ev.up (t:=λn=>Pa (run G n) n (cv a) (cv i) H) ?_ λn=>IL ..
 simp -implicitDefEqProofs only[Pa,sS,Nat.reduceAdd];refine Ev.is (oP a) ?_;cases h1:Y.ES a<;>simp -implicitDefEqProofs only[sS,Nat.reduceAdd]
 ·exact Ev.ret ⟨by simp[Y.lH,h1],rfl⟩
 refine Ev.is (oP i) ?_;cases h2:Y.ES i<;>simp -implicitDefEqProofs only[sS,Nat.reduceAdd]
 ·exact Ev.ret ⟨by simp[Y.lH,h1,h2],rfl⟩
 ·refine Ev.ret ⟨congrArg cv ?_,rfl⟩;simp[Y.lH,h1,h2,cG];simp[Y.ES] at h1 h2;unfold Y.wr;omega
theorem kQ (a d i:Int):aF (run G) 103 [cv a,cv d,cv i] H (Is H (cv (Y.dp a d i))):=by
 refine Ev.up (t:=λn=>Px (run G n) n (cv a) (cv d) (cv i) H) ?_ λn=>I6 ..
 simp -implicitDefEqProofs only[Px,sS,Nat.reduceAdd];refine Ev.is (oP a) ?_;cases h1:Y.ES a<;>simp -implicitDefEqProofs only[sS,Nat.reduceAdd]
 ·exact Ev.ret ⟨by simp[Y.dp,h1],rfl⟩
 refine Ev.is (oP d) ?_;cases h2:Y.ES d<;>simp -implicitDefEqProofs only[sS,Nat.reduceAdd]
 ·exact Ev.ret ⟨by simp[Y.dp,h1,h2],rfl⟩
 refine Ev.is (oP i) ?_;cases h3:Y.ES i<;>simp -implicitDefEqProofs only[sS,Nat.reduceAdd]
 ·exact Ev.ret ⟨by simp[Y.dp,h1,h2,h3],rfl⟩
 ·refine Ev.ret ⟨congrArg cv ?_,rfl⟩;simp[Y.dp,h1,h2,h3,cG];simp[Y.ES] at h1 h2 h3;unfold Y.wr;omega
theorem Tn (a:Int):aF (run G) 155 [cv a] H (Is H (cv (Y.PN a))):=by
 refine Ev.up (t:=λn=>Sa (run G n) n (cv a) H) ?_ λn=>Sb ..
 by_cases h0:0≤a
 ·have d:a.tdiv 4=a/4:=Int.tdiv_eq_ediv_of_nonneg h0;simp -implicitDefEqProofs only[Sa,sS,Nat.reduceAdd];repeat' (first| (refine Ev.ret ⟨?_,rfl⟩;refine congrArg cv ?_;simp only[Y.PN];(try rw[d,cG,cG]);split<;>(try simp only[Y.wr])<;>omega)| ((with_reducible first|refine Ev.lss (λhq=>?_) (λhq=>?_)|refine Ev.gtr (λhq=>?_) (λhq=>?_))<;>try simp -implicitDefEqProofs only[sS,Nat.reduceAdd]))
 ·simp -implicitDefEqProofs only[Sa,sS,Nat.reduceAdd];repeat' (first| (refine Ev.ret ⟨?_,rfl⟩;refine congrArg cv ?_;simp only[Y.PN];split<;>omega)| (exfalso;omega)| ((with_reducible first|refine Ev.lss (λhq=>?_) (λhq=>?_)|refine Ev.gtr (λhq=>?_) (λhq=>?_))<;>try simp -implicitDefEqProofs only[sS,Nat.reduceAdd]))
end
section
variable {G:ae} {H H':aa} {o o':aj} {p m:Nat} {K:aa→aj→Prop}
abbrev uv (x:Int):Value:=.int .u64 x
section
variable {α:Type} {k:Nat→Value→aa→Option α} {Q:α→Prop} {t:TypeId} {a b:Int} {P:Program}
theorem Ev.Y6 {op:BinOp}(vp:op= .eql∨op= .geq)(h1:Ev (λn=>k n (.bool true) H) Q)(h2:Ev (λn=>k n (.bool false) H) Q):Ev (λn=>af (pS (ai P op t (uv a) (uv b)) H) (k n)) Q:=by
 have: ∃c:Bool,ai P op t (uv a) (uv b)=some (.bool c):=by
  rcases vp with rfl|rfl
  ·exact⟨_,rfl⟩
  ·exact⟨_,rfl⟩
 obtain⟨c,e⟩:=this;rw[e];cases c with
 |true=>exact h1
 |false=>exact h2
end
theorem vh (t:TypeId)(a b:Int):ai Tryz.prog .sub t (uv a) (uv b)=some (uv (IntKind.u64.wrap (a-b))):=rfl
theorem To (t:TypeId)(a b:Int):ai Tryz.prog .add t (uv a) (uv b)=some (uv (IntKind.u64.wrap (a+b))):=rfl
theorem Tp (x:Int)(H:aa):AU .u64 (cv x) H=some (uv (IntKind.u64.wrap x),H):=rfl
theorem aa5 (a b:Int)(H:aa):aaH (uv a) (uv b) H=some (uv (if b<a then b else a),H):=rfl
theorem aa6 (t:TypeId)(a:Int)(b:Nat):ai Tryz.prog .shr t (cv a) (.int .u64 b)=some (cv (a.fdiv (2^min ((b:Int)).toNat 64))):=by
 show qj .shr .i64 a b=_
 simp only[qj];rfl
theorem Vs (a b:Int):aF (run G) 162 [cv a,cv b] H λv H'=>(∃z,v=uv z)∧H'=H:=by
 refine Ev.up (t:=λn=>Pp (run G n) n (cv a) (cv b) H) ?_ λn=>I3 ..
 simp -implicitDefEqProofs only[Pp,sS,Nat.reduceAdd,Tp,vh];refine Ev.lss (λh1=>?_) (λh1=>?_)<;>try simp -implicitDefEqProofs only[sS,Nat.reduceAdd,Tp,vh]
 ·exact Ev.ret ⟨⟨_,rfl⟩,rfl⟩
 ·exact Ev.ret ⟨⟨_,rfl⟩,rfl⟩
theorem Tq (a b c:Int):aF (run G) 161 [uv a,uv b,cv c] H (CX H):=by
 refine Ev.up (t:=λn=>OT (run G n) n (uv a) (uv b) (cv c) H) ?_ λn=>Iz ..
 simp -implicitDefEqProofs only[OT,sS,Nat.reduceAdd];refine Ev.Y6 (.inl rfl) ?_ ?_ <;>try simp -implicitDefEqProofs only[sS,Nat.reduceAdd]
 ·exact Ev.ret ⟨⟨_,rfl⟩,rfl⟩
 refine Ev.lss (λh1=>?_) (λh1=>?_)<;>try simp -implicitDefEqProofs only[sS,Nat.reduceAdd]
 ·exact Ev.ret ⟨⟨_,rfl⟩,rfl⟩
 refine Ev.gtr (λh1=>?_) (λh1=>?_)<;>try simp -implicitDefEqProofs only[sS,Nat.reduceAdd,aa5]
 ·exact Ev.ret ⟨⟨_,rfl⟩,rfl⟩
 refine Ev.loop (k:=17) (λk vs Hx=>∃(a b d7 d8:Int) (d24 d33 d49 d54:Value),Hx=H∧k≤17∧vs=[uv a,uv b,cv c,cv 0,.bool false,cv ((k:Int)-1),d24,cv d7,uv d8,d33,d49,d54])
  (λr=>r.1= .exit 0∧r.2.2=H∧∃(a b d7:Int) (d8 d9 d24 d33 d49 d54:Value),r.2.1=[uv a,uv b,cv c,cv 0,.bool false,d9,d24,cv d7,d8,d33,d49,d54]) ⟨_,_,_,_,_,_,_,_,rfl,by omega,rfl⟩ ?_ ?_
 ·rintro k vs Hx ⟨a,b,d7,d8,d24,d33,d49,d54,rfl,hk,rfl⟩;simp -implicitDefEqProofs only[Bc,se,sS,Nat.reduceAdd];refine Ev.geq (λhq=>?_) (λhq=>?_)<;>try simp -implicitDefEqProofs only[sS,Nat.reduceAdd,vh]
  ·obtain⟨j,rfl⟩: ∃j,k=j+1:=⟨k-1,by omega⟩
   have eb:((j+1:Nat):Int)-1=(j:Int):=by omega
   have hw:IntKind.i64.wrap ((j:Int)-1)=(j:Int)-1:=gz (by omega)
   have iP: ∀(d7 d8:Int) (d24 d33 d49 d54:Value),Ev (λn=>pg (run G n) n [uv a,uv b,cv c,cv 0,.bool false,cv ((j+1:Nat)-1),d24,cv d7,uv d8,d33,d49,d54] Hx) λr=>(r.1= .normal∧∃k',k'<j+1∧∃(a b d7 d8:Int) (d24 d33 d49 d54:Value),r.2.2=Hx∧k'≤17∧r.2.1=[uv a,uv b,cv c,cv 0,.bool false,cv ((k':Int)-1),d24,cv d7,uv d8,d33,d49,d54])∨(r.1≠ .normal∧r.1= .exit 0∧r.2.2=Hx∧∃(a b d7:Int) (d8 d9 d24 d33 d49 d54:Value),r.2.1=[uv a,uv b,cv c,cv 0,.bool false,d9,d24,cv d7,d8,d33,d49,d54]):=by
    intro d7 d8 d24 d33 d49 d54;simp -implicitDefEqProofs only[Ba,r8,sS,Nat.reduceAdd,eb,hw];exact Ev.ret (.inl ⟨rfl,j,by omega,_,_,_,_,_,_,_,_,rfl,by omega,rfl⟩)
   have h2: ∀(d7 d8:Int) (d24 d33 d49 d54:Value),Ev (λn=>sd (run G n) n [uv a,uv b,cv c,cv 0,.bool false,cv ((j+1:Nat)-1),d24,cv d7,uv d8,d33,d49,d54] Hx) λr=>(r.1= .normal∧∃k',k'<j+1∧∃(a b d7 d8:Int) (d24 d33 d49 d54:Value),r.2.2=Hx∧k'≤17∧r.2.1=[uv a,uv b,cv c,cv 0,.bool false,cv ((k':Int)-1),d24,cv d7,uv d8,d33,d49,d54])∨(r.1≠ .normal∧r.1= .exit 0∧r.2.2=Hx∧∃(a b d7:Int) (d8 d9 d24 d33 d49 d54:Value),r.2.1=[uv a,uv b,cv c,cv 0,.bool false,d9,d24,cv d7,d8,d33,d49,d54]):=by
    intro d7 d8 d24 d33 d49 d54;simp -implicitDefEqProofs only[Bb,sb,sS,Nat.reduceAdd,eb,PK j (by omega),aa6,CT]
    refine Ev.eql (λhq=>?_) (λhq=>?_)<;>try simp -implicitDefEqProofs only[sS,Nat.reduceAdd,vh]
    ·have:=iP d7 d8 d24 d33 (.bool true) d54
     rw[eb] at this;exact this
    refine Ev.Y6 (.inr rfl) ?_ ?_ <;>try simp -implicitDefEqProofs only[sS,Nat.reduceAdd,vh,To]
    ·have:=iP (IntKind.i64.wrap (d7+1)) (IntKind.u64.wrap (d8-IntKind.u64.wrap (b-a))) d24 d33 (.bool false) (.bool true)
     rw[eb] at this;exact this
    ·have:=iP d7 (IntKind.u64.wrap (d8+a)) d24 d33 (.bool false) (.bool false)
     rw[eb] at this;exact this
   refine Ev.Y6 (.inr rfl) ?_ ?_ <;>try simp -implicitDefEqProofs only[sS,Nat.reduceAdd,vh,To]
   ·exact h2 _ _ _ _ _ _
   ·exact h2 _ _ _ _ _ _
  ·exact Ev.ret (.inr ⟨by simp,rfl,rfl,_,_,_,_,_,_,_,_,_,rfl⟩)
 ·rintro e vs Hx ⟨he,rfl,a,b,d7,d8,d9,d24,d33,d49,d54,rfl⟩;simp only at he;subst he;simp -implicitDefEqProofs only[Bd,sg,sS,Nat.reduceAdd];exact Ev.ret ⟨⟨_,rfl⟩,rfl⟩
theorem sB (a b c d:Int):aF (run G) 143 [cv a,cv b,cv c,cv d] H (CX H):=by
 refine Ev.up (t:=λn=>PA (run G n) n (cv a) (cv b) (cv c) (cv d) H) ?_ λn=>Ji ..
 simp -implicitDefEqProofs only[PA,sS,Nat.reduceAdd];repeat' (first|exact Ev.ret ⟨⟨_,rfl⟩,rfl⟩| ((with_reducible first|refine Ev.lss (λhq=>?_) (λhq=>?_)|refine Ev.gtr (λhq=>?_) (λhq=>?_)|refine Ev.geq (λhq=>?_) (λhq=>?_))<;>try simp -implicitDefEqProofs only[sS,Nat.reduceAdd]))
 all_goals
  refine Ev.call (Vs _ _) ?_;rintro v H' ⟨⟨z1,rfl⟩,rfl⟩;refine Ev.call (Vs _ _) ?_;rintro v H' ⟨⟨z2,rfl⟩,rfl⟩
  try simp -implicitDefEqProofs only[sS,Nat.reduceAdd]
  refine Ev.kp (Tq _ _ _) λz=>?_
  try simp -implicitDefEqProofs only[sS,Nat.reduceAdd]
  exact Ev.ret ⟨⟨_,rfl⟩,rfl⟩
end
section
variable {G:ae} {H H':aa} {o o':aj} {p m:Nat} {K:aa→aj→Prop}
theorem gH (o:aj): ∀n:Nat,∃t:Int,t< -100∧∀i,i<n→t<o i
 |0=>⟨-101,by omega,λi h=>by omega⟩
 |n+1=>by
  obtain⟨t,h1,h2⟩:=gH o n;refine⟨min t (o n)-1,by omega,λi hi=>?_⟩
  rcases Nat.lt_or_ge i n with g|g
  ·have:=h2 i g;omega
  ·have:i=n:=by omega
   subst this;omega
theorem iL {t:Int}{ps:List Int}(f:Fr H o H' o' (t::ps))(h: ∀i,i<H.length→o i≠t):Fr H o H' o' ps:=
 ⟨λi hi hn=>f.slot i hi (by simp only[List.mem_cons,not_or];exact⟨h i hi,hn⟩),f.own,f.size⟩
theorem Ap (a:Int)(H:aa):ay Tryz.prog 42 1 [(0,cv a)] H=some (.slice (some ⟨H.length,0,none⟩) 1 1,H.new ⟨[cv a],2,1,false⟩):=by kernel_rfl
theorem Tt (a b:Int)(H:aa):ay Tryz.prog 42 2 [(0,cv a),(1,cv b)] H=some (.slice (some ⟨H.length,0,none⟩) 2 2,H.new ⟨[cv a,cv b],2,1,false⟩):=by kernel_rfl
theorem PR (a b c d e:Int)(H:aa):ay Tryz.prog 42 5 [(0,cv a),(1,cv b),(2,cv c),(3,cv d),(4,cv e)] H=some (.slice (some ⟨H.length,0,none⟩) 5 5,H.new ⟨[cv a,cv b,cv c,cv d,cv e],2,1,false⟩):=by kernel_rfl
section
variable {α:Type} {k:Nat→Value→aa→Option α} {Q:α→Prop} {z:Int}
end
end
section
open Go.Proofs.YtgfgglponbmgmaaGreatA
variable {G:ae} {H H':aa} {o o':aj} {p:Nat} {K:aa→aj→Prop} {st No s1:Y.St} {α β:Type}
section
variable {k:Nat→Value→aa→Option β} {Q:β→Prop} {C:Nat→ae} {f:Nat} {args:List Value}
theorem Ev.PS {a x y:Int}(h:aF C f args H λv H'=>v= .bool (decide ((Y.ah (Y.cs a x y) st).1=1))∧JX K p (Y.ah (Y.cs a x y) st).2 H')(hk: ∀z s1 H',Y.ah (Y.cs a x y) st=(z,s1)→JX K p s1 H'→Ev (λn=>k n (.bool (decide (z=1))) H') Q):Ev (λn=>af (C n f args H) (k n)) Q:=
 Ev.call h λv H' hq=>by obtain⟨rfl,hj⟩:=hq;exact hk _ _ H' rfl hj
theorem Ev.sC {l:List Int}(h:aF C f args H λv H'=>v= .tuple #[cv (Y.ah (Y.mk l) st).1,.bool (decide ((Y.ah (Y.mk l) st).1>0))]∧JX K p (Y.ah (Y.mk l) st).2 H')(hk: ∀z s1 H',Y.ah (Y.mk l) st=(z,s1)→JX K p s1 H'→Ev (λn=>k n (.tuple #[cv z,.bool (decide (z>0))]) H') Q):Ev (λn=>af (C n f args H) (k n)) Q:=
 Ev.call h λv H' hq=>by obtain⟨rfl,hj⟩:=hq;exact hk _ _ H' rfl hj
theorem Ev.Tu {l:List Int}(h:aF C f args H λw H'=>PO K p st l H' w)(hk: ∀w H',PO K p st l H' w→Ev (λn=>k n w H') Q):Ev (λn=>af (C n f args H) (k n)) Q:=Ev.call h hk
end
theorem Ev.brD {x y:Nat→Option α}{P:Prop}[Decidable P]{Q:α→Prop}(h:P→Ev x Q)(k: ¬P→Ev y Q):Ev (λn=>aT (.bool (decide P)) (x n) (y n)) Q:=
 Ev.br (λe=>h (of_decide_eq_true e)) λe=>k (of_decide_eq_false e)
theorem Ev.brN {x y:Nat→Option α}{P:Prop}[Decidable P]{Q:α→Prop}(h: ¬P→Ev x Q)(k:P→Ev y Q):Ev (λn=>aT (.bool (!decide P)) (x n) (y n)) Q:=
 Ev.br (λe=>h (by simpa using e)) λe=>k (by simpa using e)
theorem oO.of {t:Y.Tr Int}{z:Int}(hj:JX K p s1 H')(e:Y.ah t st=(z,s1)):oO K p st t (cv z) H':=by unfold oO;rw[e];exact⟨rfl,hj⟩
theorem PQ.of {t:Y.Tr α}{z:α}{v:Value}(hj:JX K p s1 H')(e:Y.ah t st=(z,s1)):PQ K p st t v H':=by unfold PQ;rw[e];exact hj
theorem jR.of {t:Y.Tr Bool}{z:Bool}(hj:JX K p s1 H')(e:Y.ah t st=(z,s1)):jR K p st t (.bool z) H':=by unfold jR;rw[e];exact⟨rfl,hj⟩
theorem iG.of {t:Y.Tr (Int×Bool)}{z:Int}{b:Bool}(hj:JX K p s1 H')(e:Y.ah t st=((z,b),s1)):iG K p st t (.tuple #[cv z,.bool b]) H':=by unfold iG;rw[e];exact⟨rfl,hj⟩
theorem kg.of {t:Y.Tr (Int×Int)}{z b:Int}(hj:JX K p s1 H')(e:Y.ah t st=((z,b),s1)):kg K p st t (.tuple #[cv z,cv b]) H':=by unfold kg;rw[e];exact⟨rfl,hj⟩
theorem bo (a:α)(s:Y.St):Y.ah (pure a) s=(a,s):=rfl
theorem bK (a:α)(s:Y.St):Y.ah (Y.Tr.ret a) s=(a,s):=rfl
theorem bO (s:Y.St):Y.ah Y.g9 s=(s.off,s):=rfl
theorem cS (r:Int)(t:Y.Tr α)(s:Y.St):Y.ah (Y.Tr.rc r t) s=Y.ah t {s with gG:=r}:=rfl
theorem cT (t:Y.Tr α)(s:Y.St):Y.ah (Y.Tr.ld t) s=Y.ah t {s with laid:=if s.gG>0 then s.gG else s.laid}:=rfl
theorem EX (h:JX K p st H)(a b c d:Int):aF (run G) 58 [cv a,cv b,cv c,cv d] H λw H'=>PO K p st (Y.hU a b c d) H' w:=by
 refine Ev.up (t:=λn=>F58 (run G n) n (cv a) (cv b) (cv c) (cv d) H) ?_ λn=>WY ..
 simp -implicitDefEqProofs only[F58,PR,sS,Nat.reduceAdd];exact Ev.ret (h.words [a,b,c,d,0] _)
theorem zi (h:JX K p st H)(a b c:Int):aF (run G) 153 [cv a,cv b,cv c] H λw H'=>PO K p st (Y.jr a b c) H' w:=by
 refine Ev.up (t:=λn=>YW (run G n) n (cv a) (cv b) (cv c) H) ?_ λn=>Td ..
 simp -implicitDefEqProofs only[YW,PR,sS,Nat.reduceAdd];exact Ev.ret (h.words [a,b,c,0,0] _)
theorem sD (h:JX K p st H):aF (run G) 36 [] H λw H'=>PO K p st [0] H' w:=by
 refine Ev.up (t:=λn=>F36 (run G n) n H) ?_ λn=>O2 ..
 simp -implicitDefEqProofs only[F36,Ap,sS,Nat.reduceAdd];exact Ev.ret (h.words [0] _)
theorem uF (h:JX K p st H)(a b:Int):aF (run G) 147 [cv a,cv b] H λw H'=>PO K p st [a,b] H' w:=by
 refine Ev.up (t:=λn=>OK (run G n) n (cv a) (cv b) H) ?_ λn=>Il ..
 simp -implicitDefEqProofs only[OK,Tt,sS,Nat.reduceAdd];exact Ev.ret (h.words [a,b] _)
theorem Np (w:Int){j:Int}(h:0≤j∧j≤8):IntKind.i64.wrap (Y.aw w+j)=Y.aw w+j:=by
 rw[cG];have: -9223372036854775808≤Y.aw w∧Y.aw w≤65536:=by
  unfold Y.aw;split
  ·next hr=>simp[Y.gi] at hr;unfold Y.wr at *;omega
  ·omega
 unfold Y.wr;omega
theorem PT (h:JX K p st H)(a:Int):aF (run G) 113 [pv p,cv a] H (oO K p st (Y.sw a)):=by
 refine Ev.up (t:=λn=>OE (run G n) n (pv p) (cv a) H) ?_ λn=>Ic ..
 simp -implicitDefEqProofs only[OE,sS,Nat.reduceAdd];repeat' (first| (refine Ev.ret (oO.of ‹_› ?_);simp only[Y.sw,Y.al,bo,bK,bO,cS,cT,ne_eq,not_true_eq_false,not_false_eq_true,if_true,if_false,Bool.not_true,Bool.not_false,true_and,and_true,false_and,and_false,true_or,or_true,false_or,or_false,Bool.false_eq_true,decide_true,decide_false, *])| (simp only[Np _ (j:=4) (by omega),Np _ (j:=3) (by omega),Np _ (j:=2) (by omega)];((with_reducible first|refine Ev.eql (λhq=>?_) (λhq=>?_)|refine Ev.neq (λhq=>?_) (λhq=>?_)|refine Ev.is (js _) ?_ |refine Ev.is (n5 _) ?_ |refine Ev.eY (de ‹_› _) λz s1 Hz ez hj=>?_)<;>try simp -implicitDefEqProofs only[sS,Nat.reduceAdd]))| ((with_reducible first|refine Ev.eql (λhq=>?_) (λhq=>?_)|refine Ev.neq (λhq=>?_) (λhq=>?_)|refine Ev.is (js _) ?_ |refine Ev.is (n5 _) ?_ |refine Ev.eY (de ‹_› _) λz s1 Hz ez hj=>?_)<;>try simp -implicitDefEqProofs only[sS,Nat.reduceAdd]))
theorem PU (h:JX K p st H){a:Int}(ha: -9223372036854775808≤a∧a≤65536):aF (run G) 114 [pv p,cv a] H (PQ K p st (Y.zf a)):=by
 have w4: ∀{j:Int},0≤j∧j≤8→IntKind.i64.wrap (a+j)=a+j:=λhj=>by rw[gz (by omega)]
 refine Ev.up (t:=λn=>X6 (run G n) n (pv p) (cv a) H) ?_ λn=>Sx ..
 simp -implicitDefEqProofs only[X6,Lq,yd,Ls,ye,sS,Nat.reduceAdd];repeat' (first| (refine Ev.ret (PQ.of (z:=()) ‹_› ?_);simp only[Y.zf,Y.al,bo,bK,bO,cS,cT,ne_eq,not_true_eq_false,not_false_eq_true,if_true,if_false,Bool.not_true,Bool.not_false,true_and,and_true,false_and,and_false,true_or,or_true,false_or,or_false,Bool.false_eq_true,decide_true,decide_false, *])| (simp only[w4 (j:=4) (by omega),w4 (j:=3) (by omega),w4 (j:=2) (by omega),w4 (j:=1) (by omega)];((with_reducible first|refine Ev.eql (λhq=>?_) (λhq=>?_)|refine Ev.neq (λhq=>?_) (λhq=>?_)|refine Ev.is (pJ _ _) ?_ |refine Ev.eY (de ‹_› _) λz s1 Hz ez hj=>?_ |refine Ev.PS (EW ‹_› _ _ _) λz s1 Hz ez hj=>?_)<;>try simp -implicitDefEqProofs only[sS,Nat.reduceAdd]))| ((with_reducible first|refine Ev.eql (λhq=>?_) (λhq=>?_)|refine Ev.neq (λhq=>?_) (λhq=>?_)|refine Ev.is (pJ _ _) ?_ |refine Ev.eY (de ‹_› _) λz s1 Hz ez hj=>?_ |refine Ev.PS (EW ‹_› _ _ _) λz s1 Hz ez hj=>?_)<;>try simp -implicitDefEqProofs only[sS,Nat.reduceAdd]))
theorem qe (w:Int): -9223372036854775808≤Y.aw w∧Y.aw w≤65536:=by
 unfold Y.aw;split
 ·next hr=>simp[Y.gi] at hr;unfold Y.wr at *;omega
 ·omega
theorem dr {a z:Int}{s s':Y.St}(e:Y.ah (Y.rd a) s=(z,s')):s'.left=s.left-1:=by
 have h:=Y.tX (.rd a) s;have e2:(Y.lG (.rd a) s).2=s':=congrArg Prod.snd e;rw[e2] at h;exact h
theorem dt {t:Y.Tr α}{z:α}{s s':Y.St}(e:Y.ah t s=(z,s')):s'.left≤s.left:=by
 have h:=Y.ER t s;rw[e] at h;exact h
theorem iM {s:Y.St}(h:s.off=false):1≤s.left:=by unfold Y.St.left;rw[h];simp
theorem My {a w:Int}{f:Nat}{s:Y.St}(h:s.off=true∨Y.kd w≠5):Y.ah (Y.sA a f w) s=(w,s):=by
 cases f with
 |zero=>rfl
 |succ f=>
  show Y.ah (if(!s.off)=true∧Y.kd w=5 then _ else pure w) s=_
  rw[if_neg (by rcases h with h|h<;>simp[h])];rfl
theorem PV {a w:Int}{f:Nat}{s:Y.St}(h:s.off=false)(k:Y.kd w=5):Y.ah (Y.sA a (f+1) w) s=Y.ah (Y.zf (Y.aw w) >>= λ_=>Y.rd a >>= λw'=>Y.sA a f w') s:=by
 show Y.ah (if(!s.off)=true∧Y.kd w=5 then _ else pure w) s=_
 rw[if_pos (by simp[h,k])]
theorem G8 (h:JX K p st H){f:Nat}(hf:st.left≤f+1)(a:Int):aF (run G) 115 [pv p,cv a] H (oO K p st (Y.kD f a)):=by
 refine Ev.up (t:=λn=>Xk (run G n) n (pv p) (cv a) H) ?_ λn=>R3 ..
 simp -implicitDefEqProofs only[Xk,sS,Nat.reduceAdd];refine Ev.eY (de h a) λz0 s0 H0 e0 Y7=>?_
 have l0:=dr e0;have E0:Y.ah (Y.kD f a) st=Y.ah (Y.sA a f z0) s0:=by simp only[Y.kD,Y.al,bo,bK,bO,cS,cT,ne_eq,not_true_eq_false,not_false_eq_true,if_true,if_false,Bool.not_true,Bool.not_false,true_and,and_true,false_and,and_false,true_or,or_true,false_or,or_false,Bool.false_eq_true,decide_true,decide_false,e0]
 refine Ev.loop (k:=s0.left) (λk vs Hx=>∃(z:Int) (d:Value) (sx:Y.St) (fx:Nat),vs=[pv p,cv a,cv 0,cv z,d]∧JX K p sx Hx∧k=sx.left∧sx.left≤fx∧Y.ah (Y.kD f a) st=Y.ah (Y.sA a fx z) sx)
  (λr=>r.1= .exit 0∧∃(z:Int) (d:Value) (sx:Y.St),r.2.1=[pv p,cv a,cv 0,cv z,d]∧JX K p sx r.2.2∧Y.ah (Y.kD f a) st=(z,sx)) ⟨z0,_,s0,f,rfl,Y7,rfl,by omega,E0⟩ ?_ ?_
 ·rintro k vs Hx ⟨z,d,sx,fx,rfl,hj,rfl,hfx,E⟩;simp -implicitDefEqProofs only[KN,xz,sS,Nat.reduceAdd];have out:(sx.off=true∨Y.kd z≠5)→Y.ah (Y.kD f a) st=(z,sx):=λhn=>by rw[E];exact My hn
  refine Ev.n3 hj (λhq=>?_) (λhq=>?_)<;>try simp -implicitDefEqProofs only[sS,Nat.reduceAdd]
  ·exact Ev.ret (.inr ⟨by simp,rfl,z,_,sx,rfl,hj,out (.inl hq)⟩)
  refine Ev.is (js _) ?_
  try simp -implicitDefEqProofs only[sS,Nat.reduceAdd]
  refine Ev.eql (λhk=>?_) (λhk=>?_)<;>try simp -implicitDefEqProofs only[sS,Nat.reduceAdd]
  ·refine Ev.is (n5 _) ?_;refine Ev.unX (PU hj (qe _)) λv u s1 H1 e1 fH=>?_
   try simp -implicitDefEqProofs only[sS,Nat.reduceAdd]
   refine Ev.eY (de fH a) λz2 s2 H2 e2 fI=>?_
   try simp -implicitDefEqProofs only[sS,Nat.reduceAdd]
   have l1:=dt e1;have l2:=dr e2;have l3:=iM hq;obtain⟨fy,rfl⟩: ∃fy,fx=fy+1:=⟨fx-1,by omega⟩
   refine Ev.ret (.inl ⟨rfl,s2.left,by omega,z2,_,s2,fy,rfl,fI,rfl,by omega,?_⟩)
   rw[E,PV hq hk];simp only[Y.al,bo,bK,bO,cS,cT,ne_eq,not_true_eq_false,not_false_eq_true,if_true,if_false,Bool.not_true,Bool.not_false,true_and,and_true,false_and,and_false,true_or,or_true,false_or,or_false,Bool.false_eq_true,decide_true,decide_false,e1,e2]
  ·exact Ev.ret (.inr ⟨by simp,rfl,z,_,sx,rfl,hj,out (.inr hk)⟩)
 ·rintro e vs H1 ⟨rfl,z,d,sx,rfl,hj,E⟩;simp -implicitDefEqProofs only[KP,xA,sS,Nat.reduceAdd];exact Ev.ret (oO.of hj E)
theorem JX.ac1 (h:JX K p st H)(z:Int): ∃H',bD 1 (.pointer (some ⟨p,8,none⟩)) (cv z) H=some (undef,H')∧JX K p {st with gG:=z} H':=by
 obtain⟨hK,o,⟨tape,w,T,W,i,nk,na,nx,ny,ty,g,ho,ht,hT,hw,hr⟩,hk⟩:=h;have S:=gY p 8 z H g rfl (by simp)
 simp only[List.set_cons_succ,List.set_cons_zero] at S;have f2:Fr H o (H.put p ⟨[tape,cv i,.bool st.off,cv nk,cv na,cv nx,cv ny,w,cv z,cv st.laid],ty,1,false⟩) o [(p:Int)]:=(Fr.refl H o _).put λ_=>by simp[ho]
 exact⟨_,S,hK,o,⟨tape,w,T,W,i,nk,na,nx,ny,ty,aH g,ho,ht.fr f2 (by simp),hT,hw.fr f2 (by simp),hr⟩,hK _ _ _ _ hk f2⟩
theorem JX.ac2 (h:JX K p st H)(z:Int): ∃H',bD 1 (.pointer (some ⟨p,9,none⟩)) (cv z) H=some (undef,H')∧JX K p {st with laid:=z} H':=by
 obtain⟨hK,o,⟨tape,w,T,W,i,nk,na,nx,ny,ty,g,ho,ht,hT,hw,hr⟩,hk⟩:=h;have S:=gY p 9 z H g rfl (by simp)
 simp only[List.set_cons_succ,List.set_cons_zero] at S;have f2:Fr H o (H.put p ⟨[tape,cv i,.bool st.off,cv nk,cv na,cv nx,cv ny,w,cv st.gG,cv z],ty,1,false⟩) o [(p:Int)]:=(Fr.refl H o _).put λ_=>by simp[ho]
 exact⟨_,S,hK,o,⟨tape,w,T,W,i,nk,na,nx,ny,ty,aH g,ho,ht.fr f2 (by simp),hT,hw.fr f2 (by simp),hr⟩,hK _ _ _ _ hk f2⟩
theorem JX.ac3 (h:JX K p st H):aq (.pointer (some ⟨p,8,none⟩)) H=some (cv st.gG):=by
 obtain⟨hK,o,⟨tape,w,T,W,i,nk,na,nx,ny,ty,g,_⟩,_⟩:=h;exact an p 8 H g
section
variable {k:Nat→Value→aa→Option β} {Q:β→Prop}
theorem Ev.Vt {z:Int}(h:JX K p st H)(hk: ∀H',JX K p {st with gG:=z} H'→Ev (λn=>k n undef H') Q):Ev (λn=>af (bD 1 (.pointer (some ⟨p,8,none⟩)) (cv z) H) (k n)) Q:=by
 obtain⟨H',e,hj⟩:=h.ac1 z;rw[e];exact hk H' hj
theorem Ev.aa7 {z:Int}(h:JX K p st H)(hk: ∀H',JX K p {st with laid:=z} H'→Ev (λn=>k n undef H') Q):Ev (λn=>af (bD 1 (.pointer (some ⟨p,9,none⟩)) (cv z) H) (k n)) Q:=by
 obtain⟨H',e,hj⟩:=h.ac2 z;rw[e];exact hk H' hj
theorem Ev.Vu (h:JX K p st H)(hk:Ev (λn=>k n (cv st.gG) H) Q):Ev (λn=>af (pS (aq (.pointer (some ⟨p,8,none⟩)) H) H) (k n)) Q:=by
 rw[h.ac3];exact hk
end
theorem C4 (h:JX K p st H)(a b c d:Int):aF (run G) 116 [pv p,cv a,cv b,cv c,cv d] H (oO K p st (Y.qc a b c d)):=by
 refine Ev.up (t:=λn=>W3 (run G n) n (pv p) (cv a) (cv b) (cv c) (cv d) H) ?_ λn=>RO ..
 simp -implicitDefEqProofs only[W3,Kv,xj,sS,Nat.reduceAdd];repeat' (first| (refine Ev.ret (oO.of ‹_› ?_);(try simp only[cG] at *);simp only[Y.qc,Y.al,bo,bK,bO,cS,cT,ne_eq,not_true_eq_false,not_false_eq_true,if_true,if_false,Bool.not_true,Bool.not_false,true_and,and_true,false_and,and_false,true_or,or_true,false_or,or_false,Bool.false_eq_true,decide_true,decide_false, *];done)| ((with_reducible first|refine Ev.eql (λhq=>?_) (λhq=>?_)|refine Ev.neq (λhq=>?_) (λhq=>?_)|refine Ev.is (pJ _ _) ?_ |refine Ev.eY (de ‹_› _) λz s1 Hz ez hj=>?_ |refine Ev.PS (EW ‹_› _ _ _) λz s1 Hz ez hj=>?_ |refine Ev.sC (nD ‹_›) λz s1 Hz ez hj=>?_ |refine Ev.Tu (EX ‹_› _ _ _ _) λw Hz hj=>?_ |refine Ev.Vt ‹_› λHz hj=>?_ |refine Ev.brN (λhq=>?_) (λhq=>?_))<;>try simp -implicitDefEqProofs only[sS,Nat.reduceAdd]))
end
end Go.Proofs.YtgfgglponbmgmaaGreat.Fun
end
