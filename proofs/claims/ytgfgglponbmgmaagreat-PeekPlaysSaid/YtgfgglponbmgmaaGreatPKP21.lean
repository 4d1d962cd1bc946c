/- Texts of the proof of peekPlays_holds, put together by a small program of ours (names shortened, spaces taken out). No condition beyond the given statement. -/
import Derived.Test.YtgfgglponbmgmaaGreatPKP11
import Derived.Test.YtgfgglponbmgmaaGreatPKP12
import Derived.Test.YtgfgglponbmgmaaGreatPKP16
import Derived.Test.YtgfgglponbmgmaaGreatPKP17
import Derived.Test.YtgfgglponbmgmaaGreatPKP20
import Derived.Test.YtgfgglponbmgmaaGreatPKP10
import Derived.Test.YtgfgglponbmgmaaGreatPKP15
import Derived.Test.YtgfgglponbmgmaaGreatPKP14
import Derived.Test.YtgfgglponbmgmaaGreatPKP13
set_option linter.unusedVariables false
set_option linter.unusedSimpArgs false
set_option linter.unnecessarySimpa false
noncomputable section
section
namespace Go.Proofs.YtgfgglponbmgmaaGreat.Fun
open Go Go.RowKit Go.Proofs.YtgfgglponbmgmaaGreatA.Am
set_option maxRecDepth 10000
section
open Go.Proofs.YtgfgglponbmgmaaGreatA
variable {G:ae} {H H':aa} {o o':aj} {p:Nat} {K:aa→aj→Prop} {st MJ:Y.St} {α β:Type}
def IT:Y.Ask→Int→Int→Int→Int→List Int→Prop
 | .rd a',k,a,x,y,w=>k=1∧a=a'
 | .wr a' x',k,a,x,y,w=>k=2∧a=a'∧x=x'
 | .cs a' x' y',k,a,x,y,w=>k=3∧a=a'∧x=x'∧y=y'
 | .ad a' x',k,a,x,y,w=>k=4∧a=a'∧x=x'
 | .mk w',k,a,x,y,w=>k=5∧w=w'
def y3 (H:aa)(o:aj)(p:Nat)(st:Y.St):Prop:=
 ∃(tape w:Value) (T W:List Int) (i:Nat) (nk na nx ny:Int) (ty:TypeId),
  H.get p=some ⟨[tape,cv i,.bool st.off,cv nk,cv na,cv nx,cv ny,w,cv st.oO,cv st.laid],ty,1,false⟩∧o p=p∧
  du H o (-50) tape T∧T.length≤1048576∧du H o (-51) w W∧i≤T.length∧st.rest=T.drop i∧(st.off=true→IT st.next nk na nx ny W)
theorem y3.fr {ps:List Int}(h:y3 H o p st)(f:Fr H o H' o' ps)(h1:(p:Int) ∉ ps)(h2:(-50:Int) ∉ ps)(h3:(-51:Int) ∉ ps):y3 H' o' p st:=by
 obtain⟨tape,w,T,W,i,nk,na,nx,ny,ty,g,ho,ht,hT,hw,hi⟩:=h;exact⟨tape,w,T,W,i,nk,na,nx,ny,ty,by rw[f.same p (ar g) (by rw[ho];exact h1)];exact g,by rw[f.own p (ar g)];exact ho,ht.fr f h2,hT,hw.fr f h3,hi⟩
def JX (K:aa→aj→Prop)(p:Nat)(st:Y.St)(H:aa):Prop:=bK [(p:Int)] K∧∃o,y3 H o p st∧K H o
def OU (K:aa→aj→Prop)(p:Nat)(st:Y.St)(l:List Int)(H:aa)(w:Value):Prop:=bK [(p:Int)] K∧∃o,y3 H o p st∧K H o∧du H o (-51) w l
theorem JX.mono {L:aa→aj→Prop}(h:JX K p st H)(hL:bK [(p:Int)] L)(k: ∀o,K H o→L H o):JX L p st H:=by
 obtain⟨hK,o,h1,h2⟩:=h;exact⟨hL,o,h1,k o h2⟩
theorem JX.Gr (h:JX K p st H):OU K p st [] H (.slice none 0 0):=by
 obtain⟨hK,o,h1,h2⟩:=h;exact⟨hK,o,h1,h2,.nil⟩
theorem JX.off (h:JX K p st H):aq (.pointer (some ⟨p,2,none⟩)) H=some (.bool st.off):=by
 obtain⟨hK,o,⟨tape,w,T,W,i,nk,na,nx,ny,ty,g,_⟩,_⟩:=h;exact an p 2 H g
theorem JX.words (h:JX K p st H)(l:List Int)(t:TypeId):OU K p st l (H.new ⟨l.map cv,t,1,false⟩) (.slice (some ⟨H.length,0,none⟩) l.length l.length):=by
 obtain⟨hK,o,hr,hk⟩:=h;have f:Fr H o (H.new ⟨l.map cv,t,1,false⟩) (o.up H.length (-51)) []:=(Fr.refl H o []).new _ _;exact⟨hK,_,hr.fr f (by simp) (by simp) (by simp),hK _ _ _ _ hk (f.wk (by simp)),(oM.new H o (-51) t l).ints⟩
theorem Ez {k a x y:Int}{w:Value}{l:List Int}{q:Y.Ask}(h:OU K p st l H w)(hq:IT q k a x y l):
  aF (run G) 160 [pv p,nv k a x y w] H λv H'=>v=cv (Y.oP q st).1∧JX K p (Y.oP q st).2 H':=by
 obtain⟨hK,o,⟨tape,w0,T,W,i,nk,na,nx,ny,ty,g,ho,ht,hT,Ss,hi,IU,Us⟩,hk,hw⟩:=h;obtain⟨wb,wc,ew⟩:=hw.1.isSlice;obtain⟨tb,tc,et⟩:=ht.1.isSlice;obtain⟨H1,e1⟩: ∃z,z=H.new ⟨[cv k,cv a,cv x,cv y,w],112,1,false⟩:=⟨_,rfl⟩;have bx:=CO k a x y (b:=wb) (n:=l.length) (c:=wc) H;rw[←ew, ←e1] at bx;have hp:=ar g;obtain⟨o1,eo1⟩: ∃z,z=o.up H.length (-9):=⟨_,rfl⟩;have f1:Fr H o H1 o1 []:=by rw[e1,eo1];exact(Fr.refl H o []).new _ _
 have g1:H1.get p=some ⟨[tape,cv i,.bool st.off,cv nk,cv na,cv nx,cv ny,w0,cv st.oO,cv st.laid],ty,1,false⟩:=by rw[e1,dh hp];exact g
 have gb:H1.get H.length=some ⟨[cv k,cv a,cv x,cv y,w],112,1,false⟩:=by rw[e1];exact aL
 have Jw:o1 p=p:=by rw[f1.own p hp];exact ho
 have L2:=an p 2 H1 g1;have L1:=an p 1 H1 g1;have L0:=an p 0 H1 g1;simp only[List.getElem?_cons_succ,List.getElem?_cons_zero] at L2 L1 L0;have tl:=ht.1.len;cases m0:st.off with
 |true=>
  have ea:Y.oP q st=(0,st):=Y.Et q st m0;rw[ea];rw[m0] at L2;refine aF.is (v:=cv 0) (H':=H1) (λn=>?_) ⟨rfl,hK,o1,⟨tape,w0,T,W,i,nk,na,nx,ny,ty,g1,Jw,ht.fr f1 (by simp),hT,Ss.fr f1 (by simp),hi,IU,Us⟩,hK _ _ _ _ hk (f1.wk (by simp))⟩
  rw[pw];simp -implicitDefEqProofs [Gf,bx,Bb,gW,L2]
 |false=>
  rw[m0] at L2;by_cases gG:i<T.length
  ·have Gs:(i:Int)<T.length:=by omega
   have ed:T.drop i=T.getD i 0::T.drop (i+1):=by
    rw[List.drop_eq_getElem_cons gG];simp[List.getD_eq_getElem?_getD,gG]
   have ea:Y.oP q st=(T.getD i 0,{st with rest:=T.drop (i+1)}):=by
    unfold Y.oP;rw[m0,IU,ed];rfl
   rw[ea];obtain⟨H2,e2⟩: ∃z,z=H1.put p ⟨[tape,cv (i+1:Nat),.bool st.off,cv nk,cv na,cv nx,cv ny,w0,cv st.oO,cv st.laid],ty,1,false⟩:=⟨_,rfl⟩;have BL:IntKind.i64.wrap ((i:Int)+1)=((i+1:Nat):Int):=by rw[fZ (by omega)];omega
   have uQ:IntKind.i64.wrap (((i+1:Nat):Int)-1)=(i:Int):=by rw[fZ (by omega)];omega
   have S1:=gX p 1 ((i+1:Nat):Int) H1 g1 rfl (by simp)
   simp only[List.set_cons_succ,List.set_cons_zero] at S1;rw[←e2] at S1;have g2:H2.get p=some ⟨[tape,cv (i+1:Nat),.bool st.off,cv nk,cv na,cv nx,cv ny,w0,cv st.oO,cv st.laid],ty,1,false⟩:=by rw[e2];exact aG g1
   have f2:Fr H o H2 o1 [(p:Int)]:=by rw[e2];exact(f1.wk (by simp)).put λ_=>by simp[ho]
   have CS:=ht.fr f2 (by simp)
   obtain⟨q',off,b,hix,hb,hbc⟩:=CS.1.idx gG;have L1':=an p 1 H2 g2;have L0':=an p 0 H2 g2;simp only[List.getElem?_cons_succ,List.getElem?_cons_zero] at L1' L0';have LT:=an q' off H2 hb;rw[hbc] at LT;refine aF.is (v:=cv (T.getD i 0)) (H':=H2) (λn=>?_) ⟨rfl,hK,o1,⟨tape,w0,T,W,i+1,nk,na,nx,ny,ty,g2,Jw,CS,hT,Ss.fr f2 (by simp),by omega,rfl,Us⟩,hK _ _ _ _ hk f2⟩
   rw[pw];simp -implicitDefEqProofs [-Int.natCast_add,Gf,bx,Bb,gW,L2,L1,L0,tl,se,Gs,IM,IN,BL,uQ,S1,L1',L0',hix,LT]
  ·have Gs: ¬(i:Int)<T.length:=by omega
   have ed:T.drop i=[]:=List.drop_eq_nil_of_le (by omega)
   have ea:Y.oP q st=(0,{st with off:=true,next:=q}):=by
    unfold Y.oP;rw[m0,IU,ed];rfl
   rw[ea];obtain⟨H2,e2⟩: ∃z,z=H1.put p ⟨[tape,cv i,.bool true,cv nk,cv na,cv nx,cv ny,w0,cv st.oO,cv st.laid],ty,1,false⟩:=⟨_,rfl⟩;have S1:=sj p 2 (.bool true) H1 g1 rfl (by simp) rfl rfl rfl
   simp only[List.set_cons_succ,List.set_cons_zero] at S1;rw[←e2] at S1;have g2:H2.get p=some ⟨[tape,cv i,.bool true,cv nk,cv na,cv nx,cv ny,w0,cv st.oO,cv st.laid],ty,1,false⟩:=by rw[e2];exact aG g1
   have gb2:H2.get H.length=some ⟨[cv k,cv a,cv x,cv y,w],112,1,false⟩:=by rw[e2,bz (by omega)];exact gb
   have LB:c8 5 (pv H.length) H2=some (nv k a x y w):=by simp[c8,aR,gb2]
   obtain⟨H3,e3⟩: ∃z,z=H2.put p ⟨[tape,cv i,.bool true,cv k,cv a,cv x,cv y,w,cv st.oO,cv st.laid],ty,1,false⟩:=⟨_,rfl⟩;have S2:bE 5 (.pointer (some ⟨p,3,none⟩)) (nv k a x y w) H2=some (undef,H3):=by
    subst ew;simp[bE,bX,g2,Value.cells,known,aD,dv,e3]
   have g3:H3.get p=some ⟨[tape,cv i,.bool true,cv k,cv a,cv x,cv y,w,cv st.oO,cv st.laid],ty,1,false⟩:=by rw[e3];exact aG g2
   have f3:Fr H o H3 o1 [(p:Int)]:=by rw[e3,e2];exact((f1.wk (by simp)).put λ_=>by simp[ho]).put λ_=>by simp[ho]
   refine aF.is (v:=cv 0) (H':=H3) (λn=>?_) ⟨rfl,hK,o1,⟨tape,w,T,l,i,k,a,x,y,ty,g3,Jw,ht.fr f3 (by simp),hT,hw.fr f3 (by simp),hi,IU,λ_=>hq⟩,hK _ _ _ _ hk f3⟩
   rw[pw];simp -implicitDefEqProofs [Gf,bx,Bb,gW,L2,L1,L0,tl,se,Gs,S1,LB,S2]
abbrev oS (K:aa→aj→Prop)(p:Nat)(st:Y.St)(t:Y.Tr Int):Value→aa→Prop:=λv H'=>v=cv (Y.ah t st).1∧JX K p (Y.ah t st).2 H'
abbrev jM (K:aa→aj→Prop)(p:Nat)(st:Y.St)(t:Y.Tr Bool):Value→aa→Prop:=λv H'=>v= .bool (Y.ah t st).1∧JX K p (Y.ah t st).2 H'
abbrev OV (K:aa→aj→Prop)(p:Nat)(st:Y.St)(t:Y.Tr α):Value→aa→Prop:=λv H'=>JX K p (Y.ah t st).2 H'
abbrev iH (K:aa→aj→Prop)(p:Nat)(st:Y.St)(t:Y.Tr (Int×Bool)):Value→aa→Prop:=λv H'=>v= .tuple #[cv (Y.ah t st).1.1,.bool (Y.ah t st).1.2]∧JX K p (Y.ah t st).2 H'
abbrev ka (K:aa→aj→Prop)(p:Nat)(st:Y.St)(t:Y.Tr (Int×Int)):Value→aa→Prop:=λv H'=>v= .tuple #[cv (Y.ah t st).1.1,cv (Y.ah t st).1.2]∧JX K p (Y.ah t st).2 H'
section
variable {k:Nat→Value→aa→Option β} {Q:β→Prop} {C:Nat→ae} {f:Nat} {args:List Value}
theorem Ev.eY {t:Y.Tr Int}(h:aF C f args H (oS K p st t))(hk: ∀z s1 H',Y.ah t st=(z,s1)→JX K p s1 H'→Ev (λn=>k n (cv z) H') Q):Ev (λn=>af (C n f args H) (k n)) Q:=
 Ev.call h λv H' hq=>by obtain⟨rfl,hj⟩:=hq;exact hk _ _ H' rfl hj
theorem Ev.LM {t:Y.Tr Bool}(h:aF C f args H (jM K p st t))(hk: ∀z s1 H',Y.ah t st=(z,s1)→JX K p s1 H'→Ev (λn=>k n (.bool z) H') Q):Ev (λn=>af (C n f args H) (k n)) Q:=
 Ev.call h λv H' hq=>by obtain⟨rfl,hj⟩:=hq;exact hk _ _ H' rfl hj
theorem Ev.Zk {t:Y.Tr α}(h:aF C f args H (OV K p st t))(hk: ∀v z s1 H',Y.ah t st=(z,s1)→JX K p s1 H'→Ev (λn=>k n v H') Q):Ev (λn=>af (C n f args H) (k n)) Q:=
 Ev.call h λv H' hq=>hk v _ _ H' rfl hq
theorem Ev.EA {t:Y.Tr (Int×Bool)}(h:aF C f args H (iH K p st t))(hk: ∀z b s1 H',Y.ah t st=((z,b),s1)→JX K p s1 H'→Ev (λn=>k n (.tuple #[cv z,.bool b]) H') Q):Ev (λn=>af (C n f args H) (k n)) Q:=
 Ev.call h λv H' hq=>by obtain⟨rfl,hj⟩:=hq;exact hk _ _ _ H' rfl hj
theorem Ev.aaB {t:Y.Tr (Int×Int)}(h:aF C f args H (ka K p st t))(hk: ∀z b s1 H',Y.ah t st=((z,b),s1)→JX K p s1 H'→Ev (λn=>k n (.tuple #[cv z,cv b]) H') Q):Ev (λn=>af (C n f args H) (k n)) Q:=
 Ev.call h λv H' hq=>by obtain⟨rfl,hj⟩:=hq;exact hk _ _ _ H' rfl hj
theorem Ev.nX (h:JX K p st H)(h1:st.off=true→Ev (λn=>k n (.bool true) H) Q)(h2:st.off=false→Ev (λn=>k n (.bool false) H) Q):Ev (λn=>af (pS (aq (.pointer (some ⟨p,2,none⟩)) H) H) (k n)) Q:=
 Ev.boo h.off h1 h2
end
theorem cZ (h:JX K p st H)(a:Int):aF (run G) 139 [pv p,cv a] H (oS K p st (Y.rd a)):=by
 refine Ev.up (t:=λn=>OG (run G n) n (pv p) (cv a) H) ?_ λn=>IG ..
 simp -implicitDefEqProofs only[OG,OP,kD,cQ];refine Ev.call (Ez (q:=.rd a) h.Gr ⟨rfl,rfl⟩) ?_;rintro v H' ⟨rfl,hj⟩;exact Ev.ret ⟨rfl,hj⟩
theorem CT (h:JX K p st H)(a x:Int):aF (run G) 146 [pv p,cv a,cv x] H (OV K p st (Y.wt a x)):=by
 refine Ev.up (t:=λn=>XG (run G n) n (pv p) (cv a) (cv x) H) ?_ λn=>R7 ..
 simp -implicitDefEqProofs only[XG,XX,kD,cQ];refine Ev.call (Ez (q:=.wr a x) h.Gr ⟨rfl,rfl,rfl⟩) ?_;rintro v H' ⟨rfl,hj⟩;exact Ev.ret hj
theorem Ut (h:JX K p st H)(a x:Int):aF (run G) 154 [pv p,cv a,cv x] H (oS K p st (Y.ad a x)):=by
 refine Ev.up (t:=λn=>WB (run G n) n (pv p) (cv a) (cv x) H) ?_ λn=>Rv ..
 simp -implicitDefEqProofs only[WB,XZ,kD,cQ];refine Ev.call (Ez (q:=.ad a x) h.Gr ⟨rfl,rfl,rfl⟩) ?_;rintro v H' ⟨rfl,hj⟩;exact Ev.ret ⟨rfl,hj⟩
theorem EB (h:JX K p st H)(a x y:Int):aF (run G) 140 [pv p,cv a,cv x,cv y] H λv H'=>v= .bool (decide ((Y.ah (Y.cs a x y) st).1=1))∧JX K p (Y.ah (Y.cs a x y) st).2 H':=by
 refine Ev.up (t:=λn=>WA (run G n) n (pv p) (cv a) (cv x) (cv y) H) ?_ λn=>Ru ..
 simp -implicitDefEqProofs only[WA,XY,kD,cQ];refine Ev.call (Ez (q:=.cs a x y) h.Gr ⟨rfl,rfl,rfl,rfl⟩) ?_;rintro v H' ⟨rfl,hj⟩;simp -implicitDefEqProofs only[sg,kD,cQ];exact Ev.ret ⟨rfl,hj⟩
theorem nC {w:Value}{l:List Int}(h:OU K p st l H w):aF (run G) 141 [pv p,w] H λv H'=>v= .tuple #[cv (Y.ah (Y.mk l) st).1,.bool (decide ((Y.ah (Y.mk l) st).1>0))]∧JX K p (Y.ah (Y.mk l) st).2 H':=by
 refine Ev.up (t:=λn=>Wk (run G n) n (pv p) w H) ?_ λn=>Rg ..
 obtain⟨b,n,c,ew⟩: ∃b n c,w= .slice b n c:=by
  obtain⟨_,o,_,_,hw⟩:=h;obtain⟨b,c,e⟩:=hw.1.isSlice;exact⟨b,_,c,e⟩
 subst ew;simp -implicitDefEqProofs only[Wk,X0,kD,cQ];refine Ev.call (Ez (q:=.mk l) h ⟨rfl,rfl⟩) ?_;rintro v H' ⟨rfl,hj⟩;simp -implicitDefEqProofs only[IK,kD,cQ];exact Ev.ret ⟨rfl,hj⟩
end
section
open Go.Proofs.YtgfgglponbmgmaaGreatA
variable {G:ae} {H H':aa} {o o':aj} {p:Nat} {K:aa→aj→Prop} {st MJ:Y.St} {α β:Type}
theorem cL (x:Int):IntKind.i64.wrap x=Y.wr x:=by rw[IntKind.wrap_i64];unfold Y.wr;omega
abbrev Is (H:aa)(v:Value):Value→aa→Prop:=λv' H'=>v'=v∧H'=H
theorem Ev.is {k:Nat→Value→aa→Option β}{Q:β→Prop}{C:Nat→ae}{f:Nat}{args:List Value}{v:Value}(h:aF C f args H (Is H v))(hk:Ev (λn=>k n v H) Q):Ev (λn=>af (C n f args H) (k n)) Q:=
 Ev.call h λv' H' hq=>by obtain⟨rfl,rfl⟩:=hq;exact hk
theorem IV (a:Int):aF (run G) 89 [cv a] H (Is H (.bool (Y.eX a))):=by
 refine Ev.up (t:=λn=>Zh (run G n) n (cv a) H) ?_ λn=>Ot ..
 by_cases h8:a>8
 ·have m:a.tmod 8=a%8:=Int.tmod_eq_emod_of_nonneg (by omega)
  have d:a.tdiv 8=a/8:=Int.tdiv_eq_ediv_of_nonneg (by omega)
  simp -implicitDefEqProofs only[Zh,sS,Nat.reduceAdd];repeat' (first| (refine Ev.ret ⟨?_,rfl⟩;refine congrArg Value.bool ?_;simp[Y.eX];simp only[←m, ←d, ←cL];omega)| ((with_reducible first|refine Ev.gtr (λhq=>?_) (λhq=>?_)|refine Ev.leq (λhq=>?_) (λhq=>?_)|refine Ev.geq (λhq=>?_) (λhq=>?_))<;>try simp -implicitDefEqProofs only[sS,Nat.reduceAdd]))
 ·simp -implicitDefEqProofs only[Zh,sS,Nat.reduceAdd];repeat' (first| (refine Ev.ret ⟨?_,rfl⟩;refine congrArg Value.bool ?_;simp[Y.eX];omega)| (exfalso;omega)| ((with_reducible first|refine Ev.gtr (λhq=>?_) (λhq=>?_)|refine Ev.leq (λhq=>?_) (λhq=>?_)|refine Ev.geq (λhq=>?_) (λhq=>?_))<;>try simp -implicitDefEqProofs only[sS,Nat.reduceAdd]))
theorem hU (a:Int):aF (run G) 57 [cv a] H (Is H (cv (Y.kd a))):=by
 refine Ev.up (t:=λn=>F57 (run G n) n (cv a) H) ?_ λn=>Ol ..
 simp -implicitDefEqProofs only[F57,sS,Nat.reduceAdd];refine Ev.is (IV a) ?_;cases hr:Y.eX a<;>simp -implicitDefEqProofs only[sS,Nat.reduceAdd]<;>refine Ev.ret ⟨?_,rfl⟩<;>refine congrArg cv ?_
 ·simp[Y.kd,hr]
 ·have h8:a>8:=by simp[Y.eX] at hr;omega
  have m:a.tmod 8=a%8:=Int.tmod_eq_emod_of_nonneg (by omega)
  simp[Y.kd,hr,m]
theorem nY (a:Int):aF (run G) 83 [cv a] H (Is H (cv (Y.aw a))):=by
 refine Ev.up (t:=λn=>F83 (run G n) n (cv a) H) ?_ λn=>Ok ..
 simp -implicitDefEqProofs only[F83,sS,Nat.reduceAdd];refine Ev.is (IV a) ?_;cases hr:Y.eX a<;>simp -implicitDefEqProofs only[sS,Nat.reduceAdd]<;>refine Ev.ret ⟨?_,rfl⟩<;>refine congrArg cv ?_
 ·simp[Y.aw,hr]
 ·have h8:a>8:=by simp[Y.eX] at hr;omega
  have d:a.tdiv 8=a/8:=Int.tdiv_eq_ediv_of_nonneg (by omega)
  simp[Y.aw,hr,d,cL]
theorem nZ (k a:Int):aF (run G) 59 [cv k,cv a] H (Is H (cv (Y.fO k a))):=by
 refine Ev.up (t:=λn=>F59 (run G n) n (cv k) (cv a) H) ?_ λn=>VX ..
 simp -implicitDefEqProofs only[F59,sS,Nat.reduceAdd];repeat' (first| (refine Ev.ret ⟨?_,rfl⟩;refine congrArg cv ?_;simp only[Y.fO];(try rw[cL,cL]);split<;>(try unfold Y.wr)<;>omega)| ((with_reducible first|refine Ev.lss (λhq=>?_) (λhq=>?_)|refine Ev.gtr (λhq=>?_) (λhq=>?_))<;>try simp -implicitDefEqProofs only[sS,Nat.reduceAdd]))
theorem oT (a:Int):aF (run G) 130 [cv a] H (Is H (.bool (Y.Ew a))):=by
 refine Ev.up (t:=λn=>OF (run G n) n (cv a) H) ?_ λn=>IC ..
 simp -implicitDefEqProofs only[OF,sS,Nat.reduceAdd];repeat' (first| (refine Ev.ret ⟨?_,rfl⟩;refine congrArg Value.bool ?_;simp[Y.Ew];omega)| ((with_reducible first|refine Ev.geq (λhq=>?_) (λhq=>?_))<;>try simp -implicitDefEqProofs only[sS,Nat.reduceAdd]))
theorem pC (a i:Int):aF (run G) 142 [cv a,cv i] H (Is H (cv (Y.lG a i))):=by
 refine Ev.up (t:=λn=>Og (run G n) n (cv a) (cv i) H) ?_ λn=>HY ..
 simp -implicitDefEqProofs only[Og,sS,Nat.reduceAdd];refine Ev.is (oT a) ?_;cases h1:Y.Ew a<;>simp -implicitDefEqProofs only[sS,Nat.reduceAdd]
 ·exact Ev.ret ⟨by simp[Y.lG,h1],rfl⟩
 refine Ev.is (oT i) ?_;cases h2:Y.Ew i<;>simp -implicitDefEqProofs only[sS,Nat.reduceAdd]
 ·exact Ev.ret ⟨by simp[Y.lG,h1,h2],rfl⟩
 ·refine Ev.ret ⟨congrArg cv ?_,rfl⟩;simp[Y.lG,h1,h2,cL];simp[Y.Ew] at h1 h2;unfold Y.wr;omega
theorem kN (a d i:Int):aF (run G) 103 [cv a,cv d,cv i] H (Is H (cv (Y.di a d i))):=by
 refine Ev.up (t:=λn=>OE (run G n) n (cv a) (cv d) (cv i) H) ?_ λn=>Iv ..
 simp -implicitDefEqProofs only[OE,sS,Nat.reduceAdd];refine Ev.is (oT a) ?_;cases h1:Y.Ew a<;>simp -implicitDefEqProofs only[sS,Nat.reduceAdd]
 ·exact Ev.ret ⟨by simp[Y.di,h1],rfl⟩
 refine Ev.is (oT d) ?_;cases h2:Y.Ew d<;>simp -implicitDefEqProofs only[sS,Nat.reduceAdd]
 ·exact Ev.ret ⟨by simp[Y.di,h1,h2],rfl⟩
 refine Ev.is (oT i) ?_;cases h3:Y.Ew i<;>simp -implicitDefEqProofs only[sS,Nat.reduceAdd]
 ·exact Ev.ret ⟨by simp[Y.di,h1,h2,h3],rfl⟩
 ·refine Ev.ret ⟨congrArg cv ?_,rfl⟩;simp[Y.di,h1,h2,h3,cL];simp[Y.Ew] at h1 h2 h3;unfold Y.wr;omega
theorem Su (a:Int):aF (run G) 155 [cv a] H (Is H (cv (Y.OT a))):=by
 refine Ev.up (t:=λn=>Rw (run G n) n (cv a) H) ?_ λn=>Rx ..
 by_cases h0:0≤a
 ·have d:a.tdiv 4=a/4:=Int.tdiv_eq_ediv_of_nonneg h0;simp -implicitDefEqProofs only[Rw,sS,Nat.reduceAdd];repeat' (first| (refine Ev.ret ⟨?_,rfl⟩;refine congrArg cv ?_;simp only[Y.OT];(try rw[d,cL,cL]);split<;>(try simp only[Y.wr])<;>omega)| ((with_reducible first|refine Ev.lss (λhq=>?_) (λhq=>?_)|refine Ev.gtr (λhq=>?_) (λhq=>?_))<;>try simp -implicitDefEqProofs only[sS,Nat.reduceAdd]))
 ·simp -implicitDefEqProofs only[Rw,sS,Nat.reduceAdd];repeat' (first| (refine Ev.ret ⟨?_,rfl⟩;refine congrArg cv ?_;simp only[Y.OT];split<;>omega)| (exfalso;omega)| ((with_reducible first|refine Ev.lss (λhq=>?_) (λhq=>?_)|refine Ev.gtr (λhq=>?_) (λhq=>?_))<;>try simp -implicitDefEqProofs only[sS,Nat.reduceAdd]))
end
section
variable {G:ae} {H H':aa} {o o':aj} {p m:Nat} {K:aa→aj→Prop}
abbrev uv (x:Int):Value:=.int .u64 x
section
variable {α:Type} {k:Nat→Value→aa→Option α} {Q:α→Prop} {t:TypeId} {a b:Int} {P:Program}
theorem Ev.X3 {op:BinOp}(vi:op= .eql∨op= .geq)(h1:Ev (λn=>k n (.bool true) H) Q)(h2:Ev (λn=>k n (.bool false) H) Q):Ev (λn=>af (pS (ai P op t (uv a) (uv b)) H) (k n)) Q:=by
 have: ∃c:Bool,ai P op t (uv a) (uv b)=some (.bool c):=by
  rcases vi with rfl|rfl
  ·exact⟨_,rfl⟩
  ·exact⟨_,rfl⟩
 obtain⟨c,e⟩:=this;rw[e];cases c with
 |true=>exact h1
 |false=>exact h2
end
theorem va (t:TypeId)(a b:Int):ai Tryz.prog .sub t (uv a) (uv b)=some (uv (IntKind.u64.wrap (a-b))):=rfl
theorem Sv (t:TypeId)(a b:Int):ai Tryz.prog .add t (uv a) (uv b)=some (uv (IntKind.u64.wrap (a+b))):=rfl
theorem Sw (x:Int)(H:aa):AN .u64 (cv x) H=some (uv (IntKind.u64.wrap x),H):=rfl
theorem aaC (a b:Int)(H:aa):aal (uv a) (uv b) H=some (uv (if b<a then b else a),H):=rfl
theorem aaD (t:TypeId)(a:Int)(b:Nat):ai Tryz.prog .shr t (cv a) (.int .u64 b)=some (cv (a.fdiv (2^min ((b:Int)).toNat 64))):=by
 show ql .shr .i64 a b=_
 simp only[ql];rfl
theorem Uu (a b:Int):aF (run G) 162 [cv a,cv b] H λv H'=>(∃z,v=uv z)∧H'=H:=by
 refine Ev.up (t:=λn=>Ox (run G n) n (cv a) (cv b) H) ?_ λn=>Ir ..
 simp -implicitDefEqProofs only[Ox,sS,Nat.reduceAdd,Sw,va];refine Ev.lss (λh1=>?_) (λh1=>?_)<;>try simp -implicitDefEqProofs only[sS,Nat.reduceAdd,Sw,va]
 ·exact Ev.ret ⟨⟨_,rfl⟩,rfl⟩
 ·exact Ev.ret ⟨⟨_,rfl⟩,rfl⟩
theorem Sx (a b c:Int):aF (run G) 161 [uv a,uv b,cv c] H (CP H):=by
 refine Ev.up (t:=λn=>N5 (run G n) n (uv a) (uv b) (cv c) H) ?_ λn=>HS ..
 simp -implicitDefEqProofs only[N5,sS,Nat.reduceAdd];refine Ev.X3 (.inl rfl) ?_ ?_ <;>try simp -implicitDefEqProofs only[sS,Nat.reduceAdd]
 ·exact Ev.ret ⟨⟨_,rfl⟩,rfl⟩
 refine Ev.lss (λh1=>?_) (λh1=>?_)<;>try simp -implicitDefEqProofs only[sS,Nat.reduceAdd]
 ·exact Ev.ret ⟨⟨_,rfl⟩,rfl⟩
 refine Ev.gtr (λh1=>?_) (λh1=>?_)<;>try simp -implicitDefEqProofs only[sS,Nat.reduceAdd,aaC]
 ·exact Ev.ret ⟨⟨_,rfl⟩,rfl⟩
 refine Ev.loop (k:=17) (λk vs Hx=>∃(a b d7 d8:Int) (d24 d33 d49 d54:Value),Hx=H∧k≤17∧vs=[uv a,uv b,cv c,cv 0,.bool false,cv ((k:Int)-1),d24,cv d7,uv d8,d33,d49,d54])
  (λr=>r.1= .exit 0∧r.2.2=H∧∃(a b d7:Int) (d8 d9 d24 d33 d49 d54:Value),r.2.1=[uv a,uv b,cv c,cv 0,.bool false,d9,d24,cv d7,d8,d33,d49,d54]) ⟨_,_,_,_,_,_,_,_,rfl,by omega,rfl⟩ ?_ ?_
 ·rintro k vs Hx ⟨a,b,d7,d8,d24,d33,d49,d54,rfl,hk,rfl⟩;simp -implicitDefEqProofs only[A5,r7,sS,Nat.reduceAdd];refine Ev.geq (λhq=>?_) (λhq=>?_)<;>try simp -implicitDefEqProofs only[sS,Nat.reduceAdd,va]
  ·obtain⟨j,rfl⟩: ∃j,k=j+1:=⟨k-1,by omega⟩
   have eb:((j+1:Nat):Int)-1=(j:Int):=by omega
   have hw:IntKind.i64.wrap ((j:Int)-1)=(j:Int)-1:=fZ (by omega)
   have iQ: ∀(d7 d8:Int) (d24 d33 d49 d54:Value),Ev (λn=>px (run G n) n [uv a,uv b,cv c,cv 0,.bool false,cv ((j+1:Nat)-1),d24,cv d7,uv d8,d33,d49,d54] Hx) λr=>(r.1= .normal∧∃k',k'<j+1∧∃(a b d7 d8:Int) (d24 d33 d49 d54:Value),r.2.2=Hx∧k'≤17∧r.2.1=[uv a,uv b,cv c,cv 0,.bool false,cv ((k':Int)-1),d24,cv d7,uv d8,d33,d49,d54])∨(r.1≠ .normal∧r.1= .exit 0∧r.2.2=Hx∧∃(a b d7:Int) (d8 d9 d24 d33 d49 d54:Value),r.2.1=[uv a,uv b,cv c,cv 0,.bool false,d9,d24,cv d7,d8,d33,d49,d54]):=by
    intro d7 d8 d24 d33 d49 d54;simp -implicitDefEqProofs only[AY,rX,sS,Nat.reduceAdd,eb,hw];exact Ev.ret (.inl ⟨rfl,j,by omega,_,_,_,_,_,_,_,_,rfl,by omega,rfl⟩)
   have h2: ∀(d7 d8:Int) (d24 d33 d49 d54:Value),Ev (λn=>rZ (run G n) n [uv a,uv b,cv c,cv 0,.bool false,cv ((j+1:Nat)-1),d24,cv d7,uv d8,d33,d49,d54] Hx) λr=>(r.1= .normal∧∃k',k'<j+1∧∃(a b d7 d8:Int) (d24 d33 d49 d54:Value),r.2.2=Hx∧k'≤17∧r.2.1=[uv a,uv b,cv c,cv 0,.bool false,cv ((k':Int)-1),d24,cv d7,uv d8,d33,d49,d54])∨(r.1≠ .normal∧r.1= .exit 0∧r.2.2=Hx∧∃(a b d7:Int) (d8 d9 d24 d33 d49 d54:Value),r.2.1=[uv a,uv b,cv c,cv 0,.bool false,d9,d24,cv d7,d8,d33,d49,d54]):=by
    intro d7 d8 d24 d33 d49 d54;simp -implicitDefEqProofs only[AZ,rY,sS,Nat.reduceAdd,eb,OR j (by omega),aaD,CM]
    refine Ev.eql (λhq=>?_) (λhq=>?_)<;>try simp -implicitDefEqProofs only[sS,Nat.reduceAdd,va]
    ·have:=iQ d7 d8 d24 d33 (.bool true) d54
     rw[eb] at this;exact this
    refine Ev.X3 (.inr rfl) ?_ ?_ <;>try simp -implicitDefEqProofs only[sS,Nat.reduceAdd,va,Sv]
    ·have:=iQ (IntKind.i64.wrap (d7+1)) (IntKind.u64.wrap (d8-IntKind.u64.wrap (b-a))) d24 d33 (.bool false) (.bool true)
     rw[eb] at this;exact this
    ·have:=iQ d7 (IntKind.u64.wrap (d8+a)) d24 d33 (.bool false) (.bool false)
     rw[eb] at this;exact this
   refine Ev.X3 (.inr rfl) ?_ ?_ <;>try simp -implicitDefEqProofs only[sS,Nat.reduceAdd,va,Sv]
   ·exact h2 _ _ _ _ _ _
   ·exact h2 _ _ _ _ _ _
  ·exact Ev.ret (.inr ⟨by simp,rfl,rfl,_,_,_,_,_,_,_,_,_,rfl⟩)
 ·rintro e vs Hx ⟨he,rfl,a,b,d7,d8,d9,d24,d33,d49,d54,rfl⟩;simp only at he;subst he;simp -implicitDefEqProofs only[A7,r8,sS,Nat.reduceAdd];exact Ev.ret ⟨⟨_,rfl⟩,rfl⟩
theorem sv (a b c d:Int):aF (run G) 143 [cv a,cv b,cv c,cv d] H (CP H):=by
 refine Ev.up (t:=λn=>OH (run G n) n (cv a) (cv b) (cv c) (cv d) H) ?_ λn=>IH ..
 simp -implicitDefEqProofs only[OH,sS,Nat.reduceAdd];repeat' (first|exact Ev.ret ⟨⟨_,rfl⟩,rfl⟩| ((with_reducible first|refine Ev.lss (λhq=>?_) (λhq=>?_)|refine Ev.gtr (λhq=>?_) (λhq=>?_)|refine Ev.geq (λhq=>?_) (λhq=>?_))<;>try simp -implicitDefEqProofs only[sS,Nat.reduceAdd]))
 all_goals
  refine Ev.call (Uu _ _) ?_;rintro v H' ⟨⟨z1,rfl⟩,rfl⟩;refine Ev.call (Uu _ _) ?_;rintro v H' ⟨⟨z2,rfl⟩,rfl⟩
  try simp -implicitDefEqProofs only[sS,Nat.reduceAdd]
  refine Ev.kj (Sx _ _ _) λz=>?_
  try simp -implicitDefEqProofs only[sS,Nat.reduceAdd]
  exact Ev.ret ⟨⟨_,rfl⟩,rfl⟩
end
section
variable {G:ae} {H H':aa} {o o':aj} {p m:Nat} {K:aa→aj→Prop}
theorem gI (o:aj): ∀n:Nat,∃t:Int,t< -100∧∀i,i<n→t<o i
 |0=>⟨-101,by omega,λi h=>by omega⟩
 |n+1=>by
  obtain⟨t,h1,h2⟩:=gI o n;refine⟨min t (o n)-1,by omega,λi hi=>?_⟩
  rcases Nat.lt_or_ge i n with g|g
  ·have:=h2 i g;omega
  ·have:i=n:=by omega
   subst this;omega
theorem iM {t:Int}{ps:List Int}(f:Fr H o H' o' (t::ps))(h: ∀i,i<H.length→o i≠t):Fr H o H' o' ps:=
 ⟨λi hi hn=>f.slot i hi (by simp only[List.mem_cons,not_or];exact⟨h i hi,hn⟩),f.own,f.size⟩
theorem Ag (a:Int)(H:aa):ay Tryz.prog 42 1 [(0,cv a)] H=some (.slice (some ⟨H.length,0,none⟩) 1 1,H.new ⟨[cv a],2,1,false⟩):=by kernel_rfl
theorem Sy (a b:Int)(H:aa):ay Tryz.prog 42 2 [(0,cv a),(1,cv b)] H=some (.slice (some ⟨H.length,0,none⟩) 2 2,H.new ⟨[cv a,cv b],2,1,false⟩):=by kernel_rfl
theorem OW (a b c d e:Int)(H:aa):ay Tryz.prog 42 5 [(0,cv a),(1,cv b),(2,cv c),(3,cv d),(4,cv e)] H=some (.slice (some ⟨H.length,0,none⟩) 5 5,H.new ⟨[cv a,cv b,cv c,cv d,cv e],2,1,false⟩):=by kernel_rfl
section
variable {α:Type} {k:Nat→Value→aa→Option α} {Q:α→Prop} {z:Int}
end
end
section
open Go.Proofs.YtgfgglponbmgmaaGreatA
variable {G:ae} {H H':aa} {o o':aj} {p:Nat} {K:aa→aj→Prop} {st MJ s1:Y.St} {α β:Type}
section
variable {k:Nat→Value→aa→Option β} {Q:β→Prop} {C:Nat→ae} {f:Nat} {args:List Value}
theorem Ev.OX {a x y:Int}(h:aF C f args H λv H'=>v= .bool (decide ((Y.ah (Y.cs a x y) st).1=1))∧JX K p (Y.ah (Y.cs a x y) st).2 H')(hk: ∀z s1 H',Y.ah (Y.cs a x y) st=(z,s1)→JX K p s1 H'→Ev (λn=>k n (.bool (decide (z=1))) H') Q):Ev (λn=>af (C n f args H) (k n)) Q:=
 Ev.call h λv H' hq=>by obtain⟨rfl,hj⟩:=hq;exact hk _ _ H' rfl hj
theorem Ev.sw {l:List Int}(h:aF C f args H λv H'=>v= .tuple #[cv (Y.ah (Y.mk l) st).1,.bool (decide ((Y.ah (Y.mk l) st).1>0))]∧JX K p (Y.ah (Y.mk l) st).2 H')(hk: ∀z s1 H',Y.ah (Y.mk l) st=(z,s1)→JX K p s1 H'→Ev (λn=>k n (.tuple #[cv z,.bool (decide (z>0))]) H') Q):Ev (λn=>af (C n f args H) (k n)) Q:=
 Ev.call h λv H' hq=>by obtain⟨rfl,hj⟩:=hq;exact hk _ _ H' rfl hj
theorem Ev.Sz {l:List Int}(h:aF C f args H λw H'=>OU K p st l H' w)(hk: ∀w H',OU K p st l H' w→Ev (λn=>k n w H') Q):Ev (λn=>af (C n f args H) (k n)) Q:=Ev.call h hk
end
theorem Ev.brD {x y:Nat→Option α}{P:Prop}[Decidable P]{Q:α→Prop}(h:P→Ev x Q)(k: ¬P→Ev y Q):Ev (λn=>aX (.bool (decide P)) (x n) (y n)) Q:=
 Ev.br (λe=>h (of_decide_eq_true e)) λe=>k (of_decide_eq_false e)
theorem Ev.brN {x y:Nat→Option α}{P:Prop}[Decidable P]{Q:α→Prop}(h: ¬P→Ev x Q)(k:P→Ev y Q):Ev (λn=>aX (.bool (!decide P)) (x n) (y n)) Q:=
 Ev.br (λe=>h (by simpa using e)) λe=>k (by simpa using e)
theorem oS.of {t:Y.Tr Int}{z:Int}(hj:JX K p s1 H')(e:Y.ah t st=(z,s1)):oS K p st t (cv z) H':=by unfold oS;rw[e];exact⟨rfl,hj⟩
theorem OV.of {t:Y.Tr α}{z:α}{v:Value}(hj:JX K p s1 H')(e:Y.ah t st=(z,s1)):OV K p st t v H':=by unfold OV;rw[e];exact hj
theorem jM.of {t:Y.Tr Bool}{z:Bool}(hj:JX K p s1 H')(e:Y.ah t st=(z,s1)):jM K p st t (.bool z) H':=by unfold jM;rw[e];exact⟨rfl,hj⟩
theorem iH.of {t:Y.Tr (Int×Bool)}{z:Int}{b:Bool}(hj:JX K p s1 H')(e:Y.ah t st=((z,b),s1)):iH K p st t (.tuple #[cv z,.bool b]) H':=by unfold iH;rw[e];exact⟨rfl,hj⟩
theorem ka.of {t:Y.Tr (Int×Int)}{z b:Int}(hj:JX K p s1 H')(e:Y.ah t st=((z,b),s1)):ka K p st t (.tuple #[cv z,cv b]) H':=by unfold ka;rw[e];exact⟨rfl,hj⟩
theorem bl (a:α)(s:Y.St):Y.ah (pure a) s=(a,s):=rfl
theorem bH (a:α)(s:Y.St):Y.ah (Y.Tr.ret a) s=(a,s):=rfl
theorem bN (s:Y.St):Y.ah Y.gZ s=(s.off,s):=rfl
theorem cU (r:Int)(t:Y.Tr α)(s:Y.St):Y.ah (Y.Tr.rc r t) s=Y.ah t {s with oO:=r}:=rfl
theorem cV (t:Y.Tr α)(s:Y.St):Y.ah (Y.Tr.ld t) s=Y.ah t {s with laid:=if s.oO>0 then s.oO else s.laid}:=rfl
theorem EC (h:JX K p st H)(a b c d:Int):aF (run G) 58 [cv a,cv b,cv c,cv d] H λw H'=>OU K p st (Y.fC a b c d) H' w:=by
 refine Ev.up (t:=λn=>F58 (run G n) n (cv a) (cv b) (cv c) (cv d) H) ?_ λn=>NQ ..
 simp -implicitDefEqProofs only[F58,OW,sS,Nat.reduceAdd];exact Ev.ret (h.words [a,b,c,d,0] _)
theorem y4 (h:JX K p st H)(a b c:Int):aF (run G) 153 [cv a,cv b,cv c] H λw H'=>OU K p st (Y.jl a b c) H' w:=by
 refine Ev.up (t:=λn=>XU (run G n) n (cv a) (cv b) (cv c) H) ?_ λn=>Si ..
 simp -implicitDefEqProofs only[XU,OW,sS,Nat.reduceAdd];exact Ev.ret (h.words [a,b,c,0,0] _)
theorem sA (h:JX K p st H):aF (run G) 36 [] H λw H'=>OU K p st [0] H' w:=by
 refine Ev.up (t:=λn=>F36 (run G n) n H) ?_ λn=>N8 ..
 simp -implicitDefEqProofs only[F36,Ag,sS,Nat.reduceAdd];exact Ev.ret (h.words [0] _)
theorem ux (h:JX K p st H)(a b:Int):aF (run G) 147 [cv a,cv b] H λw H'=>OU K p st [a,b] H' w:=by
 refine Ev.up (t:=λn=>NX (run G n) n (cv a) (cv b) H) ?_ λn=>HI ..
 simp -implicitDefEqProofs only[NX,Sy,sS,Nat.reduceAdd];exact Ev.ret (h.words [a,b] _)
theorem MK (w:Int){j:Int}(h:0≤j∧j≤8):IntKind.i64.wrap (Y.aw w+j)=Y.aw w+j:=by
 rw[cL];have: -9223372036854775808≤Y.aw w∧Y.aw w≤65536:=by
  unfold Y.aw;split
  ·next hr=>simp[Y.eX] at hr;unfold Y.wr at *;omega
  ·omega
 unfold Y.wr;omega
theorem OY (h:JX K p st H)(a:Int):aF (run G) 113 [pv p,cv a] H (oS K p st (Y.qg a)):=by
 refine Ev.up (t:=λn=>NR (run G n) n (pv p) (cv a) H) ?_ λn=>HB ..
 simp -implicitDefEqProofs only[NR,sS,Nat.reduceAdd];repeat' (first| (refine Ev.ret (oS.of ‹_› ?_);simp only[Y.qg,Y.al,bl,bH,bN,cU,cV,ne_eq,not_true_eq_false,not_false_eq_true,if_true,if_false,Bool.not_true,Bool.not_false,true_and,and_true,false_and,and_false,true_or,or_true,false_or,or_false,Bool.false_eq_true,decide_true,decide_false, *])| (simp only[MK _ (j:=4) (by omega),MK _ (j:=3) (by omega),MK _ (j:=2) (by omega)];((with_reducible first|refine Ev.eql (λhq=>?_) (λhq=>?_)|refine Ev.neq (λhq=>?_) (λhq=>?_)|refine Ev.is (hU _) ?_ |refine Ev.is (nY _) ?_ |refine Ev.eY (cZ ‹_› _) λz s1 Hz ez hj=>?_)<;>try simp -implicitDefEqProofs only[sS,Nat.reduceAdd]))| ((with_reducible first|refine Ev.eql (λhq=>?_) (λhq=>?_)|refine Ev.neq (λhq=>?_) (λhq=>?_)|refine Ev.is (hU _) ?_ |refine Ev.is (nY _) ?_ |refine Ev.eY (cZ ‹_› _) λz s1 Hz ez hj=>?_)<;>try simp -implicitDefEqProofs only[sS,Nat.reduceAdd]))
theorem OZ (h:JX K p st H){a:Int}(ha: -9223372036854775808≤a∧a≤65536):aF (run G) 114 [pv p,cv a] H (OV K p st (Y.yZ a)):=by
 have w4: ∀{j:Int},0≤j∧j≤8→IntKind.i64.wrap (a+j)=a+j:=λhj=>by rw[fZ (by omega)]
 refine Ev.up (t:=λn=>W3 (run G n) n (pv p) (cv a) H) ?_ λn=>RL ..
 simp -implicitDefEqProofs only[W3,KI,xW,KJ,xX,sS,Nat.reduceAdd];repeat' (first| (refine Ev.ret (OV.of (z:=()) ‹_› ?_);simp only[Y.yZ,Y.al,bl,bH,bN,cU,cV,ne_eq,not_true_eq_false,not_false_eq_true,if_true,if_false,Bool.not_true,Bool.not_false,true_and,and_true,false_and,and_false,true_or,or_true,false_or,or_false,Bool.false_eq_true,decide_true,decide_false, *])| (simp only[w4 (j:=4) (by omega),w4 (j:=3) (by omega),w4 (j:=2) (by omega),w4 (j:=1) (by omega)];((with_reducible first|refine Ev.eql (λhq=>?_) (λhq=>?_)|refine Ev.neq (λhq=>?_) (λhq=>?_)|refine Ev.is (nZ _ _) ?_ |refine Ev.eY (cZ ‹_› _) λz s1 Hz ez hj=>?_ |refine Ev.OX (EB ‹_› _ _ _) λz s1 Hz ez hj=>?_)<;>try simp -implicitDefEqProofs only[sS,Nat.reduceAdd]))| ((with_reducible first|refine Ev.eql (λhq=>?_) (λhq=>?_)|refine Ev.neq (λhq=>?_) (λhq=>?_)|refine Ev.is (nZ _ _) ?_ |refine Ev.eY (cZ ‹_› _) λz s1 Hz ez hj=>?_ |refine Ev.OX (EB ‹_› _ _ _) λz s1 Hz ez hj=>?_)<;>try simp -implicitDefEqProofs only[sS,Nat.reduceAdd]))
theorem nQ (w:Int): -9223372036854775808≤Y.aw w∧Y.aw w≤65536:=by
 unfold Y.aw;split
 ·next hr=>simp[Y.eX] at hr;unfold Y.wr at *;omega
 ·omega
theorem dk {a z:Int}{s s':Y.St}(e:Y.ah (Y.rd a) s=(z,s')):s'.left=s.left-1:=by
 have h:=Y.tO (.rd a) s;have e2:(Y.oP (.rd a) s).2=s':=congrArg Prod.snd e;rw[e2] at h;exact h
theorem dp {t:Y.Tr α}{z:α}{s s':Y.St}(e:Y.ah t s=(z,s')):s'.left≤s.left:=by
 have h:=Y.Eu t s;rw[e] at h;exact h
theorem iN {s:Y.St}(h:s.off=false):1≤s.left:=by unfold Y.St.left;rw[h];simp
theorem LN {a w:Int}{f:Nat}{s:Y.St}(h:s.off=true∨Y.kd w≠5):Y.ah (Y.sr a f w) s=(w,s):=by
 cases f with
 |zero=>rfl
 |succ f=>
  show Y.ah (if(!s.off)=true∧Y.kd w=5 then _ else pure w) s=_
  rw[if_neg (by rcases h with h|h<;>simp[h])];rfl
theorem O0 {a w:Int}{f:Nat}{s:Y.St}(h:s.off=false)(k:Y.kd w=5):Y.ah (Y.sr a (f+1) w) s=Y.ah (Y.yZ (Y.aw w) >>= λ_=>Y.rd a >>= λw'=>Y.sr a f w') s:=by
 show Y.ah (if(!s.off)=true∧Y.kd w=5 then _ else pure w) s=_
 rw[if_pos (by simp[h,k])]
theorem Gt (h:JX K p st H){f:Nat}(hf:st.left≤f+1)(a:Int):aF (run G) 115 [pv p,cv a] H (oS K p st (Y.kA f a)):=by
 refine Ev.up (t:=λn=>Ww (run G n) n (pv p) (cv a) H) ?_ λn=>Ro ..
 simp -implicitDefEqProofs only[Ww,sS,Nat.reduceAdd];refine Ev.eY (cZ h a) λz0 s0 H0 e0 X4=>?_
 have l0:=dk e0;have E0:Y.ah (Y.kA f a) st=Y.ah (Y.sr a f z0) s0:=by simp only[Y.kA,Y.al,bl,bH,bN,cU,cV,ne_eq,not_true_eq_false,not_false_eq_true,if_true,if_false,Bool.not_true,Bool.not_false,true_and,and_true,false_and,and_false,true_or,or_true,false_or,or_false,Bool.false_eq_true,decide_true,decide_false,e0]
 refine Ev.loop (k:=s0.left) (λk vs Hx=>∃(z:Int) (d:Value) (sx:Y.St) (fx:Nat),vs=[pv p,cv a,cv 0,cv z,d]∧JX K p sx Hx∧k=sx.left∧sx.left≤fx∧Y.ah (Y.kA f a) st=Y.ah (Y.sr a fx z) sx)
  (λr=>r.1= .exit 0∧∃(z:Int) (d:Value) (sx:Y.St),r.2.1=[pv p,cv a,cv 0,cv z,d]∧JX K p sx r.2.2∧Y.ah (Y.kA f a) st=(z,sx)) ⟨z0,_,s0,f,rfl,X4,rfl,by omega,E0⟩ ?_ ?_
 ·rintro k vs Hx ⟨z,d,sx,fx,rfl,hj,rfl,hfx,E⟩;simp -implicitDefEqProofs only[Kl,xC,sS,Nat.reduceAdd];have out:(sx.off=true∨Y.kd z≠5)→Y.ah (Y.kA f a) st=(z,sx):=λhn=>by rw[E];exact LN hn
  refine Ev.nX hj (λhq=>?_) (λhq=>?_)<;>try simp -implicitDefEqProofs only[sS,Nat.reduceAdd]
  ·exact Ev.ret (.inr ⟨by simp,rfl,z,_,sx,rfl,hj,out (.inl hq)⟩)
  refine Ev.is (hU _) ?_
  try simp -implicitDefEqProofs only[sS,Nat.reduceAdd]
  refine Ev.eql (λhk=>?_) (λhk=>?_)<;>try simp -implicitDefEqProofs only[sS,Nat.reduceAdd]
  ·refine Ev.is (nY _) ?_;refine Ev.Zk (OZ hj (nQ _)) λv u s1 H1 e1 fG=>?_
   try simp -implicitDefEqProofs only[sS,Nat.reduceAdd]
   refine Ev.eY (cZ fG a) λz2 s2 H2 e2 fM=>?_
   try simp -implicitDefEqProofs only[sS,Nat.reduceAdd]
   have l1:=dp e1;have l2:=dk e2;have l3:=iN hq;obtain⟨fy,rfl⟩: ∃fy,fx=fy+1:=⟨fx-1,by omega⟩
   refine Ev.ret (.inl ⟨rfl,s2.left,by omega,z2,_,s2,fy,rfl,fM,rfl,by omega,?_⟩)
   rw[E,O0 hq hk];simp only[Y.al,bl,bH,bN,cU,cV,ne_eq,not_true_eq_false,not_false_eq_true,if_true,if_false,Bool.not_true,Bool.not_false,true_and,and_true,false_and,and_false,true_or,or_true,false_or,or_false,Bool.false_eq_true,decide_true,decide_false,e1,e2]
  ·exact Ev.ret (.inr ⟨by simp,rfl,z,_,sx,rfl,hj,out (.inr hk)⟩)
 ·rintro e vs H1 ⟨rfl,z,d,sx,rfl,hj,E⟩;simp -implicitDefEqProofs only[Km,xD,sS,Nat.reduceAdd];exact Ev.ret (oS.of hj E)
theorem JX.ada (h:JX K p st H)(z:Int): ∃H',bE 1 (.pointer (some ⟨p,8,none⟩)) (cv z) H=some (undef,H')∧JX K p {st with oO:=z} H':=by
 obtain⟨hK,o,⟨tape,w,T,W,i,nk,na,nx,ny,ty,g,ho,ht,hT,hw,hr⟩,hk⟩:=h;have S:=gX p 8 z H g rfl (by simp)
 simp only[List.set_cons_succ,List.set_cons_zero] at S;have f2:Fr H o (H.put p ⟨[tape,cv i,.bool st.off,cv nk,cv na,cv nx,cv ny,w,cv z,cv st.laid],ty,1,false⟩) o [(p:Int)]:=(Fr.refl H o _).put λ_=>by simp[ho]
 exact⟨_,S,hK,o,⟨tape,w,T,W,i,nk,na,nx,ny,ty,aG g,ho,ht.fr f2 (by simp),hT,hw.fr f2 (by simp),hr⟩,hK _ _ _ _ hk f2⟩
theorem JX.adb (h:JX K p st H)(z:Int): ∃H',bE 1 (.pointer (some ⟨p,9,none⟩)) (cv z) H=some (undef,H')∧JX K p {st with laid:=z} H':=by
 obtain⟨hK,o,⟨tape,w,T,W,i,nk,na,nx,ny,ty,g,ho,ht,hT,hw,hr⟩,hk⟩:=h;have S:=gX p 9 z H g rfl (by simp)
 simp only[List.set_cons_succ,List.set_cons_zero] at S;have f2:Fr H o (H.put p ⟨[tape,cv i,.bool st.off,cv nk,cv na,cv nx,cv ny,w,cv st.oO,cv z],ty,1,false⟩) o [(p:Int)]:=(Fr.refl H o _).put λ_=>by simp[ho]
 exact⟨_,S,hK,o,⟨tape,w,T,W,i,nk,na,nx,ny,ty,aG g,ho,ht.fr f2 (by simp),hT,hw.fr f2 (by simp),hr⟩,hK _ _ _ _ hk f2⟩
theorem JX.ade (h:JX K p st H):aq (.pointer (some ⟨p,8,none⟩)) H=some (cv st.oO):=by
 obtain⟨hK,o,⟨tape,w,T,W,i,nk,na,nx,ny,ty,g,_⟩,_⟩:=h;exact an p 8 H g
section
variable {k:Nat→Value→aa→Option β} {Q:β→Prop}
theorem Ev.Uv {z:Int}(h:JX K p st H)(hk: ∀H',JX K p {st with oO:=z} H'→Ev (λn=>k n undef H') Q):Ev (λn=>af (bE 1 (.pointer (some ⟨p,8,none⟩)) (cv z) H) (k n)) Q:=by
 obtain⟨H',e,hj⟩:=h.ada z;rw[e];exact hk H' hj
theorem Ev.aaE {z:Int}(h:JX K p st H)(hk: ∀H',JX K p {st with laid:=z} H'→Ev (λn=>k n undef H') Q):Ev (λn=>af (bE 1 (.pointer (some ⟨p,9,none⟩)) (cv z) H) (k n)) Q:=by
 obtain⟨H',e,hj⟩:=h.adb z;rw[e];exact hk H' hj
theorem Ev.Uw (h:JX K p st H)(hk:Ev (λn=>k n (cv st.oO) H) Q):Ev (λn=>af (pS (aq (.pointer (some ⟨p,8,none⟩)) H) H) (k n)) Q:=by
 rw[h.ade];exact hk
end
theorem CU (h:JX K p st H)(a b c d:Int):aF (run G) 116 [pv p,cv a,cv b,cv c,cv d] H (oS K p st (Y.su a b c d)):=by
 refine Ev.up (t:=λn=>Wg (run G n) n (pv p) (cv a) (cv b) (cv c) (cv d) H) ?_ λn=>Q9 ..
 simp -implicitDefEqProofs only[Wg,Kb,xu,sS,Nat.reduceAdd];repeat' (first| (refine Ev.ret (oS.of ‹_› ?_);(try simp only[cL] at *);simp only[Y.su,Y.al,bl,bH,bN,cU,cV,ne_eq,not_true_eq_false,not_false_eq_true,if_true,if_false,Bool.not_true,Bool.not_false,true_and,and_true,false_and,and_false,true_or,or_true,false_or,or_false,Bool.false_eq_true,decide_true,decide_false, *];done)| ((with_reducible first|refine Ev.eql (λhq=>?_) (λhq=>?_)|refine Ev.neq (λhq=>?_) (λhq=>?_)|refine Ev.is (nZ _ _) ?_ |refine Ev.eY (cZ ‹_› _) λz s1 Hz ez hj=>?_ |refine Ev.OX (EB ‹_› _ _ _) λz s1 Hz ez hj=>?_ |refine Ev.sw (nC ‹_›) λz s1 Hz ez hj=>?_ |refine Ev.Sz (EC ‹_› _ _ _ _) λw Hz hj=>?_ |refine Ev.Uv ‹_› λHz hj=>?_ |refine Ev.brN (λhq=>?_) (λhq=>?_))<;>try simp -implicitDefEqProofs only[sS,Nat.reduceAdd]))
end
end Go.Proofs.YtgfgglponbmgmaaGreat.Fun
end
