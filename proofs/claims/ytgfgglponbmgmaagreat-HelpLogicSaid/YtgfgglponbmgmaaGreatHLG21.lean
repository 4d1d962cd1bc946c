/- Texts of the proof of helpLogic_holds, put together by a small program of ours (names shortened, spaces taken out). No condition beyond the given statement. -/
import Derived.Test.YtgfgglponbmgmaaGreatHLG12
import Derived.Test.YtgfgglponbmgmaaGreatHLG13
import Derived.Test.YtgfgglponbmgmaaGreatHLG16
import Derived.Test.YtgfgglponbmgmaaGreatHLG17
import Derived.Test.YtgfgglponbmgmaaGreatHLG20
import Derived.Test.YtgfgglponbmgmaaGreatHLG11
import Derived.Test.YtgfgglponbmgmaaGreatHLG15
import Derived.Test.YtgfgglponbmgmaaGreatHLG14
import Derived.Test.YtgfgglponbmgmaaGreatHLG10
set_option linter.unusedVariables false
set_option linter.unusedSimpArgs false
set_option linter.unnecessarySimpa false
noncomputable section
section
namespace Go.Proofs.YtgfgglponbmgmaaGreat.Fun
open Go Go.RowKit Go.Proofs.YtgfgglponbmgmaaGreatA.Am
set_option maxRecDepth 10000
section
open Go.Proofs.YtgfgglponbmgmaaGreatA
variable {G:ae} {H H':aa} {o o':aj} {p:Nat} {K:aa→aj→Prop} {st LV:Y.St} {α β:Type}
def Ii:Y.Ask→Int→Int→Int→Int→List Int→Prop
 | .rd a',k,a,x,y,w=>k=1∧a=a'
 | .wr a' x',k,a,x,y,w=>k=2∧a=a'∧x=x'
 | .cs a' x' y',k,a,x,y,w=>k=3∧a=a'∧x=x'∧y=y'
 | .ad a' x',k,a,x,y,w=>k=4∧a=a'∧x=x'
 | .mk w',k,a,x,y,w=>k=5∧w=w'
def yK (H:aa)(o:aj)(p:Nat)(st:Y.St):Prop:=
 ∃(tape w:Value) (T W:List Int) (i:Nat) (nk na nx ny:Int) (ty:TypeId),
  H.get p=some ⟨[tape,cv i,.bool st.off,cv nk,cv na,cv nx,cv ny,w,cv st.oL,cv st.laid],ty,1,false⟩∧o p=p∧
  dV H o (-50) tape T∧T.length≤1048576∧dV H o (-51) w W∧i≤T.length∧st.rest=T.drop i∧(st.off=true→Ii st.next nk na nx ny W)
theorem yK.fr {ps:List Int}(h:yK H o p st)(f:Fr H o H' o' ps)(h1:(p:Int) ∉ ps)(h2:(-50:Int) ∉ ps)(h3:(-51:Int) ∉ ps):yK H' o' p st:=by
 obtain⟨tape,w,T,W,i,nk,na,nx,ny,ty,g,ho,ht,hT,hw,hi⟩:=h;exact⟨tape,w,T,W,i,nk,na,nx,ny,ty,by rw[f.same p (ar g) (by rw[ho];exact h1)];exact g,by rw[f.own p (ar g)];exact ho,ht.fr f h2,hT,hw.fr f h3,hi⟩
def JX (K:aa→aj→Prop)(p:Nat)(st:Y.St)(H:aa):Prop:=bJ [(p:Int)] K∧∃o,yK H o p st∧K H o
def Oe (K:aa→aj→Prop)(p:Nat)(st:Y.St)(l:List Int)(H:aa)(w:Value):Prop:=bJ [(p:Int)] K∧∃o,yK H o p st∧K H o∧dV H o (-51) w l
theorem JX.mono {L:aa→aj→Prop}(h:JX K p st H)(hL:bJ [(p:Int)] L)(k: ∀o,K H o→L H o):JX L p st H:=by
 obtain⟨hK,o,h1,h2⟩:=h;exact⟨hL,o,h1,k o h2⟩
theorem JX.FQ (h:JX K p st H):Oe K p st [] H (.slice none 0 0):=by
 obtain⟨hK,o,h1,h2⟩:=h;exact⟨hK,o,h1,h2,.nil⟩
theorem JX.off (h:JX K p st H):aq (.pointer (some ⟨p,2,none⟩)) H=some (.bool st.off):=by
 obtain⟨hK,o,⟨tape,w,T,W,i,nk,na,nx,ny,ty,g,_⟩,_⟩:=h;exact ao p 2 H g
theorem JX.words (h:JX K p st H)(l:List Int)(t:TypeId):Oe K p st l (H.new ⟨l.map cv,t,1,false⟩) (.slice (some ⟨H.length,0,none⟩) l.length l.length):=by
 obtain⟨hK,o,hr,hk⟩:=h;have f:Fr H o (H.new ⟨l.map cv,t,1,false⟩) (o.up H.length (-51)) []:=(Fr.refl H o []).new _ _;exact⟨hK,_,hr.fr f (by simp) (by simp) (by simp),hK _ _ _ _ hk (f.wk (by simp)),(oJ.new H o (-51) t l).ints⟩
theorem D6 {k a x y:Int}{w:Value}{l:List Int}{q:Y.Ask}(h:Oe K p st l H w)(hq:Ii q k a x y l):
  aE (run G) 160 [pv p,nm k a x y w] H λv H'=>v=cv (Y.oM q st).1∧JX K p (Y.oM q st).2 H':=by
 obtain⟨hK,o,⟨tape,w0,T,W,i,nk,na,nx,ny,ty,g,ho,ht,hT,RJ,hi,Ij,Tp⟩,hk,hw⟩:=h;obtain⟨wb,wc,ew⟩:=hw.1.isSlice;obtain⟨tb,tc,et⟩:=ht.1.isSlice;obtain⟨H1,e1⟩: ∃z,z=H.new ⟨[cv k,cv a,cv x,cv y,w],112,1,false⟩:=⟨_,rfl⟩;have bx:=Cr k a x y (b:=wb) (n:=l.length) (c:=wc) H;rw[←ew, ←e1] at bx;have hp:=ar g;obtain⟨o1,eo1⟩: ∃z,z=o.up H.length (-9):=⟨_,rfl⟩;have f1:Fr H o H1 o1 []:=by rw[e1,eo1];exact(Fr.refl H o []).new _ _
 have g1:H1.get p=some ⟨[tape,cv i,.bool st.off,cv nk,cv na,cv nx,cv ny,w0,cv st.oL,cv st.laid],ty,1,false⟩:=by rw[e1,df hp];exact g
 have gb:H1.get H.length=some ⟨[cv k,cv a,cv x,cv y,w],112,1,false⟩:=by rw[e1];exact aL
 have IZ:o1 p=p:=by rw[f1.own p hp];exact ho
 have L2:=ao p 2 H1 g1;have L1:=ao p 1 H1 g1;have L0:=ao p 0 H1 g1;simp only[List.getElem?_cons_succ,List.getElem?_cons_zero] at L2 L1 L0;have tl:=ht.1.len;cases m0:st.off with
 |true=>
  have ea:Y.oM q st=(0,st):=Y.D2 q st m0;rw[ea];rw[m0] at L2;refine aE.is (v:=cv 0) (H':=H1) (λn=>?_) ⟨rfl,hK,o1,⟨tape,w0,T,W,i,nk,na,nx,ny,ty,g1,IZ,ht.fr f1 (by simp),hT,RJ.fr f1 (by simp),hi,Ij,Tp⟩,hK _ _ _ _ hk (f1.wk (by simp))⟩
  rw[pg];simp -implicitDefEqProofs [FC,bx,AJ,gQ,L2]
 |false=>
  rw[m0] at L2;by_cases gB:i<T.length
  ·have FU:(i:Int)<T.length:=by omega
   have ed:T.drop i=T.getD i 0::T.drop (i+1):=by
    rw[List.drop_eq_getElem_cons gB];simp[List.getD_eq_getElem?_getD,gB]
   have ea:Y.oM q st=(T.getD i 0,{st with rest:=T.drop (i+1)}):=by
    unfold Y.oM;rw[m0,Ij,ed];rfl
   rw[ea];obtain⟨H2,e2⟩: ∃z,z=H1.put p ⟨[tape,cv (i+1:Nat),.bool st.off,cv nk,cv na,cv nx,cv ny,w0,cv st.oL,cv st.laid],ty,1,false⟩:=⟨_,rfl⟩;have Br:IntKind.i64.wrap ((i:Int)+1)=((i+1:Nat):Int):=by rw[fL (by omega)];omega
   have uA:IntKind.i64.wrap (((i+1:Nat):Int)-1)=(i:Int):=by rw[fL (by omega)];omega
   have S1:=gR p 1 ((i+1:Nat):Int) H1 g1 rfl (by simp)
   simp only[List.set_cons_succ,List.set_cons_zero] at S1;rw[←e2] at S1;have g2:H2.get p=some ⟨[tape,cv (i+1:Nat),.bool st.off,cv nk,cv na,cv nx,cv ny,w0,cv st.oL,cv st.laid],ty,1,false⟩:=by rw[e2];exact aG g1
   have f2:Fr H o H2 o1 [(p:Int)]:=by rw[e2];exact(f1.wk (by simp)).put λ_=>by simp[ho]
   have Cw:=ht.fr f2 (by simp)
   obtain⟨q',off,b,ZJ,hb,ZK⟩:=Cw.1.idx gB;have ZL:=ao p 1 H2 g2;have ZM:=ao p 0 H2 g2;simp only[List.getElem?_cons_succ,List.getElem?_cons_zero] at ZL ZM;have LT:=ao q' off H2 hb;rw[ZK] at LT;refine aE.is (v:=cv (T.getD i 0)) (H':=H2) (λn=>?_) ⟨rfl,hK,o1,⟨tape,w0,T,W,i+1,nk,na,nx,ny,ty,g2,IZ,Cw,hT,RJ.fr f2 (by simp),by omega,rfl,Tp⟩,hK _ _ _ _ hk f2⟩
   rw[pg];simp -implicitDefEqProofs [-Int.natCast_add,FC,bx,AJ,gQ,L2,L1,L0,tl,r7,FU,Ib,Ic,Br,uA,S1,ZL,ZM,ZJ,LT]
  ·have FU: ¬(i:Int)<T.length:=by omega
   have ed:T.drop i=[]:=List.drop_eq_nil_of_le (by omega)
   have ea:Y.oM q st=(0,{st with off:=true,next:=q}):=by
    unfold Y.oM;rw[m0,Ij,ed];rfl
   rw[ea];obtain⟨H2,e2⟩: ∃z,z=H1.put p ⟨[tape,cv i,.bool true,cv nk,cv na,cv nx,cv ny,w0,cv st.oL,cv st.laid],ty,1,false⟩:=⟨_,rfl⟩;have S1:=r9 p 2 (.bool true) H1 g1 rfl (by simp) rfl rfl rfl
   simp only[List.set_cons_succ,List.set_cons_zero] at S1;rw[←e2] at S1;have g2:H2.get p=some ⟨[tape,cv i,.bool true,cv nk,cv na,cv nx,cv ny,w0,cv st.oL,cv st.laid],ty,1,false⟩:=by rw[e2];exact aG g1
   have gb2:H2.get H.length=some ⟨[cv k,cv a,cv x,cv y,w],112,1,false⟩:=by rw[e2,bt (by omega)];exact gb
   have LB:cZ 5 (pv H.length) H2=some (nm k a x y w):=by simp[cZ,aR,gb2]
   obtain⟨H3,e3⟩: ∃z,z=H2.put p ⟨[tape,cv i,.bool true,cv k,cv a,cv x,cv y,w,cv st.oL,cv st.laid],ty,1,false⟩:=⟨_,rfl⟩;have S2:bD 5 (.pointer (some ⟨p,3,none⟩)) (nm k a x y w) H2=some (undef,H3):=by
    subst ew;simp[bD,bW,g2,Value.cells,known,aD,dt,e3]
   have g3:H3.get p=some ⟨[tape,cv i,.bool true,cv k,cv a,cv x,cv y,w,cv st.oL,cv st.laid],ty,1,false⟩:=by rw[e3];exact aG g2
   have f3:Fr H o H3 o1 [(p:Int)]:=by rw[e3,e2];exact((f1.wk (by simp)).put λ_=>by simp[ho]).put λ_=>by simp[ho]
   refine aE.is (v:=cv 0) (H':=H3) (λn=>?_) ⟨rfl,hK,o1,⟨tape,w,T,l,i,k,a,x,y,ty,g3,IZ,ht.fr f3 (by simp),hT,hw.fr f3 (by simp),hi,Ij,λ_=>hq⟩,hK _ _ _ _ hk f3⟩
   rw[pg];simp -implicitDefEqProofs [FC,bx,AJ,gQ,L2,L1,L0,tl,r7,FU,S1,LB,S2]
abbrev oP (K:aa→aj→Prop)(p:Nat)(st:Y.St)(t:Y.Tr Int):Value→aa→Prop:=λv H'=>v=cv (Y.ah t st).1∧JX K p (Y.ah t st).2 H'
abbrev jH (K:aa→aj→Prop)(p:Nat)(st:Y.St)(t:Y.Tr Bool):Value→aa→Prop:=λv H'=>v= .bool (Y.ah t st).1∧JX K p (Y.ah t st).2 H'
abbrev Of (K:aa→aj→Prop)(p:Nat)(st:Y.St)(t:Y.Tr α):Value→aa→Prop:=λv H'=>JX K p (Y.ah t st).2 H'
abbrev iw (K:aa→aj→Prop)(p:Nat)(st:Y.St)(t:Y.Tr (Int×Bool)):Value→aa→Prop:=λv H'=>v= .tuple #[cv (Y.ah t st).1.1,.bool (Y.ah t st).1.2]∧JX K p (Y.ah t st).2 H'
abbrev jW (K:aa→aj→Prop)(p:Nat)(st:Y.St)(t:Y.Tr (Int×Int)):Value→aa→Prop:=λv H'=>v= .tuple #[cv (Y.ah t st).1.1,cv (Y.ah t st).1.2]∧JX K p (Y.ah t st).2 H'
section
variable {k:Nat→Value→aa→Option β} {Q:β→Prop} {C:Nat→ae} {f:Nat} {args:List Value}
theorem Ev.eS {t:Y.Tr Int}(h:aE C f args H (oP K p st t))(hk: ∀z s1 H',Y.ah t st=(z,s1)→JX K p s1 H'→Ev (λn=>k n (cv z) H') Q):Ev (λn=>af (C n f args H) (k n)) Q:=
 Ev.call h λv H' hq=>by obtain⟨rfl,hj⟩:=hq;exact hk _ _ H' rfl hj
theorem Ev.K4 {t:Y.Tr Bool}(h:aE C f args H (jH K p st t))(hk: ∀z s1 H',Y.ah t st=(z,s1)→JX K p s1 H'→Ev (λn=>k n (.bool z) H') Q):Ev (λn=>af (C n f args H) (k n)) Q:=
 Ev.call h λv H' hq=>by obtain⟨rfl,hj⟩:=hq;exact hk _ _ H' rfl hj
theorem Ev.Yu {t:Y.Tr α}(h:aE C f args H (Of K p st t))(hk: ∀v z s1 H',Y.ah t st=(z,s1)→JX K p s1 H'→Ev (λn=>k n v H') Q):Ev (λn=>af (C n f args H) (k n)) Q:=
 Ev.call h λv H' hq=>hk v _ _ H' rfl hq
theorem Ev.D7 {t:Y.Tr (Int×Bool)}(h:aE C f args H (iw K p st t))(hk: ∀z b s1 H',Y.ah t st=((z,b),s1)→JX K p s1 H'→Ev (λn=>k n (.tuple #[cv z,.bool b]) H') Q):Ev (λn=>af (C n f args H) (k n)) Q:=
 Ev.call h λv H' hq=>by obtain⟨rfl,hj⟩:=hq;exact hk _ _ _ H' rfl hj
theorem Ev.ZN {t:Y.Tr (Int×Int)}(h:aE C f args H (jW K p st t))(hk: ∀z b s1 H',Y.ah t st=((z,b),s1)→JX K p s1 H'→Ev (λn=>k n (.tuple #[cv z,cv b]) H') Q):Ev (λn=>af (C n f args H) (k n)) Q:=
 Ev.call h λv H' hq=>by obtain⟨rfl,hj⟩:=hq;exact hk _ _ _ H' rfl hj
theorem Ev.nW (h:JX K p st H)(h1:st.off=true→Ev (λn=>k n (.bool true) H) Q)(h2:st.off=false→Ev (λn=>k n (.bool false) H) Q):Ev (λn=>af (pS (aq (.pointer (some ⟨p,2,none⟩)) H) H) (k n)) Q:=
 Ev.boo h.off h1 h2
end
theorem cX (h:JX K p st H)(a:Int):aE (run G) 139 [pv p,cv a] H (oP K p st (Y.rd a)):=by
 refine Ev.up (t:=λn=>Nw (run G n) n (pv p) (cv a) H) ?_ λn=>Hv ..
 simp -implicitDefEqProofs only[Nw,N9,kC,cO];refine Ev.call (D6 (q:=.rd a) h.FQ ⟨rfl,rfl⟩) ?_;rintro v H' ⟨rfl,hj⟩;exact Ev.ret ⟨rfl,hj⟩
theorem Cx (h:JX K p st H)(a x:Int):aE (run G) 146 [pv p,cv a,cv x] H (Of K p st (Y.wt a x)):=by
 refine Ev.up (t:=λn=>VM (run G n) n (pv p) (cv a) (cv x) H) ?_ λn=>QM ..
 simp -implicitDefEqProofs only[VM,W0,kC,cO];refine Ev.call (D6 (q:=.wr a x) h.FQ ⟨rfl,rfl,rfl⟩) ?_;rintro v H' ⟨rfl,hj⟩;exact Ev.ret hj
theorem Tq (h:JX K p st H)(a x:Int):aE (run G) 154 [pv p,cv a,cv x] H (oP K p st (Y.ad a x)):=by
 refine Ev.up (t:=λn=>U4 (run G n) n (pv p) (cv a) (cv x) H) ?_ λn=>Qq ..
 simp -implicitDefEqProofs only[U4,W2,kC,cO];refine Ev.call (D6 (q:=.ad a x) h.FQ ⟨rfl,rfl,rfl⟩) ?_;rintro v H' ⟨rfl,hj⟩;exact Ev.ret ⟨rfl,hj⟩
theorem D8 (h:JX K p st H)(a x y:Int):aE (run G) 140 [pv p,cv a,cv x,cv y] H λv H'=>v= .bool (decide ((Y.ah (Y.cs a x y) st).1=1))∧JX K p (Y.ah (Y.cs a x y) st).2 H':=by
 refine Ev.up (t:=λn=>U3 (run G n) n (pv p) (cv a) (cv x) (cv y) H) ?_ λn=>Qp ..
 simp -implicitDefEqProofs only[U3,W1,kC,cO];refine Ev.call (D6 (q:=.cs a x y) h.FQ ⟨rfl,rfl,rfl,rfl⟩) ?_;rintro v H' ⟨rfl,hj⟩;simp -implicitDefEqProofs only[vC,kC,cO];exact Ev.ret ⟨rfl,hj⟩
theorem nu {w:Value}{l:List Int}(h:Oe K p st l H w):aE (run G) 141 [pv p,w] H λv H'=>v= .tuple #[cv (Y.ah (Y.mk l) st).1,.bool (decide ((Y.ah (Y.mk l) st).1>0))]∧JX K p (Y.ah (Y.mk l) st).2 H':=by
 refine Ev.up (t:=λn=>Ws (run G n) n (pv p) w H) ?_ λn=>Rj ..
 obtain⟨b,n,c,ew⟩: ∃b n c,w= .slice b n c:=by
  obtain⟨_,o,_,_,hw⟩:=h;obtain⟨b,c,e⟩:=hw.1.isSlice;exact⟨b,_,c,e⟩
 subst ew;simp -implicitDefEqProofs only[Ws,W3,kC,cO];refine Ev.call (D6 (q:=.mk l) h ⟨rfl,rfl⟩) ?_;rintro v H' ⟨rfl,hj⟩;simp -implicitDefEqProofs only[HZ,kC,cO];exact Ev.ret ⟨rfl,hj⟩
end
section
open Go.Proofs.YtgfgglponbmgmaaGreatA
variable {G:ae} {H H':aa} {o o':aj} {p:Nat} {K:aa→aj→Prop} {st LV:Y.St} {α β:Type}
theorem cI (x:Int):IntKind.i64.wrap x=Y.wr x:=by rw[IntKind.wrap_i64];unfold Y.wr;omega
abbrev Is (H:aa)(v:Value):Value→aa→Prop:=λv' H'=>v'=v∧H'=H
theorem Ev.is {k:Nat→Value→aa→Option β}{Q:β→Prop}{C:Nat→ae}{f:Nat}{args:List Value}{v:Value}(h:aE C f args H (Is H v))(hk:Ev (λn=>k n v H) Q):Ev (λn=>af (C n f args H) (k n)) Q:=
 Ev.call h λv' H' hq=>by obtain⟨rfl,rfl⟩:=hq;exact hk
theorem Ik (a:Int):aE (run G) 89 [cv a] H (Is H (.bool (Y.fM a))):=by
 refine Ev.up (t:=λn=>Yr (run G n) n (cv a) H) ?_ λn=>Nj ..
 by_cases h8:a>8
 ·have m:a.tmod 8=a%8:=Int.tmod_eq_emod_of_nonneg (by omega)
  have d:a.tdiv 8=a/8:=Int.tdiv_eq_ediv_of_nonneg (by omega)
  simp -implicitDefEqProofs only[Yr,sS,Nat.reduceAdd];repeat' (first| (refine Ev.ret ⟨?_,rfl⟩;refine congrArg Value.bool ?_;simp[Y.fM];simp only[←m, ←d, ←cI];omega)| ((with_reducible first|refine Ev.gtr (λhq=>?_) (λhq=>?_)|refine Ev.leq (λhq=>?_) (λhq=>?_)|refine Ev.geq (λhq=>?_) (λhq=>?_))<;>try simp -implicitDefEqProofs only[sS,Nat.reduceAdd]))
 ·simp -implicitDefEqProofs only[Yr,sS,Nat.reduceAdd];repeat' (first| (refine Ev.ret ⟨?_,rfl⟩;refine congrArg Value.bool ?_;simp[Y.fM];omega)| (exfalso;omega)| ((with_reducible first|refine Ev.gtr (λhq=>?_) (λhq=>?_)|refine Ev.leq (λhq=>?_) (λhq=>?_)|refine Ev.geq (λhq=>?_) (λhq=>?_))<;>try simp -implicitDefEqProofs only[sS,Nat.reduceAdd]))
theorem gV (a:Int):aE (run G) 57 [cv a] H (Is H (cv (Y.kd a))):=by
 refine Ev.up (t:=λn=>Zt (run G n) n (cv a) H) ?_ λn=>Nd ..
 simp -implicitDefEqProofs only[Zt,sS,Nat.reduceAdd];refine Ev.is (Ik a) ?_;cases hr:Y.fM a<;>simp -implicitDefEqProofs only[sS,Nat.reduceAdd]<;>refine Ev.ret ⟨?_,rfl⟩<;>refine congrArg cv ?_
 ·simp[Y.kd,hr]
 ·have h8:a>8:=by simp[Y.fM] at hr;omega
  have m:a.tmod 8=a%8:=Int.tmod_eq_emod_of_nonneg (by omega)
  simp[Y.kd,hr,m]
theorem nX (a:Int):aE (run G) 83 [cv a] H (Is H (cv (Y.aw a))):=by
 refine Ev.up (t:=λn=>ZA (run G n) n (cv a) H) ?_ λn=>N0 ..
 simp -implicitDefEqProofs only[ZA,sS,Nat.reduceAdd];refine Ev.is (Ik a) ?_;cases hr:Y.fM a<;>simp -implicitDefEqProofs only[sS,Nat.reduceAdd]<;>refine Ev.ret ⟨?_,rfl⟩<;>refine congrArg cv ?_
 ·simp[Y.aw,hr]
 ·have h8:a>8:=by simp[Y.fM] at hr;omega
  have d:a.tdiv 8=a/8:=Int.tdiv_eq_ediv_of_nonneg (by omega)
  simp[Y.aw,hr,d,cI]
theorem nY (k a:Int):aE (run G) 59 [cv k,cv a] H (Is H (cv (Y.fI k a))):=by
 refine Ev.up (t:=λn=>F59 (run G n) n (cv k) (cv a) H) ?_ λn=>U9 ..
 simp -implicitDefEqProofs only[F59,sS,Nat.reduceAdd];repeat' (first| (refine Ev.ret ⟨?_,rfl⟩;refine congrArg cv ?_;simp only[Y.fI];(try rw[cI,cI]);split<;>(try unfold Y.wr)<;>omega)| ((with_reducible first|refine Ev.lss (λhq=>?_) (λhq=>?_)|refine Ev.gtr (λhq=>?_) (λhq=>?_))<;>try simp -implicitDefEqProofs only[sS,Nat.reduceAdd]))
theorem oQ (a:Int):aE (run G) 130 [cv a] H (Is H (.bool (Y.D4 a))):=by
 refine Ev.up (t:=λn=>Nv (run G n) n (cv a) H) ?_ λn=>Hr ..
 simp -implicitDefEqProofs only[Nv,sS,Nat.reduceAdd];repeat' (first| (refine Ev.ret ⟨?_,rfl⟩;refine congrArg Value.bool ?_;simp[Y.D4];omega)| ((with_reducible first|refine Ev.geq (λhq=>?_) (λhq=>?_))<;>try simp -implicitDefEqProofs only[sS,Nat.reduceAdd]))
theorem pB (a i:Int):aE (run G) 142 [cv a,cv i] H (Is H (cv (Y.lC a i))):=by
 refine Ev.up (t:=λn=>NA (run G n) n (cv a) (cv i) H) ?_ λn=>HA ..
 simp -implicitDefEqProofs only[NA,sS,Nat.reduceAdd];refine Ev.is (oQ a) ?_;cases h1:Y.D4 a<;>simp -implicitDefEqProofs only[sS,Nat.reduceAdd]
 ·exact Ev.ret ⟨by simp[Y.lC,h1],rfl⟩
 refine Ev.is (oQ i) ?_;cases h2:Y.D4 i<;>simp -implicitDefEqProofs only[sS,Nat.reduceAdd]
 ·exact Ev.ret ⟨by simp[Y.lC,h1,h2],rfl⟩
 ·refine Ev.ret ⟨congrArg cv ?_,rfl⟩;simp[Y.lC,h1,h2,cI];simp[Y.D4] at h1 h2;unfold Y.wr;omega
theorem kK (a d i:Int):aE (run G) 103 [cv a,cv d,cv i] H (Is H (cv (Y.dh a d i))):=by
 refine Ev.up (t:=λn=>Nu (run G n) n (cv a) (cv d) (cv i) H) ?_ λn=>Hj ..
 simp -implicitDefEqProofs only[Nu,sS,Nat.reduceAdd];refine Ev.is (oQ a) ?_;cases h1:Y.D4 a<;>simp -implicitDefEqProofs only[sS,Nat.reduceAdd]
 ·exact Ev.ret ⟨by simp[Y.dh,h1],rfl⟩
 refine Ev.is (oQ d) ?_;cases h2:Y.D4 d<;>simp -implicitDefEqProofs only[sS,Nat.reduceAdd]
 ·exact Ev.ret ⟨by simp[Y.dh,h1,h2],rfl⟩
 refine Ev.is (oQ i) ?_;cases h3:Y.D4 i<;>simp -implicitDefEqProofs only[sS,Nat.reduceAdd]
 ·exact Ev.ret ⟨by simp[Y.dh,h1,h2,h3],rfl⟩
 ·refine Ev.ret ⟨congrArg cv ?_,rfl⟩;simp[Y.dh,h1,h2,h3,cI];simp[Y.D4] at h1 h2 h3;unfold Y.wr;omega
theorem RK (a:Int):aE (run G) 155 [cv a] H (Is H (cv (Y.Od a))):=by
 refine Ev.up (t:=λn=>Qr (run G n) n (cv a) H) ?_ λn=>Qs ..
 by_cases h0:0≤a
 ·have d:a.tdiv 4=a/4:=Int.tdiv_eq_ediv_of_nonneg h0;simp -implicitDefEqProofs only[Qr,sS,Nat.reduceAdd];repeat' (first| (refine Ev.ret ⟨?_,rfl⟩;refine congrArg cv ?_;simp only[Y.Od];(try rw[d,cI,cI]);split<;>(try simp only[Y.wr])<;>omega)| ((with_reducible first|refine Ev.lss (λhq=>?_) (λhq=>?_)|refine Ev.gtr (λhq=>?_) (λhq=>?_))<;>try simp -implicitDefEqProofs only[sS,Nat.reduceAdd]))
 ·simp -implicitDefEqProofs only[Qr,sS,Nat.reduceAdd];repeat' (first| (refine Ev.ret ⟨?_,rfl⟩;refine congrArg cv ?_;simp only[Y.Od];split<;>omega)| (exfalso;omega)| ((with_reducible first|refine Ev.lss (λhq=>?_) (λhq=>?_)|refine Ev.gtr (λhq=>?_) (λhq=>?_))<;>try simp -implicitDefEqProofs only[sS,Nat.reduceAdd]))
end
section
variable {G:ae} {H H':aa} {o o':aj} {p m:Nat} {K:aa→aj→Prop}
abbrev uv (x:Int):Value:=.int .u64 x
section
variable {α:Type} {k:Nat→Value→aa→Option α} {Q:α→Prop} {t:TypeId} {a b:Int} {P:Program}
theorem Ev.W6 {op:BinOp}(hop:op= .eql∨op= .geq)(h1:Ev (λn=>k n (.bool true) H) Q)(h2:Ev (λn=>k n (.bool false) H) Q):Ev (λn=>af (pS (ai P op t (uv a) (uv b)) H) (k n)) Q:=by
 have: ∃c:Bool,ai P op t (uv a) (uv b)=some (.bool c):=by
  rcases hop with rfl|rfl
  ·exact⟨_,rfl⟩
  ·exact⟨_,rfl⟩
 obtain⟨c,e⟩:=this;rw[e];cases c with
 |true=>exact h1
 |false=>exact h2
end
theorem uU (t:TypeId)(a b:Int):ai Tryz.prog .sub t (uv a) (uv b)=some (uv (IntKind.u64.wrap (a-b))):=rfl
theorem RL (t:TypeId)(a b:Int):ai Tryz.prog .add t (uv a) (uv b)=some (uv (IntKind.u64.wrap (a+b))):=rfl
theorem RM (x:Int)(H:aa):Ar .u64 (cv x) H=some (uv (IntKind.u64.wrap x),H):=rfl
theorem ZO (a b:Int)(H:aa):Zp (uv a) (uv b) H=some (uv (if b<a then b else a),H):=rfl
theorem ZP (t:TypeId)(a:Int)(b:Nat):ai Tryz.prog .shr t (cv a) (.int .u64 b)=some (cv (a.fdiv (2^min ((b:Int)).toNat 64))):=by
 show qk .shr .i64 a b=_
 simp only[qk];rfl
theorem Tt (a b:Int):aE (run G) 162 [cv a,cv b] H λv H'=>(∃z,v=uv z)∧H'=H:=by
 refine Ev.up (t:=λn=>Nn (run G n) n (cv a) (cv b) H) ?_ λn=>Hg ..
 simp -implicitDefEqProofs only[Nn,sS,Nat.reduceAdd,RM,uU];refine Ev.lss (λh1=>?_) (λh1=>?_)<;>try simp -implicitDefEqProofs only[sS,Nat.reduceAdd,RM,uU]
 ·exact Ev.ret ⟨⟨_,rfl⟩,rfl⟩
 ·exact Ev.ret ⟨⟨_,rfl⟩,rfl⟩
theorem RN (a b c:Int):aE (run G) 161 [uv a,uv b,cv c] H (Cs H):=by
 refine Ev.up (t:=λn=>MX (run G n) n (uv a) (uv b) (cv c) H) ?_ λn=>GS ..
 simp -implicitDefEqProofs only[MX,sS,Nat.reduceAdd];refine Ev.W6 (.inl rfl) ?_ ?_ <;>try simp -implicitDefEqProofs only[sS,Nat.reduceAdd]
 ·exact Ev.ret ⟨⟨_,rfl⟩,rfl⟩
 refine Ev.lss (λh1=>?_) (λh1=>?_)<;>try simp -implicitDefEqProofs only[sS,Nat.reduceAdd]
 ·exact Ev.ret ⟨⟨_,rfl⟩,rfl⟩
 refine Ev.gtr (λh1=>?_) (λh1=>?_)<;>try simp -implicitDefEqProofs only[sS,Nat.reduceAdd,ZO]
 ·exact Ev.ret ⟨⟨_,rfl⟩,rfl⟩
 refine Ev.loop (k:=17) (λk vs Hx=>∃(a b d7 d8:Int) (d24 d33 d49 d54:Value),Hx=H∧k≤17∧vs=[uv a,uv b,cv c,cv 0,.bool false,cv ((k:Int)-1),d24,cv d7,uv d8,d33,d49,d54])
  (λr=>r.1= .exit 0∧r.2.2=H∧∃(a b d7:Int) (d8 d9 d24 d33 d49 d54:Value),r.2.1=[uv a,uv b,cv c,cv 0,.bool false,d9,d24,cv d7,d8,d33,d49,d54]) ⟨_,_,_,_,_,_,_,_,rfl,by omega,rfl⟩ ?_ ?_
 ·rintro k vs Hx ⟨a,b,d7,d8,d24,d33,d49,d54,rfl,hk,rfl⟩;simp -implicitDefEqProofs only[Ay,rQ,sS,Nat.reduceAdd];refine Ev.geq (λhq=>?_) (λhq=>?_)<;>try simp -implicitDefEqProofs only[sS,Nat.reduceAdd,uU]
  ·obtain⟨j,rfl⟩: ∃j,k=j+1:=⟨k-1,by omega⟩
   have eb:((j+1:Nat):Int)-1=(j:Int):=by omega
   have hw:IntKind.i64.wrap ((j:Int)-1)=(j:Int)-1:=fL (by omega)
   have iJ: ∀(d7 d8:Int) (d24 d33 d49 d54:Value),Ev (λn=>adU (run G n) n [uv a,uv b,cv c,cv 0,.bool false,cv ((j+1:Nat)-1),d24,cv d7,uv d8,d33,d49,d54] Hx) λr=>(r.1= .normal∧∃k',k'<j+1∧∃(a b d7 d8:Int) (d24 d33 d49 d54:Value),r.2.2=Hx∧k'≤17∧r.2.1=[uv a,uv b,cv c,cv 0,.bool false,cv ((k':Int)-1),d24,cv d7,uv d8,d33,d49,d54])∨(r.1≠ .normal∧r.1= .exit 0∧r.2.2=Hx∧∃(a b d7:Int) (d8 d9 d24 d33 d49 d54:Value),r.2.1=[uv a,uv b,cv c,cv 0,.bool false,d9,d24,cv d7,d8,d33,d49,d54]):=by
    intro d7 d8 d24 d33 d49 d54;simp -implicitDefEqProofs only[Aw,rN,sS,Nat.reduceAdd,eb,hw];exact Ev.ret (.inl ⟨rfl,j,by omega,_,_,_,_,_,_,_,_,rfl,by omega,rfl⟩)
   have h2: ∀(d7 d8:Int) (d24 d33 d49 d54:Value),Ev (λn=>rP (run G n) n [uv a,uv b,cv c,cv 0,.bool false,cv ((j+1:Nat)-1),d24,cv d7,uv d8,d33,d49,d54] Hx) λr=>(r.1= .normal∧∃k',k'<j+1∧∃(a b d7 d8:Int) (d24 d33 d49 d54:Value),r.2.2=Hx∧k'≤17∧r.2.1=[uv a,uv b,cv c,cv 0,.bool false,cv ((k':Int)-1),d24,cv d7,uv d8,d33,d49,d54])∨(r.1≠ .normal∧r.1= .exit 0∧r.2.2=Hx∧∃(a b d7:Int) (d8 d9 d24 d33 d49 d54:Value),r.2.1=[uv a,uv b,cv c,cv 0,.bool false,d9,d24,cv d7,d8,d33,d49,d54]):=by
    intro d7 d8 d24 d33 d49 d54;simp -implicitDefEqProofs only[Ax,rO,sS,Nat.reduceAdd,eb,Ob j (by omega),ZP,Cp]
    refine Ev.eql (λhq=>?_) (λhq=>?_)<;>try simp -implicitDefEqProofs only[sS,Nat.reduceAdd,uU]
    ·have:=iJ d7 d8 d24 d33 (.bool true) d54
     rw[eb] at this;exact this
    refine Ev.W6 (.inr rfl) ?_ ?_ <;>try simp -implicitDefEqProofs only[sS,Nat.reduceAdd,uU,RL]
    ·have:=iJ (IntKind.i64.wrap (d7+1)) (IntKind.u64.wrap (d8-IntKind.u64.wrap (b-a))) d24 d33 (.bool false) (.bool true)
     rw[eb] at this;exact this
    ·have:=iJ d7 (IntKind.u64.wrap (d8+a)) d24 d33 (.bool false) (.bool false)
     rw[eb] at this;exact this
   refine Ev.W6 (.inr rfl) ?_ ?_ <;>try simp -implicitDefEqProofs only[sS,Nat.reduceAdd,uU,RL]
   ·exact h2 _ _ _ _ _ _
   ·exact h2 _ _ _ _ _ _
  ·exact Ev.ret (.inr ⟨by simp,rfl,rfl,_,_,_,_,_,_,_,_,_,rfl⟩)
 ·rintro e vs Hx ⟨he,rfl,a,b,d7,d8,d9,d24,d33,d49,d54,rfl⟩;simp only at he;subst he;simp -implicitDefEqProofs only[Az,rR,sS,Nat.reduceAdd];exact Ev.ret ⟨⟨_,rfl⟩,rfl⟩
theorem sh (a b c d:Int):aE (run G) 143 [cv a,cv b,cv c,cv d] H (Cs H):=by
 refine Ev.up (t:=λn=>Nx (run G n) n (cv a) (cv b) (cv c) (cv d) H) ?_ λn=>Hw ..
 simp -implicitDefEqProofs only[Nx,sS,Nat.reduceAdd];repeat' (first|exact Ev.ret ⟨⟨_,rfl⟩,rfl⟩| ((with_reducible first|refine Ev.lss (λhq=>?_) (λhq=>?_)|refine Ev.gtr (λhq=>?_) (λhq=>?_)|refine Ev.geq (λhq=>?_) (λhq=>?_))<;>try simp -implicitDefEqProofs only[sS,Nat.reduceAdd]))
 all_goals
  refine Ev.call (Tt _ _) ?_;rintro v H' ⟨⟨z1,rfl⟩,rfl⟩;refine Ev.call (Tt _ _) ?_;rintro v H' ⟨⟨z2,rfl⟩,rfl⟩
  try simp -implicitDefEqProofs only[sS,Nat.reduceAdd]
  refine Ev.ke (RN _ _ _) λz=>?_
  try simp -implicitDefEqProofs only[sS,Nat.reduceAdd]
  exact Ev.ret ⟨⟨_,rfl⟩,rfl⟩
end
section
variable {G:ae} {H H':aa} {o o':aj} {p m:Nat} {K:aa→aj→Prop}
theorem gC (o:aj): ∀n:Nat,∃t:Int,t< -100∧∀i,i<n→t<o i
 |0=>⟨-101,by omega,λi h=>by omega⟩
 |n+1=>by
  obtain⟨t,h1,h2⟩:=gC o n;refine⟨min t (o n)-1,by omega,λi hi=>?_⟩
  rcases Nat.lt_or_ge i n with g|g
  ·have:=h2 i g;omega
  ·have:i=n:=by omega
   subst this;omega
theorem iD {t:Int}{ps:List Int}(f:Fr H o H' o' (t::ps))(h: ∀i,i<H.length→o i≠t):Fr H o H' o' ps:=
 ⟨λi hi hn=>f.slot i hi (by simp only[List.mem_cons,not_or];exact⟨h i hi,hn⟩),f.own,f.size⟩
theorem zP (a:Int)(H:aa):ay Tryz.prog 42 1 [(0,cv a)] H=some (.slice (some ⟨H.length,0,none⟩) 1 1,H.new ⟨[cv a],2,1,false⟩):=by kernel_rfl
theorem RO (a b:Int)(H:aa):ay Tryz.prog 42 2 [(0,cv a),(1,cv b)] H=some (.slice (some ⟨H.length,0,none⟩) 2 2,H.new ⟨[cv a,cv b],2,1,false⟩):=by kernel_rfl
theorem Og (a b c d e:Int)(H:aa):ay Tryz.prog 42 5 [(0,cv a),(1,cv b),(2,cv c),(3,cv d),(4,cv e)] H=some (.slice (some ⟨H.length,0,none⟩) 5 5,H.new ⟨[cv a,cv b,cv c,cv d,cv e],2,1,false⟩):=by kernel_rfl
section
variable {α:Type} {k:Nat→Value→aa→Option α} {Q:α→Prop} {z:Int}
end
end
section
open Go.Proofs.YtgfgglponbmgmaaGreatA
variable {G:ae} {H H':aa} {o o':aj} {p:Nat} {K:aa→aj→Prop} {st LV s1:Y.St} {α β:Type}
section
variable {k:Nat→Value→aa→Option β} {Q:β→Prop} {C:Nat→ae} {f:Nat} {args:List Value}
theorem Ev.Oh {a x y:Int}(h:aE C f args H λv H'=>v= .bool (decide ((Y.ah (Y.cs a x y) st).1=1))∧JX K p (Y.ah (Y.cs a x y) st).2 H')(hk: ∀z s1 H',Y.ah (Y.cs a x y) st=(z,s1)→JX K p s1 H'→Ev (λn=>k n (.bool (decide (z=1))) H') Q):Ev (λn=>af (C n f args H) (k n)) Q:=
 Ev.call h λv H' hq=>by obtain⟨rfl,hj⟩:=hq;exact hk _ _ H' rfl hj
theorem Ev.si {l:List Int}(h:aE C f args H λv H'=>v= .tuple #[cv (Y.ah (Y.mk l) st).1,.bool (decide ((Y.ah (Y.mk l) st).1>0))]∧JX K p (Y.ah (Y.mk l) st).2 H')(hk: ∀z s1 H',Y.ah (Y.mk l) st=(z,s1)→JX K p s1 H'→Ev (λn=>k n (.tuple #[cv z,.bool (decide (z>0))]) H') Q):Ev (λn=>af (C n f args H) (k n)) Q:=
 Ev.call h λv H' hq=>by obtain⟨rfl,hj⟩:=hq;exact hk _ _ H' rfl hj
theorem Ev.RP {l:List Int}(h:aE C f args H λw H'=>Oe K p st l H' w)(hk: ∀w H',Oe K p st l H' w→Ev (λn=>k n w H') Q):Ev (λn=>af (C n f args H) (k n)) Q:=Ev.call h hk
end
theorem Ev.brD {x y:Nat→Option α}{P:Prop}[Decidable P]{Q:α→Prop}(h:P→Ev x Q)(k: ¬P→Ev y Q):Ev (λn=>aV (.bool (decide P)) (x n) (y n)) Q:=
 Ev.br (λe=>h (of_decide_eq_true e)) λe=>k (of_decide_eq_false e)
theorem Ev.brN {x y:Nat→Option α}{P:Prop}[Decidable P]{Q:α→Prop}(h: ¬P→Ev x Q)(k:P→Ev y Q):Ev (λn=>aV (.bool (!decide P)) (x n) (y n)) Q:=
 Ev.br (λe=>h (by simpa using e)) λe=>k (by simpa using e)
theorem oP.of {t:Y.Tr Int}{z:Int}(hj:JX K p s1 H')(e:Y.ah t st=(z,s1)):oP K p st t (cv z) H':=by unfold oP;rw[e];exact⟨rfl,hj⟩
theorem Of.of {t:Y.Tr α}{z:α}{v:Value}(hj:JX K p s1 H')(e:Y.ah t st=(z,s1)):Of K p st t v H':=by unfold Of;rw[e];exact hj
theorem jH.of {t:Y.Tr Bool}{z:Bool}(hj:JX K p s1 H')(e:Y.ah t st=(z,s1)):jH K p st t (.bool z) H':=by unfold jH;rw[e];exact⟨rfl,hj⟩
theorem iw.of {t:Y.Tr (Int×Bool)}{z:Int}{b:Bool}(hj:JX K p s1 H')(e:Y.ah t st=((z,b),s1)):iw K p st t (.tuple #[cv z,.bool b]) H':=by unfold iw;rw[e];exact⟨rfl,hj⟩
theorem jW.of {t:Y.Tr (Int×Int)}{z b:Int}(hj:JX K p s1 H')(e:Y.ah t st=((z,b),s1)):jW K p st t (.tuple #[cv z,cv b]) H':=by unfold jW;rw[e];exact⟨rfl,hj⟩
theorem bk (a:α)(s:Y.St):Y.ah (pure a) s=(a,s):=rfl
theorem bH (a:α)(s:Y.St):Y.ah (Y.Tr.ret a) s=(a,s):=rfl
theorem bL (s:Y.St):Y.ah Y.gT s=(s.off,s):=rfl
theorem cR (r:Int)(t:Y.Tr α)(s:Y.St):Y.ah (Y.Tr.rc r t) s=Y.ah t {s with oL:=r}:=rfl
theorem cS (t:Y.Tr α)(s:Y.St):Y.ah (Y.Tr.ld t) s=Y.ah t {s with laid:=if s.oL>0 then s.oL else s.laid}:=rfl
theorem D9 (h:JX K p st H)(a b c d:Int):aE (run G) 58 [cv a,cv b,cv c,cv d] H λw H'=>Oe K p st (Y.fj a b c d) H' w:=by
 refine Ev.up (t:=λn=>Zy (run G n) n (cv a) (cv b) (cv c) (cv d) H) ?_ λn=>NH ..
 simp -implicitDefEqProofs only[Zy,Og,sS,Nat.reduceAdd];exact Ev.ret (h.words [a,b,c,d,0] _)
theorem yL (h:JX K p st H)(a b c:Int):aE (run G) 153 [cv a,cv b,cv c] H λw H'=>Oe K p st (Y.jg a b c) H' w:=by
 refine Ev.up (t:=λn=>V1 (run G n) n (cv a) (cv b) (cv c) H) ?_ λn=>QX ..
 simp -implicitDefEqProofs only[V1,Og,sS,Nat.reduceAdd];exact Ev.ret (h.words [a,b,c,0,0] _)
theorem sj (h:JX K p st H):aE (run G) 36 [] H λw H'=>Oe K p st [0] H' w:=by
 refine Ev.up (t:=λn=>Zz (run G n) n H) ?_ λn=>NS ..
 simp -implicitDefEqProofs only[Zz,zP,sS,Nat.reduceAdd];exact Ev.ret (h.words [0] _)
theorem uc (h:JX K p st H)(a b:Int):aE (run G) 147 [cv a,cv b] H λw H'=>Oe K p st [a,b] H' w:=by
 refine Ev.up (t:=λn=>NP (run G n) n (cv a) (cv b) H) ?_ λn=>ael ..
 simp -implicitDefEqProofs only[NP,RO,sS,Nat.reduceAdd];exact Ev.ret (h.words [a,b] _)
theorem LW (w:Int){j:Int}(h:0≤j∧j≤8):IntKind.i64.wrap (Y.aw w+j)=Y.aw w+j:=by
 rw[cI];have: -9223372036854775808≤Y.aw w∧Y.aw w≤65536:=by
  unfold Y.aw;split
  ·next hr=>simp[Y.fM] at hr;unfold Y.wr at *;omega
  ·omega
 unfold Y.wr;omega
theorem Oi (h:JX K p st H)(a:Int):aE (run G) 113 [pv p,cv a] H (oP K p st (Y.sd a)):=by
 refine Ev.up (t:=λn=>NJ (run G n) n (pv p) (cv a) H) ?_ λn=>HH ..
 simp -implicitDefEqProofs only[NJ,sS,Nat.reduceAdd];repeat' (first| (refine Ev.ret (oP.of ‹_› ?_);simp only[Y.sd,Y.ak,bk,bH,bL,cR,cS,ne_eq,not_true_eq_false,not_false_eq_true,if_true,if_false,Bool.not_true,Bool.not_false,true_and,and_true,false_and,and_false,true_or,or_true,false_or,or_false,Bool.false_eq_true,decide_true,decide_false, *])| (simp only[LW _ (j:=4) (by omega),LW _ (j:=3) (by omega),LW _ (j:=2) (by omega)];((with_reducible first|refine Ev.eql (λhq=>?_) (λhq=>?_)|refine Ev.neq (λhq=>?_) (λhq=>?_)|refine Ev.is (gV _) ?_ |refine Ev.is (nX _) ?_ |refine Ev.eS (cX ‹_› _) λz s1 Hz ez hj=>?_)<;>try simp -implicitDefEqProofs only[sS,Nat.reduceAdd]))| ((with_reducible first|refine Ev.eql (λhq=>?_) (λhq=>?_)|refine Ev.neq (λhq=>?_) (λhq=>?_)|refine Ev.is (gV _) ?_ |refine Ev.is (nX _) ?_ |refine Ev.eS (cX ‹_› _) λz s1 Hz ez hj=>?_)<;>try simp -implicitDefEqProofs only[sS,Nat.reduceAdd]))
theorem Oj (h:JX K p st H){a:Int}(ha: -9223372036854775808≤a∧a≤65536):aE (run G) 114 [pv p,cv a] H (Of K p st (Y.yI a)):=by
 have w4: ∀{j:Int},0≤j∧j≤8→IntKind.i64.wrap (a+j)=a+j:=λhj=>by rw[fL (by omega)]
 refine Ev.up (t:=λn=>Wd (run G n) n (pv p) (cv a) H) ?_ λn=>Q3 ..
 simp -implicitDefEqProofs only[Wd,Kg,xM,Kh,xN,sS,Nat.reduceAdd];repeat' (first| (refine Ev.ret (Of.of (z:=()) ‹_› ?_);simp only[Y.yI,Y.ak,bk,bH,bL,cR,cS,ne_eq,not_true_eq_false,not_false_eq_true,if_true,if_false,Bool.not_true,Bool.not_false,true_and,and_true,false_and,and_false,true_or,or_true,false_or,or_false,Bool.false_eq_true,decide_true,decide_false, *])| (simp only[w4 (j:=4) (by omega),w4 (j:=3) (by omega),w4 (j:=2) (by omega),w4 (j:=1) (by omega)];((with_reducible first|refine Ev.eql (λhq=>?_) (λhq=>?_)|refine Ev.neq (λhq=>?_) (λhq=>?_)|refine Ev.is (nY _ _) ?_ |refine Ev.eS (cX ‹_› _) λz s1 Hz ez hj=>?_ |refine Ev.Oh (D8 ‹_› _ _ _) λz s1 Hz ez hj=>?_)<;>try simp -implicitDefEqProofs only[sS,Nat.reduceAdd]))| ((with_reducible first|refine Ev.eql (λhq=>?_) (λhq=>?_)|refine Ev.neq (λhq=>?_) (λhq=>?_)|refine Ev.is (nY _ _) ?_ |refine Ev.eS (cX ‹_› _) λz s1 Hz ez hj=>?_ |refine Ev.Oh (D8 ‹_› _ _ _) λz s1 Hz ez hj=>?_)<;>try simp -implicitDefEqProofs only[sS,Nat.reduceAdd]))
theorem nM (w:Int): -9223372036854775808≤Y.aw w∧Y.aw w≤65536:=by
 unfold Y.aw;split
 ·next hr=>simp[Y.fM] at hr;unfold Y.wr at *;omega
 ·omega
theorem dj {a z:Int}{s s':Y.St}(e:Y.ah (Y.rd a) s=(z,s')):s'.left=s.left-1:=by
 have h:=Y.tz (.rd a) s;have e2:(Y.oM (.rd a) s).2=s':=congrArg Prod.snd e;rw[e2] at h;exact h
theorem dk {t:Y.Tr α}{z:α}{s s':Y.St}(e:Y.ah t s=(z,s')):s'.left≤s.left:=by
 have h:=Y.D3 t s;rw[e] at h;exact h
theorem iE {s:Y.St}(h:s.off=false):1≤s.left:=by unfold Y.St.left;rw[h];simp
theorem K6 {a w:Int}{f:Nat}{s:Y.St}(h:s.off=true∨Y.kd w≠5):Y.ah (Y.se a f w) s=(w,s):=by
 cases f with
 |zero=>rfl
 |succ f=>
  show Y.ah (if(!s.off)=true∧Y.kd w=5 then _ else pure w) s=_
  rw[if_neg (by rcases h with h|h<;>simp[h])];rfl
theorem Ok {a w:Int}{f:Nat}{s:Y.St}(h:s.off=false)(k:Y.kd w=5):Y.ah (Y.se a (f+1) w) s=Y.ah (Y.yI (Y.aw w) >>= λ_=>Y.rd a >>= λw'=>Y.se a f w') s:=by
 show Y.ah (if(!s.off)=true∧Y.kd w=5 then _ else pure w) s=_
 rw[if_pos (by simp[h,k])]
theorem FV (h:JX K p st H){f:Nat}(hf:st.left≤f+1)(a:Int):aE (run G) 115 [pv p,cv a] H (oP K p st (Y.kr f a)):=by
 refine Ev.up (t:=λn=>UZ (run G n) n (pv p) (cv a) H) ?_ λn=>Qk ..
 simp -implicitDefEqProofs only[UZ,sS,Nat.reduceAdd];refine Ev.eS (cX h a) λz0 s0 H0 e0 W7=>?_
 have l0:=dj e0;have E0:Y.ah (Y.kr f a) st=Y.ah (Y.se a f z0) s0:=by simp only[Y.kr,Y.ak,bk,bH,bL,cR,cS,ne_eq,not_true_eq_false,not_false_eq_true,if_true,if_false,Bool.not_true,Bool.not_false,true_and,and_true,false_and,and_false,true_or,or_true,false_or,or_false,Bool.false_eq_true,decide_true,decide_false,e0]
 refine Ev.loop (k:=s0.left) (λk vs Hx=>∃(z:Int) (d:Value) (sx:Y.St) (fx:Nat),vs=[pv p,cv a,cv 0,cv z,d]∧JX K p sx Hx∧k=sx.left∧sx.left≤fx∧Y.ah (Y.kr f a) st=Y.ah (Y.se a fx z) sx)
  (λr=>r.1= .exit 0∧∃(z:Int) (d:Value) (sx:Y.St),r.2.1=[pv p,cv a,cv 0,cv z,d]∧JX K p sx r.2.2∧Y.ah (Y.kr f a) st=(z,sx)) ⟨z0,_,s0,f,rfl,W7,rfl,by omega,E0⟩ ?_ ?_
 ·rintro k vs Hx ⟨z,d,sx,fx,rfl,hj,rfl,W8,E⟩;simp -implicitDefEqProofs only[Jk,wK,sS,Nat.reduceAdd];have out:(sx.off=true∨Y.kd z≠5)→Y.ah (Y.kr f a) st=(z,sx):=λhn=>by rw[E];exact K6 hn
  refine Ev.nW hj (λhq=>?_) (λhq=>?_)<;>try simp -implicitDefEqProofs only[sS,Nat.reduceAdd]
  ·exact Ev.ret (.inr ⟨by simp,rfl,z,_,sx,rfl,hj,out (.inl hq)⟩)
  refine Ev.is (gV _) ?_
  try simp -implicitDefEqProofs only[sS,Nat.reduceAdd]
  refine Ev.eql (λhk=>?_) (λhk=>?_)<;>try simp -implicitDefEqProofs only[sS,Nat.reduceAdd]
  ·refine Ev.is (nX _) ?_;refine Ev.Yu (Oj hj (nM _)) λv u s1 H1 e1 fv=>?_
   try simp -implicitDefEqProofs only[sS,Nat.reduceAdd]
   refine Ev.eS (cX fv a) λz2 s2 H2 e2 fH=>?_
   try simp -implicitDefEqProofs only[sS,Nat.reduceAdd]
   have l1:=dk e1;have l2:=dj e2;have l3:=iE hq;obtain⟨fy,rfl⟩: ∃fy,fx=fy+1:=⟨fx-1,by omega⟩
   refine Ev.ret (.inl ⟨rfl,s2.left,by omega,z2,_,s2,fy,rfl,fH,rfl,by omega,?_⟩)
   rw[E,Ok hq hk];simp only[Y.ak,bk,bH,bL,cR,cS,ne_eq,not_true_eq_false,not_false_eq_true,if_true,if_false,Bool.not_true,Bool.not_false,true_and,and_true,false_and,and_false,true_or,or_true,false_or,or_false,Bool.false_eq_true,decide_true,decide_false,e1,e2]
  ·exact Ev.ret (.inr ⟨by simp,rfl,z,_,sx,rfl,hj,out (.inr hk)⟩)
 ·rintro e vs H1 ⟨rfl,z,d,sx,rfl,hj,E⟩;simp -implicitDefEqProofs only[Jl,wL,sS,Nat.reduceAdd];exact Ev.ret (oP.of hj E)
theorem JX.acm (h:JX K p st H)(z:Int): ∃H',bD 1 (.pointer (some ⟨p,8,none⟩)) (cv z) H=some (undef,H')∧JX K p {st with oL:=z} H':=by
 obtain⟨hK,o,⟨tape,w,T,W,i,nk,na,nx,ny,ty,g,ho,ht,hT,hw,hr⟩,hk⟩:=h;have S:=gR p 8 z H g rfl (by simp)
 simp only[List.set_cons_succ,List.set_cons_zero] at S;have f2:Fr H o (H.put p ⟨[tape,cv i,.bool st.off,cv nk,cv na,cv nx,cv ny,w,cv z,cv st.laid],ty,1,false⟩) o [(p:Int)]:=(Fr.refl H o _).put λ_=>by simp[ho]
 exact⟨_,S,hK,o,⟨tape,w,T,W,i,nk,na,nx,ny,ty,aG g,ho,ht.fr f2 (by simp),hT,hw.fr f2 (by simp),hr⟩,hK _ _ _ _ hk f2⟩
theorem JX.acn (h:JX K p st H)(z:Int): ∃H',bD 1 (.pointer (some ⟨p,9,none⟩)) (cv z) H=some (undef,H')∧JX K p {st with laid:=z} H':=by
 obtain⟨hK,o,⟨tape,w,T,W,i,nk,na,nx,ny,ty,g,ho,ht,hT,hw,hr⟩,hk⟩:=h;have S:=gR p 9 z H g rfl (by simp)
 simp only[List.set_cons_succ,List.set_cons_zero] at S;have f2:Fr H o (H.put p ⟨[tape,cv i,.bool st.off,cv nk,cv na,cv nx,cv ny,w,cv st.oL,cv z],ty,1,false⟩) o [(p:Int)]:=(Fr.refl H o _).put λ_=>by simp[ho]
 exact⟨_,S,hK,o,⟨tape,w,T,W,i,nk,na,nx,ny,ty,aG g,ho,ht.fr f2 (by simp),hT,hw.fr f2 (by simp),hr⟩,hK _ _ _ _ hk f2⟩
theorem JX.aco (h:JX K p st H):aq (.pointer (some ⟨p,8,none⟩)) H=some (cv st.oL):=by
 obtain⟨hK,o,⟨tape,w,T,W,i,nk,na,nx,ny,ty,g,_⟩,_⟩:=h;exact ao p 8 H g
section
variable {k:Nat→Value→aa→Option β} {Q:β→Prop}
theorem Ev.Tu {z:Int}(h:JX K p st H)(hk: ∀H',JX K p {st with oL:=z} H'→Ev (λn=>k n undef H') Q):Ev (λn=>af (bD 1 (.pointer (some ⟨p,8,none⟩)) (cv z) H) (k n)) Q:=by
 obtain⟨H',e,hj⟩:=h.acm z;rw[e];exact hk H' hj
theorem Ev.ZQ {z:Int}(h:JX K p st H)(hk: ∀H',JX K p {st with laid:=z} H'→Ev (λn=>k n undef H') Q):Ev (λn=>af (bD 1 (.pointer (some ⟨p,9,none⟩)) (cv z) H) (k n)) Q:=by
 obtain⟨H',e,hj⟩:=h.acn z;rw[e];exact hk H' hj
theorem Ev.Tv (h:JX K p st H)(hk:Ev (λn=>k n (cv st.oL) H) Q):Ev (λn=>af (pS (aq (.pointer (some ⟨p,8,none⟩)) H) H) (k n)) Q:=by
 rw[h.aco];exact hk
end
theorem Cy (h:JX K p st H)(a b c d:Int):aE (run G) 116 [pv p,cv a,cv b,cv c,cv d] H (oP K p st (Y.sg a b c d)):=by
 refine Ev.up (t:=λn=>Wo (run G n) n (pv p) (cv a) (cv b) (cv c) (cv d) H) ?_ λn=>Rc ..
 simp -implicitDefEqProofs only[Wo,Kq,xZ,sS,Nat.reduceAdd];repeat' (first| (refine Ev.ret (oP.of ‹_› ?_);(try simp only[cI] at *);simp only[Y.sg,Y.ak,bk,bH,bL,cR,cS,ne_eq,not_true_eq_false,not_false_eq_true,if_true,if_false,Bool.not_true,Bool.not_false,true_and,and_true,false_and,and_false,true_or,or_true,false_or,or_false,Bool.false_eq_true,decide_true,decide_false, *];done)| ((with_reducible first|refine Ev.eql (λhq=>?_) (λhq=>?_)|refine Ev.neq (λhq=>?_) (λhq=>?_)|refine Ev.is (nY _ _) ?_ |refine Ev.eS (cX ‹_› _) λz s1 Hz ez hj=>?_ |refine Ev.Oh (D8 ‹_› _ _ _) λz s1 Hz ez hj=>?_ |refine Ev.si (nu ‹_›) λz s1 Hz ez hj=>?_ |refine Ev.RP (D9 ‹_› _ _ _ _) λw Hz hj=>?_ |refine Ev.Tu ‹_› λHz hj=>?_ |refine Ev.brN (λhq=>?_) (λhq=>?_))<;>try simp -implicitDefEqProofs only[sS,Nat.reduceAdd]))
end
end Go.Proofs.YtgfgglponbmgmaaGreat.Fun
end
