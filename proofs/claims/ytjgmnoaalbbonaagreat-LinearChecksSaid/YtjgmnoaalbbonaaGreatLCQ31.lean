/- Texts of the proof of linearChecks_holds, put together by a small program of ours (names shortened, spaces taken out). No condition beyond the given statement. -/
import Derived.Test.YtjgmnoaalbbonaaGreatLCQ16
import Derived.Test.YtjgmnoaalbbonaaGreatLCQ17
import Derived.Test.YtjgmnoaalbbonaaGreatLCQ20
import Derived.Test.YtjgmnoaalbbonaaGreatLCQ21
import Derived.Test.YtjgmnoaalbbonaaGreatLCQ14
import Derived.Test.YtjgmnoaalbbonaaGreatLCQ15
import Derived.Test.YtjgmnoaalbbonaaGreatLCQ18
import Derived.Test.YtjgmnoaalbbonaaGreatLCQ19
import Derived.Test.YtjgmnoaalbbonaaGreatLCQ22
set_option linter.unusedVariables false
set_option linter.unusedSimpArgs false
set_option linter.unnecessarySimpa false
noncomputable section
section
namespace Go.Proofs.YtjgmnoaalbbonaaGreat.Fun
open Go Go.RowKit Go.Proofs.YtjgmnoaalbbonaaGreatA.Am
set_option maxRecDepth 10000
section
variable {G:ag} {H H':ae} {o o':an} {p m:Nat} {K:ae→an→Prop}
def cW (ps:List Int)(K:ae→an→Prop):Prop:=∀H o H' o',K H o→Fr H o H' o' ps→K H' o'
theorem cW.of {ps qs:List Int}(h:cW qs K)(k: ∀i∈ps,i∈qs):cW ps K:=λH o H' o' a f=>h H o H' o' a (f.wk k)
theorem cW.and {ps:List Int}{L:ae→an→Prop}(h:cW ps K)(k:cW ps L):cW ps λH o=>K H o∧L H o:=λH o H' o' a f=>⟨h H o H' o' a.1 f,k H o H' o' a.2 f⟩
theorem cW.base {ps qs:List Int}{B:ae}{b:an}(k: ∀i∈ps,i∈qs):cW ps λH o=>Fr B b H o qs:=λH o H' o' a f=>a.trans f (λ_ h=>h) k
theorem cW.ints {ps:List Int}{q:Int}{x:Value}{l:List Int}(h:q ∉ ps):cW ps λH o=>gj H o q x l:=λH o H' o' a f=>a.fr f h
theorem cW.lZ {ps:List Int}{q:Int}{x:Value}{l:PL}(h:q ∉ ps):cW ps λH o=>ee H o q x l:=λH o H' o' a f=>a.fr f h
theorem cW.true {ps:List Int}:cW ps λ_ _=>True:=λ_ _ _ _ _ _=>trivial
def Ca (H:ae)(o:an)(p m:Nat):Prop:=
 ∃(tape w:Value) (T W:List Int) (i:Nat) (nk na nx ny rec laid:Int) (ty:TypeId),
  H.get p=some ⟨[tape,cv i,.bool (decide (m=0)),cv nk,cv na,cv nx,cv ny,w,cv rec,cv laid],ty,1,false⟩∧o p=p∧
  gj H o (-50) tape T∧T.length≤1048576∧gj H o (-51) w W∧(m≠0→i≤T.length∧m=T.length-i+1)
theorem Ca.fr {ps:List Int}(h:Ca H o p m)(f:Fr H o H' o' ps)(h1:(p:Int) ∉ ps)(h2:(-50:Int) ∉ ps)(h3:(-51:Int) ∉ ps):Ca H' o' p m:=by
 obtain⟨tape,w,T,W,i,nk,na,nx,ny,rec,laid,ty,g,ho,ht,hT,hw,hi⟩:=h;exact⟨tape,w,T,W,i,nk,na,nx,ny,rec,laid,ty,by rw[f.same p (aq g) (by rw[ho];exact h1)];exact g,by rw[f.own p (aq g)];exact ho,ht.fr f h2,hT,hw.fr f h3,hi⟩
def J (K:ae→an→Prop)(p m:Nat)(H:ae):Prop:=cW [(p:Int)] K∧∃o,Ca H o p m∧K H o
def JW (K:ae→an→Prop)(p m:Nat)(H:ae)(w:Value):Prop:=cW [(p:Int)] K∧∃o,Ca H o p m∧K H o∧∃l,gj H o (-51) w l
theorem J.mono {L:ae→an→Prop}(h:J K p m H)(hL:cW [(p:Int)] L)(k: ∀o,K H o→L H o):J L p m H:=by
 obtain⟨hK,o,h1,h2⟩:=h;exact⟨hL,o,h1,k o h2⟩
theorem J.TB (h:J K p m H):JW K p m H (.slice none 0 0):=by
 obtain⟨hK,o,h1,h2⟩:=h;exact⟨hK,o,h1,h2,[],.nil⟩
theorem J.off (h:J K p m H):au (.pointer (some ⟨p,2,none⟩)) H=some (.bool (decide (m=0))):=by
 obtain⟨hK,o,⟨tape,w,T,W,i,nk,na,nx,ny,rec,laid,ty,g,_⟩,_⟩:=h;exact ak p 2 H g
theorem TC:aC (pv p) H=some (pv p,H):=rfl
abbrev wO (k a x y:Int)(w:Value):Value:=.agg #[cv k,cv a,cv x,cv y,w]
theorem TD (k a x y:Int){b:Option Addr}{n c:Nat}(H:ae):cB 180 (wO k a x y (.slice b n c)) H=some (pv H.length,H.new ⟨[cv k,cv a,cv x,cv y,.slice b n c],180,1,false⟩):=by
 simp[cB,Value.cells,aD,aO]
theorem IC {k a x y:Int}{w:Value}(h:JW K p m H w):
  bN (run G) 163 [pv p,wO k a x y w] H λv H'=>∃z,v=cv z∧J K p (m-1) H':=by
 obtain⟨hK,o,⟨tape,w0,T,W,i,nk,na,nx,ny,rec,laid,ty,g,ho,ht,hT,hw0,hi⟩,hk,l,hw⟩:=h;obtain⟨wb,wc,ew⟩:=hw.1.isSlice;obtain⟨tb,tc,et⟩:=ht.1.isSlice;obtain⟨H1,e1⟩: ∃z,z=H.new ⟨[cv k,cv a,cv x,cv y,w],180,1,false⟩:=⟨_,rfl⟩;have bx:=TD k a x y (b:=wb) (n:=l.length) (c:=wc) H;rw[←ew, ←e1] at bx;have hp:=aq g;obtain⟨o1,Qk⟩: ∃z,z=o.up H.length (-9):=⟨_,rfl⟩;have f1:Fr H o H1 o1 []:=by rw[e1,Qk];exact(Fr.refl H o []).new _ _
 have g1:H1.get p=some ⟨[tape,cv i,.bool (decide (m=0)),cv nk,cv na,cv nx,cv ny,w0,cv rec,cv laid],ty,1,false⟩:=by rw[e1,cr hp];exact g
 have gb:H1.get H.length=some ⟨[cv k,cv a,cv x,cv y,w],180,1,false⟩:=by rw[e1];exact az
 have UU:o1 p=p:=by rw[f1.own p hp];exact ho
 have L2:=ak p 2 H1 g1;have L1:=ak p 1 H1 g1;have L0:=ak p 0 H1 g1;simp only[List.getElem?_cons_succ,List.getElem?_cons_zero] at L2 L1 L0;have tl:=ht.1.len;by_cases m0:m=0
 ·subst m0;refine bN.is (v:=cv 0) (H':=H1) (λn=>?_) ⟨0,rfl,hK,o1,⟨tape,w0,T,W,i,nk,na,nx,ny,rec,laid,ty,g1,UU,ht.fr f1 (by simp),hT,hw0.fr f1 (by simp),by simp⟩,hK _ _ _ _ hk (f1.wk (by simp))⟩
  rw[Gb];simp -implicitDefEqProofs [WD,bx,TC,ax,L2]
 ·obtain⟨Nz,hm⟩:=hi m0;have dm:decide (m=0)=false:=by simp[m0]
  rw[dm] at L2;by_cases dH:i<T.length
  ·have Gl:(i:Int)<T.length:=by omega
   obtain⟨H2,e2⟩: ∃z,z=H1.put p ⟨[tape,cv (i+1:Nat),.bool (decide (m=0)),cv nk,cv na,cv nx,cv ny,w0,cv rec,cv laid],ty,1,false⟩:=⟨_,rfl⟩;have GH:IntKind.i64.wrap ((i:Int)+1)=((i+1:Nat):Int):=by rw[jE (by omega)];omega
   have uH:IntKind.i64.wrap (((i+1:Nat):Int)-1)=(i:Int):=by rw[jE (by omega)];omega
   have S1:=kF p 1 ((i+1:Nat):Int) H1 g1 rfl (by simp)
   simp only[List.set_cons_succ,List.set_cons_zero] at S1;rw[←e2] at S1;have g2:H2.get p=some ⟨[tape,cv (i+1:Nat),.bool (decide (m=0)),cv nk,cv na,cv nx,cv ny,w0,cv rec,cv laid],ty,1,false⟩:=by rw[e2];exact aH g1
   have f2:Fr H o H2 o1 [(p:Int)]:=by rw[e2];exact(f1.wk (by simp)).put λ_=>by simp[ho]
   have TE:=ht.fr f2 (by simp)
   obtain⟨q,off,b,fq,hb,hbc⟩:=TE.1.idx dH;have L1':=ak p 1 H2 g2;have L0':=ak p 0 H2 g2;simp only[List.getElem?_cons_succ,List.getElem?_cons_zero] at L1' L0';have LT:=ak q off H2 hb;rw[hbc] at LT;refine bN.is (v:=cv (T.getD i 0)) (H':=H2) (λn=>?_) ⟨_,rfl,hK,o1,⟨tape,w0,T,W,i+1,nk,na,nx,ny,rec,laid,ty,by rw[g2];congr 3;simp;omega,UU,TE,hT,hw0.fr f2 (by simp),λ_=>by omega⟩,hK _ _ _ _ hk f2⟩
   rw[Gb];simp -implicitDefEqProofs [-Int.natCast_add,WD,bx,TC,ax,L2,L1,L0,tl,aE,Gl,de,ki,GH,uH,S1,L1',L0',fq,LT]
  ·have Gl: ¬(i:Int)<T.length:=by omega
   obtain⟨H2,e2⟩: ∃z,z=H1.put p ⟨[tape,cv i,.bool true,cv nk,cv na,cv nx,cv ny,w0,cv rec,cv laid],ty,1,false⟩:=⟨_,rfl⟩;have S1:=jA p 2 (.bool true) H1 g1 rfl (by simp) rfl rfl rfl
   simp only[List.set_cons_succ,List.set_cons_zero] at S1;rw[←e2] at S1;have g2:H2.get p=some ⟨[tape,cv i,.bool true,cv nk,cv na,cv nx,cv ny,w0,cv rec,cv laid],ty,1,false⟩:=by rw[e2];exact aH g1
   have gb2:H2.get H.length=some ⟨[cv k,cv a,cv x,cv y,w],180,1,false⟩:=by rw[e2,bt (by omega)];exact gb
   have LB:bV 5 (pv H.length) H2=some (wO k a x y w):=by simp[bV,aA,gb2]
   obtain⟨H3,e3⟩: ∃z,z=H2.put p ⟨[tape,cv i,.bool true,cv k,cv a,cv x,cv y,w,cv rec,cv laid],ty,1,false⟩:=⟨_,rfl⟩;have S2:bS 5 (.pointer (some ⟨p,3,none⟩)) (wO k a x y w) H2=some (undef,H3):=by
    subst ew;simp[bS,bG,g2,Value.cells,known,aD,bO,e3]
   have g3:H3.get p=some ⟨[tape,cv i,.bool true,cv k,cv a,cv x,cv y,w,cv rec,cv laid],ty,1,false⟩:=by rw[e3];exact aH g2
   have f3:Fr H o H3 o1 [(p:Int)]:=by rw[e3,e2];exact((f1.wk (by simp)).put λ_=>by simp[ho]).put λ_=>by simp[ho]
   refine bN.is (v:=cv 0) (H':=H3) (λn=>?_) ⟨_,rfl,hK,o1,⟨tape,w,T,l,i,k,a,x,y,rec,laid,ty,by rw[g3];congr 3;simp;omega,UU,ht.fr f3 (by simp),hT,hw.fr f3 (by simp),λ_=>by omega⟩,hK _ _ _ _ hk f3⟩
   rw[Gb];simp -implicitDefEqProofs [WD,bx,TC,ax,L2,L1,L0,tl,aE,Gl,S1,LB,S2]
theorem acV (a:Int):aI Tryz.prog 180 [(0,cv 1),(1,cv a)]=some (wO 1 a 0 0 (.slice none 0 0)):=by kernel_rfl
theorem acW (a x:Int):aI Tryz.prog 180 [(0,cv 2),(1,cv a),(2,cv x)]=some (wO 2 a x 0 (.slice none 0 0)):=by kernel_rfl
theorem acX (a x y:Int):aI Tryz.prog 180 [(0,cv 3),(1,cv a),(2,cv x),(3,cv y)]=some (wO 3 a x y (.slice none 0 0)):=by kernel_rfl
theorem acY (a x:Int):aI Tryz.prog 180 [(0,cv 4),(1,cv a),(2,cv x)]=some (wO 4 a x 0 (.slice none 0 0)):=by kernel_rfl
theorem acZ (b:Option Addr)(n c:Nat):aI Tryz.prog 180 [(0,cv 5),(4,.slice b n c)]=some (wO 5 0 0 0 (.slice b n c)):=by kernel_rfl
abbrev Cb (H:ae):Value→ae→Prop:=λv H'=>(∃z,v=cv z)∧H'=H
abbrev afd (H:ae):Value→ae→Prop:=λv H'=>(∃z,v= .bool z)∧H'=H
abbrev Un (K:ae→an→Prop)(p c:Nat):Value→ae→Prop:=λv H'=>∃m',J K p m' H'∧m'≤c
abbrev UF (K:ae→an→Prop)(p c:Nat):Value→ae→Prop:=λv H'=>∃z,v=cv z∧∃m',J K p m' H'∧m'≤c
abbrev Xt (K:ae→an→Prop)(p c:Nat):Value→ae→Prop:=λv H'=>∃z,v= .bool z∧∃m',J K p m' H'∧m'≤c
abbrev ID (K:ae→an→Prop)(p c:Nat):Value→ae→Prop:=λv H'=>∃z b,v= .tuple #[cv z,.bool b]∧∃m',J K p m' H'∧m'≤c
abbrev Xu (K:ae→an→Prop)(p c:Nat):Value→ae→Prop:=λv H'=>∃z b,v= .tuple #[cv z,cv b]∧∃m',J K p m' H'∧m'≤c
section
variable {α:Type} {k:Nat→Value→ae→Option α} {Q:α→Prop} {t:TypeId} {a b:Int} {P:Program} {c:Nat} {C:Nat→ag} {f:Nat} {args:List Value}
theorem Ev.lss (h1:a<b→Ev (λn=>k n (.bool true) H) Q)(h2: ¬a<b→Ev (λn=>k n (.bool false) H) Q):Ev (λn=>af (pS (aj P .lss t (cv a) (cv b)) H) (k n)) Q:=by
 rw[aE];by_cases h:a<b
 ·simpa[h] using h1 h
 ·simpa[h] using h2 h
theorem Ev.gtr (h1:a>b→Ev (λn=>k n (.bool true) H) Q)(h2: ¬a>b→Ev (λn=>k n (.bool false) H) Q):Ev (λn=>af (pS (aj P .gtr t (cv a) (cv b)) H) (k n)) Q:=by
 rw[eS];by_cases h:a>b
 ·have h':b<a:=h;simpa[h'] using h1 h
 ·have h': ¬b<a:=h;simpa[h'] using h2 h
theorem Ev.leq (h1:a≤b→Ev (λn=>k n (.bool true) H) Q)(h2: ¬a≤b→Ev (λn=>k n (.bool false) H) Q):Ev (λn=>af (pS (aj P .leq t (cv a) (cv b)) H) (k n)) Q:=by
 rw[hP];by_cases h:a≤b
 ·simpa[h] using h1 h
 ·simpa[h] using h2 h
theorem Ev.geq (h1:a≥b→Ev (λn=>k n (.bool true) H) Q)(h2: ¬a≥b→Ev (λn=>k n (.bool false) H) Q):Ev (λn=>af (pS (aj P .geq t (cv a) (cv b)) H) (k n)) Q:=by
 rw[fp];by_cases h:a≥b
 ·have h':b≤a:=h;simpa[h'] using h1 h
 ·have h': ¬b≤a:=h;simpa[h'] using h2 h
theorem Ev.eql (h1:a=b→Ev (λn=>k n (.bool true) H) Q)(h2: ¬a=b→Ev (λn=>k n (.bool false) H) Q):Ev (λn=>af (pS (aj P .eql t (cv a) (cv b)) H) (k n)) Q:=by
 rw[aF];by_cases h:a=b
 ·have e:decide (a=b)=true:=by simpa using h
  rw[e];exact h1 h
 ·have e:decide (a=b)=false:=by simpa using h
  rw[e];exact h2 h
theorem Ev.neq (h1: ¬a=b→Ev (λn=>k n (.bool true) H) Q)(h2:a=b→Ev (λn=>k n (.bool false) H) Q):Ev (λn=>af (pS (aj P .neq t (cv a) (cv b)) H) (k n)) Q:=by
 rw[eu];by_cases h:a=b
 ·have e:decide (a=b)=true:=by simpa using h
  rw[e];exact h2 h
 ·have e:decide (a=b)=false:=by simpa using h
  rw[e];exact h1 h
theorem Ev.boo {x:Option Value}{d:Bool}(hx:x=some (.bool d))(h1:d=true→Ev (λn=>k n (.bool true) H) Q)(h2:d=false→Ev (λn=>k n (.bool false) H) Q):Ev (λn=>af (pS x H) (k n)) Q:=by
 subst hx;cases d with
 |true=>exact h1 rfl
 |false=>exact h2 rfl
theorem Ev.off (h:J K p m H)(h1:m=0→Ev (λn=>k n (.bool true) H) Q)(h2:m≠0→Ev (λn=>k n (.bool false) H) Q):Ev (λn=>af (pS (au (.pointer (some ⟨p,2,none⟩)) H) H) (k n)) Q:=
 Ev.boo h.off (λe=>h1 (by simpa using e)) (λe=>h2 (by simpa using e))
theorem Ev.wd (h:bN C f args H λw H'=>JW K p m H' w)(hk: ∀w H',JW K p m H' w→Ev (λn=>k n w H') Q):Ev (λn=>af (C n f args H) (k n)) Q:=Ev.call h hk
theorem Ev.aG (h:bN C f args H (Cb H))(hk: ∀z,Ev (λn=>k n (cv z) H) Q):Ev (λn=>af (C n f args H) (k n)) Q:=
 Ev.call h λv H' hq=>by obtain⟨⟨z,rfl⟩,rfl⟩:=hq;exact hk z
theorem Ev.num (h:bN C f args H (UF K p c))(hk: ∀z H' m',J K p m' H'→m'≤c→Ev (λn=>k n (cv z) H') Q):Ev (λn=>af (C n f args H) (k n)) Q:=
 Ev.call h λv H' hq=>by obtain⟨z,rfl,m',h1,h2⟩:=hq;exact hk z H' m' h1 h2
theorem Ev.bool (h:bN C f args H (Xt K p c))(hk: ∀z H' m',J K p m' H'→m'≤c→Ev (λn=>k n (.bool z) H') Q):Ev (λn=>af (C n f args H) (k n)) Q:=
 Ev.call h λv H' hq=>by obtain⟨z,rfl,m',h1,h2⟩:=hq;exact hk z H' m' h1 h2
theorem Ev.un (h:bN C f args H (Un K p c))(hk: ∀v H' m',J K p m' H'→m'≤c→Ev (λn=>k n v H') Q):Ev (λn=>af (C n f args H) (k n)) Q:=
 Ev.call h λv H' hq=>by obtain⟨m',h1,h2⟩:=hq;exact hk v H' m' h1 h2
theorem Ev.dB (h:bN C f args H (ID K p c))(hk: ∀z b H' m',J K p m' H'→m'≤c→Ev (λn=>k n (.tuple #[cv z,.bool b]) H') Q):Ev (λn=>af (C n f args H) (k n)) Q:=
 Ev.call h λv H' hq=>by obtain⟨z,b,rfl,m',h1,h2⟩:=hq;exact hk z b H' m' h1 h2
theorem Ev.kc (h:bN C f args H (Xu K p c))(hk: ∀z b H' m',J K p m' H'→m'≤c→Ev (λn=>k n (.tuple #[cv z,cv b]) H') Q):Ev (λn=>af (C n f args H) (k n)) Q:=
 Ev.call h λv H' hq=>by obtain⟨z,b,rfl,m',h1,h2⟩:=hq;exact hk z b H' m' h1 h2
end
theorem Ev.D9 {α:Type}{step:Nat→List Value→ae→bl}{kk:Nat→cg→List Value→ae→Option α}{Q:α→Prop}(I:List Value→Prop)(R:cg→List Value→Prop){m:Nat}{vs:List Value}(hj:J K p m H)(hi:I vs)(h: ∀m1 vs H1,J K p m1 H1→m1≤m→I vs→Ev (λn=>step n vs H1) λr=>(r.1= .normal∧(∃m2,J K p m2 r.2.2∧m2<m1)∧I r.2.1)∨(r.1≠ .normal∧(∃m2,J K p m2 r.2.2∧m2≤m1)∧R r.1 r.2.1))(hk: ∀e vs m1 H1,J K p m1 H1→m1≤m→R e vs→Ev (λn=>kk n e vs H1) Q):Ev (λn=>cI (iter n (step n) vs H) (kk n)) Q:=by
 refine Ev.loop (k:=m) (λk vs H1=>J K p k H1∧k≤m∧I vs) (λr=>(∃m2,J K p m2 r.2.2∧m2≤m)∧R r.1 r.2.1) ⟨hj,Nat.le_refl _,hi⟩ ?_ ?_
 ·rintro k vs H1 ⟨h1,h2,h3⟩;refine Ev.mono (h k vs H1 h1 h2 h3) ?_;rintro⟨e,ju,H2⟩ (⟨g1,⟨m2,g2,g3⟩,g4⟩|⟨g1,⟨m2,g2,g3⟩,g4⟩)
  ·exact .inl ⟨g1,m2,g3,g2,by omega,g4⟩
  ·exact .inr ⟨g1,⟨m2,g2,by omega⟩,g4⟩
 ·rintro e vs H1 ⟨⟨m2,g2,g3⟩,g4⟩;exact hk e vs m2 H1 g2 g3 g4
theorem ahj (t:TypeId)(a:Int):aj Tryz.prog .rem t (cv a) (cv 8)=some (cv (a.tmod 8)):=EV _ a 8 (by decide)
theorem ahk (t:TypeId)(a:Int):aj Tryz.prog .quo t (cv a) (cv 8)=some (cv (IntKind.i64.wrap (a.tdiv 8))):=kZ _ a 8 (by decide)
theorem ahl (t:TypeId)(a:Int):aj Tryz.prog .quo t (cv a) (cv 4)=some (cv (IntKind.i64.wrap (a.tdiv 4))):=kZ _ a 4 (by decide)
theorem cQ (h:J K p m H)(a:Int):bN (run G) 146 [pv p,cv a] H (UF K p (m-1)):=by
 refine Ev.up (t:=λn=>ab2 (run G n) n (pv p) (cv a) H) ?_ λn=>Wz ..
 simp -implicitDefEqProofs only[ab2,acV,nu,dZ];refine Ev.call (IC h.TB) ?_;rintro v H' ⟨z,rfl,hj⟩;exact Ev.ret ⟨_,rfl,_,hj,Nat.le_refl _⟩
theorem cO (h:J K p m H)(a x:Int):bN (run G) 153 [pv p,cv a,cv x] H (Un K p (m-1)):=by
 refine Ev.up (t:=λn=>abL (run G n) n (pv p) (cv a) (cv x) H) ?_ λn=>Wr ..
 simp -implicitDefEqProofs only[abL,acW,nu,dZ];refine Ev.call (IC h.TB) ?_;rintro v H' ⟨z,rfl,hj⟩;exact Ev.ret ⟨_,hj,Nat.le_refl _⟩
theorem fw (h:J K p m H)(a x:Int):bN (run G) 158 [pv p,cv a,cv x] H (UF K p (m-1)):=by
 refine Ev.up (t:=λn=>aap (run G n) n (pv p) (cv a) (cv x) H) ?_ λn=>VE ..
 simp -implicitDefEqProofs only[aap,acY,nu,dZ];refine Ev.call (IC h.TB) ?_;rintro v H' ⟨z,rfl,hj⟩;exact Ev.ret ⟨_,rfl,_,hj,Nat.le_refl _⟩
theorem fx (h:J K p m H)(a x y:Int):bN (run G) 147 [pv p,cv a,cv x,cv y] H (Xt K p (m-1)):=by
 refine Ev.up (t:=λn=>abJ (run G n) n (pv p) (cv a) (cv x) (cv y) H) ?_ λn=>Wq ..
 simp -implicitDefEqProofs only[abJ,acX,nu,dZ];refine Ev.call (IC h.TB) ?_;rintro v H' ⟨z,rfl,hj⟩;simp -implicitDefEqProofs only[aF,nu,dZ];exact Ev.ret ⟨_,rfl,_,hj,Nat.le_refl _⟩
theorem dj {w:Value}(h:JW K p m H w):bN (run G) 148 [pv p,w] H (ID K p (m-1)):=by
 refine Ev.up (t:=λn=>aaF (run G n) n (pv p) w H) ?_ λn=>VP ..
 obtain⟨b,n,c,ew⟩: ∃b n c,w= .slice b n c:=by
  obtain⟨_,o,_,_,l,hw⟩:=h;obtain⟨b,c,e⟩:=hw.1.isSlice;exact⟨b,_,c,e⟩
 subst ew;simp -implicitDefEqProofs only[aaF,acZ,nu,dZ];refine Ev.call (IC h) ?_;rintro v H' ⟨z,rfl,hj⟩;simp -implicitDefEqProofs only[eS,nu,dZ];exact Ev.ret ⟨_,_,rfl,_,hj,Nat.le_refl _⟩
end
theorem sS:(∀(α:Type) (v:Value) (H:ae) (k:Value→ae→Option α),af (some (v,H)) k=k v H)∧(∀(v:Value) (H:ae),pS (some v) H=some (v,H))∧
  (∀(x:Option (Value×ae)) (H:ae),gd (some true) x H=x)∧(∀(x:Option (Value×ae)) (H:ae),gd (some false) x H=some (undef,H))∧
  (∀b w:Bool,ai (.bool b) w=some (b==w))∧(∀w:Bool,ai undef w=some false)∧
  (∀(α:Type) (x y:Option α),aY (.bool true) x y=x)∧(∀(α:Type) (x y:Option α),aY (.bool false) x y=y)∧
  (∀(b:Bool) (x y:Value) (H:ae),aL (.bool b) x y H=some (if b then x else y,H))∧(∀b:Bool,hO .not (.bool b)=some (.bool !b))∧
  (∀(u u1 u2:Value) (H H1 H2:ae),jF (some true) (some true) (some (u,H)) (some (u1,H1)) (some (u2,H2))=(jd u u1&&jd u u2))∧
  (∀(w:Bool) (u u1 u2:Option (Value×ae)),jF (some false) (some w) u u1 u2=true)∧(∀(w:Bool) (u u1 u2:Option (Value×ae)),jF (some w) (some false) u u1 u2=true)∧(∀(k:IntKind) (a:Int),jd (.int k a) (.int k a)=true)∧
  (∀(t:TypeId) (a b:Int),aj Tryz.prog .add t (cv a) (cv b)=some (cv (IntKind.i64.wrap (a+b))))∧(∀(t:TypeId) (a b:Int),aj Tryz.prog .sub t (cv a) (cv b)=some (cv (IntKind.i64.wrap (a-b))))∧(∀(t:TypeId) (a b:Int),aj Tryz.prog .mul t (cv a) (cv b)=some (cv (IntKind.i64.wrap (a*b))))∧
  (∀(t:TypeId) (a:Int),aj Tryz.prog .rem t (cv a) (cv 8)=some (cv (a.tmod 8)))∧(∀(t:TypeId) (a:Int),aj Tryz.prog .quo t (cv a) (cv 8)=some (cv (IntKind.i64.wrap (a.tdiv 8))))∧(∀(t:TypeId) (a:Int),aj Tryz.prog .quo t (cv a) (cv 4)=some (cv (IntKind.i64.wrap (a.tdiv 4))))∧
  (∀(off p o:Nat) (H:ae),al off (.pointer (some ⟨p,o,none⟩)) H=some (.pointer (some ⟨p,o+off,none⟩),H))∧(∀(p:Nat) (H:ae),aC (pv p) H=some (pv p,H))∧
  (∀(vs:Array Value) (i:Nat) (H:ae),bQ i (.tuple vs) H=(vs[i]?).map (·,H))∧(∀(α:Type) (n:Nat) (H:ae) (k:Nat→ae→Option α),iZ n H k=k H.length (H.dy n))∧
  (∀(α:Type) (kb:List Value→ae→Option α) (k:cg→List Value→ae→Option α) (vs:List Value) (H:ae),dv kb k .normal vs H=kb vs H)∧
  (∀(α:Type) (kb:List Value→ae→Option α) (k:cg→List Value→ae→Option α) (i:Nat) (vs:List Value) (H:ae),dv kb k (.exit i) vs H=k (.exit i) vs H)∧
  (∀(α:Type) (kb:List Value→ae→Option α) (k:cg→List Value→ae→Option α) (vs:List Value) (H:ae),dv kb k .ret vs H=k .ret vs H)∧
  (∀(α:Type) (id:Nat) (k:cg→List Value→ae→Option α) (vs:List Value) (H:ae),dr id k .normal vs H=k .normal vs H)∧(∀(α:Type) (id:Nat) (k:cg→List Value→ae→Option α) (vs:List Value) (H:ae),dr id k .ret vs H=k .ret vs H)∧
  (∀(α:Type) (id i:Nat) (k:cg→List Value→ae→Option α) (vs:List Value) (H:ae),dr id k (.exit i) vs H=if i=id then k .normal vs H else k (.exit i) vs H)∧
  (∀(e:cg) (vs:List Value) (H:ae),fin e vs H=some (e,vs,H))∧(∀(α:Type) (e:cg) (vs:List Value) (H:ae) (k:cg→List Value→ae→Option α),cI (some (e,vs,H)) k=k e vs H)∧
  (∀(P:Program) (rs:List ResultVar) (keep:List Nat) (e:cg) (vs:List Value) (H:ae),eE P rs keep e vs H=match e with| .normal| .ret=>qP P rs (keep.zip vs) H| .exit _=>none)∧
  (∀(α:Type) [BEq α] [ReflBEq α] (a:α),(a==a)=true)∧(∀(α:Type) (i:Decidable True) (t e:α),@ite α True i t e=t)∧(∀(α:Type) (i:Decidable False) (t e:α),@ite α False i t e=e)∧
  ((!true)=false)∧((!false)=true)∧(∀b:Bool,(b&&b)=b)∧(∀b:Bool,(true&&b)=b)∧(∀b:Bool,(b&&true)=b)∧((false=true)=False)∧((true=false)=False)∧((true==false)=false)∧((false==true)=false)∧
  (∀(α β:Type) (a:α) (f:α→β),Option.map f (some a)=some (f a))∧(∀(α:Type) (xs:List α) (i:Nat),xs.toArray[i]? =xs[i]?)∧(∀(α:Type) (a:α) (l:List α),(a::l)[0]? =some a)∧(∀(α:Type) (a:α) (i:Nat) (l:List α),(a::l)[i+1]? =l[i]?)∧(∀n:Nat,0+n=n):=by
 refine⟨λ_ _ _ _=>rfl,λ_ _=>rfl,λ_ _=>rfl,λ_ _=>rfl,λ_ _=>rfl,λ_=>rfl,λ_ _ _=>rfl,λ_ _ _=>rfl,λ_ _ _ _=>rfl,λ_=>rfl,λ_ _ _ _ _ _=>rfl,λw _ _ _=>by cases w<;>rfl,λw _ _ _=>by cases w<;>rfl,LJ,λ_ _ _=>rfl,λ_ _ _=>rfl,λ_ _ _=>rfl,ahj,ahk,ahl,λ_ _ _ _=>rfl,λ_ _=>rfl,λ_ _ _=>rfl,λ_ _ _ _=>rfl,λ_ _ _ _ _=>rfl,λ_ _ _ _ _ _=>rfl,λ_ _ _ _ _=>rfl,λ_ _ _ _ _=>rfl,λ_ _ _ _ _=>rfl,λ_ _ _ _ _ _=>rfl,λ_ _ _=>rfl,λ_ _ _ _ _=>rfl,λ_ _ _ e _ _=>by cases e<;>rfl,λ_ _ _ a=>beq_self_eq_true a,λ_ i _ _=>@if_true _ i _ _,λ_ i _ _=>@if_false _ i _ _,rfl,rfl,λb=>by cases b<;>rfl,λb=>by cases b<;>rfl,λb=>by cases b<;>rfl,by simp,by simp,rfl,rfl,λ_ _ _ _=>rfl,λ_ _ _=>by simp,λ_ _ _=>rfl,λ_ _ _ _=>by simp,λn=>Nat.zero_add n⟩
section
variable {G:ag} {H H':ae} {o o':an} {p m:Nat} {K:ae→an→Prop}
theorem MZ (a:Int):bN (run G) 112 [cv a] H (afd H):=by
 refine Ev.up (t:=λn=>SE (run G n) n (cv a) H) ?_ λn=>MA ..
 simp -implicitDefEqProofs only[SE,sS,Nat.reduceAdd];repeat' (first| (refine Ev.ret ?_;exact⟨⟨_,rfl⟩,rfl⟩)| ((with_reducible first|refine Ev.lss (λhq=>?_) (λhq=>?_)|refine Ev.gtr (λhq=>?_) (λhq=>?_)|refine Ev.leq (λhq=>?_) (λhq=>?_)|refine Ev.geq (λhq=>?_) (λhq=>?_)|refine Ev.eql (λhq=>?_) (λhq=>?_)|refine Ev.neq (λhq=>?_) (λhq=>?_)|refine Ev.off ‹_› (λhq=>?_) (λhq=>?_)|refine Ev.num (cQ ‹_› _) λz Hz mz hj hm=>?_ |refine Ev.num (fw ‹_› _ _) λz Hz mz hj hm=>?_ |refine Ev.bool (fx ‹_› _ _ _) λz Hz mz hj hm=>?_ |refine Ev.un (cO ‹_› _ _) λz Hz mz hj hm=>?_ |refine Ev.dB (dj ‹_›) λz zb Hz mz hj hm=>?_ |refine Ev.br (λhq=>?_) (λhq=>?_))<;>try simp -implicitDefEqProofs only[sS,Nat.reduceAdd]))
theorem dx (a:Int):bN (run G) 92 [cv a] H (Cb H):=by
 refine Ev.up (t:=λn=>F92 (run G n) n (cv a) H) ?_ λn=>SM ..
 simp -implicitDefEqProofs only[F92,sS,Nat.reduceAdd];refine Ev.call (MZ a) ?_;rintro v H' ⟨⟨b,rfl⟩,rfl⟩;cases b<;>simp -implicitDefEqProofs only[sS,Nat.reduceAdd]<;>exact Ev.ret ⟨⟨_,rfl⟩,rfl⟩
theorem iA (a:Int):bN (run G) 91 [cv a] H (Cb H):=by
 refine Ev.up (t:=λn=>F91 (run G n) n (cv a) H) ?_ λn=>RZ ..
 simp -implicitDefEqProofs only[F91,sS,Nat.reduceAdd];refine Ev.call (MZ a) ?_;rintro v H' ⟨⟨b,rfl⟩,rfl⟩;cases b<;>simp -implicitDefEqProofs only[sS,Nat.reduceAdd]<;>exact Ev.ret ⟨⟨_,rfl⟩,rfl⟩
theorem iJ (k a:Int):bN (run G) 63 [cv k,cv a] H (Cb H):=by
 refine Ev.up (t:=λn=>F63 (run G n) n (cv k) (cv a) H) ?_ λn=>Si ..
 simp -implicitDefEqProofs only[F63,sS,Nat.reduceAdd];repeat' (first| (refine Ev.ret ?_;exact⟨⟨_,rfl⟩,rfl⟩)| ((with_reducible first|refine Ev.lss (λhq=>?_) (λhq=>?_)|refine Ev.gtr (λhq=>?_) (λhq=>?_)|refine Ev.leq (λhq=>?_) (λhq=>?_)|refine Ev.geq (λhq=>?_) (λhq=>?_)|refine Ev.eql (λhq=>?_) (λhq=>?_)|refine Ev.neq (λhq=>?_) (λhq=>?_)|refine Ev.off ‹_› (λhq=>?_) (λhq=>?_)|refine Ev.aG (dx _) λz=>?_ |refine Ev.aG (iA _) λz=>?_ |refine Ev.aG (iJ _ _) λz=>?_ |refine Ev.num (cQ ‹_› _) λz Hz mz hj hm=>?_ |refine Ev.num (fw ‹_› _ _) λz Hz mz hj hm=>?_ |refine Ev.bool (fx ‹_› _ _ _) λz Hz mz hj hm=>?_ |refine Ev.un (cO ‹_› _ _) λz Hz mz hj hm=>?_ |refine Ev.dB (dj ‹_›) λz zb Hz mz hj hm=>?_ |refine Ev.br (λhq=>?_) (λhq=>?_))<;>try simp -implicitDefEqProofs only[sS,Nat.reduceAdd]))
theorem rp (a:Int):bN (run G) 113 [cv a] H (afd H):=by
 refine Ev.up (t:=λn=>aaC (run G n) n (cv a) H) ?_ λn=>VL ..
 simp -implicitDefEqProofs only[aaC,sS,Nat.reduceAdd];repeat' (first| (refine Ev.ret ?_;exact⟨⟨_,rfl⟩,rfl⟩)| ((with_reducible first|refine Ev.lss (λhq=>?_) (λhq=>?_)|refine Ev.gtr (λhq=>?_) (λhq=>?_)|refine Ev.leq (λhq=>?_) (λhq=>?_)|refine Ev.geq (λhq=>?_) (λhq=>?_)|refine Ev.eql (λhq=>?_) (λhq=>?_)|refine Ev.neq (λhq=>?_) (λhq=>?_)|refine Ev.off ‹_› (λhq=>?_) (λhq=>?_)|refine Ev.aG (dx _) λz=>?_ |refine Ev.aG (iA _) λz=>?_ |refine Ev.aG (iJ _ _) λz=>?_ |refine Ev.num (cQ ‹_› _) λz Hz mz hj hm=>?_ |refine Ev.num (fw ‹_› _ _) λz Hz mz hj hm=>?_ |refine Ev.bool (fx ‹_› _ _ _) λz Hz mz hj hm=>?_ |refine Ev.un (cO ‹_› _ _) λz Hz mz hj hm=>?_ |refine Ev.dB (dj ‹_›) λz zb Hz mz hj hm=>?_ |refine Ev.br (λhq=>?_) (λhq=>?_))<;>try simp -implicitDefEqProofs only[sS,Nat.reduceAdd]))
theorem cS (a i:Int):bN (run G) 129 [cv a,cv i] H (Cb H):=by
 refine Ev.up (t:=λn=>abm (run G n) n (cv a) (cv i) H) ?_ λn=>We ..
 simp -implicitDefEqProofs only[abm,sS,Nat.reduceAdd];refine Ev.call (rp a) ?_;rintro v H' ⟨⟨b,rfl⟩,rfl⟩;cases b<;>simp -implicitDefEqProofs only[sS,Nat.reduceAdd]
 ·(refine Ev.ret ?_;exact⟨⟨_,rfl⟩,rfl⟩)
 refine Ev.call (rp i) ?_;rintro v H' ⟨⟨b,rfl⟩,rfl⟩;cases b<;>simp -implicitDefEqProofs only[sS,Nat.reduceAdd]<;>exact Ev.ret ⟨⟨_,rfl⟩,rfl⟩
theorem bX (a d i:Int):bN (run G) 94 [cv a,cv d,cv i] H (Cb H):=by
 refine Ev.up (t:=λn=>F94 (run G n) n (cv a) (cv d) (cv i) H) ?_ λn=>ZN ..
 simp -implicitDefEqProofs only[F94,sS,Nat.reduceAdd];refine Ev.call (rp a) ?_;rintro v H' ⟨⟨b,rfl⟩,rfl⟩;cases b<;>simp -implicitDefEqProofs only[sS,Nat.reduceAdd]
 ·(refine Ev.ret ?_;exact⟨⟨_,rfl⟩,rfl⟩)
 refine Ev.call (rp d) ?_;rintro v H' ⟨⟨b,rfl⟩,rfl⟩;cases b<;>simp -implicitDefEqProofs only[sS,Nat.reduceAdd]
 ·(refine Ev.ret ?_;exact⟨⟨_,rfl⟩,rfl⟩)
 refine Ev.call (rp i) ?_;rintro v H' ⟨⟨b,rfl⟩,rfl⟩;cases b<;>simp -implicitDefEqProofs only[sS,Nat.reduceAdd]<;>exact Ev.ret ⟨⟨_,rfl⟩,rfl⟩
theorem df (a:Int):bN (run G) 159 [cv a] H (Cb H):=by
 refine Ev.up (t:=λn=>aaq (run G n) n (cv a) H) ?_ λn=>VF ..
 simp -implicitDefEqProofs only[aaq,sS,Nat.reduceAdd];repeat' (first| (refine Ev.ret ?_;exact⟨⟨_,rfl⟩,rfl⟩)| ((with_reducible first|refine Ev.lss (λhq=>?_) (λhq=>?_)|refine Ev.gtr (λhq=>?_) (λhq=>?_)|refine Ev.leq (λhq=>?_) (λhq=>?_)|refine Ev.geq (λhq=>?_) (λhq=>?_)|refine Ev.eql (λhq=>?_) (λhq=>?_)|refine Ev.neq (λhq=>?_) (λhq=>?_)|refine Ev.off ‹_› (λhq=>?_) (λhq=>?_)|refine Ev.aG (dx _) λz=>?_ |refine Ev.aG (iA _) λz=>?_ |refine Ev.aG (cS _ _) λz=>?_ |refine Ev.aG (bX _ _ _) λz=>?_ |refine Ev.aG (iJ _ _) λz=>?_ |refine Ev.aG (df _) λz=>?_ |refine Ev.num (cQ ‹_› _) λz Hz mz hj hm=>?_ |refine Ev.num (fw ‹_› _ _) λz Hz mz hj hm=>?_ |refine Ev.bool (fx ‹_› _ _ _) λz Hz mz hj hm=>?_ |refine Ev.un (cO ‹_› _ _) λz Hz mz hj hm=>?_ |refine Ev.dB (dj ‹_›) λz zb Hz mz hj hm=>?_ |refine Ev.br (λhq=>?_) (λhq=>?_))<;>try simp -implicitDefEqProofs only[sS,Nat.reduceAdd]))
end
section
variable {G:ag} {H H':ae} {o o':an} {p m:Nat} {K:ae→an→Prop}
def pW (n:Int):Nat→Int→Int
 |0,r=>r
 |b+1,r=>pW n b (if r+2^b≤n/(r+2^b) then r+2^b else r)
def nH (n:Int):Int:=if n<1 then 0 else pW n 32 0
theorem Cc {n:Int}: ∀(b:Nat) (r:Int),0≤r→r*r≤n→0≤pW n b r∧pW n b r*pW n b r≤n
 |0,r,h0,h1=>⟨h0,h1⟩
 |b+1,r,h0,h1=>by
  unfold pW;have hp:(0:Int)<2^b:=Int.pow_pos (by decide)
  split
  ·rename_i h;refine Cc b _ (by omega) ?_
   exact(Int.le_ediv_iff_mul_le (by omega)).1 h
  ·exact Cc b r h0 h1
theorem YD {b:Nat}(hb:b≤31):(2:Int)^b≤2147483648:=by
 have h:2^b≤2^31:=Nat.pow_le_pow_right (by decide) hb
 have e:((2^b:Nat):Int)=2^b:=Int.natCast_pow 2 b;have h2:(2:Nat)^31=2147483648:=by decide
 rw[←e];rw[h2] at h;exact Int.ofNat_le.2 h
theorem ahm (b:Nat)(hb:b≤31)(t:TypeId):aj Tryz.prog .shl t (cv 1) (.int .u64 b)=some (cv (2^b)):=by
 show sU .shl .i64 1 b=_
 simp only[sU];have h1:min ((b:Int).toNat) IntKind.i64.bits=b:=by
  show min ((b:Int).toNat) 64=b
  rw[Int.toNat_natCast];omega
 rw[h1];have h2:(2:Int)^b≤2147483648:=YD hb;have h3:(0:Int)<2^b:=Int.pow_pos (by decide)
 rw[jE (by omega)];simp
theorem YE (b:Nat)(hb:b≤31)(H:ae):sK .u64 (cv b) H=some (.int .u64 b,H):=by
 show some (Value.int .u64 (IntKind.u64.wrap b),H)=_
 have:IntKind.u64.wrap (b:Int)=b:=by
  simp[IntKind.wrap,IntKind.signed,IntKind.bits];omega
 rw[this]
theorem ac0 (a:Int)(ha:a≤16384):bN (run G) 114 [cv a] H λv H'=>v=cv (nH a)∧H'=H:=by
 refine Ev.up (t:=λn=>ZQ (run G n) n (cv a) H) ?_ λn=>Vh ..
 simp -implicitDefEqProofs only[ZQ,sS,Nat.reduceAdd];refine Ev.lss (λhq=>?_) (λhq=>?_)<;>simp -implicitDefEqProofs only[sS,Nat.reduceAdd]
 ·exact Ev.ret ⟨by rw[nH,if_pos hq],rfl⟩
 refine Ev.loop (k:=32) (λk vs H'=>∃(r:Int) (d9 d5 d21:Value),H'=H∧k≤32∧0≤r∧r≤(32-k)*2147483648∧vs=[cv a,cv 0,.bool false,cv ((k:Int)-1),d9,cv r,d5,d21]∧pW a k r=pW a 32 0)
  (λr=>r.1= .exit 0∧r.2.2=H∧∃(d9 d5 d21 d4:Value),r.2.1=[cv a,cv 0,.bool false,d4,d9,cv (pW a 32 0),d5,d21]) ⟨0,_,_,_,rfl,by omega,by omega,by omega,rfl,rfl⟩ ?_ ?_
 ·rintro k vs H' ⟨r,d9,d5,d21,rfl,hk,h0,h1,rfl,he⟩;simp -implicitDefEqProofs only[N4,Ac,sS,Nat.reduceAdd];refine Ev.geq (λhq=>?_) (λhq=>?_)<;>simp -implicitDefEqProofs only[sS,Nat.reduceAdd]
  ·obtain⟨b,rfl⟩: ∃b,k=b+1:=⟨k-1,by omega⟩
   have eb:((b+1:Nat):Int)-1=(b:Int):=by omega
   have hb:b≤31:=by omega
   have hp:(0:Int)<2^b:=Int.pow_pos (by decide)
   have hp2:(2:Int)^b≤2147483648:=YD hb;have hw:IntKind.i64.wrap (r+2^b)=r+2^b:=jE (by omega)
   have ht:(0:Int)<r+2^b:=by omega
   have hd:a.tdiv (r+2^b)=a/(r+2^b):=Int.tdiv_eq_ediv_of_nonneg (by omega)
   have hd1:a/(r+2^b)≤a:=Int.ediv_le_self _ (by omega)
   have hd0:0≤a/(r+2^b):=Int.ediv_nonneg (by omega) (by omega)
   have hw4:IntKind.i64.wrap (a/(r+2^b))=a/(r+2^b):=jE (by omega)
   have hw3:IntKind.i64.wrap ((b:Int)-1)=(b:Int)-1:=jE (by omega)
   simp -implicitDefEqProofs only[eb,YE b hb,ahm b hb,sS,Nat.reduceAdd,hw,kZ _ _ _ (show r+2^b≠0 by omega),hd]
   rw[hw4];have he2:pW a b (if r+2^b≤a/(r+2^b) then r+2^b else r)=pW a 32 0:=he
   refine Ev.leq (λhq=>?_) (λhq=>?_)<;>simp -implicitDefEqProofs only[N1,Ab,sS,Nat.reduceAdd,hw3]
   ·rw[if_pos hq] at he2;exact Ev.ret (.inl ⟨rfl,b,by omega,_,_,_,_,rfl,by omega,by omega,by omega,rfl,he2⟩)
   ·rw[if_neg hq] at he2;exact Ev.ret (.inl ⟨rfl,b,by omega,_,_,_,_,rfl,by omega,by omega,by omega,rfl,he2⟩)
  ·have:k=0:=by omega
   subst this;exact Ev.ret (.inr ⟨by simp,rfl,rfl,_,_,_,_,by rw[←he];rfl⟩)
 ·rintro e vs H' ⟨he,rfl,d9,d5,d21,d4,rfl⟩;simp only at he;subst he;simp -implicitDefEqProofs only[N5,Ad,sS,Nat.reduceAdd];exact Ev.ret ⟨by rw[nH,if_neg hq],rfl⟩
theorem YF (a b:Int)(H:ae):QS (cv a) (cv b) H=some (cv (if b>a then b else a),H):=rfl
def dJ (n:Int):Int:=if n<2∨n>16384 then 0 else if nH n>2 then nH n else 2
theorem rZ {n:Int}(h:2≤n∧n≤16384):2≤dJ n∧dJ n≤128∧dJ n≤n:=by
 unfold dJ;rw[if_neg (by omega)]
 have hr:nH n=pW n 32 0:=by rw[nH,if_neg (by omega)]
 obtain⟨h0,h1⟩:=Cc (n:=n) 32 0 (by omega) (by omega)
 rw[←hr] at h0 h1;have h2:nH n≤128:=by
  rcases Int.lt_or_le 128 (nH n) with g|g
  ·have:(129:Int)*129≤nH n*nH n:=Int.mul_le_mul (by omega) (by omega) (by omega) h0
   omega
  ·exact g
 split
 ·rename_i g;have:nH n*1≤nH n*nH n:=Int.mul_le_mul_of_nonneg_left (by omega) h0
  omega
 ·omega
theorem rq {n:Int}(h:n<2∨n>16384):dJ n=0:=by unfold dJ;rw[if_pos h]
theorem vG (n:Int):0≤dJ n∧dJ n≤128:=by
 by_cases h:n<2∨n>16384
 ·rw[rq h];omega
 ·have:=rZ (n:=n) (by omega);omega
theorem rz (a:Int):bN (run G) 95 [cv a] H λv H'=>v=cv (dJ a)∧H'=H:=by
 refine Ev.up (t:=λn=>F95 (run G n) n (cv a) H) ?_ λn=>ace ..
 simp -implicitDefEqProofs only[F95,sS,Nat.reduceAdd];refine Ev.lss (λh1=>?_) (λh1=>?_)<;>simp -implicitDefEqProofs only[sS,Nat.reduceAdd]
 ·exact Ev.ret ⟨by rw[rq (.inl h1)],rfl⟩
 refine Ev.gtr (λh2=>?_) (λh2=>?_)<;>simp -implicitDefEqProofs only[sS,Nat.reduceAdd]
 ·exact Ev.ret ⟨by rw[rq (.inr h2)],rfl⟩
 refine Ev.call (ac0 a (by omega)) ?_
 rintro v H' ⟨rfl,rfl⟩;simp -implicitDefEqProofs only[YF,sS,Nat.reduceAdd];exact Ev.ret ⟨by rw[dJ,if_neg (show ¬(a<2∨a>16384) by omega)],rfl⟩
def kv (n i:Int):Int:=if i<0∨i≥dJ n then 0 else if i<n%dJ n then n/dJ n+1 else n/dJ n
theorem Cd {n i:Int}(h:2≤n∧n≤16384)(hi:0≤i∧i<dJ n):1≤kv n i∧kv n i<n:=by
 obtain⟨h1,h2,h3⟩:=rZ h;have hq:1≤n/dJ n:=(Int.le_ediv_iff_mul_le (by omega)).2 (by omega)
 have he:=Int.mul_ediv_add_emod n (dJ n);have hm:=Int.emod_nonneg n (show dJ n≠0 by omega)
 have hx:2*(n/dJ n)≤dJ n*(n/dJ n):=Int.mul_le_mul_of_nonneg_right h1 (by omega)
 unfold kv;rw[if_neg (by omega)]
 split<;>omega
theorem Gu {n i:Int}(h: ¬(0≤i∧i<dJ n)):kv n i=0:=by unfold kv;rw[if_pos (by omega)]
theorem Lf (a i:Int):bN (run G) 96 [cv a,cv i] H λv H'=>v=cv (kv a i)∧H'=H:=by
 refine Ev.up (t:=λn=>F96 (run G n) n (cv a) (cv i) H) ?_ λn=>abE ..
 simp -implicitDefEqProofs only[F96,sS,Nat.reduceAdd];refine Ev.call (rz a) ?_;rintro v H' ⟨rfl,rfl⟩
 try simp -implicitDefEqProofs only[sS,Nat.reduceAdd]
 refine Ev.lss (λh1=>?_) (λh1=>?_)<;>simp -implicitDefEqProofs only[sS,Nat.reduceAdd]
 ·exact Ev.ret ⟨by rw[Gu (by omega)],rfl⟩
 refine Ev.geq (λh2=>?_) (λh2=>?_)<;>simp -implicitDefEqProofs only[sS,Nat.reduceAdd]
 ·exact Ev.ret ⟨by rw[Gu (by omega)],rfl⟩
 have hr:2≤a∧a≤16384:=by
  rcases Int.lt_or_le a 2 with g|g
  ·have:=rq (n:=a) (.inl g);omega
  ·rcases Int.lt_or_le 16384 a with g2|g2
   ·have:=rq (n:=a) (.inr g2);omega
   ·exact⟨g,g2⟩
 have hd:=rZ hr;have hs:=Cd hr (i:=i) (by omega)
 have e1:a.tmod (dJ a)=a%dJ a:=Int.tmod_eq_emod_of_nonneg (by omega)
 have e2:a.tdiv (dJ a)=a/dJ a:=Int.tdiv_eq_ediv_of_nonneg (by omega)
 have Lw:a/dJ a≤a:=Int.ediv_le_self _ (by omega)
 have hq0:0≤a/dJ a:=Int.ediv_nonneg (by omega) (by omega)
 have hw:IntKind.i64.wrap (a/dJ a)=a/dJ a:=jE (by omega)
 have uH:IntKind.i64.wrap (a/dJ a+1)=a/dJ a+1:=jE (by omega)
 simp -implicitDefEqProofs only[EV _ _ _ (show dJ a≠0 by omega),kZ _ _ _ (show dJ a≠0 by omega),e1,e2,hw,sS,Nat.reduceAdd]
 refine Ev.lss (λh3=>?_) (λh3=>?_)<;>simp -implicitDefEqProofs only[uH,sS,Nat.reduceAdd]
 ·exact Ev.ret ⟨by rw[kv,if_neg (by omega),if_pos h3],rfl⟩
 ·exact Ev.ret ⟨by rw[kv,if_neg (by omega),if_neg h3],rfl⟩
def gu (n:Int):Nat→Int
 |0=>0
 |k+1=>gu n k+kv n k
theorem IE {n:Int}(h:2≤n∧n≤16384): ∀k:Nat,(k:Int)≤dJ n→gu n k=k*(n/dJ n)+min (k:Int) (n%dJ n)
 |0,_=>by
  have:=Int.emod_nonneg n (show dJ n≠0 by have:=rZ h;omega)
  simp only[gu,Int.natCast_zero,Int.zero_mul];omega
 |k+1,hk=>by
  have ih:=IE h k (by omega)
  rw[gu,ih,kv,if_neg (by omega),Int.natCast_add,Int.add_mul,Int.natCast_one,Int.one_mul]
  split<;>omega
theorem PR {n:Int}(h:2≤n∧n≤16384){d:Nat}(hd:(d:Int)=dJ n):gu n d=n:=by
 obtain⟨h1,h2,h3⟩:=rZ h;have hm:=Int.emod_lt_of_pos n (show 0<dJ n by omega)
 have he:=Int.mul_ediv_add_emod n (dJ n);rw[IE h d (by omega),hd]
 have:min (dJ n) (n%dJ n)=n%dJ n:=by omega
 rw[this];exact he
theorem Ce (n i:Int):0≤kv n i∧kv n i≤16384:=by
 by_cases g:0≤i∧i<dJ n
 ·have hr:2≤n∧n≤16384:=by
   rcases Int.lt_or_le n 2 with g1|g1
   ·have:=rq (n:=n) (.inl g1);omega
   ·rcases Int.lt_or_le 16384 n with g2|g2
    ·have:=rq (n:=n) (.inr g2);omega
    ·exact⟨g1,g2⟩
  have:=Cd hr g;omega
 ·rw[Gu g];omega
theorem Cf (n:Int){i:Nat}: ∀j,i≤j→gu n i≤gu n j
 |0,h=>by
  have:i=0:=by omega
  subst this;omega
 |j+1,h=>by
  rcases Nat.lt_or_ge j i with g|g
  ·have:i=j+1:=by omega
   subst this;omega
  ·have:=Cf n j g
   have:=Ce n j
   rw[gu];omega
theorem IF (n:Int)(i:Nat):0≤gu n i:=Cf n (i:=0) i (by omega)
theorem Xv {n:Int}(h:2≤n∧n≤16384){i:Nat}(hi:(i:Int)<dJ n):gu n i+kv n i≤n:=by
 obtain⟨d,hd⟩: ∃d:Nat,(d:Int)=dJ n:=⟨(dJ n).toNat,by have:=rZ h;omega⟩
 have:=Cf n (i:=i+1) d (by omega)
 rw[PR h hd,gu] at this;exact this
theorem Ea (n:Int): ∀i:Nat,gu n i≤16384*i
 |0=>by simp[gu]
 |i+1=>by have:=Ea n i;have:=Ce n i;rw[gu];omega
def Eb (n i:Int):Int:=if i<0∨i≥dJ n then 0 else gu n i.toNat
theorem TF (a i:Int):bN (run G) 154 [cv a,cv i] H λv H'=>v=cv (Eb a i)∧H'=H:=by
 refine Ev.up (t:=λn=>acm (run G n) n (cv a) (cv i) H) ?_ λn=>WQ ..
 simp -implicitDefEqProofs only[acm,sS,Nat.reduceAdd];refine Ev.lss (λh1=>?_) (λh1=>?_)<;>simp -implicitDefEqProofs only[sS,Nat.reduceAdd]
 ·exact Ev.ret ⟨by rw[Eb,if_pos (.inl h1)],rfl⟩
 refine Ev.call (rz a) ?_;rintro v H' ⟨rfl,rfl⟩
 try simp -implicitDefEqProofs only[sS,Nat.reduceAdd]
 refine Ev.geq (λh2=>?_) (λh2=>?_)<;>simp -implicitDefEqProofs only[sS,Nat.reduceAdd]
 ·exact Ev.ret ⟨by rw[Eb,if_pos (.inr h2)],rfl⟩
 have hdn:=vG a;refine Ev.loop (k:=i.toNat) (λk vs Hx=>∃(j:Nat) (d17:Value),Hx=H'∧(j:Int)+k=i∧vs=[cv a,cv i,cv 0,.bool false,cv j,d17,cv (gu a j)])
  (λr=>r.1= .exit 0∧r.2.2=H'∧∃(d d17:Value),r.2.1=[cv a,cv i,cv 0,.bool false,d,d17,cv (gu a i.toNat)]) ⟨0,_,rfl,by omega,rfl⟩ ?_ ?_
 ·rintro k vs Hx ⟨j,d17,rfl,hj,rfl⟩;simp -implicitDefEqProofs only[Pq,BO,sS,Nat.reduceAdd];refine Ev.lss (λhq=>?_) (λhq=>?_)<;>simp -implicitDefEqProofs only[sS,Nat.reduceAdd]
  ·refine Ev.call (Lf a j) ?_;rintro v H' ⟨rfl,rfl⟩;have hb:=Ea a j;have hs:=Ce a j;have h0:=IF a j;have hw:IntKind.i64.wrap (gu a j+kv a j)=gu a (j+1):=by rw[jE (by omega),gu]
   have uH:IntKind.i64.wrap ((j:Int)+1)=((j+1:Nat):Int):=by rw[jE (by omega)];omega
   simp -implicitDefEqProofs only[sS,Nat.reduceAdd,hw,uH];exact Ev.ret (.inl ⟨rfl,k-1,by omega,j+1,_,rfl,by omega,rfl⟩)
  ·have:j=i.toNat:=by omega
   subst this;exact Ev.ret (.inr ⟨by simp,rfl,rfl,_,_,rfl⟩)
 ·rintro e vs Hx ⟨he,rfl,d,d17,rfl⟩;simp only at he;subst he;simp -implicitDefEqProofs only[Pr,BP,sS,Nat.reduceAdd];exact Ev.ret ⟨by rw[Eb,if_neg (by omega)],rfl⟩
end
end Go.Proofs.YtjgmnoaalbbonaaGreat.Fun
end
