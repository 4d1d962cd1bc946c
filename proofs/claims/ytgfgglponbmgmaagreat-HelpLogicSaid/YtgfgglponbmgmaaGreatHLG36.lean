/- Texts of the proof of helpLogic_holds, put together by a small program of ours (names shortened, spaces taken out). No condition beyond the given statement. -/
import Derived.Test.YtgfgglponbmgmaaGreatHLG12
import Derived.Test.YtgfgglponbmgmaaGreatHLG16
import Derived.Test.YtgfgglponbmgmaaGreatHLG10
import Derived.Test.YtgfgglponbmgmaaGreatHLG17
import Derived.Test.YtgfgglponbmgmaaGreatHLG35
import Derived.Test.YtgfgglponbmgmaaGreatHLG15
set_option linter.unusedVariables false
set_option linter.unusedSimpArgs false
set_option linter.unnecessarySimpa false
noncomputable section
section
namespace Go.Proofs.YtgfgglponbmgmaaGreat.Fun
open Go Go.RowKit Go.Proofs.YtgfgglponbmgmaaGreatA.Am
set_option maxRecDepth 10000
section
open Go.Proofs.YtgfgglponbmgmaaGreatA
variable {G:ae} {H H':aa} {o o':aj} {p c mp f xp n i mx:Nat} {K:aa→aj→Prop} {q:Int} {x:Value} {l:PL} {m m':Y.Mm} {T:List Int} {th:kl} {L:List ku} {N M:Nat} {α:Type}
theorem Pe: ∀(f:Nat) {n:Nat},n<f→n≤16384→1≤n→dK f n+8≤10*n:=by
 intro f;induction f with
 |zero=>intro n h;omega
 |succ f ih=>
  intro n hf hn h1;rcases Nat.lt_or_ge n 2 with h2|h2
  ·have:n=1:=by omega
   subst this;simp[dK]
  have sC:2≤(n:Int)∧(n:Int)≤16384:=by omega
  have Yx:=Y.nC sC;obtain⟨d,hd⟩: ∃d:Nat,(d:Int)=Y.bo n:=⟨(Y.bo n).toNat,by omega⟩
  have Sx:(Y.bo n).toNat=d:=by omega
  have ec:dK (f+1) n=4+2*d+lj (λi:Nat=>dK f (Y.b9 n i).toNat) d:=by
   show(if n<2 then n+1 else _)=_
   rw[if_neg (by omega),Sx]
  have key: ∀i:Nat,i≤d→(lj (λi:Nat=>dK f (Y.b9 n i).toNat) i:Int)+8*i≤10*cD n i:=by
   intro i;induction i with
   |zero=>intro _;simp[lj,cD]
   |succ i ihi=>
    intro hi;have a:=ihi (by omega)
    have b:=jU sC (i:=i) ⟨by omega,by rw[←pP];omega⟩
    rw[←sr] at b;have c:=ih (n:=(Y.b9 n i).toNat) (by omega) (by omega) (by omega)
    rw[cD, ←sr];show((lj (λi:Nat=>dK f (Y.b9 n i).toNat) i+dK f (Y.b9 n i).toNat:Nat):Int)+_≤_
    omega
  have a:=key d (Nat.le_refl _);rw[AL sC (by rw[←pP];exact hd)] at a
  rw[ec];omega
theorem Sy: ∀(f:Nat) {n:Nat},n<f→n≤16384→aE (run G) 135 [cv n] H (Is H (cv (dK f n))):=by
 intro f;induction f with
 |zero=>intro n h;omega
 |succ f ih=>
  intro n hf hn;refine Ev.up (t:=λk=>WE (run G k) k (cv n) H) ?_ λk=>Rt ..
  simp -implicitDefEqProofs only[WE,sS,Nat.reduceAdd];refine Ev.lss (λhq=>?_) (λhq=>?_)<;>try simp -implicitDefEqProofs only[sS,Nat.reduceAdd]
  ·omega
  refine Ev.gtr (λhq=>?_) (λhq=>?_)<;>try simp -implicitDefEqProofs only[sS,Nat.reduceAdd]
  ·omega
  refine Ev.lss (λhq=>?_) (λhq=>?_)<;>try simp -implicitDefEqProofs only[sS,Nat.reduceAdd]
  ·refine Ev.ret ⟨congrArg cv ?_,rfl⟩;rw[fL (by omega)]
   show(n:Int)+1=((if n<2 then n+1 else _:Nat):Int)
   rw[if_pos (by omega)];simp
  have sC:2≤(n:Int)∧(n:Int)≤16384:=by omega
  have Yx:=Y.nC sC;obtain⟨d,hd⟩: ∃d:Nat,(d:Int)=Y.bo n:=⟨(Y.bo n).toNat,by omega⟩
  have Sx:(Y.bo n).toNat=d:=by omega
  have ec:dK (f+1) n=4+2*d+lj (λi:Nat=>dK f (Y.b9 n i).toNat) d:=by
   show(if n<2 then n+1 else _)=_
   rw[if_neg (by omega),Sx]
  have hle:=Pe (f+1) hf hn (by omega)
  rw[ec] at hle;refine Ev.call (jS _) ?_;rintro v H1 ⟨rfl,rfl⟩;rw[←pP, ←hd];have w1:IntKind.i64.wrap (2*(d:Int))=2*d:=fL (by omega)
  have w2:IntKind.i64.wrap (4+2*(d:Int))=((4+2*d:Nat):Int):=by rw[fL (by omega)];omega
  simp -implicitDefEqProofs only[w1,w2,sS,Nat.reduceAdd];obtain⟨g,eg⟩: ∃g:Nat→Nat,g=λi:Nat=>dK f (Y.b9 n i).toNat:=⟨_,rfl⟩
  rw[ec, ←eg];rw[←eg] at hle;refine Ev.loop (k:=d) (λk vs Hx=>∃(j:Nat) (x2 aC aN bA:Value),Hx=H1∧j+k=d∧vs=[cv n,x2,aC,aN,cv j,bA,cv ((4+2*d+lj g j:Nat))])
   (λr=>r.1= .exit 0∧r.2.2=H1∧∃(x2 aC aN x4 bA:Value),r.2.1=[cv n,x2,aC,aN,x4,bA,cv ((4+2*d+lj g d:Nat))]) ⟨0,_,_,_,_,rfl,by omega,rfl⟩ ?_ ?_
  ·rintro k vs Hx ⟨j,x2,aC,aN,bA,rfl,z9,rfl⟩;simp -implicitDefEqProofs only[KC,yj,sS,Nat.reduceAdd];refine Ev.call (jS _) ?_;rintro v H2 ⟨rfl,rfl⟩;rw[←pP, ←hd]
   try simp -implicitDefEqProofs only[sS,Nat.reduceAdd]
   refine Ev.lss (λhq=>?_) (λhq=>?_)<;>try simp -implicitDefEqProofs only[sS,Nat.reduceAdd]
   rotate_left
   ·have:j=d:=by omega
    subst this;exact Ev.ret (.inr ⟨by simp,rfl,rfl,_,_,_,_,_,rfl⟩)
   refine Ev.call (yE _ _) ?_;rintro v H3 ⟨rfl,rfl⟩;have b:=jU sC (i:=j) ⟨by omega,by rw[←pP];omega⟩
   obtain⟨s,hs⟩: ∃s:Nat,(s:Int)=b9 n j:=⟨(b9 n j).toNat,by omega⟩
   rw[←hs];refine Ev.is (ih (n:=s) (by omega) (by omega)) ?_
   have hg:g j=dK f s:=by rw[eg];show dK f (Y.b9 n j).toNat=_;rw[sr, ←hs];simp
   have uV:=CQ g (i:=j+1) d (by omega)
   have hsj:lj g (j+1)=lj g j+g j:=rfl;have w3:IntKind.i64.wrap (((4+2*d+lj g j:Nat):Int)+(dK f s:Nat))=((4+2*d+lj g (j+1):Nat):Int):=by rw[fL (by omega)];omega
   have w4:IntKind.i64.wrap ((j:Int)+1)=((j+1:Nat):Int):=by rw[fL (by omega)];omega
   simp -implicitDefEqProofs only[w3,w4,sS,Nat.reduceAdd];exact Ev.ret (.inl ⟨rfl,k-1,by omega,j+1,_,_,_,_,rfl,by omega,rfl⟩)
  ·rintro e vs Hx ⟨he,hx,x2,aC,aN,x4,bA,rfl⟩;simp only at he hx;subst he hx;simp -implicitDefEqProofs only[KD,yk,sS,Nat.reduceAdd];exact Ev.ret ⟨rfl,rfl⟩
theorem JM.mono {L:aa→aj→Prop}(h:JM K mp m H)(hL:bJ [-70, -71] L)(k: ∀o,K H o→L H o):JM L mp m H:=by
 obtain⟨hK,o,h1,h2⟩:=h;exact⟨hL,o,h1,k o h2⟩
theorem JM.new (h:JM K mp m H)(b:eM):JM K mp m (H.new b):=h.ext ((Ext.refl H).new b)
structure KM (B:aa) (b:aj) (t u:Int) (x:Value) (lx:List Int) (y:Value) (ly:List Int) (H:aa) (o:aj):Prop where
 fr:Fr B b H o [-70, -71]
 q:oJ H o t x lx
 c:oJ H o u y ly
structure Sz (B:aa) (b:aj) (t u:Int):Prop where
 lt:t< -100∧u< -100
 ne:t≠u
 ft: ∀i,i<B.length→b i≠t
 fu: ∀i,i<B.length→b i≠u
theorem acY (B:aa)(b:aj): ∃t u,Sz B b t u:=by
 obtain⟨t,h1,h2⟩:=gC b B.length;exact⟨t,t-1,⟨by omega,by omega⟩,by omega,λi hi=>by have:=h2 i hi;omega,λi hi=>by have:=h2 i hi;omega⟩
section
variable {B:aa} {b:aj} {t u:Int} {y:Value} {lx ly:List Int} {k:Nat→Value→aa→Option α} {Q:α→Prop} {a:Int} {T ty:TypeId}
theorem KM.eU (h2:Sz B b t u):bJ [-70, -71] (KM B b t u x lx y ly):=λH o H' o' h f=>⟨h.fr.tr f,h.q.fr f (by have:=h2.lt;simp;omega),h.c.fr f (by have:=h2.lt;simp;omega)⟩
theorem Ev.aaT (h2:Sz B b t u)(h:JM (KM B b t u x lx y ly) mp m H)(hb:lx.length+1≤4294967296)(hk: ∀x' H',JM (KM B b t u x' (lx++[a]) y ly) mp m H'→Ev (λn=>k n x' H') Q):
  Ev (λn=>af (de T 1 8 x (.slice (some ⟨H.length,0,none⟩) 1 1) (H.new ⟨[cv a],ty,1,false⟩)) (k n)) Q:=by
 obtain⟨_,o,hr,hf,hx,hy⟩:=h;obtain⟨s',H2,o2,e,s2,f2⟩:=Oy T ty a hx hb;rw[e];have gB:=h2.lt;exact hk s' H2 ⟨KM.eU h2,o2,hr.fr f2 (by simp;omega) (by simp;omega),iD (hf.trans f2 (rs:=[t, -70, -71]) (by simp) (by simp)) h2.ft,s2,hy.fr f2 (by simp;exact λe=>h2.ne e.symm)⟩
theorem Ev.aaU (h2:Sz B b t u)(h:JM (KM B b t u x lx y ly) mp m H)(hb:ly.length+1≤4294967296)(hk: ∀y' H',JM (KM B b t u x lx y' (ly++[a])) mp m H'→Ev (λn=>k n y' H') Q):
  Ev (λn=>af (de T 1 8 y (.slice (some ⟨H.length,0,none⟩) 1 1) (H.new ⟨[cv a],ty,1,false⟩)) (k n)) Q:=by
 obtain⟨_,o,hr,hf,hx,hy⟩:=h;obtain⟨s',H2,o2,e,s2,f2⟩:=Oy T ty a hy hb;rw[e];have gB:=h2.lt;exact hk s' H2 ⟨KM.eU h2,o2,hr.fr f2 (by simp;omega) (by simp;omega),iD (hf.trans f2 (rs:=[u, -70, -71]) (by simp) (by simp)) h2.fu,hx.fr f2 (by simp;exact h2.ne),s2⟩
end
def Gj (H H':aa)(w:Value)(l:List Int):Prop:=Ext H H'∧eG H' w l∧∀a n c,w= .slice (some a) n c→H.length≤a.block
theorem nD:aE (run G) 36 [] H λw H'=>Gj H H' w [0]:=by
 refine Ev.up (t:=λn=>Zz (run G n) n H) ?_ λn=>NS ..
 simp -implicitDefEqProofs only[Zz,zP,sS,Nat.reduceAdd];exact Ev.ret ⟨(Ext.refl _).new _,kZ [0] _,λa n c e=>by cases e;exact Nat.le_refl _⟩
theorem Eu (a b:Int):aE (run G) 147 [cv a,cv b] H λw H'=>Gj H H' w [a,b]:=by
 refine Ev.up (t:=λn=>NP (run G n) n (cv a) (cv b) H) ?_ λn=>ael ..
 simp -implicitDefEqProofs only[NP,RO,sS,Nat.reduceAdd];exact Ev.ret ⟨(Ext.refl _).new _,kZ [a,b] _,λa n c e=>by cases e;exact Nat.le_refl _⟩
theorem sw (s:Int){q c:Value}{lq lc:List Int}(hq:eG H q lq)(hc:eG H c lc)(he:lc.length=lq.length+1)(hl:lq.length≤20000):
  aE (run G) 131 [cv s,q,c] H λw H'=>Gj H H' w (Y.cP s lq lc):=by
 refine Ev.up (t:=λn=>NO (run G n) n (cv s) q c H) ?_ λn=>HL ..
 have hw:IntKind.i64.wrap ((lq.length:Int)+1)=(lq.length:Int)+1:=fL (by omega)
 simp -implicitDefEqProofs only[NO,hq.len,hc.len,hw,sS,Nat.reduceAdd];refine Ev.neq (λh1=>?_) (λh1=>?_)<;>try simp -implicitDefEqProofs only[hc.len,Og,sS,Nat.reduceAdd]
 ·omega
 have s1:=oJ.new H o0 (-2) 2 [(lc.length:Int),s,0,0,0];have f1:Fr H o0 (H.new ⟨[cv lc.length,cv s,cv 0,cv 0,cv 0],2,1,false⟩) (aj.up o0 H.length (-2)) [-2]:=(Fr.refl H o0 [-2]).new _ _;obtain⟨H1,e1⟩: ∃z,z=H.new ⟨[cv lc.length,cv s,cv 0,cv 0,cv 0],2,1,false⟩:=⟨_,rfl⟩;have keep: ∀{x:Value} {l:List Int} {H2:aa} {o2:aj},eG H x l→Fr H o0 H2 o2 [-2]→eG H2 x l:=λhx f=>hx.keep λi b e dy=>by
  rcases hx with⟨e1,e2⟩|⟨j,off,cc,e1,hb⟩
  ·exact absurd e2 dy
  ·obtain⟨bb,g1,_⟩:=hb dy;rw[e1] at e;cases e;exact f.same j (ar g1) (by simp)
 obtain⟨x2,H2,o2,a2,s2,f2,_⟩:=jR (H:=H1) 2 (by rw[e1];exact s1) (keep hq (by rw[e1];exact f1)) (by simp;omega)
 have f12:Fr H o0 H2 o2 [-2]:=by rw[e1] at f2;exact f1.tr f2
 obtain⟨x3,H3,o3,a3,s3,f3,_⟩:=jR 2 s2 (keep hc f12) (by simp;omega)
 have f13:=f12.tr f3;have eH:H.new ⟨[cv lc.length,cv s,cv 0,cv 0,cv 0],2,1,false⟩=H1:=e1.symm;simp -implicitDefEqProofs only[eH,List.length_cons,List.length_nil,sS,Nat.reduceAdd] at a2;simp -implicitDefEqProofs only[eH,a2,a3,sS,Nat.reduceAdd];refine Ev.ret ⟨Ext.of f13 (λi hi=>by simp),by rw[Y.tC he];exact s3.ints.1,λa n c e=>?_⟩
 have dy:[(lc.length:Int),s,0,0,0]++lq++lc≠[]:=by simp
 obtain⟨g1,g2⟩:=s3.ints.2 a n c e dy;rcases Nat.lt_or_ge a.block H.length with g|g
 ·have h9:o3 a.block= -1:=f13.own _ g;omega
 ·exact g
theorem lk (h:JM K mp m H){w:Value}{lw:List Int}(hw:Gj H H' w lw):aE (run G) 35 [pv mp,w] H' λv H2=>v= .tuple #[cv (Y.eB m (.mk lw)).1,.bool (decide ((Y.eB m (.mk lw)).1>0))]∧JM K mp (Y.eB m (.mk lw)).2 H2:=
 Iy (h.ext hw.1) hw.2.1 λ_ a n c e=>by have:=hw.2.2 a n c e;have:=h.lt;omega
theorem SA: ∀(N:Nat) {K:aa→aj→Prop} {H:aa} {m:Y.Mm} {x:Value} {L:PL} {q:Int},L.length=N→N≤16384→JM K mp m H→q≠ -70∧q≠ -71→(∀H o,K H o→gN H o q x L)→∀{f:Nat},N+1≤f→aE (run G) 136 [pv mp,x] H λv H'=>v=cv (Y.dJ f L m).1∧JM K mp (Y.dJ f L m).2 H':=by
 intro N;induction N using Nat.strongRecOn with
 |ind N ih=>
 intro K H m x L q hN hN2 h hq hx f hf;obtain⟨fy,rfl⟩: ∃fy,f=fy+1:=⟨f-1,by omega⟩
 refine Ev.up (t:=λn=>V0 (run G n) n (pv mp) x H) ?_ λn=>QW ..
 obtain⟨hK,o,hr,hk⟩:=id h;have hs:=hx _ _ hk;simp -implicitDefEqProofs only[V0,hs.len,sS,Nat.reduceAdd];refine Ev.eql (λh0=>?_) (λh0=>?_)<;>try simp -implicitDefEqProofs only[sS,Nat.reduceAdd]
 ·have eL:L=[]:=List.length_eq_zero_iff.1 (by omega)
  subst eL;refine Ev.call nD ?_;intro w Hz hw;refine Ev.call (lk h hw) ?_;rintro v H2 ⟨rfl,hj⟩
  try simp -implicitDefEqProofs only[sS,Nat.reduceAdd]
  refine Ev.is (nY _ _) ?_
  try simp -implicitDefEqProofs only[sS,Nat.reduceAdd]
  exact Ev.ret ⟨by unfold Y.dJ Y.OM;rfl,by unfold Y.dJ Y.OM;exact hj⟩
 refine Ev.eql (λh1=>?_) (λh1=>?_)<;>try simp -implicitDefEqProofs only[sS,Nat.reduceAdd]
 ·obtain⟨kv,rfl⟩:=List.length_eq_one_iff.1 (show L.length=1 by omega)
  obtain⟨i,off,b,e1,e2,e3,e4⟩:=hs.idx (j:=0) (by omega)
  obtain⟨e5,e6,_⟩:=e4 H e2;simp only[Int.natCast_zero] at e1;simp -implicitDefEqProofs only[e1,gQ,Nat.add_zero,e5,e6,sS,Nat.reduceAdd];refine Ev.call (Eu _ _) ?_;intro w Hz hw;refine Ev.call (lk h hw) ?_;rintro v H2 ⟨rfl,hj⟩
  try simp -implicitDefEqProofs only[sS,Nat.reduceAdd]
  refine Ev.is (nY _ _) ?_
  try simp -implicitDefEqProofs only[sS,Nat.reduceAdd]
  exact Ev.ret ⟨by unfold Y.dJ Y.OM;rfl,by unfold Y.dJ Y.OM;exact hj⟩
 have sC:2≤(L.length:Int)∧(L.length:Int)≤16384:=by omega
 have Yx:=Y.nC sC;obtain⟨d,hd⟩: ∃d:Nat,(d:Int)=Y.bo L.length:=⟨(Y.bo L.length).toNat,by omega⟩
 have Sx:(Y.bo L.length).toNat=d:=by omega
 have hdl:d≤16384:=by have:=pz L.length;rw[←pP] at this;omega
 obtain⟨t,u,h2⟩:=acY H o;have hU: ∀{xq xc:Value} {lq lc:List Int} {m':Y.Mm} {H':aa},JM (KM H o t u xq lq xc lc) mp m' H'→JM K mp m' H':=λhj=>hj.mono hK λo' hg=>hK _ _ _ _ hk hg.fr
 have uV: ∀(H':aa) (o':aj),Fr H o H' o' [-70, -71]→gN H' o' q x L:=λH' o' f=>hs.fr f (by simp;omega)
 have W7:JM (KM H o t u (.slice none 0 0) [] (.slice none 0 0) []) mp m H:=⟨KM.eU h2,o,hr,Fr.refl _ _ _,.inl ⟨rfl,rfl⟩,.inl ⟨rfl,rfl⟩⟩;have B:Y.dJ (fy+1) L m=Y.il fy L d 0 0 [] [] m:=by
  match L,h0,h1,Sx with
  | [],h0,_,_=>exact absurd rfl h0
  | [a],_,h1,_=>exact absurd rfl h1
  |a::b::l,_,_,Sx=>
   conv=>lhs;unfold Y.dJ
   simp only[Sx]
 generalize hT:Y.dJ (fy+1) L m=R at B
 refine Ev.loop (k:=d) (λk vs H1=>∃(i at_:Nat) (xq xc:Value) (lq lc:List Int) (m1:Y.Mm) (x4 bl x6 cM x8 dQ dU aM aT aW:Value),JM (KM H o t u xq lq xc lc) mp m1 H1∧lc.length=i∧(i=0∧lq=[]∨lq.length+1=i)∧i+k=d∧(at_:Int)=cD L.length i∧R=Y.il fy L k i at_ lq lc m1∧vs=[pv mp,x,x4,cv L.length,bl,x6,cM,x8,cv i,dQ,dU,xq,cv at_,aM,xc,aT,aW])
  (λr=>r.1= .exit 0∧∃(at_:Nat) (xq xc:Value) (lq lc:List Int) (m1:Y.Mm) (x4 bl x6 cM x8 aI dQ dU aN aM aT aW:Value),JM (KM H o t u xq lq xc lc) mp m1 r.2.2∧lc.length=d∧lq.length+1=d∧R=Y.il fy L 0 d at_ lq lc m1∧r.2.1=[pv mp,x,x4,cv L.length,bl,x6,cM,x8,aI,dQ,dU,xq,aN,aM,xc,aT,aW])
  ⟨0,0,_,_,[],[],m,_,_,_,_,_,_,_,_,_,_,W7,rfl,.inl ⟨rfl,rfl⟩,by omega,by simp[cD],B,rfl⟩ ?_ ?_
 ·rintro k vs H1 ⟨i,at_,xq,xc,lq,lc,m1,x4,bl,x6,cM,x8,dQ,dU,aM,aT,aW,hj,CX,TJ,hik,Yw,E,rfl⟩;simp -implicitDefEqProofs only[Kc,xI,sS,Nat.reduceAdd];refine Ev.call (jS _) ?_;rintro v PI ⟨rfl,rfl⟩;rw[←pP, ←hd]
  try simp -implicitDefEqProofs only[sS,Nat.reduceAdd]
  refine Ev.lss (λqv=>?_) (λqv=>?_)<;>try simp -implicitDefEqProofs only[sS,Nat.reduceAdd]
  rotate_left
  ·have:k=0:=by omega
   subst this;have:i=d:=by omega
   subst this;exact Ev.ret (.inr ⟨by simp,rfl,at_,_,_,lq,lc,m1,_,_,_,_,_,_,_,_,_,_,_,_,hj,CX,TJ.resolve_left (by omega),E,rfl⟩)
  have Mz:(i:Int)<bo L.length:=by rw[←pP];omega
  have uq:=jU sC (i:=i) ⟨by omega,Mz⟩
  have hpt:=vE sC (i:=i) Mz;refine Ev.call (yE _ _) ?_;rintro v PI ⟨rfl,rfl⟩;obtain⟨ud,aae⟩: ∃z:Nat,(z:Int)=b9 L.length i:=⟨(b9 L.length i).toNat,by omega⟩
  obtain⟨k1,rfl⟩: ∃k1,k=k1+1:=⟨k-1,by omega⟩
  have esz:(Y.b9 L.length i).toNat=ud:=by rw[sr];omega
  rw[←aae];have hw:IntKind.i64.wrap ((i:Int)+1)=((i+1:Nat):Int):=by rw[fL (by omega)];omega
  have uA:IntKind.i64.wrap ((at_:Int)+ud)=((at_+ud:Nat):Int):=by rw[fL (by omega)];omega
  have E':R=Y.il fy L k1 (i+1) (at_+ud) (if i>0 then lq++[(L.getD at_ (0,0)).1] else lq) (lc++[(Y.dJ fy ((L.drop at_).take ud) m1).1]) (Y.dJ fy ((L.drop at_).take ud) m1).2:=by
   rw[E];conv=>lhs;unfold Y.il
   simp only[esz]
  have J2: ∀{xq xc:Value} {OD lc:List Int} {H1:aa} (x4 bl x6 cM x8 dQ dU aT aW:Value),JM (KM H o t u xq OD xc lc) mp m1 H1→OD.length=i→lc.length=i→R=Y.il fy L k1 (i+1) (at_+ud) OD (lc++[(Y.dJ fy ((L.drop at_).take ud) m1).1]) (Y.dJ fy ((L.drop at_).take ud) m1).2→Ev (λn=>vk (run G n) n [pv mp,x,x4,cv L.length,bl,x6,cM,x8,cv i,dQ,dU,xq,cv at_,cv ud,xc,aT,aW] H1) λr=>(r.1= .normal∧∃k',k'<k1+1∧∃(i at_:Nat) (xq xc:Value) (lq lc:List Int) (m1:Y.Mm) (x4 bl x6 cM x8 dQ dU aM aT aW:Value),JM (KM H o t u xq lq xc lc) mp m1 r.2.2∧lc.length=i∧(i=0∧lq=[]∨lq.length+1=i)∧i+k'=d∧(at_:Int)=cD L.length i∧R=Y.il fy L k' i at_ lq lc m1∧r.2.1=[pv mp,x,x4,cv L.length,bl,x6,cM,x8,cv i,dQ,dU,xq,cv at_,aM,xc,aT,aW])∨(r.1≠ .normal∧r.1= .exit 0∧∃(at_:Nat) (xq xc:Value) (lq lc:List Int) (m1:Y.Mm) (x4 bl x6 cM x8 aI dQ dU aN aM aT aW:Value),JM (KM H o t u xq lq xc lc) mp m1 r.2.2∧lc.length=d∧lq.length+1=d∧R=Y.il fy L 0 d at_ lq lc m1∧r.2.1=[pv mp,x,x4,cv L.length,bl,x6,cM,x8,aI,dQ,dU,xq,aN,aM,xc,aT,aW]):=by
   intro xq xc OD lc H1 x4 bl x6 cM x8 dQ dU aT aW hj TJ CX E;simp -implicitDefEqProofs only[Kb,xH,uA,sS,Nat.reduceAdd];obtain⟨_,o1,uD,hg⟩:=id hj;obtain⟨y,hy1,Xe⟩:=(uV _ _ hg.fr).cut (m:=at_) (n:=at_+ud) (lo:=some (cv at_)) (hi:=some (cv (at_+ud:Nat))) (by omega) (by omega) (by rw[CD]) (by rw[CD])
   simp -implicitDefEqProofs only[hy1,sS,Nat.reduceAdd];have Xf:(L.take (at_+ud)).drop at_=(L.drop at_).take ud:=by rw[List.drop_take];congr 1;omega
   rw[Xf] at Xe;have hjy:JM (λH' o'=>KM H o t u xq OD xc lc H' o'∧gN H' o' q y ((L.drop at_).take ud)) mp m1 _:=⟨(KM.eU h2).and (bJ.kq (by simp;omega)),o1,uD,hg,Xe⟩
   refine Ev.call (ih ((L.drop at_).take ud).length ?_ rfl ?_ hjy hq (λH' o' a=>a.2) (f:=fy) ?_) ?_
   ·simp;omega
   ·simp;omega
   ·simp;omega
   rintro v Hz ⟨rfl,LY⟩;have yT:=LY.mono (KM.eU h2) λo' a=>a.1
   simp -implicitDefEqProofs only[zP,sS,Nat.reduceAdd];refine Ev.aaU h2 yT (by omega) λx' Hz hj=>?_
   simp -implicitDefEqProofs only[uA,Ka,xG,hw,sS,Nat.reduceAdd];exact Ev.ret (.inl ⟨rfl,k1,by omega,i+1,at_+ud,_,_,_,_,_,_,_,_,_,_,_,_,_,_,_,hj,by simp[CX],.inr (by omega),by omega,by rw[cD];omega,E,rfl⟩)
  refine Ev.gtr (λkt=>?_) (λkt=>?_)<;>try simp -implicitDefEqProofs only[sS,Nat.reduceAdd]
  ·obtain⟨_,o1,uD,hg⟩:=id hj;obtain⟨i',off,b',e1,e2,e3,e4⟩:=(uV _ _ hg.fr).idx (j:=at_) (by omega)
   obtain⟨e5,e6,_⟩:=e4 _ e2;simp -implicitDefEqProofs only[e1,gQ,Nat.add_zero,e5,zP,sS,Nat.reduceAdd];refine Ev.aaT h2 hj (by omega) λx' Hz hj=>?_
   rw[if_pos (show i>0 by omega)] at E'
   exact J2 _ _ _ _ _ _ _ _ _ hj (by simp;omega) CX E'
  ·rw[if_neg (show ¬i>0 by omega)] at E'
   exact J2 _ _ _ _ _ _ _ _ _ hj (by
    rcases TJ with⟨h,h'⟩|h
    ·rw[h',h];rfl
    ·omega) CX E'
 ·rintro e vs H1 ⟨he,at_,xq,xc,lq,lc,m1,x4,bl,x6,cM,x8,aI,dQ,dU,aN,aM,aT,aW,hj,CX,TJ,E,rfl⟩;simp only at he;subst he;simp -implicitDefEqProofs only[Kd,xJ,sS,Nat.reduceAdd];obtain⟨_,o1,uD,hg⟩:=id hj;refine Ev.call (sw _ hg.q.ints.1 hg.c.ints.1 (by omega) (by omega)) ?_
  intro w Hz hw;refine Ev.call (lk (hU hj) hw) ?_;rintro v H2 ⟨rfl,hj⟩
  try simp -implicitDefEqProofs only[sS,Nat.reduceAdd]
  refine Ev.is (nY _ _) ?_
  try simp -implicitDefEqProofs only[sS,Nat.reduceAdd]
  refine Ev.ret ?_;rw[E];exact⟨by unfold Y.il Y.OM;rfl,by unfold Y.il Y.OM;exact hj⟩
end
section
open Go.Proofs.YtgfgglponbmgmaaGreatA
variable {α:Type} {t n:Nat} {G:Y.Ga} {u:Y.Tr α} {Q:Nat→α→Y.Ga→Prop}
theorem Safe.T5 (h:Y.Safe t n u G Q):Y.Safe t n (Y.norm u) G Q:=by
 induction u with
 |ret a=>exact h
 |ask q k ih=>exact h
 |off k ih=>cases n with
  |zero=>exact Y.Safe.zero
  |succ n=>exact ih false h
 |rc r u ih=>cases n with
  |zero=>exact Y.Safe.zero
  |succ n=>exact ih h
 |ld u ih=>cases n with
  |zero=>exact Y.Safe.zero
  |succ n=>exact ih h
theorem y4 (u:Y.Tr α): ∀l:List Int,Y.norm (Y.after u l)=Y.after u l
 | []=>Y.pA u
 |z::r=>by
  unfold Y.after;cases e:Y.norm u with
  |ret a=>rfl
  |ask q k=>exact y4 (k z) r
  |off k=>have:=Y.pA u;rw[e] at this;exact this
  |rc r' t=>have:=Y.pA u;rw[e] at this;exact this
  |ld t=>have:=Y.pA u;rw[e] at this;exact this
 termination_by l=>l.length
theorem Pf {op:jY}{i:Nat}(h1:G.ty 1=some (.inner 1 []))(h2:Y.full G 1 1):Y.Safe i FF (Sh op) G λ_ _ _=>True:=
 Y.Safe.bind ((Y.su (g:=FF+1) (FF+1) (n:=FF) (by omega) h1 h2).wk λj a G' _ _ _=>Y.Safe.ret λ_ _ _ _ _=>trivial)
end
section
open Go.Proofs.YtgfgglponbmgmaaGreatA
def Ew (G:Y.Ga):Prop:=G.ty 1=some (.inner 1 [])∧Y.full G 1 1
theorem Ew.mono {G G':Y.Ga}(h:Ew G)(g:G.le G'):Ew G':=⟨g.ty _ _ h.1,Y.full.mono g h.2⟩
def mG (i:Nat)(G:Y.Ga)(s:O6):Prop:=
 match s.pr with
 | .rd=>True
 | .ex t=>Y.Safe i (FF-s.T.length) (Y.after t s.T) G λ_ _ _=>True
theorem mG.mono {i:Nat}{G G':Y.Ga}{s:O6}(h:mG i G s)(g:Y.LeT i G G'):mG i G' s:=by
 unfold mG at h ⊢;cases e:s.pr with
 |rd=>trivial
 |ex t=>rw[e] at h;exact Y.Safe.mono h g
theorem mG.of {i:Nat}{G:Y.Ga}{s s':O6}(h:mG i G s)(h1:s'.T=s.T)(h2:s'.pr=s.pr):mG i G s':=by
 unfold mG at h ⊢;rw[h1,h2];exact h
structure TG (G:Y.Ga) (th:kl) (m:Y.Mm):Prop where
 inv:Y.bs G m
 root:Ew G
 safe: ∀i,i<3→(th i).busy=true→mG i G (th i)
def TI (th:kl)(m:Y.Mm):Prop:=∃G,TG G th m
variable {G:Y.Ga} {th jz:kl} {m m':Y.Mm} {i:Nat}
theorem TG.gX (h:TG G th m)(k:uo th jz):TG G jz m:=⟨h.inv,h.root,λj hj hb=>by
 obtain⟨_,a,b,c⟩:=k j;exact(h.safe j hj (by rw[←a];exact hb)).of b c⟩
theorem TG.begin (h:TG G th m)(hi:i<3)(k:XQ i th jz):TG G jz m:=by
 rcases k with rfl|⟨_,pr,proc,bud,op,hp,h24,rfl⟩
 ·exact h
 ·refine⟨h.inv,h.root,λj hj hb=>?_⟩
  unfold Fun.oU at hb ⊢;split at hb
  ·next e=>
   subst e;rw[if_pos rfl];unfold mG;cases pr with
   |rd=>trivial
   |ex t=>
    rcases hp with⟨_,_,rfl⟩|hp
    ·exact Safe.T5 (Pf h.root.1 h.root.2)
    ·have:=hp.proc;omega
  ·next e=>rw[if_neg e];exact h.safe j hj hb
theorem TG.pick (h:TG G th m)(hi:i<3)(hT:(th i).T.length<1048000)(k:A8 i th m jz m'): ∃G',TG G' jz m'∧Y.Own i G G'∧(m'=m∨∃q,m'=(Y.eB m q).2):=by
 obtain⟨kA,ht,⟨_,rfl,rfl⟩|⟨hb,done,T',b,hs,rfl⟩⟩:=k
 ·exact⟨G,h.gX ht,Y.Own.refl _ _,.inl rfl⟩
 have same: ∀{T1:List Int},T1=(th i).T→TG G (oU th i ⟨(th i).ti,b,(th i).gX,T1,(th i).pr⟩) m:=λe=>⟨h.inv,h.root,λj hj Pg=>by
  unfold Fun.oU at Pg ⊢;split at Pg
  ·next e'=>subst e';rw[if_pos rfl];exact(h.safe j hj hb).of e rfl
  ·next e'=>rw[if_neg e'];exact h.safe j hj Pg⟩
 rcases hs with⟨_,e,rfl⟩|⟨_,hs⟩
 ·exact⟨G,(same e).gX ht,Y.Own.refl _ _,.inl rfl⟩
 have hsf:=h.safe i hi hb;unfold mG at hsf;cases e:(th i).pr with
 |rd=>
  rw[e] at hs;obtain⟨rfl,z,rfl⟩:=hs;refine⟨G,TG.gX ⟨h.inv,h.root,λj hj Pg=>?_⟩ ht,Y.Own.refl _ _,.inl rfl⟩
  unfold Fun.oU at Pg ⊢;split at Pg
  ·next e'=>subst e';rw[if_pos rfl];unfold mG;rw[e];trivial
  ·next e'=>rw[if_neg e'];exact h.safe j hj Pg
 |ex t=>
  rw[e] at hs hsf;obtain⟨q,k,ea,rfl,rfl⟩:=hs;obtain⟨n,hn⟩: ∃n,FF-(th i).T.length=n+1:=⟨FF-(th i).T.length-1,by show 1048577-(th i).T.length=1048577-(th i).T.length-1+1;omega⟩
  simp only[hn] at hsf;obtain⟨G',i',own,sf⟩:=Y.Safe.step hsf (by rw[y4];exact ea) h.inv
  refine⟨G',TG.gX ⟨i',h.root.mono own.le,λj hj Pg=>?_⟩ ht,own,.inr ⟨q,rfl⟩⟩
  unfold Fun.oU at Pg ⊢;split at Pg
  ·next e'=>
   subst e';rw[if_pos rfl];unfold mG;simp only[e];rw[Y.FP,ea];have en:FF-((th j).T++[(Y.eB m q).1]).length=n:=by
    rw[List.length_append,List.length_singleton];have:1048577-(th j).T.length=n+1:=hn;show 1048577-((th j).T.length+1)=n
    omega
   rw[en];exact Safe.T5 sf
  ·next e'=>rw[if_neg e'];exact(h.safe j hj Pg).mono (own.let' (λh=>e' h))
theorem TI.keep:T0 TI:=⟨λ⟨G,h⟩ hi hT k=>by
  obtain⟨G',h',_⟩:=h.pick hi (hT _ hi) k;exact⟨G',h'⟩,λ⟨G,h⟩ hi k=>⟨G,h.begin hi k⟩⟩
def Ph (mx:Nat)(m':Y.Mm):Prop:=m'=C3 mx∨∃(f:Nat) (l:PL),l.length+1≤f∧l.length≤16384∧7+dK f l.length≤mx∧m'=((Y.dJ f l (C3 mx)).2).set 6 (Y.dJ f l (C3 mx)).1
theorem Ph.typed {mx:Nat}(h:Ph mx m')(hx:7≤mx∧mx≤16384): ∃G,Y.bs G m'∧Ew G:=by
 obtain⟨G,i,t,f,c⟩:=Y.Lw hx;rcases h with rfl|⟨fu,l,h1,h2,h3,rfl⟩
 ·exact⟨G,i,t,f⟩
 ·obtain⟨G',b⟩:=Et fu (l:=l) (m:=C3 mx) (G:=G) [0] h1 h2 i c (by simpa using h3)
  have so:Y.aQ G' 6 1 [0]:=Y.aQ.mono b.le ⟨1,[],0,t,by omega,rfl,rfl⟩
  exact⟨G',b.inv.El b.calm so (b.le.nz _ (f 0 (by omega))) b.fit,b.le.ty _ _ t,Y.full.mono b.le f⟩
end
section
open Go.Proofs.YtgfgglponbmgmaaGreatA
variable {G:ae} {H H':aa} {o o':aj} {p c mp f xp n i mx:Nat} {K:aa→aj→Prop} {q:Int} {x:Value} {l:PL} {m m':Y.Mm} {T:List Int} {th:kl} {L:List ku} {N M:Nat}
theorem T6 (H:aa):ay Tryz.prog 31 0 [] H=some (.slice (some ⟨H.length,0,none⟩) 0 0,H.new ⟨[],45,2,false⟩):=by kernel_rfl
theorem SB (hx:gN H o q x l)(hl:l.length≤1000000)(k:Int):aE (run G) 137 [x,cv k] H λv H'=>(∃j:Nat,v=cv j∧j≤l.length)∧H'=H:=by
 refine Ev.up (t:=λn=>VL (run G n) n x (cv k) H) ?_ λn=>QL ..
 simp -implicitDefEqProofs only[VL,sS,Nat.reduceAdd];refine Ev.loop (k:=l.length) (λkk vs Hx=>∃(j:Nat) (x4 aU:Value),vs=[x,cv k,x4,cv j,aU]∧Hx=H∧j+kk=l.length) (λr=>r.1= .exit 0∧r.2.2=H∧∃(j:Nat) (x4 aU:Value),r.2.1=[x,cv k,x4,cv j,aU]∧j≤l.length) ⟨0,_,_,rfl,rfl,by omega⟩ ?_ ?_
 ·rintro kk vs Hx ⟨j,x4,aU,rfl,rfl,hj⟩;have hw:IntKind.i64.wrap ((j:Int)+1)=((j+1:Nat):Int):=by rw[fL (by omega)];omega
  simp -implicitDefEqProofs only[JO,xi,hx.len,sS,Nat.reduceAdd];refine Ev.lss (λhq=>?_) (λhq=>?_)<;>try simp -implicitDefEqProofs only[sS,Nat.reduceAdd]
  ·obtain⟨i',off,b',e1,e2,e3,e4⟩:=hx.idx (j:=j) (by omega)
   obtain⟨e5,e6,_⟩:=e4 _ e2;simp -implicitDefEqProofs only[e1,gQ,Nat.add_zero,e5,sS,Nat.reduceAdd];refine Ev.lss (λhq=>?_) (λhq=>?_)<;>try simp -implicitDefEqProofs only[hw,sS,Nat.reduceAdd]
   ·exact Ev.ret (.inl ⟨rfl,kk-1,by omega,j+1,_,_,rfl,rfl,by omega⟩)
   ·exact Ev.ret (.inr ⟨by simp,rfl,rfl,j,_,_,rfl,by omega⟩)
  ·exact Ev.ret (.inr ⟨by simp,rfl,rfl,j,_,_,rfl,by omega⟩)
 ·rintro e vs Hx ⟨he,Dk,j,x4,aU,rfl,hj⟩;simp only at he Dk;subst he Dk;simp -implicitDefEqProofs only[JQ,xj,sS,Nat.reduceAdd];exact Ev.ret ⟨⟨j,rfl,hj⟩,rfl⟩
def Pj (H H':aa)(y:Value)(l:PL):Prop:=Ext H H'∧gS H' (o0.from H.length (-42)) (-42) y l
theorem aaV (hx:gN H o q x l)(hl:l.length≤100000)(k v:Int):aE (run G) 110 [x,cv k,cv v] H λy H'=>∃l',Pj H H' y l'∧l'.length≤l.length+1:=by
 refine Ev.up (t:=λn=>Wn (run G n) n x (cv k) (cv v) H) ?_ λn=>Rb ..
 simp -implicitDefEqProofs only[Wn,sS,Nat.reduceAdd];refine Ev.call (SB hx (by omega) k) ?_
 rintro _ H' ⟨⟨j,rfl,hj⟩,rfl⟩;obtain⟨H1,e1⟩: ∃z,z=H'.new ⟨[],45,2,false⟩:=⟨_,rfl⟩;have b0:=T6 H';rw[←e1] at b0;have f1:Fr H' o0 H1 (o0.up H'.length (-2)) [-2]:=by rw[e1];exact(Fr.refl _ _ _).new _ _
 have s1:gS H1 (o0.up H'.length (-2)) (-2) (.slice (some ⟨H'.length,0,none⟩) 0 0) []:=.inr ⟨H'.length,0,[],45,rfl,by rw[e1];exact aL,by simp,aP⟩
 have old: ∀{Hk:aa} {ok:aj},Fr H' o0 Hk ok [-2]→gN Hk (o.from H'.length 0) q x l∧Ext H' Hk:=λ{Hk ok} fk=>by
  have ex:Ext H' Hk:=Ext.of fk λi hi=>by show(-1:Int) ∉ [-2];simp
  exact⟨hx.fr (ex.fr o 0) (by simp),ex⟩
 obtain⟨PG,_⟩:=old f1;obtain⟨y1,c1,sr1⟩:=PG.ZE hj;obtain⟨x2,H2,o2,a2,s2,f2,_⟩:=gS.app 45 s1 sr1 (by simp;omega)
 have f12:=f1.tr f2;obtain⟨H3,e3⟩: ∃z,z=H2.new ⟨[cv k,cv v],45,2,false⟩:=⟨_,rfl⟩;have b3:=F2 k v H2;rw[←e3] at b3;have f3:Fr H2 o2 H3 (o2.up H2.length (-9)) [-2]:=by rw[e3];exact(Fr.refl _ _ _).new _ _
 have s3:=s2.fr (ps:=[]) (by rw[e3];exact(Fr.refl _ _ _).new _ _:Fr H2 o2 H3 (o2.up H2.length (-9)) []) (by simp)
 obtain⟨x4,H4,o4,a4,s4,f4,_⟩:=gS.app (y:=.slice (some ⟨H2.length,0,none⟩) 1 1) (m:=[(k,v)]) 45 s3 (Src.one (by rw[e3];exact aL)) (by simp;omega)
 have f14:=(f12.tr f3).tr f4;obtain⟨hx4,_⟩:=old f14;have J0: ∀(j':Nat) (x6 bP:Value),j'≤l.length→l.length≤j'+j'+1∨True→j≤j'→Ev (λn=>vo (run G n) n [x,cv k,cv v,x6,cv j',x4,bP] H4) λr=>∃l',Pj H' r.2 r.1 l'∧l'.length≤l.length+1:=by
  intro j' x6 bP y9 _ hjj;obtain⟨y5,c5,sr5⟩:=hx4.RG y9;obtain⟨x5,H5,o5,a5,s5,f5,_⟩:=gS.app 45 s4 sr5 (by simp;omega)
  simp -implicitDefEqProofs only[Kp,xY,c5,a5,sS,Nat.reduceAdd];have f15:=f14.tr f5;refine Ev.ret ⟨_,⟨(old f15).2,s5.relabel λi hi SC=>?_⟩,by simp;omega⟩
  rcases Nat.lt_or_ge i H'.length with g|g
  ·have:=f15.own i g
   rw[SC] at this;exact absurd this (by show(-2:Int)≠ -1;decide)
  ·exact CF g
 simp -implicitDefEqProofs only[b0,c1,a2,yS,b3,a4,hx.len,sS,Nat.reduceAdd];refine Ev.lss (λhq=>?_) (λhq=>?_)<;>try simp -implicitDefEqProofs only[sS,Nat.reduceAdd]
 ·obtain⟨i',off,b',e5,e6,e7,e8⟩:=hx4.idx (j:=j) (by omega)
  obtain⟨e9,_,_⟩:=e8 _ e6;simp -implicitDefEqProofs only[e5,gQ,Nat.add_zero,e9,sS,Nat.reduceAdd];refine Ev.eql (λhq=>?_) (λhq=>?_)<;>try simp -implicitDefEqProofs only[sS,Nat.reduceAdd]
  ·have hw:IntKind.i64.wrap ((j:Int)+1)=((j+1:Nat):Int):=by rw[fL (by omega)];omega
   simp -implicitDefEqProofs only[hw,sS,Nat.reduceAdd];exact J0 (j+1) _ _ (by omega) (.inr trivial) (by omega)
  ·exact J0 j _ _ hj (.inr trivial) (Nat.le_refl _)
 ·exact J0 j _ _ hj (.inr trivial) (Nat.le_refl _)
theorem Pk {v:Value}{zs:List Int}(hv:eG H v zs):aE (run G) 86 [v] H λy H'=>∃l,Pj H H' y l∧l.length≤60:=by
 refine Ev.up (t:=λn=>F86 (run G n) n v H) ?_ λn=>Wz ..
 simp -implicitDefEqProofs only[F86,sS,Nat.reduceAdd];refine Ev.loop (k:=60) (λkk vs Hx=>∃(j:Nat) (y:Value) (l:PL) (x2 aI x5:Value),vs=[v,x2,cv j,aI,y,x5]∧Pj H Hx y l∧l.length≤j∧j+kk=60) (λr=>r.1= .exit 0∧∃(y:Value) (l:PL) (x2 x4 aI x5:Value),r.2.1=[v,x2,x4,aI,y,x5]∧Pj H r.2.2 y l∧l.length≤60) ⟨0,_,[],_,_,_,rfl,⟨Ext.refl _,.nil⟩,by simp,rfl⟩ ?_ ?_
 ·rintro kk vs Hx ⟨j,y,l,x2,aI,x5,rfl,⟨ex,hs⟩,hl,hj⟩;have hvx:eG Hx v zs:=hv.keep λi b e dy=>by
   rcases hv with⟨e1,e2⟩|⟨j',off,cc,e1,hb⟩
   ·exact absurd e2 dy
   ·obtain⟨bb,g1,_⟩:=hb dy;rw[e1] at e;cases e;exact dZ (ex.old _ (ar g1))
  have hw:IntKind.i64.wrap ((j:Int)+1)=((j+1:Nat):Int):=by rw[fL (by omega)];omega
  simp -implicitDefEqProofs only[NU,Cj,hvx.len,sS,Nat.reduceAdd];refine Ev.lss (λhq=>?_) (λhq=>?_)<;>try simp -implicitDefEqProofs only[sS,Nat.reduceAdd]
  rotate_left
  ·exact Ev.ret (.inr ⟨by simp,rfl,y,l,_,_,_,_,rfl,⟨ex,hs⟩,by omega⟩)
  refine Ev.lss (λkt=>?_) (λkt=>?_)<;>try simp -implicitDefEqProofs only[sS,Nat.reduceAdd]
  rotate_left
  ·exact Ev.ret (.inr ⟨by simp,rfl,y,l,_,_,_,_,rfl,⟨ex,hs⟩,by omega⟩)
  obtain⟨qi,off,b,e1,e2,e3⟩:=hvx.idx (j:=j) (by omega)
  have e4:aq (.pointer (some ⟨qi,off,none⟩)) Hx=some (cv (zs.getD j 0)):=(ao qi off Hx e2).trans e3;simp -implicitDefEqProofs only[e1,e4,sS,Nat.reduceAdd];refine Ev.call (mi _ 97 (by omega)) ?_
  rintro _ H5 ⟨t,rfl,Yj,PN,rfl⟩
  try simp -implicitDefEqProofs only[sS,Nat.reduceAdd]
  refine Ev.call (aaV hs.r (by omega) _ _) ?_
  rintro y' H6 ⟨l',⟨ex6,hs6⟩,TF⟩;simp -implicitDefEqProofs only[hw,sS,Nat.reduceAdd];refine Ev.ret (.inl ⟨rfl,kk-1,by omega,j+1,y',l',_,_,_,rfl,⟨ex.trans ex6,hs6.relabel λi hi SC=>?_⟩,by omega,by omega⟩)
  rcases Nat.lt_or_ge i H.length with g|g
  ·have:i<H5.length:=Nat.lt_of_lt_of_le g ex.size;rw[CG this] at SC;exact absurd SC (by show(-1:Int)≠ -42;decide)
  ·exact CF g
 ·rintro e vs Hx ⟨he,y,l,x2,x4,aI,x5,rfl,hn,hl⟩;simp only at he;subst he;simp -implicitDefEqProofs only[NW,Ck,sS,Nat.reduceAdd];exact Ev.ret ⟨l,hn,hl⟩
def sA (H:aa)(x:Value)(l:List Int):Prop:=eG H x l∧∀a n c,x= .slice a n c→l.length≤c
theorem sA.cut (h:sA H x T){k j:Nat}(hk:k≤j)(hj:j≤T.length)(dy:T≠[]){lo hi:Option Value}(IS:db 0 lo=some (k:Int))(IT:db T.length hi=some (j:Int)): ∃y,pJ 1 H x lo hi=some y∧eG H y ((T.take j).drop k)∧∀a n c,y= .slice (some a) n c→∃a' n' c',x= .slice (some a') n' c'∧a.block=a'.block:=by
 obtain⟨sO,hc⟩:=h;rcases sO with⟨_,e⟩|⟨i,off,c,e,hb⟩
 ·exact absurd e dy
 ·obtain⟨b,g,he,hlen,EX⟩:=hb dy;have zm:=hc _ _ _ e;subst e;have hsc:pJ 1 H (.slice (some ⟨i,off,none⟩) T.length c) lo hi=some (.slice (some ⟨i,off+k*1,none⟩) (j-k) (c-k)):=by
   simp only[pJ,IS,IT,g,he];rw[if_pos (by omega)]
   simp
  have Af:((T.take j).drop k).length=j-k:=by simp;omega
  refine⟨_,hsc,.inr ⟨i,off+k*1,c-k,by rw[Af],λ_=>⟨b,g,he,by rw[Af];omega,?_⟩⟩,λa n c' e=>by cases e;exact⟨_,_,_,rfl,rfl⟩⟩
  have h1:=congrArg (λz=>(z.take j).drop k) EX
  simp only[List.take_take] at h1;rw[show min j T.length=j by omega] at h1
  rw[Af,List.map_drop,List.map_take];rw[←h1,List.drop_take,List.drop_drop,Nat.mul_one]
theorem aaW (h:sA H x T){k:Nat}:aE (run G) 87 [x,cv k] H λy H'=>H'=H∧∃zs,eG H y zs:=by
 refine Ev.up (t:=λn=>F87 (run G n) n x (cv k) H) ?_ λn=>WO ..
 simp -implicitDefEqProofs only[F87,h.1.len,sS,Nat.reduceAdd];refine Ev.gtr (λhq=>?_) (λhq=>?_)<;>try simp -implicitDefEqProofs only[sS,Nat.reduceAdd]
 ·obtain⟨y,e,hy,_⟩:=h.cut (k:=0) (j:=k) (by omega) (by omega) (by rintro rfl;simp at hq;omega) (lo:=none) (hi:=some (cv k)) rfl (by simp[db,ql])
  simp -implicitDefEqProofs only[e,sS,Nat.reduceAdd];exact Ev.ret ⟨rfl,_,hy⟩
 ·exact Ev.ret ⟨rfl,_,h.1⟩
end
end Go.Proofs.YtgfgglponbmgmaaGreat.Fun
end
