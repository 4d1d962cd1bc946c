/- Texts of the proof of peekPlays_holds, put together by a small program of ours (names shortened, spaces taken out). No condition beyond the given statement. -/
import Derived.Test.YtgfgglponbmgmaaGreatPKP11
import Derived.Test.YtgfgglponbmgmaaGreatPKP16
import Derived.Test.YtgfgglponbmgmaaGreatPKP13
import Derived.Test.YtgfgglponbmgmaaGreatPKP17
import Derived.Test.YtgfgglponbmgmaaGreatPKP35
import Derived.Test.YtgfgglponbmgmaaGreatPKP15
set_option linter.unusedVariables false
set_option linter.unusedSimpArgs false
set_option linter.unnecessarySimpa false
noncomputable section
section
namespace Go.Proofs.YtgfgglponbmgmaaGreat.Fun
open Go Go.RowKit Go.Proofs.YtgfgglponbmgmaaGreatA.Am
set_option maxRecDepth 10000
section
open Go.Proofs.YtgfgglponbmgmaaGreatA
variable {G:ae} {H H':aa} {o o':aj} {p c mp f xp n i mx:Nat} {K:aa→aj→Prop} {q:Int} {x:Value} {l:PL} {m m':Y.Mm} {T:List Int} {th:jc} {L:List jE} {N M:Nat} {α:Type}
theorem PY: ∀(f:Nat) {n:Nat},n<f→n≤16384→1≤n→dN f n+8≤10*n:=by
 intro f;induction f with
 |zero=>intro n h;omega
 |succ f ih=>
  intro n hf hn h1;rcases Nat.lt_or_ge n 2 with h2|h2
  ·have:n=1:=by omega
   subst this;simp[dN]
  have sK:2≤(n:Int)∧(n:Int)≤16384:=by omega
  have UM:=Y.nH sK;obtain⟨d,hd⟩: ∃d:Nat,(d:Int)=Y.bo n:=⟨(Y.bo n).toNat,by omega⟩
  have Tq:(Y.bo n).toNat=d:=by omega
  have ec:dN (f+1) n=4+2*d+lv (λi:Nat=>dN f (Y.cg n i).toNat) d:=by
   show(if n<2 then n+1 else _)=_
   rw[if_neg (by omega),Tq]
  have key: ∀i:Nat,i≤d→(lv (λi:Nat=>dN f (Y.cg n i).toNat) i:Int)+8*i≤10*cF n i:=by
   intro i;induction i with
   |zero=>intro _;simp[lv,cF]
   |succ i ihi=>
    intro hi;have a:=ihi (by omega)
    have b:=j8 sK (i:=i) ⟨by omega,by rw[←pN];omega⟩
    rw[←sD] at b;have c:=ih (n:=(Y.cg n i).toNat) (by omega) (by omega) (by omega)
    rw[cF, ←sD];show((lv (λi:Nat=>dN f (Y.cg n i).toNat) i+dN f (Y.cg n i).toNat:Nat):Int)+_≤_
    omega
  have a:=key d (Nat.le_refl _);rw[Bd sK (by rw[←pN];exact hd)] at a
  rw[ec];omega
theorem Tt: ∀(f:Nat) {n:Nat},n<f→n≤16384→aF (run G) 135 [cv n] H (Is H (cv (dN f n))):=by
 intro f;induction f with
 |zero=>intro n h;omega
 |succ f ih=>
  intro n hf hn;refine Ev.up (t:=λk=>WO (run G k) k (cv n) H) ?_ λk=>RG ..
  simp -implicitDefEqProofs only[WO,sS,Nat.reduceAdd];refine Ev.lss (λhq=>?_) (λhq=>?_)<;>try simp -implicitDefEqProofs only[sS,Nat.reduceAdd]
  ·omega
  refine Ev.gtr (λhq=>?_) (λhq=>?_)<;>try simp -implicitDefEqProofs only[sS,Nat.reduceAdd]
  ·omega
  refine Ev.lss (λhq=>?_) (λhq=>?_)<;>try simp -implicitDefEqProofs only[sS,Nat.reduceAdd]
  ·refine Ev.ret ⟨congrArg cv ?_,rfl⟩;rw[fZ (by omega)]
   show(n:Int)+1=((if n<2 then n+1 else _:Nat):Int)
   rw[if_pos (by omega)];simp
  have sK:2≤(n:Int)∧(n:Int)≤16384:=by omega
  have UM:=Y.nH sK;obtain⟨d,hd⟩: ∃d:Nat,(d:Int)=Y.bo n:=⟨(Y.bo n).toNat,by omega⟩
  have Tq:(Y.bo n).toNat=d:=by omega
  have ec:dN (f+1) n=4+2*d+lv (λi:Nat=>dN f (Y.cg n i).toNat) d:=by
   show(if n<2 then n+1 else _)=_
   rw[if_neg (by omega),Tq]
  have hle:=PY (f+1) hf hn (by omega)
  rw[ec] at hle;refine Ev.call (jZ _) ?_;rintro v H1 ⟨rfl,rfl⟩;rw[←pN, ←hd];have w1:IntKind.i64.wrap (2*(d:Int))=2*d:=fZ (by omega)
  have w2:IntKind.i64.wrap (4+2*(d:Int))=((4+2*d:Nat):Int):=by rw[fZ (by omega)];omega
  simp -implicitDefEqProofs only[w1,w2,sS,Nat.reduceAdd];obtain⟨g,eg⟩: ∃g:Nat→Nat,g=λi:Nat=>dN f (Y.cg n i).toNat:=⟨_,rfl⟩
  rw[ec, ←eg];rw[←eg] at hle;refine Ev.loop (k:=d) (λk vs Hx=>∃(j:Nat) (x2 aC aN bA:Value),Hx=H1∧j+k=d∧vs=[cv n,x2,aC,aN,cv j,bA,cv ((4+2*d+lv g j:Nat))])
   (λr=>r.1= .exit 0∧r.2.2=H1∧∃(x2 aC aN x4 bA:Value),r.2.1=[cv n,x2,aC,aN,x4,bA,cv ((4+2*d+lv g d:Nat))]) ⟨0,_,_,_,_,rfl,by omega,rfl⟩ ?_ ?_
  ·rintro k vs Hx ⟨j,x2,aC,aN,bA,rfl,Av,rfl⟩;simp -implicitDefEqProofs only[KA,xS,sS,Nat.reduceAdd];refine Ev.call (jZ _) ?_;rintro v H2 ⟨rfl,rfl⟩;rw[←pN, ←hd]
   try simp -implicitDefEqProofs only[sS,Nat.reduceAdd]
   refine Ev.lss (λhq=>?_) (λhq=>?_)<;>try simp -implicitDefEqProofs only[sS,Nat.reduceAdd]
   rotate_left
   ·have:j=d:=by omega
    subst this;exact Ev.ret (.inr ⟨by simp,rfl,rfl,_,_,_,_,_,rfl⟩)
   refine Ev.call (yU _ _) ?_;rintro v H3 ⟨rfl,rfl⟩;have b:=j8 sK (i:=j) ⟨by omega,by rw[←pN];omega⟩
   obtain⟨s,hs⟩: ∃s:Nat,(s:Int)=cg n j:=⟨(cg n j).toNat,by omega⟩
   rw[←hs];refine Ev.is (ih (n:=s) (by omega) (by omega)) ?_
   have hg:g j=dN f s:=by rw[eg];show dN f (Y.cg n j).toNat=_;rw[sD, ←hs];simp
   have tU:=Dc g (i:=j+1) d (by omega)
   have hsj:lv g (j+1)=lv g j+g j:=rfl;have w3:IntKind.i64.wrap (((4+2*d+lv g j:Nat):Int)+(dN f s:Nat))=((4+2*d+lv g (j+1):Nat):Int):=by rw[fZ (by omega)];omega
   have w4:IntKind.i64.wrap ((j:Int)+1)=((j+1:Nat):Int):=by rw[fZ (by omega)];omega
   simp -implicitDefEqProofs only[w3,w4,sS,Nat.reduceAdd];exact Ev.ret (.inl ⟨rfl,k-1,by omega,j+1,_,_,_,_,rfl,by omega,rfl⟩)
  ·rintro e vs Hx ⟨he,hx,x2,aC,aN,x4,bA,rfl⟩;simp only at he hx;subst he hx;simp -implicitDefEqProofs only[KC,xT,sS,Nat.reduceAdd];exact Ev.ret ⟨rfl,rfl⟩
theorem JM.mono {L:aa→aj→Prop}(h:JM K mp m H)(hL:bK [-70, -71] L)(k: ∀o,K H o→L H o):JM L mp m H:=by
 obtain⟨hK,o,h1,h2⟩:=h;exact⟨hL,o,h1,k o h2⟩
theorem JM.new (h:JM K mp m H)(b:eU):JM K mp m (H.new b):=h.ext ((Ext.refl H).new b)
structure KM (B:aa) (b:aj) (t u:Int) (x:Value) (lx:List Int) (y:Value) (ly:List Int) (H:aa) (o:aj):Prop where
 fr:Fr B b H o [-70, -71]
 q:oM H o t x lx
 c:oM H o u y ly
structure Tu (B:aa) (b:aj) (t u:Int):Prop where
 lt:t< -100∧u< -100
 ne:t≠u
 ft: ∀i,i<B.length→b i≠t
 fu: ∀i,i<B.length→b i≠u
theorem adM (B:aa)(b:aj): ∃t u,Tu B b t u:=by
 obtain⟨t,h1,h2⟩:=gI b B.length;exact⟨t,t-1,⟨by omega,by omega⟩,by omega,λi hi=>by have:=h2 i hi;omega,λi hi=>by have:=h2 i hi;omega⟩
section
variable {B:aa} {b:aj} {t u:Int} {y:Value} {lx ly:List Int} {k:Nat→Value→aa→Option α} {Q:α→Prop} {a:Int} {T ty:TypeId}
theorem KM.eZ (h2:Tu B b t u):bK [-70, -71] (KM B b t u x lx y ly):=λH o H' o' h f=>⟨h.fr.tr f,h.q.fr f (by have:=h2.lt;simp;omega),h.c.fr f (by have:=h2.lt;simp;omega)⟩
theorem Ev.abE (h2:Tu B b t u)(h:JM (KM B b t u x lx y ly) mp m H)(hb:lx.length+1≤4294967296)(hk: ∀x' H',JM (KM B b t u x' (lx++[a]) y ly) mp m H'→Ev (λn=>k n x' H') Q):
  Ev (λn=>af (df T 1 8 x (.slice (some ⟨H.length,0,none⟩) 1 1) (H.new ⟨[cv a],ty,1,false⟩)) (k n)) Q:=by
 obtain⟨_,o,hr,hf,hx,hy⟩:=h;obtain⟨s',H2,o2,e,s2,f2⟩:=Pa T ty a hx hb;rw[e];have gG:=h2.lt;exact hk s' H2 ⟨KM.eZ h2,o2,hr.fr f2 (by simp;omega) (by simp;omega),iM (hf.trans f2 (rs:=[t, -70, -71]) (by simp) (by simp)) h2.ft,s2,hy.fr f2 (by simp;exact λe=>h2.ne e.symm)⟩
theorem Ev.abF (h2:Tu B b t u)(h:JM (KM B b t u x lx y ly) mp m H)(hb:ly.length+1≤4294967296)(hk: ∀y' H',JM (KM B b t u x lx y' (ly++[a])) mp m H'→Ev (λn=>k n y' H') Q):
  Ev (λn=>af (df T 1 8 y (.slice (some ⟨H.length,0,none⟩) 1 1) (H.new ⟨[cv a],ty,1,false⟩)) (k n)) Q:=by
 obtain⟨_,o,hr,hf,hx,hy⟩:=h;obtain⟨s',H2,o2,e,s2,f2⟩:=Pa T ty a hy hb;rw[e];have gG:=h2.lt;exact hk s' H2 ⟨KM.eZ h2,o2,hr.fr f2 (by simp;omega) (by simp;omega),iM (hf.trans f2 (rs:=[u, -70, -71]) (by simp) (by simp)) h2.fu,hx.fr f2 (by simp;exact h2.ne),s2⟩
end
def GR (H H':aa)(w:Value)(l:List Int):Prop:=Ext H H'∧eM H' w l∧∀a n c,w= .slice (some a) n c→H.length≤a.block
theorem nI:aF (run G) 36 [] H λw H'=>GR H H' w [0]:=by
 refine Ev.up (t:=λn=>F36 (run G n) n H) ?_ λn=>N8 ..
 simp -implicitDefEqProofs only[F36,Ag,sS,Nat.reduceAdd];exact Ev.ret ⟨(Ext.refl _).new _,ln [0] _,λa n c e=>by cases e;exact Nat.le_refl _⟩
theorem EX (a b:Int):aF (run G) 147 [cv a,cv b] H λw H'=>GR H H' w [a,b]:=by
 refine Ev.up (t:=λn=>NX (run G n) n (cv a) (cv b) H) ?_ λn=>HI ..
 simp -implicitDefEqProofs only[NX,Sy,sS,Nat.reduceAdd];exact Ev.ret ⟨(Ext.refl _).new _,ln [a,b] _,λa n c e=>by cases e;exact Nat.le_refl _⟩
theorem sH (s:Int){q c:Value}{lq lc:List Int}(hq:eM H q lq)(hc:eM H c lc)(he:lc.length=lq.length+1)(hl:lq.length≤20000):
  aF (run G) 131 [cv s,q,c] H λw H'=>GR H H' w (Y.cR s lq lc):=by
 refine Ev.up (t:=λn=>NW (run G n) n (cv s) q c H) ?_ λn=>HF ..
 have hw:IntKind.i64.wrap ((lq.length:Int)+1)=(lq.length:Int)+1:=fZ (by omega)
 simp -implicitDefEqProofs only[NW,hq.len,hc.len,hw,sS,Nat.reduceAdd];refine Ev.neq (λh1=>?_) (λh1=>?_)<;>try simp -implicitDefEqProofs only[hc.len,OW,sS,Nat.reduceAdd]
 ·omega
 have s1:=oM.new H o0 (-2) 2 [(lc.length:Int),s,0,0,0];have f1:Fr H o0 (H.new ⟨[cv lc.length,cv s,cv 0,cv 0,cv 0],2,1,false⟩) (aj.up o0 H.length (-2)) [-2]:=(Fr.refl H o0 [-2]).new _ _;obtain⟨H1,e1⟩: ∃z,z=H.new ⟨[cv lc.length,cv s,cv 0,cv 0,cv 0],2,1,false⟩:=⟨_,rfl⟩;have keep: ∀{x:Value} {l:List Int} {H2:aa} {o2:aj},eM H x l→Fr H o0 H2 o2 [-2]→eM H2 x l:=λhx f=>hx.keep λi b e dz=>by
  rcases hx with⟨e1,e2⟩|⟨j,off,cc,e1,hb⟩
  ·exact absurd e2 dz
  ·obtain⟨bb,g1,_⟩:=hb dz;rw[e1] at e;cases e;exact f.same j (ar g1) (by simp)
 obtain⟨x2,H2,o2,a2,s2,f2,_⟩:=jY (H:=H1) 2 (by rw[e1];exact s1) (keep hq (by rw[e1];exact f1)) (by simp;omega)
 have f12:Fr H o0 H2 o2 [-2]:=by rw[e1] at f2;exact f1.tr f2
 obtain⟨x3,H3,o3,a3,s3,f3,_⟩:=jY 2 s2 (keep hc f12) (by simp;omega)
 have f13:=f12.tr f3;have eH:H.new ⟨[cv lc.length,cv s,cv 0,cv 0,cv 0],2,1,false⟩=H1:=e1.symm;simp -implicitDefEqProofs only[eH,List.length_cons,List.length_nil,sS,Nat.reduceAdd] at a2;simp -implicitDefEqProofs only[eH,a2,a3,sS,Nat.reduceAdd];refine Ev.ret ⟨Ext.of f13 (λi hi=>by simp),by rw[Y.tR he];exact s3.ints.1,λa n c e=>?_⟩
 have dz:[(lc.length:Int),s,0,0,0]++lq++lc≠[]:=by simp
 obtain⟨g1,g2⟩:=s3.ints.2 a n c e dz;rcases Nat.lt_or_ge a.block H.length with g|g
 ·have h9:o3 a.block= -1:=f13.own _ g;omega
 ·exact g
theorem lz (h:JM K mp m H){w:Value}{lw:List Int}(hw:GR H H' w lw):aF (run G) 35 [pv mp,w] H' λv H2=>v= .tuple #[cv (Y.dT m (.mk lw)).1,.bool (decide ((Y.dT m (.mk lw)).1>0))]∧JM K mp (Y.dT m (.mk lw)).2 H2:=
 I7 (h.ext hw.1) hw.2.1 λ_ a n c e=>by have:=hw.2.2 a n c e;have:=h.lt;omega
theorem Tv: ∀(N:Nat) {K:aa→aj→Prop} {H:aa} {m:Y.Mm} {x:Value} {L:PL} {q:Int},L.length=N→N≤16384→JM K mp m H→q≠ -70∧q≠ -71→(∀H o,K H o→gT H o q x L)→∀{f:Nat},N+1≤f→aF (run G) 136 [pv mp,x] H λv H'=>v=cv (Y.dM f L m).1∧JM K mp (Y.dM f L m).2 H':=by
 intro N;induction N using Nat.strongRecOn with
 |ind N ih=>
 intro K H m x L q hN hN2 h hq hx f hf;obtain⟨fy,rfl⟩: ∃fy,f=fy+1:=⟨f-1,by omega⟩
 refine Ev.up (t:=λn=>XT (run G n) n (pv mp) x H) ?_ λn=>Sh ..
 obtain⟨hK,o,hr,hk⟩:=id h;have hs:=hx _ _ hk;simp -implicitDefEqProofs only[XT,hs.len,sS,Nat.reduceAdd];refine Ev.eql (λh0=>?_) (λh0=>?_)<;>try simp -implicitDefEqProofs only[sS,Nat.reduceAdd]
 ·have eL:L=[]:=List.length_eq_zero_iff.1 (by omega)
  subst eL;refine Ev.call nI ?_;intro w Hz hw;refine Ev.call (lz h hw) ?_;rintro v H2 ⟨rfl,hj⟩
  try simp -implicitDefEqProofs only[sS,Nat.reduceAdd]
  refine Ev.is (nZ _ _) ?_
  try simp -implicitDefEqProofs only[sS,Nat.reduceAdd]
  exact Ev.ret ⟨by unfold Y.dM Y.Pq;rfl,by unfold Y.dM Y.Pq;exact hj⟩
 refine Ev.eql (λh1=>?_) (λh1=>?_)<;>try simp -implicitDefEqProofs only[sS,Nat.reduceAdd]
 ·obtain⟨kv,rfl⟩:=List.length_eq_one_iff.1 (show L.length=1 by omega)
  obtain⟨i,off,b,e1,e2,e3,e4⟩:=hs.idx (j:=0) (by omega)
  obtain⟨e5,e6,_⟩:=e4 H e2;simp only[Int.natCast_zero] at e1;simp -implicitDefEqProofs only[e1,gW,Nat.add_zero,e5,e6,sS,Nat.reduceAdd];refine Ev.call (EX _ _) ?_;intro w Hz hw;refine Ev.call (lz h hw) ?_;rintro v H2 ⟨rfl,hj⟩
  try simp -implicitDefEqProofs only[sS,Nat.reduceAdd]
  refine Ev.is (nZ _ _) ?_
  try simp -implicitDefEqProofs only[sS,Nat.reduceAdd]
  exact Ev.ret ⟨by unfold Y.dM Y.Pq;rfl,by unfold Y.dM Y.Pq;exact hj⟩
 have sK:2≤(L.length:Int)∧(L.length:Int)≤16384:=by omega
 have UM:=Y.nH sK;obtain⟨d,hd⟩: ∃d:Nat,(d:Int)=Y.bo L.length:=⟨(Y.bo L.length).toNat,by omega⟩
 have Tq:(Y.bo L.length).toNat=d:=by omega
 have hdl:d≤16384:=by have:=pA L.length;rw[←pN] at this;omega
 obtain⟨t,u,h2⟩:=adM H o;have ik: ∀{xq xc:Value} {lq lc:List Int} {m':Y.Mm} {H':aa},JM (KM H o t u xq lq xc lc) mp m' H'→JM K mp m' H':=λhj=>hj.mono hK λo' hg=>hK _ _ _ _ hk hg.fr
 have tU: ∀(H':aa) (o':aj),Fr H o H' o' [-70, -71]→gT H' o' q x L:=λH' o' f=>hs.fr f (by simp;omega)
 have X4:JM (KM H o t u (.slice none 0 0) [] (.slice none 0 0) []) mp m H:=⟨KM.eZ h2,o,hr,Fr.refl _ _ _,.inl ⟨rfl,rfl⟩,.inl ⟨rfl,rfl⟩⟩;have B:Y.dM (fy+1) L m=Y.iB fy L d 0 0 [] [] m:=by
  match L,h0,h1,Tq with
  | [],h0,_,_=>exact absurd rfl h0
  | [a],_,h1,_=>exact absurd rfl h1
  |a::b::l,_,_,Tq=>
   conv=>lhs;unfold Y.dM
   simp only[Tq]
 generalize hT:Y.dM (fy+1) L m=R at B
 refine Ev.loop (k:=d) (λk vs H1=>∃(i at_:Nat) (xq xc:Value) (lq lc:List Int) (m1:Y.Mm) (x4 bn x6 cP x8 dS dX aM aW aU:Value),JM (KM H o t u xq lq xc lc) mp m1 H1∧lc.length=i∧(i=0∧lq=[]∨lq.length+1=i)∧i+k=d∧(at_:Int)=cF L.length i∧R=Y.iB fy L k i at_ lq lc m1∧vs=[pv mp,x,x4,cv L.length,bn,x6,cP,x8,cv i,dS,dX,xq,cv at_,aM,xc,aW,aU])
  (λr=>r.1= .exit 0∧∃(at_:Nat) (xq xc:Value) (lq lc:List Int) (m1:Y.Mm) (x4 bn x6 cP x8 aI dS dX aN aM aW aU:Value),JM (KM H o t u xq lq xc lc) mp m1 r.2.2∧lc.length=d∧lq.length+1=d∧R=Y.iB fy L 0 d at_ lq lc m1∧r.2.1=[pv mp,x,x4,cv L.length,bn,x6,cP,x8,aI,dS,dX,xq,aN,aM,xc,aW,aU])
  ⟨0,0,_,_,[],[],m,_,_,_,_,_,_,_,_,_,_,X4,rfl,.inl ⟨rfl,rfl⟩,by omega,by simp[cF],B,rfl⟩ ?_ ?_
 ·rintro k vs H1 ⟨i,at_,xq,xc,lq,lc,m1,x4,bn,x6,cP,x8,dS,dX,aM,aW,aU,hj,Dh,UJ,hik,Zm,E,rfl⟩;simp -implicitDefEqProofs only[Lw,yL,sS,Nat.reduceAdd];refine Ev.call (jZ _) ?_;rintro v Qu ⟨rfl,rfl⟩;rw[←pN, ←hd]
  try simp -implicitDefEqProofs only[sS,Nat.reduceAdd]
  refine Ev.lss (λqx=>?_) (λqx=>?_)<;>try simp -implicitDefEqProofs only[sS,Nat.reduceAdd]
  rotate_left
  ·have:k=0:=by omega
   subst this;have:i=d:=by omega
   subst this;exact Ev.ret (.inr ⟨by simp,rfl,at_,_,_,lq,lc,m1,_,_,_,_,_,_,_,_,_,_,_,_,hj,Dh,UJ.resolve_left (by omega),E,rfl⟩)
  have Ng:(i:Int)<bo L.length:=by rw[←pN];omega
  have uJ:=j8 sK (i:=i) ⟨by omega,Ng⟩
  have hpt:=vR sK (i:=i) Ng;refine Ev.call (yU _ _) ?_;rintro v Qu ⟨rfl,rfl⟩;obtain⟨uy,aaY⟩: ∃z:Nat,(z:Int)=cg L.length i:=⟨(cg L.length i).toNat,by omega⟩
  obtain⟨k1,rfl⟩: ∃k1,k=k1+1:=⟨k-1,by omega⟩
  have esz:(Y.cg L.length i).toNat=uy:=by rw[sD];omega
  rw[←aaY];have hw:IntKind.i64.wrap ((i:Int)+1)=((i+1:Nat):Int):=by rw[fZ (by omega)];omega
  have uQ:IntKind.i64.wrap ((at_:Int)+uy)=((at_+uy:Nat):Int):=by rw[fZ (by omega)];omega
  have E':R=Y.iB fy L k1 (i+1) (at_+uy) (if i>0 then lq++[(L.getD at_ (0,0)).1] else lq) (lc++[(Y.dM fy ((L.drop at_).take uy) m1).1]) (Y.dM fy ((L.drop at_).take uy) m1).2:=by
   rw[E];conv=>lhs;unfold Y.iB
   simp only[esz]
  have J2: ∀{xq xc:Value} {Pf lc:List Int} {H1:aa} (x4 bn x6 cP x8 dS dX aW aU:Value),JM (KM H o t u xq Pf xc lc) mp m1 H1→Pf.length=i→lc.length=i→R=Y.iB fy L k1 (i+1) (at_+uy) Pf (lc++[(Y.dM fy ((L.drop at_).take uy) m1).1]) (Y.dM fy ((L.drop at_).take uy) m1).2→Ev (λn=>vP (run G n) n [pv mp,x,x4,cv L.length,bn,x6,cP,x8,cv i,dS,dX,xq,cv at_,cv uy,xc,aW,aU] H1) λr=>(r.1= .normal∧∃k',k'<k1+1∧∃(i at_:Nat) (xq xc:Value) (lq lc:List Int) (m1:Y.Mm) (x4 bn x6 cP x8 dS dX aM aW aU:Value),JM (KM H o t u xq lq xc lc) mp m1 r.2.2∧lc.length=i∧(i=0∧lq=[]∨lq.length+1=i)∧i+k'=d∧(at_:Int)=cF L.length i∧R=Y.iB fy L k' i at_ lq lc m1∧r.2.1=[pv mp,x,x4,cv L.length,bn,x6,cP,x8,cv i,dS,dX,xq,cv at_,aM,xc,aW,aU])∨(r.1≠ .normal∧r.1= .exit 0∧∃(at_:Nat) (xq xc:Value) (lq lc:List Int) (m1:Y.Mm) (x4 bn x6 cP x8 aI dS dX aN aM aW aU:Value),JM (KM H o t u xq lq xc lc) mp m1 r.2.2∧lc.length=d∧lq.length+1=d∧R=Y.iB fy L 0 d at_ lq lc m1∧r.2.1=[pv mp,x,x4,cv L.length,bn,x6,cP,x8,aI,dS,dX,xq,aN,aM,xc,aW,aU]):=by
   intro xq xc Pf lc H1 x4 bn x6 cP x8 dS dX aW aU hj UJ Dh E;simp -implicitDefEqProofs only[Lv,yK,uQ,sS,Nat.reduceAdd];obtain⟨_,o1,uT,hg⟩:=id hj;obtain⟨y,UK,MM⟩:=(tU _ _ hg.fr).cut (m:=at_) (n:=at_+uy) (lo:=some (cv at_)) (hi:=some (cv (at_+uy:Nat))) (by omega) (by omega) (by rw[CZ]) (by rw[CZ])
   simp -implicitDefEqProofs only[UK,sS,Nat.reduceAdd];have Ya:(L.take (at_+uy)).drop at_=(L.drop at_).take uy:=by rw[List.drop_take];congr 1;omega
   rw[Ya] at MM;have hjy:JM (λH' o'=>KM H o t u xq Pf xc lc H' o'∧gT H' o' q y ((L.drop at_).take uy)) mp m1 _:=⟨(KM.eZ h2).and (bK.ku (by simp;omega)),o1,uT,hg,MM⟩
   refine Ev.call (ih ((L.drop at_).take uy).length ?_ rfl ?_ hjy hq (λH' o' a=>a.2) (f:=fy) ?_) ?_
   ·simp;omega
   ·simp;omega
   ·simp;omega
   rintro v Hz ⟨rfl,MN⟩;have zg:=MN.mono (KM.eZ h2) λo' a=>a.1
   simp -implicitDefEqProofs only[Ag,sS,Nat.reduceAdd];refine Ev.abF h2 zg (by omega) λx' Hz hj=>?_
   simp -implicitDefEqProofs only[uQ,Lu,yJ,hw,sS,Nat.reduceAdd];exact Ev.ret (.inl ⟨rfl,k1,by omega,i+1,at_+uy,_,_,_,_,_,_,_,_,_,_,_,_,_,_,_,hj,by simp[Dh],.inr (by omega),by omega,by rw[cF];omega,E,rfl⟩)
  refine Ev.gtr (λkB=>?_) (λkB=>?_)<;>try simp -implicitDefEqProofs only[sS,Nat.reduceAdd]
  ·obtain⟨_,o1,uT,hg⟩:=id hj;obtain⟨i',off,b',e1,e2,e3,e4⟩:=(tU _ _ hg.fr).idx (j:=at_) (by omega)
   obtain⟨e5,e6,_⟩:=e4 _ e2;simp -implicitDefEqProofs only[e1,gW,Nat.add_zero,e5,Ag,sS,Nat.reduceAdd];refine Ev.abE h2 hj (by omega) λx' Hz hj=>?_
   rw[if_pos (show i>0 by omega)] at E'
   exact J2 _ _ _ _ _ _ _ _ _ hj (by simp;omega) Dh E'
  ·rw[if_neg (show ¬i>0 by omega)] at E'
   exact J2 _ _ _ _ _ _ _ _ _ hj (by
    rcases UJ with⟨h,h'⟩|h
    ·rw[h',h];rfl
    ·omega) Dh E'
 ·rintro e vs H1 ⟨he,at_,xq,xc,lq,lc,m1,x4,bn,x6,cP,x8,aI,dS,dX,aN,aM,aW,aU,hj,Dh,UJ,E,rfl⟩;simp only at he;subst he;simp -implicitDefEqProofs only[LD,yM,sS,Nat.reduceAdd];obtain⟨_,o1,uT,hg⟩:=id hj;refine Ev.call (sH _ hg.q.ints.1 hg.c.ints.1 (by omega) (by omega)) ?_
  intro w Hz hw;refine Ev.call (lz (ik hj) hw) ?_;rintro v H2 ⟨rfl,hj⟩
  try simp -implicitDefEqProofs only[sS,Nat.reduceAdd]
  refine Ev.is (nZ _ _) ?_
  try simp -implicitDefEqProofs only[sS,Nat.reduceAdd]
  refine Ev.ret ?_;rw[E];exact⟨by unfold Y.iB Y.Pq;rfl,by unfold Y.iB Y.Pq;exact hj⟩
end
section
open Go.Proofs.YtgfgglponbmgmaaGreatA
variable {α:Type} {t n:Nat} {G:Y.Ga} {u:Y.Tr α} {Q:Nat→α→Y.Ga→Prop}
theorem Safe.U7 (h:Y.Safe t n u G Q):Y.Safe t n (Y.norm u) G Q:=by
 induction u with
 |ret a=>exact h
 |ask q k ih=>exact h
 |off k ih=>cases n with
  |zero=>exact Y.Safe.zero
  |succ n=>exact ih false h
 |rc r u ih=>cases n with
  |zero=>exact Y.Safe.zero
  |succ n=>exact ih h
 |ld u ih=>cases n with
  |zero=>exact Y.Safe.zero
  |succ n=>exact ih h
theorem zx (u:Y.Tr α): ∀l:List Int,Y.norm (Y.after u l)=Y.after u l
 | []=>Y.pB u
 |z::r=>by
  unfold Y.after;cases e:Y.norm u with
  |ret a=>rfl
  |ask q k=>exact zx (k z) r
  |off k=>have:=Y.pB u;rw[e] at this;exact this
  |rc r' t=>have:=Y.pB u;rw[e] at this;exact this
  |ld t=>have:=Y.pB u;rw[e] at this;exact this
 termination_by l=>l.length
theorem PZ {op:kf}{i:Nat}(h1:G.ty 1=some (.inner 1 []))(h2:Y.full G 1 1):Y.Safe i FF (Ta op) G λ_ _ _=>True:=
 Y.Safe.bind ((Y.sE (g:=FF+1) (FF+1) (n:=FF) (by omega) h1 h2).wk λj a G' _ _ _=>Y.Safe.ret λ_ _ _ _ _=>trivial)
end
section
open Go.Proofs.YtgfgglponbmgmaaGreatA
def EY (G:Y.Ga):Prop:=G.ty 1=some (.inner 1 [])∧Y.full G 1 1
theorem EY.mono {G G':Y.Ga}(h:EY G)(g:G.le G'):EY G':=⟨g.ty _ _ h.1,Y.full.mono g h.2⟩
def mO (i:Nat)(G:Y.Ga)(s:PN):Prop:=
 match s.pr with
 | .rd=>True
 | .ex t=>Y.Safe i (FF-s.T.length) (Y.after t s.T) G λ_ _ _=>True
theorem mO.mono {i:Nat}{G G':Y.Ga}{s:PN}(h:mO i G s)(g:Y.n9 i G G'):mO i G' s:=by
 unfold mO at h ⊢;cases e:s.pr with
 |rd=>trivial
 |ex t=>rw[e] at h;exact Y.Safe.mono h g
theorem mO.of {i:Nat}{G:Y.Ga}{s s':PN}(h:mO i G s)(h1:s'.T=s.T)(h2:s'.pr=s.pr):mO i G s':=by
 unfold mO at h ⊢;rw[h1,h2];exact h
structure TG (G:Y.Ga) (th:jc) (m:Y.Mm):Prop where
 inv:Y.bs G m
 root:EY G
 safe: ∀i,i<3→(th i).busy=true→mO i G (th i)
def TI (th:jc)(m:Y.Mm):Prop:=∃G,TG G th m
variable {G:Y.Ga} {th hZ:jc} {m m':Y.Mm} {i:Nat}
theorem TG.hY (h:TG G th m)(k:uH th hZ):TG G hZ m:=⟨h.inv,h.root,λj hj hb=>by
 obtain⟨_,a,b,c⟩:=k j;exact(h.safe j hj (by rw[←a];exact hb)).of b c⟩
theorem TG.begin (h:TG G th m)(hi:i<3)(k:PT i th hZ):TG G hZ m:=by
 rcases k with rfl|⟨_,pr,proc,bud,op,hp,h24,rfl⟩
 ·exact h
 ·refine⟨h.inv,h.root,λj hj hb=>?_⟩
  unfold Fun.oh at hb ⊢;split at hb
  ·next e=>
   subst e;rw[if_pos rfl];unfold mO;cases pr with
   |rd=>trivial
   |ex t=>
    rcases hp with⟨_,_,rfl⟩|hp
    ·exact Safe.U7 (PZ h.root.1 h.root.2)
    ·have:=hp.proc;omega
  ·next e=>rw[if_neg e];exact h.safe j hj hb
theorem TG.pick (h:TG G th m)(hi:i<3)(hT:(th i).T.length<1048000)(k:sG i th m hZ m'): ∃G',TG G' hZ m'∧Y.Own i G G'∧(m'=m∨∃q,m'=(Y.dT m q).2):=by
 obtain⟨js,ht,⟨_,rfl,rfl⟩|⟨hb,done,T',b,hs,rfl⟩⟩:=k
 ·exact⟨G,h.hY ht,Y.Own.refl _ _,.inl rfl⟩
 have same: ∀{T1:List Int},T1=(th i).T→TG G (oh th i ⟨(th i).ti,b,(th i).hY,T1,(th i).pr⟩) m:=λe=>⟨h.inv,h.root,λj hj P0=>by
  unfold Fun.oh at P0 ⊢;split at P0
  ·next e'=>subst e';rw[if_pos rfl];exact(h.safe j hj hb).of e rfl
  ·next e'=>rw[if_neg e'];exact h.safe j hj P0⟩
 rcases hs with⟨_,e,rfl⟩|⟨_,hs⟩
 ·exact⟨G,(same e).hY ht,Y.Own.refl _ _,.inl rfl⟩
 have hsf:=h.safe i hi hb;unfold mO at hsf;cases e:(th i).pr with
 |rd=>
  rw[e] at hs;obtain⟨rfl,z,rfl⟩:=hs;refine⟨G,TG.hY ⟨h.inv,h.root,λj hj P0=>?_⟩ ht,Y.Own.refl _ _,.inl rfl⟩
  unfold Fun.oh at P0 ⊢;split at P0
  ·next e'=>subst e';rw[if_pos rfl];unfold mO;rw[e];trivial
  ·next e'=>rw[if_neg e'];exact h.safe j hj P0
 |ex t=>
  rw[e] at hs hsf;obtain⟨q,k,ea,rfl,rfl⟩:=hs;obtain⟨n,hn⟩: ∃n,FF-(th i).T.length=n+1:=⟨FF-(th i).T.length-1,by show 1048577-(th i).T.length=1048577-(th i).T.length-1+1;omega⟩
  simp only[hn] at hsf;obtain⟨G',i',own,sf⟩:=Y.Safe.step hsf (by rw[zx];exact ea) h.inv
  refine⟨G',TG.hY ⟨i',h.root.mono own.le,λj hj P0=>?_⟩ ht,own,.inr ⟨q,rfl⟩⟩
  unfold Fun.oh at P0 ⊢;split at P0
  ·next e'=>
   subst e';rw[if_pos rfl];unfold mO;simp only[e];rw[Y.yY,ea];have en:FF-((th j).T++[(Y.dT m q).1]).length=n:=by
    rw[List.length_append,List.length_singleton];have:1048577-(th j).T.length=n+1:=hn;show 1048577-((th j).T.length+1)=n
    omega
   rw[en];exact Safe.U7 sf
  ·next e'=>rw[if_neg e'];exact(h.safe j hj P0).mono (own.let' (λh=>e' h))
theorem TI.keep:U3 TI:=⟨λ⟨G,h⟩ hi hT k=>by
  obtain⟨G',h',_⟩:=h.pick hi (hT _ hi) k;exact⟨G',h'⟩,λ⟨G,h⟩ hi k=>⟨G,h.begin hi k⟩⟩
def P1 (mx:Nat)(m':Y.Mm):Prop:=m'=Dl mx∨∃(f:Nat) (l:PL),l.length+1≤f∧l.length≤16384∧7+dN f l.length≤mx∧m'=((Y.dM f l (Dl mx)).2).set 6 (Y.dM f l (Dl mx)).1
theorem P1.typed {mx:Nat}(h:P1 mx m')(hx:7≤mx∧mx≤16384): ∃G,Y.bs G m'∧EY G:=by
 obtain⟨G,i,t,f,c⟩:=Y.Mo hx;rcases h with rfl|⟨fu,l,h1,h2,h3,rfl⟩
 ·exact⟨G,i,t,f⟩
 ·obtain⟨G',b⟩:=EW fu (l:=l) (m:=Dl mx) (G:=G) [0] h1 h2 i c (by simpa using h3)
  have so:Y.aQ G' 6 1 [0]:=Y.aQ.mono b.le ⟨1,[],0,t,by omega,rfl,rfl⟩
  exact⟨G',b.inv.EO b.calm so (b.le.nz _ (f 0 (by omega))) b.fit,b.le.ty _ _ t,Y.full.mono b.le f⟩
end
section
open Go.Proofs.YtgfgglponbmgmaaGreatA
variable {G:ae} {H H':aa} {o o':aj} {p c mp f xp n i mx:Nat} {K:aa→aj→Prop} {q:Int} {x:Value} {l:PL} {m m':Y.Mm} {T:List Int} {th:jc} {L:List jE} {N M:Nat}
theorem U8 (H:aa):ay Tryz.prog 31 0 [] H=some (.slice (some ⟨H.length,0,none⟩) 0 0,H.new ⟨[],45,2,false⟩):=by kernel_rfl
theorem Tw (hx:gT H o q x l)(hl:l.length≤1000000)(k:Int):aF (run G) 137 [x,cv k] H λv H'=>(∃j:Nat,v=cv j∧j≤l.length)∧H'=H:=by
 refine Ev.up (t:=λn=>XF (run G n) n x (cv k) H) ?_ λn=>R6 ..
 simp -implicitDefEqProofs only[XF,sS,Nat.reduceAdd];refine Ev.loop (k:=l.length) (λkk vs Hx=>∃(j:Nat) (x4 aV:Value),vs=[x,cv k,x4,cv j,aV]∧Hx=H∧j+kk=l.length) (λr=>r.1= .exit 0∧r.2.2=H∧∃(j:Nat) (x4 aV:Value),r.2.1=[x,cv k,x4,cv j,aV]∧j≤l.length) ⟨0,_,_,rfl,rfl,by omega⟩ ?_ ?_
 ·rintro kk vs Hx ⟨j,x4,aV,rfl,rfl,hj⟩;have hw:IntKind.i64.wrap ((j:Int)+1)=((j+1:Nat):Int):=by rw[fZ (by omega)];omega
  simp -implicitDefEqProofs only[Lc,yr,hx.len,sS,Nat.reduceAdd];refine Ev.lss (λhq=>?_) (λhq=>?_)<;>try simp -implicitDefEqProofs only[sS,Nat.reduceAdd]
  ·obtain⟨i',off,b',e1,e2,e3,e4⟩:=hx.idx (j:=j) (by omega)
   obtain⟨e5,e6,_⟩:=e4 _ e2;simp -implicitDefEqProofs only[e1,gW,Nat.add_zero,e5,sS,Nat.reduceAdd];refine Ev.lss (λhq=>?_) (λhq=>?_)<;>try simp -implicitDefEqProofs only[hw,sS,Nat.reduceAdd]
   ·exact Ev.ret (.inl ⟨rfl,kk-1,by omega,j+1,_,_,rfl,rfl,by omega⟩)
   ·exact Ev.ret (.inr ⟨by simp,rfl,rfl,j,_,_,rfl,by omega⟩)
  ·exact Ev.ret (.inr ⟨by simp,rfl,rfl,j,_,_,rfl,by omega⟩)
 ·rintro e vs Hx ⟨he,DE,j,x4,aV,rfl,hj⟩;simp only at he DE;subst he DE;simp -implicitDefEqProofs only[Ld,yu,sS,Nat.reduceAdd];exact Ev.ret ⟨⟨j,rfl,hj⟩,rfl⟩
def P2 (H H':aa)(y:Value)(l:PL):Prop:=Ext H H'∧gY H' (o0.from H.length (-42)) (-42) y l
theorem abG (hx:gT H o q x l)(hl:l.length≤100000)(k v:Int):aF (run G) 110 [x,cv k,cv v] H λy H'=>∃l',P2 H H' y l'∧l'.length≤l.length+1:=by
 refine Ev.up (t:=λn=>Wf (run G n) n x (cv k) (cv v) H) ?_ λn=>Q8 ..
 simp -implicitDefEqProofs only[Wf,sS,Nat.reduceAdd];refine Ev.call (Tw hx (by omega) k) ?_
 rintro _ H' ⟨⟨j,rfl,hj⟩,rfl⟩;obtain⟨H1,e1⟩: ∃z,z=H'.new ⟨[],45,2,false⟩:=⟨_,rfl⟩;have b0:=U8 H';rw[←e1] at b0;have f1:Fr H' o0 H1 (o0.up H'.length (-2)) [-2]:=by rw[e1];exact(Fr.refl _ _ _).new _ _
 have s1:gY H1 (o0.up H'.length (-2)) (-2) (.slice (some ⟨H'.length,0,none⟩) 0 0) []:=.inr ⟨H'.length,0,[],45,rfl,by rw[e1];exact aL,by simp,aP⟩
 have old: ∀{Hk:aa} {ok:aj},Fr H' o0 Hk ok [-2]→gT Hk (o.from H'.length 0) q x l∧Ext H' Hk:=λ{Hk ok} fk=>by
  have ex:Ext H' Hk:=Ext.of fk λi hi=>by show(-1:Int) ∉ [-2];simp
  exact⟨hx.fr (ex.fr o 0) (by simp),ex⟩
 obtain⟨Qs,_⟩:=old f1;obtain⟨y1,c1,sr1⟩:=Qs.aay hj;obtain⟨x2,H2,o2,a2,s2,f2,_⟩:=gY.app 45 s1 sr1 (by simp;omega)
 have f12:=f1.tr f2;obtain⟨H3,e3⟩: ∃z,z=H2.new ⟨[cv k,cv v],45,2,false⟩:=⟨_,rfl⟩;have b3:=GA k v H2;rw[←e3] at b3;have f3:Fr H2 o2 H3 (o2.up H2.length (-9)) [-2]:=by rw[e3];exact(Fr.refl _ _ _).new _ _
 have s3:=s2.fr (ps:=[]) (by rw[e3];exact(Fr.refl _ _ _).new _ _:Fr H2 o2 H3 (o2.up H2.length (-9)) []) (by simp)
 obtain⟨x4,H4,o4,a4,s4,f4,_⟩:=gY.app (y:=.slice (some ⟨H2.length,0,none⟩) 1 1) (m:=[(k,v)]) 45 s3 (Src.one (by rw[e3];exact aL)) (by simp;omega)
 have f14:=(f12.tr f3).tr f4;obtain⟨hx4,_⟩:=old f14;have J0: ∀(j':Nat) (x6 bG:Value),j'≤l.length→l.length≤j'+j'+1∨True→j≤j'→Ev (λn=>vq (run G n) n [x,cv k,cv v,x6,cv j',x4,bG] H4) λr=>∃l',P2 H' r.2 r.1 l'∧l'.length≤l.length+1:=by
  intro j' x6 bG zC _ hjj;obtain⟨y5,c5,sr5⟩:=hx4.Sp zC;obtain⟨x5,H5,o5,a5,s5,f5,_⟩:=gY.app 45 s4 sr5 (by simp;omega)
  simp -implicitDefEqProofs only[Ka,xr,c5,a5,sS,Nat.reduceAdd];have f15:=f14.tr f5;refine Ev.ret ⟨_,⟨(old f15).2,s5.relabel λi hi Tx=>?_⟩,by simp;omega⟩
  rcases Nat.lt_or_ge i H'.length with g|g
  ·have:=f15.own i g
   rw[Tx] at this;exact absurd this (by show(-2:Int)≠ -1;decide)
  ·exact C1 g
 simp -implicitDefEqProofs only[b0,c1,a2,zf,b3,a4,hx.len,sS,Nat.reduceAdd];refine Ev.lss (λhq=>?_) (λhq=>?_)<;>try simp -implicitDefEqProofs only[sS,Nat.reduceAdd]
 ·obtain⟨i',off,b',e5,e6,e7,e8⟩:=hx4.idx (j:=j) (by omega)
  obtain⟨e9,_,_⟩:=e8 _ e6;simp -implicitDefEqProofs only[e5,gW,Nat.add_zero,e9,sS,Nat.reduceAdd];refine Ev.eql (λhq=>?_) (λhq=>?_)<;>try simp -implicitDefEqProofs only[sS,Nat.reduceAdd]
  ·have hw:IntKind.i64.wrap ((j:Int)+1)=((j+1:Nat):Int):=by rw[fZ (by omega)];omega
   simp -implicitDefEqProofs only[hw,sS,Nat.reduceAdd];exact J0 (j+1) _ _ (by omega) (.inr trivial) (by omega)
  ·exact J0 j _ _ hj (.inr trivial) (Nat.le_refl _)
 ·exact J0 j _ _ hj (.inr trivial) (Nat.le_refl _)
theorem P3 {v:Value}{zs:List Int}(hv:eM H v zs):aF (run G) 86 [v] H λy H'=>∃l,P2 H H' y l∧l.length≤60:=by
 refine Ev.up (t:=λn=>F86 (run G n) n v H) ?_ λn=>WJ ..
 simp -implicitDefEqProofs only[F86,sS,Nat.reduceAdd];refine Ev.loop (k:=60) (λkk vs Hx=>∃(j:Nat) (y:Value) (l:PL) (x2 aI x5:Value),vs=[v,x2,cv j,aI,y,x5]∧P2 H Hx y l∧l.length≤j∧j+kk=60) (λr=>r.1= .exit 0∧∃(y:Value) (l:PL) (x2 x4 aI x5:Value),r.2.1=[v,x2,x4,aI,y,x5]∧P2 H r.2.2 y l∧l.length≤60) ⟨0,_,[],_,_,_,rfl,⟨Ext.refl _,.nil⟩,by simp,rfl⟩ ?_ ?_
 ·rintro kk vs Hx ⟨j,y,l,x2,aI,x5,rfl,⟨ex,hs⟩,hl,hj⟩;have hvx:eM Hx v zs:=hv.keep λi b e dz=>by
   rcases hv with⟨e1,e2⟩|⟨j',off,cc,e1,hb⟩
   ·exact absurd e2 dz
   ·obtain⟨bb,g1,_⟩:=hb dz;rw[e1] at e;cases e;exact ek (ex.old _ (ar g1))
  have hw:IntKind.i64.wrap ((j:Int)+1)=((j+1:Nat):Int):=by rw[fZ (by omega)];omega
  simp -implicitDefEqProofs only[Oa,Cs,hvx.len,sS,Nat.reduceAdd];refine Ev.lss (λhq=>?_) (λhq=>?_)<;>try simp -implicitDefEqProofs only[sS,Nat.reduceAdd]
  rotate_left
  ·exact Ev.ret (.inr ⟨by simp,rfl,y,l,_,_,_,_,rfl,⟨ex,hs⟩,by omega⟩)
  refine Ev.lss (λkB=>?_) (λkB=>?_)<;>try simp -implicitDefEqProofs only[sS,Nat.reduceAdd]
  rotate_left
  ·exact Ev.ret (.inr ⟨by simp,rfl,y,l,_,_,_,_,rfl,⟨ex,hs⟩,by omega⟩)
  obtain⟨qi,off,b,e1,e2,e3⟩:=hvx.idx (j:=j) (by omega)
  have e4:aq (.pointer (some ⟨qi,off,none⟩)) Hx=some (cv (zs.getD j 0)):=(an qi off Hx e2).trans e3;simp -implicitDefEqProofs only[e1,e4,sS,Nat.reduceAdd];refine Ev.call (lu _ 97 (by omega)) ?_
  rintro _ H5 ⟨t,rfl,Vp,Pg,rfl⟩
  try simp -implicitDefEqProofs only[sS,Nat.reduceAdd]
  refine Ev.call (abG hs.r (by omega) _ _) ?_
  rintro y' H6 ⟨l',⟨ex6,hs6⟩,UH⟩;simp -implicitDefEqProofs only[hw,sS,Nat.reduceAdd];refine Ev.ret (.inl ⟨rfl,kk-1,by omega,j+1,y',l',_,_,_,rfl,⟨ex.trans ex6,hs6.relabel λi hi Tx=>?_⟩,by omega,by omega⟩)
  rcases Nat.lt_or_ge i H.length with g|g
  ·have:i<H5.length:=Nat.lt_of_lt_of_le g ex.size;rw[C2 this] at Tx;exact absurd Tx (by show(-1:Int)≠ -42;decide)
  ·exact C1 g
 ·rintro e vs Hx ⟨he,y,l,x2,x4,aI,x5,rfl,hn,hl⟩;simp only at he;subst he;simp -implicitDefEqProofs only[Oc,Ct,sS,Nat.reduceAdd];exact Ev.ret ⟨l,hn,hl⟩
def sI (H:aa)(x:Value)(l:List Int):Prop:=eM H x l∧∀a n c,x= .slice a n c→l.length≤c
theorem sI.cut (h:sI H x T){k j:Nat}(hk:k≤j)(hj:j≤T.length)(dz:T≠[]){lo hi:Option Value}(Jp:de 0 lo=some (k:Int))(Jq:de T.length hi=some (j:Int)): ∃y,pI 1 H x lo hi=some y∧eM H y ((T.take j).drop k)∧∀a n c,y= .slice (some a) n c→∃a' n' c',x= .slice (some a') n' c'∧a.block=a'.block:=by
 obtain⟨qv,hc⟩:=h;rcases qv with⟨_,e⟩|⟨i,off,c,e,hb⟩
 ·exact absurd e dz
 ·obtain⟨b,g,he,hlen,Fu⟩:=hb dz;have zM:=hc _ _ _ e;subst e;have Ty:pI 1 H (.slice (some ⟨i,off,none⟩) T.length c) lo hi=some (.slice (some ⟨i,off+k*1,none⟩) (j-k) (c-k)):=by
   simp only[pI,Jp,Jq,g,he];rw[if_pos (by omega)]
   simp
  have AB:((T.take j).drop k).length=j-k:=by simp;omega
  refine⟨_,Ty,.inr ⟨i,off+k*1,c-k,by rw[AB],λ_=>⟨b,g,he,by rw[AB];omega,?_⟩⟩,λa n c' e=>by cases e;exact⟨_,_,_,rfl,rfl⟩⟩
  have h1:=congrArg (λz=>(z.take j).drop k) Fu
  simp only[List.take_take] at h1;rw[show min j T.length=j by omega] at h1
  rw[AB,List.map_drop,List.map_take];rw[←h1,List.drop_take,List.drop_drop,Nat.mul_one]
theorem abH (h:sI H x T){k:Nat}:aF (run G) 87 [x,cv k] H λy H'=>H'=H∧∃zs,eM H y zs:=by
 refine Ev.up (t:=λn=>F87 (run G n) n x (cv k) H) ?_ λn=>Xg ..
 simp -implicitDefEqProofs only[F87,h.1.len,sS,Nat.reduceAdd];refine Ev.gtr (λhq=>?_) (λhq=>?_)<;>try simp -implicitDefEqProofs only[sS,Nat.reduceAdd]
 ·obtain⟨y,e,hy,_⟩:=h.cut (k:=0) (j:=k) (by omega) (by omega) (by rintro rfl;simp at hq;omega) (lo:=none) (hi:=some (cv k)) rfl (by simp[de,qm])
  simp -implicitDefEqProofs only[e,sS,Nat.reduceAdd];exact Ev.ret ⟨rfl,_,hy⟩
 ·exact Ev.ret ⟨rfl,_,h.1⟩
end
end Go.Proofs.YtgfgglponbmgmaaGreat.Fun
end
