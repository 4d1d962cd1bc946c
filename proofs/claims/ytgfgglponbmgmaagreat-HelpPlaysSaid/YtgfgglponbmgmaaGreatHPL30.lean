/- Texts of the proof of helpPlays_holds, put together by a small program of ours (names shortened, spaces taken out). No condition beyond the given statement. -/
import Derived.Test.YtgfgglponbmgmaaGreatHPL29
import Derived.Test.YtgfgglponbmgmaaGreatHPL13
import Derived.Test.YtgfgglponbmgmaaGreatHPL18
import Derived.Test.YtgfgglponbmgmaaGreatHPL11
import Derived.Test.YtgfgglponbmgmaaGreatHPL15
import Derived.Test.YtgfgglponbmgmaaGreatHPL12
import Derived.Test.YtgfgglponbmgmaaGreatHPL17
set_option linter.unusedVariables false
set_option linter.unusedSimpArgs false
set_option linter.unnecessarySimpa false
noncomputable section
section
namespace Go.Proofs.YtgfgglponbmgmaaGreatA.Y
def Ga.none:Ga:=⟨λ_=>Option.none,λ_=>False,λ_=>False,λ_ _=>False,λ_=>False,λ_=>False,λ_ _=>False⟩
theorem Qd {mx:Nat}(h:mx≤16384):bs Ga.none ⟨[],mx⟩ where
 room:=λ_ _ k=>nomatch k
 PR:=λ_ _ _ _ k=>nomatch k
 iD:=λ_ _ k=>nomatch k
 dB:=λ_ _ k=>False.elim k
 ml:=λ_ k=>False.elim k
 inst:=λ_ k=>False.elim k
 fresh:=⟨λ_ k=>False.elim k,λ_ k=>False.elim k,λ_ _ k=>False.elim k⟩
 top:=⟨Nat.zero_le _,h⟩
structure Calm (G:Ga):Prop where
 inst: ∀e,¬G.inst e
 dB: ∀s w,¬G.dB s w
 ml: ∀e,¬G.ml e
theorem Calm.make {G:Ga}{a:Int}{r:Rec}{ws:List Int}(h:Calm G):Calm (G.make a r ws):=⟨h.inst,h.dB,h.ml⟩
theorem Ni {mx:Nat}(h:7≤mx∧mx≤16384): ∃G,bs G ⟨[1,0,0,0,0,57,0],mx⟩∧G.ty 1=some (.inner 1 [])∧full G 1 1∧Calm G:=by
 have i0:=Qd (mx:=mx) h.2;have e1:cT 0 [] [0]=[1,0,0,0,0,0]:=by decide
 have i1:=i0.make (r:=.inner 1 []) (ws:=[1,0,0,0,0,0]) ⟨by omega,0,[],[0],e1.symm,rfl,rfl,λi hi=>.inl (by
  have:i=0:=by omega
  subst this;rfl)⟩ (by simp;omega)
 have i2:=i1.make (r:=.empty) (ws:=[0]) rfl (by simp;omega)
 have c0:Calm Ga.none:=⟨λ_ k=>k,λ_ _ k=>k,λ_ k=>k⟩
 have c2:Calm _:=(c0.make (a:=1) (r:=.inner 1 []) (ws:=[1,0,0,0,0,0])).make (a:=7) (r:=.empty) (ws:=[0]);have so:aQ (((Ga.none).make 1 (.inner 1 []) [1,0,0,0,0,0]).make 7 .empty [0]) 6 1 [0]:=⟨1,[],0,by simp[Ga.make],by omega,by decide,rfl⟩
 have i3:=bs.part (s:=6) (x:=57) i2 so (by rfl) ⟨⟨by omega,.empty,by simp[Ga.make,show aw 57=7 by decide]⟩,.inl (by decide)⟩
 refine⟨_,i3,?_,?_,⟨c2.inst,c2.dB,c2.ml⟩⟩
 ·simp[Ga.make,Ga.MO]
 ·intro i hi;have:i=0:=by omega
  subst this;exact .inr (by decide)
theorem bs.Ft {G:Ga}{m:Mm}{s o x:Int}{p:List Nat}(h:bs G m)(hc:Calm G)(so:aQ G s o p)(hz:G.nz s)(hx:di G p x):bs G (m.set s x):=
 h.wg (Ga.le.refl G) rfl so (λ_ k=>.inl k) rfl rfl ⟨hx.1.1,.inr ⟨hz,.inl hx⟩⟩ (λ_ _ _ _=>.inl id) (λe _ _ _ _ k=>absurd k (hc.inst e)) rfl rfl (λw k=>absurd k (hc.dB s w)) h.ml h.inst
def Qe (m:Mm)(ws:List Int):Int×Mm:=db m (.mk ws)
mutual
def dN:Nat→PL→Mm→Int×Mm
 |0,_,m=>(0,m)
 |f+1,l,m=>
  match l with
  | []=>let r:=Qe m [0];(fm 1 r.1,r.2)
  | [kv]=>let r:=Qe m [kv.1,kv.2];(fm 2 r.1,r.2)
  |l=>iF f l (bq l.length).toNat 0 0 [] [] m
def iF:Nat→PL→Nat→Nat→Nat→List Int→List Int→Mm→Int×Mm
 |_,l,0,_,_,q,c,m=>let r:=Qe m (cT l.length q c);(fm 3 r.1,r.2)
 |f,l,r+1,i,cI,q,c,m=>
  let s:=(cj l.length i).toNat
  let q':=if i>0 then q++[(l.getD cI (0,0)).1] else q
  let w:=dN f ((l.drop cI).take s) m
  iF f l r (i+1) (cI+s) q' (c++[w.1]) w.2
end
end Go.Proofs.YtgfgglponbmgmaaGreatA.Y
end
section
namespace Go.Proofs.YtgfgglponbmgmaaGreat.Fun
open Go Go.RowKit Go.Proofs.YtgfgglponbmgmaaGreatA.Am
set_option maxRecDepth 10000
section
open Go.Proofs.YtgfgglponbmgmaaGreatA
variable {G:ae} {H H':aa} {o o':aj} {mp:Nat} {m:Y.Mm}
def qp (H:aa)(mp:Nat)(m:Y.Mm):Prop:=∃(a b c d s:Value) (ty:TypeId),H.get mp=some ⟨[a,s,b,c,d],ty,1,false⟩∧eO H s m.cs
theorem Dq (h:qp H mp m)(hl:m.cs.length≤65536)(a:Int):aF (run G) 33 [pv mp,cv a] H (Is H (cv (m.at a))):=by
 refine Ev.up (t:=λk=>F33 (run G k) k (pv mp) (cv a) H) ?_ λk=>Yh ..
 obtain⟨_,_,_,_,s,ty,g,hs⟩:=h;have M1:aq (.pointer (some ⟨mp,1,none⟩)) H=some s:=an mp 1 H g;simp -implicitDefEqProofs only[F33,M1,hs.len,sS,Nat.reduceAdd];refine Ev.lss (λhq=>?_) (λhq=>?_)<;>try simp -implicitDefEqProofs only[M1,hs.len,sS,Nat.reduceAdd]
 ·refine Ev.ret ⟨?_,rfl⟩;unfold Y.Mm.at;rw[if_neg (by unfold Y.Mm.used;omega)]
 refine Ev.gtr (λkn=>?_) (λkn=>?_)<;>try simp -implicitDefEqProofs only[M1,hs.len,sS,Nat.reduceAdd]
 ·refine Ev.ret ⟨?_,rfl⟩;unfold Y.Mm.at;rw[if_neg (by unfold Y.Mm.used;omega)]
 ·obtain⟨j,hj⟩: ∃j:Nat,a-1=j:=⟨(a-1).toNat,by omega⟩
  have hw:IntKind.i64.wrap (a-1)=(j:Int):=by rw[ga (by omega),hj]
  obtain⟨q,off,b,hix,hb,hbc⟩:=hs.idx (show j<m.cs.length by omega)
  have LT:=an q off H hb;rw[hbc] at LT;simp -implicitDefEqProofs only[hw,hix,LT,sS,Nat.reduceAdd];refine Ev.ret ⟨?_,rfl⟩;have ej:(a-1).toNat=j:=by omega
  unfold Y.Mm.at;rw[if_pos (by unfold Y.Mm.used;omega),ej]
theorem wj (h:qp H mp m)(hl:m.cs.length≤65536)(a:Int):aF (run G) 53 [pv mp,cv a] H (Is H (cv (Y.lB m a))):=by
 refine Ev.up (t:=λk=>F53 (run G k) k (pv mp) (cv a) H) ?_ λk=>W2 ..
 simp -implicitDefEqProofs only[F53,sS,Nat.reduceAdd];refine Ev.is (Dq h hl a) ?_
 try simp -implicitDefEqProofs only[sS,Nat.reduceAdd]
 refine Ev.is (hX _) ?_
 try simp -implicitDefEqProofs only[sS,Nat.reduceAdd]
 refine Ev.neq (λh1=>?_) (λh1=>?_)<;>try simp -implicitDefEqProofs only[sS,Nat.reduceAdd]
 ·exact Ev.ret ⟨by unfold Y.lB;rw[if_pos h1],rfl⟩
 refine Ev.is (n3 _) ?_;simp -implicitDefEqProofs only[NA _ (j:=4) (by omega),NA _ (j:=3) (by omega),NA _ (j:=2) (by omega),sS,Nat.reduceAdd]
 refine Ev.is (Dq h hl _) ?_
 try simp -implicitDefEqProofs only[sS,Nat.reduceAdd]
 refine Ev.eql (λh2=>?_) (λh2=>?_)<;>try simp -implicitDefEqProofs only[NA _ (j:=3) (by omega),NA _ (j:=2) (by omega),sS,Nat.reduceAdd]
 ·refine Ev.is (Dq h hl _) ?_
  try simp -implicitDefEqProofs only[sS,Nat.reduceAdd]
  exact Ev.ret ⟨by unfold Y.lB;rw[if_neg (by simp[h1]),if_pos h2],rfl⟩
 ·refine Ev.is (Dq h hl _) ?_
  try simp -implicitDefEqProofs only[sS,Nat.reduceAdd]
  exact Ev.ret ⟨by unfold Y.lB;rw[if_neg (by simp[h1]),if_neg h2],rfl⟩
section
variable {B:aa} {b:aj} {t:Int}
theorem qp.fr (h:qp B mp m)(f:Fr B b H o []):qp H mp m:=by
 obtain⟨a1,a2,a3,a4,s,ty,g,hs⟩:=h;refine⟨a1,a2,a3,a4,s,ty,by rw[f.same mp (ar g) (by simp)];exact g,hs.keep λi bb e dC=>?_⟩
 rcases hs with⟨e1,e2⟩|⟨j,off,cc,e1,hb⟩
 ·exact absurd e2 dC
 ·obtain⟨bb,g1,_⟩:=hb dC;rw[e1] at e;cases e;exact f.same j (ar g1) (by simp)
theorem Vl (a b:Int):aE Tryz.prog 69 [(0,cv a),(1,cv b)]=some (.agg #[cv a,cv b]):=by kernel_rfl
theorem Vm (a b:Int)(H:aa):ay Tryz.prog 93 1 [(0,.agg #[cv a,cv b])] H=some (.slice (some ⟨H.length,0,none⟩) 1 1,H.new ⟨[cv a,cv b],69,2,false⟩):=by kernel_rfl
theorem TE (hm:qp B mp m)(hl:m.cs.length≤65536)(ht: ∀i,i<B.length→b i≠t): ∀(n:Nat) {w:Int} {l:List (Int×Int)},2*l.length+(if Y.kd w=4 then 1 else 0)=n→Y.eX m w l→∀{H:aa} {o:aj} {x:Value} {L:PL},Fr B b H o []→gZ H o t x L→L.length+l.length≤1000000→aF (run G) 81 [pv mp,cv w,x] H λv H'=>∃o',Fr B b H' o' []∧gZ H' o' t v (L++l):=by
 intro n;induction n using Nat.strongRecOn with
 |ind n ih=>
 intro w l hn hB H o x L f hs hb;have hmH:=hm.fr f;refine Ev.up (t:=λk=>F81 (run G k) k (pv mp) (cv w) x H) ?_ λk=>Xa ..
 simp -implicitDefEqProofs only[F81,sS,Nat.reduceAdd];refine Ev.is (n3 _) ?_
 try simp -implicitDefEqProofs only[sS,Nat.reduceAdd]
 refine Ev.is (hX _) ?_
 try simp -implicitDefEqProofs only[sS,Nat.reduceAdd]
 cases hB with
 |none h3 h4=>
  refine Ev.eql (λh=>absurd h h4) (λ_=>?_)
  try simp -implicitDefEqProofs only[sS,Nat.reduceAdd]
  refine Ev.eql (λh=>absurd h h3) (λ_=>?_)
  simp -implicitDefEqProofs only[EN,vH,sS,Nat.reduceAdd];exact Ev.ret ⟨o,f,by simpa using hs⟩
 |reb h4 h3 h=>
  refine Ev.eql (λ_=>?_) (λh=>absurd h4 h)
  try simp -implicitDefEqProofs only[sS,Nat.reduceAdd]
  refine Ev.is (Dq hmH hl _) ?_
  try simp -implicitDefEqProofs only[sS,Nat.reduceAdd]
  rw[if_pos h4] at hn;refine Ev.call (ih (2*l.length) (by omega) (by rw[if_neg (by omega)];omega) h f hs hb) ?_
  rintro v H' hq
  try simp -implicitDefEqProofs only[sS,Nat.reduceAdd]
  exact Ev.ret hq
 |inner h3 hL=>
  refine Ev.eql (λh=>by omega) (λ_=>?_)
  try simp -implicitDefEqProofs only[sS,Nat.reduceAdd]
  refine Ev.eql (λ_=>?_) (λh=>absurd h3 h)
  try simp -implicitDefEqProofs only[sS,Nat.reduceAdd]
  refine Ev.is (Dq hmH hl _) ?_
  try simp -implicitDefEqProofs only[sS,Nat.reduceAdd]
  rw[if_neg (by omega)] at hn
  refine Ev.loop (I:=λk vs H1=>∃(i:Int) (x1 v6 bo bQ fU v30 v10:Value) (o1:aj) (L1 rest:PL),k=rest.length∧0≤i∧i+rest.length≤l.length∧vs=[pv mp,cv w,x1,v6,bo,bQ,cv (Y.aw w),fU,cv i,cv (m.at (Y.aw w)),v30,v10]∧Y.Hs m (Y.aw w) (m.at (Y.aw w)) i rest∧L1++rest=L++l∧Fr B b H1 o1 []∧gZ H1 o1 t x1 L1)
   (R:=λr=>r.1= .exit 1∧∃(x1 v6 bo bQ fU v30 v10 v9 v8:Value) (o1:aj),r.2.1=[pv mp,cv w,x1,v6,bo,bQ,cv (Y.aw w),fU,v9,v8,v30,v10]∧Fr B b r.2.2 o1 []∧gZ r.2.2 o1 t x1 (L++l)) (k:=l.length) ?_ ?_ ?_
  ·exact⟨0,_,_,_,_,_,_,_,o,L,l,rfl,by omega,by omega,rfl,hL,rfl,f,hs⟩
  ·rintro k vs H1 ⟨i,x1,v6,bo,bQ,fU,v30,v10,o1,L1,rest,rfl,i0,ib,rfl,hr,e1,f1,s1⟩;have le:=congrArg List.length e1;simp only[List.length_append] at le;simp -implicitDefEqProofs only[OP,CF,sS,Nat.reduceAdd];cases hr with
   |done hd=>
    refine Ev.lss (λh=>absurd h hd) (λ_=>?_)
    try simp -implicitDefEqProofs only[sS,Nat.reduceAdd]
    refine Ev.ret (.inr ⟨by simp,rfl,_,_,_,_,_,_,_,_,_,o1,rfl,f1,?_⟩)
    rw[←e1];simpa using s1
   |next hd ZK u6=>
    rename_i la lb;simp only[List.length_cons,List.length_append] at le ib;refine Ev.lss (λ_=>?_) (λh=>absurd hd h)
    try simp -implicitDefEqProofs only[sS,Nat.reduceAdd]
    refine Ev.is (kV _ _ _) ?_;simp -implicitDefEqProofs only[Vl,Vm,sS,Nat.reduceAdd];have g1':Fr H1 o1 (H1.new ⟨[cv (Y.aw w),cv (Y.dr (Y.aw w) (m.at (Y.aw w)) i)],69,2,false⟩) (o1.up H1.length (-9)) []:=(Fr.refl H1 o1 []).new _ _;obtain⟨x',H2,o2,e,s2,f2,_⟩:=gZ.app (y:=.slice (some ⟨H1.length,0,none⟩) 1 1) (m:=[(Y.aw w,Y.dr (Y.aw w) (m.at (Y.aw w)) i)]) 69 (gZ.fr s1 g1' (by simp)) (Src.one (aL)) (by simp only[List.length_singleton];omega)
    rw[e];have f3:Fr B b H2 o2 []:=iS ((f1.wk (ps:=[]) (qs:=[t]) (by simp)).tr ((g1'.wk (by simp)).tr f2)) ht
    try simp -implicitDefEqProofs only[sS,Nat.reduceAdd]
    refine Ev.is (wj (hm.fr f3) hl _) ?_
    try simp -implicitDefEqProofs only[sS,Nat.reduceAdd]
    refine Ev.call (ih (2*la.length+(if Y.kd (Y.lB m (Y.dr (Y.aw w) (m.at (Y.aw w)) i))=4 then 1 else 0)) (by split<;>omega) rfl ZK f3 s2 (by simp;omega)) ?_
    rintro v H3 ⟨o3,f4,s3⟩;simp -implicitDefEqProofs only[ga (show -9223372036854775808≤i+1∧i+1≤9223372036854775807 by omega),sS,Nat.reduceAdd]
    refine Ev.ret (.inl ⟨rfl,lb.length,by simp;omega,i+1,_,_,_,_,_,_,_,o3,_,lb,rfl,by omega,by omega,rfl,u6,?_,f4,s3⟩)
    rw[←e1];simp
  ·rintro e vs H1 ⟨he,x1,v6,bo,bQ,fU,v30,v10,v9,v8,o1,hv,f1,s1⟩;simp only at he hv f1 s1;subst he hv;simp -implicitDefEqProofs only[EN,vH,sS,Nat.reduceAdd];exact Ev.ret ⟨o1,f1,s1⟩
end
end
end Go.Proofs.YtgfgglponbmgmaaGreat.Fun
end
section
namespace Go.Proofs.YtgfgglponbmgmaaGreat.Fun.R
open Go Go.RowKit Go.Proofs.YtgfgglponbmgmaaGreatA.Am
set_option maxRecDepth 10000
section
variable {G:ae} {H H':aa} {o o':aj} {p m:Nat} {K K':aa→aj→Prop}
def Av (H:aa)(o:aj)(p m:Nat):Prop:=
 ∃(tape w:Value) (T W:List Int) (i:Nat) (nk na nx ny rec laid:Int) (ty:TypeId),
  H.get p=some ⟨[tape,cv i,.bool (decide (m=0)),cv nk,cv na,cv nx,cv ny,w,cv rec,cv laid],ty,1,false⟩∧o p=p∧
  dH H o (-50) tape T∧T.length≤1048576∧dH H o (-51) w W∧(m≠0→i≤T.length∧m=T.length-i+1)∧(nk=0∨nk=1)
theorem Av.fr {ps:List Int}(h:Av H o p m)(f:Fr H o H' o' ps)(h1:(p:Int) ∉ ps)(h2:(-50:Int) ∉ ps)(h3:(-51:Int) ∉ ps):Av H' o' p m:=by
 obtain⟨tape,w,T,W,i,nk,na,nx,ny,rec,laid,ty,g,ho,ht,hT,hw,hi⟩:=h;exact⟨tape,w,T,W,i,nk,na,nx,ny,rec,laid,ty,by rw[f.same p (ar g) (by rw[ho];exact h1)];exact g,by rw[f.own p (ar g)];exact ho,ht.fr f h2,hT,hw.fr f h3,hi⟩
def J (K:aa→aj→Prop)(p m:Nat)(H:aa):Prop:=bH [(p:Int)] K∧∃o,Av H o p m∧K H o
def JW (K:aa→aj→Prop)(p m:Nat)(H:aa)(w:Value):Prop:=bH [(p:Int)] K∧∃o,Av H o p m∧K H o∧∃l,dH H o (-51) w l
theorem J.mono {L:aa→aj→Prop}(h:J K p m H)(hL:bH [(p:Int)] L)(k: ∀o,K H o→L H o):J L p m H:=by
 obtain⟨hK,o,h1,h2⟩:=h;exact⟨hL,o,h1,k o h2⟩
theorem J.Hc (h:J K p m H):JW K p m H (.slice none 0 0):=by
 obtain⟨hK,o,h1,h2⟩:=h;exact⟨hK,o,h1,h2,[],.nil⟩
theorem J.off (h:J K p m H):aq (.pointer (some ⟨p,2,none⟩)) H=some (.bool (decide (m=0))):=by
 obtain⟨hK,o,⟨tape,w,T,W,i,nk,na,nx,ny,rec,laid,ty,g,_⟩,_⟩:=h;exact an p 2 H g
theorem abp {k a x y:Int}{w:Value}(h:JW K p m H w)(D2:k=1):
  aF (run G) 160 [pv p,nA k a x y w] H λv H'=>∃z,v=cv z∧J K p (m-1) H':=by
 obtain⟨hK,o,⟨tape,w0,T,W,i,nk,na,nx,ny,rec,laid,ty,g,ho,ht,hT,Tf,hi,hnk⟩,hk,l,hw⟩:=h;obtain⟨wb,wc,ew⟩:=hw.1.isSlice;obtain⟨tb,tc,et⟩:=ht.1.isSlice;obtain⟨H1,e1⟩: ∃z,z=H.new ⟨[cv k,cv a,cv x,cv y,w],112,1,false⟩:=⟨_,rfl⟩;have bx:=C4 k a x y (b:=wb) (n:=l.length) (c:=wc) H;rw[←ew, ←e1] at bx;have hp:=ar g;obtain⟨o1,eo1⟩: ∃z,z=o.up H.length (-9):=⟨_,rfl⟩;have f1:Fr H o H1 o1 []:=by rw[e1,eo1];exact(Fr.refl H o []).new _ _
 have g1:H1.get p=some ⟨[tape,cv i,.bool (decide (m=0)),cv nk,cv na,cv nx,cv ny,w0,cv rec,cv laid],ty,1,false⟩:=by rw[e1,dq hp];exact g
 have gb:H1.get H.length=some ⟨[cv k,cv a,cv x,cv y,w],112,1,false⟩:=by rw[e1];exact aL
 have Kr:o1 p=p:=by rw[f1.own p hp];exact ho
 have L2:=an p 2 H1 g1;have L1:=an p 1 H1 g1;have L0:=an p 0 H1 g1;simp only[List.getElem?_cons_succ,List.getElem?_cons_zero] at L2 L1 L0;have tl:=ht.1.len;by_cases m0:m=0
 ·subst m0;refine aF.is (v:=cv 0) (H':=H1) (λn=>?_) ⟨0,rfl,hK,o1,⟨tape,w0,T,W,i,nk,na,nx,ny,rec,laid,ty,g1,Kr,ht.fr f1 (by simp),hT,Tf.fr f1 (by simp),by simp,hnk⟩,hK _ _ _ _ hk (f1.wk (by simp))⟩
  rw[pA];simp -implicitDefEqProofs [GV,bx,Bj,gX,L2]
 ·obtain⟨hi1,hm⟩:=hi m0;have dm:decide (m=0)=false:=by simp[m0]
  rw[dm] at L2;by_cases gH:i<T.length
  ·have Hd:(i:Int)<T.length:=by omega
   obtain⟨H2,e2⟩: ∃z,z=H1.put p ⟨[tape,cv (i+1:Nat),.bool (decide (m=0)),cv nk,cv na,cv nx,cv ny,w0,cv rec,cv laid],ty,1,false⟩:=⟨_,rfl⟩;have BU:IntKind.i64.wrap ((i:Int)+1)=((i+1:Nat):Int):=by rw[ga (by omega)];omega
   have w7:IntKind.i64.wrap (((i+1:Nat):Int)-1)=(i:Int):=by rw[ga (by omega)];omega
   have S1:=gY p 1 ((i+1:Nat):Int) H1 g1 rfl (by simp)
   simp only[List.set_cons_succ,List.set_cons_zero] at S1;rw[←e2] at S1;have g2:H2.get p=some ⟨[tape,cv (i+1:Nat),.bool (decide (m=0)),cv nk,cv na,cv nx,cv ny,w0,cv rec,cv laid],ty,1,false⟩:=by rw[e2];exact aG g1
   have f2:Fr H o H2 o1 [(p:Int)]:=by rw[e2];exact(f1.wk (by simp)).put λ_=>by simp[ho]
   have C8:=ht.fr f2 (by simp)
   obtain⟨q,off,b,hix,hb,hbc⟩:=C8.1.idx gH;have L1':=an p 1 H2 g2;have L0':=an p 0 H2 g2;simp only[List.getElem?_cons_succ,List.getElem?_cons_zero] at L1' L0';have LT:=an q off H2 hb;rw[hbc] at LT;refine aF.is (v:=cv (T.getD i 0)) (H':=H2) (λn=>?_) ⟨_,rfl,hK,o1,⟨tape,w0,T,W,i+1,nk,na,nx,ny,rec,laid,ty,by rw[g2];congr 3;simp;omega,Kr,C8,hT,Tf.fr f2 (by simp),λ_=>by omega,hnk⟩,hK _ _ _ _ hk f2⟩
   rw[pA];simp -implicitDefEqProofs [-Int.natCast_add,GV,bx,Bj,gX,L2,L1,L0,tl,sv,Hd,Ju,Jv,BU,w7,S1,L1',L0',hix,LT]
  ·have Hd: ¬(i:Int)<T.length:=by omega
   obtain⟨H2,e2⟩: ∃z,z=H1.put p ⟨[tape,cv i,.bool true,cv nk,cv na,cv nx,cv ny,w0,cv rec,cv laid],ty,1,false⟩:=⟨_,rfl⟩;have S1:=sA p 2 (.bool true) H1 g1 rfl (by simp) rfl rfl rfl
   simp only[List.set_cons_succ,List.set_cons_zero] at S1;rw[←e2] at S1;have g2:H2.get p=some ⟨[tape,cv i,.bool true,cv nk,cv na,cv nx,cv ny,w0,cv rec,cv laid],ty,1,false⟩:=by rw[e2];exact aG g1
   have gb2:H2.get H.length=some ⟨[cv k,cv a,cv x,cv y,w],112,1,false⟩:=by rw[e2,bt (by omega)];exact gb
   have LB:dh 5 (pv H.length) H2=some (nA k a x y w):=by simp[dh,aR,gb2]
   obtain⟨H3,e3⟩: ∃z,z=H2.put p ⟨[tape,cv i,.bool true,cv k,cv a,cv x,cv y,w,cv rec,cv laid],ty,1,false⟩:=⟨_,rfl⟩;have S2:bE 5 (.pointer (some ⟨p,3,none⟩)) (nA k a x y w) H2=some (undef,H3):=by
    subst ew;simp[bE,bZ,g2,Value.cells,known,aD,dz,e3]
   have g3:H3.get p=some ⟨[tape,cv i,.bool true,cv k,cv a,cv x,cv y,w,cv rec,cv laid],ty,1,false⟩:=by rw[e3];exact aG g2
   have f3:Fr H o H3 o1 [(p:Int)]:=by rw[e3,e2];exact((f1.wk (by simp)).put λ_=>by simp[ho]).put λ_=>by simp[ho]
   refine aF.is (v:=cv 0) (H':=H3) (λn=>?_) ⟨_,rfl,hK,o1,⟨tape,w,T,l,i,k,a,x,y,rec,laid,ty,by rw[g3];congr 3;simp;omega,Kr,ht.fr f3 (by simp),hT,hw.fr f3 (by simp),λ_=>by omega,.inr D2⟩,hK _ _ _ _ hk f3⟩
   rw[pA];simp -implicitDefEqProofs [GV,bx,Bj,gX,L2,L1,L0,tl,sv,Hd,S1,LB,S2]
abbrev Num (K:aa→aj→Prop)(p c:Nat):Value→aa→Prop:=λv H'=>∃z,v=cv z∧∃m',J K p m' H'∧m'≤c
abbrev Boo (K:aa→aj→Prop)(p c:Nat):Value→aa→Prop:=λv H'=>∃z,v= .bool z∧∃m',J K p m' H'∧m'≤c
abbrev abq (K:aa→aj→Prop)(p c:Nat):Value→aa→Prop:=λv H'=>∃z b,v= .tuple #[cv z,.bool b]∧∃m',J K p m' H'∧m'≤c
abbrev TF (K:aa→aj→Prop)(p c:Nat):Value→aa→Prop:=λv H'=>∃z b,v= .tuple #[cv z,cv b]∧∃m',J K p m' H'∧m'≤c
section
variable {α:Type} {k:Nat→Value→aa→Option α} {Q:α→Prop} {t:TypeId} {a b:Int} {P:Program} {c:Nat} {C:Nat→ae} {f:Nat} {args:List Value}
theorem Ev.off (h:J K p m H)(h1:m=0→Ev (λn=>k n (.bool true) H) Q)(h2:m≠0→Ev (λn=>k n (.bool false) H) Q):Ev (λn=>af (pS (aq (.pointer (some ⟨p,2,none⟩)) H) H) (k n)) Q:=
 Ev.boo h.off (λe=>h1 (by simpa using e)) (λe=>h2 (by simpa using e))
theorem Ev.num (h:aF C f args H (Num K p c))(hk: ∀z H' m',J K p m' H'→m'≤c→Ev (λn=>k n (cv z) H') Q):Ev (λn=>af (C n f args H) (k n)) Q:=
 Ev.call h λv H' hq=>by obtain⟨z,rfl,m',h1,h2⟩:=hq;exact hk z H' m' h1 h2
theorem Ev.bool (h:aF C f args H (Boo K p c))(hk: ∀z H' m',J K p m' H'→m'≤c→Ev (λn=>k n (.bool z) H') Q):Ev (λn=>af (C n f args H) (k n)) Q:=
 Ev.call h λv H' hq=>by obtain⟨z,rfl,m',h1,h2⟩:=hq;exact hk z H' m' h1 h2
theorem Ev.ado (h:aF C f args H (abq K p c))(hk: ∀z b H' m',J K p m' H'→m'≤c→Ev (λn=>k n (.tuple #[cv z,.bool b]) H') Q):Ev (λn=>af (C n f args H) (k n)) Q:=
 Ev.call h λv H' hq=>by obtain⟨z,b,rfl,m',h1,h2⟩:=hq;exact hk z b H' m' h1 h2
theorem Ev.abr (h:aF C f args H (TF K p c))(hk: ∀z b H' m',J K p m' H'→m'≤c→Ev (λn=>k n (.tuple #[cv z,cv b]) H') Q):Ev (λn=>af (C n f args H) (k n)) Q:=
 Ev.call h λv H' hq=>by obtain⟨z,b,rfl,m',h1,h2⟩:=hq;exact hk z b H' m' h1 h2
end
theorem Ev.Qf {α:Type}{step:Nat→List Value→aa→bd}{kk:Nat→bA→List Value→aa→Option α}{Q:α→Prop}(I:List Value→Prop)(R:bA→List Value→Prop){m:Nat}{vs:List Value}(hj:J K p m H)(hi:I vs)(h: ∀m1 vs H1,J K p m1 H1→m1≤m→I vs→Ev (λn=>step n vs H1) λr=>(r.1= .normal∧(∃m2,J K p m2 r.2.2∧m2<m1)∧I r.2.1)∨(r.1≠ .normal∧(∃m2,J K p m2 r.2.2∧m2≤m1)∧R r.1 r.2.1))(hk: ∀e vs m1 H1,J K p m1 H1→m1≤m→R e vs→Ev (λn=>kk n e vs H1) Q):Ev (λn=>cl (iter n (step n) vs H) (kk n)) Q:=by
 refine Ev.loop (k:=m) (λk vs H1=>J K p k H1∧k≤m∧I vs) (λr=>(∃m2,J K p m2 r.2.2∧m2≤m)∧R r.1 r.2.1) ⟨hj,Nat.le_refl _,hi⟩ ?_ ?_
 ·rintro k vs H1 ⟨h1,h2,h3⟩;refine Ev.mono (h k vs H1 h1 h2 h3) ?_;rintro⟨e,jf,H2⟩ (⟨g1,⟨m2,g2,g3⟩,g4⟩|⟨g1,⟨m2,g2,g3⟩,g4⟩)
  ·exact .inl ⟨g1,m2,g3,g2,by omega,g4⟩
  ·exact .inr ⟨g1,⟨m2,g2,by omega⟩,g4⟩
 ·rintro e vs H1 ⟨⟨m2,g2,g3⟩,g4⟩;exact hk e vs m2 H1 g2 g3 g4
theorem kE (h:J K p m H)(a:Int):aF (run G) 139 [pv p,cv a] H (Num K p (m-1)):=by
 refine Ev.up (t:=λn=>Po (run G n) n (pv p) (cv a) H) ?_ λn=>Jh ..
 simp -implicitDefEqProofs only[Po,Pz,kM,cS];refine Ev.call (abp h.Hc rfl) ?_;rintro v H' ⟨z,rfl,hj⟩;exact Ev.ret ⟨_,rfl,_,hj,Nat.le_refl _⟩
theorem J.uL (h:J K p m H)(f: ∀o,∃o',Fr H o H' o' []):J K p m H':=by
 obtain⟨hK,o,hr,hk⟩:=h;obtain⟨o',f⟩:=f o;exact⟨hK,o',hr.fr f (by simp) (by simp) (by simp),hK _ _ _ _ hk (f.wk (by simp))⟩
section
variable {i:Nat} {cs:List Value} {T:TypeId}
theorem J.nI (h:J K p m H)(cs:List Value)(T:TypeId)(es:Nat)(TB:bH [(p:Int)] K')(k: ∀o,K H o→Fr H o (H.new ⟨cs,T,es,false⟩) (o.up H.length (-9)) []→K' (H.new ⟨cs,T,es,false⟩) (o.up H.length (-9))):J K' p m (H.new ⟨cs,T,es,false⟩):=by
 obtain⟨hK,o,hr,hk⟩:=h;have f:Fr H o (H.new ⟨cs,T,es,false⟩) (o.up H.length (-9)) []:=(Fr.refl H o []).new _ _;exact⟨TB,_,hr.fr f (by simp) (by simp) (by simp),k o hk f⟩
theorem J.uj (h:J K p m H){c:eW}(hc: ∀o,K H o→Cl i cs T H o)(TB:bH [(p:Int)] K')(k: ∀o,K H o→K' (H.put i c) o):J K' p m (H.put i c):=by
 obtain⟨hK,o,hr,hk⟩:=h;have f:Fr H o (H.put i c) o [-9]:=(Fr.refl H o [-9]).put λ_=>by simp[(hc o hk).2]
 exact⟨TB,_,hr.fr f (by simp) (by simp) (by simp),k o hk⟩
theorem J.new (h:J K p m H)(c:eW):J K p m (H.new c):=h.uL λo=>⟨o.up H.length (-9),(Fr.refl H o []).new _ _⟩
end
theorem JK (h:J K p m H)(a k:Int):aF (run G) 117 [pv p,cv a,cv k] H (TF K p (m-1)):=by
 refine Ev.up (t:=λn=>OD (run G n) n (pv p) (cv a) (cv k) H) ?_ λn=>Io ..
 simp -implicitDefEqProofs only[OD,sS,Nat.reduceAdd];have L5: ∀(d z:Int) (x6 x7 bl aC bV bN aO cM aN dD fM aI iI fE aM fL dW:Value) (m1:Nat) (H1:aa),J K p m1 H1→m1≤m-1→(∃i,aM=cv i)→
   Ev (λn=>cl (iter n (vD (run G n) n) [pv p,cv a,cv k,x6,x7,cv d,cv z,bl,aC,bV,bN,aO,cM,aN,dD,fM,aI,iI,fE,aM,fL,dW] H1) (dK 2 (dS (vE (run G n) n) (eh Tryz.prog [.tmp 6,.tmp 7] [0,1,2,6,7,8,9,21,10,29,32,11,41,12,56,68,13,79,88,14,103,112])))) λr=>TF K p (m-1) r.1 r.2:=by
  rintro d z x6 x7 bl aC bV bN aO cM aN dD fM aI iI fE aM fL dW m1 H1 fK NU ⟨i,rfl⟩;refine Ev.Qf (λvs=>∃(i:Int) (x6 x7 bl aC bV bN aO cM aN dD fM aI iI fE fL dW:Value),vs=[pv p,cv a,cv k,x6,x7,cv d,cv z,bl,aC,bV,bN,aO,cM,aN,dD,fM,aI,iI,fE,cv i,fL,dW])
   (λe vs=>(e= .exit 2∨(e= .ret∧∃u,vs[3]? =some (cv d)∧vs[4]? =some (cv u)))∧∃(x6 x7 bl aC bV bN aO cM aN dD fM aI iI fE aM fL dW:Value),vs=[pv p,cv a,cv k,x6,x7,cv d,cv z,bl,aC,bV,bN,aO,cM,aN,dD,fM,aI,iI,fE,aM,fL,dW]) fK ⟨_,_,_,_,_,_,_,_,_,_,_,_,_,_,_,_,_,rfl⟩ ?_ ?_
  ·rintro m1 vs H1 hj hm ⟨i,x6,x7,bl,aC,bV,bN,aO,cM,aN,dD,fM,aI,iI,fE,fL,dW,rfl⟩;simp -implicitDefEqProofs only[A8,rV,sS,Nat.reduceAdd];repeat' (first|exact Ev.ret (.inl ⟨rfl,⟨_,by assumption,by omega⟩,_,_,_,_,_,_,_,_,_,_,_,_,_,_,_,_,_,rfl⟩)|exact Ev.ret (.inr ⟨by simp,⟨_,by assumption,by omega⟩,.inl rfl,_,_,_,_,_,_,_,_,_,_,_,_,_,_,_,_,_,rfl⟩)|exact Ev.ret (.inr ⟨by simp,⟨_,by assumption,by omega⟩,.inr ⟨rfl,_,rfl,rfl⟩,_,_,_,_,_,_,_,_,_,_,_,_,_,_,_,_,_,rfl⟩)| ((with_reducible first|refine Ev.lss (λhq=>?_) (λhq=>?_)|refine Ev.gtr (λhq=>?_) (λhq=>?_)|refine Ev.leq (λhq=>?_) (λhq=>?_)|refine Ev.geq (λhq=>?_) (λhq=>?_)|refine Ev.eql (λhq=>?_) (λhq=>?_)|refine Ev.off ‹_› (λhq=>?_) (λhq=>?_)|refine Ev.kB (nB _ _) λz=>?_ |refine Ev.kB (sG _ _ _ _) λz=>?_ |refine Ev.num (kE ‹_› _) λz Hz mz hj hm=>?_)<;>try simp -implicitDefEqProofs only[sS,Nat.reduceAdd]))
  ·rintro e vs m2 H2 hj hm ⟨he,x6,x7,bl,aC,bV,bN,aO,cM,aN,dD,fM,aI,iI,fE,aM,fL,dW,rfl⟩;rcases he with rfl|⟨rfl,u,e1,e2⟩
   ·simp -implicitDefEqProofs only[A9,rW,sS,Nat.reduceAdd];repeat' (first|exact Ev.ret ⟨_,_,rfl,_,by assumption,by omega⟩| ((with_reducible first|refine Ev.lss (λhq=>?_) (λhq=>?_)|refine Ev.gtr (λhq=>?_) (λhq=>?_)|refine Ev.leq (λhq=>?_) (λhq=>?_)|refine Ev.geq (λhq=>?_) (λhq=>?_)|refine Ev.eql (λhq=>?_) (λhq=>?_)|refine Ev.off ‹_› (λhq=>?_) (λhq=>?_)|refine Ev.kB (nB _ _) λz=>?_ |refine Ev.kB (sG _ _ _ _) λz=>?_ |refine Ev.num (kE ‹_› _) λz Hz mz hj hm=>?_)<;>try simp -implicitDefEqProofs only[sS,Nat.reduceAdd]))
   ·simp only[List.getElem?_cons_succ,List.getElem?_cons_zero,Option.some.injEq] at e1 e2;subst e1 e2;show Ev (λ_=>some (Value.tuple #[cv d,cv u],H2)) _
    exact Ev.ret ⟨_,_,rfl,_,hj,by omega⟩
 have L0: ∀(d z:Int) (x6 x7 bl aC bV bN aO cM aN dD fM aI iI fE aM fL dW:Value) (m1:Nat) (H1:aa),J K p m1 H1→m1≤m-1→(∃i,aI=cv i)→
   Ev (λn=>cl (iter n (vB (run G n) n) [pv p,cv a,cv k,x6,x7,cv d,cv z,bl,aC,bV,bN,aO,cM,aN,dD,fM,aI,iI,fE,aM,fL,dW] H1) (dK 0 (dS (vC (run G n) n) (dS (Ct (run G n) n) (eh Tryz.prog [.tmp 6,.tmp 7] [0,1,2,6,7,8,9,21,10,29,32,11,41,12,56,68,13,79,88,14,103,112]))))) λr=>TF K p (m-1) r.1 r.2:=by
  rintro d z x6 x7 bl aC bV bN aO cM aN dD fM aI iI fE aM fL dW m1 H1 fK NU ⟨i,rfl⟩;refine Ev.Qf (λvs=>∃(i:Int) (x6 x7 bl aC bV bN aO cM aN dD fM iI fE aM fL dW:Value),vs=[pv p,cv a,cv k,x6,x7,cv d,cv z,bl,aC,bV,bN,aO,cM,aN,dD,fM,cv i,iI,fE,aM,fL,dW])
   (λe vs=>(e= .exit 0∨(e= .ret∧∃u,vs[3]? =some (cv d)∧vs[4]? =some (cv u)))∧∃(x6 x7 bl aC bV bN aO cM aN dD fM aI iI fE aM fL dW:Value),vs=[pv p,cv a,cv k,x6,x7,cv d,cv z,bl,aC,bV,bN,aO,cM,aN,dD,fM,aI,iI,fE,aM,fL,dW]) fK ⟨_,_,_,_,_,_,_,_,_,_,_,_,_,_,_,_,_,rfl⟩ ?_ ?_
  ·rintro m1 vs H1 hj hm ⟨i,x6,x7,bl,aC,bV,bN,aO,cM,aN,dD,fM,iI,fE,aM,fL,dW,rfl⟩;simp -implicitDefEqProofs only[A5,rT,sS,Nat.reduceAdd];repeat' (first|exact Ev.ret (.inl ⟨rfl,⟨_,by assumption,by omega⟩,_,_,_,_,_,_,_,_,_,_,_,_,_,_,_,_,_,rfl⟩)|exact Ev.ret (.inr ⟨by simp,⟨_,by assumption,by omega⟩,.inl rfl,_,_,_,_,_,_,_,_,_,_,_,_,_,_,_,_,_,rfl⟩)|exact Ev.ret (.inr ⟨by simp,⟨_,by assumption,by omega⟩,.inr ⟨rfl,_,rfl,rfl⟩,_,_,_,_,_,_,_,_,_,_,_,_,_,_,_,_,_,rfl⟩)| ((with_reducible first|refine Ev.lss (λhq=>?_) (λhq=>?_)|refine Ev.gtr (λhq=>?_) (λhq=>?_)|refine Ev.leq (λhq=>?_) (λhq=>?_)|refine Ev.geq (λhq=>?_) (λhq=>?_)|refine Ev.eql (λhq=>?_) (λhq=>?_)|refine Ev.off ‹_› (λhq=>?_) (λhq=>?_)|refine Ev.kB (nB _ _) λz=>?_ |refine Ev.kB (sG _ _ _ _) λz=>?_ |refine Ev.num (kE ‹_› _) λz Hz mz hj hm=>?_)<;>try simp -implicitDefEqProofs only[sS,Nat.reduceAdd]))
  ·rintro e vs m2 H2 hj hm ⟨he,x6,x7,bl,aC,bV,bN,aO,cM,aN,dD,fM,aI,iI,fE,aM,fL,dW,rfl⟩;rcases he with rfl|⟨rfl,u,e1,e2⟩
   ·simp -implicitDefEqProofs only[A7,rU,sS,Nat.reduceAdd];repeat' (first|exact Ev.ret ⟨_,_,rfl,_,by assumption,by omega⟩| ((with_reducible first|refine Ev.lss (λhq=>?_) (λhq=>?_)|refine Ev.gtr (λhq=>?_) (λhq=>?_)|refine Ev.leq (λhq=>?_) (λhq=>?_)|refine Ev.geq (λhq=>?_) (λhq=>?_)|refine Ev.eql (λhq=>?_) (λhq=>?_)|refine Ev.off ‹_› (λhq=>?_) (λhq=>?_)|refine Ev.kB (nB _ _) λz=>?_ |refine Ev.kB (sG _ _ _ _) λz=>?_ |refine Ev.num (kE ‹_› _) λz Hz mz hj hm=>?_)<;>try simp -implicitDefEqProofs only[sS,Nat.reduceAdd]))
   ·simp only[List.getElem?_cons_succ,List.getElem?_cons_zero,Option.some.injEq] at e1 e2;subst e1 e2;show Ev (λ_=>some (Value.tuple #[cv d,cv u],H2)) _
    exact Ev.ret ⟨_,_,rfl,_,hj,by omega⟩
 repeat' (first|exact Ev.ret ⟨_,_,rfl,_,by assumption,by omega⟩|exact L5 _ _ _ _ _ _ _ _ _ _ _ _ _ _ _ _ _ _ _ _ _ ‹_› (by omega) ⟨_,rfl⟩|exact L0 _ _ _ _ _ _ _ _ _ _ _ _ _ _ _ _ _ _ _ _ _ ‹_› (by omega) ⟨_,rfl⟩| ((with_reducible first|refine Ev.lss (λhq=>?_) (λhq=>?_)|refine Ev.gtr (λhq=>?_) (λhq=>?_)|refine Ev.leq (λhq=>?_) (λhq=>?_)|refine Ev.geq (λhq=>?_) (λhq=>?_)|refine Ev.eql (λhq=>?_) (λhq=>?_)|refine Ev.off ‹_› (λhq=>?_) (λhq=>?_)|refine Ev.kB (nB _ _) λz=>?_ |refine Ev.kB (sG _ _ _ _) λz=>?_ |refine Ev.num (kE ‹_› _) λz Hz mz hj hm=>?_)<;>try simp -implicitDefEqProofs only[sS,Nat.reduceAdd]))
theorem Hv (h:J K p m H)(a:Int):aF (run G) 113 [pv p,cv a] H (Num K p (m-1)):=by
 refine Ev.up (t:=λn=>Oz (run G n) n (pv p) (cv a) H) ?_ λn=>Im ..
 simp -implicitDefEqProofs only[Oz,sS,Nat.reduceAdd];repeat' (first|exact Ev.ret ⟨_,rfl,_,by assumption,by omega⟩| ((with_reducible first|refine Ev.eql (λhq=>?_) (λhq=>?_)|refine Ev.neq (λhq=>?_) (λhq=>?_)|refine Ev.kB (Ha _) λz=>?_ |refine Ev.kB (Td _) λz=>?_ |refine Ev.num (kE ‹_› _) λz Hz mz hj hm=>?_)<;>try simp -implicitDefEqProofs only[sS,Nat.reduceAdd]))
theorem TH (h:J K p m H)(a k:Int):aF (run G) 144 [pv p,cv a,cv k] H (Num K p (m-1)):=by
 refine Ev.up (t:=λn=>OL (run G n) n (pv p) (cv a) (cv k) H) ?_ λn=>Iy ..
 simp -implicitDefEqProofs only[OL,sS,Nat.reduceAdd];repeat' (first|exact Ev.ret ⟨_,rfl,_,by assumption,by omega⟩| ((with_reducible first|refine Ev.kB (Bk _ _ _) λz=>?_ |refine Ev.abr (JK ‹_› _ _) λz zb Hz mz hj hm=>?_)<;>try simp -implicitDefEqProofs only[sS,Nat.reduceAdd]))
theorem YP (h:J K p m H)(k:Int):aF (run G) 118 [pv p,cv k] H (abq K p m):=by
 refine Ev.up (t:=λn=>XE (run G n) n (pv p) (cv k) H) ?_ λn=>Sk ..
 simp -implicitDefEqProofs only[XE,sS,Nat.reduceAdd];refine Ev.Qf (λvs=>∃(i:Int) (x4 x5 aI x7 bL bR x8 cq bJ dp:Value),vs=[pv p,cv k,x4,x5,aI,cv i,x7,bL,bR,x8,cq,bJ,dp])
  (λe vs=>(e= .exit 0∨(e= .ret∧∃u b,vs[2]? =some (cv u)∧vs[3]? =some (.bool b)))∧∃(x4 x5 aI x6 x7 bL bR x8 cq bJ dp:Value),vs=[pv p,cv k,x4,x5,aI,x6,x7,bL,bR,x8,cq,bJ,dp]) h ⟨_,_,_,_,_,_,_,_,_,_,_,rfl⟩ ?_ ?_
 ·rintro m1 vs Hx hj hk ⟨i,x4,x5,aI,x7,bL,bR,x8,cq,bJ,dp,rfl⟩;simp -implicitDefEqProofs only[LL,yd,sS,Nat.reduceAdd];repeat' (first|exact Ev.ret (.inl ⟨rfl,⟨_,by assumption,by omega⟩,_,_,_,_,_,_,_,_,_,_,_,rfl⟩)|exact Ev.ret (.inr ⟨by simp,⟨_,by assumption,by omega⟩,.inl rfl,_,_,_,_,_,_,_,_,_,_,_,rfl⟩)|exact Ev.ret (.inr ⟨by simp,⟨_,by assumption,by omega⟩,.inr ⟨rfl,_,_,rfl,rfl⟩,_,_,_,_,_,_,_,_,_,_,_,rfl⟩)| ((with_reducible first|refine Ev.eql (λhq=>?_) (λhq=>?_)|refine Ev.neq (λhq=>?_) (λhq=>?_)|refine Ev.off ‹_› (λhq=>?_) (λhq=>?_)|refine Ev.kB (Ha _) λz=>?_ |refine Ev.kB (Td _) λz=>?_ |refine Ev.num (kE ‹_› _) λz Hz mz hj hm=>?_ |refine Ev.num (Hv ‹_› _) λz Hz mz hj hm=>?_ |refine Ev.num (TH ‹_› _ _) λz Hz mz hj hm=>?_)<;>try simp -implicitDefEqProofs only[sS,Nat.reduceAdd]))
 ·rintro e vs m1 Hx hj hm ⟨he,x4,x5,aI,x6,x7,bL,bR,x8,cq,bJ,dp,rfl⟩;rcases he with rfl|⟨rfl,u,b,e1,e2⟩
  ·simp -implicitDefEqProofs only[LM,ye,sS,Nat.reduceAdd];exact Ev.ret ⟨_,_,rfl,_,hj,by omega⟩
  ·simp only[List.getElem?_cons_succ,List.getElem?_cons_zero,Option.some.injEq] at e1 e2;subst e1 e2;show Ev (λ_=>some (Value.tuple #[cv u,.bool b],Hx)) _
   exact Ev.ret ⟨_,_,rfl,_,hj,by omega⟩
end
end Go.Proofs.YtgfgglponbmgmaaGreat.Fun.R
end
