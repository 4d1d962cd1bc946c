/- Texts of the proof of peekPlays_holds, put together by a small program of ours (names shortened, spaces taken out). No condition beyond the given statement. -/
import Derived.Test.YtgfgglponbmgmaaGreatPKP11
import Derived.Test.YtgfgglponbmgmaaGreatPKP15
import Derived.Test.YtgfgglponbmgmaaGreatPKP25
import Derived.Test.YtgfgglponbmgmaaGreatPKP16
import Derived.Test.YtgfgglponbmgmaaGreatPKP13
import Derived.Test.YtgfgglponbmgmaaGreatPKP17
import Derived.Test.YtgfgglponbmgmaaGreatPKP14
import Derived.Test.YtgfgglponbmgmaaGreatPKP12
set_option linter.unusedVariables false
set_option linter.unusedSimpArgs false
set_option linter.unnecessarySimpa false
noncomputable section
section
namespace Go.Proofs.YtgfgglponbmgmaaGreat.Fun
open Go Go.RowKit Go.Proofs.YtgfgglponbmgmaaGreatA.Am
set_option maxRecDepth 10000
section
open Go.Proofs.YtgfgglponbmgmaaGreatA
variable {G:ae} {H H':aa} {o o':aj} {p c:Nat} {K:aa→aj→Prop} {t:Int} {x:Value} {l:PL} {st MJ s1:Y.St} {α β:Type}
theorem Pc (n:Int): ∀(b:Nat) (r:Int),Y.jj n b r=jj n b r
 |0,r=>rfl
 |b+1,r=>by unfold Y.jj jj;exact Pc n b _
theorem pN (n:Int):Y.bo n=bo n:=by unfold Y.bo bo Y.jk jk;simp only[Pc]
theorem sD (n i:Int):Y.cg n i=cg n i:=by unfold Y.cg cg;simp only[pN]
theorem Pd (n:Int): ∀i,Y.cF n i=cF n i
 |0=>rfl
 |i+1=>by unfold Y.cF cF;rw[Pd n i,sD]
theorem UI (n i:Int):Y.gO n i=gO n i:=by unfold Y.gO gO;simp only[pN,Pd]
theorem nF (h:JX K p st H)(s:Int){q c:Value}{lq lc:List Int}(hq:eM H q lq)(hc:eM H c lc)(hl:lq.length+lc.length≤1000000):
  aF (run G) 131 [cv s,q,c] H λw H'=>OU K p st (Y.cR s lq lc) H' w:=by
 refine Ev.up (t:=λn=>NW (run G n) n (cv s) q c H) ?_ λn=>HF ..
 simp -implicitDefEqProofs only[NW,hq.len,hc.len,sS,Nat.reduceAdd];have hw:IntKind.i64.wrap ((lq.length:Int)+1)=lq.length+1:=fZ (by omega)
 rw[hw];refine Ev.neq (λh1=>?_) (λh1=>?_)<;>try simp -implicitDefEqProofs only[hc.len,OW,sS,Nat.reduceAdd]
 ·rw[show Y.cR s lq lc=[] by unfold Y.cR;rw[if_pos (by omega)]]
  exact Ev.ret h.Gr
 rw[Y.tR (by omega)]
 obtain⟨hK,o,hr,hk⟩:=h;obtain⟨t,ht,hf⟩:=gI o H.length;have s1:=oM.new H o t 2 [(lc.length:Int),s,0,0,0];have f1:Fr H o (H.new ⟨[cv lc.length,cv s,cv 0,cv 0,cv 0],2,1,false⟩) (o.up H.length t) [t]:=(Fr.refl H o [t]).new _ _;obtain⟨H1,e1⟩: ∃z,z=H.new ⟨[cv lc.length,cv s,cv 0,cv 0,cv 0],2,1,false⟩:=⟨_,rfl⟩;have keep: ∀{x:Value} {l:List Int} {H2:aa} {o2:aj},eM H x l→Fr H o H2 o2 [t]→eM H2 x l:=λhx f=>hx.keep λi b e dz=>by
  rcases hx with⟨e1,e2⟩|⟨j,off,cc,e1,hb⟩
  ·exact absurd e2 dz
  ·obtain⟨bb,g1,_⟩:=hb dz;rw[e1] at e;cases e;exact f.same j (ar g1) (by have:=hf j (ar g1);simp;omega)
 obtain⟨x2,H2,o2,a2,s2,f2,_⟩:=jY (H:=H1) 2 (by rw[e1];exact s1) (keep hq (by rw[e1];exact f1)) (by simp;omega)
 have f12:Fr H o H2 o2 [t]:=by rw[e1] at f2;exact f1.tr f2
 obtain⟨x3,H3,o3,a3,s3,f3,_⟩:=jY 2 s2 (keep hc f12) (by simp;omega)
 have f13:=f12.tr f3;have eH:H.new ⟨[cv lc.length,cv s,cv 0,cv 0,cv 0],2,1,false⟩=H1:=e1.symm;simp -implicitDefEqProofs only[eH,List.length_cons,List.length_nil,sS,Nat.reduceAdd] at a2;simp -implicitDefEqProofs only[eH,a2,a3,sS,Nat.reduceAdd];have f0:Fr H o H3 o3 []:=iM f13 λi hi=>by have:=hf i hi;omega
 let o4:aj:=λi=>if H.length≤i∧o3 i=t then -51 else o3 i
 have f4:Fr H o H3 o4 []:=⟨f0.slot,λi hi=>by show(if H.length≤i∧o3 i=t then(-51:Int) else o3 i)=_;rw[if_neg (by omega)];exact f0.own i hi,f0.size⟩
 refine Ev.ret ⟨hK,o4,hr.fr f4 (by simp) (by simp) (by simp),hK _ _ _ _ hk (f4.wk (by simp)),s3.ints.1,λb n cc e dz=>?_⟩
 obtain⟨g1,g2⟩:=s3.ints.2 b n cc e dz;refine⟨g1,?_⟩;show(if H.length≤b.block∧o3 b.block=t then(-51:Int) else o3 b.block)= -51
 have Y7:H.length≤b.block:=by
  rcases Nat.lt_or_ge b.block H.length with g|g
  ·have a1:=f13.own _ g;have a2:=hf _ g;omega
  ·exact g
 rw[if_pos ⟨Y7,g2⟩]
section
variable {B:aa} {b:aj} {u:Int} {y:Value} {lx ly:List Int} {k:Nat→Value→aa→Option α} {Q:α→Prop} {a:Int} {T ty:TypeId}
theorem Ev.aaW (h2:Two B b p t u)(h:JX (CY B b p t u x lx y ly) p st H)(hb:lx.length+1≤4294967296)(hk: ∀x' H',JX (CY B b p t u x' (lx++[a]) y ly) p st H'→Ev (λn=>k n x' H') Q):
  Ev (λn=>af (df T 1 8 x (.slice (some ⟨H.length,0,none⟩) 1 1) (H.new ⟨[cv a],ty,1,false⟩)) (k n)) Q:=by
 obtain⟨_,o,hr,hf,hx,hy⟩:=h;obtain⟨s',H2,o2,e,s2,f2⟩:=Pa T ty a hx hb;rw[e];refine hk s' H2 ⟨CY.eZ h2,o2,hr.fr f2 ?_ ?_ ?_,iM (hf.trans f2 (rs:=[t,(p:Int)]) (by simp) (by simp)) h2.ft,s2,hy.fr f2 ?_⟩
 ·simp;exact λe=>h2.Qx.ne e.symm
 ·simp;exact λe=>h2.Qx.n0 e.symm
 ·simp;exact λe=>h2.Qx.n1 e.symm
 ·simp;exact λe=>h2.ne e.symm
theorem Ev.aaX (h2:Two B b p t u)(h:JX (CY B b p t u x lx y ly) p st H)(hb:ly.length+1≤4294967296)(hk: ∀y' H',JX (CY B b p t u x lx y' (ly++[a])) p st H'→Ev (λn=>k n y' H') Q):
  Ev (λn=>af (df T 1 8 y (.slice (some ⟨H.length,0,none⟩) 1 1) (H.new ⟨[cv a],ty,1,false⟩)) (k n)) Q:=by
 obtain⟨_,o,hr,hf,hx,hy⟩:=h;obtain⟨s',H2,o2,e,s2,f2⟩:=Pa T ty a hy hb;rw[e];refine hk s' H2 ⟨CY.eZ h2,o2,hr.fr f2 ?_ ?_ ?_,iM (hf.trans f2 (rs:=[u,(p:Int)]) (by simp) (by simp)) h2.fu,hx.fr f2 ?_,s2⟩
 ·simp;exact λe=>h2.at2.ne e.symm
 ·simp;exact λe=>h2.at2.n0 e.symm
 ·simp;exact λe=>h2.at2.n1 e.symm
 ·simp;exact λe=>h2.ne e
end
theorem Pe: ∀(N:Nat) {K:aa→aj→Prop} {H:aa} {st:Y.St} {x:Value} {L:PL} {q:Int},L.length=N→N≤2147483648→JX K p st H→q≠(p:Int)→(∀H o,K H o→gT H o q x L)→∀{f:Nat},N+1≤f→aF (run G) 123 [pv p,x] H (iH K p st (Y.iG f L)):=by
 intro N;induction N using Nat.strongRecOn with
 |ind N ih=>
 intro K H st x L q hN hN2 h hq hx f hf;obtain⟨fy,rfl⟩: ∃fy,f=fy+1:=⟨f-1,by omega⟩
 refine Ev.up (t:=λn=>Xj (run G n) n (pv p) x H) ?_ λn=>RS ..
 obtain⟨hK,o,hr,hk⟩:=id h;have hs:=hx _ _ hk;simp -implicitDefEqProofs only[Xj,hs.len,sS,Nat.reduceAdd];refine Ev.eql (λh0=>?_) (λh0=>?_)<;>try simp -implicitDefEqProofs only[sS,Nat.reduceAdd]
 ·have eL:L=[]:=List.length_eq_zero_iff.1 (by omega)
  subst eL;refine Ev.Sz (sA h) λw Hz hw=>?_
  refine Ev.sw (nC hw) λz s1 Hz ez hj=>?_
  try simp -implicitDefEqProofs only[sS,Nat.reduceAdd]
  refine Ev.is (nZ _ _) ?_
  try simp -implicitDefEqProofs only[sS,Nat.reduceAdd]
  refine Ev.ret (iH.of hj ?_);unfold Y.iG;simp only[Y.al,bl,bH,bN,cU,cV,ne_eq,not_true_eq_false,not_false_eq_true,if_true,if_false,Bool.not_true,Bool.not_false,true_and,and_true,false_and,and_false,true_or,or_true,false_or,or_false,Bool.false_eq_true,decide_true,decide_false,ez]
 refine Ev.eql (λh1=>?_) (λh1=>?_)<;>try simp -implicitDefEqProofs only[sS,Nat.reduceAdd]
 ·obtain⟨kv,rfl⟩:=List.length_eq_one_iff.1 (show L.length=1 by omega)
  obtain⟨i,off,b,e1,e2,e3,e4⟩:=hs.idx (j:=0) (by omega)
  obtain⟨e5,e6,_⟩:=e4 H e2;simp only[Int.natCast_zero] at e1;simp -implicitDefEqProofs only[e1,gW,Nat.add_zero,e5,e6,sS,Nat.reduceAdd];refine Ev.Sz (ux h _ _) λw Hz hw=>?_
  refine Ev.sw (nC hw) λz s1 Hz ez hj=>?_
  try simp -implicitDefEqProofs only[sS,Nat.reduceAdd]
  refine Ev.is (nZ _ _) ?_
  try simp -implicitDefEqProofs only[sS,Nat.reduceAdd]
  refine Ev.ret (iH.of hj ?_);unfold Y.iG;simp only[Y.al,bl,bH,bN,cU,cV,ne_eq,not_true_eq_false,not_false_eq_true,if_true,if_false,Bool.not_true,Bool.not_false,true_and,and_true,false_and,and_false,true_or,or_true,false_or,or_false,Bool.false_eq_true,decide_true,decide_false];have ez':Y.ah (Y.mk [kv.1,kv.2]) st=(z,s1):=ez;simp only[ez']
 obtain⟨t,u,h2⟩:=Pb H o p;have hd:=pA L.length;have ik: ∀{xq xc:Value} {lq lc:List Int} {s':Y.St} {H':aa},JX (CY H o p t u xq lq xc lc) p s' H'→JX K p s' H':=λhj=>hj.mono hK λo' hg=>hK _ _ _ _ hk hg.fr
 have tU: ∀(H':aa) (o':aj),Fr H o H' o' [(p:Int)]→gT H' o' q x L:=λH' o' f=>hs.fr f (by simpa using hq)
 have X4:JX (CY H o p t u (.slice none 0 0) [] (.slice none 0 0) []) p st H:=⟨CY.eZ h2,o,hr,Fr.refl _ _ _,.inl ⟨rfl,rfl⟩,.inl ⟨rfl,rfl⟩⟩;have B:Y.ah (Y.iG (fy+1) L) st=Y.ah (Y.lk fy L (bo L.length).toNat 0 [] []) st:=by
  match L,h0,h1 with
  | [],h0,_=>exact absurd rfl h0
  | [a],_,h1=>exact absurd rfl h1
  |a::b::l,_,_=>
   conv=>lhs;unfold Y.iG
   simp only[pN]
 generalize hT:Y.ah (Y.iG (fy+1) L) st=T at B
 refine Ev.loop (k:=(bo L.length).toNat) (λk vs H1=>∃(i:Nat) (xq xc:Value) (lq lc:List Int) (sx:Y.St) (x4 x5 bA x7 x8 cr x9 aC eK gH aM aU pJ aW bf aV:Value),JX (CY H o p t u xq lq xc lc) p sx H1∧lc.length=i∧lq.length≤i∧(i:Int)+k=bo L.length∧T=Y.ah (Y.lk fy L k i lq lc) sx∧vs=[pv p,x,x4,x5,cv L.length,bA,x7,x8,cr,x9,aC,cv i,eK,gH,xq,aM,aU,pJ,xc,aW,bf,aV])
  (λr=>(∃(xq xc:Value) (lq lc:List Int) (sx:Y.St),JX (CY H o p t u xq lq xc lc) p sx r.2.2∧r.2.1[14]? =some xq∧r.2.1[18]? =some xc∧((r.1= .exit 0∧lq.length≤128∧lc.length≤128∧T=Y.ah (Y.lk fy L 0 lc.length lq lc) sx)∨(r.1= .ret∧T=((0,false),sx)∧r.2.1[2]? =some (cv 0)∧r.2.1[3]? =some (.bool false))))∧∃(x4 x5 bA x7 x8 cr x9 aC aI eK gH aO aM aU pJ aN aW bf aV:Value),r.2.1=[pv p,x,x4,x5,cv L.length,bA,x7,x8,cr,x9,aC,aI,eK,gH,aO,aM,aU,pJ,aN,aW,bf,aV])
  ⟨0,_,_,[],[],st,_,_,_,_,_,_,_,_,_,_,_,_,_,_,_,_,X4,rfl,by simp,by omega,B,rfl⟩ ?_ ?_
 ·rintro k vs H1 ⟨i,xq,xc,lq,lc,sx,x4,x5,bA,x7,x8,cr,x9,aC,eK,gH,aM,aU,pJ,aW,bf,aV,hj,Dh,UJ,hik,E,rfl⟩;simp -implicitDefEqProofs only[K6,yk,sS,Nat.reduceAdd];refine Ev.call (jZ _) ?_;rintro v Qu ⟨rfl,rfl⟩
  try simp -implicitDefEqProofs only[sS,Nat.reduceAdd]
  refine Ev.lss (λqx=>?_) (λqx=>?_)<;>try simp -implicitDefEqProofs only[sS,Nat.reduceAdd]
  ·refine Ev.call (OS _ _) ?_;rintro v Qu ⟨rfl,rfl⟩
   try simp -implicitDefEqProofs only[sS,Nat.reduceAdd]
   have sK:2≤(L.length:Int)∧(L.length:Int)≤16384:=by
    rcases Int.lt_or_le 16384 (L.length:Int) with g2|g2
    ·have:=nA (n:=(L.length:Int)) (.inr g2);omega
    ·exact⟨by omega,g2⟩
   have uJ:=j8 sK (i:=i) (by omega)
   have hpt:=vR sK (i:=i) qx;have zE:=yX L.length i;have hfe:gO L.length i=cF L.length i:=by rw[gO,if_neg (by omega),Int.toNat_natCast]
   have hw:IntKind.i64.wrap ((i:Int)+1)=((i+1:Nat):Int):=by rw[fZ (by omega)];omega
   have uQ:IntKind.i64.wrap (cF L.length i+cg L.length i)=cF L.length i+cg L.length i:=fZ (by omega)
   obtain⟨at_,Zm⟩: ∃z:Nat,(z:Int)=cF L.length i:=⟨(cF L.length i).toNat,by omega⟩
   obtain⟨uy,aaY⟩: ∃z:Nat,(z:Int)=cg L.length i:=⟨(cg L.length i).toNat,by omega⟩
   obtain⟨k1,rfl⟩: ∃k1,k=k1+1:=⟨k-1,by omega⟩
   have eat:(Y.gO L.length i).toNat=at_:=by rw[UI,hfe];omega
   have esz:(Y.cg L.length i).toNat=uy:=by rw[sD];omega
   have E':T=Y.ah (Y.iG fy ((L.drop at_).take uy) >>= λwo=>if wo.2=false then pure (0,false) else Y.lk fy L k1 (i+1) (if i>0 then lq++[(L.getD at_ (0,0)).1] else lq) (lc++[wo.1])) sx:=by
    rw[E];conv=>lhs;unfold Y.lk
    rw[eat,esz]
   rw[hfe];have J2: ∀{xq xc:Value} {Pf lc:List Int} {H1:aa} (x4 x5 bA x7 x8 cr x9 aC eK gH aU pJ aW bf aV:Value),JX (CY H o p t u xq Pf xc lc) p sx H1→Pf.length≤i+1→lc.length=i→T=Y.ah (Y.iG fy ((L.drop at_).take uy) >>= λwo=>if wo.2=false then pure (0,false) else Y.lk fy L k1 (i+1) Pf (lc++[wo.1])) sx→Ev (λn=>vI (run G n) n [pv p,x,x4,x5,cv L.length,bA,x7,x8,cr,x9,aC,cv i,eK,gH,xq,cv (cF L.length i),aU,pJ,xc,aW,bf,aV] H1) λr=>(r.1= .normal∧∃k',k'<k1+1∧∃(i:Nat) (xq xc:Value) (lq lc:List Int) (sx:Y.St) (x4 x5 bA x7 x8 cr x9 aC eK gH aM aU pJ aW bf aV:Value),JX (CY H o p t u xq lq xc lc) p sx r.2.2∧lc.length=i∧lq.length≤i∧(i:Int)+k'=bo L.length∧T=Y.ah (Y.lk fy L k' i lq lc) sx∧r.2.1=[pv p,x,x4,x5,cv L.length,bA,x7,x8,cr,x9,aC,cv i,eK,gH,xq,aM,aU,pJ,xc,aW,bf,aV])∨(r.1≠ .normal∧(∃(xq xc:Value) (lq lc:List Int) (sx:Y.St),JX (CY H o p t u xq lq xc lc) p sx r.2.2∧r.2.1[14]? =some xq∧r.2.1[18]? =some xc∧((r.1= .exit 0∧lq.length≤128∧lc.length≤128∧T=Y.ah (Y.lk fy L 0 lc.length lq lc) sx)∨(r.1= .ret∧T=((0,false),sx)∧r.2.1[2]? =some (cv 0)∧r.2.1[3]? =some (.bool false))))∧∃(x4 x5 bA x7 x8 cr x9 aC aI eK gH aO aM aU pJ aN aW bf aV:Value),r.2.1=[pv p,x,x4,x5,cv L.length,bA,x7,x8,cr,x9,aC,aI,eK,gH,aO,aM,aU,pJ,aN,aW,bf,aV]):=by
    intro xq xc Pf lc H1 x4 x5 bA x7 x8 cr x9 aC eK gH aU pJ aW bf aV hj UJ Dh E;simp -implicitDefEqProofs only[K4,yj,sS,Nat.reduceAdd];refine Ev.call (yU _ _) ?_;rintro v Qu ⟨rfl,rfl⟩;simp -implicitDefEqProofs only[uQ,sS,Nat.reduceAdd];obtain⟨_,o1,uT,hg⟩:=id hj;obtain⟨y,UK,MM⟩:=(tU _ _ hg.fr).cut (m:=at_) (n:=at_+uy) (lo:=some (cv (cF L.length i))) (hi:=some (cv (cF L.length i+cg L.length i))) (by omega) (by omega) (by rw[CZ,Zm]) (by rw[CZ];congr 1;omega)
    simp -implicitDefEqProofs only[UK,sS,Nat.reduceAdd];have Ya:(L.take (at_+uy)).drop at_=(L.drop at_).take uy:=by rw[List.drop_take];congr 1;omega
    rw[Ya] at MM;have hjy:JX (λH' o'=>CY H o p t u xq Pf xc lc H' o'∧gT H' o' q y ((L.drop at_).take uy)) p sx _:=⟨(CY.eZ h2).and (bK.ku (by simpa using hq)),o1,uT,hg,MM⟩
    refine Ev.EA (ih ((L.drop at_).take uy).length ?_ rfl ?_ hjy hq (λH' o' a=>a.2) (f:=fy) ?_) λz zb s1 Hz ez MN=>?_
    ·simp;omega
    ·simp;omega
    ·simp;omega
    have zg:=MN.mono (CY.eZ h2) λo' a=>a.1
    rw[Y.aJ ez] at E;simp -implicitDefEqProofs only[Ag,sS,Nat.reduceAdd];cases zb<;>try simp -implicitDefEqProofs only[Ag,sS,Nat.reduceAdd]
    ·exact Ev.ret (.inr ⟨by simp,⟨_,_,_,_,s1,zg,rfl,rfl,.inr ⟨rfl,E,rfl,rfl⟩⟩,_,_,_,_,_,_,_,_,_,_,_,_,_,_,_,_,_,_,_,rfl⟩)
    ·refine Ev.aaX h2 zg (by omega) λx' Hz hj=>?_
     simp -implicitDefEqProofs only[KZ,yi,hw,sS,Nat.reduceAdd];refine Ev.ret (.inl ⟨rfl,k1,by omega,i+1,_,_,_,_,s1,_,_,_,_,_,_,_,_,_,_,_,_,_,_,_,_,hj,by simp[Dh],UJ,by omega,?_,rfl⟩)
     rw[E];simp only[Bool.true_eq_false,if_false]
   refine Ev.gtr (λkB=>?_) (λkB=>?_)<;>try simp -implicitDefEqProofs only[sS,Nat.reduceAdd]
   ·obtain⟨_,o1,uT,hg⟩:=id hj;obtain⟨i',off,b',e1,e2,e3,e4⟩:=(tU _ _ hg.fr).idx (j:=at_) (by omega)
    obtain⟨e5,e6,_⟩:=e4 _ e2;rw[Zm] at e1;simp -implicitDefEqProofs only[e1,gW,Nat.add_zero,e5,Ag,sS,Nat.reduceAdd];refine Ev.aaW h2 hj (by omega) λx' Hz hj=>?_
    rw[if_pos (show i>0 by omega)] at E'
    exact J2 _ _ _ _ _ _ _ _ _ _ _ _ _ _ _ hj (by simp;omega) Dh E'
   ·rw[if_neg (show ¬i>0 by omega)] at E'
    exact J2 _ _ _ _ _ _ _ _ _ _ _ _ _ _ _ hj (by omega) Dh E'
  ·have:k=0:=by omega
   subst this;subst Dh;exact Ev.ret (.inr ⟨by simp,⟨_,_,_,_,sx,hj,rfl,rfl,.inl ⟨rfl,by omega,by omega,E⟩⟩,_,_,_,_,_,_,_,_,_,_,_,_,_,_,_,_,_,_,_,rfl⟩)
 ·rintro e vs H1 ⟨⟨xq,xc,lq,lc,sx,hj,e14,e18,he⟩,x4,x5,bA,x7,x8,cr,x9,aC,aI,eK,gH,aO,aM,aU,pJ,aN,aW,bf,aV,rfl⟩;simp only[List.getElem?_cons_succ,List.getElem?_cons_zero,Option.some.injEq] at e14 e18;subst e14 e18;rcases he with⟨he,UJ,Dh,E⟩|⟨he,E,e1,e2⟩
  ·simp only at he;subst he;simp -implicitDefEqProofs only[K7,yl,sS,Nat.reduceAdd];obtain⟨_,o1,uT,hg⟩:=id hj;refine Ev.Sz (nF (ik hj) _ hg.q.ints.1 hg.c.ints.1 (by omega)) λw Hz hjw=>?_
   refine Ev.sw (nC hjw) λz s1 Hz ez hj=>?_
   try simp -implicitDefEqProofs only[sS,Nat.reduceAdd]
   refine Ev.is (nZ _ _) ?_
   try simp -implicitDefEqProofs only[sS,Nat.reduceAdd]
   refine Ev.ret (iH.of hj ?_);rw[hT,E];unfold Y.lk;simp only[Y.al,bl,bH,bN,cU,cV,ne_eq,not_true_eq_false,not_false_eq_true,if_true,if_false,Bool.not_true,Bool.not_false,true_and,and_true,false_and,and_false,true_or,or_true,false_or,or_false,Bool.false_eq_true,decide_true,decide_false,ez]
  ·simp only at he;subst he;simp only[List.getElem?_cons_succ,List.getElem?_cons_zero,Option.some.injEq] at e1 e2;subst e1 e2;show Ev (λ_=>some (Value.tuple #[cv 0,.bool false],H1)) _
   exact Ev.ret (iH.of (ik hj) (by rw[hT,E]))
end
section
variable {G:ae} {H H':aa} {o o':aj} {p m c:Nat} {K:aa→aj→Prop} {t:Int} {x:Value} {l:PL}
theorem vV (n:Nat):bL [cv 0] n=(List.replicate n (0:Int)).map cv:=by
 simp[bL,List.flatten_replicate_singleton]
theorem aaZ (a b c:Int)(H:aa):dJ 37 (.agg #[cv a,cv b,cv c]) H=some (pv H.length,H.new ⟨[cv a,cv b,cv c],37,1,false⟩):=by
 simp[dJ,Value.cells,aD,aS]
end
section
open Go.Proofs.YtgfgglponbmgmaaGreatA
variable {G:ae} {H H':aa} {o o':aj} {p c:Nat} {K:aa→aj→Prop} {t:Int} {x:Value} {l:PL} {st MJ s1:Y.St} {α β:Type}
theorem JX.uz (h:JX K p st H)(f: ∀o,∃o',Fr H o H' o' []):JX K p st H':=by
 obtain⟨hK,o,hr,hk⟩:=h;obtain⟨o',f⟩:=f o;exact⟨hK,o',hr.fr f (by simp) (by simp) (by simp),hK _ _ _ _ hk (f.wk (by simp))⟩
theorem JX.sl (h:JX (λH o=>K H o∧gT H o t x l) p st H)(hK:bK [(p:Int)] K):JX K p st H:=h.mono hK λo a=>a.1
theorem aa0 (h:JX K p st H){d:Int}(h1:1≤d∧d≤128){T:TypeId}: ∃s1 s2 H1 H2,VQ T 1 8 [cv 0] (cv (d-1)) (cv (d-1)) (H.cE 1)=some (s1,H1)∧JJ H.length (msB T 1 8 [cv 0] (cv d) (cv d)) H1=some (s2,H2)∧JX K p st H2∧eM H2 s1 (List.replicate (d-1).toNat 0)∧eM H2 s2 (List.replicate d.toNat 0):=by
 obtain⟨e,he⟩: ∃e:Nat,d=e+1:=⟨(d-1).toNat,by omega⟩
 subst he;have e1:(e:Int)+1-1=e:=by omega
 have e2:((e:Int)+1).toNat=e+1:=by omega
 have hb:msB T 1 8 [cv 0] (cv ((e:Int)+1)) (cv ((e:Int)+1))=some (λi=>.slice (some ⟨i,0,none⟩) (e+1) (e+1),⟨bL [cv 0] (e+1),T,1,false⟩):=by
  unfold msB VQ;simp only[e2];rw[if_pos (by omega)];rfl
 have hlen:(H.cE 1).length=H.length+1:=Ba 1;have hole:((H.cE 1).new ⟨bL [cv 0] e,T,1,false⟩)[H.length]? =some .hole:=by
  unfold aa.new;rw[List.getElem?_append_left (by omega)];exact A9
 refine⟨.slice (some ⟨H.length+1,0,none⟩) e e,.slice (some ⟨H.length,0,none⟩) (e+1) (e+1),(H.cE 1).new ⟨bL [cv 0] e,T,1,false⟩,((H.cE 1).new ⟨bL [cv 0] e,T,1,false⟩).set H.length (.zA ⟨bL [cv 0] (e+1),T,1,false⟩),?_,?_,?_,?_,?_⟩
 ·unfold VQ;simp only[e1,hlen,Int.toNat_natCast];rw[if_pos (by omega)]
 ·rw[hb];exact Hm hole
 ·refine h.uz λo=>⟨(o.up H.length (-9)).up (H.length+1) (-9),?_⟩
  refine⟨λi hi _=>?_,λi hi=>?_,?_⟩
  ·rw[ji (by omega)]
   unfold aa.new;rw[List.getElem?_append_left (by omega),Gn hi]
  ·rw[dO (by omega),dO (by omega)]
  ·simp only[List.length_set,cB,hlen];omega
 ·refine .inr ⟨H.length+1,0,e,by simp,λ_=>⟨⟨bL [cv 0] e,T,1,false⟩,?_,rfl,?_,?_⟩⟩
  ·have g:=aL (H:=H.cE 1) (c:=⟨bL [cv 0] e,T,1,false⟩);rw[hlen] at g;rw[ek (ji (by omega))];exact g
  ·simp[vV]
  ·simp[vV,e1]
 ·refine .inr ⟨H.length,0,e+1,by simp[e2],λ_=>⟨⟨bL [cv 0] (e+1),T,1,false⟩,?_,rfl,?_,?_⟩⟩
  ·exact si (by rw[cB,hlen];omega)
  ·simp[vV,e2]
  ·simp[vV,e2]
theorem Ev.UL {k:Nat→Value→aa→Option α}{Q:α→Prop}(h:JX K p st H){f:Nat}(hf:st.left≤f){a:Int}(ha: -9223372036854775808≤a∧a≤65536){b d:Int}(hk: ∀t y l s1 H',Y.ah (Y.gP (f+1) a b d []) st=(l,s1)→t≠(p:Int)→JX (λH o=>K H o∧gT H o t y l) p s1 H'→l.length≤1048577→Ev (λn=>k n y H') Q):
  Ev (λn=>af (run G n 122 [pv p,cv a,cv b,cv d,.slice none 0 0] H) (k n)) Q:=by
 have Zl:=h.left;obtain⟨hK,o,hr,hk0⟩:=h;obtain⟨t,Pg,CS⟩:=gI o H.length;have ht:oV t p:=⟨by omega,by omega,by omega⟩
 have hB:bK [(p:Int),t] λH' o'=>Fr H o H' o' [t,(p:Int)]:=bK.base (by simp)
 refine Ev.aaV (O9 (c:=1048577) hB ht (by omega) f (x:=.slice none 0 0) (l:=[]) ⟨bK.ko ht hB,o,hr,Fr.refl _ _ _,.inl ⟨rfl,rfl⟩⟩ hf (by simpa using Zl) ha b d) ?_
 rintro y l s1 H' e ⟨_,o',Vl,kU,hs⟩ hl;exact hk t y l s1 H' e ht.ne ⟨hK.and (bK.ku (by simpa using ht.ne)),o',Vl,hK _ _ _ _ hk0 (iM kU λi hi=>by have:=CS i hi;omega),hs.r⟩ (by omega)
theorem aa1 (h:JX K p st H){f:Nat}(hf:st.left≤f){a:Int}(ha: -9223372036854775808≤a∧a≤65536)(n:Int):aF (run G) 151 [pv p,cv a,cv n] H (iH K p st (Y.CR (f+1) a n)):=by
 refine Ev.up (t:=λk=>WQ (run G k) k (pv p) (cv a) (cv n) H) ?_ λk=>RH ..
 simp -implicitDefEqProofs only[WQ,sS,Nat.reduceAdd];have hK:=h.1;have J0: ∀{y:Value} {l:PL} {t:Int} {s1:Y.St} {H1:aa} (x6 x7 aI x8 x9 aC cr cw:Value),t≠(p:Int)→JX (λH o=>K H o∧gT H o t y l) p s1 H1→l.length≤1048577→Y.ah (Y.CR (f+1) a n) st=Y.ah (if s1.off then pure (0,false) else Y.iG (l.length+1) l) s1→Ev (λk=>vE (run G k) k [pv p,cv a,cv n,x6,x7,aI,x8,x9,aC,cr,cw,y] H1) λr=>iH K p st (Y.CR (f+1) a n) r.1 r.2:=by
  intro y l t s1 H1 x6 x7 aI x8 x9 aC cr cw ht hj hl E;simp -implicitDefEqProofs only[KD,xU,sS,Nat.reduceAdd];have zC:=hj.sl hK;refine Ev.nX hj (λhq=>?_) (λhq=>?_)<;>try simp -implicitDefEqProofs only[sS,Nat.reduceAdd]
  ·exact Ev.ret (iH.of zC (by rw[E,if_pos hq];rfl))
  ·refine Ev.EA (Pe _ rfl (by omega) hj ht (λH o a=>a.2) (Nat.le_refl _)) λz zb s2 Hz ez MN=>?_
   have zg:=MN.sl hK
   try simp -implicitDefEqProofs only[sS,Nat.reduceAdd]
   exact Ev.ret (iH.of zg (by rw[E,if_neg (by simp[hq]),ez]))
 refine Ev.geq (λhq=>?_) (λhq=>?_)<;>try simp -implicitDefEqProofs only[sS,Nat.reduceAdd]
 ·refine Ev.call (jZ _) ?_;rintro v Qu ⟨rfl,rfl⟩;have hd:=pA n;have hx:1≤(if(1:Int)>bo n then 1 else bo n)∧(if(1:Int)>bo n then 1 else bo n)≤128:=by split<;>omega
  simp -implicitDefEqProofs only[Ur,sS,Nat.reduceAdd];obtain⟨d,UM⟩: ∃d,d=(if(1:Int)>bo n then 1 else bo n):=⟨_,rfl⟩
  have hd3:max (Y.bo n) 1=d:=by rw[pN,UM];split<;>omega
  rw[←UM] at hx ⊢;obtain⟨s1,s2,H2,H3,g1,g2,g3,g4,g5⟩:=aa0 h hx (T:=2);have hw:IntKind.i64.wrap (d-1)=d-1:=fZ (by omega)
  simp -implicitDefEqProofs only[hw,g1,Nat.add_zero,g2,sS,Nat.reduceAdd];refine Ev.Sz (nF g3 _ g4 g5 (by simp;omega)) λw Hz hjw=>?_
  refine Ev.sw (nC hjw) λz s1 Hz ez hj=>?_
  try simp -implicitDefEqProofs only[sS,Nat.reduceAdd]
  refine Ev.is (nZ _ _) ?_
  try simp -implicitDefEqProofs only[sS,Nat.reduceAdd]
  refine Ev.ret (iH.of hj ?_);unfold Y.CR;rw[if_pos hq];simp only[Y.al,bl,bH,bN,cU,cV,ne_eq,not_true_eq_false,not_false_eq_true,if_true,if_false,Bool.not_true,Bool.not_false,true_and,and_true,false_and,and_false,true_or,or_true,false_or,or_false,Bool.false_eq_true,decide_true,decide_false,hd3,ez]
 ·refine Ev.eql (λkB=>?_) (λkB=>?_)<;>try simp -implicitDefEqProofs only[sS,Nat.reduceAdd]
  ·refine Ev.UL h hf ha λt y l s1 H1 e ht hj hl=>?_
   try simp -implicitDefEqProofs only[sS,Nat.reduceAdd]
   refine J0 _ _ _ _ _ _ _ _ ht hj hl ?_;unfold Y.CR;rw[if_neg hq,if_pos kB];simp only[Y.al,bl,bH,bN,cU,cV,ne_eq,not_true_eq_false,not_false_eq_true,if_true,if_false,Bool.not_true,Bool.not_false,true_and,and_true,false_and,and_false,true_or,or_true,false_or,or_false,Bool.false_eq_true,decide_true,decide_false,e];rfl
  ·refine J0 (t:= -9) (l:=[]) (s1:=st) _ _ _ _ _ _ _ _ (by omega) ⟨hK.and (bK.ku (by simp)),?_⟩ (by simp) ?_
   ·obtain⟨_,o,hr,hk⟩:=h;exact⟨o,hr,hk,.nil⟩
   ·unfold Y.CR;rw[if_neg hq,if_neg kB];simp only[Y.al,bl,bH,bN,cU,cV,ne_eq,not_true_eq_false,not_false_eq_true,if_true,if_false,Bool.not_true,Bool.not_false,true_and,and_true,false_and,and_false,true_or,or_true,false_or,or_false,Bool.false_eq_true,decide_true,decide_false];rfl
theorem LY (n i:Int):0≤gO n i∧0≤cg n i∧gO n i+cg n i≤16384:=by
 by_cases hn:2≤n∧n≤16384
 ·by_cases hi:0≤i∧i<bo n
  ·have e:gO n i=cF n i.toNat:=by unfold gO;rw[if_neg (by omega)]
   have a1:=yX n i.toNat;have a2:=vR hn (i:=i.toNat) (by omega)
   have a3:=j8 hn hi;have a4:((i.toNat:Nat):Int)=i:=by omega
   rw[a4] at a2;rw[e];omega
  ·have e1:gO n i=0:=by unfold gO;rw[if_pos (by omega)]
   have e2:cg n i=0:=by unfold cg;rw[if_pos (by omega)]
   omega
 ·have d0:=nA (n:=n) (by omega)
  have e1:gO n i=0:=by unfold gO;rw[if_pos (by omega)]
  have e2:cg n i=0:=by unfold cg;rw[if_pos (by omega)]
  omega
theorem Ph (h:JX K p st H){f:Nat}(hf:st.left≤f){a:Int}(ha: -9223372036854775808≤a∧a≤65536)(n x d i:Int):aF (run G) 165 [pv p,cv a,cv n,cv x,cv d,cv i] H (jM K p st (Y.oQ (f+1) a n x d i)):=by
 refine Ev.up (t:=λk=>XV (run G k) k (pv p) (cv a) (cv n) (cv x) (cv d) (cv i) H) ?_ λk=>Sj ..
 simp -implicitDefEqProofs only[XV,sS,Nat.reduceAdd];have hK:=h.1;refine Ev.call (OS _ _) ?_;rintro v H1 ⟨rfl,rfl⟩
 try simp -implicitDefEqProofs only[sS,Nat.reduceAdd]
 refine Ev.call (yU _ _) ?_;rintro v H1 ⟨rfl,rfl⟩;have fs:=LY n i;simp -implicitDefEqProofs only[sS,Nat.reduceAdd,fZ (x:=gO n i+cg n i) (by omega)]
 refine Ev.UL h hf ha λt y l s1 H1 e ht hj hl=>?_
 try simp -implicitDefEqProofs only[sS,Nat.reduceAdd]
 have E0:Y.ah (Y.oQ (f+1) a n x d i) st=Y.ah (if s1.off then pure true else Y.iG (l.length+1) l >>= λwo=>if wo.2=false then pure false else Y.LL l x d i wo.1) s1:=by
  unfold Y.oQ;simp only[Y.al,bl,bH,bN,cU,cV,ne_eq,not_true_eq_false,not_false_eq_true,if_true,if_false,Bool.not_true,Bool.not_false,true_and,and_true,false_and,and_false,true_or,or_true,false_or,or_false,Bool.false_eq_true,decide_true,decide_false,UI,sD,e];rfl
 refine Ev.nX hj (λhq=>?_) (λhq=>?_)<;>try simp -implicitDefEqProofs only[sS,Nat.reduceAdd]
 ·exact Ev.ret (jM.of (hj.sl hK) (by rw[E0,if_pos hq];rfl))
 rw[if_neg (by simp[hq])] at E0
 refine Ev.EA (Pe _ rfl (by omega) hj ht (λH o a=>a.2) (Nat.le_refl _)) λz zb s2 Hz ez MN=>?_
 rw[Y.aJ ez] at E0;simp -implicitDefEqProofs only[sS,Nat.reduceAdd];have zg:=MN.sl hK;have J0: ∀{s3:Y.St} {H1:aa} (x6 aI bP aM aU cw dF:Value),JX K p s3 H1→Y.ah (Y.oQ (f+1) a n x d i) st=Y.ah (Y.cs (Y.di x d i) 0 z >>= λ_=>pure true) s3→Ev (λk=>vQ (run G k) k [pv p,cv a,cv n,cv x,cv d,cv i,x6,aI,bP,aM,aU,cw,dF,cv z] H1) λr=>jM K p st (Y.oQ (f+1) a n x d i) r.1 r.2:=by
  intro s3 H1 x6 aI bP aM aU cw dF hj E;simp -implicitDefEqProofs only[LF,yN,sS,Nat.reduceAdd];refine Ev.is (kN _ _ _) ?_;refine Ev.OX (EB hj _ _ _) λz s4 Hz ez jb=>?_
  try simp -implicitDefEqProofs only[sS,Nat.reduceAdd]
  exact Ev.ret (jM.of jb (by rw[E,Y.aJ ez];rfl))
 cases zb<;>try simp -implicitDefEqProofs only[sS,Nat.reduceAdd]
 ·exact Ev.ret (jM.of zg (by rw[E0];rfl))
 rw[if_neg (by simp)] at E0
 obtain⟨_,o1,uT,DB,hs⟩:=id MN;refine Ev.gtr (λhq=>?_) (λhq=>?_)<;>try simp -implicitDefEqProofs only[hs.len,sS,Nat.reduceAdd]
 ·refine Ev.gtr (λkB=>?_) (λkB=>?_)<;>try simp -implicitDefEqProofs only[sS,Nat.reduceAdd]
  ·refine Ev.is (pC _ _) ?_;obtain⟨i',off,b,e1,e2,e3,e4⟩:=hs.idx (j:=0) (by omega)
   obtain⟨e5,e6,_⟩:=e4 _ e2;simp only[Int.natCast_zero] at e1;simp -implicitDefEqProofs only[e1,gW,Nat.add_zero,e5,sS,Nat.reduceAdd];refine Ev.Zk (CT zg _ _) λv u s3 Hz ew hj=>?_
   try simp -implicitDefEqProofs only[e5,sS,Nat.reduceAdd]
   refine J0 _ _ _ _ _ _ _ hj ?_;cases l with
   |nil=>simp at kB
   |cons kv l=>rw[E0];unfold Y.LL;simp only[if_pos hq];exact Y.aJ ew
  ·refine J0 _ _ _ _ _ _ _ zg ?_;have:l=[]:=List.length_eq_zero_iff.1 (by omega)
   subst this;rw[E0];rfl
 ·refine J0 _ _ _ _ _ _ _ zg ?_;rw[E0];unfold Y.LL;cases l with
  |nil=>rfl
  |cons kv l=>simp only[if_neg hq]
theorem GC {g fx:Nat}{a t n x:Int}{s:Y.St}(h:s.off=true):Y.ah (Y.km g a t n x fx) s=(true,s):=by
 cases fx with
 |zero=>rfl
 |succ fx=>unfold Y.km;simp only[Y.al,bl,bH,bN,cU,cV,ne_eq,not_true_eq_false,not_false_eq_true,if_true,if_false,Bool.not_true,Bool.not_false,true_and,and_true,false_and,and_false,true_or,or_true,false_or,or_false,Bool.false_eq_true,decide_true,decide_false,h]
theorem LZ {g fx:Nat}{a t n x:Int}{s:Y.St}{k:Bool→Y.Tr β}(h:s.off=false):Y.ah (Y.km g a t n x (fx+1) >>= k) s=Y.ah ((Y.ad (Y.wr (a+4)) 1 >>= λi=>if i≥bo n then pure true else Y.gZ >>= λb=>if b then pure true else Y.oQ g t n x (bo n) i >>= λok=>if ok=false then pure false else Y.km g a t n x fx) >>= k) s:=by
 rw[Y.al]
 conv=>lhs;unfold Y.km
 simp only[Y.al,bl,bH,bN,cU,cV,ne_eq,not_true_eq_false,not_false_eq_true,if_true,if_false,Bool.not_true,Bool.not_false,true_and,and_true,false_and,and_false,true_or,or_true,false_or,or_false,Bool.false_eq_true,decide_true,decide_false,h,pN]
theorem Bp {g fx:Nat}{t n x j:Int}{s:Y.St}(h:s.off=true∨¬j<bo n):Y.ah (Y.gQ g t n x fx j) s=(true,s):=by
 cases fx with
 |zero=>rfl
 |succ fx=>
  unfold Y.gQ;rw[pN];by_cases h1:j<bo n
  ·rw[if_neg (by omega)]
   have h2:=h.resolve_right λk=>k h1
   simp only[Y.al,bl,bH,bN,cU,cV,ne_eq,not_true_eq_false,not_false_eq_true,if_true,if_false,Bool.not_true,Bool.not_false,true_and,and_true,false_and,and_false,true_or,or_true,false_or,or_false,Bool.false_eq_true,decide_true,decide_false,h2]
  ·rw[if_pos h1];rfl
theorem Pj {g fx:Nat}{t n x j:Int}{s:Y.St}(h:s.off=false)(h1:j<bo n):Y.ah (Y.gQ g t n x (fx+1) j) s=Y.ah (Y.rd (Y.di x (bo n) j) >>= λc=>if c≠0 then Y.gQ g t n x fx (j+1) else Y.gZ >>= λb=>if b then Y.gQ g t n x fx (j+1) else Y.oQ g t n x (bo n) j >>= λok=>if ok=false then pure false else Y.gQ g t n x fx (j+1)) s:=by
 conv=>lhs;unfold Y.gQ
 rw[pN,if_neg (by omega)]
 simp only[Y.al,bl,bH,bN,cU,cV,ne_eq,not_true_eq_false,not_false_eq_true,if_true,if_false,Bool.not_true,Bool.not_false,true_and,and_true,false_and,and_false,true_or,or_true,false_or,or_false,Bool.false_eq_true,decide_true,decide_false,h]
theorem SK (h:JX K p st H){f:Nat}(hf:st.left≤f)(a:Int){t:Int}(ht: -9223372036854775808≤t∧t≤65536)(n x:Int):aF (run G) 152 [pv p,cv a,cv t,cv n,cv x] H (jM K p st (Y.gk (f+1) a t n x)):=by
 have w4:IntKind.i64.wrap (a+4)=Y.wr (a+4):=cL _;refine Ev.up (t:=λk=>W6 (run G k) k (pv p) (cv a) (cv t) (cv n) (cv x) H) ?_ λk=>RO ..
 simp -implicitDefEqProofs only[W6,sS,Nat.reduceAdd];refine Ev.call (jZ _) ?_;rintro v Qu ⟨rfl,rfl⟩
 try simp -implicitDefEqProofs only[sS,Nat.reduceAdd]
 have B:Y.ah (Y.gk (f+1) a t n x) st=Y.ah (Y.km (f+1) a t n x (f+1) >>= λok=>if ok=false then pure false else Y.gQ (f+1) t n x (f+1) 0) st:=rfl
 refine Ev.loop (k:=st.left) (λk vs Hx=>∃(sx:Y.St) (fx:Nat) (aC bn aN cd bP cw aI eC aM fE fT:Value),JX K p sx Hx∧k=sx.left∧sx.left≤f∧(sx.left+1≤fx∨sx.off=true)∧Y.ah (Y.gk (f+1) a t n x) st=Y.ah (Y.km (f+1) a t n x fx >>= λok=>if ok=false then pure false else Y.gQ (f+1) t n x (f+1) 0) sx∧vs=[pv p,cv a,cv t,cv n,cv x,aC,bn,aN,cv (bo n),cd,bP,cw,aI,eC,aM,fE,fT])
  (λr=>∃sx,JX K p sx r.2.2∧sx.left≤f∧((r.1= .exit 0∧Y.ah (Y.gk (f+1) a t n x) st=Y.ah (Y.gQ (f+1) t n x (f+1) 0) sx)∨(r.1= .ret∧∃u,r.2.1[5]? =some (.bool u)∧Y.ah (Y.gk (f+1) a t n x) st=(u,sx)))∧∃(aC bn aN cd bP cw aI eC aM fE fT:Value),r.2.1=[pv p,cv a,cv t,cv n,cv x,aC,bn,aN,cv (bo n),cd,bP,cw,aI,eC,aM,fE,fT]) ⟨st,f+1,_,_,_,_,_,_,_,_,_,_,_,h,rfl,hf,.inl (by omega),B,rfl⟩ ?_ ?_
 ·rintro k vs Hx ⟨sx,fx,aC,bn,aN,cd,bP,cw,aI,eC,aM,fE,fT,hj,rfl,hl,pY,E,rfl⟩;simp -implicitDefEqProofs only[KS,yc,sS,Nat.reduceAdd];refine Ev.nX hj (λhq=>?_) (λhq=>?_)<;>try simp -implicitDefEqProofs only[sS,Nat.reduceAdd]
  ·rw[Y.al,GC hq] at E;exact Ev.ret (.inr ⟨by simp,sx,hj,hl,.inl ⟨rfl,E⟩,_,_,_,_,_,_,_,_,_,_,_,rfl⟩)
  have l4:=iN hq;have O8:sx.left+1≤fx:=pY.resolve_right (by rw[hq];simp)
  obtain⟨fy,rfl⟩: ∃fy,fx=fy+1:=⟨fx-1,by omega⟩
  rw[LZ hq] at E;simp only[Y.bind_assoc] at E;simp -implicitDefEqProofs only[w4,sS,Nat.reduceAdd];refine Ev.eY (Ut hj _ _) λi s1 H1 e1 fG=>?_
  have l5:s1.left=sx.left-1:=by
   have h:=Y.tO (.ad (Y.wr (a+4)) 1) sx;have e2:(Y.oP (.ad (Y.wr (a+4)) 1) sx).2=s1:=congrArg Prod.snd e1;rw[e2] at h;exact h
  rw[Y.aJ e1] at E
  try simp -implicitDefEqProofs only[sS,Nat.reduceAdd]
  refine Ev.geq (λh2=>?_) (λh2=>?_)<;>try simp -implicitDefEqProofs only[sS,Nat.reduceAdd]
  ·rw[if_pos h2,Y.bind_pure] at E;exact Ev.ret (.inr ⟨by simp,s1,fG,by omega,.inl ⟨rfl,E⟩,_,_,_,_,_,_,_,_,_,_,_,rfl⟩)
  rw[if_neg h2] at E;refine Ev.nX fG (λqx=>?_) (λqx=>?_)<;>try simp -implicitDefEqProofs only[sS,Nat.reduceAdd]
  ·have E':Y.ah (Y.gk (f+1) a t n x) st=Y.ah (Y.gQ (f+1) t n x (f+1) 0) s1:=by rw[E,Y.al];simp only[Y.al,bl,bH,bN,cU,cV,ne_eq,not_true_eq_false,not_false_eq_true,if_true,if_false,Bool.not_true,Bool.not_false,true_and,and_true,false_and,and_false,true_or,or_true,false_or,or_false,Bool.false_eq_true,decide_true,decide_false,qx];rfl
   exact Ev.ret (.inr ⟨by simp,s1,fG,by omega,.inl ⟨rfl,E'⟩,_,_,_,_,_,_,_,_,_,_,_,rfl⟩)
  refine Ev.LM (Ph fG (f:=f) (by omega) ht n x (bo n) i) λok s2 H2 e2 fM=>?_
  have l6:=dp e2;have E':Y.ah (Y.gk (f+1) a t n x) st=Y.ah (if ok=false then pure false else Y.km (f+1) a t n x fy >>= λok=>if ok=false then pure false else Y.gQ (f+1) t n x (f+1) 0) s2:=by
   rw[E,Y.al];simp only[Y.al,bl,bH,bN,cU,cV,ne_eq,not_true_eq_false,not_false_eq_true,if_true,if_false,Bool.not_true,Bool.not_false,true_and,and_true,false_and,and_false,true_or,or_true,false_or,or_false,Bool.false_eq_true,decide_true,decide_false,qx,e2];cases ok
   ·rfl
   ·simp only[Bool.true_eq_false,Y.al,bl,bH,bN,cU,cV,ne_eq,not_true_eq_false,not_false_eq_true,if_true,if_false,Bool.not_true,Bool.not_false,true_and,and_true,false_and,and_false,true_or,or_true,false_or,or_false,Bool.false_eq_true,decide_true,decide_false]
  cases ok<;>try simp -implicitDefEqProofs only[sS,Nat.reduceAdd]
  ·exact Ev.ret (.inr ⟨by simp,s2,fM,by omega,.inr ⟨rfl,false,rfl,E'⟩,_,_,_,_,_,_,_,_,_,_,_,rfl⟩)
  ·rw[if_neg (by decide)] at E'
   exact Ev.ret (.inl ⟨rfl,s2.left,by omega,s2,fy,_,_,_,_,_,_,_,_,_,_,_,fM,rfl,by omega,.inl (by omega),E',rfl⟩)
 ·rintro e vs H1 ⟨s0,hj,hl,he,aC,bn,aN,cd,bP,cw,aI,eC,aM,fE,fT,hv⟩;simp only at hv hj he;subst hv;rcases he with⟨rfl,E0⟩|⟨rfl,u,e1,E0⟩
  ·simp -implicitDefEqProofs only[KR,yb,sS,Nat.reduceAdd];refine Ev.loop (k:=(bo n).toNat) (λk vs Hx=>∃(i:Nat) (sx:Y.St) (fx:Nat) (aC bn aN cd bP cw eC aM fE fT:Value),JX K p sx Hx∧sx.left≤f∧(sx.left+1≤fx∨sx.off=true)∧(i:Int)+k=bo n∧Y.ah (Y.gk (f+1) a t n x) st=Y.ah (Y.gQ (f+1) t n x fx i) sx∧vs=[pv p,cv a,cv t,cv n,cv x,aC,bn,aN,cv (bo n),cd,bP,cw,cv i,eC,aM,fE,fT])
    (λr=>∃sx,JX K p sx r.2.2∧((r.1= .exit 2∧Y.ah (Y.gk (f+1) a t n x) st=(true,sx))∨(r.1= .ret∧∃u,r.2.1[5]? =some (.bool u)∧Y.ah (Y.gk (f+1) a t n x) st=(u,sx)))∧∃(aC bn aN cd bP cw aI eC aM fE fT:Value),r.2.1=[pv p,cv a,cv t,cv n,cv x,aC,bn,aN,cv (bo n),cd,bP,cw,aI,eC,aM,fE,fT]) ⟨0,s0,f+1,_,_,_,_,_,_,_,_,_,_,hj,hl,.inl (by omega),by have:=pA n;omega,E0,rfl⟩ ?_ ?_
   ·rintro k vs Hx ⟨i,sx,fx,aC,bn,aN,cd,bP,cw,eC,aM,fE,fT,hj,hl,pY,hik,E,rfl⟩;have hdn:=pA n;have hw:IntKind.i64.wrap ((i:Int)+1)=((i+1:Nat):Int):=by rw[fZ (by omega)];omega
    simp -implicitDefEqProofs only[KN,xZ,sS,Nat.reduceAdd];refine Ev.lss (λh2=>?_) (λh2=>?_)<;>try simp -implicitDefEqProofs only[sS,Nat.reduceAdd]
    rotate_left
    ·rw[Bp (.inr h2)] at E;exact Ev.ret (.inr ⟨by simp,sx,hj,.inl ⟨rfl,E⟩,_,_,_,_,_,_,_,_,_,_,_,rfl⟩)
    refine Ev.nX hj (λhq=>?_) (λhq=>?_)<;>try simp -implicitDefEqProofs only[sS,Nat.reduceAdd]
    ·rw[Bp (.inl hq)] at E;exact Ev.ret (.inr ⟨by simp,sx,hj,.inl ⟨rfl,E⟩,_,_,_,_,_,_,_,_,_,_,_,rfl⟩)
    have l4:=iN hq;have O8:sx.left+1≤fx:=pY.resolve_right (by rw[hq];simp)
    obtain⟨fy,rfl⟩: ∃fy,fx=fy+1:=⟨fx-1,by omega⟩
    obtain⟨k1,rfl⟩: ∃k1,k=k1+1:=⟨k-1,by omega⟩
    rw[Pj hq h2] at E;have iQ: ∀{sy:Y.St} {H2:aa} (aC bn aN cd bP cw eC aM fE fT:Value),JX K p sy H2→sy.left≤sx.left-1→Y.ah (Y.gk (f+1) a t n x) st=Y.ah (Y.gQ (f+1) t n x fy ((i:Int)+1)) sy→Ev (λk=>vG (run G k) k [pv p,cv a,cv t,cv n,cv x,aC,bn,aN,cv (bo n),cd,bP,cw,cv i,eC,aM,fE,fT] H2) λr=>(r.1= .normal∧∃k',k'<k1+1∧∃(i:Nat) (sx:Y.St) (fx:Nat) (aC bn aN cd bP cw eC aM fE fT:Value),JX K p sx r.2.2∧sx.left≤f∧(sx.left+1≤fx∨sx.off=true)∧(i:Int)+k'=bo n∧Y.ah (Y.gk (f+1) a t n x) st=Y.ah (Y.gQ (f+1) t n x fx i) sx∧r.2.1=[pv p,cv a,cv t,cv n,cv x,aC,bn,aN,cv (bo n),cd,bP,cw,cv i,eC,aM,fE,fT])∨(r.1≠ .normal∧∃sx,JX K p sx r.2.2∧((r.1= .exit 2∧Y.ah (Y.gk (f+1) a t n x) st=(true,sx))∨(r.1= .ret∧∃u,r.2.1[5]? =some (.bool u)∧Y.ah (Y.gk (f+1) a t n x) st=(u,sx)))∧∃(aC bn aN cd bP cw aI eC aM fE fT:Value),r.2.1=[pv p,cv a,cv t,cv n,cv x,aC,bn,aN,cv (bo n),cd,bP,cw,aI,eC,aM,fE,fT]):=by
     intro sy H2 aC bn aN cd bP cw eC aM fE fT hj Dy E;simp -implicitDefEqProofs only[KK,xY,hw,sS,Nat.reduceAdd];refine Ev.ret (.inl ⟨rfl,k1,by omega,i+1,sy,fy,_,_,_,_,_,_,_,_,_,_,hj,by omega,.inl (by omega),by omega,?_,rfl⟩)
     rw[E];congr 1
    refine Ev.is (kN _ _ _) ?_;refine Ev.eY (cZ hj _) λc s1 H1 e1 fG=>?_
    have l5:=dk e1;rw[Y.aJ e1] at E
    try simp -implicitDefEqProofs only[sS,Nat.reduceAdd]
    refine Ev.neq (λh3=>?_) (λh3=>?_)<;>try simp -implicitDefEqProofs only[sS,Nat.reduceAdd]
    ·rw[if_pos h3] at E;exact iQ _ _ _ _ _ _ _ _ _ _ fG (by omega) E
    rw[if_neg (by simp[h3])] at E
    refine Ev.nX fG (λqx=>?_) (λqx=>?_)<;>try simp -implicitDefEqProofs only[sS,Nat.reduceAdd]
    ·have E':Y.ah (Y.gk (f+1) a t n x) st=Y.ah (Y.gQ (f+1) t n x fy ((i:Int)+1)) s1:=by rw[E];simp only[Y.al,bl,bH,bN,cU,cV,ne_eq,not_true_eq_false,not_false_eq_true,if_true,if_false,Bool.not_true,Bool.not_false,true_and,and_true,false_and,and_false,true_or,or_true,false_or,or_false,Bool.false_eq_true,decide_true,decide_false,qx]
     exact iQ _ _ _ _ _ _ _ _ _ _ fG (by omega) E'
    refine Ev.LM (Ph fG (f:=f) (by omega) ht n x (bo n) i) λok s2 H2 e2 fM=>?_
    have l6:=dp e2;have E':Y.ah (Y.gk (f+1) a t n x) st=Y.ah (if ok=false then pure false else Y.gQ (f+1) t n x fy ((i:Int)+1)) s2:=by
     rw[E];simp only[Y.al,bl,bH,bN,cU,cV,ne_eq,not_true_eq_false,not_false_eq_true,if_true,if_false,Bool.not_true,Bool.not_false,true_and,and_true,false_and,and_false,true_or,or_true,false_or,or_false,Bool.false_eq_true,decide_true,decide_false,qx,e2]
    cases ok<;>try simp -implicitDefEqProofs only[sS,Nat.reduceAdd]
    ·exact Ev.ret (.inr ⟨by simp,s2,fM,.inr ⟨rfl,false,rfl,E'⟩,_,_,_,_,_,_,_,_,_,_,_,rfl⟩)
    ·rw[if_neg (by decide)] at E'
     exact iQ _ _ _ _ _ _ _ _ _ _ fM (by omega) E'
   ·rintro e vs H2 ⟨sx,fM,he,aC,bn,aN,cd,bP,cw,aI,eC,aM,fE,fT,hv⟩;simp only at hv fM he;subst hv;rcases he with⟨rfl,E⟩|⟨rfl,u,e1,E⟩
    ·simp -implicitDefEqProofs only[KP,ya,sS,Nat.reduceAdd];exact Ev.ret (jM.of fM E)
    ·simp only[List.getElem?_cons_succ,List.getElem?_cons_zero,Option.some.injEq] at e1;subst e1;show Ev (λ_=>some (Value.bool u,H2)) _
     exact Ev.ret (jM.of fM E)
  ·simp only[List.getElem?_cons_succ,List.getElem?_cons_zero,Option.some.injEq] at e1;subst e1;show Ev (λ_=>some (Value.bool u,H1)) _
   exact Ev.ret (jM.of hj E0)
end
end Go.Proofs.YtgfgglponbmgmaaGreat.Fun
end
