/- Texts of the proof of dcssPlays_holds, put together by a small program of ours (names shortened, spaces taken out). No condition beyond the given statement. -/
import Derived.Test.YtgfgglponbmgmaaGreatDCP10
import Derived.Test.YtgfgglponbmgmaaGreatDCP16
import Derived.Test.YtgfgglponbmgmaaGreatDCP26
import Derived.Test.YtgfgglponbmgmaaGreatDCP17
import Derived.Test.YtgfgglponbmgmaaGreatDCP14
import Derived.Test.YtgfgglponbmgmaaGreatDCP18
import Derived.Test.YtgfgglponbmgmaaGreatDCP15
import Derived.Test.YtgfgglponbmgmaaGreatDCP12
set_option linter.unusedVariables false
set_option linter.unusedSimpArgs false
set_option linter.unnecessarySimpa false
noncomputable section
section
namespace Go.Proofs.YtgfgglponbmgmaaGreat.Fun
open Go Go.RowKit Go.Proofs.YtgfgglponbmgmaaGreatA.Am
set_option maxRecDepth 10000
section
open Go.Proofs.YtgfgglponbmgmaaGreatA
variable {G:ae} {H H':aa} {o o':aj} {p c:Nat} {K:aa→aj→Prop} {t:Int} {x:Value} {l:PL} {st No s1:Y.St} {α β:Type}
theorem P6 (n:Int): ∀(b:Nat) (r:Int),Y.jn n b r=jn n b r
 |0,r=>rfl
 |b+1,r=>by unfold Y.jn jn;exact P6 n b _
theorem pK (n:Int):Y.bs n=bs n:=by unfold Y.bs bs Y.jq jq;simp only[P6]
theorem sH (n i:Int):Y.cj n i=cj n i:=by unfold Y.cj cj;simp only[pK]
theorem P7 (n:Int): ∀i,Y.cF n i=cF n i
 |0=>rfl
 |i+1=>by unfold Y.cF cF;rw[P7 n i,sH]
theorem VE (n i:Int):Y.gN n i=gN n i:=by unfold Y.gN gN;simp only[pK,P7]
theorem nF (h:JX K p st H)(s:Int){q c:Value}{lq lc:List Int}(hq:eJ H q lq)(hc:eJ H c lc)(hl:lq.length+lc.length≤1000000):
  aF (run G) 131 [cv s,q,c] H λw H'=>PO K p st (Y.cR s lq lc) H' w:=by
 refine Ev.up (t:=λn=>OJ (run G n) n (cv s) q c H) ?_ λn=>Ii ..
 simp -implicitDefEqProofs only[OJ,hq.len,hc.len,sS,Nat.reduceAdd];have hw:IntKind.i64.wrap ((lq.length:Int)+1)=lq.length+1:=gz (by omega)
 rw[hw];refine Ev.neq (λh1=>?_) (λh1=>?_)<;>try simp -implicitDefEqProofs only[hc.len,PR,sS,Nat.reduceAdd]
 ·rw[show Y.cR s lq lc=[] by unfold Y.cR;rw[if_pos (by omega)]]
  exact Ev.ret h.GY
 rw[Y.ub (by omega)]
 obtain⟨hK,o,hr,hk⟩:=h;obtain⟨t,ht,hf⟩:=gH o H.length;have s1:=oK.new H o t 2 [(lc.length:Int),s,0,0,0];have f1:Fr H o (H.new ⟨[cv lc.length,cv s,cv 0,cv 0,cv 0],2,1,false⟩) (o.up H.length t) [t]:=(Fr.refl H o [t]).new _ _;obtain⟨H1,e1⟩: ∃z,z=H.new ⟨[cv lc.length,cv s,cv 0,cv 0,cv 0],2,1,false⟩:=⟨_,rfl⟩;have keep: ∀{x:Value} {l:List Int} {H2:aa} {o2:aj},eJ H x l→Fr H o H2 o2 [t]→eJ H2 x l:=λhx f=>hx.keep λi b e dx=>by
  rcases hx with⟨e1,e2⟩|⟨j,off,cc,e1,hb⟩
  ·exact absurd e2 dx
  ·obtain⟨bb,g1,_⟩:=hb dx;rw[e1] at e;cases e;exact f.same j (ar g1) (by have:=hf j (ar g1);simp;omega)
 obtain⟨x2,H2,o2,a2,s2,f2,_⟩:=j9 (H:=H1) 2 (by rw[e1];exact s1) (keep hq (by rw[e1];exact f1)) (by simp;omega)
 have f12:Fr H o H2 o2 [t]:=by rw[e1] at f2;exact f1.tr f2
 obtain⟨x3,H3,o3,a3,s3,f3,_⟩:=j9 2 s2 (keep hc f12) (by simp;omega)
 have f13:=f12.tr f3;have eH:H.new ⟨[cv lc.length,cv s,cv 0,cv 0,cv 0],2,1,false⟩=H1:=e1.symm;simp -implicitDefEqProofs only[eH,List.length_cons,List.length_nil,sS,Nat.reduceAdd] at a2;simp -implicitDefEqProofs only[eH,a2,a3,sS,Nat.reduceAdd];have f0:Fr H o H3 o3 []:=iL f13 λi hi=>by have:=hf i hi;omega
 let o4:aj:=λi=>if H.length≤i∧o3 i=t then -51 else o3 i
 have f4:Fr H o H3 o4 []:=⟨f0.slot,λi hi=>by show(if H.length≤i∧o3 i=t then(-51:Int) else o3 i)=_;rw[if_neg (by omega)];exact f0.own i hi,f0.size⟩
 refine Ev.ret ⟨hK,o4,hr.fr f4 (by simp) (by simp) (by simp),hK _ _ _ _ hk (f4.wk (by simp)),s3.ints.1,λb n cc e dx=>?_⟩
 obtain⟨g1,g2⟩:=s3.ints.2 b n cc e dx;refine⟨g1,?_⟩;show(if H.length≤b.block∧o3 b.block=t then(-51:Int) else o3 b.block)= -51
 have hge:H.length≤b.block:=by
  rcases Nat.lt_or_ge b.block H.length with g|g
  ·have a1:=f13.own _ g;have a2:=hf _ g;omega
  ·exact g
 rw[if_pos ⟨hge,g2⟩]
section
variable {B:aa} {b:aj} {u:Int} {y:Value} {lx ly:List Int} {k:Nat→Value→aa→Option α} {Q:α→Prop} {a:Int} {T ty:TypeId}
theorem Ev.abr (h2:Two B b p t u)(h:JX (C9 B b p t u x lx y ly) p st H)(hb:lx.length+1≤4294967296)(hk: ∀x' H',JX (C9 B b p t u x' (lx++[a]) y ly) p st H'→Ev (λn=>k n x' H') Q):
  Ev (λn=>af (dj T 1 8 x (.slice (some ⟨H.length,0,none⟩) 1 1) (H.new ⟨[cv a],ty,1,false⟩)) (k n)) Q:=by
 obtain⟨_,o,hr,hf,hx,hy⟩:=h;obtain⟨s',H2,o2,e,s2,f2⟩:=P4 T ty a hx hb;rw[e];refine hk s' H2 ⟨C9.fe h2,o2,hr.fr f2 ?_ ?_ ?_,iL (hf.trans f2 (rs:=[t,(p:Int)]) (by simp) (by simp)) h2.ft,s2,hy.fr f2 ?_⟩
 ·simp;exact λe=>h2.Rh.ne e.symm
 ·simp;exact λe=>h2.Rh.n0 e.symm
 ·simp;exact λe=>h2.Rh.n1 e.symm
 ·simp;exact λe=>h2.ne e.symm
theorem Ev.abt (h2:Two B b p t u)(h:JX (C9 B b p t u x lx y ly) p st H)(hb:ly.length+1≤4294967296)(hk: ∀y' H',JX (C9 B b p t u x lx y' (ly++[a])) p st H'→Ev (λn=>k n y' H') Q):
  Ev (λn=>af (dj T 1 8 y (.slice (some ⟨H.length,0,none⟩) 1 1) (H.new ⟨[cv a],ty,1,false⟩)) (k n)) Q:=by
 obtain⟨_,o,hr,hf,hx,hy⟩:=h;obtain⟨s',H2,o2,e,s2,f2⟩:=P4 T ty a hy hb;rw[e];refine hk s' H2 ⟨C9.fe h2,o2,hr.fr f2 ?_ ?_ ?_,iL (hf.trans f2 (rs:=[u,(p:Int)]) (by simp) (by simp)) h2.fu,hx.fr f2 ?_,s2⟩
 ·simp;exact λe=>h2.at2.ne e.symm
 ·simp;exact λe=>h2.at2.n0 e.symm
 ·simp;exact λe=>h2.at2.n1 e.symm
 ·simp;exact λe=>h2.ne e
end
theorem P8: ∀(N:Nat) {K:aa→aj→Prop} {H:aa} {st:Y.St} {x:Value} {L:PL} {q:Int},L.length=N→N≤2147483648→JX K p st H→q≠(p:Int)→(∀H o,K H o→gU H o q x L)→∀{f:Nat},N+1≤f→aF (run G) 123 [pv p,x] H (iG K p st (Y.iF f L)):=by
 intro N;induction N using Nat.strongRecOn with
 |ind N ih=>
 intro K H st x L q hN hN2 h hq hx f hf;obtain⟨fy,rfl⟩: ∃fy,f=fy+1:=⟨f-1,by omega⟩
 refine Ev.up (t:=λn=>Ym (run G n) n (pv p) x H) ?_ λn=>SE ..
 obtain⟨hK,o,hr,hk⟩:=id h;have hs:=hx _ _ hk;simp -implicitDefEqProofs only[Ym,hs.len,sS,Nat.reduceAdd];refine Ev.eql (λh0=>?_) (λh0=>?_)<;>try simp -implicitDefEqProofs only[sS,Nat.reduceAdd]
 ·have eL:L=[]:=List.length_eq_zero_iff.1 (by omega)
  subst eL;refine Ev.Tu (sD h) λw Hz hw=>?_
  refine Ev.sC (nD hw) λz s1 Hz ez hj=>?_
  try simp -implicitDefEqProofs only[sS,Nat.reduceAdd]
  refine Ev.is (pJ _ _) ?_
  try simp -implicitDefEqProofs only[sS,Nat.reduceAdd]
  refine Ev.ret (iG.of hj ?_);unfold Y.iF;simp only[Y.al,bo,bK,bO,cS,cT,ne_eq,not_true_eq_false,not_false_eq_true,if_true,if_false,Bool.not_true,Bool.not_false,true_and,and_true,false_and,and_false,true_or,or_true,false_or,or_false,Bool.false_eq_true,decide_true,decide_false,ez]
 refine Ev.eql (λh1=>?_) (λh1=>?_)<;>try simp -implicitDefEqProofs only[sS,Nat.reduceAdd]
 ·obtain⟨kv,rfl⟩:=List.length_eq_one_iff.1 (show L.length=1 by omega)
  obtain⟨i,off,b,e1,e2,e3,e4⟩:=hs.idx (j:=0) (by omega)
  obtain⟨e5,e6,_⟩:=e4 H e2;simp only[Int.natCast_zero] at e1;simp -implicitDefEqProofs only[e1,gX,Nat.add_zero,e5,e6,sS,Nat.reduceAdd];refine Ev.Tu (uF h _ _) λw Hz hw=>?_
  refine Ev.sC (nD hw) λz s1 Hz ez hj=>?_
  try simp -implicitDefEqProofs only[sS,Nat.reduceAdd]
  refine Ev.is (pJ _ _) ?_
  try simp -implicitDefEqProofs only[sS,Nat.reduceAdd]
  refine Ev.ret (iG.of hj ?_);unfold Y.iF;simp only[Y.al,bo,bK,bO,cS,cT,ne_eq,not_true_eq_false,not_false_eq_true,if_true,if_false,Bool.not_true,Bool.not_false,true_and,and_true,false_and,and_false,true_or,or_true,false_or,or_false,Bool.false_eq_true,decide_true,decide_false];have ez':Y.ah (Y.mk [kv.1,kv.2]) st=(z,s1):=ez;simp only[ez']
 obtain⟨t,u,h2⟩:=P5 H o p;have hd:=px L.length;have il: ∀{xq xc:Value} {lq lc:List Int} {s':Y.St} {H':aa},JX (C9 H o p t u xq lq xc lc) p s' H'→JX K p s' H':=λhj=>hj.mono hK λo' hg=>hK _ _ _ _ hk hg.fr
 have uG: ∀(H':aa) (o':aj),Fr H o H' o' [(p:Int)]→gU H' o' q x L:=λH' o' f=>hs.fr f (by simpa using hq)
 have Y7:JX (C9 H o p t u (.slice none 0 0) [] (.slice none 0 0) []) p st H:=⟨C9.fe h2,o,hr,Fr.refl _ _ _,.inl ⟨rfl,rfl⟩,.inl ⟨rfl,rfl⟩⟩;have B:Y.ah (Y.iF (fy+1) L) st=Y.ah (Y.lu fy L (bs L.length).toNat 0 [] []) st:=by
  match L,h0,h1 with
  | [],h0,_=>exact absurd rfl h0
  | [a],_,h1=>exact absurd rfl h1
  |a::b::l,_,_=>
   conv=>lhs;unfold Y.iF
   simp only[pK]
 generalize hT:Y.ah (Y.iF (fy+1) L) st=T at B
 refine Ev.loop (k:=(bs L.length).toNat) (λk vs H1=>∃(i:Nat) (xq xc:Value) (lq lc:List Int) (sx:Y.St) (x4 x5 bE x7 x8 cw x9 aD eA ig aM aX pG aR bf aZ:Value),JX (C9 H o p t u xq lq xc lc) p sx H1∧lc.length=i∧lq.length≤i∧(i:Int)+k=bs L.length∧T=Y.ah (Y.lu fy L k i lq lc) sx∧vs=[pv p,x,x4,x5,cv L.length,bE,x7,x8,cw,x9,aD,cv i,eA,ig,xq,aM,aX,pG,xc,aR,bf,aZ])
  (λr=>(∃(xq xc:Value) (lq lc:List Int) (sx:Y.St),JX (C9 H o p t u xq lq xc lc) p sx r.2.2∧r.2.1[14]? =some xq∧r.2.1[18]? =some xc∧((r.1= .exit 0∧lq.length≤128∧lc.length≤128∧T=Y.ah (Y.lu fy L 0 lc.length lq lc) sx)∨(r.1= .ret∧T=((0,false),sx)∧r.2.1[2]? =some (cv 0)∧r.2.1[3]? =some (.bool false))))∧∃(x4 x5 bE x7 x8 cw x9 aD aG eA ig aN aM aX pG aP aR bf aZ:Value),r.2.1=[pv p,x,x4,x5,cv L.length,bE,x7,x8,cw,x9,aD,aG,eA,ig,aN,aM,aX,pG,aP,aR,bf,aZ])
  ⟨0,_,_,[],[],st,_,_,_,_,_,_,_,_,_,_,_,_,_,_,_,_,Y7,rfl,by simp,by omega,B,rfl⟩ ?_ ?_
 ·rintro k vs H1 ⟨i,xq,xc,lq,lc,sx,x4,x5,bE,x7,x8,cw,x9,aD,eA,ig,aM,aX,pG,aR,bf,aZ,hj,Dw,VF,hik,E,rfl⟩;simp -implicitDefEqProofs only[LN,yv,sS,Nat.reduceAdd];refine Ev.call (ka _) ?_;rintro v Rc ⟨rfl,rfl⟩
  try simp -implicitDefEqProofs only[sS,Nat.reduceAdd]
  refine Ev.lss (λqv=>?_) (λqv=>?_)<;>try simp -implicitDefEqProofs only[sS,Nat.reduceAdd]
  ·refine Ev.call (PM _ _) ?_;rintro v Rc ⟨rfl,rfl⟩
   try simp -implicitDefEqProofs only[sS,Nat.reduceAdd]
   have rI:2≤(L.length:Int)∧(L.length:Int)≤16384:=by
    rcases Int.lt_or_le 16384 (L.length:Int) with g2|g2
    ·have:=nB (n:=(L.length:Int)) (.inr g2);omega
    ·exact⟨by omega,g2⟩
   have uS:=ke rI (i:=i) (by omega)
   have hpt:=vY rI (i:=i) qv;have zO:=y8 L.length i;have hfe:gN L.length i=cF L.length i:=by rw[gN,if_neg (by omega),Int.toNat_natCast]
   have hw:IntKind.i64.wrap ((i:Int)+1)=((i+1:Nat):Int):=by rw[gz (by omega)];omega
   have w5:IntKind.i64.wrap (cF L.length i+cj L.length i)=cF L.length i+cj L.length i:=gz (by omega)
   obtain⟨at_,hat⟩: ∃z:Nat,(z:Int)=cF L.length i:=⟨(cF L.length i).toNat,by omega⟩
   obtain⟨uH,abu⟩: ∃z:Nat,(z:Int)=cj L.length i:=⟨(cj L.length i).toNat,by omega⟩
   obtain⟨k1,rfl⟩: ∃k1,k=k1+1:=⟨k-1,by omega⟩
   have eat:(Y.gN L.length i).toNat=at_:=by rw[VE,hfe];omega
   have esz:(Y.cj L.length i).toNat=uH:=by rw[sH];omega
   have E':T=Y.ah (Y.iF fy ((L.drop at_).take uH) >>= λwo=>if wo.2=false then pure (0,false) else Y.lu fy L k1 (i+1) (if i>0 then lq++[(L.getD at_ (0,0)).1] else lq) (lc++[wo.1])) sx:=by
    rw[E];conv=>lhs;unfold Y.lu
    rw[eat,esz]
   rw[hfe];have J2: ∀{xq xc:Value} {P9 lc:List Int} {H1:aa} (x4 x5 bE x7 x8 cw x9 aD eA ig aX pG aR bf aZ:Value),JX (C9 H o p t u xq P9 xc lc) p sx H1→P9.length≤i+1→lc.length=i→T=Y.ah (Y.iF fy ((L.drop at_).take uH) >>= λwo=>if wo.2=false then pure (0,false) else Y.lu fy L k1 (i+1) P9 (lc++[wo.1])) sx→Ev (λn=>vN (run G n) n [pv p,x,x4,x5,cv L.length,bE,x7,x8,cw,x9,aD,cv i,eA,ig,xq,cv (cF L.length i),aX,pG,xc,aR,bf,aZ] H1) λr=>(r.1= .normal∧∃k',k'<k1+1∧∃(i:Nat) (xq xc:Value) (lq lc:List Int) (sx:Y.St) (x4 x5 bE x7 x8 cw x9 aD eA ig aM aX pG aR bf aZ:Value),JX (C9 H o p t u xq lq xc lc) p sx r.2.2∧lc.length=i∧lq.length≤i∧(i:Int)+k'=bs L.length∧T=Y.ah (Y.lu fy L k' i lq lc) sx∧r.2.1=[pv p,x,x4,x5,cv L.length,bE,x7,x8,cw,x9,aD,cv i,eA,ig,xq,aM,aX,pG,xc,aR,bf,aZ])∨(r.1≠ .normal∧(∃(xq xc:Value) (lq lc:List Int) (sx:Y.St),JX (C9 H o p t u xq lq xc lc) p sx r.2.2∧r.2.1[14]? =some xq∧r.2.1[18]? =some xc∧((r.1= .exit 0∧lq.length≤128∧lc.length≤128∧T=Y.ah (Y.lu fy L 0 lc.length lq lc) sx)∨(r.1= .ret∧T=((0,false),sx)∧r.2.1[2]? =some (cv 0)∧r.2.1[3]? =some (.bool false))))∧∃(x4 x5 bE x7 x8 cw x9 aD aG eA ig aN aM aX pG aP aR bf aZ:Value),r.2.1=[pv p,x,x4,x5,cv L.length,bE,x7,x8,cw,x9,aD,aG,eA,ig,aN,aM,aX,pG,aP,aR,bf,aZ]):=by
    intro xq xc P9 lc H1 x4 x5 bE x7 x8 cw x9 aD eA ig aX pG aR bf aZ hj VF Dw E;simp -implicitDefEqProofs only[LM,yu,sS,Nat.reduceAdd];refine Ev.call (y4 _ _) ?_;rintro v Rc ⟨rfl,rfl⟩;simp -implicitDefEqProofs only[w5,sS,Nat.reduceAdd];obtain⟨_,o1,u4,hg⟩:=id hj;obtain⟨y,VG,Qa⟩:=(uG _ _ hg.fr).cut (m:=at_) (n:=at_+uH) (lo:=some (cv (cF L.length i))) (hi:=some (cv (cF L.length i+cj L.length i))) (by omega) (by omega) (by rw[Da,hat]) (by rw[Da];congr 1;omega)
    simp -implicitDefEqProofs only[VG,sS,Nat.reduceAdd];have Zf:(L.take (at_+uH)).drop at_=(L.drop at_).take uH:=by rw[List.drop_take];congr 1;omega
    rw[Zf] at Qa;have hjy:JX (λH' o'=>C9 H o p t u xq P9 xc lc H' o'∧gU H' o' q y ((L.drop at_).take uH)) p sx _:=⟨(C9.fe h2).and (bL.kC (by simpa using hq)),o1,u4,hg,Qa⟩
    refine Ev.EV (ih ((L.drop at_).take uH).length ?_ rfl ?_ hjy hq (λH' o' a=>a.2) (f:=fy) ?_) λz zb s1 Hz ez Nr=>?_
    ·simp;omega
    ·simp;omega
    ·simp;omega
    have zy:=Nr.mono (C9.fe h2) λo' a=>a.1
    rw[Y.aI ez] at E;simp -implicitDefEqProofs only[Ap,sS,Nat.reduceAdd];cases zb<;>try simp -implicitDefEqProofs only[Ap,sS,Nat.reduceAdd]
    ·exact Ev.ret (.inr ⟨by simp,⟨_,_,_,_,s1,zy,rfl,rfl,.inr ⟨rfl,E,rfl,rfl⟩⟩,_,_,_,_,_,_,_,_,_,_,_,_,_,_,_,_,_,_,_,rfl⟩)
    ·refine Ev.abt h2 zy (by omega) λx' Hz hj=>?_
     simp -implicitDefEqProofs only[LL,yq,hw,sS,Nat.reduceAdd];refine Ev.ret (.inl ⟨rfl,k1,by omega,i+1,_,_,_,_,s1,_,_,_,_,_,_,_,_,_,_,_,_,_,_,_,_,hj,by simp[Dw],VF,by omega,?_,rfl⟩)
     rw[E];simp only[Bool.true_eq_false,if_false]
   refine Ev.gtr (λkE=>?_) (λkE=>?_)<;>try simp -implicitDefEqProofs only[sS,Nat.reduceAdd]
   ·obtain⟨_,o1,u4,hg⟩:=id hj;obtain⟨i',off,b',e1,e2,e3,e4⟩:=(uG _ _ hg.fr).idx (j:=at_) (by omega)
    obtain⟨e5,e6,_⟩:=e4 _ e2;rw[hat] at e1;simp -implicitDefEqProofs only[e1,gX,Nat.add_zero,e5,Ap,sS,Nat.reduceAdd];refine Ev.abr h2 hj (by omega) λx' Hz hj=>?_
    rw[if_pos (show i>0 by omega)] at E'
    exact J2 _ _ _ _ _ _ _ _ _ _ _ _ _ _ _ hj (by simp;omega) Dw E'
   ·rw[if_neg (show ¬i>0 by omega)] at E'
    exact J2 _ _ _ _ _ _ _ _ _ _ _ _ _ _ _ hj (by omega) Dw E'
  ·have:k=0:=by omega
   subst this;subst Dw;exact Ev.ret (.inr ⟨by simp,⟨_,_,_,_,sx,hj,rfl,rfl,.inl ⟨rfl,by omega,by omega,E⟩⟩,_,_,_,_,_,_,_,_,_,_,_,_,_,_,_,_,_,_,_,rfl⟩)
 ·rintro e vs H1 ⟨⟨xq,xc,lq,lc,sx,hj,e14,e18,he⟩,x4,x5,bE,x7,x8,cw,x9,aD,aG,eA,ig,aN,aM,aX,pG,aP,aR,bf,aZ,rfl⟩;simp only[List.getElem?_cons_succ,List.getElem?_cons_zero,Option.some.injEq] at e14 e18;subst e14 e18;rcases he with⟨he,VF,Dw,E⟩|⟨he,E,e1,e2⟩
  ·simp only at he;subst he;simp -implicitDefEqProofs only[LO,yw,sS,Nat.reduceAdd];obtain⟨_,o1,u4,hg⟩:=id hj;refine Ev.Tu (nF (il hj) _ hg.q.ints.1 hg.c.ints.1 (by omega)) λw Hz hjw=>?_
   refine Ev.sC (nD hjw) λz s1 Hz ez hj=>?_
   try simp -implicitDefEqProofs only[sS,Nat.reduceAdd]
   refine Ev.is (pJ _ _) ?_
   try simp -implicitDefEqProofs only[sS,Nat.reduceAdd]
   refine Ev.ret (iG.of hj ?_);rw[hT,E];unfold Y.lu;simp only[Y.al,bo,bK,bO,cS,cT,ne_eq,not_true_eq_false,not_false_eq_true,if_true,if_false,Bool.not_true,Bool.not_false,true_and,and_true,false_and,and_false,true_or,or_true,false_or,or_false,Bool.false_eq_true,decide_true,decide_false,ez]
  ·simp only at he;subst he;simp only[List.getElem?_cons_succ,List.getElem?_cons_zero,Option.some.injEq] at e1 e2;subst e1 e2;show Ev (λ_=>some (Value.tuple #[cv 0,.bool false],H1)) _
   exact Ev.ret (iG.of (il hj) (by rw[hT,E]))
end
section
variable {G:ae} {H H':aa} {o o':aj} {p m c:Nat} {K:aa→aj→Prop} {t:Int} {x:Value} {l:PL}
theorem wa (n:Nat):bM [cv 0] n=(List.replicate n (0:Int)).map cv:=by
 simp[bM,List.flatten_replicate_singleton]
theorem abv (a b c:Int)(H:aa):dK 37 (.agg #[cv a,cv b,cv c]) H=some (pv H.length,H.new ⟨[cv a,cv b,cv c],37,1,false⟩):=by
 simp[dK,Value.cells,aC,aS]
end
section
open Go.Proofs.YtgfgglponbmgmaaGreatA
variable {G:ae} {H H':aa} {o o':aj} {p c:Nat} {K:aa→aj→Prop} {t:Int} {x:Value} {l:PL} {st No s1:Y.St} {α β:Type}
theorem JX.uJ (h:JX K p st H)(f: ∀o,∃o',Fr H o H' o' []):JX K p st H':=by
 obtain⟨hK,o,hr,hk⟩:=h;obtain⟨o',f⟩:=f o;exact⟨hK,o',hr.fr f (by simp) (by simp) (by simp),hK _ _ _ _ hk (f.wk (by simp))⟩
theorem JX.sl (h:JX (λH o=>K H o∧gU H o t x l) p st H)(hK:bL [(p:Int)] K):JX K p st H:=h.mono hK λo a=>a.1
theorem abw (h:JX K p st H){d:Int}(h1:1≤d∧d≤128){T:TypeId}: ∃s1 s2 H1 H2,WL T 1 8 [cv 0] (cv (d-1)) (cv (d-1)) (H.cE 1)=some (s1,H1)∧Kq H.length (msB T 1 8 [cv 0] (cv d) (cv d)) H1=some (s2,H2)∧JX K p st H2∧eJ H2 s1 (List.replicate (d-1).toNat 0)∧eJ H2 s2 (List.replicate d.toNat 0):=by
 obtain⟨e,he⟩: ∃e:Nat,d=e+1:=⟨(d-1).toNat,by omega⟩
 subst he;have e1:(e:Int)+1-1=e:=by omega
 have e2:((e:Int)+1).toNat=e+1:=by omega
 have hb:msB T 1 8 [cv 0] (cv ((e:Int)+1)) (cv ((e:Int)+1))=some (λi=>.slice (some ⟨i,0,none⟩) (e+1) (e+1),⟨bM [cv 0] (e+1),T,1,false⟩):=by
  unfold msB WL;simp only[e2];rw[if_pos (by omega)];rfl
 have hlen:(H.cE 1).length=H.length+1:=Bg 1;have hole:((H.cE 1).new ⟨bM [cv 0] e,T,1,false⟩)[H.length]? =some .hole:=by
  unfold aa.new;rw[List.getElem?_append_left (by omega)];exact Bf
 refine⟨.slice (some ⟨H.length+1,0,none⟩) e e,.slice (some ⟨H.length,0,none⟩) (e+1) (e+1),(H.cE 1).new ⟨bM [cv 0] e,T,1,false⟩,((H.cE 1).new ⟨bM [cv 0] e,T,1,false⟩).set H.length (.zK ⟨bM [cv 0] (e+1),T,1,false⟩),?_,?_,?_,?_,?_⟩
 ·unfold WL;simp only[e1,hlen,Int.toNat_natCast];rw[if_pos (by omega)]
 ·rw[hb];exact HT hole
 ·refine h.uJ λo=>⟨(o.up H.length (-9)).up (H.length+1) (-9),?_⟩
  refine⟨λi hi _=>?_,λi hi=>?_,?_⟩
  ·rw[jl (by omega)]
   unfold aa.new;rw[List.getElem?_append_left (by omega),GS hi]
  ·rw[dO (by omega),dO (by omega)]
  ·simp only[List.length_set,cC,hlen];omega
 ·refine .inr ⟨H.length+1,0,e,by simp,λ_=>⟨⟨bM [cv 0] e,T,1,false⟩,?_,rfl,?_,?_⟩⟩
  ·have g:=aK (H:=H.cE 1) (c:=⟨bM [cv 0] e,T,1,false⟩);rw[hlen] at g;rw[eo (jl (by omega))];exact g
  ·simp[wa]
  ·simp[wa,e1]
 ·refine .inr ⟨H.length,0,e+1,by simp[e2],λ_=>⟨⟨bM [cv 0] (e+1),T,1,false⟩,?_,rfl,?_,?_⟩⟩
  ·exact sq (by rw[cC,hlen];omega)
  ·simp[wa,e2]
  ·simp[wa,e2]
theorem Ev.VI {k:Nat→Value→aa→Option α}{Q:α→Prop}(h:JX K p st H){f:Nat}(hf:st.left≤f){a:Int}(ha: -9223372036854775808≤a∧a≤65536){b d:Int}(hk: ∀t y l s1 H',Y.ah (Y.gO (f+1) a b d []) st=(l,s1)→t≠(p:Int)→JX (λH o=>K H o∧gU H o t y l) p s1 H'→l.length≤1048577→Ev (λn=>k n y H') Q):
  Ev (λn=>af (run G n 122 [pv p,cv a,cv b,cv d,.slice none 0 0] H) (k n)) Q:=by
 have lst:=h.left;obtain⟨hK,o,hr,hk0⟩:=h;obtain⟨t,Qb,C2⟩:=gH o H.length;have ht:oS t p:=⟨by omega,by omega,by omega⟩
 have hB:bL [(p:Int),t] λH' o'=>Fr H o H' o' [t,(p:Int)]:=bL.base (by simp)
 refine Ev.abq (P3 (c:=1048577) hB ht (by omega) f (x:=.slice none 0 0) (l:=[]) ⟨bL.ko ht hB,o,hr,Fr.refl _ _ _,.inl ⟨rfl,rfl⟩⟩ hf (by simpa using lst) ha b d) ?_
 rintro y l s1 H' e ⟨_,o',Wh,kW,hs⟩ hl;exact hk t y l s1 H' e ht.ne ⟨hK.and (bL.kC (by simpa using ht.ne)),o',Wh,hK _ _ _ _ hk0 (iL kW λi hi=>by have:=C2 i hi;omega),hs.r⟩ (by omega)
theorem abx (h:JX K p st H){f:Nat}(hf:st.left≤f){a:Int}(ha: -9223372036854775808≤a∧a≤65536)(n:Int):aF (run G) 151 [pv p,cv a,cv n] H (iG K p st (Y.CZ (f+1) a n)):=by
 refine Ev.up (t:=λk=>XS (run G k) k (pv p) (cv a) (cv n) H) ?_ λk=>Ss ..
 simp -implicitDefEqProofs only[XS,sS,Nat.reduceAdd];have hK:=h.1;have J0: ∀{y:Value} {l:PL} {t:Int} {s1:Y.St} {H1:aa} (x6 x7 aG x8 x9 aD cw cJ:Value),t≠(p:Int)→JX (λH o=>K H o∧gU H o t y l) p s1 H1→l.length≤1048577→Y.ah (Y.CZ (f+1) a n) st=Y.ah (if s1.off then pure (0,false) else Y.iF (l.length+1) l) s1→Ev (λk=>vJ (run G k) k [pv p,cv a,cv n,x6,x7,aG,x8,x9,aD,cw,cJ,y] H1) λr=>iG K p st (Y.CZ (f+1) a n) r.1 r.2:=by
  intro y l t s1 H1 x6 x7 aG x8 x9 aD cw cJ ht hj hl E;simp -implicitDefEqProofs only[Ln,yb,sS,Nat.reduceAdd];have zM:=hj.sl hK;refine Ev.n3 hj (λhq=>?_) (λhq=>?_)<;>try simp -implicitDefEqProofs only[sS,Nat.reduceAdd]
  ·exact Ev.ret (iG.of zM (by rw[E,if_pos hq];rfl))
  ·refine Ev.EV (P8 _ rfl (by omega) hj ht (λH o a=>a.2) (Nat.le_refl _)) λz zb s2 Hz ez Nr=>?_
   have zy:=Nr.sl hK
   try simp -implicitDefEqProofs only[sS,Nat.reduceAdd]
   exact Ev.ret (iG.of zy (by rw[E,if_neg (by simp[hq]),ez]))
 refine Ev.geq (λhq=>?_) (λhq=>?_)<;>try simp -implicitDefEqProofs only[sS,Nat.reduceAdd]
 ·refine Ev.call (ka _) ?_;rintro v Rc ⟨rfl,rfl⟩;have hd:=px n;have hx:1≤(if(1:Int)>bs n then 1 else bs n)∧(if(1:Int)>bs n then 1 else bs n)≤128:=by split<;>omega
  simp -implicitDefEqProofs only[Vp,sS,Nat.reduceAdd];obtain⟨d,VJ⟩: ∃d,d=(if(1:Int)>bs n then 1 else bs n):=⟨_,rfl⟩
  have hd3:max (Y.bs n) 1=d:=by rw[pK,VJ];split<;>omega
  rw[←VJ] at hx ⊢;obtain⟨s1,s2,H2,H3,g1,g2,g3,g4,g5⟩:=abw h hx (T:=2);have hw:IntKind.i64.wrap (d-1)=d-1:=gz (by omega)
  simp -implicitDefEqProofs only[hw,g1,Nat.add_zero,g2,sS,Nat.reduceAdd];refine Ev.Tu (nF g3 _ g4 g5 (by simp;omega)) λw Hz hjw=>?_
  refine Ev.sC (nD hjw) λz s1 Hz ez hj=>?_
  try simp -implicitDefEqProofs only[sS,Nat.reduceAdd]
  refine Ev.is (pJ _ _) ?_
  try simp -implicitDefEqProofs only[sS,Nat.reduceAdd]
  refine Ev.ret (iG.of hj ?_);unfold Y.CZ;rw[if_pos hq];simp only[Y.al,bo,bK,bO,cS,cT,ne_eq,not_true_eq_false,not_false_eq_true,if_true,if_false,Bool.not_true,Bool.not_false,true_and,and_true,false_and,and_false,true_or,or_true,false_or,or_false,Bool.false_eq_true,decide_true,decide_false,hd3,ez]
 ·refine Ev.eql (λkE=>?_) (λkE=>?_)<;>try simp -implicitDefEqProofs only[sS,Nat.reduceAdd]
  ·refine Ev.VI h hf ha λt y l s1 H1 e ht hj hl=>?_
   try simp -implicitDefEqProofs only[sS,Nat.reduceAdd]
   refine J0 _ _ _ _ _ _ _ _ ht hj hl ?_;unfold Y.CZ;rw[if_neg hq,if_pos kE];simp only[Y.al,bo,bK,bO,cS,cT,ne_eq,not_true_eq_false,not_false_eq_true,if_true,if_false,Bool.not_true,Bool.not_false,true_and,and_true,false_and,and_false,true_or,or_true,false_or,or_false,Bool.false_eq_true,decide_true,decide_false,e];rfl
  ·refine J0 (t:= -9) (l:=[]) (s1:=st) _ _ _ _ _ _ _ _ (by omega) ⟨hK.and (bL.kC (by simp)),?_⟩ (by simp) ?_
   ·obtain⟨_,o,hr,hk⟩:=h;exact⟨o,hr,hk,.nil⟩
   ·unfold Y.CZ;rw[if_neg hq,if_neg kE];simp only[Y.al,bo,bK,bO,cS,cT,ne_eq,not_true_eq_false,not_false_eq_true,if_true,if_false,Bool.not_true,Bool.not_false,true_and,and_true,false_and,and_false,true_or,or_true,false_or,or_false,Bool.false_eq_true,decide_true,decide_false];rfl
theorem MJ (n i:Int):0≤gN n i∧0≤cj n i∧gN n i+cj n i≤16384:=by
 by_cases hn:2≤n∧n≤16384
 ·by_cases hi:0≤i∧i<bs n
  ·have e:gN n i=cF n i.toNat:=by unfold gN;rw[if_neg (by omega)]
   have a1:=y8 n i.toNat;have a2:=vY hn (i:=i.toNat) (by omega)
   have a3:=ke hn hi;have a4:((i.toNat:Nat):Int)=i:=by omega
   rw[a4] at a2;rw[e];omega
  ·have e1:gN n i=0:=by unfold gN;rw[if_pos (by omega)]
   have e2:cj n i=0:=by unfold cj;rw[if_pos (by omega)]
   omega
 ·have d0:=nB (n:=n) (by omega)
  have e1:gN n i=0:=by unfold gN;rw[if_pos (by omega)]
  have e2:cj n i=0:=by unfold cj;rw[if_pos (by omega)]
  omega
theorem Qc (h:JX K p st H){f:Nat}(hf:st.left≤f){a:Int}(ha: -9223372036854775808≤a∧a≤65536)(n x d i:Int):aF (run G) 165 [pv p,cv a,cv n,cv x,cv d,cv i] H (jR K p st (Y.oM (f+1) a n x d i)):=by
 refine Ev.up (t:=λk=>YX (run G k) k (pv p) (cv a) (cv n) (cv x) (cv d) (cv i) H) ?_ λk=>Te ..
 simp -implicitDefEqProofs only[YX,sS,Nat.reduceAdd];have hK:=h.1;refine Ev.call (PM _ _) ?_;rintro v H1 ⟨rfl,rfl⟩
 try simp -implicitDefEqProofs only[sS,Nat.reduceAdd]
 refine Ev.call (y4 _ _) ?_;rintro v H1 ⟨rfl,rfl⟩;have fs:=MJ n i;simp -implicitDefEqProofs only[sS,Nat.reduceAdd,gz (x:=gN n i+cj n i) (by omega)]
 refine Ev.VI h hf ha λt y l s1 H1 e ht hj hl=>?_
 try simp -implicitDefEqProofs only[sS,Nat.reduceAdd]
 have E0:Y.ah (Y.oM (f+1) a n x d i) st=Y.ah (if s1.off then pure true else Y.iF (l.length+1) l >>= λwo=>if wo.2=false then pure false else Y.Mw l x d i wo.1) s1:=by
  unfold Y.oM;simp only[Y.al,bo,bK,bO,cS,cT,ne_eq,not_true_eq_false,not_false_eq_true,if_true,if_false,Bool.not_true,Bool.not_false,true_and,and_true,false_and,and_false,true_or,or_true,false_or,or_false,Bool.false_eq_true,decide_true,decide_false,VE,sH,e];rfl
 refine Ev.n3 hj (λhq=>?_) (λhq=>?_)<;>try simp -implicitDefEqProofs only[sS,Nat.reduceAdd]
 ·exact Ev.ret (jR.of (hj.sl hK) (by rw[E0,if_pos hq];rfl))
 rw[if_neg (by simp[hq])] at E0
 refine Ev.EV (P8 _ rfl (by omega) hj ht (λH o a=>a.2) (Nat.le_refl _)) λz zb s2 Hz ez Nr=>?_
 rw[Y.aI ez] at E0;simp -implicitDefEqProofs only[sS,Nat.reduceAdd];have zy:=Nr.sl hK;have J0: ∀{s3:Y.St} {H1:aa} (x6 aG bR aM aX cJ dL:Value),JX K p s3 H1→Y.ah (Y.oM (f+1) a n x d i) st=Y.ah (Y.cs (Y.dp x d i) 0 z >>= λ_=>pure true) s3→Ev (λk=>vV (run G k) k [pv p,cv a,cv n,cv x,cv d,cv i,x6,aG,bR,aM,aX,cJ,dL,cv z] H1) λr=>jR K p st (Y.oM (f+1) a n x d i) r.1 r.2:=by
  intro s3 H1 x6 aG bR aM aX cJ dL hj E;simp -implicitDefEqProofs only[Mp,yV,sS,Nat.reduceAdd];refine Ev.is (kQ _ _ _) ?_;refine Ev.PS (EW hj _ _ _) λz s4 Hz ez jc=>?_
  try simp -implicitDefEqProofs only[sS,Nat.reduceAdd]
  exact Ev.ret (jR.of jc (by rw[E,Y.aI ez];rfl))
 cases zb<;>try simp -implicitDefEqProofs only[sS,Nat.reduceAdd]
 ·exact Ev.ret (jR.of zy (by rw[E0];rfl))
 rw[if_neg (by simp)] at E0
 obtain⟨_,o1,u4,DN,hs⟩:=id Nr;refine Ev.gtr (λhq=>?_) (λhq=>?_)<;>try simp -implicitDefEqProofs only[hs.len,sS,Nat.reduceAdd]
 ·refine Ev.gtr (λkE=>?_) (λkE=>?_)<;>try simp -implicitDefEqProofs only[sS,Nat.reduceAdd]
  ·refine Ev.is (pz _ _) ?_;obtain⟨i',off,b,e1,e2,e3,e4⟩:=hs.idx (j:=0) (by omega)
   obtain⟨e5,e6,_⟩:=e4 _ e2;simp only[Int.natCast_zero] at e1;simp -implicitDefEqProofs only[e1,gX,Nat.add_zero,e5,sS,Nat.reduceAdd];refine Ev.unX (C3 zy _ _) λv u s3 Hz ew hj=>?_
   try simp -implicitDefEqProofs only[e5,sS,Nat.reduceAdd]
   refine J0 _ _ _ _ _ _ _ hj ?_;cases l with
   |nil=>simp at kE
   |cons kv l=>rw[E0];unfold Y.Mw;simp only[if_pos hq];exact Y.aI ew
  ·refine J0 _ _ _ _ _ _ _ zy ?_;have:l=[]:=List.length_eq_zero_iff.1 (by omega)
   subst this;rw[E0];rfl
 ·refine J0 _ _ _ _ _ _ _ zy ?_;rw[E0];unfold Y.Mw;cases l with
  |nil=>rfl
  |cons kv l=>simp only[if_neg hq]
theorem Hh {g fx:Nat}{a t n x:Int}{s:Y.St}(h:s.off=true):Y.ah (Y.kr g a t n x fx) s=(true,s):=by
 cases fx with
 |zero=>rfl
 |succ fx=>unfold Y.kr;simp only[Y.al,bo,bK,bO,cS,cT,ne_eq,not_true_eq_false,not_false_eq_true,if_true,if_false,Bool.not_true,Bool.not_false,true_and,and_true,false_and,and_false,true_or,or_true,false_or,or_false,Bool.false_eq_true,decide_true,decide_false,h]
theorem MK {g fx:Nat}{a t n x:Int}{s:Y.St}{k:Bool→Y.Tr β}(h:s.off=false):Y.ah (Y.kr g a t n x (fx+1) >>= k) s=Y.ah ((Y.ad (Y.wr (a+4)) 1 >>= λi=>if i≥bs n then pure true else Y.g9 >>= λb=>if b then pure true else Y.oM g t n x (bs n) i >>= λok=>if ok=false then pure false else Y.kr g a t n x fx) >>= k) s:=by
 rw[Y.al]
 conv=>lhs;unfold Y.kr
 simp only[Y.al,bo,bK,bO,cS,cT,ne_eq,not_true_eq_false,not_false_eq_true,if_true,if_false,Bool.not_true,Bool.not_false,true_and,and_true,false_and,and_false,true_or,or_true,false_or,or_false,Bool.false_eq_true,decide_true,decide_false,h,pK]
theorem Bw {g fx:Nat}{t n x j:Int}{s:Y.St}(h:s.off=true∨¬j<bs n):Y.ah (Y.gP g t n x fx j) s=(true,s):=by
 cases fx with
 |zero=>rfl
 |succ fx=>
  unfold Y.gP;rw[pK];by_cases h1:j<bs n
  ·rw[if_neg (by omega)]
   have h2:=h.resolve_right λk=>k h1
   simp only[Y.al,bo,bK,bO,cS,cT,ne_eq,not_true_eq_false,not_false_eq_true,if_true,if_false,Bool.not_true,Bool.not_false,true_and,and_true,false_and,and_false,true_or,or_true,false_or,or_false,Bool.false_eq_true,decide_true,decide_false,h2]
  ·rw[if_pos h1];rfl
theorem Qd {g fx:Nat}{t n x j:Int}{s:Y.St}(h:s.off=false)(h1:j<bs n):Y.ah (Y.gP g t n x (fx+1) j) s=Y.ah (Y.rd (Y.dp x (bs n) j) >>= λc=>if c≠0 then Y.gP g t n x fx (j+1) else Y.g9 >>= λb=>if b then Y.gP g t n x fx (j+1) else Y.oM g t n x (bs n) j >>= λok=>if ok=false then pure false else Y.gP g t n x fx (j+1)) s:=by
 conv=>lhs;unfold Y.gP
 rw[pK,if_neg (by omega)]
 simp only[Y.al,bo,bK,bO,cS,cT,ne_eq,not_true_eq_false,not_false_eq_true,if_true,if_false,Bool.not_true,Bool.not_false,true_and,and_true,false_and,and_false,true_or,or_true,false_or,or_false,Bool.false_eq_true,decide_true,decide_false,h]
theorem TH (h:JX K p st H){f:Nat}(hf:st.left≤f)(a:Int){t:Int}(ht: -9223372036854775808≤t∧t≤65536)(n x:Int):aF (run G) 152 [pv p,cv a,cv t,cv n,cv x] H (jR K p st (Y.gj (f+1) a t n x)):=by
 have w4:IntKind.i64.wrap (a+4)=Y.wr (a+4):=cG _;refine Ev.up (t:=λk=>X9 (run G k) k (pv p) (cv a) (cv t) (cv n) (cv x) H) ?_ λk=>SA ..
 simp -implicitDefEqProofs only[X9,sS,Nat.reduceAdd];refine Ev.call (ka _) ?_;rintro v Rc ⟨rfl,rfl⟩
 try simp -implicitDefEqProofs only[sS,Nat.reduceAdd]
 have B:Y.ah (Y.gj (f+1) a t n x) st=Y.ah (Y.kr (f+1) a t n x (f+1) >>= λok=>if ok=false then pure false else Y.gP (f+1) t n x (f+1) 0) st:=rfl
 refine Ev.loop (k:=st.left) (λk vs Hx=>∃(sx:Y.St) (fx:Nat) (aD bq aP cd bR cJ aG eG aM fR fN:Value),JX K p sx Hx∧k=sx.left∧sx.left≤f∧(sx.left+1≤fx∨sx.off=true)∧Y.ah (Y.gj (f+1) a t n x) st=Y.ah (Y.kr (f+1) a t n x fx >>= λok=>if ok=false then pure false else Y.gP (f+1) t n x (f+1) 0) sx∧vs=[pv p,cv a,cv t,cv n,cv x,aD,bq,aP,cv (bs n),cd,bR,cJ,aG,eG,aM,fR,fN])
  (λr=>∃sx,JX K p sx r.2.2∧sx.left≤f∧((r.1= .exit 0∧Y.ah (Y.gj (f+1) a t n x) st=Y.ah (Y.gP (f+1) t n x (f+1) 0) sx)∨(r.1= .ret∧∃u,r.2.1[5]? =some (.bool u)∧Y.ah (Y.gj (f+1) a t n x) st=(u,sx)))∧∃(aD bq aP cd bR cJ aG eG aM fR fN:Value),r.2.1=[pv p,cv a,cv t,cv n,cv x,aD,bq,aP,cv (bs n),cd,bR,cJ,aG,eG,aM,fR,fN]) ⟨st,f+1,_,_,_,_,_,_,_,_,_,_,_,h,rfl,hf,.inl (by omega),B,rfl⟩ ?_ ?_
 ·rintro k vs Hx ⟨sx,fx,aD,bq,aP,cd,bR,cJ,aG,eG,aM,fR,fN,hj,rfl,hl,pU,E,rfl⟩;simp -implicitDefEqProofs only[LF,yj,sS,Nat.reduceAdd];refine Ev.n3 hj (λhq=>?_) (λhq=>?_)<;>try simp -implicitDefEqProofs only[sS,Nat.reduceAdd]
  ·rw[Y.al,Hh hq] at E;exact Ev.ret (.inr ⟨by simp,sx,hj,hl,.inl ⟨rfl,E⟩,_,_,_,_,_,_,_,_,_,_,_,rfl⟩)
  have l4:=iM hq;have P2:sx.left+1≤fx:=pU.resolve_right (by rw[hq];simp)
  obtain⟨fy,rfl⟩: ∃fy,fx=fy+1:=⟨fx-1,by omega⟩
  rw[MK hq] at E;simp only[Y.bind_assoc] at E;simp -implicitDefEqProofs only[w4,sS,Nat.reduceAdd];refine Ev.eY (Vr hj _ _) λi s1 H1 e1 fH=>?_
  have l5:s1.left=sx.left-1:=by
   have h:=Y.tX (.ad (Y.wr (a+4)) 1) sx;have e2:(Y.lG (.ad (Y.wr (a+4)) 1) sx).2=s1:=congrArg Prod.snd e1;rw[e2] at h;exact h
  rw[Y.aI e1] at E
  try simp -implicitDefEqProofs only[sS,Nat.reduceAdd]
  refine Ev.geq (λh2=>?_) (λh2=>?_)<;>try simp -implicitDefEqProofs only[sS,Nat.reduceAdd]
  ·rw[if_pos h2,Y.bind_pure] at E;exact Ev.ret (.inr ⟨by simp,s1,fH,by omega,.inl ⟨rfl,E⟩,_,_,_,_,_,_,_,_,_,_,_,rfl⟩)
  rw[if_neg h2] at E;refine Ev.n3 fH (λqv=>?_) (λqv=>?_)<;>try simp -implicitDefEqProofs only[sS,Nat.reduceAdd]
  ·have E':Y.ah (Y.gj (f+1) a t n x) st=Y.ah (Y.gP (f+1) t n x (f+1) 0) s1:=by rw[E,Y.al];simp only[Y.al,bo,bK,bO,cS,cT,ne_eq,not_true_eq_false,not_false_eq_true,if_true,if_false,Bool.not_true,Bool.not_false,true_and,and_true,false_and,and_false,true_or,or_true,false_or,or_false,Bool.false_eq_true,decide_true,decide_false,qv];rfl
   exact Ev.ret (.inr ⟨by simp,s1,fH,by omega,.inl ⟨rfl,E'⟩,_,_,_,_,_,_,_,_,_,_,_,rfl⟩)
  refine Ev.Mx (Qc fH (f:=f) (by omega) ht n x (bs n) i) λok s2 H2 e2 fI=>?_
  have l6:=dt e2;have E':Y.ah (Y.gj (f+1) a t n x) st=Y.ah (if ok=false then pure false else Y.kr (f+1) a t n x fy >>= λok=>if ok=false then pure false else Y.gP (f+1) t n x (f+1) 0) s2:=by
   rw[E,Y.al];simp only[Y.al,bo,bK,bO,cS,cT,ne_eq,not_true_eq_false,not_false_eq_true,if_true,if_false,Bool.not_true,Bool.not_false,true_and,and_true,false_and,and_false,true_or,or_true,false_or,or_false,Bool.false_eq_true,decide_true,decide_false,qv,e2];cases ok
   ·rfl
   ·simp only[Bool.true_eq_false,Y.al,bo,bK,bO,cS,cT,ne_eq,not_true_eq_false,not_false_eq_true,if_true,if_false,Bool.not_true,Bool.not_false,true_and,and_true,false_and,and_false,true_or,or_true,false_or,or_false,Bool.false_eq_true,decide_true,decide_false]
  cases ok<;>try simp -implicitDefEqProofs only[sS,Nat.reduceAdd]
  ·exact Ev.ret (.inr ⟨by simp,s2,fI,by omega,.inr ⟨rfl,false,rfl,E'⟩,_,_,_,_,_,_,_,_,_,_,_,rfl⟩)
  ·rw[if_neg (by decide)] at E'
   exact Ev.ret (.inl ⟨rfl,s2.left,by omega,s2,fy,_,_,_,_,_,_,_,_,_,_,_,fI,rfl,by omega,.inl (by omega),E',rfl⟩)
 ·rintro e vs H1 ⟨s0,hj,hl,he,aD,bq,aP,cd,bR,cJ,aG,eG,aM,fR,fN,hv⟩;simp only at hv hj he;subst hv;rcases he with⟨rfl,E0⟩|⟨rfl,u,e1,E0⟩
  ·simp -implicitDefEqProofs only[LD,yi,sS,Nat.reduceAdd];refine Ev.loop (k:=(bs n).toNat) (λk vs Hx=>∃(i:Nat) (sx:Y.St) (fx:Nat) (aD bq aP cd bR cJ eG aM fR fN:Value),JX K p sx Hx∧sx.left≤f∧(sx.left+1≤fx∨sx.off=true)∧(i:Int)+k=bs n∧Y.ah (Y.gj (f+1) a t n x) st=Y.ah (Y.gP (f+1) t n x fx i) sx∧vs=[pv p,cv a,cv t,cv n,cv x,aD,bq,aP,cv (bs n),cd,bR,cJ,cv i,eG,aM,fR,fN])
    (λr=>∃sx,JX K p sx r.2.2∧((r.1= .exit 2∧Y.ah (Y.gj (f+1) a t n x) st=(true,sx))∨(r.1= .ret∧∃u,r.2.1[5]? =some (.bool u)∧Y.ah (Y.gj (f+1) a t n x) st=(u,sx)))∧∃(aD bq aP cd bR cJ aG eG aM fR fN:Value),r.2.1=[pv p,cv a,cv t,cv n,cv x,aD,bq,aP,cv (bs n),cd,bR,cJ,aG,eG,aM,fR,fN]) ⟨0,s0,f+1,_,_,_,_,_,_,_,_,_,_,hj,hl,.inl (by omega),by have:=px n;omega,E0,rfl⟩ ?_ ?_
   ·rintro k vs Hx ⟨i,sx,fx,aD,bq,aP,cd,bR,cJ,eG,aM,fR,fN,hj,hl,pU,hik,E,rfl⟩;have hdn:=px n;have hw:IntKind.i64.wrap ((i:Int)+1)=((i+1:Nat):Int):=by rw[gz (by omega)];omega
    simp -implicitDefEqProofs only[Lv,yg,sS,Nat.reduceAdd];refine Ev.lss (λh2=>?_) (λh2=>?_)<;>try simp -implicitDefEqProofs only[sS,Nat.reduceAdd]
    rotate_left
    ·rw[Bw (.inr h2)] at E;exact Ev.ret (.inr ⟨by simp,sx,hj,.inl ⟨rfl,E⟩,_,_,_,_,_,_,_,_,_,_,_,rfl⟩)
    refine Ev.n3 hj (λhq=>?_) (λhq=>?_)<;>try simp -implicitDefEqProofs only[sS,Nat.reduceAdd]
    ·rw[Bw (.inl hq)] at E;exact Ev.ret (.inr ⟨by simp,sx,hj,.inl ⟨rfl,E⟩,_,_,_,_,_,_,_,_,_,_,_,rfl⟩)
    have l4:=iM hq;have P2:sx.left+1≤fx:=pU.resolve_right (by rw[hq];simp)
    obtain⟨fy,rfl⟩: ∃fy,fx=fy+1:=⟨fx-1,by omega⟩
    obtain⟨k1,rfl⟩: ∃k1,k=k1+1:=⟨k-1,by omega⟩
    rw[Qd hq h2] at E;have iP: ∀{sy:Y.St} {H2:aa} (aD bq aP cd bR cJ eG aM fR fN:Value),JX K p sy H2→sy.left≤sx.left-1→Y.ah (Y.gj (f+1) a t n x) st=Y.ah (Y.gP (f+1) t n x fy ((i:Int)+1)) sy→Ev (λk=>vL (run G k) k [pv p,cv a,cv t,cv n,cv x,aD,bq,aP,cv (bs n),cd,bR,cJ,cv i,eG,aM,fR,fN] H2) λr=>(r.1= .normal∧∃k',k'<k1+1∧∃(i:Nat) (sx:Y.St) (fx:Nat) (aD bq aP cd bR cJ eG aM fR fN:Value),JX K p sx r.2.2∧sx.left≤f∧(sx.left+1≤fx∨sx.off=true)∧(i:Int)+k'=bs n∧Y.ah (Y.gj (f+1) a t n x) st=Y.ah (Y.gP (f+1) t n x fx i) sx∧r.2.1=[pv p,cv a,cv t,cv n,cv x,aD,bq,aP,cv (bs n),cd,bR,cJ,cv i,eG,aM,fR,fN])∨(r.1≠ .normal∧∃sx,JX K p sx r.2.2∧((r.1= .exit 2∧Y.ah (Y.gj (f+1) a t n x) st=(true,sx))∨(r.1= .ret∧∃u,r.2.1[5]? =some (.bool u)∧Y.ah (Y.gj (f+1) a t n x) st=(u,sx)))∧∃(aD bq aP cd bR cJ aG eG aM fR fN:Value),r.2.1=[pv p,cv a,cv t,cv n,cv x,aD,bq,aP,cv (bs n),cd,bR,cJ,aG,eG,aM,fR,fN]):=by
     intro sy H2 aD bq aP cd bR cJ eG aM fR fN hj DK E;simp -implicitDefEqProofs only[Lu,yf,hw,sS,Nat.reduceAdd];refine Ev.ret (.inl ⟨rfl,k1,by omega,i+1,sy,fy,_,_,_,_,_,_,_,_,_,_,hj,by omega,.inl (by omega),by omega,?_,rfl⟩)
     rw[E];congr 1
    refine Ev.is (kQ _ _ _) ?_;refine Ev.eY (de hj _) λc s1 H1 e1 fH=>?_
    have l5:=dr e1;rw[Y.aI e1] at E
    try simp -implicitDefEqProofs only[sS,Nat.reduceAdd]
    refine Ev.neq (λh3=>?_) (λh3=>?_)<;>try simp -implicitDefEqProofs only[sS,Nat.reduceAdd]
    ·rw[if_pos h3] at E;exact iP _ _ _ _ _ _ _ _ _ _ fH (by omega) E
    rw[if_neg (by simp[h3])] at E
    refine Ev.n3 fH (λqv=>?_) (λqv=>?_)<;>try simp -implicitDefEqProofs only[sS,Nat.reduceAdd]
    ·have E':Y.ah (Y.gj (f+1) a t n x) st=Y.ah (Y.gP (f+1) t n x fy ((i:Int)+1)) s1:=by rw[E];simp only[Y.al,bo,bK,bO,cS,cT,ne_eq,not_true_eq_false,not_false_eq_true,if_true,if_false,Bool.not_true,Bool.not_false,true_and,and_true,false_and,and_false,true_or,or_true,false_or,or_false,Bool.false_eq_true,decide_true,decide_false,qv]
     exact iP _ _ _ _ _ _ _ _ _ _ fH (by omega) E'
    refine Ev.Mx (Qc fH (f:=f) (by omega) ht n x (bs n) i) λok s2 H2 e2 fI=>?_
    have l6:=dt e2;have E':Y.ah (Y.gj (f+1) a t n x) st=Y.ah (if ok=false then pure false else Y.gP (f+1) t n x fy ((i:Int)+1)) s2:=by
     rw[E];simp only[Y.al,bo,bK,bO,cS,cT,ne_eq,not_true_eq_false,not_false_eq_true,if_true,if_false,Bool.not_true,Bool.not_false,true_and,and_true,false_and,and_false,true_or,or_true,false_or,or_false,Bool.false_eq_true,decide_true,decide_false,qv,e2]
    cases ok<;>try simp -implicitDefEqProofs only[sS,Nat.reduceAdd]
    ·exact Ev.ret (.inr ⟨by simp,s2,fI,.inr ⟨rfl,false,rfl,E'⟩,_,_,_,_,_,_,_,_,_,_,_,rfl⟩)
    ·rw[if_neg (by decide)] at E'
     exact iP _ _ _ _ _ _ _ _ _ _ fI (by omega) E'
   ·rintro e vs H2 ⟨sx,fI,he,aD,bq,aP,cd,bR,cJ,aG,eG,aM,fR,fN,hv⟩;simp only at hv fI he;subst hv;rcases he with⟨rfl,E⟩|⟨rfl,u,e1,E⟩
    ·simp -implicitDefEqProofs only[Lw,yh,sS,Nat.reduceAdd];exact Ev.ret (jR.of fI E)
    ·simp only[List.getElem?_cons_succ,List.getElem?_cons_zero,Option.some.injEq] at e1;subst e1;show Ev (λ_=>some (Value.bool u,H2)) _
     exact Ev.ret (jR.of fI E)
  ·simp only[List.getElem?_cons_succ,List.getElem?_cons_zero,Option.some.injEq] at e1;subst e1;show Ev (λ_=>some (Value.bool u,H1)) _
   exact Ev.ret (jR.of hj E0)
end
end Go.Proofs.YtgfgglponbmgmaaGreat.Fun
end
