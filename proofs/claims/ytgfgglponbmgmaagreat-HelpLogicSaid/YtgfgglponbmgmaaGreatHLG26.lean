/- Texts of the proof of helpLogic_holds, put together by a small program of ours (names shortened, spaces taken out). No condition beyond the given statement. -/
import Derived.Test.YtgfgglponbmgmaaGreatHLG12
import Derived.Test.YtgfgglponbmgmaaGreatHLG15
import Derived.Test.YtgfgglponbmgmaaGreatHLG25
import Derived.Test.YtgfgglponbmgmaaGreatHLG16
import Derived.Test.YtgfgglponbmgmaaGreatHLG10
import Derived.Test.YtgfgglponbmgmaaGreatHLG17
import Derived.Test.YtgfgglponbmgmaaGreatHLG14
import Derived.Test.YtgfgglponbmgmaaGreatHLG13
set_option linter.unusedVariables false
set_option linter.unusedSimpArgs false
set_option linter.unnecessarySimpa false
noncomputable section
section
namespace Go.Proofs.YtgfgglponbmgmaaGreat.Fun
open Go Go.RowKit Go.Proofs.YtgfgglponbmgmaaGreatA.Am
set_option maxRecDepth 10000
section
open Go.Proofs.YtgfgglponbmgmaaGreatA
variable {G:ae} {H H':aa} {o o':aj} {p c:Nat} {K:aa→aj→Prop} {t:Int} {x:Value} {l:PL} {st LV s1:Y.St} {α β:Type}
theorem OA (n:Int): ∀(b:Nat) (r:Int),Y.je n b r=je n b r
 |0,r=>rfl
 |b+1,r=>by unfold Y.je je;exact OA n b _
theorem pP (n:Int):Y.bo n=bo n:=by unfold Y.bo bo Y.jf jf;simp only[OA]
theorem sr (n i:Int):Y.b9 n i=b9 n i:=by unfold Y.b9 b9;simp only[pP]
theorem OB (n:Int): ∀i,Y.cD n i=cD n i
 |0=>rfl
 |i+1=>by unfold Y.cD cD;rw[OB n i,sr]
theorem TH (n i:Int):Y.gI n i=gI n i:=by unfold Y.gI gI;simp only[pP,OB]
theorem nA (h:JX K p st H)(s:Int){q c:Value}{lq lc:List Int}(hq:eG H q lq)(hc:eG H c lc)(hl:lq.length+lc.length≤1000000):
  aE (run G) 131 [cv s,q,c] H λw H'=>Oe K p st (Y.cP s lq lc) H' w:=by
 refine Ev.up (t:=λn=>NO (run G n) n (cv s) q c H) ?_ λn=>HL ..
 simp -implicitDefEqProofs only[NO,hq.len,hc.len,sS,Nat.reduceAdd];have hw:IntKind.i64.wrap ((lq.length:Int)+1)=lq.length+1:=fL (by omega)
 rw[hw];refine Ev.neq (λh1=>?_) (λh1=>?_)<;>try simp -implicitDefEqProofs only[hc.len,Og,sS,Nat.reduceAdd]
 ·rw[show Y.cP s lq lc=[] by unfold Y.cP;rw[if_pos (by omega)]]
  exact Ev.ret h.FQ
 rw[Y.tC (by omega)]
 obtain⟨hK,o,hr,hk⟩:=h;obtain⟨t,ht,hf⟩:=gC o H.length;have s1:=oJ.new H o t 2 [(lc.length:Int),s,0,0,0];have f1:Fr H o (H.new ⟨[cv lc.length,cv s,cv 0,cv 0,cv 0],2,1,false⟩) (o.up H.length t) [t]:=(Fr.refl H o [t]).new _ _;obtain⟨H1,e1⟩: ∃z,z=H.new ⟨[cv lc.length,cv s,cv 0,cv 0,cv 0],2,1,false⟩:=⟨_,rfl⟩;have keep: ∀{x:Value} {l:List Int} {H2:aa} {o2:aj},eG H x l→Fr H o H2 o2 [t]→eG H2 x l:=λhx f=>hx.keep λi b e dy=>by
  rcases hx with⟨e1,e2⟩|⟨j,off,cc,e1,hb⟩
  ·exact absurd e2 dy
  ·obtain⟨bb,g1,_⟩:=hb dy;rw[e1] at e;cases e;exact f.same j (ar g1) (by have:=hf j (ar g1);simp;omega)
 obtain⟨x2,H2,o2,a2,s2,f2,_⟩:=jR (H:=H1) 2 (by rw[e1];exact s1) (keep hq (by rw[e1];exact f1)) (by simp;omega)
 have f12:Fr H o H2 o2 [t]:=by rw[e1] at f2;exact f1.tr f2
 obtain⟨x3,H3,o3,a3,s3,f3,_⟩:=jR 2 s2 (keep hc f12) (by simp;omega)
 have f13:=f12.tr f3;have eH:H.new ⟨[cv lc.length,cv s,cv 0,cv 0,cv 0],2,1,false⟩=H1:=e1.symm;simp -implicitDefEqProofs only[eH,List.length_cons,List.length_nil,sS,Nat.reduceAdd] at a2;simp -implicitDefEqProofs only[eH,a2,a3,sS,Nat.reduceAdd];have f0:Fr H o H3 o3 []:=iD f13 λi hi=>by have:=hf i hi;omega
 let o4:aj:=λi=>if H.length≤i∧o3 i=t then -51 else o3 i
 have f4:Fr H o H3 o4 []:=⟨f0.slot,λi hi=>by show(if H.length≤i∧o3 i=t then(-51:Int) else o3 i)=_;rw[if_neg (by omega)];exact f0.own i hi,f0.size⟩
 refine Ev.ret ⟨hK,o4,hr.fr f4 (by simp) (by simp) (by simp),hK _ _ _ _ hk (f4.wk (by simp)),s3.ints.1,λb n cc e dy=>?_⟩
 obtain⟨g1,g2⟩:=s3.ints.2 b n cc e dy;refine⟨g1,?_⟩;show(if H.length≤b.block∧o3 b.block=t then(-51:Int) else o3 b.block)= -51
 have Yg:H.length≤b.block:=by
  rcases Nat.lt_or_ge b.block H.length with g|g
  ·have a1:=f13.own _ g;have a2:=hf _ g;omega
  ·exact g
 rw[if_pos ⟨Yg,g2⟩]
section
variable {B:aa} {b:aj} {u:Int} {y:Value} {lx ly:List Int} {k:Nat→Value→aa→Option α} {Q:α→Prop} {a:Int} {T ty:TypeId}
theorem Ev.aac (h2:Two B b p t u)(h:JX (CC B b p t u x lx y ly) p st H)(hb:lx.length+1≤4294967296)(hk: ∀x' H',JX (CC B b p t u x' (lx++[a]) y ly) p st H'→Ev (λn=>k n x' H') Q):
  Ev (λn=>af (de T 1 8 x (.slice (some ⟨H.length,0,none⟩) 1 1) (H.new ⟨[cv a],ty,1,false⟩)) (k n)) Q:=by
 obtain⟨_,o,hr,hf,hx,hy⟩:=h;obtain⟨s',H2,o2,e,s2,f2⟩:=Oy T ty a hx hb;rw[e];refine hk s' H2 ⟨CC.eU h2,o2,hr.fr f2 ?_ ?_ ?_,iD (hf.trans f2 (rs:=[t,(p:Int)]) (by simp) (by simp)) h2.ft,s2,hy.fr f2 ?_⟩
 ·simp;exact λe=>h2.PM.ne e.symm
 ·simp;exact λe=>h2.PM.n0 e.symm
 ·simp;exact λe=>h2.PM.n1 e.symm
 ·simp;exact λe=>h2.ne e.symm
theorem Ev.aad (h2:Two B b p t u)(h:JX (CC B b p t u x lx y ly) p st H)(hb:ly.length+1≤4294967296)(hk: ∀y' H',JX (CC B b p t u x lx y' (ly++[a])) p st H'→Ev (λn=>k n y' H') Q):
  Ev (λn=>af (de T 1 8 y (.slice (some ⟨H.length,0,none⟩) 1 1) (H.new ⟨[cv a],ty,1,false⟩)) (k n)) Q:=by
 obtain⟨_,o,hr,hf,hx,hy⟩:=h;obtain⟨s',H2,o2,e,s2,f2⟩:=Oy T ty a hy hb;rw[e];refine hk s' H2 ⟨CC.eU h2,o2,hr.fr f2 ?_ ?_ ?_,iD (hf.trans f2 (rs:=[u,(p:Int)]) (by simp) (by simp)) h2.fu,hx.fr f2 ?_,s2⟩
 ·simp;exact λe=>h2.at2.ne e.symm
 ·simp;exact λe=>h2.at2.n0 e.symm
 ·simp;exact λe=>h2.at2.n1 e.symm
 ·simp;exact λe=>h2.ne e
end
theorem OC: ∀(N:Nat) {K:aa→aj→Prop} {H:aa} {st:Y.St} {x:Value} {L:PL} {q:Int},L.length=N→N≤2147483648→JX K p st H→q≠(p:Int)→(∀H o,K H o→gN H o q x L)→∀{f:Nat},N+1≤f→aE (run G) 123 [pv p,x] H (iw K p st (Y.iu f L)):=by
 intro N;induction N using Nat.strongRecOn with
 |ind N ih=>
 intro K H st x L q hN hN2 h hq hx f hf;obtain⟨fy,rfl⟩: ∃fy,f=fy+1:=⟨f-1,by omega⟩
 refine Ev.up (t:=λn=>WU (run G n) n (pv p) x H) ?_ λn=>Rw ..
 obtain⟨hK,o,hr,hk⟩:=id h;have hs:=hx _ _ hk;simp -implicitDefEqProofs only[WU,hs.len,sS,Nat.reduceAdd];refine Ev.eql (λh0=>?_) (λh0=>?_)<;>try simp -implicitDefEqProofs only[sS,Nat.reduceAdd]
 ·have eL:L=[]:=List.length_eq_zero_iff.1 (by omega)
  subst eL;refine Ev.RP (sj h) λw Hz hw=>?_
  refine Ev.si (nu hw) λz s1 Hz ez hj=>?_
  try simp -implicitDefEqProofs only[sS,Nat.reduceAdd]
  refine Ev.is (nY _ _) ?_
  try simp -implicitDefEqProofs only[sS,Nat.reduceAdd]
  refine Ev.ret (iw.of hj ?_);unfold Y.iu;simp only[Y.ak,bk,bH,bL,cR,cS,ne_eq,not_true_eq_false,not_false_eq_true,if_true,if_false,Bool.not_true,Bool.not_false,true_and,and_true,false_and,and_false,true_or,or_true,false_or,or_false,Bool.false_eq_true,decide_true,decide_false,ez]
 refine Ev.eql (λh1=>?_) (λh1=>?_)<;>try simp -implicitDefEqProofs only[sS,Nat.reduceAdd]
 ·obtain⟨kv,rfl⟩:=List.length_eq_one_iff.1 (show L.length=1 by omega)
  obtain⟨i,off,b,e1,e2,e3,e4⟩:=hs.idx (j:=0) (by omega)
  obtain⟨e5,e6,_⟩:=e4 H e2;simp only[Int.natCast_zero] at e1;simp -implicitDefEqProofs only[e1,gQ,Nat.add_zero,e5,e6,sS,Nat.reduceAdd];refine Ev.RP (uc h _ _) λw Hz hw=>?_
  refine Ev.si (nu hw) λz s1 Hz ez hj=>?_
  try simp -implicitDefEqProofs only[sS,Nat.reduceAdd]
  refine Ev.is (nY _ _) ?_
  try simp -implicitDefEqProofs only[sS,Nat.reduceAdd]
  refine Ev.ret (iw.of hj ?_);unfold Y.iu;simp only[Y.ak,bk,bH,bL,cR,cS,ne_eq,not_true_eq_false,not_false_eq_true,if_true,if_false,Bool.not_true,Bool.not_false,true_and,and_true,false_and,and_false,true_or,or_true,false_or,or_false,Bool.false_eq_true,decide_true,decide_false];have ez':Y.ah (Y.mk [kv.1,kv.2]) st=(z,s1):=ez;simp only[ez']
 obtain⟨t,u,h2⟩:=Oz H o p;have hd:=pz L.length;have hU: ∀{xq xc:Value} {lq lc:List Int} {s':Y.St} {H':aa},JX (CC H o p t u xq lq xc lc) p s' H'→JX K p s' H':=λhj=>hj.mono hK λo' hg=>hK _ _ _ _ hk hg.fr
 have uV: ∀(H':aa) (o':aj),Fr H o H' o' [(p:Int)]→gN H' o' q x L:=λH' o' f=>hs.fr f (by simpa using hq)
 have W7:JX (CC H o p t u (.slice none 0 0) [] (.slice none 0 0) []) p st H:=⟨CC.eU h2,o,hr,Fr.refl _ _ _,.inl ⟨rfl,rfl⟩,.inl ⟨rfl,rfl⟩⟩;have B:Y.ah (Y.iu (fy+1) L) st=Y.ah (Y.kY fy L (bo L.length).toNat 0 [] []) st:=by
  match L,h0,h1 with
  | [],h0,_=>exact absurd rfl h0
  | [a],_,h1=>exact absurd rfl h1
  |a::b::l,_,_=>
   conv=>lhs;unfold Y.iu
   simp only[pP]
 generalize hT:Y.ah (Y.iu (fy+1) L) st=T at B
 refine Ev.loop (k:=(bo L.length).toNat) (λk vs H1=>∃(i:Nat) (xq xc:Value) (lq lc:List Int) (sx:Y.St) (x4 x5 bA x7 x8 cq x9 aC eF fN aM aW oF aT bf aU:Value),JX (CC H o p t u xq lq xc lc) p sx H1∧lc.length=i∧lq.length≤i∧(i:Int)+k=bo L.length∧T=Y.ah (Y.kY fy L k i lq lc) sx∧vs=[pv p,x,x4,x5,cv L.length,bA,x7,x8,cq,x9,aC,cv i,eF,fN,xq,aM,aW,oF,xc,aT,bf,aU])
  (λr=>(∃(xq xc:Value) (lq lc:List Int) (sx:Y.St),JX (CC H o p t u xq lq xc lc) p sx r.2.2∧r.2.1[14]? =some xq∧r.2.1[18]? =some xc∧((r.1= .exit 0∧lq.length≤128∧lc.length≤128∧T=Y.ah (Y.kY fy L 0 lc.length lq lc) sx)∨(r.1= .ret∧T=((0,false),sx)∧r.2.1[2]? =some (cv 0)∧r.2.1[3]? =some (.bool false))))∧∃(x4 x5 bA x7 x8 cq x9 aC aI eF fN aO aM aW oF aN aT bf aU:Value),r.2.1=[pv p,x,x4,x5,cv L.length,bA,x7,x8,cq,x9,aC,aI,eF,fN,aO,aM,aW,oF,aN,aT,bf,aU])
  ⟨0,_,_,[],[],st,_,_,_,_,_,_,_,_,_,_,_,_,_,_,_,_,W7,rfl,by simp,by omega,B,rfl⟩ ?_ ?_
 ·rintro k vs H1 ⟨i,xq,xc,lq,lc,sx,x4,x5,bA,x7,x8,cq,x9,aC,eF,fN,aM,aW,oF,aT,bf,aU,hj,CX,TJ,hik,E,rfl⟩;simp -implicitDefEqProofs only[KR,yv,sS,Nat.reduceAdd];refine Ev.call (jS _) ?_;rintro v PI ⟨rfl,rfl⟩
  try simp -implicitDefEqProofs only[sS,Nat.reduceAdd]
  refine Ev.lss (λqv=>?_) (λqv=>?_)<;>try simp -implicitDefEqProofs only[sS,Nat.reduceAdd]
  ·refine Ev.call (Oc _ _) ?_;rintro v PI ⟨rfl,rfl⟩
   try simp -implicitDefEqProofs only[sS,Nat.reduceAdd]
   have sC:2≤(L.length:Int)∧(L.length:Int)≤16384:=by
    rcases Int.lt_or_le 16384 (L.length:Int) with g2|g2
    ·have:=nr (n:=(L.length:Int)) (.inr g2);omega
    ·exact⟨by omega,g2⟩
   have uq:=jU sC (i:=i) (by omega)
   have hpt:=vE sC (i:=i) qv;have ze:=yH L.length i;have hfe:gI L.length i=cD L.length i:=by rw[gI,if_neg (by omega),Int.toNat_natCast]
   have hw:IntKind.i64.wrap ((i:Int)+1)=((i+1:Nat):Int):=by rw[fL (by omega)];omega
   have uA:IntKind.i64.wrap (cD L.length i+b9 L.length i)=cD L.length i+b9 L.length i:=fL (by omega)
   obtain⟨at_,Yw⟩: ∃z:Nat,(z:Int)=cD L.length i:=⟨(cD L.length i).toNat,by omega⟩
   obtain⟨ud,aae⟩: ∃z:Nat,(z:Int)=b9 L.length i:=⟨(b9 L.length i).toNat,by omega⟩
   obtain⟨k1,rfl⟩: ∃k1,k=k1+1:=⟨k-1,by omega⟩
   have eat:(Y.gI L.length i).toNat=at_:=by rw[TH,hfe];omega
   have esz:(Y.b9 L.length i).toNat=ud:=by rw[sr];omega
   have E':T=Y.ah (Y.iu fy ((L.drop at_).take ud) >>= λwo=>if wo.2=false then pure (0,false) else Y.kY fy L k1 (i+1) (if i>0 then lq++[(L.getD at_ (0,0)).1] else lq) (lc++[wo.1])) sx:=by
    rw[E];conv=>lhs;unfold Y.kY
    rw[eat,esz]
   rw[hfe];have J2: ∀{xq xc:Value} {OD lc:List Int} {H1:aa} (x4 x5 bA x7 x8 cq x9 aC eF fN aW oF aT bf aU:Value),JX (CC H o p t u xq OD xc lc) p sx H1→OD.length≤i+1→lc.length=i→T=Y.ah (Y.iu fy ((L.drop at_).take ud) >>= λwo=>if wo.2=false then pure (0,false) else Y.kY fy L k1 (i+1) OD (lc++[wo.1])) sx→Ev (λn=>vA (run G n) n [pv p,x,x4,x5,cv L.length,bA,x7,x8,cq,x9,aC,cv i,eF,fN,xq,cv (cD L.length i),aW,oF,xc,aT,bf,aU] H1) λr=>(r.1= .normal∧∃k',k'<k1+1∧∃(i:Nat) (xq xc:Value) (lq lc:List Int) (sx:Y.St) (x4 x5 bA x7 x8 cq x9 aC eF fN aM aW oF aT bf aU:Value),JX (CC H o p t u xq lq xc lc) p sx r.2.2∧lc.length=i∧lq.length≤i∧(i:Int)+k'=bo L.length∧T=Y.ah (Y.kY fy L k' i lq lc) sx∧r.2.1=[pv p,x,x4,x5,cv L.length,bA,x7,x8,cq,x9,aC,cv i,eF,fN,xq,aM,aW,oF,xc,aT,bf,aU])∨(r.1≠ .normal∧(∃(xq xc:Value) (lq lc:List Int) (sx:Y.St),JX (CC H o p t u xq lq xc lc) p sx r.2.2∧r.2.1[14]? =some xq∧r.2.1[18]? =some xc∧((r.1= .exit 0∧lq.length≤128∧lc.length≤128∧T=Y.ah (Y.kY fy L 0 lc.length lq lc) sx)∨(r.1= .ret∧T=((0,false),sx)∧r.2.1[2]? =some (cv 0)∧r.2.1[3]? =some (.bool false))))∧∃(x4 x5 bA x7 x8 cq x9 aC aI eF fN aO aM aW oF aN aT bf aU:Value),r.2.1=[pv p,x,x4,x5,cv L.length,bA,x7,x8,cq,x9,aC,aI,eF,fN,aO,aM,aW,oF,aN,aT,bf,aU]):=by
    intro xq xc OD lc H1 x4 x5 bA x7 x8 cq x9 aC eF fN aW oF aT bf aU hj TJ CX E;simp -implicitDefEqProofs only[KP,yu,sS,Nat.reduceAdd];refine Ev.call (yE _ _) ?_;rintro v PI ⟨rfl,rfl⟩;simp -implicitDefEqProofs only[uA,sS,Nat.reduceAdd];obtain⟨_,o1,uD,hg⟩:=id hj;obtain⟨y,hy1,Xe⟩:=(uV _ _ hg.fr).cut (m:=at_) (n:=at_+ud) (lo:=some (cv (cD L.length i))) (hi:=some (cv (cD L.length i+b9 L.length i))) (by omega) (by omega) (by rw[CD,Yw]) (by rw[CD];congr 1;omega)
    simp -implicitDefEqProofs only[hy1,sS,Nat.reduceAdd];have Xf:(L.take (at_+ud)).drop at_=(L.drop at_).take ud:=by rw[List.drop_take];congr 1;omega
    rw[Xf] at Xe;have hjy:JX (λH' o'=>CC H o p t u xq OD xc lc H' o'∧gN H' o' q y ((L.drop at_).take ud)) p sx _:=⟨(CC.eU h2).and (bJ.kq (by simpa using hq)),o1,uD,hg,Xe⟩
    refine Ev.D7 (ih ((L.drop at_).take ud).length ?_ rfl ?_ hjy hq (λH' o' a=>a.2) (f:=fy) ?_) λz zb s1 Hz ez LY=>?_
    ·simp;omega
    ·simp;omega
    ·simp;omega
    have yT:=LY.mono (CC.eU h2) λo' a=>a.1
    rw[Y.aJ ez] at E;simp -implicitDefEqProofs only[zP,sS,Nat.reduceAdd];cases zb<;>try simp -implicitDefEqProofs only[zP,sS,Nat.reduceAdd]
    ·exact Ev.ret (.inr ⟨by simp,⟨_,_,_,_,s1,yT,rfl,rfl,.inr ⟨rfl,E,rfl,rfl⟩⟩,_,_,_,_,_,_,_,_,_,_,_,_,_,_,_,_,_,_,_,rfl⟩)
    ·refine Ev.aad h2 yT (by omega) λx' Hz hj=>?_
     simp -implicitDefEqProofs only[KN,yq,hw,sS,Nat.reduceAdd];refine Ev.ret (.inl ⟨rfl,k1,by omega,i+1,_,_,_,_,s1,_,_,_,_,_,_,_,_,_,_,_,_,_,_,_,_,hj,by simp[CX],TJ,by omega,?_,rfl⟩)
     rw[E];simp only[Bool.true_eq_false,if_false]
   refine Ev.gtr (λkt=>?_) (λkt=>?_)<;>try simp -implicitDefEqProofs only[sS,Nat.reduceAdd]
   ·obtain⟨_,o1,uD,hg⟩:=id hj;obtain⟨i',off,b',e1,e2,e3,e4⟩:=(uV _ _ hg.fr).idx (j:=at_) (by omega)
    obtain⟨e5,e6,_⟩:=e4 _ e2;rw[Yw] at e1;simp -implicitDefEqProofs only[e1,gQ,Nat.add_zero,e5,zP,sS,Nat.reduceAdd];refine Ev.aac h2 hj (by omega) λx' Hz hj=>?_
    rw[if_pos (show i>0 by omega)] at E'
    exact J2 _ _ _ _ _ _ _ _ _ _ _ _ _ _ _ hj (by simp;omega) CX E'
   ·rw[if_neg (show ¬i>0 by omega)] at E'
    exact J2 _ _ _ _ _ _ _ _ _ _ _ _ _ _ _ hj (by omega) CX E'
  ·have:k=0:=by omega
   subst this;subst CX;exact Ev.ret (.inr ⟨by simp,⟨_,_,_,_,sx,hj,rfl,rfl,.inl ⟨rfl,by omega,by omega,E⟩⟩,_,_,_,_,_,_,_,_,_,_,_,_,_,_,_,_,_,_,_,rfl⟩)
 ·rintro e vs H1 ⟨⟨xq,xc,lq,lc,sx,hj,e14,e18,he⟩,x4,x5,bA,x7,x8,cq,x9,aC,aI,eF,fN,aO,aM,aW,oF,aN,aT,bf,aU,rfl⟩;simp only[List.getElem?_cons_succ,List.getElem?_cons_zero,Option.some.injEq] at e14 e18;subst e14 e18;rcases he with⟨he,TJ,CX,E⟩|⟨he,E,e1,e2⟩
  ·simp only at he;subst he;simp -implicitDefEqProofs only[KS,yw,sS,Nat.reduceAdd];obtain⟨_,o1,uD,hg⟩:=id hj;refine Ev.RP (nA (hU hj) _ hg.q.ints.1 hg.c.ints.1 (by omega)) λw Hz hjw=>?_
   refine Ev.si (nu hjw) λz s1 Hz ez hj=>?_
   try simp -implicitDefEqProofs only[sS,Nat.reduceAdd]
   refine Ev.is (nY _ _) ?_
   try simp -implicitDefEqProofs only[sS,Nat.reduceAdd]
   refine Ev.ret (iw.of hj ?_);rw[hT,E];unfold Y.kY;simp only[Y.ak,bk,bH,bL,cR,cS,ne_eq,not_true_eq_false,not_false_eq_true,if_true,if_false,Bool.not_true,Bool.not_false,true_and,and_true,false_and,and_false,true_or,or_true,false_or,or_false,Bool.false_eq_true,decide_true,decide_false,ez]
  ·simp only at he;subst he;simp only[List.getElem?_cons_succ,List.getElem?_cons_zero,Option.some.injEq] at e1 e2;subst e1 e2;show Ev (λ_=>some (Value.tuple #[cv 0,.bool false],H1)) _
   exact Ev.ret (iw.of (hU hj) (by rw[hT,E]))
end
section
variable {G:ae} {H H':aa} {o o':aj} {p m c:Nat} {K:aa→aj→Prop} {t:Int} {x:Value} {l:PL}
theorem vI (n:Nat):bK [cv 0] n=(List.replicate n (0:Int)).map cv:=by
 simp[bK,List.flatten_replicate_singleton]
theorem aaf (a b c:Int)(H:aa):dH 37 (.agg #[cv a,cv b,cv c]) H=some (pv H.length,H.new ⟨[cv a,cv b,cv c],37,1,false⟩):=by
 simp[dH,Value.cells,aD,aS]
end
section
open Go.Proofs.YtgfgglponbmgmaaGreatA
variable {G:ae} {H H':aa} {o o':aj} {p c:Nat} {K:aa→aj→Prop} {t:Int} {x:Value} {l:PL} {st LV s1:Y.St} {α β:Type}
theorem JX.ue (h:JX K p st H)(f: ∀o,∃o',Fr H o H' o' []):JX K p st H':=by
 obtain⟨hK,o,hr,hk⟩:=h;obtain⟨o',f⟩:=f o;exact⟨hK,o',hr.fr f (by simp) (by simp) (by simp),hK _ _ _ _ hk (f.wk (by simp))⟩
theorem JX.sl (h:JX (λH o=>K H o∧gN H o t x l) p st H)(hK:bJ [(p:Int)] K):JX K p st H:=h.mono hK λo a=>a.1
theorem aag (h:JX K p st H){d:Int}(h1:1≤d∧d≤128){T:TypeId}: ∃s1 s2 H1 H2,UM T 1 8 [cv 0] (cv (d-1)) (cv (d-1)) (H.cB 1)=some (s1,H1)∧Jd H.length (msB T 1 8 [cv 0] (cv d) (cv d)) H1=some (s2,H2)∧JX K p st H2∧eG H2 s1 (List.replicate (d-1).toNat 0)∧eG H2 s2 (List.replicate d.toNat 0):=by
 obtain⟨e,he⟩: ∃e:Nat,d=e+1:=⟨(d-1).toNat,by omega⟩
 subst he;have e1:(e:Int)+1-1=e:=by omega
 have e2:((e:Int)+1).toNat=e+1:=by omega
 have hb:msB T 1 8 [cv 0] (cv ((e:Int)+1)) (cv ((e:Int)+1))=some (λi=>.slice (some ⟨i,0,none⟩) (e+1) (e+1),⟨bK [cv 0] (e+1),T,1,false⟩):=by
  unfold msB UM;simp only[e2];rw[if_pos (by omega)];rfl
 have hlen:(H.cB 1).length=H.length+1:=AI 1;have hole:((H.cB 1).new ⟨bK [cv 0] e,T,1,false⟩)[H.length]? =some .hole:=by
  unfold aa.new;rw[List.getElem?_append_left (by omega)];exact AH
 refine⟨.slice (some ⟨H.length+1,0,none⟩) e e,.slice (some ⟨H.length,0,none⟩) (e+1) (e+1),(H.cB 1).new ⟨bK [cv 0] e,T,1,false⟩,((H.cB 1).new ⟨bK [cv 0] e,T,1,false⟩).set H.length (.y7 ⟨bK [cv 0] (e+1),T,1,false⟩),?_,?_,?_,?_,?_⟩
 ·unfold UM;simp only[e1,hlen,Int.toNat_natCast];rw[if_pos (by omega)]
 ·rw[hb];exact GC hole
 ·refine h.ue λo=>⟨(o.up H.length (-9)).up (H.length+1) (-9),?_⟩
  refine⟨λi hi _=>?_,λi hi=>?_,?_⟩
  ·rw[adL (by omega)]
   unfold aa.new;rw[List.getElem?_append_left (by omega),FM hi]
  ·rw[dL (by omega),dL (by omega)]
  ·simp only[List.length_set,cA,hlen];omega
 ·refine .inr ⟨H.length+1,0,e,by simp,λ_=>⟨⟨bK [cv 0] e,T,1,false⟩,?_,rfl,?_,?_⟩⟩
  ·have g:=aL (H:=H.cB 1) (c:=⟨bK [cv 0] e,T,1,false⟩);rw[hlen] at g;rw[dZ (adL (by omega))];exact g
  ·simp[vI]
  ·simp[vI,e1]
 ·refine .inr ⟨H.length,0,e+1,by simp[e2],λ_=>⟨⟨bK [cv 0] (e+1),T,1,false⟩,?_,rfl,?_,?_⟩⟩
  ·exact r8 (by rw[cA,hlen];omega)
  ·simp[vI,e2]
  ·simp[vI,e2]
theorem Ev.TK {k:Nat→Value→aa→Option α}{Q:α→Prop}(h:JX K p st H){f:Nat}(hf:st.left≤f){a:Int}(ha: -9223372036854775808≤a∧a≤65536){b d:Int}(hk: ∀t y l s1 H',Y.ah (Y.gJ (f+1) a b d []) st=(l,s1)→t≠(p:Int)→JX (λH o=>K H o∧gN H o t y l) p s1 H'→l.length≤1048577→Ev (λn=>k n y H') Q):
  Ev (λn=>af (run G n 122 [pv p,cv a,cv b,cv d,.slice none 0 0] H) (k n)) Q:=by
 have Yv:=h.left;obtain⟨hK,o,hr,hk0⟩:=h;obtain⟨t,PN,Cw⟩:=gC o H.length;have ht:oS t p:=⟨by omega,by omega,by omega⟩
 have hB:bJ [(p:Int),t] λH' o'=>Fr H o H' o' [t,(p:Int)]:=bJ.base (by simp)
 refine Ev.aab (Ox (c:=1048577) hB ht (by omega) f (x:=.slice none 0 0) (l:=[]) ⟨bJ.ko ht hB,o,hr,Fr.refl _ _ _,.inl ⟨rfl,rfl⟩⟩ hf (by simpa using Yv) ha b d) ?_
 rintro y l s1 H' e ⟨_,o',Ui,kO,hs⟩ hl;exact hk t y l s1 H' e ht.ne ⟨hK.and (bJ.kq (by simpa using ht.ne)),o',Ui,hK _ _ _ _ hk0 (iD kO λi hi=>by have:=Cw i hi;omega),hs.r⟩ (by omega)
theorem aah (h:JX K p st H){f:Nat}(hf:st.left≤f){a:Int}(ha: -9223372036854775808≤a∧a≤65536)(n:Int):aE (run G) 151 [pv p,cv a,cv n] H (iw K p st (Y.Cv (f+1) a n)):=by
 refine Ev.up (t:=λk=>WG (run G k) k (pv p) (cv a) (cv n) H) ?_ λk=>Ru ..
 simp -implicitDefEqProofs only[WG,sS,Nat.reduceAdd];have hK:=h.1;have J0: ∀{y:Value} {l:PL} {t:Int} {s1:Y.St} {H1:aa} (x6 x7 aI x8 x9 aC cq cw:Value),t≠(p:Int)→JX (λH o=>K H o∧gN H o t y l) p s1 H1→l.length≤1048577→Y.ah (Y.Cv (f+1) a n) st=Y.ah (if s1.off then pure (0,false) else Y.iu (l.length+1) l) s1→Ev (λk=>vy (run G k) k [pv p,cv a,cv n,x6,x7,aI,x8,x9,aC,cq,cw,y] H1) λr=>iw K p st (Y.Cv (f+1) a n) r.1 r.2:=by
  intro y l t s1 H1 x6 x7 aI x8 x9 aC cq cw ht hj hl E;simp -implicitDefEqProofs only[KF,yl,sS,Nat.reduceAdd];have y9:=hj.sl hK;refine Ev.nW hj (λhq=>?_) (λhq=>?_)<;>try simp -implicitDefEqProofs only[sS,Nat.reduceAdd]
  ·exact Ev.ret (iw.of y9 (by rw[E,if_pos hq];rfl))
  ·refine Ev.D7 (OC _ rfl (by omega) hj ht (λH o a=>a.2) (Nat.le_refl _)) λz zb s2 Hz ez LY=>?_
   have yT:=LY.sl hK
   try simp -implicitDefEqProofs only[sS,Nat.reduceAdd]
   exact Ev.ret (iw.of yT (by rw[E,if_neg (by simp[hq]),ez]))
 refine Ev.geq (λhq=>?_) (λhq=>?_)<;>try simp -implicitDefEqProofs only[sS,Nat.reduceAdd]
 ·refine Ev.call (jS _) ?_;rintro v PI ⟨rfl,rfl⟩;have hd:=pz n;have hx:1≤(if(1:Int)>bo n then 1 else bo n)∧(if(1:Int)>bo n then 1 else bo n)≤128:=by split<;>omega
  simp -implicitDefEqProofs only[To,sS,Nat.reduceAdd];obtain⟨d,Yx⟩: ∃d,d=(if(1:Int)>bo n then 1 else bo n):=⟨_,rfl⟩
  have hd3:max (Y.bo n) 1=d:=by rw[pP,Yx];split<;>omega
  rw[←Yx] at hx ⊢;obtain⟨s1,s2,H2,H3,g1,g2,g3,g4,g5⟩:=aag h hx (T:=2);have hw:IntKind.i64.wrap (d-1)=d-1:=fL (by omega)
  simp -implicitDefEqProofs only[hw,g1,Nat.add_zero,g2,sS,Nat.reduceAdd];refine Ev.RP (nA g3 _ g4 g5 (by simp;omega)) λw Hz hjw=>?_
  refine Ev.si (nu hjw) λz s1 Hz ez hj=>?_
  try simp -implicitDefEqProofs only[sS,Nat.reduceAdd]
  refine Ev.is (nY _ _) ?_
  try simp -implicitDefEqProofs only[sS,Nat.reduceAdd]
  refine Ev.ret (iw.of hj ?_);unfold Y.Cv;rw[if_pos hq];simp only[Y.ak,bk,bH,bL,cR,cS,ne_eq,not_true_eq_false,not_false_eq_true,if_true,if_false,Bool.not_true,Bool.not_false,true_and,and_true,false_and,and_false,true_or,or_true,false_or,or_false,Bool.false_eq_true,decide_true,decide_false,hd3,ez]
 ·refine Ev.eql (λkt=>?_) (λkt=>?_)<;>try simp -implicitDefEqProofs only[sS,Nat.reduceAdd]
  ·refine Ev.TK h hf ha λt y l s1 H1 e ht hj hl=>?_
   try simp -implicitDefEqProofs only[sS,Nat.reduceAdd]
   refine J0 _ _ _ _ _ _ _ _ ht hj hl ?_;unfold Y.Cv;rw[if_neg hq,if_pos kt];simp only[Y.ak,bk,bH,bL,cR,cS,ne_eq,not_true_eq_false,not_false_eq_true,if_true,if_false,Bool.not_true,Bool.not_false,true_and,and_true,false_and,and_false,true_or,or_true,false_or,or_false,Bool.false_eq_true,decide_true,decide_false,e];rfl
  ·refine J0 (t:= -9) (l:=[]) (s1:=st) _ _ _ _ _ _ _ _ (by omega) ⟨hK.and (bJ.kq (by simp)),?_⟩ (by simp) ?_
   ·obtain⟨_,o,hr,hk⟩:=h;exact⟨o,hr,hk,.nil⟩
   ·unfold Y.Cv;rw[if_neg hq,if_neg kt];simp only[Y.ak,bk,bH,bL,cR,cS,ne_eq,not_true_eq_false,not_false_eq_true,if_true,if_false,Bool.not_true,Bool.not_false,true_and,and_true,false_and,and_false,true_or,or_true,false_or,or_false,Bool.false_eq_true,decide_true,decide_false];rfl
theorem Lf (n i:Int):0≤gI n i∧0≤b9 n i∧gI n i+b9 n i≤16384:=by
 by_cases hn:2≤n∧n≤16384
 ·by_cases hi:0≤i∧i<bo n
  ·have e:gI n i=cD n i.toNat:=by unfold gI;rw[if_neg (by omega)]
   have a1:=yH n i.toNat;have a2:=vE hn (i:=i.toNat) (by omega)
   have a3:=jU hn hi;have a4:((i.toNat:Nat):Int)=i:=by omega
   rw[a4] at a2;rw[e];omega
  ·have e1:gI n i=0:=by unfold gI;rw[if_pos (by omega)]
   have e2:b9 n i=0:=by unfold b9;rw[if_pos (by omega)]
   omega
 ·have d0:=nr (n:=n) (by omega)
  have e1:gI n i=0:=by unfold gI;rw[if_pos (by omega)]
  have e2:b9 n i=0:=by unfold b9;rw[if_pos (by omega)]
  omega
theorem OE (h:JX K p st H){f:Nat}(hf:st.left≤f){a:Int}(ha: -9223372036854775808≤a∧a≤65536)(n x d i:Int):aE (run G) 165 [pv p,cv a,cv n,cv x,cv d,cv i] H (jH K p st (Y.oN (f+1) a n x d i)):=by
 refine Ev.up (t:=λk=>V2 (run G k) k (pv p) (cv a) (cv n) (cv x) (cv d) (cv i) H) ?_ λk=>QY ..
 simp -implicitDefEqProofs only[V2,sS,Nat.reduceAdd];have hK:=h.1;refine Ev.call (Oc _ _) ?_;rintro v H1 ⟨rfl,rfl⟩
 try simp -implicitDefEqProofs only[sS,Nat.reduceAdd]
 refine Ev.call (yE _ _) ?_;rintro v H1 ⟨rfl,rfl⟩;have fs:=Lf n i;simp -implicitDefEqProofs only[sS,Nat.reduceAdd,fL (x:=gI n i+b9 n i) (by omega)]
 refine Ev.TK h hf ha λt y l s1 H1 e ht hj hl=>?_
 try simp -implicitDefEqProofs only[sS,Nat.reduceAdd]
 have E0:Y.ah (Y.oN (f+1) a n x d i) st=Y.ah (if s1.off then pure true else Y.iu (l.length+1) l >>= λwo=>if wo.2=false then pure false else Y.KZ l x d i wo.1) s1:=by
  unfold Y.oN;simp only[Y.ak,bk,bH,bL,cR,cS,ne_eq,not_true_eq_false,not_false_eq_true,if_true,if_false,Bool.not_true,Bool.not_false,true_and,and_true,false_and,and_false,true_or,or_true,false_or,or_false,Bool.false_eq_true,decide_true,decide_false,TH,sr,e];rfl
 refine Ev.nW hj (λhq=>?_) (λhq=>?_)<;>try simp -implicitDefEqProofs only[sS,Nat.reduceAdd]
 ·exact Ev.ret (jH.of (hj.sl hK) (by rw[E0,if_pos hq];rfl))
 rw[if_neg (by simp[hq])] at E0
 refine Ev.D7 (OC _ rfl (by omega) hj ht (λH o a=>a.2) (Nat.le_refl _)) λz zb s2 Hz ez LY=>?_
 rw[Y.aJ ez] at E0;simp -implicitDefEqProofs only[sS,Nat.reduceAdd];have yT:=LY.sl hK;have J0: ∀{s3:Y.St} {H1:aa} (x6 aI bR aM aW cw dv:Value),JX K p s3 H1→Y.ah (Y.oN (f+1) a n x d i) st=Y.ah (Y.cs (Y.dh x d i) 0 z >>= λ_=>pure true) s3→Ev (λk=>vl (run G k) k [pv p,cv a,cv n,cv x,cv d,cv i,x6,aI,bR,aM,aW,cw,dv,cv z] H1) λr=>jH K p st (Y.oN (f+1) a n x d i) r.1 r.2:=by
  intro s3 H1 x6 aI bR aM aW cw dv hj E;simp -implicitDefEqProofs only[Ke,xK,sS,Nat.reduceAdd];refine Ev.is (kK _ _ _) ?_;refine Ev.Oh (D8 hj _ _ _) λz s4 Hz ez iW=>?_
  try simp -implicitDefEqProofs only[sS,Nat.reduceAdd]
  exact Ev.ret (jH.of iW (by rw[E,Y.aJ ez];rfl))
 cases zb<;>try simp -implicitDefEqProofs only[sS,Nat.reduceAdd]
 ·exact Ev.ret (jH.of yT (by rw[E0];rfl))
 rw[if_neg (by simp)] at E0
 obtain⟨_,o1,uD,Dh,hs⟩:=id LY;refine Ev.gtr (λhq=>?_) (λhq=>?_)<;>try simp -implicitDefEqProofs only[hs.len,sS,Nat.reduceAdd]
 ·refine Ev.gtr (λkt=>?_) (λkt=>?_)<;>try simp -implicitDefEqProofs only[sS,Nat.reduceAdd]
  ·refine Ev.is (pB _ _) ?_;obtain⟨i',off,b,e1,e2,e3,e4⟩:=hs.idx (j:=0) (by omega)
   obtain⟨e5,e6,_⟩:=e4 _ e2;simp only[Int.natCast_zero] at e1;simp -implicitDefEqProofs only[e1,gQ,Nat.add_zero,e5,sS,Nat.reduceAdd];refine Ev.Yu (Cx yT _ _) λv u s3 Hz ew hj=>?_
   try simp -implicitDefEqProofs only[e5,sS,Nat.reduceAdd]
   refine J0 _ _ _ _ _ _ _ hj ?_;cases l with
   |nil=>simp at kt
   |cons kv l=>rw[E0];unfold Y.KZ;simp only[if_pos hq];exact Y.aJ ew
  ·refine J0 _ _ _ _ _ _ _ yT ?_;have:l=[]:=List.length_eq_zero_iff.1 (by omega)
   subst this;rw[E0];rfl
 ·refine J0 _ _ _ _ _ _ _ yT ?_;rw[E0];unfold Y.KZ;cases l with
  |nil=>rfl
  |cons kv l=>simp only[if_neg hq]
theorem F4 {g fx:Nat}{a t n x:Int}{s:Y.St}(h:s.off=true):Y.ah (Y.kg g a t n x fx) s=(true,s):=by
 cases fx with
 |zero=>rfl
 |succ fx=>unfold Y.kg;simp only[Y.ak,bk,bH,bL,cR,cS,ne_eq,not_true_eq_false,not_false_eq_true,if_true,if_false,Bool.not_true,Bool.not_false,true_and,and_true,false_and,and_false,true_or,or_true,false_or,or_false,Bool.false_eq_true,decide_true,decide_false,h]
theorem Lg {g fx:Nat}{a t n x:Int}{s:Y.St}{k:Bool→Y.Tr β}(h:s.off=false):Y.ah (Y.kg g a t n x (fx+1) >>= k) s=Y.ah ((Y.ad (Y.wr (a+4)) 1 >>= λi=>if i≥bo n then pure true else Y.gT >>= λb=>if b then pure true else Y.oN g t n x (bo n) i >>= λok=>if ok=false then pure false else Y.kg g a t n x fx) >>= k) s:=by
 rw[Y.ak]
 conv=>lhs;unfold Y.kg
 simp only[Y.ak,bk,bH,bL,cR,cS,ne_eq,not_true_eq_false,not_false_eq_true,if_true,if_false,Bool.not_true,Bool.not_false,true_and,and_true,false_and,and_false,true_or,or_true,false_or,or_false,Bool.false_eq_true,decide_true,decide_false,h,pP]
theorem AX {g fx:Nat}{t n x j:Int}{s:Y.St}(h:s.off=true∨¬j<bo n):Y.ah (Y.gK g t n x fx j) s=(true,s):=by
 cases fx with
 |zero=>rfl
 |succ fx=>
  unfold Y.gK;rw[pP];by_cases h1:j<bo n
  ·rw[if_neg (by omega)]
   have h2:=h.resolve_right λk=>k h1
   simp only[Y.ak,bk,bH,bL,cR,cS,ne_eq,not_true_eq_false,not_false_eq_true,if_true,if_false,Bool.not_true,Bool.not_false,true_and,and_true,false_and,and_false,true_or,or_true,false_or,or_false,Bool.false_eq_true,decide_true,decide_false,h2]
  ·rw[if_pos h1];rfl
theorem OF {g fx:Nat}{t n x j:Int}{s:Y.St}(h:s.off=false)(h1:j<bo n):Y.ah (Y.gK g t n x (fx+1) j) s=Y.ah (Y.rd (Y.dh x (bo n) j) >>= λc=>if c≠0 then Y.gK g t n x fx (j+1) else Y.gT >>= λb=>if b then Y.gK g t n x fx (j+1) else Y.oN g t n x (bo n) j >>= λok=>if ok=false then pure false else Y.gK g t n x fx (j+1)) s:=by
 conv=>lhs;unfold Y.gK
 rw[pP,if_neg (by omega)]
 simp only[Y.ak,bk,bH,bL,cR,cS,ne_eq,not_true_eq_false,not_false_eq_true,if_true,if_false,Bool.not_true,Bool.not_false,true_and,and_true,false_and,and_false,true_or,or_true,false_or,or_false,Bool.false_eq_true,decide_true,decide_false,h]
theorem R0 (h:JX K p st H){f:Nat}(hf:st.left≤f)(a:Int){t:Int}(ht: -9223372036854775808≤t∧t≤65536)(n x:Int):aE (run G) 152 [pv p,cv a,cv t,cv n,cv x] H (jH K p st (Y.gg (f+1) a t n x)):=by
 have w4:IntKind.i64.wrap (a+4)=Y.wr (a+4):=cI _;refine Ev.up (t:=λk=>Wg (run G k) k (pv p) (cv a) (cv t) (cv n) (cv x) H) ?_ λk=>Q6 ..
 simp -implicitDefEqProofs only[Wg,sS,Nat.reduceAdd];refine Ev.call (jS _) ?_;rintro v PI ⟨rfl,rfl⟩
 try simp -implicitDefEqProofs only[sS,Nat.reduceAdd]
 have B:Y.ah (Y.gg (f+1) a t n x) st=Y.ah (Y.kg (f+1) a t n x (f+1) >>= λok=>if ok=false then pure false else Y.gK (f+1) t n x (f+1) 0) st:=rfl
 refine Ev.loop (k:=st.left) (λk vs Hx=>∃(sx:Y.St) (fx:Nat) (aC bl aN cN bR cw aI er aM eQ fO:Value),JX K p sx Hx∧k=sx.left∧sx.left≤f∧(sx.left+1≤fx∨sx.off=true)∧Y.ah (Y.gg (f+1) a t n x) st=Y.ah (Y.kg (f+1) a t n x fx >>= λok=>if ok=false then pure false else Y.gK (f+1) t n x (f+1) 0) sx∧vs=[pv p,cv a,cv t,cv n,cv x,aC,bl,aN,cv (bo n),cN,bR,cw,aI,er,aM,eQ,fO])
  (λr=>∃sx,JX K p sx r.2.2∧sx.left≤f∧((r.1= .exit 0∧Y.ah (Y.gg (f+1) a t n x) st=Y.ah (Y.gK (f+1) t n x (f+1) 0) sx)∨(r.1= .ret∧∃u,r.2.1[5]? =some (.bool u)∧Y.ah (Y.gg (f+1) a t n x) st=(u,sx)))∧∃(aC bl aN cN bR cw aI er aM eQ fO:Value),r.2.1=[pv p,cv a,cv t,cv n,cv x,aC,bl,aN,cv (bo n),cN,bR,cw,aI,er,aM,eQ,fO]) ⟨st,f+1,_,_,_,_,_,_,_,_,_,_,_,h,rfl,hf,.inl (by omega),B,rfl⟩ ?_ ?_
 ·rintro k vs Hx ⟨sx,fx,aC,bl,aN,cN,bR,cw,aI,er,aM,eQ,fO,hj,rfl,hl,pd,E,rfl⟩;simp -implicitDefEqProofs only[Km,xS,sS,Nat.reduceAdd];refine Ev.nW hj (λhq=>?_) (λhq=>?_)<;>try simp -implicitDefEqProofs only[sS,Nat.reduceAdd]
  ·rw[Y.ak,F4 hq] at E;exact Ev.ret (.inr ⟨by simp,sx,hj,hl,.inl ⟨rfl,E⟩,_,_,_,_,_,_,_,_,_,_,_,rfl⟩)
  have l4:=iE hq;have Ow:sx.left+1≤fx:=pd.resolve_right (by rw[hq];simp)
  obtain⟨fy,rfl⟩: ∃fy,fx=fy+1:=⟨fx-1,by omega⟩
  rw[Lg hq] at E;simp only[Y.bind_assoc] at E;simp -implicitDefEqProofs only[w4,sS,Nat.reduceAdd];refine Ev.eS (Tq hj _ _) λi s1 H1 e1 fv=>?_
  have l5:s1.left=sx.left-1:=by
   have h:=Y.tz (.ad (Y.wr (a+4)) 1) sx;have e2:(Y.oM (.ad (Y.wr (a+4)) 1) sx).2=s1:=congrArg Prod.snd e1;rw[e2] at h;exact h
  rw[Y.aJ e1] at E
  try simp -implicitDefEqProofs only[sS,Nat.reduceAdd]
  refine Ev.geq (λh2=>?_) (λh2=>?_)<;>try simp -implicitDefEqProofs only[sS,Nat.reduceAdd]
  ·rw[if_pos h2,Y.bind_pure] at E;exact Ev.ret (.inr ⟨by simp,s1,fv,by omega,.inl ⟨rfl,E⟩,_,_,_,_,_,_,_,_,_,_,_,rfl⟩)
  rw[if_neg h2] at E;refine Ev.nW fv (λqv=>?_) (λqv=>?_)<;>try simp -implicitDefEqProofs only[sS,Nat.reduceAdd]
  ·have E':Y.ah (Y.gg (f+1) a t n x) st=Y.ah (Y.gK (f+1) t n x (f+1) 0) s1:=by rw[E,Y.ak];simp only[Y.ak,bk,bH,bL,cR,cS,ne_eq,not_true_eq_false,not_false_eq_true,if_true,if_false,Bool.not_true,Bool.not_false,true_and,and_true,false_and,and_false,true_or,or_true,false_or,or_false,Bool.false_eq_true,decide_true,decide_false,qv];rfl
   exact Ev.ret (.inr ⟨by simp,s1,fv,by omega,.inl ⟨rfl,E'⟩,_,_,_,_,_,_,_,_,_,_,_,rfl⟩)
  refine Ev.K4 (OE fv (f:=f) (by omega) ht n x (bo n) i) λok s2 H2 e2 fH=>?_
  have l6:=dk e2;have E':Y.ah (Y.gg (f+1) a t n x) st=Y.ah (if ok=false then pure false else Y.kg (f+1) a t n x fy >>= λok=>if ok=false then pure false else Y.gK (f+1) t n x (f+1) 0) s2:=by
   rw[E,Y.ak];simp only[Y.ak,bk,bH,bL,cR,cS,ne_eq,not_true_eq_false,not_false_eq_true,if_true,if_false,Bool.not_true,Bool.not_false,true_and,and_true,false_and,and_false,true_or,or_true,false_or,or_false,Bool.false_eq_true,decide_true,decide_false,qv,e2];cases ok
   ·rfl
   ·simp only[Bool.true_eq_false,Y.ak,bk,bH,bL,cR,cS,ne_eq,not_true_eq_false,not_false_eq_true,if_true,if_false,Bool.not_true,Bool.not_false,true_and,and_true,false_and,and_false,true_or,or_true,false_or,or_false,Bool.false_eq_true,decide_true,decide_false]
  cases ok<;>try simp -implicitDefEqProofs only[sS,Nat.reduceAdd]
  ·exact Ev.ret (.inr ⟨by simp,s2,fH,by omega,.inr ⟨rfl,false,rfl,E'⟩,_,_,_,_,_,_,_,_,_,_,_,rfl⟩)
  ·rw[if_neg (by decide)] at E'
   exact Ev.ret (.inl ⟨rfl,s2.left,by omega,s2,fy,_,_,_,_,_,_,_,_,_,_,_,fH,rfl,by omega,.inl (by omega),E',rfl⟩)
 ·rintro e vs H1 ⟨s0,hj,hl,he,aC,bl,aN,cN,bR,cw,aI,er,aM,eQ,fO,hv⟩;simp only at hv hj he;subst hv;rcases he with⟨rfl,E0⟩|⟨rfl,u,e1,E0⟩
  ·simp -implicitDefEqProofs only[Kl,xR,sS,Nat.reduceAdd];refine Ev.loop (k:=(bo n).toNat) (λk vs Hx=>∃(i:Nat) (sx:Y.St) (fx:Nat) (aC bl aN cN bR cw er aM eQ fO:Value),JX K p sx Hx∧sx.left≤f∧(sx.left+1≤fx∨sx.off=true)∧(i:Int)+k=bo n∧Y.ah (Y.gg (f+1) a t n x) st=Y.ah (Y.gK (f+1) t n x fx i) sx∧vs=[pv p,cv a,cv t,cv n,cv x,aC,bl,aN,cv (bo n),cN,bR,cw,cv i,er,aM,eQ,fO])
    (λr=>∃sx,JX K p sx r.2.2∧((r.1= .exit 2∧Y.ah (Y.gg (f+1) a t n x) st=(true,sx))∨(r.1= .ret∧∃u,r.2.1[5]? =some (.bool u)∧Y.ah (Y.gg (f+1) a t n x) st=(u,sx)))∧∃(aC bl aN cN bR cw aI er aM eQ fO:Value),r.2.1=[pv p,cv a,cv t,cv n,cv x,aC,bl,aN,cv (bo n),cN,bR,cw,aI,er,aM,eQ,fO]) ⟨0,s0,f+1,_,_,_,_,_,_,_,_,_,_,hj,hl,.inl (by omega),by have:=pz n;omega,E0,rfl⟩ ?_ ?_
   ·rintro k vs Hx ⟨i,sx,fx,aC,bl,aN,cN,bR,cw,er,aM,eQ,fO,hj,hl,pd,hik,E,rfl⟩;have hdn:=pz n;have hw:IntKind.i64.wrap ((i:Int)+1)=((i+1:Nat):Int):=by rw[fL (by omega)];omega
    simp -implicitDefEqProofs only[Kj,xP,sS,Nat.reduceAdd];refine Ev.lss (λh2=>?_) (λh2=>?_)<;>try simp -implicitDefEqProofs only[sS,Nat.reduceAdd]
    rotate_left
    ·rw[AX (.inr h2)] at E;exact Ev.ret (.inr ⟨by simp,sx,hj,.inl ⟨rfl,E⟩,_,_,_,_,_,_,_,_,_,_,_,rfl⟩)
    refine Ev.nW hj (λhq=>?_) (λhq=>?_)<;>try simp -implicitDefEqProofs only[sS,Nat.reduceAdd]
    ·rw[AX (.inl hq)] at E;exact Ev.ret (.inr ⟨by simp,sx,hj,.inl ⟨rfl,E⟩,_,_,_,_,_,_,_,_,_,_,_,rfl⟩)
    have l4:=iE hq;have Ow:sx.left+1≤fx:=pd.resolve_right (by rw[hq];simp)
    obtain⟨fy,rfl⟩: ∃fy,fx=fy+1:=⟨fx-1,by omega⟩
    obtain⟨k1,rfl⟩: ∃k1,k=k1+1:=⟨k-1,by omega⟩
    rw[OF hq h2] at E;have iJ: ∀{sy:Y.St} {H2:aa} (aC bl aN cN bR cw er aM eQ fO:Value),JX K p sy H2→sy.left≤sx.left-1→Y.ah (Y.gg (f+1) a t n x) st=Y.ah (Y.gK (f+1) t n x fy ((i:Int)+1)) sy→Ev (λk=>vn (run G k) k [pv p,cv a,cv t,cv n,cv x,aC,bl,aN,cv (bo n),cN,bR,cw,cv i,er,aM,eQ,fO] H2) λr=>(r.1= .normal∧∃k',k'<k1+1∧∃(i:Nat) (sx:Y.St) (fx:Nat) (aC bl aN cN bR cw er aM eQ fO:Value),JX K p sx r.2.2∧sx.left≤f∧(sx.left+1≤fx∨sx.off=true)∧(i:Int)+k'=bo n∧Y.ah (Y.gg (f+1) a t n x) st=Y.ah (Y.gK (f+1) t n x fx i) sx∧r.2.1=[pv p,cv a,cv t,cv n,cv x,aC,bl,aN,cv (bo n),cN,bR,cw,cv i,er,aM,eQ,fO])∨(r.1≠ .normal∧∃sx,JX K p sx r.2.2∧((r.1= .exit 2∧Y.ah (Y.gg (f+1) a t n x) st=(true,sx))∨(r.1= .ret∧∃u,r.2.1[5]? =some (.bool u)∧Y.ah (Y.gg (f+1) a t n x) st=(u,sx)))∧∃(aC bl aN cN bR cw aI er aM eQ fO:Value),r.2.1=[pv p,cv a,cv t,cv n,cv x,aC,bl,aN,cv (bo n),cN,bR,cw,aI,er,aM,eQ,fO]):=by
     intro sy H2 aC bl aN cN bR cw er aM eQ fO hj De E;simp -implicitDefEqProofs only[Ki,xO,hw,sS,Nat.reduceAdd];refine Ev.ret (.inl ⟨rfl,k1,by omega,i+1,sy,fy,_,_,_,_,_,_,_,_,_,_,hj,by omega,.inl (by omega),by omega,?_,rfl⟩)
     rw[E];congr 1
    refine Ev.is (kK _ _ _) ?_;refine Ev.eS (cX hj _) λc s1 H1 e1 fv=>?_
    have l5:=dj e1;rw[Y.aJ e1] at E
    try simp -implicitDefEqProofs only[sS,Nat.reduceAdd]
    refine Ev.neq (λh3=>?_) (λh3=>?_)<;>try simp -implicitDefEqProofs only[sS,Nat.reduceAdd]
    ·rw[if_pos h3] at E;exact iJ _ _ _ _ _ _ _ _ _ _ fv (by omega) E
    rw[if_neg (by simp[h3])] at E
    refine Ev.nW fv (λqv=>?_) (λqv=>?_)<;>try simp -implicitDefEqProofs only[sS,Nat.reduceAdd]
    ·have E':Y.ah (Y.gg (f+1) a t n x) st=Y.ah (Y.gK (f+1) t n x fy ((i:Int)+1)) s1:=by rw[E];simp only[Y.ak,bk,bH,bL,cR,cS,ne_eq,not_true_eq_false,not_false_eq_true,if_true,if_false,Bool.not_true,Bool.not_false,true_and,and_true,false_and,and_false,true_or,or_true,false_or,or_false,Bool.false_eq_true,decide_true,decide_false,qv]
     exact iJ _ _ _ _ _ _ _ _ _ _ fv (by omega) E'
    refine Ev.K4 (OE fv (f:=f) (by omega) ht n x (bo n) i) λok s2 H2 e2 fH=>?_
    have l6:=dk e2;have E':Y.ah (Y.gg (f+1) a t n x) st=Y.ah (if ok=false then pure false else Y.gK (f+1) t n x fy ((i:Int)+1)) s2:=by
     rw[E];simp only[Y.ak,bk,bH,bL,cR,cS,ne_eq,not_true_eq_false,not_false_eq_true,if_true,if_false,Bool.not_true,Bool.not_false,true_and,and_true,false_and,and_false,true_or,or_true,false_or,or_false,Bool.false_eq_true,decide_true,decide_false,qv,e2]
    cases ok<;>try simp -implicitDefEqProofs only[sS,Nat.reduceAdd]
    ·exact Ev.ret (.inr ⟨by simp,s2,fH,.inr ⟨rfl,false,rfl,E'⟩,_,_,_,_,_,_,_,_,_,_,_,rfl⟩)
    ·rw[if_neg (by decide)] at E'
     exact iJ _ _ _ _ _ _ _ _ _ _ fH (by omega) E'
   ·rintro e vs H2 ⟨sx,fH,he,aC,bl,aN,cN,bR,cw,aI,er,aM,eQ,fO,hv⟩;simp only at hv fH he;subst hv;rcases he with⟨rfl,E⟩|⟨rfl,u,e1,E⟩
    ·simp -implicitDefEqProofs only[Kk,xQ,sS,Nat.reduceAdd];exact Ev.ret (jH.of fH E)
    ·simp only[List.getElem?_cons_succ,List.getElem?_cons_zero,Option.some.injEq] at e1;subst e1;show Ev (λ_=>some (Value.bool u,H2)) _
     exact Ev.ret (jH.of fH E)
  ·simp only[List.getElem?_cons_succ,List.getElem?_cons_zero,Option.some.injEq] at e1;subst e1;show Ev (λ_=>some (Value.bool u,H1)) _
   exact Ev.ret (jH.of hj E0)
end
end Go.Proofs.YtgfgglponbmgmaaGreat.Fun
end
