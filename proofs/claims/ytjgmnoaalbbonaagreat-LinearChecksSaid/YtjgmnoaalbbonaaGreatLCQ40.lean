/- Texts of the proof of linearChecks_holds, put together by a small program of ours (names shortened, spaces taken out). No condition beyond the given statement. -/
import Derived.Test.YtjgmnoaalbbonaaGreatLCQ15
import Derived.Test.YtjgmnoaalbbonaaGreatLCQ16
import Derived.Test.YtjgmnoaalbbonaaGreatLCQ17
import Derived.Test.YtjgmnoaalbbonaaGreatLCQ18
import Derived.Test.YtjgmnoaalbbonaaGreatLCQ19
import Derived.Test.YtjgmnoaalbbonaaGreatLCQ21
import Derived.Test.YtjgmnoaalbbonaaGreatLCQ22
import Derived.Test.YtjgmnoaalbbonaaGreatLCQ39
import Derived.Test.YtjgmnoaalbbonaaGreatLCQ20
set_option linter.unusedVariables false
set_option linter.unusedSimpArgs false
set_option linter.unnecessarySimpa false
noncomputable section
section
namespace Go.Proofs.YtjgmnoaalbbonaaGreat.Fun
open Go Go.RowKit Go.Proofs.YtjgmnoaalbbonaaGreatA.Am
set_option maxRecDepth 10000
section
variable {G:ag} {H H':ae} {o o':an} {p m c mp f xp:Nat} {K:ae→an→Prop} {q:Int} {x:Value} {l:PL} {n i:Nat} {cs:List Int} {mx:Int}
theorem Nb (h:JM K mp mx cs H){w:Value}{lw:List Int}(hw:jb H w lw)(ahR:lw≠[])(iN:(cs.length:Int)+lw.length≤mx)(Yv:lw≠[]→∀a n c,w= .slice (some a) n c→a.block≠mp):bN (run G) 61 [pv mp,w] H λv H'=>v= .tuple #[cv ((cs.length:Int)+1),.bool true]∧JM K mp mx (cs++lw) H':=by
 refine Ev.up (t:=λk=>F61 (run G k) k (pv mp) w H) ?_ λk=>Ro ..
 obtain⟨nY,se,ref,s,ty,g,hl,hj⟩:=h.num;obtain⟨H1,e1⟩: ∃z,z=H.put mp ⟨[cv mx,s,cv (IntKind.i64.wrap (nY+1)),cv se,cv ref],ty,1,false⟩:=⟨_,rfl⟩;have kY:=hj (IntKind.i64.wrap (nY+1)) se ref;rw[←e1] at kY;have g1:H1.get mp=some ⟨[cv mx,s,cv (IntKind.i64.wrap (nY+1)),cv se,cv ref],ty,1,false⟩:=by rw[e1];exact aH g
 have L2:au (.pointer (some ⟨mp,2,none⟩)) H=some (cv nY):=ak mp 2 H g;have S2:=kF mp 2 (IntKind.i64.wrap (nY+1)) H g rfl (by simp)
 simp only[List.set_cons_succ,List.set_cons_zero] at S2;rw[←e1] at S2;have M0:au (pv mp) H1=some (cv mx):=ak mp 0 H1 g1;have M1:au (.pointer (some ⟨mp,1,none⟩)) H1=some s:=ak mp 1 H1 g1;have M4:au (.pointer (some ⟨mp,4,none⟩)) H1=some (cv ref):=ak mp 4 H1 g1;have S4:=kF mp 4 (IntKind.i64.wrap (ref+1)) H1 g1 rfl (by simp)
 simp only[List.set_cons_succ,List.set_cons_zero] at S4;have jJ:JM K mp mx cs (H1.put mp ⟨[cv mx,s,cv (IntKind.i64.wrap (nY+1)),cv se,cv (IntKind.i64.wrap (ref+1))],ty,1,false⟩):=by
  obtain⟨c2,o2,r2,s2,nL,g2,_,jJ⟩:=kY.num;rw[g1] at g2;cases g2;exact jJ _ _ _
 have GH:jb H1 w lw:=by
  refine hw.keep λi b e eC=>?_
  rw[e1,bt (Yv eC b _ _ e)]
 have adb:=h.UI;obtain⟨hK,o,⟨Li,Ch,Ci,s',EU,g',ho,hs,XI⟩,hk⟩:=id kY;rw[g1] at g';obtain⟨rfl,rfl,rfl,rfl,rfl⟩:s'=s∧Li=IntKind.i64.wrap (nY+1)∧Ch=se∧Ci=ref∧EU=ty:=by
  injection g' with g';injection g' with a b c d;injection a with a1 a2;injection a2 with a3 a4;injection a4 with a5 a6;injection a6 with a7 a8;injection a8 with a9 a10;injection a5 with _ a5;injection a7 with _ a7;injection a9 with _ a9;exact⟨a3.symm,a5.symm,a7.symm,a9.symm,b.symm⟩
 simp -implicitDefEqProofs only[F61,L2,S2,hw.len,sS,Nat.reduceAdd];refine Ev.eql (λhq=>?_) (λhq=>?_)<;>try simp -implicitDefEqProofs only[hw.len,M0,M1,M4,S4,hl,sS,Nat.reduceAdd]
 ·exact absurd (List.length_eq_zero_iff.1 (by omega)) ahR
 have hw9:IntKind.i64.wrap (mx-cs.length)=mx-cs.length:=jE (by omega)
 simp -implicitDefEqProofs only[hw9,sS,Nat.reduceAdd];refine Ev.gtr (λrB=>?_) (λrB=>?_)<;>try simp -implicitDefEqProofs only[M0,M1,M4,S4,hl,sS,Nat.reduceAdd]
 ·omega
 have hwL:IntKind.i64.wrap ((cs.length:Int)+1)=(cs.length:Int)+1:=jE (by omega)
 obtain⟨x',H2,o2,a2,s2,f2,k2⟩:=mL 2 hs GH (by omega)
 have g2:H2.get mp=some ⟨[cv mx,s',cv (IntKind.i64.wrap (nY+1)),cv Ch,cv Ci],EU,1,false⟩:=by rw[f2.same mp (aq g1) (by rw[ho];simp)];exact g1
 have Hd:o2 mp= -70:=by rw[f2.own mp (aq g1)];exact ho
 obtain⟨ba,bc,ex⟩:=s2.isSlice;have S1:=zO mp 1 ba (cs++lw).length bc H2 g2 rfl (by simp)
 rw[←ex] at S1;simp only[List.set_cons_succ,List.set_cons_zero] at S1;simp -implicitDefEqProofs only[hwL,a2,S1,sS,Nat.reduceAdd];have f3:Fr H2 o2 (H2.put mp ⟨[cv mx,x',cv (IntKind.i64.wrap (nY+1)),cv Ch,cv Ci],EU,1,false⟩) o2 [-70]:=(Fr.refl H2 o2 [-70]).put λ_=>by simp[Hd]
 exact Ev.ret ⟨rfl,hK,o2,⟨_,_,_,x',EU,aH g2,Hd,s2.fr f3 (by simp),by simp;omega,XI.2⟩,hK _ _ _ _ hk (f2.trans f3 (by simp) (by simp))⟩
theorem JM.ext (h:JM K mp mx cs H)(e:Ext H H'):JM K mp mx cs H':=by
 obtain⟨hK,o,hm,hk⟩:=h;have f:Fr H o H' (o.from H.length (-9)) []:=e.fr o (-9)
 exact⟨hK,_,hm.fr f (by simp) (by simp),hK _ _ _ _ hk (f.wk (by simp))⟩
theorem JM.lt (h:JM K mp mx cs H):mp<H.length:=by
 obtain⟨_,o,⟨_,_,_,_,_,g,_⟩,_⟩:=h;exact aq g
theorem GA (s:Int){q c:Value}{lq lc:List Int}(hq:jb H q lq)(hc:jb H c lc)(he:lc.length=lq.length+1)(hl:lq.length≤1000):
  bN (run G) 62 [cv s,q,c] H λw H'=>Ext H H'∧jb H' w ([(lc.length:Int),s,0,0,0]++lq++lc)∧∀a n c,w= .slice (some a) n c→H.length≤a.block:=by
 refine Ev.up (t:=λn=>F62 (run G n) n (cv s) q c H) ?_ λn=>SC ..
 have hw:IntKind.i64.wrap ((lq.length:Int)+1)=(lq.length:Int)+1:=jE (by omega)
 simp -implicitDefEqProofs only[F62,hq.len,hc.len,hw,sS,Nat.reduceAdd];refine Ev.neq (λh1=>?_) (λh1=>?_)<;>try simp -implicitDefEqProofs only[hc.len,Xx,sS,Nat.reduceAdd]
 ·omega
 have s1:=rJ.new H o0 (-2) 2 [(lc.length:Int),s,0,0,0];have f1:Fr H o0 (H.new ⟨[cv lc.length,cv s,cv 0,cv 0,cv 0],2,1,false⟩) (an.up o0 H.length (-2)) [-2]:=(Fr.refl H o0 [-2]).new _ _;obtain⟨H1,e1⟩: ∃z,z=H.new ⟨[cv lc.length,cv s,cv 0,cv 0,cv 0],2,1,false⟩:=⟨_,rfl⟩;have keep: ∀{x:Value} {l:List Int} {H2:ae} {o2:an},jb H x l→Fr H o0 H2 o2 [-2]→jb H2 x l:=λhx f=>hx.keep λi b e eC=>by
  rcases hx with⟨e1,e2⟩|⟨j,off,cc,e1,hb⟩
  ·exact absurd e2 eC
  ·obtain⟨bb,g1,_⟩:=hb eC;rw[e1] at e;cases e;exact f.same j (aq g1) (by simp)
 obtain⟨x2,H2,o2,a2,s2,f2,_⟩:=mL (H:=H1) 2 (by rw[e1];exact s1) (keep hq (by rw[e1];exact f1)) (by simp;omega)
 have f12:Fr H o0 H2 o2 [-2]:=by rw[e1] at f2;exact f1.tr f2
 obtain⟨x3,H3,o3,a3,s3,f3,_⟩:=mL 2 s2 (keep hc f12) (by simp;omega)
 have f13:=f12.tr f3;have eH:H.new ⟨[cv lc.length,cv s,cv 0,cv 0,cv 0],2,1,false⟩=H1:=e1.symm;simp -implicitDefEqProofs only[eH,List.length_cons,List.length_nil,sS,Nat.reduceAdd] at a2;simp -implicitDefEqProofs only[eH,a2,a3,sS,Nat.reduceAdd];refine Ev.ret ⟨Ext.of f13 (λi hi=>by simp),s3.ints.1,λa n c e=>?_⟩
 have eC:[(lc.length:Int),s,0,0,0]++lq++lc≠[]:=by simp
 obtain⟨g1,g2⟩:=s3.ints.2 a n c e eC;rcases Nat.lt_or_ge a.block H.length with g|g
 ·have h9:o3 a.block= -1:=f13.own _ g;omega
 ·exact g
theorem afR:bN (run G) 63 [cv 1,cv 7] H λv H'=>v=cv 57∧H'=H:=by
 refine Ev.up (t:=λn=>F63 (run G n) n (cv 1) (cv 7) H) ?_ λn=>Si ..
 simp -implicitDefEqProofs only[F63,sS,Nat.reduceAdd];refine Ev.lss (λhq=>?_) (λhq=>?_)<;>try simp -implicitDefEqProofs only[sS,Nat.reduceAdd]
 ·omega
 refine Ev.gtr (λhq=>?_) (λhq=>?_)<;>try simp -implicitDefEqProofs only[sS,Nat.reduceAdd]
 ·omega
 refine Ev.lss (λhq=>?_) (λhq=>?_)<;>try simp -implicitDefEqProofs only[sS,Nat.reduceAdd]
 ·omega
 refine Ev.gtr (λhq=>?_) (λhq=>?_)<;>try simp -implicitDefEqProofs only[sS,Nat.reduceAdd]
 ·omega
 exact Ev.ret ⟨(congrArg cv (by decide):cv (IntKind.i64.wrap (IntKind.i64.wrap (8*7)+1))=cv 57),rfl⟩
theorem IP:bN (run G) 112 [cv 57] H λv H'=>v= .bool true∧H'=H:=by
 refine Ev.up (t:=λn=>SE (run G n) n (cv 57) H) ?_ λn=>MA ..
 have t1:(57:Int).tmod 8=1:=by decide
 have t2:IntKind.i64.wrap ((57:Int).tdiv 8)=7:=by decide
 simp -implicitDefEqProofs only[SE,t1,t2,sS,Nat.reduceAdd];refine Ev.gtr (λhq=>?_) (λhq=>?_)<;>try simp -implicitDefEqProofs only[t1,t2,sS,Nat.reduceAdd]
 rotate_left
 ·omega
 refine Ev.geq (λhq=>?_) (λhq=>?_)<;>try simp -implicitDefEqProofs only[t1,t2,sS,Nat.reduceAdd]
 rotate_left
 ·omega
 refine Ev.leq (λhq=>?_) (λhq=>?_)<;>try simp -implicitDefEqProofs only[t1,t2,sS,Nat.reduceAdd]
 rotate_left
 ·omega
 refine Ev.leq (λhq=>?_) (λhq=>?_)<;>try simp -implicitDefEqProofs only[t1,t2,sS,Nat.reduceAdd]
 rotate_left
 ·omega
 exact Ev.ret ⟨rfl,rfl⟩
theorem yX:bN (run G) 92 [cv 57] H λv H'=>v=cv 1∧H'=H:=by
 refine Ev.up (t:=λn=>F92 (run G n) n (cv 57) H) ?_ λn=>SM ..
 simp -implicitDefEqProofs only[F92,sS,Nat.reduceAdd];refine Ev.call IP ?_;rintro v H' ⟨rfl,rfl⟩;simp -implicitDefEqProofs only[sS,Nat.reduceAdd];exact Ev.ret ⟨(congrArg cv (by decide):cv (Int.tmod 57 8)=cv 1),rfl⟩
theorem YR:bN (run G) 91 [cv 57] H λv H'=>v=cv 7∧H'=H:=by
 refine Ev.up (t:=λn=>F91 (run G n) n (cv 57) H) ?_ λn=>RZ ..
 simp -implicitDefEqProofs only[F91,sS,Nat.reduceAdd];refine Ev.call IP ?_;rintro v H' ⟨rfl,rfl⟩;simp -implicitDefEqProofs only[sS,Nat.reduceAdd];exact Ev.ret ⟨(congrArg cv (by decide):cv (IntKind.i64.wrap (Int.tdiv 57 8))=cv 7),rfl⟩
abbrev m7:List Int:=[1,0,0,0,0,57,0]
theorem T7 (h:JM K mp mx [] H)(XI:150≤mx):bN (run G) 36 [pv mp] H λv H'=>JM K mp mx m7 H':=by
 refine Ev.up (t:=λn=>F36 (run G n) n (pv mp) H) ?_ λn=>ZI ..
 obtain⟨nY,se,ref,s,ty,g,hl,hj⟩:=h.num;have L0:au (pv mp) H=some (cv mx):=ak mp 0 H g;have L1:au (.pointer (some ⟨mp,1,none⟩)) H=some s:=ak mp 1 H g;simp only[List.length_nil,Int.natCast_zero] at hl;simp -implicitDefEqProofs only[F36,L1,hl,sS,Nat.reduceAdd];refine Ev.gtr (λhq=>?_) (λhq=>?_)<;>try simp -implicitDefEqProofs only[L0,Nat.add_zero,sS,Nat.reduceAdd]
 ·omega
 refine Ev.lss (λhq=>?_) (λhq=>?_)<;>try simp -implicitDefEqProofs only[sS,Nat.reduceAdd]
 ·omega
 refine Ev.call afR ?_;rintro v H' ⟨rfl,rfl⟩;simp -implicitDefEqProofs only[Gv,sS,Nat.reduceAdd];have hjn:JM K mp mx [] (H'.new ⟨[cv 57],2,1,false⟩):=h.ext ((Ext.refl _).new _);refine Ev.call (GA 0 (q:=aB) (lq:=[]) (.inl ⟨rfl,rfl⟩) (oR [57] 2) rfl (by simp)) ?_
 rintro w H2 ⟨x2,uH,yb⟩;have jJ:=hjn.ext x2;have dH:=hjn.lt;refine Ev.call (Nb jJ uH (by simp) (by simp;omega) λ_ a n c e=>by have:=yb a n c e;omega) ?_
 rintro v H3 ⟨rfl,lu⟩;refine Ev.call (f:=64) (args:=[]) (H:=H3) (Q1:=λw H'=>w= .slice (some ⟨H3.length,0,none⟩) 1 1∧H'=H3.new ⟨[cv 0],2,1,false⟩) ?_ ?_
 ·refine Ev.up (t:=λn=>F64 (run G n) n H3) ?_ λn=>KF ..
  simp -implicitDefEqProofs only[F64,Gv,sS,Nat.reduceAdd];exact Ev.ret ⟨rfl,rfl⟩
 rintro w H4 ⟨rfl,rfl⟩;have sN:JM K mp mx _ (H3.new ⟨[cv 0],2,1,false⟩):=lu.ext ((Ext.refl _).new _);have ahS:=lu.lt;refine Ev.call (Nb sN (oR [0] 2) (by simp) (by simp;omega) λ_ a n c e=>by cases e;simp;omega) ?_
 rintro v H5 ⟨rfl,sT⟩
 try simp -implicitDefEqProofs only[sS,Nat.reduceAdd]
 exact Ev.ret sT
theorem YS (h:JM K mp mx cs H){a:Int}{j:Nat}(ha:a=(j:Int)+1)(hj:j<cs.length):bN (run G) 93 [pv mp,cv a] H λv H'=>v=cv (cs.getD j 0)∧H'=H:=by
 refine Ev.up (t:=λk=>F93 (run G k) k (pv mp) (cv a) H) ?_ λk=>RM ..
 have adb:=h.UI;obtain⟨hK,o,⟨nY,se,ref,s,ty,g,ho,hs,XI⟩,hk⟩:=h;have L1:au (.pointer (some ⟨mp,1,none⟩)) H=some s:=ak mp 1 H g;obtain⟨q,off,b,e1,e2,e3⟩:=hs.ints.1.idx hj;have L2:au (.pointer (some ⟨q,off,none⟩)) H=some (cv (cs.getD j 0)):=(ak q off H e2).trans e3;have hw:IntKind.i64.wrap (a-1)=(j:Int):=by rw[jE (by omega)];omega
 simp -implicitDefEqProofs only[F93,sS,Nat.reduceAdd];refine Ev.lss (λhq=>?_) (λhq=>?_)<;>try simp -implicitDefEqProofs only[L1,hs.ints.1.len,sS,Nat.reduceAdd]
 ·omega
 refine Ev.gtr (λhq=>?_) (λhq=>?_)<;>try simp -implicitDefEqProofs only[L1,hw,e1,L2,sS,Nat.reduceAdd]
 ·omega
 exact Ev.ret ⟨rfl,rfl⟩
theorem Nc (h:JM K mp mx m7 H):bN (run G) 67 [pv mp,cv 6] H λv H'=>v=cv 57∧H'=H:=by
 refine Ev.up (t:=λk=>F67 (run G k) k (pv mp) (cv 6) H) ?_ λk=>aax ..
 simp -implicitDefEqProofs only[F67,sS,Nat.reduceAdd];refine Ev.call (YS h (j:=5) (by decide) (by decide)) ?_
 rintro v H' ⟨rfl,rfl⟩;refine Ev.call yX ?_;rintro v H' ⟨rfl,rfl⟩
 try simp -implicitDefEqProofs only[sS,Nat.reduceAdd]
 refine Ev.neq (λhq=>?_) (λhq=>?_)<;>try simp -implicitDefEqProofs only[sS,Nat.reduceAdd]
 ·exact Ev.ret ⟨rfl,rfl⟩
 ·omega
def Bs (H:ae)(q n:Nat):Prop:=∃cells ty,H.get q=some ⟨cells,ty,1,false⟩∧cells.length=n∧∀j,j<n→∃b,cells[j]? =some (.bool b)
theorem Bs.idx {q:Nat}(h:Bs H q n){j:Nat}(hj:j<n):(∀H',bP 1 (.slice (some ⟨q,0,none⟩) n n) (cv j) H'=some (.pointer (some ⟨q,j,none⟩),H'))∧(∃b,au (.pointer (some ⟨q,j,none⟩)) H=some (.bool b))∧∀b:Bool,∃H',bS 1 (.pointer (some ⟨q,j,none⟩)) (.bool b) H=some (undef,H')∧Bs H' q n∧(∀k,k≠q→H'[k]? =H[k]?)∧H'.length=H.length:=by
 obtain⟨cells,ty,g,hl,hc⟩:=h;refine⟨λH'=>?_,?_,λb=>⟨_,jA q j (.bool b) H g rfl (by simp;omega) rfl rfl rfl,⟨cells.set j (.bool b),ty,aH g,by simpa using hl,λk hk=>?_⟩,λk hk=>cU hk,iw _ _ _⟩⟩
 ·simp only[bP];rw[if_pos (by constructor<;>omega)];simp
 ·obtain⟨b,e⟩:=hc j hj;exact⟨b,(ak q j H g).trans e⟩
 ·by_cases e:j=k
  ·subst e;exact⟨b,by rw[List.getElem?_set_self (by omega)]⟩
  ·rw[List.getElem?_set_ne e];exact hc k hk
theorem T9 (h:JM K mp mx m7 H){q:Nat}(hb:Bs H q 8):bN (run G) 120 [pv mp,cv 7,cv 1,.slice (some ⟨q,0,none⟩) 8 8] H λv H'=>(∃b,v= .bool b)∧(∀k,k≠q→H'[k]? =H[k]?)∧H'.length=H.length:=by
 refine Ev.up (t:=λk=>aaY (run G k) k (pv mp) (cv 7) (cv 1) (.slice (some ⟨q,0,none⟩) 8 8) H) ?_ λk=>V1 ..
 obtain⟨nY,se,ref,s,ty,g,hl,hj⟩:=h.num;have L1:au (.pointer (some ⟨mp,1,none⟩)) H=some s:=ak mp 1 H g;have hl7:cq s=some (cv 7):=hl;have w1:IntKind.i64.wrap (7+1)=8:=by decide
 have w2:IntKind.i64.wrap (8-1)=7:=by decide
 obtain⟨b1,⟨bb,b2⟩,b3⟩:=hb.idx (j:=7) (by omega)
 obtain⟨H2,s2,yb,Ur,hn2⟩:=b3 true;have b1': ∀H',bP 1 (.slice (some ⟨q,0,none⟩) 8 8) (cv 7) H'=some (.pointer (some ⟨q,7,none⟩),H'):=b1;simp -implicitDefEqProofs only[aaY,sS,Nat.reduceAdd];refine Ev.lss (λhq=>?_) (λhq=>?_)<;>try simp -implicitDefEqProofs only[L1,hl7,w1,w2,sS,Nat.reduceAdd]
 ·omega
 refine Ev.gtr (λhq=>?_) (λhq=>?_)<;>try simp -implicitDefEqProofs only[sS,Nat.reduceAdd]
 ·omega
 refine Ev.loop (k:=1) (λkk vs Hx=>∃(a:Int) (bU cy bW:Value),vs=[pv mp,cv 7,cv 1,.slice (some ⟨q,0,none⟩) 8 8,.bool false,bU,cv a,cy,bW]∧(∀k,k≠q→Hx[k]? =H[k]?)∧Hx.length=H.length∧Bs Hx q 8∧a+kk=8∧0≤a)
  (λr=>(∀k,k≠q→r.2.2[k]? =H[k]?)∧r.2.2.length=H.length∧∃(x8 bU x9 cy bW:Value),r.2.1=[pv mp,cv 7,cv 1,.slice (some ⟨q,0,none⟩) 8 8,x8,bU,x9,cy,bW]∧(r.1= .exit 0∨(r.1= .ret∧∃b,x8= .bool b))) ⟨7,_,_,_,rfl,λk hk=>rfl,rfl,hb,by omega,by omega⟩ ?_ ?_
 ·rintro kk vs Hx ⟨a,bU,cy,bW,rfl,hx,hn,hbx,ha,ha0⟩;simp -implicitDefEqProofs only[OF,AO,w1,sS,Nat.reduceAdd];refine Ev.lss (λhq=>?_) (λhq=>?_)<;>try simp -implicitDefEqProofs only[sS,Nat.reduceAdd]
  ·obtain⟨j,rfl⟩: ∃j:Nat,a=j:=⟨a.toNat,by omega⟩
   obtain⟨c1,⟨cb,c2⟩,c3⟩:=hbx.idx (j:=j) (by omega)
   obtain⟨H3,s3,Je,hx3,XJ⟩:=c3 true;have hw:IntKind.i64.wrap ((j:Int)+1)=(j:Int)+1:=jE (by omega)
   simp -implicitDefEqProofs only[c1,c2,sS,Nat.reduceAdd];cases cb<;>simp -implicitDefEqProofs only[c1,s3,hw,sS,Nat.reduceAdd]
   ·exact Ev.ret (.inl ⟨rfl,kk-1,by omega,(j:Int)+1,_,_,_,rfl,λk hk=>by show H3[k]? =_;rw[hx3 k hk,hx k hk],XJ.trans hn,Je,by omega,by omega⟩)
   ·exact Ev.ret (.inr ⟨by simp,hx,hn,_,_,_,_,_,rfl,.inr ⟨rfl,_,rfl⟩⟩)
  ·exact Ev.ret (.inr ⟨by simp,hx,hn,_,_,_,_,_,rfl,.inl rfl⟩)
 ·rintro e vs Hx ⟨hx,hn,x8,bU,x9,cy,bW,rfl,he⟩;rcases he with he|⟨he,b,rfl⟩
  ·simp only at he;subst he;simp -implicitDefEqProofs only[OG,AP,sS,Nat.reduceAdd];exact Ev.ret ⟨⟨_,rfl⟩,hx,hn⟩
  ·simp only at he;subst he;show Ev (λ_=>some (Value.bool b,Hx)) _
   exact Ev.ret ⟨⟨_,rfl⟩,hx,hn⟩
end
section
variable {G:ag} {H H':ae} {o o':an} {p m c mp f xp:Nat} {K:ae→an→Prop} {q:Int} {x:Value} {l:PL} {n i:Nat} {cs:List Int} {mx:Int} {th:wR} {L:List iH} {N M:Nat}
theorem Ext.at {q:Nat}{H0:ae}(hq:q=H0.length){Hx:ae}{b:eY}(h1: ∀k,k≠q→Hx[k]? =(H0.new b)[k]?)(h2:Hx.length=(H0.new b).length):Ext H0 Hx:=
 ⟨λj hj=>by rw[h1 j (by omega),dh hj],by rw[h2,bh];omega⟩
theorem Ua (h:JM K mp mx m7 H):bN (run G) 65 [pv mp] H λv H'=>(∃b,v= .bool b)∧Ext H H':=by
 refine Ev.up (t:=λk=>F65 (run G k) k (pv mp) H) ?_ λk=>aai ..
 obtain⟨hK,o,⟨nY,se,ref,s,ty,g,ho,hs,XI⟩,hk⟩:=id h;have L1:au (.pointer (some ⟨mp,1,none⟩)) H=some s:=ak mp 1 H g;have hl7:cq s=some (cv 7):=hs.ints.1.len;obtain⟨q0,adp,b0,a1,a2,a3⟩:=hs.ints.1.idx (j:=0) (by decide)
 obtain⟨q2,qG,b2,c1,c2,c3⟩:=hs.ints.1.idx (j:=2) (by decide)
 have A:au (.pointer (some ⟨q0,adp,none⟩)) H=some (cv 1):=(ak q0 adp H a2).trans a3;have C:au (.pointer (some ⟨q2,qG,none⟩)) H=some (cv 0):=(ak q2 qG H c2).trans c3;have a1': ∀H',bP 1 s (cv 0) H'=some (.pointer (some ⟨q0,adp,none⟩),H'):=a1;have c1': ∀H',bP 1 s (cv 2) H'=some (.pointer (some ⟨q2,qG,none⟩),H'):=c1;have w8:IntKind.i64.wrap (7+1)=8:=by decide
 have hmk:Zq 4 1 1 [.bool false] (cv 8) (cv 8) H=some (.slice (some ⟨H.length,0,none⟩) 8 8,H.new ⟨ct [.bool false] 8,4,1,false⟩):=rfl;have hB:Bs (H.new ⟨ct [.bool false] 8,4,1,false⟩) H.length 8:=⟨ct [.bool false] 8,_,az,rfl,λj hj=>⟨false,by
  have:ct [Value.bool false] 8=List.replicate 8 (.bool false):=rfl;rw[this,List.getElem?_replicate,if_pos hj]⟩⟩
 simp -implicitDefEqProofs only[F65,L1,hl7,sS,Nat.reduceAdd];refine Ev.lss (λhq=>?_) (λhq=>?_)<;>try simp -implicitDefEqProofs only[L1,a1',A,sS,Nat.reduceAdd]
 ·omega
 refine Ev.neq (λhq=>?_) (λhq=>?_)<;>try simp -implicitDefEqProofs only[L1,c1',C,sS,Nat.reduceAdd]
 ·exact Ev.ret ⟨⟨_,rfl⟩,.refl _⟩
 refine Ev.neq (λhq=>?_) (λhq=>?_)<;>try simp -implicitDefEqProofs only[L1,hl7,w8,hmk,sS,Nat.reduceAdd]
 ·exact Ev.ret ⟨⟨_,rfl⟩,.refl _⟩
 refine Ev.loop (k:=6) (λkk vs Hx=>∃(j:Nat) (x2 cC dK:Value),vs=[pv mp,x2,cC,cv j,dK,.slice (some ⟨H.length,0,none⟩) 8 8]∧(∀k,k≠H.length→Hx[k]? =(H.new ⟨ct [.bool false] 8,4,1,false⟩)[k]?)∧Hx.length=(H.new ⟨ct [.bool false] 8,4,1,false⟩).length∧Bs Hx H.length 8∧j+kk=7)
  (λr=>r.1= .exit 0∧∃(x2 cC x4 dK:Value),r.2.1=[pv mp,x2,cC,x4,dK,.slice (some ⟨H.length,0,none⟩) 8 8]∧(∀k,k≠H.length→r.2.2[k]? =(H.new ⟨ct [.bool false] 8,4,1,false⟩)[k]?)∧r.2.2.length=(H.new ⟨ct [.bool false] 8,4,1,false⟩).length∧Bs r.2.2 H.length 8) ⟨1,_,_,_,rfl,λk hk=>rfl,rfl,hB,rfl⟩ ?_ ?_
 ·rintro kk vs Hx ⟨j,x2,cC,dK,rfl,hx,hn,hb,hj⟩;have hw:IntKind.i64.wrap ((j:Int)+1)=((j+1:Nat):Int):=by rw[jE (by omega)];omega
  simp -implicitDefEqProofs only[RJ,Ft,sS,Nat.reduceAdd];refine Ev.leq (λhq=>?_) (λhq=>?_)<;>try simp -implicitDefEqProofs only[sS,Nat.reduceAdd]
  ·obtain⟨d1,_,d3⟩:=hb.idx (j:=j) (by omega)
   obtain⟨H3,s3,Je,hx3,XJ⟩:=d3 true;simp -implicitDefEqProofs only[d1,s3,hw,sS,Nat.reduceAdd];exact Ev.ret (.inl ⟨rfl,kk-1,by omega,j+1,_,_,_,rfl,λk hk=>by show H3[k]? =_;rw[hx3 k hk,hx k hk],XJ.trans hn,Je,by omega⟩)
  ·exact Ev.ret (.inr ⟨by simp,rfl,_,_,_,_,rfl,hx,hn,hb⟩)
 ·rintro e vs Hx ⟨he,x2,cC,x4,dK,rfl,hx,hn,hb⟩;simp only at he hx hn hb;subst he;have ex:Ext H Hx:=Ext.at rfl hx hn;have Dg:=h.ext ex;simp -implicitDefEqProofs only[RL,Fu,sS,Nat.reduceAdd];refine Ev.call (Q1:=λv H'=>(∃b,v= .bool b)∧Ext H H') ?_ ?_
  ·refine Ev.up (t:=λk=>F90 (run G k) k (pv mp) (cv 6) (cv (-9223372036854775808)) (cv 9223372036854775807) (.slice (some ⟨H.length,0,none⟩) 8 8) Hx) ?_ λk=>abj ..
   simp -implicitDefEqProofs only[F90,sS,Nat.reduceAdd];refine Ev.call (YS Dg (j:=5) (by decide) (by decide)) ?_
   rintro v H' ⟨rfl,rfl⟩;refine Ev.call yX ?_;rintro v H' ⟨rfl,rfl⟩
   try simp -implicitDefEqProofs only[sS,Nat.reduceAdd]
   refine Ev.eql (λhq=>?_) (λhq=>?_)<;>try simp -implicitDefEqProofs only[F90,Sk,FU,sS,Nat.reduceAdd]
   ·omega
   refine Ev.call (Nc Dg) ?_;rintro v H' ⟨rfl,rfl⟩;refine Ev.call (Q1:=λv H'=>(∃b,v= .bool b)∧Ext H H') ?_ ?_
   ·refine Ev.up (t:=λk=>acg (run G k) k (pv mp) (cv 57) (cv (-9223372036854775808)) (cv 9223372036854775807) (.slice (some ⟨H.length,0,none⟩) 8 8) H') ?_ λk=>WK ..
    simp -implicitDefEqProofs only[acg,sS,Nat.reduceAdd];refine Ev.call YR ?_;rintro v H2 ⟨rfl,rfl⟩;refine Ev.call yX ?_;rintro v H2 ⟨rfl,rfl⟩
    try simp -implicitDefEqProofs only[sS,Nat.reduceAdd]
    refine Ev.eql (λhq=>?_) (λhq=>?_)<;>try simp -implicitDefEqProofs only[sS,Nat.reduceAdd]
    rotate_left
    ·omega
    refine Ev.call (T9 Dg hb) ?_;rintro v H3 ⟨⟨b,rfl⟩,hx3,XJ⟩
    try simp -implicitDefEqProofs only[sS,Nat.reduceAdd]
    exact Ev.ret ⟨⟨_,rfl⟩,Ext.at rfl (λk hk=>by show H3[k]? =_;rw[hx3 k hk];exact hx k hk) (XJ.trans hn)⟩
   rintro v H2 ⟨⟨b,rfl⟩,ex2⟩
   try simp -implicitDefEqProofs only[sS,Nat.reduceAdd]
   exact Ev.ret ⟨⟨_,rfl⟩,ex2⟩
  rintro v H2 ⟨⟨b,rfl⟩,ex2⟩
  try simp -implicitDefEqProofs only[sS,Nat.reduceAdd]
  exact Ev.ret ⟨⟨_,rfl⟩,ex2⟩
theorem P3:bN (run G) 66 [pv mp,cv 57] H λv H'=>v=aB∧H'=H:=by
 refine Ev.up (t:=λk=>F66 (run G k) k (pv mp) (cv 57) H) ?_ λk=>abZ ..
 simp -implicitDefEqProofs only[F66,sS,Nat.reduceAdd];refine Ev.call YR ?_;rintro v H' ⟨rfl,rfl⟩;refine Ev.call yX ?_;rintro v H' ⟨rfl,rfl⟩
 try simp -implicitDefEqProofs only[sS,Nat.reduceAdd]
 refine Ev.eql (λhq=>?_) (λhq=>?_)<;>try simp -implicitDefEqProofs only[sS,Nat.reduceAdd]
 ·omega
 refine Ev.eql (λhq=>?_) (λhq=>?_)<;>try simp -implicitDefEqProofs only[sS,Nat.reduceAdd]
 ·omega
 refine Ev.eql (λhq=>?_) (λhq=>?_)<;>try simp -implicitDefEqProofs only[F66,SD,Ga,sS,Nat.reduceAdd]
 ·omega
 exact Ev.ret ⟨rfl,rfl⟩
theorem Ub (h:JM K mp mx m7 H):bN (run G) 39 [pv mp] H λv H'=>v=aB∧Ext H H':=by
 refine Ev.up (t:=λk=>F39 (run G k) k (pv mp) H) ?_ λk=>aad ..
 simp -implicitDefEqProofs only[F39,sS,Nat.reduceAdd];refine Ev.call (Ua h) ?_;rintro v H1 ⟨⟨b,rfl⟩,ex⟩;have h1:=h.ext ex;cases b<;>simp -implicitDefEqProofs only[sS,Nat.reduceAdd]
 ·exact Ev.ret ⟨rfl,ex⟩
 refine Ev.call (Nc h1) ?_;rintro v H2 ⟨rfl,rfl⟩;refine Ev.call P3 ?_;rintro v H2 ⟨rfl,rfl⟩
 try simp -implicitDefEqProofs only[sS,Nat.reduceAdd]
 exact Ev.ret ⟨rfl,ex⟩
theorem YT:bN (run G) 38 [aB] H λv H'=>v= .bool true∧H'=H:=by
 refine Ev.up (t:=λk=>F38 (run G k) k aB H) ?_ λk=>abd ..
 simp -implicitDefEqProofs only[F38,sS,Nat.reduceAdd];refine Ev.call (Q1:=λv H'=>v= .bool true∧H'=H) ?_ ?_
 ·refine Ev.up (t:=λk=>F32 (run G k) k aB H) ?_ λk=>JP ..
  simp -implicitDefEqProofs only[F32,sS,Nat.reduceAdd];refine Ev.loop (k:=0) (λkk vs Hx=>∃x7 bq:Value,vs=[aB,.bool false,cv 1,x7,bq]∧Hx=H) (λr=>r.1= .exit 0∧r.2.2=H∧∃x2 x3 x7 bq:Value,r.2.1=[aB,x2,x3,x7,bq]) ⟨_,_,rfl,rfl⟩ ?_ ?_
  ·rintro kk vs Hx ⟨x7,bq,rfl,rfl⟩;simp -implicitDefEqProofs only[qS,po,cq,sS,Nat.reduceAdd];refine Ev.lss (λhq=>?_) (λhq=>?_)<;>try simp -implicitDefEqProofs only[sS,Nat.reduceAdd]
   ·simp at hq
   ·exact Ev.ret (.inr ⟨by simp,rfl,rfl,_,_,_,_,rfl⟩)
  ·rintro e vs Hx ⟨he,hx,x2,x3,x7,bq,rfl⟩;simp only at he hx;subst he hx;simp -implicitDefEqProofs only[HH,yB,sS,Nat.reduceAdd];exact Ev.ret ⟨rfl,rfl⟩
 rintro v H2 ⟨rfl,rfl⟩;simp -implicitDefEqProofs only[cq,sS,Nat.reduceAdd];refine Ev.leq (λhq=>?_) (λhq=>?_)<;>try simp -implicitDefEqProofs only[sS,Nat.reduceAdd]
 ·exact Ev.ret ⟨rfl,rfl⟩
 ·simp at hq
theorem XS (h:JM K mp mx m7 H)(XI:150≤mx):bN (run G) 40 [pv mp,aB] H λv H'=>∃z dg,v= .tuple #[cv z,.bool true]∧JM K mp mx dg H':=by
 refine Ev.up (t:=λk=>F40 (run G k) k (pv mp) aB H) ?_ λk=>aaL ..
 obtain⟨nY,se,ref,s,ty,g,hl,hj⟩:=h.num;have adb:=h.UI;obtain⟨_,_,⟨_,_,_,_,_,_,_,hs,ait⟩,_⟩:=id h;have L0:au (pv mp) H=some (cv mx):=ak mp 0 H g;have L1:au (.pointer (some ⟨mp,1,none⟩)) H=some s:=ak mp 1 H g;have hl7:cq s=some (cv 7):=hl;have DC:jd s s=true:=by
  cases s<;>simp[cq] at hl;exact jX ..
 have w1:IntKind.i64.wrap (mx-7)=mx-7:=jE (by omega)
 simp -implicitDefEqProofs only[F40,sS,Nat.reduceAdd];refine Ev.call YT ?_;rintro v H2 ⟨rfl,rfl⟩;have Uo:cq aB=some (cv (0:Nat)):=rfl;simp -implicitDefEqProofs only[Uo,sS,Nat.reduceAdd];refine Ev.call (Q1:=λv H'=>v=cv 1∧H'=H2) ?_ ?_
 ·refine Ev.up (t:=λk=>F68 (run G k) k (cv (0:Nat)) H2) ?_ λk=>aby ..
  simp -implicitDefEqProofs only[F68,sS,Nat.reduceAdd];refine Ev.lss (λhq=>?_) (λhq=>?_)<;>try simp -implicitDefEqProofs only[sS,Nat.reduceAdd]
  ·omega
  refine Ev.gtr (λhq=>?_) (λhq=>?_)<;>try simp -implicitDefEqProofs only[sS,Nat.reduceAdd]
  ·omega
  refine Ev.lss (λhq=>?_) (λhq=>?_)<;>try simp -implicitDefEqProofs only[sS,Nat.reduceAdd]
  ·exact Ev.ret ⟨congrArg cv (by decide),rfl⟩
  ·omega
 rintro v H3 ⟨rfl,rfl⟩;simp -implicitDefEqProofs only[L0,L1,hl7,w1,DC,Nat.add_zero,sS,Nat.reduceAdd];refine Ev.gtr (λhq=>?_) (λhq=>?_)<;>try simp -implicitDefEqProofs only[L0,L1,DC,sS,Nat.reduceAdd]
 ·omega
 refine Ev.call (Q1:=λv H'=>∃z dg,v=cv z∧JM K mp mx dg H') ?_ ?_
 ·refine Ev.up (t:=λk=>F69 (run G k) k (pv mp) aB H3) ?_ λk=>aaS ..
  simp -implicitDefEqProofs only[F69,cq,sS,Nat.reduceAdd];refine Ev.eql (λhq=>?_) (λhq=>?_)<;>try simp -implicitDefEqProofs only[sS,Nat.reduceAdd]
  rotate_left
  ·simp at hq
  refine Ev.call (f:=64) (args:=[]) (H:=H3) (Q1:=λw H'=>w= .slice (some ⟨H3.length,0,none⟩) 1 1∧H'=H3.new ⟨[cv 0],2,1,false⟩) ?_ ?_
  ·refine Ev.up (t:=λn=>F64 (run G n) n H3) ?_ λn=>KF ..
   simp -implicitDefEqProofs only[F64,Gv,sS,Nat.reduceAdd];exact Ev.ret ⟨rfl,rfl⟩
  rintro w H4 ⟨rfl,rfl⟩;have sN:JM K mp mx _ (H3.new ⟨[cv 0],2,1,false⟩):=h.ext ((Ext.refl _).new _);have ahS:=h.lt;refine Ev.call (M8 sN (oR [0] 2) λ_ a n c e=>by cases e;simp;omega) ?_
  rintro v H5 ⟨z,b,dg,rfl,sT⟩;simp -implicitDefEqProofs only[sS,Nat.reduceAdd];refine Ev.aG (iJ _ _) λz2=>?_
  try simp -implicitDefEqProofs only[sS,Nat.reduceAdd]
  exact Ev.ret ⟨_,_,rfl,sT⟩
 rintro v H4 ⟨z,dg,rfl,sN⟩
 try simp -implicitDefEqProofs only[sS,Nat.reduceAdd]
 exact Ev.ret ⟨_,_,rfl,sN⟩
theorem WR.mem {mx:Int}{cs:List Int}(h:WR H o xp mp th L)(f:Fr H o H' o' [-70, -71])(hm:vI H' o' mp mx cs):WR H' o' xp mp th L:=by
 obtain⟨_,_,_,_,_,_,_,_,_,_,_,_,_,_,_,_,_,_,qu,_⟩:=id h;have hw:=h.PX (i:=0) (s':=th 0) (by omega) (f.wk (by simp)) ((qu 0 (by omega)).fr f (by simp) (by simp) (by simp) (by simp)) rfl ⟨mx,cs,hm⟩
 have e:Fun.tT th 0 (th 0)=th:=by
  funext j
  unfold Fun.tT;split
  ·rename_i e;rw[e]
  ·rfl
 rw[e] at hw;exact hw
theorem adq (h:WR H o xp mp th L):bN (run G) 37 [pv xp] H λv H'=>(∃b,v= .bool b)∧H'=H:=by
 refine Ev.up (t:=λk=>F37 (run G k) k (pv xp) H) ?_ λk=>aac ..
 obtain⟨tb,cap,inv,fy,e3,e4,e6,e7,eT,_⟩:=h.ql;simp -implicitDefEqProofs only[F37,sS,Nat.reduceAdd];refine Ev.loop (k:=3) (λkk vs Hx=>∃(j:Nat) (aK bJ:Value),vs=[pv xp,.bool false,cv j,aK,bJ]∧Hx=H∧j+kk=3)
  (λr=>r.2.2=H∧∃(x2 x3 aK bJ:Value),r.2.1=[pv xp,x2,x3,aK,bJ]∧(r.1= .exit 0∨(r.1= .ret∧∃b,x2= .bool b))) ⟨0,_,_,rfl,rfl,rfl⟩ ?_ ?_
 ·rintro kk vs Hx ⟨j,aK,bJ,rfl,rfl,hj⟩;have hw:IntKind.i64.wrap ((j:Int)+1)=((j+1:Nat):Int):=by rw[jE (by omega)];omega
  simp -implicitDefEqProofs only[RC,Fp,e4,cq,sS,Nat.reduceAdd];refine Ev.lss (λhq=>?_) (λhq=>?_)<;>try simp -implicitDefEqProofs only[sS,Nat.reduceAdd]
  ·have lu:j<3:=by omega
   obtain⟨eT1,eT2⟩:=eT j lu;obtain⟨no,b1,b7,b8⟩:=h.thr lu;simp -implicitDefEqProofs only[e4,eT1,eT2,b1,sS,Nat.reduceAdd];cases(th j).busy<;>simp -implicitDefEqProofs only[hw,sS,Nat.reduceAdd]
   ·exact Ev.ret (.inl ⟨rfl,kk-1,by omega,j+1,_,_,rfl,rfl,by omega⟩)
   ·exact Ev.ret (.inr ⟨by simp,rfl,_,_,_,_,rfl,.inr ⟨rfl,_,rfl⟩⟩)
  ·exact Ev.ret (.inr ⟨by simp,rfl,_,_,_,_,rfl,.inl rfl⟩)
 ·rintro e vs Hx ⟨hx,x2,x3,aK,bJ,rfl,he⟩;simp only at hx;subst hx;rcases he with he|⟨he,b,rfl⟩
  ·simp only at he;subst he;simp -implicitDefEqProofs only[RE,Fq,sS,Nat.reduceAdd];exact Ev.ret ⟨⟨_,rfl⟩,rfl⟩
  ·simp only at he;subst he;show Ev (λ_=>some (Value.bool b,Hx)) _
   exact Ev.ret ⟨⟨_,rfl⟩,rfl⟩
theorem ahT (pick:Int)(a:Option Addr)(m c:Nat):aI Tryz.prog 47 [(0,cv 4),(4,.agg #[cv 0,.bool false,cv 0,cv 0,cv 0,.slice a m c]),(5,cv pick)]=some (yT ⟨4,0,0,⟨0,0,0⟩,⟨0,false,0,0,0,[]⟩,pick⟩ (.slice a m c)):=by kernel_rfl
theorem afS (H:ae):aw Tryz.prog 43 0 [] H=some (.slice (some ⟨H.length,0,none⟩) 0 0,H.new ⟨[],42,2,false⟩):=by kernel_rfl
theorem adr (h:WR H o xp mp th L){mx:Int}(hm:vI H o mp mx m7)(XI:150≤mx)(hI:Inv th L N M)(hN:N<4000000):bN (run G) 18 [pv xp,aB] H λv H'=>∃o' L',Fr H o H' o' wt∧WR H' o' xp mp th L'∧Inv th L' (N+1) M:=by
 refine Ev.up (t:=λk=>F18 (run G k) k (pv xp) aB H) ?_ λk=>aaI ..
 have IN:Inv th L (N+1) M:=⟨by have:=hI.len;omega,hI.lists,hI.tape⟩
 simp -implicitDefEqProofs only[F18,sS,Nat.reduceAdd];refine Ev.call (adq h) ?_;rintro v H1 ⟨⟨b,rfl⟩,rfl⟩;cases b<;>simp -implicitDefEqProofs only[sS,Nat.reduceAdd]
 ·exact Ev.ret ⟨o,L,Fr.refl _ _ _,h,IN⟩
 refine Ev.call YT ?_;rintro v H2 ⟨rfl,rfl⟩;obtain⟨tb,cap,inv,fy,e3,e4,e6,e7,eT,_⟩:=h.ql;simp -implicitDefEqProofs only[e3,sS,Nat.reduceAdd];have Jf:JM (λH' o'=>Fr H2 o H' o' [-70, -71]) mp mx m7 H2:=⟨cW.base (by simp),o,hm,Fr.refl _ _ _⟩
 refine Ev.call (Ub Jf) ?_;rintro v H3 ⟨rfl,ex3⟩;have lu:=Jf.ext ex3;have Uo:cq aB=some (cv (0:Nat)):=rfl;simp -implicitDefEqProofs only[Uo,sS,Nat.reduceAdd];have back: ∀{Hx:ae} {cs:List Int},JM (λH' o'=>Fr H2 o H' o' [-70, -71]) mp mx cs Hx→∃ox,WR Hx ox xp mp th L∧Fr H2 o Hx ox [-70, -71]:=λhj=>by
  obtain⟨_,ox,hm,hf⟩:=hj;exact⟨ox,h.mem hf hm,hf⟩
 have ld3: ∀{Hx:ae} {cs:List Int},JM (λH' o'=>Fr H2 o H' o' [-70, -71]) mp mx cs Hx→au (.pointer (some ⟨xp,3,none⟩)) Hx=some (pv mp):=λhj=>by
  obtain⟨ox,hw,_⟩:=back hj;obtain⟨_,_,_,_,e,_⟩:=hw.ql;exact e
 refine Ev.gtr (λhq=>?_) (λhq=>?_)<;>try simp -implicitDefEqProofs only[ld3 lu,sS,Nat.reduceAdd]
 ·simp at hq
 refine Ev.call (XS lu XI) ?_;rintro v H4 ⟨z,dg,rfl,sN⟩;simp -implicitDefEqProofs only[ld3 sN,sS,Nat.reduceAdd];refine Ev.call (IK sN 6 z) ?_;rintro v H5 ⟨aiu,sT,_⟩;obtain⟨o5,h5,f5⟩:=back sT;obtain⟨H6,II⟩: ∃t,t=H5.new ⟨[],42,2,false⟩:=⟨_,rfl⟩;have b0:=afS H5;rw[←II] at b0;have f6:Fr H5 o5 H6 (o5.up H5.length (-41)) []:=by rw[II];exact(Fr.refl _ _ _).new _ _
 have h6:=h5.GN f6 (by simp)
 obtain⟨tb6,aiv,aiw,Uc,i3,i4,i6,i7,iT,_⟩:=h6.ql;have ap:cd 42 2 16 (.slice (some ⟨H5.length,0,none⟩) 0 0) aB H6=some (.slice (some ⟨H5.length,0,none⟩) 0 0,H6):=by simp[cd,bp]
 have hl:=hI.len;obtain⟨Lx,q1,q2,q3,x',H7,H8,o8,q4,q5,h8,f8⟩:=h6.app ⟨4,0,0,⟨0,0,0⟩,⟨0,false,0,0,0,[]⟩,Uc⟩ (s:=.slice (some ⟨H5.length,0,none⟩) 0 0) (.inr (.inl ⟨_,_,rfl,rfl⟩)) (by omega)
 obtain⟨c0,c1,c2,ahU,wS,mx5,tb5,ahV,cs5,Lx5,ah4,ty5,aix,g5,_⟩:=id h5;have p5:au (.pointer (some ⟨xp,5,none⟩)) H5=some Lx5:=ak xp 5 H5 g5;have g6:H6.get xp=some ⟨[cv c0,cv c1,cv c2,pv mp,.slice (some ⟨tb5,0,none⟩) 3 ahV,Lx5,cv ahU,cv wS],ty5,1,false⟩:=by rw[f6.same xp (aq g5) (by simp)];exact g5
 have p6:au (.pointer (some ⟨xp,5,none⟩)) H6=some Lx5:=ak xp 5 H6 g6;have eL:Lx5=Lx:=by rw[p6] at q1;simpa using q1
 subst eL;have p7:au (.pointer (some ⟨xp,7,none⟩)) H5=some (cv wS):=ak xp 7 H5 g5;have p67:au (.pointer (some ⟨xp,7,none⟩)) H6=some (cv wS):=ak xp 7 H6 g6;have eP:wS=Uc:=by rw[p67] at i7;simpa using i7
 subst eP;simp -implicitDefEqProofs only[p5,p6,p7,p67,b0,ap,Xe,ahT,TZ _ rfl,q2,q4,q5,q3,LJ,sS,Nat.reduceAdd];refine Ev.ret ⟨o8,L++[⟨4,0,0,⟨0,0,0⟩,⟨0,false,0,0,0,[]⟩,wS⟩],((f5.trans f6 (rs:=wt) (by simp) (by simp)).trans f8 (λ_ h=>h) (by simp)),h8,⟨?_,?_,hI.tape⟩⟩
 ·simp only[List.length_append,List.length_singleton];omega
 ·intro e he;rcases List.mem_append.1 he with he|he
  ·exact hI.lists e he
  ·have:e=⟨4,0,0,⟨0,0,0⟩,⟨0,false,0,0,0,[]⟩,wS⟩:=by simpa using he
   subst this;simp
end
end Go.Proofs.YtjgmnoaalbbonaaGreat.Fun
end
