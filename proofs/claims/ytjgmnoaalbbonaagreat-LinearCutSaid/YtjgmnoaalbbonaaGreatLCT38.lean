/- Texts of the proof of linearCut_holds, put together by a small program of ours (names shortened, spaces taken out). No condition beyond the given statement. -/
import Derived.Test.YtjgmnoaalbbonaaGreatLCT15
import Derived.Test.YtjgmnoaalbbonaaGreatLCT16
import Derived.Test.YtjgmnoaalbbonaaGreatLCT17
import Derived.Test.YtjgmnoaalbbonaaGreatLCT18
import Derived.Test.YtjgmnoaalbbonaaGreatLCT19
import Derived.Test.YtjgmnoaalbbonaaGreatLCT21
import Derived.Test.YtjgmnoaalbbonaaGreatLCT22
import Derived.Test.YtjgmnoaalbbonaaGreatLCT37
import Derived.Test.YtjgmnoaalbbonaaGreatLCT20
set_option linter.unusedVariables false
set_option linter.unusedSimpArgs false
set_option linter.unnecessarySimpa false
noncomputable section
section
namespace Go.Proofs.YtjgmnoaalbbonaaGreat.Fun
open Go Go.RowKit Go.Proofs.YtjgmnoaalbbonaaGreatA.Am
set_option maxRecDepth 10000
section
variable {G:ae} {H H':aa} {o o':aj} {p m c mp f xp:Nat} {K:aa→aj→Prop} {q:Int} {x:Value} {l:PL} {n i:Nat} {cs:List Int} {mx:Int}
theorem I1 (h:JM K mp mx cs H){w:Value}{lw:List Int}(hw:iz H w lw)(adx:lw≠[])(ig:(cs.length:Int)+lw.length≤mx)(YA:lw≠[]→∀a n c,w= .slice (some a) n c→a.block≠mp):bA (run G) 61 [pv mp,w] H λv H'=>v= .tuple #[cv ((cs.length:Int)+1),.bool true]∧JM K mp mx (cs++lw) H':=by
 refine Ev.up (t:=λk=>F61 (run G k) k (pv mp) w H) ?_ λk=>NG ..
 obtain⟨mH,qB,ref,s,ty,g,hl,hj⟩:=h.num;obtain⟨H1,e1⟩: ∃z,z=H.put mp ⟨[cv mx,s,cv (IntKind.i64.wrap (mH+1)),cv qB,cv ref],ty,1,false⟩:=⟨_,rfl⟩;have kc:=hj (IntKind.i64.wrap (mH+1)) qB ref;rw[←e1] at kc;have g1:H1.get mp=some ⟨[cv mx,s,cv (IntKind.i64.wrap (mH+1)),cv qB,cv ref],ty,1,false⟩:=by rw[e1];exact aD g
 have L2:aq (.pointer (some ⟨mp,2,none⟩)) H=some (cv mH):=ak mp 2 H g;have S2:=jM mp 2 (IntKind.i64.wrap (mH+1)) H g rfl (by simp)
 simp only[List.set_cons_succ,List.set_cons_zero] at S2;rw[←e1] at S2;have M0:aq (pv mp) H1=some (cv mx):=ak mp 0 H1 g1;have M1:aq (.pointer (some ⟨mp,1,none⟩)) H1=some s:=ak mp 1 H1 g1;have M4:aq (.pointer (some ⟨mp,4,none⟩)) H1=some (cv ref):=ak mp 4 H1 g1;have S4:=jM mp 4 (IntKind.i64.wrap (ref+1)) H1 g1 rfl (by simp)
 simp only[List.set_cons_succ,List.set_cons_zero] at S4;have jb:JM K mp mx cs (H1.put mp ⟨[cv mx,s,cv (IntKind.i64.wrap (mH+1)),cv qB,cv (IntKind.i64.wrap (ref+1))],ty,1,false⟩):=by
  obtain⟨c2,o2,r2,s2,mo,g2,_,jb⟩:=kc.num;rw[g1] at g2;cases g2;exact jb _ _ _
 have FY:iz H1 w lw:=by
  refine hw.keep λi b e dX=>?_
  rw[e1,aS (YA dX b _ _ e)]
 have YB:=h.Qi;obtain⟨hK,o,⟨Hm,zO,zP,s',Co,g',ho,hs,SW⟩,hk⟩:=id kc;rw[g1] at g';obtain⟨rfl,rfl,rfl,rfl,rfl⟩:s'=s∧Hm=IntKind.i64.wrap (mH+1)∧zO=qB∧zP=ref∧Co=ty:=by
  injection g' with g';injection g' with a b c d;injection a with a1 a2;injection a2 with a3 a4;injection a4 with a5 a6;injection a6 with a7 a8;injection a8 with a9 a10;injection a5 with _ a5;injection a7 with _ a7;injection a9 with _ a9;exact⟨a3.symm,a5.symm,a7.symm,a9.symm,b.symm⟩
 simp -implicitDefEqProofs only[F61,L2,S2,hw.len,sS,Nat.reduceAdd];refine Ev.eql (λhq=>?_) (λhq=>?_)<;>try simp -implicitDefEqProofs only[hw.len,M0,M1,M4,S4,hl,sS,Nat.reduceAdd]
 ·exact absurd (List.length_eq_zero_iff.1 (by omega)) adx
 have hw9:IntKind.i64.wrap (mx-cs.length)=mx-cs.length:=kr (by omega)
 simp -implicitDefEqProofs only[hw9,sS,Nat.reduceAdd];refine Ev.gtr (λpT=>?_) (λpT=>?_)<;>try simp -implicitDefEqProofs only[M0,M1,M4,S4,hl,sS,Nat.reduceAdd]
 ·omega
 have hwL:IntKind.i64.wrap ((cs.length:Int)+1)=(cs.length:Int)+1:=kr (by omega)
 obtain⟨x',H2,o2,a2,s2,f2,k2⟩:=lD 2 hs FY (by omega)
 have g2:H2.get mp=some ⟨[cv mx,s',cv (IntKind.i64.wrap (mH+1)),cv zO,cv zP],Co,1,false⟩:=by rw[f2.same mp (an g1) (by rw[ho];simp)];exact g1
 have Ee:o2 mp= -70:=by rw[f2.own mp (an g1)];exact ho
 obtain⟨ba,bc,ex⟩:=s2.isSlice;have S1:=xk mp 1 ba (cs++lw).length bc H2 g2 rfl (by simp)
 rw[←ex] at S1;simp only[List.set_cons_succ,List.set_cons_zero] at S1;simp -implicitDefEqProofs only[hwL,a2,S1,sS,Nat.reduceAdd];have f3:Fr H2 o2 (H2.put mp ⟨[cv mx,x',cv (IntKind.i64.wrap (mH+1)),cv zO,cv zP],Co,1,false⟩) o2 [-70]:=(Fr.refl H2 o2 [-70]).put λ_=>by simp[Ee]
 exact Ev.ret ⟨rfl,hK,o2,⟨_,_,_,x',Co,aD g2,Ee,s2.fr f3 (by simp),by simp;omega,SW.2⟩,hK _ _ _ _ hk (f2.trans f3 (by simp) (by simp))⟩
theorem JM.ext (h:JM K mp mx cs H)(e:Ext H H'):JM K mp mx cs H':=by
 obtain⟨hK,o,hm,hk⟩:=h;have f:Fr H o H' (o.from H.length (-9)) []:=e.fr o (-9)
 exact⟨hK,_,hm.fr f (by simp) (by simp),hK _ _ _ _ hk (f.wk (by simp))⟩
theorem JM.lt (h:JM K mp mx cs H):mp<H.length:=by
 obtain⟨_,o,⟨_,_,_,_,_,g,_⟩,_⟩:=h;exact an g
theorem DK (s:Int){q c:Value}{lq lc:List Int}(hq:iz H q lq)(hc:iz H c lc)(he:lc.length=lq.length+1)(hl:lq.length≤1000):
  bA (run G) 62 [cv s,q,c] H λw H'=>Ext H H'∧iz H' w ([(lc.length:Int),s,0,0,0]++lq++lc)∧∀a n c,w= .slice (some a) n c→H.length≤a.block:=by
 refine Ev.up (t:=λn=>F62 (run G n) n (cv s) q c H) ?_ λn=>OO ..
 have hw:IntKind.i64.wrap ((lq.length:Int)+1)=(lq.length:Int)+1:=kr (by omega)
 simp -implicitDefEqProofs only[F62,hq.len,hc.len,hw,sS,Nat.reduceAdd];refine Ev.neq (λh1=>?_) (λh1=>?_)<;>try simp -implicitDefEqProofs only[hc.len,SJ,sS,Nat.reduceAdd]
 ·omega
 have s1:=qd.new H o0 (-2) 2 [(lc.length:Int),s,0,0,0];have f1:Fr H o0 (H.new ⟨[cv lc.length,cv s,cv 0,cv 0,cv 0],2,1,false⟩) (aj.up o0 H.length (-2)) [-2]:=(Fr.refl H o0 [-2]).new _ _;obtain⟨H1,e1⟩: ∃z,z=H.new ⟨[cv lc.length,cv s,cv 0,cv 0,cv 0],2,1,false⟩:=⟨_,rfl⟩;have keep: ∀{x:Value} {l:List Int} {H2:aa} {o2:aj},iz H x l→Fr H o0 H2 o2 [-2]→iz H2 x l:=λhx f=>hx.keep λi b e dX=>by
  rcases hx with⟨e1,e2⟩|⟨j,off,cc,e1,hb⟩
  ·exact absurd e2 dX
  ·obtain⟨bb,g1,_⟩:=hb dX;rw[e1] at e;cases e;exact f.same j (an g1) (by simp)
 obtain⟨x2,H2,o2,a2,s2,f2,_⟩:=lD (H:=H1) 2 (by rw[e1];exact s1) (keep hq (by rw[e1];exact f1)) (by simp;omega)
 have f12:Fr H o0 H2 o2 [-2]:=by rw[e1] at f2;exact f1.tr f2
 obtain⟨x3,H3,o3,a3,s3,f3,_⟩:=lD 2 s2 (keep hc f12) (by simp;omega)
 have f13:=f12.tr f3;have eH:H.new ⟨[cv lc.length,cv s,cv 0,cv 0,cv 0],2,1,false⟩=H1:=e1.symm;simp -implicitDefEqProofs only[eH,List.length_cons,List.length_nil,sS,Nat.reduceAdd] at a2;simp -implicitDefEqProofs only[eH,a2,a3,sS,Nat.reduceAdd];refine Ev.ret ⟨Ext.of f13 (λi hi=>by simp),s3.ints.1,λa n c e=>?_⟩
 have dX:[(lc.length:Int),s,0,0,0]++lq++lc≠[]:=by simp
 obtain⟨g1,g2⟩:=s3.ints.2 a n c e dX;rcases Nat.lt_or_ge a.block H.length with g|g
 ·have h9:o3 a.block= -1:=f13.own _ g;omega
 ·exact g
theorem abF:bA (run G) 63 [cv 1,cv 7] H λv H'=>v=cv 57∧H'=H:=by
 refine Ev.up (t:=λn=>F63 (run G n) n (cv 1) (cv 7) H) ?_ λn=>Oy ..
 simp -implicitDefEqProofs only[F63,sS,Nat.reduceAdd];refine Ev.lss (λhq=>?_) (λhq=>?_)<;>try simp -implicitDefEqProofs only[sS,Nat.reduceAdd]
 ·omega
 refine Ev.gtr (λhq=>?_) (λhq=>?_)<;>try simp -implicitDefEqProofs only[sS,Nat.reduceAdd]
 ·omega
 refine Ev.lss (λhq=>?_) (λhq=>?_)<;>try simp -implicitDefEqProofs only[sS,Nat.reduceAdd]
 ·omega
 refine Ev.gtr (λhq=>?_) (λhq=>?_)<;>try simp -implicitDefEqProofs only[sS,Nat.reduceAdd]
 ·omega
 exact Ev.ret ⟨(congrArg cv (by decide):cv (IntKind.i64.wrap (IntKind.i64.wrap (8*7)+1))=cv 57),rfl⟩
theorem Fy:bA (run G) 112 [cv 57] H λv H'=>v= .bool true∧H'=H:=by
 refine Ev.up (t:=λn=>OQ (run G n) n (cv 57) H) ?_ λn=>Iy ..
 have t1:(57:Int).tmod 8=1:=by decide
 have t2:IntKind.i64.wrap ((57:Int).tdiv 8)=7:=by decide
 simp -implicitDefEqProofs only[OQ,t1,t2,sS,Nat.reduceAdd];refine Ev.gtr (λhq=>?_) (λhq=>?_)<;>try simp -implicitDefEqProofs only[t1,t2,sS,Nat.reduceAdd]
 rotate_left
 ·omega
 refine Ev.geq (λhq=>?_) (λhq=>?_)<;>try simp -implicitDefEqProofs only[t1,t2,sS,Nat.reduceAdd]
 rotate_left
 ·omega
 refine Ev.leq (λhq=>?_) (λhq=>?_)<;>try simp -implicitDefEqProofs only[t1,t2,sS,Nat.reduceAdd]
 rotate_left
 ·omega
 refine Ev.leq (λhq=>?_) (λhq=>?_)<;>try simp -implicitDefEqProofs only[t1,t2,sS,Nat.reduceAdd]
 rotate_left
 ·omega
 exact Ev.ret ⟨rfl,rfl⟩
theorem wv:bA (run G) 92 [cv 57] H λv H'=>v=cv 1∧H'=H:=by
 refine Ev.up (t:=λn=>F92 (run G n) n (cv 57) H) ?_ λn=>OU ..
 simp -implicitDefEqProofs only[F92,sS,Nat.reduceAdd];refine Ev.call Fy ?_;rintro v H' ⟨rfl,rfl⟩;simp -implicitDefEqProofs only[sS,Nat.reduceAdd];exact Ev.ret ⟨(congrArg cv (by decide):cv (Int.tmod 57 8)=cv 1),rfl⟩
theorem Uf:bA (run G) 91 [cv 57] H λv H'=>v=cv 7∧H'=H:=by
 refine Ev.up (t:=λn=>F91 (run G n) n (cv 57) H) ?_ λn=>Oj ..
 simp -implicitDefEqProofs only[F91,sS,Nat.reduceAdd];refine Ev.call Fy ?_;rintro v H' ⟨rfl,rfl⟩;simp -implicitDefEqProofs only[sS,Nat.reduceAdd];exact Ev.ret ⟨(congrArg cv (by decide):cv (IntKind.i64.wrap (Int.tdiv 57 8))=cv 7),rfl⟩
abbrev m7:List Int:=[1,0,0,0,0,57,0]
theorem PN (h:JM K mp mx [] H)(SW:150≤mx):bA (run G) 36 [pv mp] H λv H'=>JM K mp mx m7 H':=by
 refine Ev.up (t:=λn=>F36 (run G n) n (pv mp) H) ?_ λn=>Vb ..
 obtain⟨mH,qB,ref,s,ty,g,hl,hj⟩:=h.num;have L0:aq (pv mp) H=some (cv mx):=ak mp 0 H g;have L1:aq (.pointer (some ⟨mp,1,none⟩)) H=some s:=ak mp 1 H g;simp only[List.length_nil,Int.natCast_zero] at hl;simp -implicitDefEqProofs only[F36,L1,hl,sS,Nat.reduceAdd];refine Ev.gtr (λhq=>?_) (λhq=>?_)<;>try simp -implicitDefEqProofs only[L0,Nat.add_zero,sS,Nat.reduceAdd]
 ·omega
 refine Ev.lss (λhq=>?_) (λhq=>?_)<;>try simp -implicitDefEqProofs only[sS,Nat.reduceAdd]
 ·omega
 refine Ev.call abF ?_;rintro v H' ⟨rfl,rfl⟩;simp -implicitDefEqProofs only[DF,sS,Nat.reduceAdd];have hjn:JM K mp mx [] (H'.new ⟨[cv 57],2,1,false⟩):=h.ext ((Ext.refl _).new _);refine Ev.call (DK 0 (q:=ax) (lq:=[]) (.inl ⟨rfl,rfl⟩) (nj [57] 2) rfl (by simp)) ?_
 rintro w H2 ⟨x2,Ag,vz⟩;have jb:=hjn.ext x2;have eR:=hjn.lt;refine Ev.call (I1 jb Ag (by simp) (by simp;omega) λ_ a n c e=>by have:=vz a n c e;omega) ?_
 rintro v H3 ⟨rfl,kg⟩;refine Ev.call (f:=64) (args:=[]) (H:=H3) (Q1:=λw H'=>w= .slice (some ⟨H3.length,0,none⟩) 1 1∧H'=H3.new ⟨[cv 0],2,1,false⟩) ?_ ?_
 ·refine Ev.up (t:=λn=>XA (run G n) n H3) ?_ λn=>G2 ..
  simp -implicitDefEqProofs only[XA,DF,sS,Nat.reduceAdd];exact Ev.ret ⟨rfl,rfl⟩
 rintro w H4 ⟨rfl,rfl⟩;have qX:JM K mp mx _ (H3.new ⟨[cv 0],2,1,false⟩):=kg.ext ((Ext.refl _).new _);have ady:=kg.lt;refine Ev.call (I1 qX (nj [0] 2) (by simp) (by simp;omega) λ_ a n c e=>by cases e;simp;omega) ?_
 rintro v H5 ⟨rfl,q9⟩
 try simp -implicitDefEqProofs only[sS,Nat.reduceAdd]
 exact Ev.ret q9
theorem Ug (h:JM K mp mx cs H){a:Int}{j:Nat}(ha:a=(j:Int)+1)(hj:j<cs.length):bA (run G) 93 [pv mp,cv a] H λv H'=>v=cv (cs.getD j 0)∧H'=H:=by
 refine Ev.up (t:=λk=>F93 (run G k) k (pv mp) (cv a) H) ?_ λk=>Oc ..
 have YB:=h.Qi;obtain⟨hK,o,⟨mH,qB,ref,s,ty,g,ho,hs,SW⟩,hk⟩:=h;have L1:aq (.pointer (some ⟨mp,1,none⟩)) H=some s:=ak mp 1 H g;obtain⟨q,off,b,e1,e2,e3⟩:=hs.ints.1.idx hj;have L2:aq (.pointer (some ⟨q,off,none⟩)) H=some (cv (cs.getD j 0)):=(ak q off H e2).trans e3;have hw:IntKind.i64.wrap (a-1)=(j:Int):=by rw[kr (by omega)];omega
 simp -implicitDefEqProofs only[F93,sS,Nat.reduceAdd];refine Ev.lss (λhq=>?_) (λhq=>?_)<;>try simp -implicitDefEqProofs only[L1,hs.ints.1.len,sS,Nat.reduceAdd]
 ·omega
 refine Ev.gtr (λhq=>?_) (λhq=>?_)<;>try simp -implicitDefEqProofs only[L1,hw,e1,L2,sS,Nat.reduceAdd]
 ·omega
 exact Ev.ret ⟨rfl,rfl⟩
theorem I2 (h:JM K mp mx m7 H):bA (run G) 67 [pv mp,cv 6] H λv H'=>v=cv 57∧H'=H:=by
 refine Ev.up (t:=λk=>F67 (run G k) k (pv mp) (cv 6) H) ?_ λk=>V4 ..
 simp -implicitDefEqProofs only[F67,sS,Nat.reduceAdd];refine Ev.call (Ug h (j:=5) (by decide) (by decide)) ?_
 rintro v H' ⟨rfl,rfl⟩;refine Ev.call wv ?_;rintro v H' ⟨rfl,rfl⟩
 try simp -implicitDefEqProofs only[sS,Nat.reduceAdd]
 refine Ev.neq (λhq=>?_) (λhq=>?_)<;>try simp -implicitDefEqProofs only[sS,Nat.reduceAdd]
 ·exact Ev.ret ⟨rfl,rfl⟩
 ·omega
def Bs (H:aa)(q n:Nat):Prop:=∃cells ty,H.get q=some ⟨cells,ty,1,false⟩∧cells.length=n∧∀j,j<n→∃b,cells[j]? =some (.bool b)
theorem Bs.idx {q:Nat}(h:Bs H q n){j:Nat}(hj:j<n):(∀H',cq 1 (.slice (some ⟨q,0,none⟩) n n) (cv j) H'=some (.pointer (some ⟨q,j,none⟩),H'))∧(∃b,aq (.pointer (some ⟨q,j,none⟩)) H=some (.bool b))∧∀b:Bool,∃H',bS 1 (.pointer (some ⟨q,j,none⟩)) (.bool b) H=some (undef,H')∧Bs H' q n∧(∀k,k≠q→H'[k]? =H[k]?)∧H'.length=H.length:=by
 obtain⟨cells,ty,g,hl,hc⟩:=h;refine⟨λH'=>?_,?_,λb=>⟨_,kE q j (.bool b) H g rfl (by simp;omega) rfl rfl rfl,⟨cells.set j (.bool b),ty,aD g,by simpa using hl,λk hk=>?_⟩,λk hk=>db hk,jd _ _ _⟩⟩
 ·simp only[cq];rw[if_pos (by constructor<;>omega)];simp
 ·obtain⟨b,e⟩:=hc j hj;exact⟨b,(ak q j H g).trans e⟩
 ·by_cases e:j=k
  ·subst e;exact⟨b,by rw[List.getElem?_set_self (by omega)]⟩
  ·rw[List.getElem?_set_ne e];exact hc k hk
theorem PO (h:JM K mp mx m7 H){q:Nat}(hb:Bs H q 8):bA (run G) 120 [pv mp,cv 7,cv 1,.slice (some ⟨q,0,none⟩) 8 8] H λv H'=>(∃b,v= .bool b)∧(∀k,k≠q→H'[k]? =H[k]?)∧H'.length=H.length:=by
 refine Ev.up (t:=λk=>Wv (run G k) k (pv mp) (cv 7) (cv 1) (.slice (some ⟨q,0,none⟩) 8 8) H) ?_ λk=>Rz ..
 obtain⟨mH,qB,ref,s,ty,g,hl,hj⟩:=h.num;have L1:aq (.pointer (some ⟨mp,1,none⟩)) H=some s:=ak mp 1 H g;have Zr:cw s=some (cv 7):=hl;have w1:IntKind.i64.wrap (7+1)=8:=by decide
 have w2:IntKind.i64.wrap (8-1)=7:=by decide
 obtain⟨b1,⟨bb,b2⟩,b3⟩:=hb.idx (j:=7) (by omega)
 obtain⟨H2,s2,vz,hx2,hn2⟩:=b3 true;have b1': ∀H',cq 1 (.slice (some ⟨q,0,none⟩) 8 8) (cv 7) H'=some (.pointer (some ⟨q,7,none⟩),H'):=b1;simp -implicitDefEqProofs only[Wv,sS,Nat.reduceAdd];refine Ev.lss (λhq=>?_) (λhq=>?_)<;>try simp -implicitDefEqProofs only[L1,Zr,w1,w2,sS,Nat.reduceAdd]
 ·omega
 refine Ev.gtr (λhq=>?_) (λhq=>?_)<;>try simp -implicitDefEqProofs only[sS,Nat.reduceAdd]
 ·omega
 refine Ev.loop (k:=1) (λkk vs Hx=>∃(a:Int) (bQ cy bN:Value),vs=[pv mp,cv 7,cv 1,.slice (some ⟨q,0,none⟩) 8 8,.bool false,bQ,cv a,cy,bN]∧(∀k,k≠q→Hx[k]? =H[k]?)∧Hx.length=H.length∧Bs Hx q 8∧a+kk=8∧0≤a)
  (λr=>(∀k,k≠q→r.2.2[k]? =H[k]?)∧r.2.2.length=H.length∧∃(x8 bQ x9 cy bN:Value),r.2.1=[pv mp,cv 7,cv 1,.slice (some ⟨q,0,none⟩) 8 8,x8,bQ,x9,cy,bN]∧(r.1= .exit 0∨(r.1= .ret∧∃b,x8= .bool b))) ⟨7,_,_,_,rfl,λk hk=>rfl,rfl,hb,by omega,by omega⟩ ?_ ?_
 ·rintro kk vs Hx ⟨a,bQ,cy,bN,rfl,hx,hn,hbx,ha,ha0⟩;simp -implicitDefEqProofs only[Ku,yv,w1,sS,Nat.reduceAdd];refine Ev.lss (λhq=>?_) (λhq=>?_)<;>try simp -implicitDefEqProofs only[sS,Nat.reduceAdd]
  ·obtain⟨j,rfl⟩: ∃j:Nat,a=j:=⟨a.toNat,by omega⟩
   obtain⟨c1,⟨cb,c2⟩,c3⟩:=hbx.idx (j:=j) (by omega)
   obtain⟨H3,s3,FW,Y9,SX⟩:=c3 true;have hw:IntKind.i64.wrap ((j:Int)+1)=(j:Int)+1:=kr (by omega)
   simp -implicitDefEqProofs only[c1,c2,sS,Nat.reduceAdd];cases cb<;>simp -implicitDefEqProofs only[c1,s3,hw,sS,Nat.reduceAdd]
   ·exact Ev.ret (.inl ⟨rfl,kk-1,by omega,(j:Int)+1,_,_,_,rfl,λk hk=>by show H3[k]? =_;rw[Y9 k hk,hx k hk],SX.trans hn,FW,by omega,by omega⟩)
   ·exact Ev.ret (.inr ⟨by simp,hx,hn,_,_,_,_,_,rfl,.inr ⟨rfl,_,rfl⟩⟩)
  ·exact Ev.ret (.inr ⟨by simp,hx,hn,_,_,_,_,_,rfl,.inl rfl⟩)
 ·rintro e vs Hx ⟨hx,hn,x8,bQ,x9,cy,bN,rfl,he⟩;rcases he with he|⟨he,b,rfl⟩
  ·simp only at he;subst he;simp -implicitDefEqProofs only[Kv,yw,sS,Nat.reduceAdd];exact Ev.ret ⟨⟨_,rfl⟩,hx,hn⟩
  ·simp only at he;subst he;show Ev (λ_=>some (Value.bool b,Hx)) _
   exact Ev.ret ⟨⟨_,rfl⟩,hx,hn⟩
end
section
variable {G:ae} {H H':aa} {o o':aj} {p m c mp f xp:Nat} {K:aa→aj→Prop} {q:Int} {x:Value} {l:PL} {n i:Nat} {cs:List Int} {mx:Int} {th:uL} {L:List hP} {N M:Nat}
theorem Ext.at {q:Nat}{H0:aa}(hq:q=H0.length){Hx:aa}{b:eu}(h1: ∀k,k≠q→Hx[k]? =(H0.new b)[k]?)(h2:Hx.length=(H0.new b).length):Ext H0 Hx:=
 ⟨λj hj=>by rw[h1 j (by omega),dC hj],by rw[h2,aW];omega⟩
theorem PQ (h:JM K mp mx m7 H):bA (run G) 65 [pv mp] H λv H'=>(∃b,v= .bool b)∧Ext H H':=by
 refine Ev.up (t:=λk=>F65 (run G k) k (pv mp) H) ?_ λk=>VT ..
 obtain⟨hK,o,⟨mH,qB,ref,s,ty,g,ho,hs,SW⟩,hk⟩:=id h;have L1:aq (.pointer (some ⟨mp,1,none⟩)) H=some s:=ak mp 1 H g;have Zr:cw s=some (cv 7):=hs.ints.1.len;obtain⟨q0,YT,b0,a1,a2,a3⟩:=hs.ints.1.idx (j:=0) (by decide)
 obtain⟨q2,po,b2,c1,c2,c3⟩:=hs.ints.1.idx (j:=2) (by decide)
 have A:aq (.pointer (some ⟨q0,YT,none⟩)) H=some (cv 1):=(ak q0 YT H a2).trans a3;have C:aq (.pointer (some ⟨q2,po,none⟩)) H=some (cv 0):=(ak q2 po H c2).trans c3;have a1': ∀H',cq 1 s (cv 0) H'=some (.pointer (some ⟨q0,YT,none⟩),H'):=a1;have c1': ∀H',cq 1 s (cv 2) H'=some (.pointer (some ⟨q2,po,none⟩),H'):=c1;have w8:IntKind.i64.wrap (7+1)=8:=by decide
 have hmk:UR 4 1 1 [.bool false] (cv 8) (cv 8) H=some (.slice (some ⟨H.length,0,none⟩) 8 8,H.new ⟨bR [.bool false] 8,4,1,false⟩):=rfl;have hB:Bs (H.new ⟨bR [.bool false] 8,4,1,false⟩) H.length 8:=⟨bR [.bool false] 8,_,ay,rfl,λj hj=>⟨false,by
  have:bR [Value.bool false] 8=List.replicate 8 (.bool false):=rfl;rw[this,List.getElem?_replicate,if_pos hj]⟩⟩
 simp -implicitDefEqProofs only[F65,L1,Zr,sS,Nat.reduceAdd];refine Ev.lss (λhq=>?_) (λhq=>?_)<;>try simp -implicitDefEqProofs only[L1,a1',A,sS,Nat.reduceAdd]
 ·omega
 refine Ev.neq (λhq=>?_) (λhq=>?_)<;>try simp -implicitDefEqProofs only[L1,c1',C,sS,Nat.reduceAdd]
 ·exact Ev.ret ⟨⟨_,rfl⟩,.refl _⟩
 refine Ev.neq (λhq=>?_) (λhq=>?_)<;>try simp -implicitDefEqProofs only[L1,Zr,w8,hmk,sS,Nat.reduceAdd]
 ·exact Ev.ret ⟨⟨_,rfl⟩,.refl _⟩
 refine Ev.loop (k:=6) (λkk vs Hx=>∃(j:Nat) (x2 cH dF:Value),vs=[pv mp,x2,cH,cv j,dF,.slice (some ⟨H.length,0,none⟩) 8 8]∧(∀k,k≠H.length→Hx[k]? =(H.new ⟨bR [.bool false] 8,4,1,false⟩)[k]?)∧Hx.length=(H.new ⟨bR [.bool false] 8,4,1,false⟩).length∧Bs Hx H.length 8∧j+kk=7)
  (λr=>r.1= .exit 0∧∃(x2 cH x4 dF:Value),r.2.1=[pv mp,x2,cH,x4,dF,.slice (some ⟨H.length,0,none⟩) 8 8]∧(∀k,k≠H.length→r.2.2[k]? =(H.new ⟨bR [.bool false] 8,4,1,false⟩)[k]?)∧r.2.2.length=(H.new ⟨bR [.bool false] 8,4,1,false⟩).length∧Bs r.2.2 H.length 8) ⟨1,_,_,_,rfl,λk hk=>rfl,rfl,hB,rfl⟩ ?_ ?_
 ·rintro kk vs Hx ⟨j,x2,cH,dF,rfl,hx,hn,hb,hj⟩;have hw:IntKind.i64.wrap ((j:Int)+1)=((j+1:Nat):Int):=by rw[kr (by omega)];omega
  simp -implicitDefEqProofs only[N9,CK,sS,Nat.reduceAdd];refine Ev.leq (λhq=>?_) (λhq=>?_)<;>try simp -implicitDefEqProofs only[sS,Nat.reduceAdd]
  ·obtain⟨d1,_,d3⟩:=hb.idx (j:=j) (by omega)
   obtain⟨H3,s3,FW,Y9,SX⟩:=d3 true;simp -implicitDefEqProofs only[d1,s3,hw,sS,Nat.reduceAdd];exact Ev.ret (.inl ⟨rfl,kk-1,by omega,j+1,_,_,_,rfl,λk hk=>by show H3[k]? =_;rw[Y9 k hk,hx k hk],SX.trans hn,FW,by omega⟩)
  ·exact Ev.ret (.inr ⟨by simp,rfl,_,_,_,_,rfl,hx,hn,hb⟩)
 ·rintro e vs Hx ⟨he,x2,cH,x4,dF,rfl,hx,hn,hb⟩;simp only at he hx hn hb;subst he;have ex:Ext H Hx:=Ext.at rfl hx hn;have LN:=h.ext ex;simp -implicitDefEqProofs only[Ob,CL,sS,Nat.reduceAdd];refine Ev.call (Q1:=λv H'=>(∃b,v= .bool b)∧Ext H H') ?_ ?_
  ·refine Ev.up (t:=λk=>F90 (run G k) k (pv mp) (cv 6) (cv (-9223372036854775808)) (cv 9223372036854775807) (.slice (some ⟨H.length,0,none⟩) 8 8) Hx) ?_ λk=>WQ ..
   simp -implicitDefEqProofs only[F90,sS,Nat.reduceAdd];refine Ev.call (Ug LN (j:=5) (by decide) (by decide)) ?_
   rintro v H' ⟨rfl,rfl⟩;refine Ev.call wv ?_;rintro v H' ⟨rfl,rfl⟩
   try simp -implicitDefEqProofs only[sS,Nat.reduceAdd]
   refine Ev.eql (λhq=>?_) (λhq=>?_)<;>try simp -implicitDefEqProofs only[F90,OA,Da,sS,Nat.reduceAdd]
   ·omega
   refine Ev.call (I2 LN) ?_;rintro v H' ⟨rfl,rfl⟩;refine Ev.call (Q1:=λv H'=>(∃b,v= .bool b)∧Ext H H') ?_ ?_
   ·refine Ev.up (t:=λk=>XD (run G k) k (pv mp) (cv 57) (cv (-9223372036854775808)) (cv 9223372036854775807) (.slice (some ⟨H.length,0,none⟩) 8 8) H') ?_ λk=>Se ..
    simp -implicitDefEqProofs only[XD,sS,Nat.reduceAdd];refine Ev.call Uf ?_;rintro v H2 ⟨rfl,rfl⟩;refine Ev.call wv ?_;rintro v H2 ⟨rfl,rfl⟩
    try simp -implicitDefEqProofs only[sS,Nat.reduceAdd]
    refine Ev.eql (λhq=>?_) (λhq=>?_)<;>try simp -implicitDefEqProofs only[sS,Nat.reduceAdd]
    rotate_left
    ·omega
    refine Ev.call (PO LN hb) ?_;rintro v H3 ⟨⟨b,rfl⟩,Y9,SX⟩
    try simp -implicitDefEqProofs only[sS,Nat.reduceAdd]
    exact Ev.ret ⟨⟨_,rfl⟩,Ext.at rfl (λk hk=>by show H3[k]? =_;rw[Y9 k hk];exact hx k hk) (SX.trans hn)⟩
   rintro v H2 ⟨⟨b,rfl⟩,ex2⟩
   try simp -implicitDefEqProofs only[sS,Nat.reduceAdd]
   exact Ev.ret ⟨⟨_,rfl⟩,ex2⟩
  rintro v H2 ⟨⟨b,rfl⟩,ex2⟩
  try simp -implicitDefEqProofs only[sS,Nat.reduceAdd]
  exact Ev.ret ⟨⟨_,rfl⟩,ex2⟩
theorem Mh:bA (run G) 66 [pv mp,cv 57] H λv H'=>v=ax∧H'=H:=by
 refine Ev.up (t:=λk=>F66 (run G k) k (pv mp) (cv 57) H) ?_ λk=>Xp ..
 simp -implicitDefEqProofs only[F66,sS,Nat.reduceAdd];refine Ev.call Uf ?_;rintro v H' ⟨rfl,rfl⟩;refine Ev.call wv ?_;rintro v H' ⟨rfl,rfl⟩
 try simp -implicitDefEqProofs only[sS,Nat.reduceAdd]
 refine Ev.eql (λhq=>?_) (λhq=>?_)<;>try simp -implicitDefEqProofs only[sS,Nat.reduceAdd]
 ·omega
 refine Ev.eql (λhq=>?_) (λhq=>?_)<;>try simp -implicitDefEqProofs only[sS,Nat.reduceAdd]
 ·omega
 refine Ev.eql (λhq=>?_) (λhq=>?_)<;>try simp -implicitDefEqProofs only[F66,OP,Dk,sS,Nat.reduceAdd]
 ·omega
 exact Ev.ret ⟨rfl,rfl⟩
theorem PR (h:JM K mp mx m7 H):bA (run G) 39 [pv mp] H λv H'=>v=ax∧Ext H H':=by
 refine Ev.up (t:=λk=>F39 (run G k) k (pv mp) H) ?_ λk=>VO ..
 simp -implicitDefEqProofs only[F39,sS,Nat.reduceAdd];refine Ev.call (PQ h) ?_;rintro v H1 ⟨⟨b,rfl⟩,ex⟩;have h1:=h.ext ex;cases b<;>simp -implicitDefEqProofs only[sS,Nat.reduceAdd]
 ·exact Ev.ret ⟨rfl,ex⟩
 refine Ev.call (I2 h1) ?_;rintro v H2 ⟨rfl,rfl⟩;refine Ev.call Mh ?_;rintro v H2 ⟨rfl,rfl⟩
 try simp -implicitDefEqProofs only[sS,Nat.reduceAdd]
 exact Ev.ret ⟨rfl,ex⟩
theorem Uh:bA (run G) 38 [ax] H λv H'=>v= .bool true∧H'=H:=by
 refine Ev.up (t:=λk=>F38 (run G k) k ax H) ?_ λk=>WK ..
 simp -implicitDefEqProofs only[F38,sS,Nat.reduceAdd];refine Ev.call (Q1:=λv H'=>v= .bool true∧H'=H) ?_ ?_
 ·refine Ev.up (t:=λk=>F32 (run G k) k ax H) ?_ λk=>Va ..
  simp -implicitDefEqProofs only[F32,sS,Nat.reduceAdd];refine Ev.loop (k:=0) (λkk vs Hx=>∃x7 bg:Value,vs=[ax,.bool false,cv 1,x7,bg]∧Hx=H) (λr=>r.1= .exit 0∧r.2.2=H∧∃x2 x3 x7 bg:Value,r.2.1=[ax,x2,x3,x7,bg]) ⟨_,_,rfl,rfl⟩ ?_ ?_
  ·rintro kk vs Hx ⟨x7,bg,rfl,rfl⟩;simp -implicitDefEqProofs only[NC,Cv,cw,sS,Nat.reduceAdd];refine Ev.lss (λhq=>?_) (λhq=>?_)<;>try simp -implicitDefEqProofs only[sS,Nat.reduceAdd]
   ·simp at hq
   ·exact Ev.ret (.inr ⟨by simp,rfl,rfl,_,_,_,_,rfl⟩)
  ·rintro e vs Hx ⟨he,hx,x2,x3,x7,bg,rfl⟩;simp only at he hx;subst he hx;simp -implicitDefEqProofs only[NF,Cw,sS,Nat.reduceAdd];exact Ev.ret ⟨rfl,rfl⟩
 rintro v H2 ⟨rfl,rfl⟩;simp -implicitDefEqProofs only[cw,sS,Nat.reduceAdd];refine Ev.leq (λhq=>?_) (λhq=>?_)<;>try simp -implicitDefEqProofs only[sS,Nat.reduceAdd]
 ·exact Ev.ret ⟨rfl,rfl⟩
 ·simp at hq
theorem Te (h:JM K mp mx m7 H)(SW:150≤mx):bA (run G) 40 [pv mp,ax] H λv H'=>∃z c8,v= .tuple #[cv z,.bool true]∧JM K mp mx c8 H':=by
 refine Ev.up (t:=λk=>F40 (run G k) k (pv mp) ax H) ?_ λk=>Wi ..
 obtain⟨mH,qB,ref,s,ty,g,hl,hj⟩:=h.num;have YB:=h.Qi;obtain⟨_,_,⟨_,_,_,_,_,_,_,hs,ad1⟩,_⟩:=id h;have L0:aq (pv mp) H=some (cv mx):=ak mp 0 H g;have L1:aq (.pointer (some ⟨mp,1,none⟩)) H=some s:=ak mp 1 H g;have Zr:cw s=some (cv 7):=hl;have Bd:jE s s=true:=by
  cases s<;>simp[cw] at hl;exact jm ..
 have w1:IntKind.i64.wrap (mx-7)=mx-7:=kr (by omega)
 simp -implicitDefEqProofs only[F40,sS,Nat.reduceAdd];refine Ev.call Uh ?_;rintro v H2 ⟨rfl,rfl⟩;have P8:cw ax=some (cv (0:Nat)):=rfl;simp -implicitDefEqProofs only[P8,sS,Nat.reduceAdd];refine Ev.call (Q1:=λv H'=>v=cv 1∧H'=H2) ?_ ?_
 ·refine Ev.up (t:=λk=>F68 (run G k) k (cv (0:Nat)) H2) ?_ λk=>W6 ..
  simp -implicitDefEqProofs only[F68,sS,Nat.reduceAdd];refine Ev.lss (λhq=>?_) (λhq=>?_)<;>try simp -implicitDefEqProofs only[sS,Nat.reduceAdd]
  ·omega
  refine Ev.gtr (λhq=>?_) (λhq=>?_)<;>try simp -implicitDefEqProofs only[sS,Nat.reduceAdd]
  ·omega
  refine Ev.lss (λhq=>?_) (λhq=>?_)<;>try simp -implicitDefEqProofs only[sS,Nat.reduceAdd]
  ·exact Ev.ret ⟨congrArg cv (by decide),rfl⟩
  ·omega
 rintro v H3 ⟨rfl,rfl⟩;simp -implicitDefEqProofs only[L0,L1,Zr,w1,Bd,Nat.add_zero,sS,Nat.reduceAdd];refine Ev.gtr (λhq=>?_) (λhq=>?_)<;>try simp -implicitDefEqProofs only[L0,L1,Bd,sS,Nat.reduceAdd]
 ·omega
 refine Ev.call (Q1:=λv H'=>∃z c8,v=cv z∧JM K mp mx c8 H') ?_ ?_
 ·refine Ev.up (t:=λk=>F69 (run G k) k (pv mp) ax H3) ?_ λk=>Wp ..
  simp -implicitDefEqProofs only[F69,cw,sS,Nat.reduceAdd];refine Ev.eql (λhq=>?_) (λhq=>?_)<;>try simp -implicitDefEqProofs only[sS,Nat.reduceAdd]
  rotate_left
  ·simp at hq
  refine Ev.call (f:=64) (args:=[]) (H:=H3) (Q1:=λw H'=>w= .slice (some ⟨H3.length,0,none⟩) 1 1∧H'=H3.new ⟨[cv 0],2,1,false⟩) ?_ ?_
  ·refine Ev.up (t:=λn=>XA (run G n) n H3) ?_ λn=>G2 ..
   simp -implicitDefEqProofs only[XA,DF,sS,Nat.reduceAdd];exact Ev.ret ⟨rfl,rfl⟩
  rintro w H4 ⟨rfl,rfl⟩;have qX:JM K mp mx _ (H3.new ⟨[cv 0],2,1,false⟩):=h.ext ((Ext.refl _).new _);have ady:=h.lt;refine Ev.call (IY qX (nj [0] 2) λ_ a n c e=>by cases e;simp;omega) ?_
  rintro v H5 ⟨z,b,c8,rfl,q9⟩;simp -implicitDefEqProofs only[sS,Nat.reduceAdd];refine Ev.az (hX _ _) λz2=>?_
  try simp -implicitDefEqProofs only[sS,Nat.reduceAdd]
  exact Ev.ret ⟨_,_,rfl,q9⟩
 rintro v H4 ⟨z,c8,rfl,qX⟩
 try simp -implicitDefEqProofs only[sS,Nat.reduceAdd]
 exact Ev.ret ⟨_,_,rfl,qX⟩
theorem WR.mem {mx:Int}{cs:List Int}(h:WR H o xp mp th L)(f:Fr H o H' o' [-70, -71])(hm:tN H' o' mp mx cs):WR H' o' xp mp th L:=by
 obtain⟨_,_,_,_,_,_,_,_,_,_,_,_,_,_,_,_,_,_,oW,_⟩:=id h;have hw:=h.Me (i:=0) (s':=th 0) (by omega) (f.wk (by simp)) ((oW 0 (by omega)).fr f (by simp) (by simp) (by simp) (by simp)) rfl ⟨mx,cs,hm⟩
 have e:Fun.rQ th 0 (th 0)=th:=by
  funext j
  unfold Fun.rQ;split
  ·rename_i e;rw[e]
  ·rfl
 rw[e] at hw;exact hw
theorem YU (h:WR H o xp mp th L):bA (run G) 37 [pv xp] H λv H'=>(∃b,v= .bool b)∧H'=H:=by
 refine Ev.up (t:=λk=>F37 (run G k) k (pv xp) H) ?_ λk=>VN ..
 obtain⟨tb,cap,inv,eO,e3,e4,e6,e7,eT,_⟩:=h.oR;simp -implicitDefEqProofs only[F37,sS,Nat.reduceAdd];refine Ev.loop (k:=3) (λkk vs Hx=>∃(j:Nat) (aG bG:Value),vs=[pv xp,.bool false,cv j,aG,bG]∧Hx=H∧j+kk=3)
  (λr=>r.2.2=H∧∃(x2 x3 aG bG:Value),r.2.1=[pv xp,x2,x3,aG,bG]∧(r.1= .exit 0∨(r.1= .ret∧∃b,x2= .bool b))) ⟨0,_,_,rfl,rfl,rfl⟩ ?_ ?_
 ·rintro kk vs Hx ⟨j,aG,bG,rfl,rfl,hj⟩;have hw:IntKind.i64.wrap ((j:Int)+1)=((j+1:Nat):Int):=by rw[kr (by omega)];omega
  simp -implicitDefEqProofs only[N0,CG,e4,cw,sS,Nat.reduceAdd];refine Ev.lss (λhq=>?_) (λhq=>?_)<;>try simp -implicitDefEqProofs only[sS,Nat.reduceAdd]
  ·have kg:j<3:=by omega
   obtain⟨YL,YM⟩:=eT j kg;obtain⟨no,b1,b7,b8⟩:=h.YK kg;simp -implicitDefEqProofs only[e4,YL,YM,b1,sS,Nat.reduceAdd];cases(th j).busy<;>simp -implicitDefEqProofs only[hw,sS,Nat.reduceAdd]
   ·exact Ev.ret (.inl ⟨rfl,kk-1,by omega,j+1,_,_,rfl,rfl,by omega⟩)
   ·exact Ev.ret (.inr ⟨by simp,rfl,_,_,_,_,rfl,.inr ⟨rfl,_,rfl⟩⟩)
  ·exact Ev.ret (.inr ⟨by simp,rfl,_,_,_,_,rfl,.inl rfl⟩)
 ·rintro e vs Hx ⟨hx,x2,x3,aG,bG,rfl,he⟩;simp only at hx;subst hx;rcases he with he|⟨he,b,rfl⟩
  ·simp only at he;subst he;simp -implicitDefEqProofs only[N4,CH,sS,Nat.reduceAdd];exact Ev.ret ⟨⟨_,rfl⟩,rfl⟩
  ·simp only at he;subst he;show Ev (λ_=>some (Value.bool b,Hx)) _
   exact Ev.ret ⟨⟨_,rfl⟩,rfl⟩
theorem adz (pick:Int)(a:Option Addr)(m c:Nat):aE Tryz.prog 47 [(0,cv 4),(4,.agg #[cv 0,.bool false,cv 0,cv 0,cv 0,.slice a m c]),(5,cv pick)]=some (Bz ⟨4,0,0,⟨0,0,0⟩,⟨0,false,0,0,0,[]⟩,pick⟩ (.slice a m c)):=by kernel_rfl
theorem abG (H:aa):au Tryz.prog 43 0 [] H=some (.slice (some ⟨H.length,0,none⟩) 0 0,H.new ⟨[],42,2,false⟩):=by kernel_rfl
theorem YV (h:WR H o xp mp th L){mx:Int}(hm:tN H o mp mx m7)(SW:150≤mx)(hI:Inv th L N M)(hN:N<4000000):bA (run G) 18 [pv xp,ax] H λv H'=>∃o' L',Fr H o H' o' wt∧WR H' o' xp mp th L'∧Inv th L' (N+1) M:=by
 refine Ev.up (t:=λk=>F18 (run G k) k (pv xp) ax H) ?_ λk=>Wg ..
 have Fx:Inv th L (N+1) M:=⟨by have:=hI.len;omega,hI.lists,hI.tape⟩
 simp -implicitDefEqProofs only[F18,sS,Nat.reduceAdd];refine Ev.call (YU h) ?_;rintro v H1 ⟨⟨b,rfl⟩,rfl⟩;cases b<;>simp -implicitDefEqProofs only[sS,Nat.reduceAdd]
 ·exact Ev.ret ⟨o,L,Fr.refl _ _ _,h,Fx⟩
 refine Ev.call Uh ?_;rintro v H2 ⟨rfl,rfl⟩;obtain⟨tb,cap,inv,eO,e3,e4,e6,e7,eT,_⟩:=h.oR;simp -implicitDefEqProofs only[e3,sS,Nat.reduceAdd];have FX:JM (λH' o'=>Fr H2 o H' o' [-70, -71]) mp mx m7 H2:=⟨cI.base (by simp),o,hm,Fr.refl _ _ _⟩
 refine Ev.call (PR FX) ?_;rintro v H3 ⟨rfl,ex3⟩;have kg:=FX.ext ex3;have P8:cw ax=some (cv (0:Nat)):=rfl;simp -implicitDefEqProofs only[P8,sS,Nat.reduceAdd];have back: ∀{Hx:aa} {cs:List Int},JM (λH' o'=>Fr H2 o H' o' [-70, -71]) mp mx cs Hx→∃ox,WR Hx ox xp mp th L∧Fr H2 o Hx ox [-70, -71]:=λhj=>by
  obtain⟨_,ox,hm,hf⟩:=hj;exact⟨ox,h.mem hf hm,hf⟩
 have ld3: ∀{Hx:aa} {cs:List Int},JM (λH' o'=>Fr H2 o H' o' [-70, -71]) mp mx cs Hx→aq (.pointer (some ⟨xp,3,none⟩)) Hx=some (pv mp):=λhj=>by
  obtain⟨ox,hw,_⟩:=back hj;obtain⟨_,_,_,_,e,_⟩:=hw.oR;exact e
 refine Ev.gtr (λhq=>?_) (λhq=>?_)<;>try simp -implicitDefEqProofs only[ld3 kg,sS,Nat.reduceAdd]
 ·simp at hq
 refine Ev.call (Te kg SW) ?_;rintro v H4 ⟨z,c8,rfl,qX⟩;simp -implicitDefEqProofs only[ld3 qX,sS,Nat.reduceAdd];refine Ev.call (Fu qX 6 z) ?_;rintro v H5 ⟨ad2,q9,_⟩;obtain⟨o5,h5,f5⟩:=back q9;obtain⟨H6,Fs⟩: ∃t,t=H5.new ⟨[],42,2,false⟩:=⟨_,rfl⟩;have b0:=abG H5;rw[←Fs] at b0;have f6:Fr H5 o5 H6 (o5.up H5.length (-41)) []:=by rw[Fs];exact(Fr.refl _ _ _).new _ _
 have h6:=h5.DR f6 (by simp)
 obtain⟨tb6,ad3,ad4,PS,i3,i4,i6,i7,iT,_⟩:=h6.oR;have ap:cg 42 2 16 (.slice (some ⟨H5.length,0,none⟩) 0 0) ax H6=some (.slice (some ⟨H5.length,0,none⟩) 0 0,H6):=by simp[cg,bq]
 have hl:=hI.len;obtain⟨Lx,q1,q2,q3,x',H7,H8,o8,q4,q5,h8,f8⟩:=h6.app ⟨4,0,0,⟨0,0,0⟩,⟨0,false,0,0,0,[]⟩,PS⟩ (s:=.slice (some ⟨H5.length,0,none⟩) 0 0) (.inr (.inl ⟨_,_,rfl,rfl⟩)) (by omega)
 obtain⟨c0,c1,c2,adA,uM,mx5,tb5,adB,cs5,Lx5,adK,ty5,ad5,g5,_⟩:=id h5;have p5:aq (.pointer (some ⟨xp,5,none⟩)) H5=some Lx5:=ak xp 5 H5 g5;have g6:H6.get xp=some ⟨[cv c0,cv c1,cv c2,pv mp,.slice (some ⟨tb5,0,none⟩) 3 adB,Lx5,cv adA,cv uM],ty5,1,false⟩:=by rw[f6.same xp (an g5) (by simp)];exact g5
 have p6:aq (.pointer (some ⟨xp,5,none⟩)) H6=some Lx5:=ak xp 5 H6 g6;have eL:Lx5=Lx:=by rw[p6] at q1;simpa using q1
 subst eL;have p7:aq (.pointer (some ⟨xp,7,none⟩)) H5=some (cv uM):=ak xp 7 H5 g5;have p67:aq (.pointer (some ⟨xp,7,none⟩)) H6=some (cv uM):=ak xp 7 H6 g6;have eP:uM=PS:=by rw[p67] at i7;simpa using i7
 subst eP;simp -implicitDefEqProofs only[p5,p6,p7,p67,b0,ap,X5,adz,PH _ rfl,q2,q4,q5,q3,HJ,sS,Nat.reduceAdd];refine Ev.ret ⟨o8,L++[⟨4,0,0,⟨0,0,0⟩,⟨0,false,0,0,0,[]⟩,uM⟩],((f5.trans f6 (rs:=wt) (by simp) (by simp)).trans f8 (λ_ h=>h) (by simp)),h8,⟨?_,?_,hI.tape⟩⟩
 ·simp only[List.length_append,List.length_singleton];omega
 ·intro e he;rcases List.mem_append.1 he with he|he
  ·exact hI.lists e he
  ·have:e=⟨4,0,0,⟨0,0,0⟩,⟨0,false,0,0,0,[]⟩,uM⟩:=by simpa using he
   subst this;simp
end
end Go.Proofs.YtjgmnoaalbbonaaGreat.Fun
end
