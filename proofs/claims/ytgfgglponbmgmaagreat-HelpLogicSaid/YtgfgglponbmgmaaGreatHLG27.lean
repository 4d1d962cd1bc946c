/- Texts of the proof of helpLogic_holds, put together by a small program of ours (names shortened, spaces taken out). No condition beyond the given statement. -/
import Derived.Test.YtgfgglponbmgmaaGreatHLG12
import Derived.Test.YtgfgglponbmgmaaGreatHLG11
import Derived.Test.YtgfgglponbmgmaaGreatHLG16
import Derived.Test.YtgfgglponbmgmaaGreatHLG17
import Derived.Test.YtgfgglponbmgmaaGreatHLG26
import Derived.Test.YtgfgglponbmgmaaGreatHLG19
import Derived.Test.YtgfgglponbmgmaaGreatHLG9
import Derived.Test.YtgfgglponbmgmaaGreatHLG10
import Derived.Test.YtgfgglponbmgmaaGreatHLG15
set_option linter.unusedVariables false
set_option linter.unusedSimpArgs false
set_option linter.unnecessarySimpa false
noncomputable section
section
namespace Go.Proofs.YtgfgglponbmgmaaGreat.Fun
open Go Go.RowKit Go.Proofs.YtgfgglponbmgmaaGreatA.Am
set_option maxRecDepth 10000
section
open Go.Proofs.YtgfgglponbmgmaaGreatA
variable {G:ae} {H H':aa} {o o':aj} {p c:Nat} {K:aa→aj→Prop} {t:Int} {x:Value} {l:PL} {st LV s1:Y.St} {α β:Type}
theorem Ir (h:JX K p st H){f:Nat}(hf:st.left≤f)(a:Int):aE (run G) 124 [pv p,cv a] H (jH K p st (Y.gU (f+1) a)):=by
 have w4: ∀j:Int,IntKind.i64.wrap (a+j)=Y.wr (a+j):=λj=>cI _
 refine Ev.up (t:=λk=>VJ (run G k) k (pv p) (cv a) H) ?_ λk=>QJ ..
 simp -implicitDefEqProofs only[VJ,sS,Nat.reduceAdd];have J0: ∀{s3:Y.St} {H1:aa} {n w:Int} (tt:Int) (x4 bZ cN x9 dD x8 dU aC aO:Value),(-9223372036854775808≤tt∧tt≤65536)→JX K p s3 H1→s3.left≤f→Y.ah (Y.gU (f+1) a) st=Y.ah (Y.AN (f+1) a tt n w) s3→Ev (λk=>vg (run G k) k [pv p,cv a,x4,cv tt,bZ,cv w,cN,cv n,x9,dD,x8,dU,aC,aO] H1) λr=>jH K p st (Y.gU (f+1) a) r.1 r.2:=by
  intro s3 H1 n w tt x4 bZ cN x9 dD x8 dU aC aO htt hj hl E;simp -implicitDefEqProofs only[JK,xf,sS,Nat.reduceAdd];have TL: ∀{s4:Y.St} {H4:aa},JX K p s4 H4→Y.ah (Y.gU (f+1) a) st=Y.ah (Y.tA a w) s4→∀{k:Nat→Value→aa→Option (Value×aa)},(∀z s5 H5,Y.ah (Y.gU (f+1) a) st=(z,s5)→JX K p s5 H5→Ev (λn=>k n (.bool z) H5) λr=>jH K p st (Y.gU (f+1) a) r.1 r.2)→
    Ev (λn=>af (run G n 139 [pv p,cv (Y.wr (a+1))] H4) λg H=>af (run G n 139 [pv p,cv (Y.wr (a+2))] H) λs H=>af (run G n 59 [cv 4,cv a] H) λme H=>af (run G n 116 [pv p,g,s,me,cv w] H) λz H=>af (pS (ai Tryz.prog .neq 3 z (cv 3)) H) λz H=>k n z H) λr=>jH K p st (Y.gU (f+1) a) r.1 r.2:=by
   intro s4 H4 iW E4 k hk;refine Ev.eS (cX iW _) λg s5 H5 e5 kh=>?_
   refine Ev.eS (cX kh _) λs s6 H6 e6 n8=>?_
   refine Ev.is (nY _ _) ?_;refine Ev.eS (Cy n8 _ _ _ _) λz s7 H7 e7 CE=>?_
   rw[Ia];simp -implicitDefEqProofs only[sS,Nat.reduceAdd];refine hk _ s7 H7 ?_ CE;rw[E4];unfold Y.tA;simp only[Y.ak,bk,bH,bL,cR,cS,ne_eq,not_true_eq_false,not_false_eq_true,if_true,if_false,Bool.not_true,Bool.not_false,true_and,and_true,false_and,and_false,true_or,or_true,false_or,or_false,Bool.false_eq_true,decide_true,decide_false,e5,e6,e7]
   congr 1
   by_cases hz:z=3<;>simp[hz]
  have w1:=w4 1;have w2:=w4 2;unfold Y.AN at E;refine Ev.geq (λh2=>?_) (λh2=>?_)<;>try simp -implicitDefEqProofs only[sS,Nat.reduceAdd,w1,w2]
  ·rw[if_pos h2] at E;refine Ev.is (nX _) ?_;refine Ev.K4 (R0 hj (f:=f) hl a htt n _) λok s4 H4 e4 iW=>?_
   rw[Y.aJ e4] at E
   try simp -implicitDefEqProofs only[sS,Nat.reduceAdd,w1,w2]
   cases ok<;>try simp -implicitDefEqProofs only[sS,Nat.reduceAdd,w1,w2]
   ·exact Ev.ret (jH.of iW (by rw[E];rfl))
   ·rw[if_neg (by simp)] at E
    exact TL iW E λz s5 H5 e5 kh=>Ev.ret (jH.of kh e5)
  ·rw[if_neg h2] at E;exact TL hj E λz s5 H5 e5 kh=>Ev.ret (jH.of kh e5)
 refine Ev.eS (cX h _) λtw s1 H1 e1 fv=>?_
 have l1:=dj e1
 try simp -implicitDefEqProofs only[sS,Nat.reduceAdd]
 refine Ev.is (nX _) ?_
 try simp -implicitDefEqProofs only[sS,Nat.reduceAdd]
 refine Ev.eS (Xc f fv (by omega) (nM _)) λn s2 H2 e2 fH=>?_
 have l2:=dk e2;simp -implicitDefEqProofs only[w4 3,sS,Nat.reduceAdd];refine Ev.eS (cX fH _) λw s3 H3 e3 gA=>?_
 have l3:=dj e3
 try simp -implicitDefEqProofs only[sS,Nat.reduceAdd]
 refine Ev.nW gA (λhq=>?_) (λhq=>?_)<;>try simp -implicitDefEqProofs only[sS,Nat.reduceAdd]
 ·refine Ev.ret (jH.of gA ?_);unfold Y.gU;simp only[Y.ak,bk,bH,bL,cR,cS,ne_eq,not_true_eq_false,not_false_eq_true,if_true,if_false,Bool.not_true,Bool.not_false,true_and,and_true,false_and,and_false,true_or,or_true,false_or,or_false,Bool.false_eq_true,decide_true,decide_false,e1,e2,e3,hq]
 refine Ev.eql (λh0=>?_) (λh0=>?_)<;>try simp -implicitDefEqProofs only[sS,Nat.reduceAdd]
 ·refine Ev.D7 (aah gA (f:=f) (by omega) (nM _) n) λx b s4 H4 e4 iW=>?_
  have l4:=dk e4
  try simp -implicitDefEqProofs only[sS,Nat.reduceAdd]
  cases b<;>try simp -implicitDefEqProofs only[sS,Nat.reduceAdd]
  ·refine Ev.ret (jH.of iW ?_);unfold Y.gU;simp only[Y.ak,bk,bH,bL,cR,cS,ne_eq,not_true_eq_false,not_false_eq_true,if_true,if_false,Bool.not_true,Bool.not_false,true_and,and_true,false_and,and_false,true_or,or_true,false_or,or_false,Bool.false_eq_true,decide_true,decide_false,e1,e2,e3,hq,h0,e4]
  try simp -implicitDefEqProofs only[w4 3,sS,Nat.reduceAdd]
  refine Ev.Oh (D8 iW _ _ _) λz s5 H5 e5 kh=>?_
  have l5:=dk e5
  try simp -implicitDefEqProofs only[w4 3,sS,Nat.reduceAdd]
  refine Ev.eS (cX kh _) λw' s6 H6 e6 n8=>?_
  have l6:=dj e6
  try simp -implicitDefEqProofs only[sS,Nat.reduceAdd]
  refine J0 _ _ _ _ _ _ _ _ _ _ (nM _) n8 (by omega) ?_
  unfold Y.gU;simp only[Y.ak,bk,bH,bL,cR,cS,ne_eq,not_true_eq_false,not_false_eq_true,if_true,if_false,Bool.not_true,Bool.not_false,true_and,and_true,false_and,and_false,true_or,or_true,false_or,or_false,Bool.false_eq_true,decide_true,decide_false,e1,e2,e3,hq,h0,e4,Bool.true_eq_false,e5,e6]
 ·refine J0 _ _ _ _ _ _ _ _ _ _ (nM _) gA (by omega) ?_
  unfold Y.gU;simp only[Y.ak,bk,bH,bL,cR,cS,ne_eq,not_true_eq_false,not_false_eq_true,if_true,if_false,Bool.not_true,Bool.not_false,true_and,and_true,false_and,and_false,true_or,or_true,false_or,or_false,Bool.false_eq_true,decide_true,decide_false,e1,e2,e3,hq,h0]
theorem JX.box (h:JX K p st H)(cs:List Value)(T:TypeId):JX (λH' o=>K H' o∧H'.get H.length=some ⟨cs,T,1,false⟩∧o H.length= -9∧H.length<H'.length) p st (H.new ⟨cs,T,1,false⟩):=by
 obtain⟨hK,o,hr,hk⟩:=h;have f:Fr H o (H.new ⟨cs,T,1,false⟩) (o.up H.length (-9)) []:=(Fr.refl H o []).new _ _;refine⟨hK.and λH1 o1 H2 o2 a f=>?_,_,hr.fr f (by simp) (by simp) (by simp),hK _ _ _ _ hk (f.wk (by simp)),aL,aP,by rw[cA];omega⟩
 obtain⟨a1,a2,a3⟩:=a;exact⟨by rw[f.same _ a3 (by rw[a2];simp)];exact a1,by rw[f.own _ a3];exact a2,by have:=f.size;omega⟩
theorem R1 (h:JX K p st H){f:Nat}(hf:st.left≤f){a:Int}(ha: -9223372036854775808≤a∧a≤65536)(b c:Int):aE (run G) 125 [pv p,.agg #[cv a,cv b,cv c]] H (jH K p st (Y.oO (f+1) ⟨a,b,c⟩)):=by
 have w2:IntKind.i64.wrap (a+2)=a+2:=fL (by omega)
 refine Ev.up (t:=λk=>VX (run G k) k (pv p) (.agg #[cv a,cv b,cv c]) H) ?_ λk=>QT ..
 have hK:=h.1;have hjb:=h.box [cv a,cv b,cv c] 37;have hU: ∀{s':Y.St} {H':aa},JX (λH' o=>K H' o∧H'.get H.length=some ⟨[cv a,cv b,cv c],37,1,false⟩∧o H.length= -9∧H.length<H'.length) p s' H'→JX K p s' H':=λhj=>hj.mono hK λo a=>a.1
 obtain⟨H1,e1⟩: ∃z,z=H.new ⟨[cv a,cv b,cv c],37,1,false⟩:=⟨_,rfl⟩;have g1:H1.get H.length=some ⟨[cv a,cv b,cv c],37,1,false⟩:=by rw[e1];exact aL
 rw[←e1] at hjb;have L0:=λ{H':aa} (g:H'.get H.length=some ⟨[cv a,cv b,cv c],37,1,false⟩)=>ao H.length 0 H' g
 have L1:=λ{H':aa} (g:H'.get H.length=some ⟨[cv a,cv b,cv c],37,1,false⟩)=>ao H.length 1 H' g
 have L2:=λ{H':aa} (g:H'.get H.length=some ⟨[cv a,cv b,cv c],37,1,false⟩)=>ao H.length 2 H' g
 simp only[List.getElem?_cons_succ,List.getElem?_cons_zero] at L0 L1 L2;simp -implicitDefEqProofs only[VX,aaf, ←e1,L0 g1,L1 g1,L2 g1,sS,Nat.reduceAdd,w2];refine Ev.RP (yL hjb _ _ _) λw Hz hj=>?_
 refine Ev.si (nu hj) λz s1 Hz ez hj=>?_
 simp -implicitDefEqProofs only[sS,Nat.reduceAdd];refine Ev.brN (λhz=>?_) (λhz=>?_)<;>try simp -implicitDefEqProofs only[sS,Nat.reduceAdd]
 ·refine Ev.ret (jH.of (hU hj) ?_);unfold Y.oO;simp only[Y.ak,bk,bH,bL,cR,cS,ne_eq,not_true_eq_false,not_false_eq_true,if_true,if_false,Bool.not_true,Bool.not_false,true_and,and_true,false_and,and_false,true_or,or_true,false_or,or_false,Bool.false_eq_true,decide_true,decide_false,ez,hz]
 obtain⟨_,o2,_,_,g2,_⟩:=id hj;simp -implicitDefEqProofs only[L0 g2,L1 g2,L2 g2,sS,Nat.reduceAdd,w2];refine Ev.is (nY _ _) ?_;refine Ev.eS (Cy hj _ _ _ _) λr s2 Hz e2 fH=>?_
 have l1:s1.left≤st.left:=dk ez;have l2:=dk e2;simp -implicitDefEqProofs only[L0 g2,L1 g2,L2 g2,sS,Nat.reduceAdd,w2];have gA:=hU fH;have E:Y.ah (Y.oO (f+1) ⟨a,b,c⟩) st=Y.ah (if r=1 then Y.gU (f+1) z else pure (decide (r≠3))) s2:=by
  unfold Y.oO;simp only[Y.ak,bk,bH,bL,cR,cS,ne_eq,not_true_eq_false,not_false_eq_true,if_true,if_false,Bool.not_true,Bool.not_false,true_and,and_true,false_and,and_false,true_or,or_true,false_or,or_false,Bool.false_eq_true,decide_true,decide_false,ez,hz,e2]
 refine Ev.eql (λh1=>?_) (λh1=>?_)<;>try simp -implicitDefEqProofs only[sS,Nat.reduceAdd]
 ·rw[if_pos h1] at E;refine Ev.K4 (Ir gA (f:=f) (by omega) z) λok s3 H3 e3 iW=>?_
  try simp -implicitDefEqProofs only[sS,Nat.reduceAdd]
  exact Ev.ret (jH.of iW (by rw[E,e3]))
 rw[if_neg h1] at E;refine Ev.eql (λh3=>?_) (λh3=>?_)<;>try simp -implicitDefEqProofs only[sS,Nat.reduceAdd]
 ·exact Ev.ret (jH.of gA (by rw[E];simp only[Y.ak,bk,bH,bL,cR,cS,ne_eq,not_true_eq_false,not_false_eq_true,if_true,if_false,Bool.not_true,Bool.not_false,true_and,and_true,false_and,and_false,true_or,or_true,false_or,or_false,Bool.false_eq_true,decide_true,decide_false,h3]))
 ·exact Ev.ret (jH.of gA (by rw[E];simp only[Y.ak,bk,bH,bL,cR,cS,ne_eq,not_true_eq_false,not_false_eq_true,if_true,if_false,Bool.not_true,Bool.not_false,true_and,and_true,false_and,and_false,true_or,or_true,false_or,or_false,Bool.false_eq_true,decide_true,decide_false,h3]))
end
abbrev kk:List FuncId:=[14,25,34,45]
theorem okP:mK Tryz.prog (oj Tryz.prog)=true:=by kernel_rfl
theorem acw:mK Tryz.prog (kk++oj Tryz.prog)=true:=by kernel_rfl
theorem Lh:(kk.all λk=>(gr Tryz.prog (oj Tryz.prog) LS 2000 k [] []).any λr=>pG r.1 (.bool true))=true:=by kernel_rfl
abbrev KG:ae:=qC kk
theorem Xg {f:FuncId}{ts:List TypeId}(h: ∀H args,jw H→yz Tryz.prog H 9 ts args→∃n H',run KG n f args H=some (.bool true,H')):Tl Tryz.prog f ts:=
 Tl.N7 kk 2000 okP acw Lh h
end Go.Proofs.YtgfgglponbmgmaaGreat.Fun
end
section
namespace Go.Proofs.YtgfgglponbmgmaaGreat.Fun
open Go Go.RowKit Go.Proofs.YtgfgglponbmgmaaGreatA.Am
section
variable {G:ae} {n:Nat}
def _root_.Go.Proofs.YtgfgglponbmgmaaGreatA.Am.aj.from (o:aj)(n:Nat)(Q:Int):aj:=λi=>if n≤i then Q else o i
theorem CF {o:aj}{n i:Nat}{Q:Int}(h:n≤i):o.from n Q i=Q:=by simp[aj.from,h]
theorem CG {o:aj}{n i:Nat}{Q:Int}(h:i<n):o.from n Q i=o i:=by unfold aj.from;rw[if_neg (by omega)]
end
structure Ext (H H':aa):Prop where
 old: ∀j,j<H.length→H'[j]? =H[j]?
 size:H.length≤H'.length
theorem Ext.refl (H:aa):Ext H H:=⟨λ_ _=>rfl,Nat.le_refl _⟩
theorem Ext.trans {H H1 H2:aa}(a:Ext H H1)(b:Ext H1 H2):Ext H H2:=⟨λj hj=>by rw[b.old j (Nat.lt_of_lt_of_le hj a.size),a.old j hj],Nat.le_trans a.size b.size⟩
theorem Ext.new {H H1:aa}(a:Ext H H1)(c:eM):Ext H (H1.new c):=a.trans ⟨λj hj=>mE hj,by rw[cA];omega⟩
theorem Ext.put {H H1:aa}(a:Ext H H1){i:Nat}{c:eM}(h:H.length≤i):Ext H (H1.put i c):=⟨λj hj=>by rw[fi (by omega),a.old j hj],by rw[iC];exact a.size⟩
theorem Ext.fr {H H':aa}(a:Ext H H')(o:aj)(Q:Int):Fr H o H' (o.from H.length Q) []:=⟨λj hj _=>a.old j hj,λj hj=>CG hj,a.size⟩
theorem Ext.get {H H':aa}(a:Ext H H'){i:Nat}{b:eM}(h:H.get i=some b):H'.get i=some b:=by rw[dZ (a.old i (ar h))];exact h
theorem Ext.of {H H':aa}{o o':aj}{ps:List Int}(f:Fr H o H' o' ps)(h: ∀i,i<H.length→o i ∉ ps):Ext H H':=⟨λj hj=>f.slot j hj (h j hj),f.size⟩
section
variable {G:ae} {H:aa} {o:aj} {q:Int} {x:Value} {l:PL} {n p:Nat}
end
abbrev nw (n:Nat):aj:=aj.from (λ_=>0) n 1
structure jY where
 kind:Int
 key:Int
 value:Int
structure eI where
 D5:Int
 found:Bool
 key:Int
 value:Int
 n:Int
 list:PL
abbrev jj (op:jY):Value:=.agg #[cv op.kind,cv op.key,cv op.value]
abbrev gj (r:eI)(s:Value):Value:=.agg #[cv r.D5,.bool r.found,cv r.key,cv r.value,cv r.n,s]
def bQ:eI:=⟨0,false,0,0,0,[]⟩
def Li (t:Int×Int×Bool):eI:=if t.2.2 then⟨0,true,t.1,t.2.1,0,[]⟩ else bQ
def lE (w:Int):eI:=⟨w,false,0,0,0,[]⟩
theorem CH (op:jY)(H:aa):dH 39 (jj op) H=some (pv H.length,H.new ⟨[cv op.kind,cv op.key,cv op.value],39,1,false⟩):=by
 simp[dH,Value.cells,aD,aS]
theorem PO {H:aa}{b:Nat}{op:jY}{t:TypeId}(h:H.get b=some ⟨[cv op.kind,cv op.key,cv op.value],t,1,false⟩):cZ 3 (pv b) H=some (jj op):=by
 simp[cZ,aR,h]
theorem tD (b:Nat)(r:eI){s:Value}{a:Option Addr}{m c:Nat}(es:s= .slice a m c){cs:List Value}{t:TypeId}(H:aa)(h:H.get b=some ⟨cs,t,1,false⟩)(hl:cs.length=6):
  bD 6 (pv b) (gj r s) H=some (undef,H.put b ⟨[cv r.D5,.bool r.found,cv r.key,cv r.value,cv r.n,s],t,1,false⟩):=by
 subst es;obtain⟨c0,c1,c2,c3,c4,c5,rfl⟩: ∃c0 c1 c2 c3 c4 c5,cs=[c0,c1,c2,c3,c4,c5]:=by
  match cs,hl with
  | [c0,c1,c2,c3,c4,c5],_=>exact⟨c0,c1,c2,c3,c4,c5,rfl⟩
 simp[bD,bW,h,Value.cells,known,aD,dt]
theorem pQ (b:Nat)(r:eI){s:Value}{t:TypeId}(H:aa)(h:H.get b=some ⟨[cv r.D5,.bool r.found,cv r.key,cv r.value,cv r.n,s],t,1,false⟩):cZ 6 (pv b) H=some (gj r s):=by
 simp[cZ,aR,h]
abbrev aA:Value:=.slice none 0 0
theorem CI:aF Tryz.prog 47 []=some (gj bQ aA):=by kernel_rfl
theorem Xh (k v:Int):aF Tryz.prog 47 [(1,.bool true),(2,.agg #[cv k,cv v])]=some (gj (Li (k,v,true)) aA):=by kernel_rfl
theorem Lj (w:Int):aF Tryz.prog 47 [(0,cv w)]=some (gj (lE w) aA):=by kernel_rfl
theorem aai (a:Option Addr)(m c:Nat):aF Tryz.prog 47 [(4,.slice a m c)]=some (.agg #[cv 0,.bool false,cv 0,cv 0,cv 0,.slice a m c]):=by kernel_rfl
theorem acx (w:Int):aF Tryz.prog 47 [(3,cv w)]=some (gj ⟨0,false,0,0,w,[]⟩ aA):=by kernel_rfl
theorem tF (t:Int×Int×Bool):(Li t).list=[]:=by unfold Li;split<;>rfl
section
variable {G:ae} {H:aa} {o:aj} {q:Int} {x:Value} {l:PL} {n p:Nat}
end
end Go.Proofs.YtgfgglponbmgmaaGreat.Fun
end
section
namespace Go.Proofs.YtgfgglponbmgmaaGreat.Fun
open Go Go.RowKit Go.Proofs.YtgfgglponbmgmaaGreatA.Am
set_option maxRecDepth 10000
section
open Go.Proofs.YtgfgglponbmgmaaGreatA
variable {G:ae} {H H':aa} {o o':aj} {p c:Nat} {K:aa→aj→Prop} {t q:Int} {x:Value} {l:List Y.En} {st LV s1:Y.St} {α β:Type}
def tG:List Y.En→List Value
 | []=>[]
 |e::l=>cv e.node::cv e.slot::cv e.word::tG l
theorem lT: ∀l:List Y.En,(tG l).length=3*l.length
 | []=>rfl
 |e::l=>by simp only[tG,List.length_cons,lT l];omega
theorem CJ: ∀a b:List Y.En,tG (a++b)=tG a++tG b
 | [],b=>rfl
 |e::a,b=>by simp only[List.cons_append,tG,CJ a b]
theorem Lk {l:List Y.En}{j:Nat}(hj:j<l.length): ∃a b,tG l=a++cv l[j].node::cv l[j].slot::cv l[j].word::b∧a.length=3*j:=by
 refine⟨tG (l.take j),tG (l.drop (j+1)),?_,by rw[lT];simp;omega⟩
 conv=>lhs;rw[←List.take_append_drop j l,CJ,List.drop_eq_getElem_cons hj]
 rfl
def EH (H:aa)(o:aj)(q:Int)(x:Value)(l:List Y.En):Prop:=
 (x= .slice none 0 0∧l=[])∨∃(i cap:Nat) (rest:List Value) (ty:TypeId),x= .slice (some ⟨i,0,none⟩) l.length cap∧H.get i=some ⟨tG l++rest,ty,3,false⟩∧3*l.length+rest.length=3*cap∧o i=q
theorem EH.fr {ps:List Int}(h:EH H o q x l)(f:Fr H o H' o' ps)(hp:q ∉ ps):EH H' o' q x l:=by
 rcases h with h|⟨i,cap,rest,ty,h1,h2,h3,h5⟩
 ·exact .inl h
 ·exact .inr ⟨i,cap,rest,ty,h1,by rw[f.same i (ar h2) (by rw[h5];exact hp)];exact h2,h3,by rw[f.own i (ar h2)];exact h5⟩
theorem EH.len (h:EH H o q x l):cG x=some (cv l.length):=by
 rcases h with⟨rfl,rfl⟩|⟨i,cap,rest,ty,rfl,_⟩<;>rfl
theorem EH.idx (h:EH H o q x l){j:Nat}(hj:j<l.length): ∃(i off:Nat) (b:eM),(∀H',cK 3 x (cv j) H'=some (.pointer (some ⟨i,off,none⟩),H'))∧H.get i=some b∧o i=q∧
  ∀H':aa,H'.get i=some b→aq (.pointer (some ⟨i,off+2,none⟩)) H'=some (cv l[j].word)∧cZ 3 (.pointer (some ⟨i,off,none⟩)) H'=some (.agg #[cv l[j].node,cv l[j].slot,cv l[j].word]):=by
 rcases h with⟨rfl,rfl⟩|⟨i,cap,rest,ty,rfl,h2,h3,h5⟩
 ·simp at hj
 ·obtain⟨a,b,eab,la⟩:=Lk hj;have ec:tG l++rest=a++cv l[j].node::cv l[j].slot::cv l[j].word::(b++rest):=by rw[eab];simp
  refine⟨i,3*j,_,λH'=>?_,h2,h5,λH' g=>⟨?_,?_⟩⟩
  ·simp only[cK];rw[if_pos (by constructor<;>omega)];simp<;>omega
  ·rw[ao i _ H' g,ec,List.getElem?_append_right (by omega),la]
   have:3*j+2-3*j=2:=by omega
   rw[this];rfl
  ·have uu:aR H' i (3*j) 3=some [cv l[j].node,cv l[j].slot,cv l[j].word]:=by
    simp only[aR,g];rw[if_pos (by simp[lT];omega),ec,List.drop_append_of_le_length (by omega),List.drop_eq_nil_of_le (by omega)]
    rfl
   simp only[cZ,uu]
theorem EH.app (T ty:TypeId)(h:EH H o q x l)(e:Y.En)(hb:l.length+1≤4294967296):
  ∃x' H2 o2,de T 3 24 x (.slice (some ⟨H.length,0,none⟩) 1 1) (H.new ⟨[cv e.node,cv e.slot,cv e.word],ty,3,false⟩)=some (x',H2)∧EH H2 o2 q x' (l++[e])∧Fr H o H2 o2 [q]:=by
 obtain⟨H1,e1⟩: ∃z,z=H.new ⟨[cv e.node,cv e.slot,cv e.word],ty,3,false⟩:=⟨_,rfl⟩;have l1:H1.length=H.length+1:=by rw[e1,cA]
 have g1:H1.get H.length=some ⟨[cv e.node,cv e.slot,cv e.word],ty,3,false⟩:=by rw[e1];exact aL
 have f1:Fr H o H1 (o.up H.length (-9)) [q]:=by rw[e1];exact(Fr.refl H o [q]).new _ _
 have Ll:cF H1 3 1 (.slice (some ⟨H.length,0,none⟩) 1 1)=some [cv e.node,cv e.slot,cv e.word]:=by simp[cF,aR,g1]
 have ee:tG (l++[e])=tG l++[cv e.node,cv e.slot,cv e.word]:=by rw[CJ];rfl
 rw[←e1];rcases h with⟨rfl,rfl⟩|⟨i,cap,rest,AG,rfl,h2,h3,h5⟩
 ·refine⟨.slice (some ⟨H1.length,0,none⟩) 1 1,H1.new ⟨[cv e.node,cv e.slot,cv e.word],T,3,false⟩,(o.up H.length (-9)).up H1.length q,?_,.inr ⟨H1.length,1,[],T,rfl,?_,by simp,aP⟩,f1.new _ _⟩
  ·simp[de,Ll]
  ·simpa[tG] using aL
 ·have Yt:=ar h2;have g2:H1.get i=some ⟨tG l++rest,AG,3,false⟩:=by rw[e1,df Yt];exact h2
  by_cases jb:l.length+1≤cap
  ·obtain⟨r0,r1,r2,AY,rfl⟩: ∃r0 r1 r2 AY,rest=r0::r1::r2::AY:=by
    match rest,h3 with
    | [],h=>simp at h;omega
    | [_],h=>simp at h;omega
    | [_,_],h=>simp at h;omega
    |a::b::c::r,_=>exact⟨a,b,c,r,rfl⟩
   have hc:dt (tG l++r0::r1::r2::AY) (l.length*3) [cv e.node,cv e.slot,cv e.word]=tG (l++[e])++AY:=by
    simp only[dt];have le:(tG l).length=l.length*3:=by rw[lT];omega
    rw[List.set_append_right _ _ (by omega),List.set_append_right _ _ (by omega),List.set_append_right _ _ (by omega),le,ee]
    have a0:l.length*3-l.length*3=0:=by omega
    have a1:l.length*3+1-l.length*3=1:=by omega
    have a2:l.length*3+1+1-l.length*3=2:=by omega
    rw[a0,a1,a2];simp
   refine⟨.slice (some ⟨i,0,none⟩) (l.length+1) cap,H1.put i ⟨tG (l++[e])++AY,AG,3,false⟩,o.up H.length (-9),?_,.inr ⟨i,cap,AY,AG,by simp,aG g2,by simp at h3 ⊢;omega,by rw[dL (by omega)];exact h5⟩,f1.put λ_=>by simp[h5]⟩
   simp only[de,Ll,Option.map_some];rw[if_pos jb,if_neg (by omega)]
   simp only[g2,if_true,bW];rw[if_pos (by simp[aD,lT] at h3 ⊢;omega)]
   simp only[Option.map_some,Nat.zero_add,hc]
  ·have tk:(tG l++rest).take (l.length*3)=tG l:=by
    have le:(tG l).length=l.length*3:=by rw[lT];omega
    rw[←le,List.take_left'];rfl
   refine⟨.slice (some ⟨H1.length,0,none⟩) (l.length+1) (l.length+1),(H1.kill i).new ⟨tG (l++[e]),T,3,false⟩,(o.up H.length (-9)).up H1.length q,?_,.inr ⟨H1.length,l.length+1,[],T,by simp,?_,by simp,aP⟩,?_⟩
   ·simp only[de,Ll,Option.map_some];rw[if_neg jb,if_pos (by simp;omega)]
    simp only[g2];rw[if_pos (by simp[lT];omega)]
    have e:aR H1 i 0 (l.length*3)=some (tG l):=by
     simp only[aR,g2];rw[if_pos (by simp[lT];omega),List.drop_zero,tk]
    simp only[e,ee]
   ·have:=aL (H:=H1.kill i) (c:=⟨tG (l++[e]),T,3,false⟩)
    rw[J3] at this;rw[List.append_nil];exact this
   ·have f2:=(f1.kill (i:=i) (λ_=>by simp[h5])).new ⟨tG (l++[e]),T,3,false⟩ q
    rw[J3] at f2;exact f2
theorem Lm {f:Nat}{first:Option Y.En}{l:List Y.En}{s:Y.St}(h:s.off=true):Y.ah (Y.di f first l) s=Y.ah (Y.di f first []) s:=by
 have e:Y.ah (Y.di f first []) s=((),s):=by
  cases first with
  |none=>rfl
  |some e=>unfold Y.di;simp only[Y.ak,bk,bH,bL,cR,cS,ne_eq,not_true_eq_false,not_false_eq_true,if_true,if_false,Bool.not_true,Bool.not_false,true_and,and_true,false_and,and_false,true_or,or_true,false_or,or_false,Bool.false_eq_true,decide_true,decide_false,h]
 rw[e];cases l with
 |nil=>exact e
 |cons x l=>unfold Y.di;simp only[Y.ak,bk,bH,bL,cR,cS,ne_eq,not_true_eq_false,not_false_eq_true,if_true,if_false,Bool.not_true,Bool.not_false,true_and,and_true,false_and,and_false,true_or,or_true,false_or,or_false,Bool.false_eq_true,decide_true,decide_false,h]
theorem R2 (h:JX K p st H){ff:Nat}(Xi:st.left≤ff){path:List Y.En}(hx: ∀H o,K H o→EH H o q x path)(hp: ∀e∈path, -9223372036854775808≤e.node∧e.node≤65536)(hn:path.length≤2147483648):aE (run G) 126 [pv p,x] H (Of K p st (Y.di (ff+1) none path)):=by
 refine Ev.up (t:=λk=>VY (run G k) k (pv p) x H) ?_ λk=>QU ..
 simp -implicitDefEqProofs only[VY,sS,Nat.reduceAdd];have hen: ∀{s':Y.St} {H':aa},JX K p s' H'→∃o,EH H' o q x path:=λhj=>by obtain⟨_,o,_,hk⟩:=hj;exact⟨o,hx _ _ hk⟩
 refine Ev.loop (k:=path.length) (λk vs Hx=>∃(i:Nat) (f:Int) (first:Option Y.En) (sx:Y.St) (bz x6 x7 x8 dY eF:Value),JX K p sx Hx∧sx.left≤ff∧i+k=path.length∧((f= -1∧first=none)∨∃(j:Nat) (hj:j<path.length),f=j∧first=some path[j])∧Y.ah (Y.di (ff+1) none path) st=Y.ah (Y.di (ff+1) first (path.drop i)) sx∧vs=[pv p,x,cv i,bz,x6,cv f,x7,x8,dY,eF])
  (λr=>∃(f:Int) (first:Option Y.En) (sx:Y.St),JX K p sx r.2.2∧sx.left≤ff∧r.1= .exit 0∧((f= -1∧first=none)∨∃(j:Nat) (hj:j<path.length),f=j∧first=some path[j])∧(Y.ah (Y.di (ff+1) none path) st=Y.ah (Y.di (ff+1) first []) sx)∧∃(x5 bz x6 x7 x8 dY eF:Value),r.2.1=[pv p,x,x5,bz,x6,cv f,x7,x8,dY,eF]) ⟨0, -1,none,st,_,_,_,_,_,_,h,Xi,by omega,.inl ⟨rfl,rfl⟩,rfl,rfl⟩ ?_ ?_
 ·rintro k vs Hx ⟨i,f,first,sx,bz,x6,x7,x8,dY,eF,hj,hl,hik,hf,E,rfl⟩
  obtain⟨o1,he⟩:=hen hj;have hw:IntKind.i64.wrap ((i:Int)+1)=((i+1:Nat):Int):=by rw[fL (by omega)];omega
  have iJ: ∀{s2:Y.St} {H2:aa} {f:Int} {first:Option Y.En} (bz x6 x7 x8 dY eF:Value),JX K p s2 H2→s2.left≤ff→i<path.length→((f= -1∧first=none)∨∃(j:Nat) (hj:j<path.length),f=j∧first=some path[j])→Y.ah (Y.di (ff+1) none path) st=Y.ah (Y.di (ff+1) first (path.drop (i+1))) s2→Ev (λk=>vj (run G k) k [pv p,x,cv i,bz,x6,cv f,x7,x8,dY,eF] H2) λr=>(r.1= .normal∧∃k',k'<k∧∃(i:Nat) (f:Int) (first:Option Y.En) (sx:Y.St) (bz x6 x7 x8 dY eF:Value),JX K p sx r.2.2∧sx.left≤ff∧i+k'=path.length∧((f= -1∧first=none)∨∃(j:Nat) (hj:j<path.length),f=j∧first=some path[j])∧Y.ah (Y.di (ff+1) none path) st=Y.ah (Y.di (ff+1) first (path.drop i)) sx∧r.2.1=[pv p,x,cv i,bz,x6,cv f,x7,x8,dY,eF])∨(r.1≠ .normal∧∃(f:Int) (first:Option Y.En) (sx:Y.St),JX K p sx r.2.2∧sx.left≤ff∧r.1= .exit 0∧((f= -1∧first=none)∨∃(j:Nat) (hj:j<path.length),f=j∧first=some path[j])∧(Y.ah (Y.di (ff+1) none path) st=Y.ah (Y.di (ff+1) first []) sx)∧∃(x5 bz x6 x7 x8 dY eF:Value),r.2.1=[pv p,x,x5,bz,x6,cv f,x7,x8,dY,eF]):=by
   intro s2 H2 f first bz x6 x7 x8 dY eF hj hl hi hf E
   simp -implicitDefEqProofs only[J5,xB,hw,sS,Nat.reduceAdd];exact Ev.ret (.inl ⟨rfl,k-1,by omega,i+1,f,first,s2,_,_,_,_,_,_,hj,hl,by omega,hf,E,rfl⟩)
  simp -implicitDefEqProofs only[J6,xC,he.len,sS,Nat.reduceAdd];refine Ev.lss (λhq=>?_) (λhq=>?_)<;>try simp -implicitDefEqProofs only[sS,Nat.reduceAdd]
  ·have Yy:i<path.length:=by omega
   obtain⟨ib,off,b,e1,e2,e3,e4⟩:=he.idx (j:=i) Yy;obtain⟨e5,e6⟩:=e4 _ e2;refine Ev.nW hj (λhq=>?_) (λhq=>?_)<;>try simp -implicitDefEqProofs only[e1,gQ,e5,sS,Nat.reduceAdd]
   ·rw[Lm hq] at E;exact Ev.ret (.inr ⟨by simp,f,first,sx,hj,hl,rfl,hf,E,_,_,_,_,_,_,_,rfl⟩)
   rw[List.drop_eq_getElem_cons Yy] at E;have E1:Y.ah (Y.di (ff+1) none path) st=Y.ah (Y.ad (Y.aw path[i].word+3) 1 >>= λc=>Y.rd (Y.aw path[i].word+1) >>= λs=>Y.di (ff+1) (match first with|some x=>some x|none=>if Y.wr (c+1)≥Y.Od s then some path[i] else none) (path.drop (i+1))) sx:=by
    rw[E];conv=>lhs;unfold Y.di
    simp only[Y.ak,bk,bH,bL,cR,cS,ne_eq,not_true_eq_false,not_false_eq_true,if_true,if_false,Bool.not_true,Bool.not_false,true_and,and_true,false_and,and_false,true_or,or_true,false_or,or_false,Bool.false_eq_true,decide_true,decide_false,hq];cases first<;>rfl
   refine Ev.is (nX _) ?_;simp -implicitDefEqProofs only[sS,Nat.reduceAdd,LW _ (j:=3) (by omega)]
   refine Ev.eS (Tq hj _ _) λc s1 H1 f1 k1=>?_
   have m1:=dk f1;rw[Y.aJ f1] at E1;simp -implicitDefEqProofs only[sS,Nat.reduceAdd,LW _ (j:=1) (by omega)]
   refine Ev.eS (cX k1 _) λs s2 H2 f2 k2=>?_
   have m2:=dk f2;rw[Y.aJ f2] at E1
   try simp -implicitDefEqProofs only[sS,Nat.reduceAdd]
   refine Ev.lss (λh3=>?_) (λh3=>?_)<;>try simp -implicitDefEqProofs only[sS,Nat.reduceAdd,cI]
   ·have ze:f= -1∧first=none:=by
     rcases hf with h|⟨j,hj,h,_⟩
     ·exact h
     ·omega
    obtain⟨rfl,rfl⟩:=ze;refine Ev.is (RK _) ?_
    try simp -implicitDefEqProofs only[sS,Nat.reduceAdd,cI]
    refine Ev.geq (λh4=>?_) (λh4=>?_)<;>try simp -implicitDefEqProofs only[sS,Nat.reduceAdd,cI]
    ·simp only[if_pos h4] at E1;exact iJ _ _ _ _ _ _ k2 (by omega) Yy (.inr ⟨i,Yy,rfl,rfl⟩) E1
    ·simp only[if_neg h4] at E1;exact iJ _ _ _ _ _ _ k2 (by omega) Yy (.inl ⟨rfl,rfl⟩) E1
   ·rcases hf with⟨h,_⟩|⟨j,y9,rfl,rfl⟩
    ·omega
    ·exact iJ _ _ _ _ _ _ k2 (by omega) Yy (.inr ⟨j,y9,rfl,rfl⟩) E1
  ·have:path.drop i=[]:=List.drop_eq_nil_of_le (by omega)
   rw[this] at E;exact Ev.ret (.inr ⟨by simp,f,first,sx,hj,hl,rfl,hf,E,_,_,_,_,_,_,_,rfl⟩)
 ·rintro e vs Hx ⟨f,first,sx,hj,hl,he,hf,E,x5,bz,x6,x7,x8,dY,eF,hv⟩
  simp only at he hv hj;subst he hv;simp -implicitDefEqProofs only[J7,xD,sS,Nat.reduceAdd];refine Ev.geq (λhq=>?_) (λhq=>?_)<;>try simp -implicitDefEqProofs only[sS,Nat.reduceAdd]
  ·rcases hf with⟨h,_⟩|⟨j,hjp,rfl,rfl⟩
   ·omega
   refine Ev.nW hj (λhq=>?_) (λhq=>?_)<;>try simp -implicitDefEqProofs only[sS,Nat.reduceAdd]
   ·refine Ev.ret (Of.of (z:=()) hj ?_);rw[E];unfold Y.di;simp only[Y.ak,bk,bH,bL,cR,cS,ne_eq,not_true_eq_false,not_false_eq_true,if_true,if_false,Bool.not_true,Bool.not_false,true_and,and_true,false_and,and_false,true_or,or_true,false_or,or_false,Bool.false_eq_true,decide_true,decide_false,hq]
   ·obtain⟨o1,he⟩:=hen hj;obtain⟨ib,off,b,e1,e2,e3,e4⟩:=he.idx (j:=j) hjp;obtain⟨e5,e6⟩:=e4 _ e2;simp -implicitDefEqProofs only[e1,e6,sS,Nat.reduceAdd];refine Ev.K4 (R1 hj (f:=ff) hl (hp _ (List.getElem_mem hjp)) _ _) λz s3 H3 e3 gA=>?_
    try simp -implicitDefEqProofs only[sS,Nat.reduceAdd]
    refine Ev.ret (Of.of (z:=()) gA ?_);rw[E];unfold Y.di;simp only[Y.ak,bk,bH,bL,cR,cS,ne_eq,not_true_eq_false,not_false_eq_true,if_true,if_false,Bool.not_true,Bool.not_false,true_and,and_true,false_and,and_false,true_or,or_true,false_or,or_false,Bool.false_eq_true,decide_true,decide_false,hq];have e3':Y.ah (Y.oO (ff+1) path[j]) sx=(z,s3):=e3;rw[e3']
  ·rcases hf with⟨rfl,rfl⟩|⟨j,hjp,rfl,rfl⟩
   ·exact Ev.ret (Of.of (z:=()) hj (by rw[E];rfl))
   ·omega
end
section
variable {G:ae} {H H':aa} {o o':aj} {p m c:Nat} {K K':aa→aj→Prop} {t q:Int} {x:Value} {l:PL} {n i:Nat} {cs:List Value} {T:TypeId}
def Cl (i:Nat)(cs:List Value)(T:TypeId)(H:aa)(o:aj):Prop:=H.get i=some ⟨cs,T,1,false⟩∧o i= -9
theorem Cl.fr {ps:List Int}(h:Cl i cs T H o)(f:Fr H o H' o' ps)(hp:(-9:Int) ∉ ps):Cl i cs T H' o':=
 ⟨by rw[f.same i (ar h.1) (by rw[h.2];exact hp)];exact h.1,by rw[f.own i (ar h.1)];exact h.2⟩
theorem Cl.new {c:eM}(h:Cl i cs T H o):Cl i cs T (H.new c) (o.up H.length (-9)):=h.fr ((Fr.refl H o []).new _ _) (by simp)
theorem Cl.put {j:Nat}{c:eM}(h:Cl i cs T H o)(dy:i≠j):Cl i cs T (H.put j c) o:=⟨by rw[bt dy];exact h.1,h.2⟩
theorem Cl.self (h:Cl i cs T H o){ds:List Value}:Cl i ds T (H.put i ⟨ds,T,1,false⟩) o:=⟨aG h.1,h.2⟩
theorem Cl.made:Cl H.length cs T (H.new ⟨cs,T,1,false⟩) (o.up H.length (-9)):=⟨aL,aP⟩
theorem kZ (l:List Int)(T:TypeId):eG (H.new ⟨l.map cv,T,1,false⟩) (.slice (some ⟨H.length,0,none⟩) l.length l.length) l:=(oJ.new H o0 (-9) T l).ints.1
theorem CK {l:List Int}(h:eG H x l)(c:eM):eG (H.new c) x l:=h.keep λi b e dy=>by
 rcases h with⟨e1,e2⟩|⟨j,off,cc,e1,hb⟩
 ·exact absurd e2 dy
 ·obtain⟨bb,g1,_⟩:=hb dy;rw[e1] at e;cases e;exact df (ar g1)
abbrev rc (r:eI):List Value:=[cv r.D5,.bool r.found,cv r.key,cv r.value,cv r.n,aA]
abbrev n5 (op:jY):List Value:=[cv op.kind,cv op.key,cv op.value]
theorem aaj (a b:Int)(H:aa):MN (cv a) (cv b) H=some (cv (if b>a then b else a),H):=rfl
end
section
variable {G:ae} {H H':aa} {o o':aj} {p m c:Nat} {K K':aa→aj→Prop} {t q:Int} {x:Value} {l:PL} {n i:Nat} {cs:List Value} {T:TypeId}
structure KL (B:aa) (b:aj) (p i0 i1 i2:Nat) (op:jY) (c1:List Value) (r2:eI) (H:aa) (o:aj):Prop where
 fr:Fr B b H o [(p:Int)]
 k0:Cl i0 (n5 op) 39 H o
 k1:Cl i1 c1 47 H o
 k2:Cl i2 (rc r2) 47 H o
structure KLd (B:aa) (i0 i1 i2:Nat):Prop where
 a:i0=B.length
 b:i1=B.length+1
 c:i2=B.length+2
section
variable {B:aa} {b:aj} {i0 i1 i2:Nat} {op:jY} {c1:List Value} {r2:eI}
theorem KL.eU:bJ [(p:Int)] (KL B b p i0 i1 i2 op c1 r2):=λH o H' o' h f=>⟨h.fr.tr f,h.k0.fr f (by simp),h.k1.fr f (by simp),h.k2.fr f (by simp)⟩
end
theorem acy (a b:Int):aF Tryz.prog 45 [(0,cv a),(1,cv b)]=some (.agg #[cv a,cv b]):=yS a b
end
section
open Go.Proofs.YtgfgglponbmgmaaGreatA
variable {G:ae} {H H':aa} {o o':aj} {p c n i:Nat} {K K':aa→aj→Prop} {t q:Int} {x:Value} {l:List Y.En} {st LV s1:Y.St} {α β:Type} {cs:List Value} {T:TypeId}
theorem JX.nB (h:JX K p st H)(cs:List Value)(T:TypeId)(es:Nat)(R3:bJ [(p:Int)] K')(k: ∀o,K H o→Fr H o (H.new ⟨cs,T,es,false⟩) (o.up H.length (-9)) []→K' (H.new ⟨cs,T,es,false⟩) (o.up H.length (-9))):JX K' p st (H.new ⟨cs,T,es,false⟩):=by
 obtain⟨hK,o,hr,hk⟩:=h;have f:Fr H o (H.new ⟨cs,T,es,false⟩) (o.up H.length (-9)) []:=(Fr.refl H o []).new _ _;exact⟨R3,_,hr.fr f (by simp) (by simp) (by simp),k o hk f⟩
theorem JX.tH (h:JX K p st H){c:eM}(hc: ∀o,K H o→Cl i cs T H o)(R3:bJ [(p:Int)] K')(k: ∀o,K H o→K' (H.put i c) o):JX K' p st (H.put i c):=by
 obtain⟨hK,o,hr,hk⟩:=h;have f:Fr H o (H.put i c) o [-9]:=(Fr.refl H o [-9]).put λ_=>by simp[(hc o hk).2]
 exact⟨R3,_,hr.fr f (by simp) (by simp) (by simp),k o hk⟩
theorem JX.new (h:JX K p st H)(c:eM):JX K p st (H.new c):=h.ue λo=>⟨o.up H.length (-9),(Fr.refl H o []).new _ _⟩
abbrev n9 (op:jY):Y.Op:=⟨op.kind,op.key,op.value⟩
theorem It (h:JX K p st H):aE (run G) 166 [] H λv H'=>v=gj (lE 8) aA∧JX K p st H':=by
 refine Ev.up (t:=λk=>WX (run G k) k H) ?_ λk=>Rz ..
 simp -implicitDefEqProofs only[WX,aS,sS,Nat.reduceAdd];have g:(H.new ⟨[cv 0,.bool false,cv 0,cv 0,cv 0,aA],47,1,false⟩).get H.length=some ⟨[cv 0,.bool false,cv 0,cv 0,cv 0,aA],47,1,false⟩:=aL;have mj:=tD H.length (lE 8) (s:=aA) rfl _ g rfl;have uu:=pQ H.length (lE 8) (s:=aA) (t:=47) _ (aG g);simp -implicitDefEqProofs only[Lj,mj,uu,sS,Nat.reduceAdd];refine Ev.ret ⟨rfl,?_⟩;obtain⟨hK,o,hr,hk⟩:=h;have f:Fr H o ((H.new ⟨[cv 0,.bool false,cv 0,cv 0,cv 0,aA],47,1,false⟩).put H.length ⟨[cv (lE 8).D5,.bool (lE 8).found,cv (lE 8).key,cv (lE 8).value,cv (lE 8).n,aA],47,1,false⟩) (o.up H.length (-9)) []:=((Fr.refl H o []).new _ _).put λhh=>absurd hh (by omega)
 exact⟨hK,_,hr.fr f (by simp) (by simp) (by simp),hK _ _ _ _ hk (f.wk (by simp))⟩
theorem R4 (h:JX K p st H)(op:jY)(w q:Int)(leaf there:Bool):aE (run G) 169 [pv p,jj op,cv w,cv q,.bool leaf,.bool there] H (iw K p st (Y.mf (n9 op) w q leaf there)):=by
 refine Ev.up (t:=λk=>WY (run G k) k (pv p) (jj op) (cv w) (cv q) (.bool leaf) (.bool there) H) ?_ λk=>RA ..
 have hK:=h.1;obtain⟨i0,ei⟩: ∃i,i=H.length:=⟨_,rfl⟩;obtain⟨H1,e1⟩: ∃z,z=H.new ⟨n5 op,39,1,false⟩:=⟨_,rfl⟩;have fv:JX (λH o=>K H o∧Cl i0 (n5 op) 39 H o) p st H1:=by
  rw[e1];refine h.nB _ _ 1 (hK.and λH o H' o' a f=>a.fr f (by simp)) λo hk f=>⟨hK _ _ _ _ hk (f.wk (by simp)),?_⟩
  rw[ei];exact Cl.made
 have hU: ∀{s':Y.St} {H':aa},JX (λH o=>K H o∧Cl i0 (n5 op) 39 H o) p s' H'→JX K p s' H':=λhj=>hj.mono hK λo a=>a.1
 have L0: ∀{s':Y.St} {H':aa},JX (λH o=>K H o∧Cl i0 (n5 op) 39 H o) p s' H'→aq (.pointer (some ⟨i0,0,none⟩)) H'=some (cv op.kind)∧aq (.pointer (some ⟨i0,1,none⟩)) H'=some (cv op.key)∧aq (.pointer (some ⟨i0,2,none⟩)) H'=some (cv op.value):=λhj=>by
  obtain⟨_,o,_,_,g,_⟩:=hj;exact⟨ao i0 0 _ g,ao i0 1 _ g,ao i0 2 _ g⟩
 obtain⟨a0,a1,a2⟩:=L0 fv;have bx:=CH op H;rw[←ei, ←e1] at bx;simp -implicitDefEqProofs only[WY,bx,a0,a1,a2,sS,Nat.reduceAdd];refine Ev.eql (λhq=>?_) (λhq=>?_)<;>try simp -implicitDefEqProofs only[a0,a1,a2,sS,Nat.reduceAdd]
 ·refine Ev.RP (sj fv) λw Hz hj=>?_
  refine Ev.si (nu hj) λz s2 Hz ez hj=>?_
  have y9:=hU hj
  try simp -implicitDefEqProofs only[sS,Nat.reduceAdd]
  refine Ev.is (nY _ _) ?_
  try simp -implicitDefEqProofs only[sS,Nat.reduceAdd]
  refine Ev.ret (iw.of y9 ?_);unfold Y.mf;rw[if_pos hq];simp only[Y.ak,bk,bH,bL,cR,cS,ne_eq,not_true_eq_false,not_false_eq_true,if_true,if_false,Bool.not_true,Bool.not_false,true_and,and_true,false_and,and_false,true_or,or_true,false_or,or_false,Bool.false_eq_true,decide_true,decide_false,ez]
 refine Ev.RP (uc fv _ _) λw1 Hz hj=>?_
 refine Ev.si (nu hj) λz s2 Hz ez hj=>?_
 try simp -implicitDefEqProofs only[sS,Nat.reduceAdd]
 refine Ev.is (nY _ _) ?_;have y9:=hU hj;have E:Y.ah (Y.mf (n9 op) w q leaf there) st=Y.ah (if ¬z>0∨leaf=false∨there=true then pure (Y.fI 2 z,decide (z>0)) else Y.mk (Y.cP 2 [max q op.key] (if op.key<q then[Y.fI 2 z,w] else[w,Y.fI 2 z])) >>= λb=>pure (Y.fI 3 b,decide (b>0))) s2:=by
  unfold Y.mf;rw[if_neg hq];simp only[Y.ak,bk,bH,bL,cR,cS,ne_eq,not_true_eq_false,not_false_eq_true,if_true,if_false,Bool.not_true,Bool.not_false,true_and,and_true,false_and,and_false,true_or,or_true,false_or,or_false,Bool.false_eq_true,decide_true,decide_false,ez]
 try simp -implicitDefEqProofs only[sS,Nat.reduceAdd]
 by_cases hz:z>0
 ·simp -implicitDefEqProofs only[hz,decide_true,sS,Nat.reduceAdd];cases leaf<;>simp -implicitDefEqProofs only[sS,Nat.reduceAdd]
  ·exact Ev.ret (iw.of y9 (by rw[E,if_pos (by simp)];simp only[hz,decide_true];rfl))
  cases there<;>simp -implicitDefEqProofs only[sS,Nat.reduceAdd]
  ·rw[if_neg (by simp;omega)] at E
   have J0: ∀{H1:aa} {y:Value} (l:List Int) (aN aI bA aM aT aW bf dR aU fN:Value),JX (λH o=>K H o∧Cl i0 (n5 op) 39 H o) p s2 H1→eG H1 y l→l.length≤10→Y.ah (Y.mf (n9 op) w q true false) st=Y.ah (Y.mk (Y.cP 2 [max q op.key] l) >>= λb=>pure (Y.fI 3 b,decide (b>0))) s2→Ev (λk=>vB (run G k) k [pv p,jj op,cv w,cv q,.bool true,.bool false,aN,aI,pv i0,bA,aM,aT,aW,bf,dR,aU,fN,y] H1) λr=>iw K p st (Y.mf (n9 op) w q true false) r.1 r.2:=by
    intro H1 y l aN aI bA aM aT aW bf dR aU fN hj hy hl E;obtain⟨a0,a1,a2⟩:=L0 hj;simp -implicitDefEqProofs only[KT,yx,a1,aaj,zP,sS,Nat.reduceAdd];refine Ev.RP (nA (hj.new _) _ (kZ [_] _) (CK hy _) (by simp;omega)) λw1 Hz hj=>?_
    refine Ev.si (nu hj) λz s3 Hz ez hj=>?_
    have y9:=hU hj
    try simp -implicitDefEqProofs only[sS,Nat.reduceAdd]
    refine Ev.is (nY _ _) ?_
    try simp -implicitDefEqProofs only[sS,Nat.reduceAdd]
    refine Ev.ret (iw.of y9 ?_);have em:max q op.key=if op.key>q then op.key else q:=by split<;>omega
    rw[E,em,Y.aJ ez];rfl
   obtain⟨b0,b1,b2⟩:=L0 (hj.new ⟨[cv w,cv (Y.fI 2 z)],2,1,false⟩);simp -implicitDefEqProofs only[RO,b0,b1,sS,Nat.reduceAdd];refine Ev.lss (λhq=>?_) (λhq=>?_)<;>try simp -implicitDefEqProofs only[RO,sS,Nat.reduceAdd]
   ·rw[if_pos hq] at E;exact J0 [Y.fI 2 z,w] _ _ _ _ _ _ _ _ _ _ ((hj.new _).new _) (kZ [Y.fI 2 z,w] _) (by simp) E
   ·rw[if_neg hq] at E;exact J0 [w,Y.fI 2 z] _ _ _ _ _ _ _ _ _ _ (hj.new _) (kZ [w,Y.fI 2 z] _) (by simp) E
  ·exact Ev.ret (iw.of y9 (by rw[E,if_pos (by simp)];simp only[hz,decide_true];rfl))
 ·simp -implicitDefEqProofs only[hz,decide_false,sS,Nat.reduceAdd];exact Ev.ret (iw.of y9 (by rw[E,if_pos (.inl hz)];simp only[hz,decide_false];rfl))
end
end Go.Proofs.YtgfgglponbmgmaaGreat.Fun
end
