/- Texts of the proof of dcssPlays_holds, put together by a small program of ours (names shortened, spaces taken out). No condition beyond the given statement. -/
import Derived.Test.YtgfgglponbmgmaaGreatDCP10
import Derived.Test.YtgfgglponbmgmaaGreatDCP13
import Derived.Test.YtgfgglponbmgmaaGreatDCP17
import Derived.Test.YtgfgglponbmgmaaGreatDCP18
import Derived.Test.YtgfgglponbmgmaaGreatDCP27
import Derived.Test.YtgfgglponbmgmaaGreatDCP20
import Derived.Test.YtgfgglponbmgmaaGreatDCP9
import Derived.Test.YtgfgglponbmgmaaGreatDCP14
import Derived.Test.YtgfgglponbmgmaaGreatDCP16
set_option linter.unusedVariables false
set_option linter.unusedSimpArgs false
set_option linter.unnecessarySimpa false
noncomputable section
section
namespace Go.Proofs.YtgfgglponbmgmaaGreat.Fun
open Go Go.RowKit Go.Proofs.YtgfgglponbmgmaaGreatA.Am
set_option maxRecDepth 10000
section
open Go.Proofs.YtgfgglponbmgmaaGreatA
variable {G:ae} {H H':aa} {o o':aj} {p c:Nat} {K:aa→aj→Prop} {t:Int} {x:Value} {l:PL} {st No s1:Y.St} {α β:Type}
theorem Jz (h:JX K p st H){f:Nat}(hf:st.left≤f)(a:Int):aF (run G) 124 [pv p,cv a] H (jR K p st (Y.hX (f+1) a)):=by
 have w4: ∀j:Int,IntKind.i64.wrap (a+j)=Y.wr (a+j):=λj=>cG _
 refine Ev.up (t:=λk=>YF (run G k) k (pv p) (cv a) H) ?_ λk=>SQ ..
 simp -implicitDefEqProofs only[YF,sS,Nat.reduceAdd];have J0: ∀{s3:Y.St} {H1:aa} {n w:Int} (tt:Int) (x4 cg cd x9 dR x8 eh aD aN:Value),(-9223372036854775808≤tt∧tt≤65536)→JX K p s3 H1→s3.left≤f→Y.ah (Y.hX (f+1) a) st=Y.ah (Y.Bl (f+1) a tt n w) s3→Ev (λk=>vQ (run G k) k [pv p,cv a,x4,cv tt,cg,cv w,cd,cv n,x9,dR,x8,eh,aD,aN] H1) λr=>jR K p st (Y.hX (f+1) a) r.1 r.2:=by
  intro s3 H1 n w tt x4 cg cd x9 dR x8 eh aD aN htt hj hl E;simp -implicitDefEqProofs only[LQ,yy,sS,Nat.reduceAdd];have VK: ∀{s4:Y.St} {H4:aa},JX K p s4 H4→Y.ah (Y.hX (f+1) a) st=Y.ah (Y.tY a w) s4→∀{k:Nat→Value→aa→Option (Value×aa)},(∀z s5 H5,Y.ah (Y.hX (f+1) a) st=(z,s5)→JX K p s5 H5→Ev (λn=>k n (.bool z) H5) λr=>jR K p st (Y.hX (f+1) a) r.1 r.2)→
    Ev (λn=>af (run G n 139 [pv p,cv (Y.wr (a+1))] H4) λg H=>af (run G n 139 [pv p,cv (Y.wr (a+2))] H) λs H=>af (run G n 59 [cv 4,cv a] H) λme H=>af (run G n 116 [pv p,g,s,me,cv w] H) λz H=>af (pS (ai Tryz.prog .neq 3 z (cv 3)) H) λz H=>k n z H) λr=>jR K p st (Y.hX (f+1) a) r.1 r.2:=by
   intro s4 H4 jc E4 k hk;refine Ev.eY (de jc _) λg s5 H5 e5 lJ=>?_
   refine Ev.eY (de lJ _) λs s6 H6 e6 n9=>?_
   refine Ev.is (pJ _ _) ?_;refine Ev.eY (C4 n9 _ _ _ _) λz s7 H7 e7 JA=>?_
   rw[CS];simp -implicitDefEqProofs only[sS,Nat.reduceAdd];refine hk _ s7 H7 ?_ JA;rw[E4];unfold Y.tY;simp only[Y.al,bo,bK,bO,cS,cT,ne_eq,not_true_eq_false,not_false_eq_true,if_true,if_false,Bool.not_true,Bool.not_false,true_and,and_true,false_and,and_false,true_or,or_true,false_or,or_false,Bool.false_eq_true,decide_true,decide_false,e5,e6,e7]
   congr 1
   by_cases hz:z=3<;>simp[hz]
  have w1:=w4 1;have w2:=w4 2;unfold Y.Bl at E;refine Ev.geq (λh2=>?_) (λh2=>?_)<;>try simp -implicitDefEqProofs only[sS,Nat.reduceAdd,w1,w2]
  ·rw[if_pos h2] at E;refine Ev.is (n5 _) ?_;refine Ev.Mx (TH hj (f:=f) hl a htt n _) λok s4 H4 e4 jc=>?_
   rw[Y.aI e4] at E
   try simp -implicitDefEqProofs only[sS,Nat.reduceAdd,w1,w2]
   cases ok<;>try simp -implicitDefEqProofs only[sS,Nat.reduceAdd,w1,w2]
   ·exact Ev.ret (jR.of jc (by rw[E];rfl))
   ·rw[if_neg (by simp)] at E
    exact VK jc E λz s5 H5 e5 lJ=>Ev.ret (jR.of lJ e5)
  ·rw[if_neg h2] at E;exact VK hj E λz s5 H5 e5 lJ=>Ev.ret (jR.of lJ e5)
 refine Ev.eY (de h _) λtw s1 H1 e1 fH=>?_
 have l1:=dr e1
 try simp -implicitDefEqProofs only[sS,Nat.reduceAdd]
 refine Ev.is (n5 _) ?_
 try simp -implicitDefEqProofs only[sS,Nat.reduceAdd]
 refine Ev.eY (Zd f fH (by omega) (qe _)) λn s2 H2 e2 fI=>?_
 have l2:=dt e2;simp -implicitDefEqProofs only[w4 3,sS,Nat.reduceAdd];refine Ev.eY (de fI _) λw s3 H3 e3 gE=>?_
 have l3:=dr e3
 try simp -implicitDefEqProofs only[sS,Nat.reduceAdd]
 refine Ev.n3 gE (λhq=>?_) (λhq=>?_)<;>try simp -implicitDefEqProofs only[sS,Nat.reduceAdd]
 ·refine Ev.ret (jR.of gE ?_);unfold Y.hX;simp only[Y.al,bo,bK,bO,cS,cT,ne_eq,not_true_eq_false,not_false_eq_true,if_true,if_false,Bool.not_true,Bool.not_false,true_and,and_true,false_and,and_false,true_or,or_true,false_or,or_false,Bool.false_eq_true,decide_true,decide_false,e1,e2,e3,hq]
 refine Ev.eql (λh0=>?_) (λh0=>?_)<;>try simp -implicitDefEqProofs only[sS,Nat.reduceAdd]
 ·refine Ev.EV (abx gE (f:=f) (by omega) (qe _) n) λx b s4 H4 e4 jc=>?_
  have l4:=dt e4
  try simp -implicitDefEqProofs only[sS,Nat.reduceAdd]
  cases b<;>try simp -implicitDefEqProofs only[sS,Nat.reduceAdd]
  ·refine Ev.ret (jR.of jc ?_);unfold Y.hX;simp only[Y.al,bo,bK,bO,cS,cT,ne_eq,not_true_eq_false,not_false_eq_true,if_true,if_false,Bool.not_true,Bool.not_false,true_and,and_true,false_and,and_false,true_or,or_true,false_or,or_false,Bool.false_eq_true,decide_true,decide_false,e1,e2,e3,hq,h0,e4]
  try simp -implicitDefEqProofs only[w4 3,sS,Nat.reduceAdd]
  refine Ev.PS (EW jc _ _ _) λz s5 H5 e5 lJ=>?_
  have l5:=dt e5
  try simp -implicitDefEqProofs only[w4 3,sS,Nat.reduceAdd]
  refine Ev.eY (de lJ _) λw' s6 H6 e6 n9=>?_
  have l6:=dr e6
  try simp -implicitDefEqProofs only[sS,Nat.reduceAdd]
  refine J0 _ _ _ _ _ _ _ _ _ _ (qe _) n9 (by omega) ?_
  unfold Y.hX;simp only[Y.al,bo,bK,bO,cS,cT,ne_eq,not_true_eq_false,not_false_eq_true,if_true,if_false,Bool.not_true,Bool.not_false,true_and,and_true,false_and,and_false,true_or,or_true,false_or,or_false,Bool.false_eq_true,decide_true,decide_false,e1,e2,e3,hq,h0,e4,Bool.true_eq_false,e5,e6]
 ·refine J0 _ _ _ _ _ _ _ _ _ _ (qe _) gE (by omega) ?_
  unfold Y.hX;simp only[Y.al,bo,bK,bO,cS,cT,ne_eq,not_true_eq_false,not_false_eq_true,if_true,if_false,Bool.not_true,Bool.not_false,true_and,and_true,false_and,and_false,true_or,or_true,false_or,or_false,Bool.false_eq_true,decide_true,decide_false,e1,e2,e3,hq,h0]
theorem JX.box (h:JX K p st H)(cs:List Value)(T:TypeId):JX (λH' o=>K H' o∧H'.get H.length=some ⟨cs,T,1,false⟩∧o H.length= -9∧H.length<H'.length) p st (H.new ⟨cs,T,1,false⟩):=by
 obtain⟨hK,o,hr,hk⟩:=h;have f:Fr H o (H.new ⟨cs,T,1,false⟩) (o.up H.length (-9)) []:=(Fr.refl H o []).new _ _;refine⟨hK.and λH1 o1 H2 o2 a f=>?_,_,hr.fr f (by simp) (by simp) (by simp),hK _ _ _ _ hk (f.wk (by simp)),aK,aO,by rw[cC];omega⟩
 obtain⟨a1,a2,a3⟩:=a;exact⟨by rw[f.same _ a3 (by rw[a2];simp)];exact a1,by rw[f.own _ a3];exact a2,by have:=f.size;omega⟩
theorem TJ (h:JX K p st H){f:Nat}(hf:st.left≤f){a:Int}(ha: -9223372036854775808≤a∧a≤65536)(b c:Int):aF (run G) 125 [pv p,.agg #[cv a,cv b,cv c]] H (jR K p st (Y.oN (f+1) ⟨a,b,c⟩)):=by
 have w2:IntKind.i64.wrap (a+2)=a+2:=gz (by omega)
 refine Ev.up (t:=λk=>YS (run G k) k (pv p) (.agg #[cv a,cv b,cv c]) H) ?_ λk=>S9 ..
 have hK:=h.1;have hjb:=h.box [cv a,cv b,cv c] 37;have il: ∀{s':Y.St} {H':aa},JX (λH' o=>K H' o∧H'.get H.length=some ⟨[cv a,cv b,cv c],37,1,false⟩∧o H.length= -9∧H.length<H'.length) p s' H'→JX K p s' H':=λhj=>hj.mono hK λo a=>a.1
 obtain⟨H1,e1⟩: ∃z,z=H.new ⟨[cv a,cv b,cv c],37,1,false⟩:=⟨_,rfl⟩;have g1:H1.get H.length=some ⟨[cv a,cv b,cv c],37,1,false⟩:=by rw[e1];exact aK
 rw[←e1] at hjb;have L0:=λ{H':aa} (g:H'.get H.length=some ⟨[cv a,cv b,cv c],37,1,false⟩)=>an H.length 0 H' g
 have L1:=λ{H':aa} (g:H'.get H.length=some ⟨[cv a,cv b,cv c],37,1,false⟩)=>an H.length 1 H' g
 have L2:=λ{H':aa} (g:H'.get H.length=some ⟨[cv a,cv b,cv c],37,1,false⟩)=>an H.length 2 H' g
 simp only[List.getElem?_cons_succ,List.getElem?_cons_zero] at L0 L1 L2;simp -implicitDefEqProofs only[YS,abv, ←e1,L0 g1,L1 g1,L2 g1,sS,Nat.reduceAdd,w2];refine Ev.Tu (zi hjb _ _ _) λw Hz hj=>?_
 refine Ev.sC (nD hj) λz s1 Hz ez hj=>?_
 simp -implicitDefEqProofs only[sS,Nat.reduceAdd];refine Ev.brN (λhz=>?_) (λhz=>?_)<;>try simp -implicitDefEqProofs only[sS,Nat.reduceAdd]
 ·refine Ev.ret (jR.of (il hj) ?_);unfold Y.oN;simp only[Y.al,bo,bK,bO,cS,cT,ne_eq,not_true_eq_false,not_false_eq_true,if_true,if_false,Bool.not_true,Bool.not_false,true_and,and_true,false_and,and_false,true_or,or_true,false_or,or_false,Bool.false_eq_true,decide_true,decide_false,ez,hz]
 obtain⟨_,o2,_,_,g2,_⟩:=id hj;simp -implicitDefEqProofs only[L0 g2,L1 g2,L2 g2,sS,Nat.reduceAdd,w2];refine Ev.is (pJ _ _) ?_;refine Ev.eY (C4 hj _ _ _ _) λr s2 Hz e2 fI=>?_
 have l1:s1.left≤st.left:=dt ez;have l2:=dt e2;simp -implicitDefEqProofs only[L0 g2,L1 g2,L2 g2,sS,Nat.reduceAdd,w2];have gE:=il fI;have E:Y.ah (Y.oN (f+1) ⟨a,b,c⟩) st=Y.ah (if r=1 then Y.hX (f+1) z else pure (decide (r≠3))) s2:=by
  unfold Y.oN;simp only[Y.al,bo,bK,bO,cS,cT,ne_eq,not_true_eq_false,not_false_eq_true,if_true,if_false,Bool.not_true,Bool.not_false,true_and,and_true,false_and,and_false,true_or,or_true,false_or,or_false,Bool.false_eq_true,decide_true,decide_false,ez,hz,e2]
 refine Ev.eql (λh1=>?_) (λh1=>?_)<;>try simp -implicitDefEqProofs only[sS,Nat.reduceAdd]
 ·rw[if_pos h1] at E;refine Ev.Mx (Jz gE (f:=f) (by omega) z) λok s3 H3 e3 jc=>?_
  try simp -implicitDefEqProofs only[sS,Nat.reduceAdd]
  exact Ev.ret (jR.of jc (by rw[E,e3]))
 rw[if_neg h1] at E;refine Ev.eql (λh3=>?_) (λh3=>?_)<;>try simp -implicitDefEqProofs only[sS,Nat.reduceAdd]
 ·exact Ev.ret (jR.of gE (by rw[E];simp only[Y.al,bo,bK,bO,cS,cT,ne_eq,not_true_eq_false,not_false_eq_true,if_true,if_false,Bool.not_true,Bool.not_false,true_and,and_true,false_and,and_false,true_or,or_true,false_or,or_false,Bool.false_eq_true,decide_true,decide_false,h3]))
 ·exact Ev.ret (jR.of gE (by rw[E];simp only[Y.al,bo,bK,bO,cS,cT,ne_eq,not_true_eq_false,not_false_eq_true,if_true,if_false,Bool.not_true,Bool.not_false,true_and,and_true,false_and,and_false,true_or,or_true,false_or,or_false,Bool.false_eq_true,decide_true,decide_false,h3]))
end
abbrev kk:List FuncId:=[14,25,34,45]
theorem okP:mW Tryz.prog (oo Tryz.prog)=true:=by kernel_rfl
theorem ac9:mW Tryz.prog (kk++oo Tryz.prog)=true:=by kernel_rfl
theorem ML:(kk.all λk=>(gC Tryz.prog (oo Tryz.prog) Nn 2000 k [] []).any λr=>oj r.1 (.bool true))=true:=by kernel_rfl
abbrev KG:ae:=qJ kk
theorem Zg {f:FuncId}{ts:List TypeId}(h: ∀H args,jF H→yX Tryz.prog H 9 ts args→∃n H',run KG n f args H=some (.bool true,H')):Vn Tryz.prog f ts:=
 Vn.PG kk 2000 okP ac9 ML h
end Go.Proofs.YtgfgglponbmgmaaGreat.Fun
end
section
namespace Go.Proofs.YtgfgglponbmgmaaGreat.Fun
open Go Go.RowKit Go.Proofs.YtgfgglponbmgmaaGreatA.Am
section
variable {G:ae} {n:Nat}
def _root_.Go.Proofs.YtgfgglponbmgmaaGreatA.Am.aj.from (o:aj)(n:Nat)(Q:Int):aj:=λi=>if n≤i then Q else o i
theorem Db {o:aj}{n i:Nat}{Q:Int}(h:n≤i):o.from n Q i=Q:=by simp[aj.from,h]
theorem Dc {o:aj}{n i:Nat}{Q:Int}(h:i<n):o.from n Q i=o i:=by unfold aj.from;rw[if_neg (by omega)]
end
structure Ext (H H':aa):Prop where
 old: ∀j,j<H.length→H'[j]? =H[j]?
 size:H.length≤H'.length
theorem Ext.refl (H:aa):Ext H H:=⟨λ_ _=>rfl,Nat.le_refl _⟩
theorem Ext.trans {H H1 H2:aa}(a:Ext H H1)(b:Ext H1 H2):Ext H H2:=⟨λj hj=>by rw[b.old j (Nat.lt_of_lt_of_le hj a.size),a.old j hj],Nat.le_trans a.size b.size⟩
theorem Ext.new {H H1:aa}(a:Ext H H1)(c:eS):Ext H (H1.new c):=a.trans ⟨λj hj=>mN hj,by rw[cC];omega⟩
theorem Ext.put {H H1:aa}(a:Ext H H1){i:Nat}{c:eS}(h:H.length≤i):Ext H (H1.put i c):=⟨λj hj=>by rw[fD (by omega),a.old j hj],by rw[iK];exact a.size⟩
theorem Ext.fr {H H':aa}(a:Ext H H')(o:aj)(Q:Int):Fr H o H' (o.from H.length Q) []:=⟨λj hj _=>a.old j hj,λj hj=>Dc hj,a.size⟩
theorem Ext.get {H H':aa}(a:Ext H H'){i:Nat}{b:eS}(h:H.get i=some b):H'.get i=some b:=by rw[eo (a.old i (ar h))];exact h
theorem Ext.of {H H':aa}{o o':aj}{ps:List Int}(f:Fr H o H' o' ps)(h: ∀i,i<H.length→o i ∉ ps):Ext H H':=⟨λj hj=>f.slot j hj (h j hj),f.size⟩
section
variable {G:ae} {H:aa} {o:aj} {q:Int} {x:Value} {l:PL} {n p:Nat}
end
structure ki where
 kind:Int
 key:Int
 value:Int
structure eO where
 ET:Int
 found:Bool
 key:Int
 value:Int
 n:Int
 list:PL
abbrev jw (op:ki):Value:=.agg #[cv op.kind,cv op.key,cv op.value]
abbrev gu (r:eO)(s:Value):Value:=.agg #[cv r.ET,.bool r.found,cv r.key,cv r.value,cv r.n,s]
def bS:eO:=⟨0,false,0,0,0,[]⟩
def MM (t:Int×Int×Bool):eO:=if t.2.2 then⟨0,true,t.1,t.2.1,0,[]⟩ else bS
def lK (w:Int):eO:=⟨w,false,0,0,0,[]⟩
theorem Dd (op:ki)(H:aa):dK 39 (jw op) H=some (pv H.length,H.new ⟨[cv op.kind,cv op.key,cv op.value],39,1,false⟩):=by
 simp[dK,Value.cells,aC,aS]
theorem Ri {H:aa}{b:Nat}{op:ki}{t:TypeId}(h:H.get b=some ⟨[cv op.kind,cv op.key,cv op.value],t,1,false⟩):df 3 (pv b) H=some (jw op):=by
 simp[df,aQ,h]
theorem uc (b:Nat)(r:eO){s:Value}{a:Option Addr}{m c:Nat}(es:s= .slice a m c){cs:List Value}{t:TypeId}(H:aa)(h:H.get b=some ⟨cs,t,1,false⟩)(hl:cs.length=6):
  bD 6 (pv b) (gu r s) H=some (undef,H.put b ⟨[cv r.ET,.bool r.found,cv r.key,cv r.value,cv r.n,s],t,1,false⟩):=by
 subst es;obtain⟨c0,c1,c2,c3,c4,c5,rfl⟩: ∃c0 c1 c2 c3 c4 c5,cs=[c0,c1,c2,c3,c4,c5]:=by
  match cs,hl with
  | [c0,c1,c2,c3,c4,c5],_=>exact⟨c0,c1,c2,c3,c4,c5,rfl⟩
 simp[bD,bZ,h,Value.cells,known,aC,dz]
theorem pL (b:Nat)(r:eO){s:Value}{t:TypeId}(H:aa)(h:H.get b=some ⟨[cv r.ET,.bool r.found,cv r.key,cv r.value,cv r.n,s],t,1,false⟩):df 6 (pv b) H=some (gu r s):=by
 simp[df,aQ,h]
abbrev aA:Value:=.slice none 0 0
theorem De:aE Tryz.prog 47 []=some (gu bS aA):=by kernel_rfl
theorem Zh (k v:Int):aE Tryz.prog 47 [(1,.bool true),(2,.agg #[cv k,cv v])]=some (gu (MM (k,v,true)) aA):=by kernel_rfl
theorem MN (w:Int):aE Tryz.prog 47 [(0,cv w)]=some (gu (lK w) aA):=by kernel_rfl
theorem aby (a:Option Addr)(m c:Nat):aE Tryz.prog 47 [(4,.slice a m c)]=some (.agg #[cv 0,.bool false,cv 0,cv 0,cv 0,.slice a m c]):=by kernel_rfl
theorem ada (w:Int):aE Tryz.prog 47 [(3,cv w)]=some (gu ⟨0,false,0,0,w,[]⟩ aA):=by kernel_rfl
theorem ud (t:Int×Int×Bool):(MM t).list=[]:=by unfold MM;split<;>rfl
section
variable {G:ae} {H:aa} {o:aj} {q:Int} {x:Value} {l:PL} {n p:Nat}
end
end Go.Proofs.YtgfgglponbmgmaaGreat.Fun
end
section
namespace Go.Proofs.YtgfgglponbmgmaaGreat.Fun
open Go Go.RowKit Go.Proofs.YtgfgglponbmgmaaGreatA.Am
set_option maxRecDepth 10000
section
open Go.Proofs.YtgfgglponbmgmaaGreatA
variable {G:ae} {H H':aa} {o o':aj} {p c:Nat} {K:aa→aj→Prop} {t q:Int} {x:Value} {l:List Y.En} {st No s1:Y.St} {α β:Type}
def ue:List Y.En→List Value
 | []=>[]
 |e::l=>cv e.node::cv e.slot::cv e.word::ue l
theorem mh: ∀l:List Y.En,(ue l).length=3*l.length
 | []=>rfl
 |e::l=>by simp only[ue,List.length_cons,mh l];omega
theorem Df: ∀a b:List Y.En,ue (a++b)=ue a++ue b
 | [],b=>rfl
 |e::a,b=>by simp only[List.cons_append,ue,Df a b]
theorem MO {l:List Y.En}{j:Nat}(hj:j<l.length): ∃a b,ue l=a++cv l[j].node::cv l[j].slot::cv l[j].word::b∧a.length=3*j:=by
 refine⟨ue (l.take j),ue (l.drop (j+1)),?_,by rw[mh];simp;omega⟩
 conv=>lhs;rw[←List.take_append_drop j l,Df,List.drop_eq_getElem_cons hj]
 rfl
def Fz (H:aa)(o:aj)(q:Int)(x:Value)(l:List Y.En):Prop:=
 (x= .slice none 0 0∧l=[])∨∃(i cap:Nat) (rest:List Value) (ty:TypeId),x= .slice (some ⟨i,0,none⟩) l.length cap∧H.get i=some ⟨ue l++rest,ty,3,false⟩∧3*l.length+rest.length=3*cap∧o i=q
theorem Fz.fr {ps:List Int}(h:Fz H o q x l)(f:Fr H o H' o' ps)(hp:q ∉ ps):Fz H' o' q x l:=by
 rcases h with h|⟨i,cap,rest,ty,h1,h2,h3,h5⟩
 ·exact .inl h
 ·exact .inr ⟨i,cap,rest,ty,h1,by rw[f.same i (ar h2) (by rw[h5];exact hp)];exact h2,h3,by rw[f.own i (ar h2)];exact h5⟩
theorem Fz.len (h:Fz H o q x l):cD x=some (cv l.length):=by
 rcases h with⟨rfl,rfl⟩|⟨i,cap,rest,ty,rfl,_⟩<;>rfl
theorem Fz.idx (h:Fz H o q x l){j:Nat}(hj:j<l.length): ∃(i off:Nat) (b:eS),(∀H',cH 3 x (cv j) H'=some (.pointer (some ⟨i,off,none⟩),H'))∧H.get i=some b∧o i=q∧
  ∀H':aa,H'.get i=some b→aq (.pointer (some ⟨i,off+2,none⟩)) H'=some (cv l[j].word)∧df 3 (.pointer (some ⟨i,off,none⟩)) H'=some (.agg #[cv l[j].node,cv l[j].slot,cv l[j].word]):=by
 rcases h with⟨rfl,rfl⟩|⟨i,cap,rest,ty,rfl,h2,h3,h5⟩
 ·simp at hj
 ·obtain⟨a,b,eab,la⟩:=MO hj;have ec:ue l++rest=a++cv l[j].node::cv l[j].slot::cv l[j].word::(b++rest):=by rw[eab];simp
  refine⟨i,3*j,_,λH'=>?_,h2,h5,λH' g=>⟨?_,?_⟩⟩
  ·simp only[cH];rw[if_pos (by constructor<;>omega)];simp<;>omega
  ·rw[an i _ H' g,ec,List.getElem?_append_right (by omega),la]
   have:3*j+2-3*j=2:=by omega
   rw[this];rfl
  ·have uU:aQ H' i (3*j) 3=some [cv l[j].node,cv l[j].slot,cv l[j].word]:=by
    simp only[aQ,g];rw[if_pos (by simp[mh];omega),ec,List.drop_append_of_le_length (by omega),List.drop_eq_nil_of_le (by omega)]
    rfl
   simp only[df,uU]
theorem Fz.app (T ty:TypeId)(h:Fz H o q x l)(e:Y.En)(hb:l.length+1≤4294967296):
  ∃x' H2 o2,dj T 3 24 x (.slice (some ⟨H.length,0,none⟩) 1 1) (H.new ⟨[cv e.node,cv e.slot,cv e.word],ty,3,false⟩)=some (x',H2)∧Fz H2 o2 q x' (l++[e])∧Fr H o H2 o2 [q]:=by
 obtain⟨H1,e1⟩: ∃z,z=H.new ⟨[cv e.node,cv e.slot,cv e.word],ty,3,false⟩:=⟨_,rfl⟩;have l1:H1.length=H.length+1:=by rw[e1,cC]
 have g1:H1.get H.length=some ⟨[cv e.node,cv e.slot,cv e.word],ty,3,false⟩:=by rw[e1];exact aK
 have f1:Fr H o H1 (o.up H.length (-9)) [q]:=by rw[e1];exact(Fr.refl H o [q]).new _ _
 have MP:cI H1 3 1 (.slice (some ⟨H.length,0,none⟩) 1 1)=some [cv e.node,cv e.slot,cv e.word]:=by simp[cI,aQ,g1]
 have ee:ue (l++[e])=ue l++[cv e.node,cv e.slot,cv e.word]:=by rw[Df];rfl
 rw[←e1];rcases h with⟨rfl,rfl⟩|⟨i,cap,rest,Be,rfl,h2,h3,h5⟩
 ·refine⟨.slice (some ⟨H1.length,0,none⟩) 1 1,H1.new ⟨[cv e.node,cv e.slot,cv e.word],T,3,false⟩,(o.up H.length (-9)).up H1.length q,?_,.inr ⟨H1.length,1,[],T,rfl,?_,by simp,aO⟩,f1.new _ _⟩
  ·simp[dj,MP]
  ·simpa[ue] using aK
 ·have hil:=ar h2;have g2:H1.get i=some ⟨ue l++rest,Be,3,false⟩:=by rw[e1,dk hil];exact h2
  by_cases ji:l.length+1≤cap
  ·obtain⟨r0,r1,r2,Bx,rfl⟩: ∃r0 r1 r2 Bx,rest=r0::r1::r2::Bx:=by
    match rest,h3 with
    | [],h=>simp at h;omega
    | [_],h=>simp at h;omega
    | [_,_],h=>simp at h;omega
    |a::b::c::r,_=>exact⟨a,b,c,r,rfl⟩
   have hc:dz (ue l++r0::r1::r2::Bx) (l.length*3) [cv e.node,cv e.slot,cv e.word]=ue (l++[e])++Bx:=by
    simp only[dz];have le:(ue l).length=l.length*3:=by rw[mh];omega
    rw[List.set_append_right _ _ (by omega),List.set_append_right _ _ (by omega),List.set_append_right _ _ (by omega),le,ee]
    have a0:l.length*3-l.length*3=0:=by omega
    have a1:l.length*3+1-l.length*3=1:=by omega
    have a2:l.length*3+1+1-l.length*3=2:=by omega
    rw[a0,a1,a2];simp
   refine⟨.slice (some ⟨i,0,none⟩) (l.length+1) cap,H1.put i ⟨ue (l++[e])++Bx,Be,3,false⟩,o.up H.length (-9),?_,.inr ⟨i,cap,Bx,Be,by simp,aH g2,by simp at h3 ⊢;omega,by rw[dO (by omega)];exact h5⟩,f1.put λ_=>by simp[h5]⟩
   simp only[dj,MP,Option.map_some];rw[if_pos ji,if_neg (by omega)]
   simp only[g2,if_true,bZ];rw[if_pos (by simp[aC,mh] at h3 ⊢;omega)]
   simp only[Option.map_some,Nat.zero_add,hc]
  ·have tk:(ue l++rest).take (l.length*3)=ue l:=by
    have le:(ue l).length=l.length*3:=by rw[mh];omega
    rw[←le,List.take_left'];rfl
   refine⟨.slice (some ⟨H1.length,0,none⟩) (l.length+1) (l.length+1),(H1.kill i).new ⟨ue (l++[e]),T,3,false⟩,(o.up H.length (-9)).up H1.length q,?_,.inr ⟨H1.length,l.length+1,[],T,by simp,?_,by simp,aO⟩,?_⟩
   ·simp only[dj,MP,Option.map_some];rw[if_neg ji,if_pos (by simp;omega)]
    simp only[g2];rw[if_pos (by simp[mh];omega)]
    have e:aQ H1 i 0 (l.length*3)=some (ue l):=by
     simp only[aQ,g2];rw[if_pos (by simp[mh];omega),List.drop_zero,tk]
    simp only[e,ee]
   ·have:=aK (H:=H1.kill i) (c:=⟨ue (l++[e]),T,3,false⟩)
    rw[gD] at this;rw[List.append_nil];exact this
   ·have f2:=(f1.kill (i:=i) (λ_=>by simp[h5])).new ⟨ue (l++[e]),T,3,false⟩ q
    rw[gD] at f2;exact f2
theorem MQ {f:Nat}{first:Option Y.En}{l:List Y.En}{s:Y.St}(h:s.off=true):Y.ah (Y.dq f first l) s=Y.ah (Y.dq f first []) s:=by
 have e:Y.ah (Y.dq f first []) s=((),s):=by
  cases first with
  |none=>rfl
  |some e=>unfold Y.dq;simp only[Y.al,bo,bK,bO,cS,cT,ne_eq,not_true_eq_false,not_false_eq_true,if_true,if_false,Bool.not_true,Bool.not_false,true_and,and_true,false_and,and_false,true_or,or_true,false_or,or_false,Bool.false_eq_true,decide_true,decide_false,h]
 rw[e];cases l with
 |nil=>exact e
 |cons x l=>unfold Y.dq;simp only[Y.al,bo,bK,bO,cS,cT,ne_eq,not_true_eq_false,not_false_eq_true,if_true,if_false,Bool.not_true,Bool.not_false,true_and,and_true,false_and,and_false,true_or,or_true,false_or,or_false,Bool.false_eq_true,decide_true,decide_false,h]
theorem TK (h:JX K p st H){ff:Nat}(Zi:st.left≤ff){path:List Y.En}(hx: ∀H o,K H o→Fz H o q x path)(hp: ∀e∈path, -9223372036854775808≤e.node∧e.node≤65536)(hn:path.length≤2147483648):aF (run G) 126 [pv p,x] H (PQ K p st (Y.dq (ff+1) none path)):=by
 refine Ev.up (t:=λk=>YT (run G k) k (pv p) x H) ?_ λk=>Ta ..
 simp -implicitDefEqProofs only[YT,sS,Nat.reduceAdd];have hen: ∀{s':Y.St} {H':aa},JX K p s' H'→∃o,Fz H' o q x path:=λhj=>by obtain⟨_,o,_,hk⟩:=hj;exact⟨o,hx _ _ hk⟩
 refine Ev.loop (k:=path.length) (λk vs Hx=>∃(i:Nat) (f:Int) (first:Option Y.En) (sx:Y.St) (bB x6 x7 x8 eD eA:Value),JX K p sx Hx∧sx.left≤ff∧i+k=path.length∧((f= -1∧first=none)∨∃(j:Nat) (hj:j<path.length),f=j∧first=some path[j])∧Y.ah (Y.dq (ff+1) none path) st=Y.ah (Y.dq (ff+1) first (path.drop i)) sx∧vs=[pv p,x,cv i,bB,x6,cv f,x7,x8,eD,eA])
  (λr=>∃(f:Int) (first:Option Y.En) (sx:Y.St),JX K p sx r.2.2∧sx.left≤ff∧r.1= .exit 0∧((f= -1∧first=none)∨∃(j:Nat) (hj:j<path.length),f=j∧first=some path[j])∧(Y.ah (Y.dq (ff+1) none path) st=Y.ah (Y.dq (ff+1) first []) sx)∧∃(x5 bB x6 x7 x8 eD eA:Value),r.2.1=[pv p,x,x5,bB,x6,cv f,x7,x8,eD,eA]) ⟨0, -1,none,st,_,_,_,_,_,_,h,Zi,by omega,.inl ⟨rfl,rfl⟩,rfl,rfl⟩ ?_ ?_
 ·rintro k vs Hx ⟨i,f,first,sx,bB,x6,x7,x8,eD,eA,hj,hl,hik,hf,E,rfl⟩
  obtain⟨o1,he⟩:=hen hj;have hw:IntKind.i64.wrap ((i:Int)+1)=((i+1:Nat):Int):=by rw[gz (by omega)];omega
  have iP: ∀{s2:Y.St} {H2:aa} {f:Int} {first:Option Y.En} (bB x6 x7 x8 eD eA:Value),JX K p s2 H2→s2.left≤ff→i<path.length→((f= -1∧first=none)∨∃(j:Nat) (hj:j<path.length),f=j∧first=some path[j])→Y.ah (Y.dq (ff+1) none path) st=Y.ah (Y.dq (ff+1) first (path.drop (i+1))) s2→Ev (λk=>vT (run G k) k [pv p,x,cv i,bB,x6,cv f,x7,x8,eD,eA] H2) λr=>(r.1= .normal∧∃k',k'<k∧∃(i:Nat) (f:Int) (first:Option Y.En) (sx:Y.St) (bB x6 x7 x8 eD eA:Value),JX K p sx r.2.2∧sx.left≤ff∧i+k'=path.length∧((f= -1∧first=none)∨∃(j:Nat) (hj:j<path.length),f=j∧first=some path[j])∧Y.ah (Y.dq (ff+1) none path) st=Y.ah (Y.dq (ff+1) first (path.drop i)) sx∧r.2.1=[pv p,x,cv i,bB,x6,cv f,x7,x8,eD,eA])∨(r.1≠ .normal∧∃(f:Int) (first:Option Y.En) (sx:Y.St),JX K p sx r.2.2∧sx.left≤ff∧r.1= .exit 0∧((f= -1∧first=none)∨∃(j:Nat) (hj:j<path.length),f=j∧first=some path[j])∧(Y.ah (Y.dq (ff+1) none path) st=Y.ah (Y.dq (ff+1) first []) sx)∧∃(x5 bB x6 x7 x8 eD eA:Value),r.2.1=[pv p,x,x5,bB,x6,cv f,x7,x8,eD,eA]):=by
   intro s2 H2 f first bB x6 x7 x8 eD eA hj hl hi hf E
   simp -implicitDefEqProofs only[Me,yM,hw,sS,Nat.reduceAdd];exact Ev.ret (.inl ⟨rfl,k-1,by omega,i+1,f,first,s2,_,_,_,_,_,_,hj,hl,by omega,hf,E,rfl⟩)
  simp -implicitDefEqProofs only[Mf,yN,he.len,sS,Nat.reduceAdd];refine Ev.lss (λhq=>?_) (λhq=>?_)<;>try simp -implicitDefEqProofs only[sS,Nat.reduceAdd]
  ·have hip:i<path.length:=by omega
   obtain⟨ib,off,b,e1,e2,e3,e4⟩:=he.idx (j:=i) hip;obtain⟨e5,e6⟩:=e4 _ e2;refine Ev.n3 hj (λhq=>?_) (λhq=>?_)<;>try simp -implicitDefEqProofs only[e1,gX,e5,sS,Nat.reduceAdd]
   ·rw[MQ hq] at E;exact Ev.ret (.inr ⟨by simp,f,first,sx,hj,hl,rfl,hf,E,_,_,_,_,_,_,_,rfl⟩)
   rw[List.drop_eq_getElem_cons hip] at E;have E1:Y.ah (Y.dq (ff+1) none path) st=Y.ah (Y.ad (Y.aw path[i].word+3) 1 >>= λc=>Y.rd (Y.aw path[i].word+1) >>= λs=>Y.dq (ff+1) (match first with|some x=>some x|none=>if Y.wr (c+1)≥Y.PN s then some path[i] else none) (path.drop (i+1))) sx:=by
    rw[E];conv=>lhs;unfold Y.dq
    simp only[Y.al,bo,bK,bO,cS,cT,ne_eq,not_true_eq_false,not_false_eq_true,if_true,if_false,Bool.not_true,Bool.not_false,true_and,and_true,false_and,and_false,true_or,or_true,false_or,or_false,Bool.false_eq_true,decide_true,decide_false,hq];cases first<;>rfl
   refine Ev.is (n5 _) ?_;simp -implicitDefEqProofs only[sS,Nat.reduceAdd,Np _ (j:=3) (by omega)]
   refine Ev.eY (Vr hj _ _) λc s1 H1 f1 k1=>?_
   have m1:=dt f1;rw[Y.aI f1] at E1;simp -implicitDefEqProofs only[sS,Nat.reduceAdd,Np _ (j:=1) (by omega)]
   refine Ev.eY (de k1 _) λs s2 H2 f2 k2=>?_
   have m2:=dt f2;rw[Y.aI f2] at E1
   try simp -implicitDefEqProofs only[sS,Nat.reduceAdd]
   refine Ev.lss (λh3=>?_) (λh3=>?_)<;>try simp -implicitDefEqProofs only[sS,Nat.reduceAdd,cG]
   ·have zO:f= -1∧first=none:=by
     rcases hf with h|⟨j,hj,h,_⟩
     ·exact h
     ·omega
    obtain⟨rfl,rfl⟩:=zO;refine Ev.is (Tn _) ?_
    try simp -implicitDefEqProofs only[sS,Nat.reduceAdd,cG]
    refine Ev.geq (λh4=>?_) (λh4=>?_)<;>try simp -implicitDefEqProofs only[sS,Nat.reduceAdd,cG]
    ·simp only[if_pos h4] at E1;exact iP _ _ _ _ _ _ k2 (by omega) hip (.inr ⟨i,hip,rfl,rfl⟩) E1
    ·simp only[if_neg h4] at E1;exact iP _ _ _ _ _ _ k2 (by omega) hip (.inl ⟨rfl,rfl⟩) E1
   ·rcases hf with⟨h,_⟩|⟨j,zM,rfl,rfl⟩
    ·omega
    ·exact iP _ _ _ _ _ _ k2 (by omega) hip (.inr ⟨j,zM,rfl,rfl⟩) E1
  ·have:path.drop i=[]:=List.drop_eq_nil_of_le (by omega)
   rw[this] at E;exact Ev.ret (.inr ⟨by simp,f,first,sx,hj,hl,rfl,hf,E,_,_,_,_,_,_,_,rfl⟩)
 ·rintro e vs Hx ⟨f,first,sx,hj,hl,he,hf,E,x5,bB,x6,x7,x8,eD,eA,hv⟩
  simp only at he hv hj;subst he hv;simp -implicitDefEqProofs only[Mg,yO,sS,Nat.reduceAdd];refine Ev.geq (λhq=>?_) (λhq=>?_)<;>try simp -implicitDefEqProofs only[sS,Nat.reduceAdd]
  ·rcases hf with⟨h,_⟩|⟨j,hjp,rfl,rfl⟩
   ·omega
   refine Ev.n3 hj (λhq=>?_) (λhq=>?_)<;>try simp -implicitDefEqProofs only[sS,Nat.reduceAdd]
   ·refine Ev.ret (PQ.of (z:=()) hj ?_);rw[E];unfold Y.dq;simp only[Y.al,bo,bK,bO,cS,cT,ne_eq,not_true_eq_false,not_false_eq_true,if_true,if_false,Bool.not_true,Bool.not_false,true_and,and_true,false_and,and_false,true_or,or_true,false_or,or_false,Bool.false_eq_true,decide_true,decide_false,hq]
   ·obtain⟨o1,he⟩:=hen hj;obtain⟨ib,off,b,e1,e2,e3,e4⟩:=he.idx (j:=j) hjp;obtain⟨e5,e6⟩:=e4 _ e2;simp -implicitDefEqProofs only[e1,e6,sS,Nat.reduceAdd];refine Ev.Mx (TJ hj (f:=ff) hl (hp _ (List.getElem_mem hjp)) _ _) λz s3 H3 e3 gE=>?_
    try simp -implicitDefEqProofs only[sS,Nat.reduceAdd]
    refine Ev.ret (PQ.of (z:=()) gE ?_);rw[E];unfold Y.dq;simp only[Y.al,bo,bK,bO,cS,cT,ne_eq,not_true_eq_false,not_false_eq_true,if_true,if_false,Bool.not_true,Bool.not_false,true_and,and_true,false_and,and_false,true_or,or_true,false_or,or_false,Bool.false_eq_true,decide_true,decide_false,hq];have e3':Y.ah (Y.oN (ff+1) path[j]) sx=(z,s3):=e3;rw[e3']
  ·rcases hf with⟨rfl,rfl⟩|⟨j,hjp,rfl,rfl⟩
   ·exact Ev.ret (PQ.of (z:=()) hj (by rw[E];rfl))
   ·omega
end
section
variable {G:ae} {H H':aa} {o o':aj} {p m c:Nat} {K K':aa→aj→Prop} {t q:Int} {x:Value} {l:PL} {n i:Nat} {cs:List Value} {T:TypeId}
def Cl (i:Nat)(cs:List Value)(T:TypeId)(H:aa)(o:aj):Prop:=H.get i=some ⟨cs,T,1,false⟩∧o i= -9
theorem Cl.fr {ps:List Int}(h:Cl i cs T H o)(f:Fr H o H' o' ps)(hp:(-9:Int) ∉ ps):Cl i cs T H' o':=
 ⟨by rw[f.same i (ar h.1) (by rw[h.2];exact hp)];exact h.1,by rw[f.own i (ar h.1)];exact h.2⟩
theorem Cl.new {c:eS}(h:Cl i cs T H o):Cl i cs T (H.new c) (o.up H.length (-9)):=h.fr ((Fr.refl H o []).new _ _) (by simp)
theorem Cl.put {j:Nat}{c:eS}(h:Cl i cs T H o)(dx:i≠j):Cl i cs T (H.put j c) o:=⟨by rw[bA dx];exact h.1,h.2⟩
theorem Cl.self (h:Cl i cs T H o){ds:List Value}:Cl i ds T (H.put i ⟨ds,T,1,false⟩) o:=⟨aH h.1,h.2⟩
theorem Cl.made:Cl H.length cs T (H.new ⟨cs,T,1,false⟩) (o.up H.length (-9)):=⟨aK,aO⟩
theorem lv (l:List Int)(T:TypeId):eJ (H.new ⟨l.map cv,T,1,false⟩) (.slice (some ⟨H.length,0,none⟩) l.length l.length) l:=(oK.new H o0 (-9) T l).ints.1
theorem Dg {l:List Int}(h:eJ H x l)(c:eS):eJ (H.new c) x l:=h.keep λi b e dx=>by
 rcases h with⟨e1,e2⟩|⟨j,off,cc,e1,hb⟩
 ·exact absurd e2 dx
 ·obtain⟨bb,g1,_⟩:=hb dx;rw[e1] at e;cases e;exact dk (ar g1)
abbrev rc (r:eO):List Value:=[cv r.ET,.bool r.found,cv r.key,cv r.value,cv r.n,aA]
abbrev n6 (op:ki):List Value:=[cv op.kind,cv op.key,cv op.value]
theorem abz (a b:Int)(H:aa):N7 (cv a) (cv b) H=some (cv (if b>a then b else a),H):=rfl
end
section
variable {G:ae} {H H':aa} {o o':aj} {p m c:Nat} {K K':aa→aj→Prop} {t q:Int} {x:Value} {l:PL} {n i:Nat} {cs:List Value} {T:TypeId}
structure KL (B:aa) (b:aj) (p i0 i1 i2:Nat) (op:ki) (c1:List Value) (r2:eO) (H:aa) (o:aj):Prop where
 fr:Fr B b H o [(p:Int)]
 k0:Cl i0 (n6 op) 39 H o
 k1:Cl i1 c1 47 H o
 k2:Cl i2 (rc r2) 47 H o
structure KLd (B:aa) (i0 i1 i2:Nat):Prop where
 a:i0=B.length
 b:i1=B.length+1
 c:i2=B.length+2
section
variable {B:aa} {b:aj} {i0 i1 i2:Nat} {op:ki} {c1:List Value} {r2:eO}
theorem KL.fe:bL [(p:Int)] (KL B b p i0 i1 i2 op c1 r2):=λH o H' o' h f=>⟨h.fr.tr f,h.k0.fr f (by simp),h.k1.fr f (by simp),h.k2.fr f (by simp)⟩
end
theorem adb (a b:Int):aE Tryz.prog 45 [(0,cv a),(1,cv b)]=some (.agg #[cv a,cv b]):=zx a b
end
section
open Go.Proofs.YtgfgglponbmgmaaGreatA
variable {G:ae} {H H':aa} {o o':aj} {p c n i:Nat} {K K':aa→aj→Prop} {t q:Int} {x:Value} {l:List Y.En} {st No s1:Y.St} {α β:Type} {cs:List Value} {T:TypeId}
theorem JX.nG (h:JX K p st H)(cs:List Value)(T:TypeId)(es:Nat)(TL:bL [(p:Int)] K')(k: ∀o,K H o→Fr H o (H.new ⟨cs,T,es,false⟩) (o.up H.length (-9)) []→K' (H.new ⟨cs,T,es,false⟩) (o.up H.length (-9))):JX K' p st (H.new ⟨cs,T,es,false⟩):=by
 obtain⟨hK,o,hr,hk⟩:=h;have f:Fr H o (H.new ⟨cs,T,es,false⟩) (o.up H.length (-9)) []:=(Fr.refl H o []).new _ _;exact⟨TL,_,hr.fr f (by simp) (by simp) (by simp),k o hk f⟩
theorem JX.uf (h:JX K p st H){c:eS}(hc: ∀o,K H o→Cl i cs T H o)(TL:bL [(p:Int)] K')(k: ∀o,K H o→K' (H.put i c) o):JX K' p st (H.put i c):=by
 obtain⟨hK,o,hr,hk⟩:=h;have f:Fr H o (H.put i c) o [-9]:=(Fr.refl H o [-9]).put λ_=>by simp[(hc o hk).2]
 exact⟨TL,_,hr.fr f (by simp) (by simp) (by simp),k o hk⟩
theorem JX.new (h:JX K p st H)(c:eS):JX K p st (H.new c):=h.uJ λo=>⟨o.up H.length (-9),(Fr.refl H o []).new _ _⟩
abbrev oa (op:ki):Y.Op:=⟨op.kind,op.key,op.value⟩
theorem JB (h:JX K p st H):aF (run G) 166 [] H λv H'=>v=gu (lK 8) aA∧JX K p st H':=by
 refine Ev.up (t:=λk=>Yp (run G k) k H) ?_ λk=>SH ..
 simp -implicitDefEqProofs only[Yp,aS,sS,Nat.reduceAdd];have g:(H.new ⟨[cv 0,.bool false,cv 0,cv 0,cv 0,aA],47,1,false⟩).get H.length=some ⟨[cv 0,.bool false,cv 0,cv 0,cv 0,aA],47,1,false⟩:=aK;have kx:=uc H.length (lK 8) (s:=aA) rfl _ g rfl;have uU:=pL H.length (lK 8) (s:=aA) (t:=47) _ (aH g);simp -implicitDefEqProofs only[MN,kx,uU,sS,Nat.reduceAdd];refine Ev.ret ⟨rfl,?_⟩;obtain⟨hK,o,hr,hk⟩:=h;have f:Fr H o ((H.new ⟨[cv 0,.bool false,cv 0,cv 0,cv 0,aA],47,1,false⟩).put H.length ⟨[cv (lK 8).ET,.bool (lK 8).found,cv (lK 8).key,cv (lK 8).value,cv (lK 8).n,aA],47,1,false⟩) (o.up H.length (-9)) []:=((Fr.refl H o []).new _ _).put λhh=>absurd hh (by omega)
 exact⟨hK,_,hr.fr f (by simp) (by simp) (by simp),hK _ _ _ _ hk (f.wk (by simp))⟩
theorem TM (h:JX K p st H)(op:ki)(w q:Int)(leaf there:Bool):aF (run G) 169 [pv p,jw op,cv w,cv q,.bool leaf,.bool there] H (iG K p st (Y.mu (oa op) w q leaf there)):=by
 refine Ev.up (t:=λk=>Yq (run G k) k (pv p) (jw op) (cv w) (cv q) (.bool leaf) (.bool there) H) ?_ λk=>SI ..
 have hK:=h.1;obtain⟨i0,ei⟩: ∃i,i=H.length:=⟨_,rfl⟩;obtain⟨H1,e1⟩: ∃z,z=H.new ⟨n6 op,39,1,false⟩:=⟨_,rfl⟩;have fH:JX (λH o=>K H o∧Cl i0 (n6 op) 39 H o) p st H1:=by
  rw[e1];refine h.nG _ _ 1 (hK.and λH o H' o' a f=>a.fr f (by simp)) λo hk f=>⟨hK _ _ _ _ hk (f.wk (by simp)),?_⟩
  rw[ei];exact Cl.made
 have il: ∀{s':Y.St} {H':aa},JX (λH o=>K H o∧Cl i0 (n6 op) 39 H o) p s' H'→JX K p s' H':=λhj=>hj.mono hK λo a=>a.1
 have L0: ∀{s':Y.St} {H':aa},JX (λH o=>K H o∧Cl i0 (n6 op) 39 H o) p s' H'→aq (.pointer (some ⟨i0,0,none⟩)) H'=some (cv op.kind)∧aq (.pointer (some ⟨i0,1,none⟩)) H'=some (cv op.key)∧aq (.pointer (some ⟨i0,2,none⟩)) H'=some (cv op.value):=λhj=>by
  obtain⟨_,o,_,_,g,_⟩:=hj;exact⟨an i0 0 _ g,an i0 1 _ g,an i0 2 _ g⟩
 obtain⟨a0,a1,a2⟩:=L0 fH;have bx:=Dd op H;rw[←ei, ←e1] at bx;simp -implicitDefEqProofs only[Yq,bx,a0,a1,a2,sS,Nat.reduceAdd];refine Ev.eql (λhq=>?_) (λhq=>?_)<;>try simp -implicitDefEqProofs only[a0,a1,a2,sS,Nat.reduceAdd]
 ·refine Ev.Tu (sD fH) λw Hz hj=>?_
  refine Ev.sC (nD hj) λz s2 Hz ez hj=>?_
  have zM:=il hj
  try simp -implicitDefEqProofs only[sS,Nat.reduceAdd]
  refine Ev.is (pJ _ _) ?_
  try simp -implicitDefEqProofs only[sS,Nat.reduceAdd]
  refine Ev.ret (iG.of zM ?_);unfold Y.mu;rw[if_pos hq];simp only[Y.al,bo,bK,bO,cS,cT,ne_eq,not_true_eq_false,not_false_eq_true,if_true,if_false,Bool.not_true,Bool.not_false,true_and,and_true,false_and,and_false,true_or,or_true,false_or,or_false,Bool.false_eq_true,decide_true,decide_false,ez]
 refine Ev.Tu (uF fH _ _) λw1 Hz hj=>?_
 refine Ev.sC (nD hj) λz s2 Hz ez hj=>?_
 try simp -implicitDefEqProofs only[sS,Nat.reduceAdd]
 refine Ev.is (pJ _ _) ?_;have zM:=il hj;have E:Y.ah (Y.mu (oa op) w q leaf there) st=Y.ah (if ¬z>0∨leaf=false∨there=true then pure (Y.fP 2 z,decide (z>0)) else Y.mk (Y.cR 2 [max q op.key] (if op.key<q then[Y.fP 2 z,w] else[w,Y.fP 2 z])) >>= λb=>pure (Y.fP 3 b,decide (b>0))) s2:=by
  unfold Y.mu;rw[if_neg hq];simp only[Y.al,bo,bK,bO,cS,cT,ne_eq,not_true_eq_false,not_false_eq_true,if_true,if_false,Bool.not_true,Bool.not_false,true_and,and_true,false_and,and_false,true_or,or_true,false_or,or_false,Bool.false_eq_true,decide_true,decide_false,ez]
 try simp -implicitDefEqProofs only[sS,Nat.reduceAdd]
 by_cases hz:z>0
 ·simp -implicitDefEqProofs only[hz,decide_true,sS,Nat.reduceAdd];cases leaf<;>simp -implicitDefEqProofs only[sS,Nat.reduceAdd]
  ·exact Ev.ret (iG.of zM (by rw[E,if_pos (by simp)];simp only[hz,decide_true];rfl))
  cases there<;>simp -implicitDefEqProofs only[sS,Nat.reduceAdd]
  ·rw[if_neg (by simp;omega)] at E
   have J0: ∀{H1:aa} {y:Value} (l:List Int) (aP aG bE aM aR aX bf dY aZ ig:Value),JX (λH o=>K H o∧Cl i0 (n6 op) 39 H o) p s2 H1→eJ H1 y l→l.length≤10→Y.ah (Y.mu (oa op) w q true false) st=Y.ah (Y.mk (Y.cR 2 [max q op.key] l) >>= λb=>pure (Y.fP 3 b,decide (b>0))) s2→Ev (λk=>vO (run G k) k [pv p,jw op,cv w,cv q,.bool true,.bool false,aP,aG,pv i0,bE,aM,aR,aX,bf,dY,aZ,ig,y] H1) λr=>iG K p st (Y.mu (oa op) w q true false) r.1 r.2:=by
    intro H1 y l aP aG bE aM aR aX bf dY aZ ig hj hy hl E;obtain⟨a0,a1,a2⟩:=L0 hj;simp -implicitDefEqProofs only[LP,yx,a1,abz,Ap,sS,Nat.reduceAdd];refine Ev.Tu (nF (hj.new _) _ (lv [_] _) (Dg hy _) (by simp;omega)) λw1 Hz hj=>?_
    refine Ev.sC (nD hj) λz s3 Hz ez hj=>?_
    have zM:=il hj
    try simp -implicitDefEqProofs only[sS,Nat.reduceAdd]
    refine Ev.is (pJ _ _) ?_
    try simp -implicitDefEqProofs only[sS,Nat.reduceAdd]
    refine Ev.ret (iG.of zM ?_);have em:max q op.key=if op.key>q then op.key else q:=by split<;>omega
    rw[E,em,Y.aI ez];rfl
   obtain⟨b0,b1,b2⟩:=L0 (hj.new ⟨[cv w,cv (Y.fP 2 z)],2,1,false⟩);simp -implicitDefEqProofs only[Tt,b0,b1,sS,Nat.reduceAdd];refine Ev.lss (λhq=>?_) (λhq=>?_)<;>try simp -implicitDefEqProofs only[Tt,sS,Nat.reduceAdd]
   ·rw[if_pos hq] at E;exact J0 [Y.fP 2 z,w] _ _ _ _ _ _ _ _ _ _ ((hj.new _).new _) (lv [Y.fP 2 z,w] _) (by simp) E
   ·rw[if_neg hq] at E;exact J0 [w,Y.fP 2 z] _ _ _ _ _ _ _ _ _ _ (hj.new _) (lv [w,Y.fP 2 z] _) (by simp) E
  ·exact Ev.ret (iG.of zM (by rw[E,if_pos (by simp)];simp only[hz,decide_true];rfl))
 ·simp -implicitDefEqProofs only[hz,decide_false,sS,Nat.reduceAdd];exact Ev.ret (iG.of zM (by rw[E,if_pos (.inl hz)];simp only[hz,decide_false];rfl))
end
end Go.Proofs.YtgfgglponbmgmaaGreat.Fun
end
