/- Texts of the proof of linearChecks_holds, put together by a small program of ours (names shortened, spaces taken out). No condition beyond the given statement. -/
import Derived.Test.YtjgmnoaalbbonaaGreatLCQ20
import Derived.Test.YtjgmnoaalbbonaaGreatLCQ21
import Derived.Test.YtjgmnoaalbbonaaGreatLCQ25
import Derived.Test.YtjgmnoaalbbonaaGreatLCQ17
import Derived.Test.YtjgmnoaalbbonaaGreatLCQ18
import Derived.Test.YtjgmnoaalbbonaaGreatLCQ22
import Derived.Test.YtjgmnoaalbbonaaGreatLCQ15
import Derived.Test.YtjgmnoaalbbonaaGreatLCQ16
import Derived.Test.YtjgmnoaalbbonaaGreatLCQ19
set_option linter.unusedVariables false
set_option linter.unusedSimpArgs false
set_option linter.unnecessarySimpa false
noncomputable section
section
namespace Go.Proofs.YtjgmnoaalbbonaaGreat.Fun
open Go Go.RowKit Go.Proofs.YtjgmnoaalbbonaaGreatA.Am
abbrev nw (n:Nat):an:=an.from (λ_=>0) n 1
theorem BX {n i:Nat}:nw n i=1↔n≤i:=by
 rcases Nat.lt_or_ge i n with g|g
 ·rw[nw,nF g];constructor
  ·intro h;simp at h
  ·intro h;omega
 ·rw[nw,gg g];simp[g]
theorem xw (o:an): ∀m:Nat,∃Q:Int,∀i,i<m→o i<Q
 |0=>⟨0,λi h=>by omega⟩
 |m+1=>by
  obtain⟨Q,h⟩:=xw o m;refine⟨max Q (o m+1),λi hi=>?_⟩
  rcases Nat.lt_or_ge i m with g|g
  ·have:=h i g;omega
  ·have:i=m:=by omega
   subst this;omega
theorem BY {H':ae}{o:an}{n:Nat}{x:Value}{l:PL}(h: ∀Q,fF H' (o.from n Q) Q x l):fF H' (nw n) 1 x l:=by
 obtain⟨Q,hQ⟩:=xw o n;exact(h Q).relabel λi _ hi=>by
  rw[BX];rcases Nat.lt_or_ge i n with g|g
  ·rw[nF g] at hi;have:=hQ i g;omega
  ·exact g
theorem acG {H':ae}{o':an}{n:Nat}{q:Int}{x:Value}{l:PL}(h:fF H' (nw n) 1 x l)(k: ∀i,n≤i→i<H'.length→o' i=q):fF H' o' q x l:=h.relabel λi hi GL=>k i (BX.1 GL) hi
theorem BZ {H':ae}{n m:Nat}{x:Value}{l:PL}(h:fF H' (nw n) 1 x l)(k:m≤n):fF H' (nw m) 1 x l:=acG h λi hi _=>BX.2 (by omega)
theorem KT {H':ae}{o':an}{n:Nat}{q:Int}{x:Value}{l:PL}(h:ee H' (nw n) 1 x l)(k: ∀i,n≤i→i<H'.length→o' i=q):ee H' o' q x l:=h.relabel λi hi GL=>k i (BX.1 GL) hi
structure jZ where
 kind:Int
 key:Int
 value:Int
structure dF where
 pH:Int
 found:Bool
 key:Int
 value:Int
 n:Int
 list:PL
abbrev iG (op:jZ):Value:=.agg #[cv op.kind,cv op.key,cv op.value]
abbrev c8 (r:dF)(s:Value):Value:=.agg #[cv r.pH,.bool r.found,cv r.key,cv r.value,cv r.n,s]
def bZ:dF:=⟨0,false,0,0,0,[]⟩
def kr (t:Int×Int×Bool):dF:=if t.2.2 then⟨0,true,t.1,t.2.1,0,[]⟩ else bZ
def eJ (w:Int):dF:=⟨w,false,0,0,0,[]⟩
def jf (l:PL)(op:jZ):dF:=
 if op.kind=1∨op.kind=2∨op.kind=3∨op.kind=4 then kr (op.key,pF l op.key,ef l op.key)
 else if op.kind=5 then kr (gN l op.key)
 else if op.kind=6 then kr (kM l op.key)
 else if op.kind=7 then kr (kM l (-9223372036854775808))
 else if op.kind=8 then kr (gN l 9223372036854775807)
 else if op.kind=9 then⟨0,false,0,0,0,wJ op.key op.value l⟩
 else if op.kind=10 then⟨0,false,0,0,(wJ op.key op.value l).length,[]⟩
 else eJ 5
def nU (l:PL)(op:jZ):Bool:=if op.kind=1 then !ef l op.key else if op.kind=3 then ef l op.key else decide (op.kind=2)
def Im (l:PL)(op:jZ):PL:=if nU l op then(if op.kind=3 then lz l op.key else jM l op.key op.value) else l
def wK (H:ae)(o:an)(q:Int)(x:Value)(r:dF):Prop:=∃s,x=c8 r s∧ee H o q s r.list
theorem tJ (op:jZ)(H:ae):cB 39 (iG op) H=some (pv H.length,H.new ⟨[cv op.kind,cv op.key,cv op.value],39,1,false⟩):=by
 simp[cB,Value.cells,aD,aO]
theorem Qj {H:ae}{b:Nat}{op:jZ}{t:TypeId}(h:H.get b=some ⟨[cv op.kind,cv op.key,cv op.value],t,1,false⟩):bV 3 (pv b) H=some (iG op):=by
 simp[bV,aA,h]
theorem tK (b:Nat)(r:dF){s:Value}{a:Option Addr}{m c:Nat}(es:s= .slice a m c){cs:List Value}{t:TypeId}(H:ae)(h:H.get b=some ⟨cs,t,1,false⟩)(hl:cs.length=6):
  bS 6 (pv b) (c8 r s) H=some (undef,H.put b ⟨[cv r.pH,.bool r.found,cv r.key,cv r.value,cv r.n,s],t,1,false⟩):=by
 subst es;obtain⟨c0,c1,c2,c3,c4,c5,rfl⟩: ∃c0 c1 c2 c3 c4 c5,cs=[c0,c1,c2,c3,c4,c5]:=by
  match cs,hl with
  | [c0,c1,c2,c3,c4,c5],_=>exact⟨c0,c1,c2,c3,c4,c5,rfl⟩
 simp[bS,bG,h,Value.cells,known,aD,bO]
theorem jR (b:Nat)(r:dF){s:Value}{t:TypeId}(H:ae)(h:H.get b=some ⟨[cv r.pH,.bool r.found,cv r.key,cv r.value,cv r.n,s],t,1,false⟩):bV 6 (pv b) H=some (c8 r s):=by
 simp[bV,aA,h]
abbrev aB:Value:=.slice none 0 0
theorem yc:aI Tryz.prog 45 []=some (c8 bZ aB):=by kernel_rfl
theorem Tf (k v:Int):aI Tryz.prog 45 [(1,.bool true),(2,.agg #[cv k,cv v])]=some (c8 (kr (k,v,true)) aB):=by kernel_rfl
theorem nV (w:Int):aI Tryz.prog 45 [(0,cv w)]=some (c8 (eJ w) aB):=by kernel_rfl
theorem Xe (a:Option Addr)(m c:Nat):aI Tryz.prog 45 [(4,.slice a m c)]=some (.agg #[cv 0,.bool false,cv 0,cv 0,cv 0,.slice a m c]):=by kernel_rfl
theorem acH (w:Int):aI Tryz.prog 45 [(3,cv w)]=some (c8 ⟨0,false,0,0,w,[]⟩ aB):=by kernel_rfl
theorem mB (t:Int×Int×Bool):(kr t).list=[]:=by unfold kr;split<;>rfl
theorem Gm (k v:Int):kr (k,v,false)=bZ:=rfl
theorem agK (a b c d:Int):aj Tryz.prog .eql 42 (.agg #[cv a,cv b]) (.agg #[cv c,cv d])=Option.map Value.bool (match (some (a==c):Option Bool) with|some true=>(match (some (b==d):Option Bool) with|some true=>some true|x=>x)|x=>x):=by kernel_rfl
theorem agL (a b c d:Int):aj Tryz.prog .neq 42 (.agg #[cv a,cv b]) (.agg #[cv c,cv d])=Option.map (λx=>Value.bool (!x)) (match (some (a==c):Option Bool) with|some true=>(match (some (b==d):Option Bool) with|some true=>some true|x=>x)|x=>x):=by kernel_rfl
theorem eqP (a b c d:Int):aj Tryz.prog .eql 42 (.agg #[cv a,cv b]) (.agg #[cv c,cv d])=some (.bool (decide ((a,b)=(c,d)))):=by
 rw[agK];by_cases h1:a=c
 ·subst h1;by_cases h2:b=d
  ·subst h2;simp
  ·have e2:(b==d)=false:=by simpa using h2
   simp[e2,h2]
 ·have e1:(a==c)=false:=by simpa using h1
  simp[e1,h1]
theorem neP (a b c d:Int):aj Tryz.prog .neq 42 (.agg #[cv a,cv b]) (.agg #[cv c,cv d])=some (.bool (!decide ((a,b)=(c,d)))):=by
 rw[agL];by_cases h1:a=c
 ·subst h1;by_cases h2:b=d
  ·subst h2;simp
  ·have e2:(b==d)=false:=by simpa using h2
   simp[e2,h2]
 ·have e1:(a==c)=false:=by simpa using h1
  simp[e1,h1]
section
variable {G:ag} {H:ae} {o:an} {q:Int} {x:Value} {l:PL} {n p:Nat}
theorem PF (H:ae):aO H 45 1 [cv 0,.bool false,cv 0,cv 0,cv 0,aB]=(pv H.length,H.new ⟨[cv 0,.bool false,cv 0,cv 0,cv 0,aB],45,1,false⟩):=rfl
theorem kt {H0 H:ae}{b:Nat}(r:dF){s:Value}{a:Option Addr}{m c:Nat}(es:s= .slice a m c){cs:List Value}{t:TypeId}(h:H.get b=some ⟨cs,t,1,false⟩)(hl:cs.length=6)(e:Ext H0 H)(hb:H0.length≤b):
  ∃A,bS 6 (pv b) (c8 r s) H=some (undef,A)∧bV 6 (pv b) A=some (c8 r s)∧Ext H0 A∧∀j,j≠b→A[j]? =H[j]? :=
 ⟨_,tK b r es H h hl,jR b r _ (aH h),e.put hb,λj hj=>cU hj⟩
theorem Io (k v:Int)(ok:Bool)(H:ae): ∃H',run G (n+1) 48 [cv k,cv v,.bool ok] H=some (c8 (kr (k,v,ok)) aB,H')∧Ext H H':=by
 rw[abS];obtain⟨A,h1,h2,h3,_⟩:=kt (kr (k,v,ok)) (s:=aB) rfl (az (H:=H) (c:=⟨[cv 0,.bool false,cv 0,cv 0,cv 0,aB],45,1,false⟩)) rfl ((Ext.refl H).new _) (Nat.le_refl _);refine⟨A,?_,h3⟩;cases ok with
 |true=>simp -implicitDefEqProofs [F48,PF,aS,abP,Tf,h1,h2]
 |false=>
  rw[Gm] at h1 h2;simp -implicitDefEqProofs [F48,PF,aS,yc,Gm,h1,h2]
theorem Ip (k v:Int)(ok:Bool)(H:ae): ∃H',run G (n+1) 86 [.agg #[cv k,cv v],.bool ok] H=some (c8 (kr (k,v,ok)) aB,H')∧Ext H H':=by
 rw[abB];obtain⟨H1,e1⟩: ∃z,z=H.new ⟨[cv k,cv v],42,1,false⟩:=⟨_,rfl⟩;have b1:cB 42 (.agg #[cv k,cv v]) H=some (pv H.length,H1):=by rw[e1];simp[cB,Value.cells,aD,aO]
 have x1:Ext H H1:=by rw[e1];exact(Ext.refl H).new _
 have g1:H1.get H.length=some ⟨[cv k,cv v],42,1,false⟩:=by rw[e1];exact az
 have l1:H1.length=H.length+1:=by rw[e1,bh]
 have g2:(H1.new ⟨[cv 0,.bool false,cv 0,cv 0,cv 0,aB],45,1,false⟩).get H.length=some ⟨[cv k,cv v],42,1,false⟩:=by rw[cr (by omega)];exact g1
 obtain⟨A,h1,h2,h3,_⟩:=kt (kr (k,v,ok)) (s:=aB) rfl (az (H:=H1) (c:=⟨[cv 0,.bool false,cv 0,cv 0,cv 0,aB],45,1,false⟩)) rfl (x1.new _) (by omega)
 refine⟨A,?_,h3⟩;cases ok with
 |true=>simp -implicitDefEqProofs [F86,b1,PF,aS,Ij _ _ _ _ g2,Tf,h1,h2]
 |false=>
  rw[Gm] at h1 h2;simp -implicitDefEqProofs [F86,b1,PF,aS,yc,Gm,h1,h2]
theorem Iq (h:fm H o p l)(op:jZ)(hn:4194304<n):
  ∃x H',run G (n+8) 26 [pv p,iG op] H=some (x,H')∧wK H' (nw H.length) 1 x (jf l op)∧Ext H H':=by
 rw[abq];have b1:=tJ op H;obtain⟨H1,e1⟩: ∃z,z=H.new ⟨[cv op.kind,cv op.key,cv op.value],39,1,false⟩:=⟨_,rfl⟩;rw[←e1] at b1;have l1:H1.length=H.length+1:=by rw[e1,bh]
 obtain⟨H2,e2⟩: ∃z,z=H1.new ⟨[cv 0,.bool false,cv 0,cv 0,cv 0,aB],45,1,false⟩:=⟨_,rfl⟩;have l2:H2.length=H.length+2:=by rw[e2,bh,l1]
 have x2:Ext H H2:=by rw[e2,e1];exact((Ext.refl H).new _).new _
 have n2:aO H1 45 1 [cv 0,.bool false,cv 0,cv 0,cv 0,aB]=(pv (H.length+1),H2):=by rw[PF,e2,l1]
 have g1:H2.get H.length=some ⟨[cv op.kind,cv op.key,cv op.value],39,1,false⟩:=by rw[e2,cr (by omega),e1];exact az
 have g2:H2.get (H.length+1)=some ⟨[cv 0,.bool false,cv 0,cv 0,cv 0,aB],45,1,false⟩:=by
  have:=az (H:=H1) (c:=⟨[cv 0,.bool false,cv 0,cv 0,cv 0,aB],45,1,false⟩)
  rw[l1, ←e2] at this;exact this
 have P0:=ak H.length 0 H2 g1;have P1:=ak H.length 1 H2 g1;have P2:=ak H.length 2 H2 g1;have m2:=h.ext x2 0;have lW:=λk=>HZ (G:=G) (n:=n+2) m2 k (by omega)
 have aeR:=λk=>KK (G:=G) (n:=n+2) m2 k (by omega)
 have aeS:=λk=>Gk (G:=G) (n:=n+2) m2 k (by omega)
 have Tg: ∀(t:Int×Int×Bool),∃H3,run G (n+7) 48 [cv t.1,cv t.2.1,.bool t.2.2] H2=some (c8 (kr t) aB,H3)∧∃A,bS 6 (pv (H.length+1)) (c8 (kr t) aB) H3=some (undef,A)∧bV 6 (pv (H.length+1)) A=some (c8 (kr t) aB)∧Ext H A:=by
  intro t;obtain⟨H3,r3,x3⟩:=Io (G:=G) (n:=n+6) t.1 t.2.1 t.2.2 H2;obtain⟨A,h1,h2,h3,_⟩:=kt (H0:=H) (kr t) (s:=aB) rfl (x3.get g2) rfl (x2.trans x3) (by omega)
  exact⟨H3,r3,A,h1,h2,h3⟩
 have done: ∀(t:Int×Int×Bool) (A:ae),wK A (nw H.length) 1 (c8 (kr t) aB) (kr t):=λt A=>⟨aB,rfl,by rw[mB];exact .nil⟩
 have lst: ∃xs H3,run G (n+7) 51 [pv p,cv op.key,cv op.value] H2=some (xs,H3)∧fF H3 (nw H.length) 1 xs (wJ op.key op.value l)∧Ext H2 H3:=by
  obtain⟨xs,H3,r3,s3,x3⟩:=PD (G:=G) (n:=n+1) m2 op.key op.value (by omega)
  exact⟨xs,H3,r3,BZ (BY s3) (by omega),x3⟩
 by_cases k4:op.kind=1∨op.kind=2∨op.kind=3∨op.kind=4
 ·obtain⟨H3,r3,A,t1,t2,t3⟩:=Tg (op.key,pF l op.key,ef l op.key);refine⟨_,A,?_,by have:=done (op.key,pF l op.key,ef l op.key) A;unfold jf;rw[if_pos k4];exact this,t3⟩
  simp only at r3 t1 t2;rcases k4 with k|k|k|k<;>
  ·simp -implicitDefEqProofs [Wh,k,b1,n2,ax,P0,P1,aF,lP,lr,lW,eN,r3,t1,t2]
 have k1: ¬op.kind=1:=λh=>k4 (.inl h)
 have k2: ¬op.kind=2:=λh=>k4 (.inr (.inl h))
 have k3: ¬op.kind=3:=λh=>k4 (.inr (.inr (.inl h)))
 have k4': ¬op.kind=4:=λh=>k4 (.inr (.inr (.inr h)))
 by_cases k5:op.kind=5
 ·obtain⟨H3,r3,A,t1,t2,t3⟩:=Tg (gN l op.key);refine⟨_,A,?_,by have:=done (gN l op.key) A;unfold jf;rw[if_neg k4,if_pos k5];exact this,t3⟩
  simp -implicitDefEqProofs [Wh,k5,b1,n2,ax,P0,P1,aF,lP,lr,aeR,eN,r3,t1,t2]
 by_cases k6:op.kind=6
 ·obtain⟨H3,r3,A,t1,t2,t3⟩:=Tg (kM l op.key);refine⟨_,A,?_,by have:=done (kM l op.key) A;unfold jf;rw[if_neg k4,if_neg k5,if_pos k6];exact this,t3⟩
  simp -implicitDefEqProofs [Wh,k6,b1,n2,ax,P0,P1,aF,lP,lr,aeS,eN,r3,t1,t2]
 by_cases k7:op.kind=7
 ·obtain⟨H3,r3,A,t1,t2,t3⟩:=Tg (kM l (-9223372036854775808));refine⟨_,A,?_,by have:=done (kM l (-9223372036854775808)) A;unfold jf;rw[if_neg k4,if_neg k5,if_neg k6,if_pos k7];exact this,t3⟩
  simp -implicitDefEqProofs [Wh,k7,b1,n2,ax,P0,P1,aF,lP,lr,aeS,eN,r3,t1,t2]
 by_cases k8:op.kind=8
 ·obtain⟨H3,r3,A,t1,t2,t3⟩:=Tg (gN l 9223372036854775807);refine⟨_,A,?_,by have:=done (gN l 9223372036854775807) A;unfold jf;rw[if_neg k4,if_neg k5,if_neg k6,if_neg k7,if_pos k8];exact this,t3⟩
  simp -implicitDefEqProofs [Wh,k8,b1,n2,ax,P0,P1,aF,lP,lr,aeR,eN,r3,t1,t2]
 by_cases k9:op.kind=9
 ·obtain⟨xs,H3,r3,s3,x3⟩:=lst;obtain⟨a,c,es⟩:=s3.isSlice;obtain⟨A,t1,t2,t3,sA⟩:=kt (H0:=H) ⟨0,false,0,0,0,wJ op.key op.value l⟩ (s:=xs) es (x3.get g2) rfl (x2.trans x3) (by omega)
  refine⟨_,A,?_,⟨xs,by unfold jf;rw[if_neg k4,if_neg k5,if_neg k6,if_neg k7,if_neg k8,if_pos k9],?_⟩,t3⟩
  ·have ab:=Xe a (wJ op.key op.value l).length c;rw[←es] at ab;simp -implicitDefEqProofs [Wh,k9,b1,n2,ax,P0,P1,P2,aF,lP,lr,r3,ab,t1,t2]
  ·unfold jf;rw[if_neg k4,if_neg k5,if_neg k6,if_neg k7,if_neg k8,if_pos k9];refine(s3.mv (H':=A) (o':=nw H.length) λi n c e=>⟨sA i ?_,rfl⟩).r
   rintro rfl;exact s3.yA (x3.get g2) _ _ e
 by_cases KM:op.kind=10
 ·obtain⟨xs,H3,r3,s3,x3⟩:=lst;obtain⟨A,t1,t2,t3,_⟩:=kt (H0:=H) ⟨0,false,0,0,(wJ op.key op.value l).length,[]⟩ (s:=aB) rfl (x3.get g2) rfl (x2.trans x3) (by omega)
  refine⟨_,A,?_,⟨aB,by unfold jf;rw[if_neg k4,if_neg k5,if_neg k6,if_neg k7,if_neg k8,if_neg k9,if_pos KM],by unfold jf;rw[if_neg k4,if_neg k5,if_neg k6,if_neg k7,if_neg k8,if_neg k9,if_pos KM];exact .nil⟩,t3⟩
  simp -implicitDefEqProofs [Wh,KM,b1,n2,ax,P0,P1,P2,aF,lP,lr,r3,s3.len,acH,t1,t2]
 ·obtain⟨A,t1,t2,t3,_⟩:=kt (H0:=H) (eJ 5) (s:=aB) rfl g2 rfl x2 (by omega)
  refine⟨_,A,?_,⟨aB,by unfold jf;rw[if_neg k4,if_neg k5,if_neg k6,if_neg k7,if_neg k8,if_neg k9,if_neg KM],by unfold jf;rw[if_neg k4,if_neg k5,if_neg k6,if_neg k7,if_neg k8,if_neg k9,if_neg KM];exact .nil⟩,t3⟩
  simp -implicitDefEqProofs [Wh,b1,n2,ax,P0,P1,P2,aF,k1,k2,k3,k4',k5,k6,k7,k8,k9,KM,lP,lr,Sr,FX,nV,t1,t2]
end
theorem Yq:Tryz.prog.underlying 4=some .bool:=by kernel_rfl
theorem Xf {l:PL}{k:Int}(h:ef l k=false):lz l k=l:=by
 unfold lz;rw[h];simp
def PG (l:PL)(op:jZ):dF:=if q8 (aX l) then jf l op else bZ
def Th (l:PL)(op:jZ):PL:=if q8 (aX l) then Im l op else[]
def du (a b:dF):Bool:=decide (a.pH=b.pH)&&(a.found==b.found)&&decide ((a.key,a.value)=(b.key,b.value))&&decide (a.n=b.n)&&decide (a.list=b.list)
section
variable {G:ag} {H:ae} {o:an} {q:Int} {x:Value} {l:PL} {n p:Nat}
theorem tL (h:fm H o p l)(op:jZ)(hn:4194304<n): ∃H',run G (n+6) 54 [pv p,iG op] H=some (.bool (nU l op),H')∧Ext H H':=by
 rw[aaO];have b1:=tJ op H;obtain⟨H1,e1⟩: ∃z,z=H.new ⟨[cv op.kind,cv op.key,cv op.value],39,1,false⟩:=⟨_,rfl⟩;rw[←e1] at b1;have x1:Ext H H1:=by rw[e1];exact(Ext.refl H).new _
 have g1:H1.get H.length=some ⟨[cv op.kind,cv op.key,cv op.value],39,1,false⟩:=by rw[e1];exact az
 have P0:=ak H.length 0 H1 g1;have P1:=ak H.length 1 H1 g1;have lW:=HZ (G:=G) (n:=n) (h.ext x1 0) op.key hn;refine⟨H1,?_,x1⟩;unfold nU;by_cases k1:op.kind=1
 ·simp -implicitDefEqProofs [F54,b1,ax,P0,P1,lW,eN,aF,k1,aS]
 by_cases k3:op.kind=3
 ·simp -implicitDefEqProofs [F54,b1,ax,P0,P1,lW,eN,aF,k3]
 ·simp -implicitDefEqProofs [F54,b1,ax,P0,P1,lW,eN,aF,k1,k3]
theorem KU (h:fm H o p l)(hl:l.length<4194304)(op:jZ)(hn:4194304<n):
  ∃p' H',run KG (n+8) 55 [pv p,iG op] H=some (pv p',H')∧Ext H H'∧(nU l op=false→p'=p)∧(nU l op=true→H.length≤p'∧fm H' (an.from (λ_=> -1) H.length p') p' (Im l op)):=by
 rw[acb];have b1:=tJ op H;obtain⟨H1,e1⟩: ∃z,z=H.new ⟨[cv op.kind,cv op.key,cv op.value],39,1,false⟩:=⟨_,rfl⟩;rw[←e1] at b1;have l1:H1.length=H.length+1:=by rw[e1,bh]
 have x1:Ext H H1:=by rw[e1];exact(Ext.refl H).new _
 have g1:H1.get H.length=some ⟨[cv op.kind,cv op.key,cv op.value],39,1,false⟩:=by rw[e1];exact az
 have L1:=Qj g1;have En:=h.lt;have m1:fm H1 ((Fun.oM o p).from H.length (-1)) p l:=h.oM.ext x1 (-1)
 obtain⟨H2,r2,x2⟩:=tL (G:=KG) (n:=n+1) m1 op (by omega)
 cases ht:nU l op with
 |false=>
  rw[ht] at r2;refine⟨p,H2,?_,x1.trans x2,λ_=>rfl,λh=>by cases h⟩
  simp -implicitDefEqProofs [F55,b1,L1,r2,aS]
 |true=>
  rw[ht] at r2;have m2:=m1.ext x2 (-1);obtain⟨c,H3,o3,r3,m3,f3,hc⟩:=KP (G:=KG) (n:=n+5) m2;have GG:=x2.size;have g3:H3.get H.length=some ⟨[cv op.kind,cv op.key,cv op.value],39,1,false⟩:=by rw[f3.same _ (by omega) (by simp)];exact x2.get g1
  have P0:=ak H.length 0 H3 g3;have P1:=ak H.length 1 H3 g3;have P2:=ak H.length 2 H3 g3;have old: ∀i,i<H2.length→o3 i=(c:Int)→False:=by
   intro i hi he;rw[f3.own i hi] at he;rcases Nat.lt_or_ge i H1.length with g|g
   ·rw[nF g] at he;rcases Nat.lt_or_ge i H.length with g'|g'
    ·rw[nF g'] at he;unfold Fun.oM at he;split at he<;>omega
    ·rw[gg g'] at he;omega
   ·rw[gg g] at he;omega
  have x3:Ext H2 H3:=Ext.of f3 λi _ h=>by simp at h
  by_cases k3:op.kind=3
  ·obtain⟨H4,r4,m4,f4⟩:=SR (G:=KG) (n:=n+3) m3 op.key (by omega)
   have x4:Ext H2 H4:=x3.trans' f4 old;refine⟨c,H4,?_,(x1.trans x2).trans x4,(λh=>by cases h),λ_=>⟨by omega,?_⟩⟩
   ·simp -implicitDefEqProofs [F55,b1,L1,r2,aS,r3,ax,P0,P1,P2,aF,k3,r4,HW,yP]
   ·unfold Im;rw[ht,if_pos rfl,if_pos k3];exact m4.relabel λi _ hi=>gg (by
     rcases Nat.lt_or_ge i H2.length with g|g
     ·exact absurd (old i g hi) id
     ·omega)
  ·obtain⟨H4,o4,r4,m4,f4⟩:=Ia (n:=n+3) m3 op.key op.value hl (by omega)
   have x4:Ext H2 H4:=x3.trans' f4 old;refine⟨c,H4,?_,(x1.trans x2).trans x4,(λh=>by cases h),λ_=>⟨by omega,?_⟩⟩
   ·simp -implicitDefEqProofs [F55,b1,L1,r2,aS,r3,ax,P0,P1,P2,aF,k3,r4,HW,yP]
   ·unfold Im;rw[ht,if_pos rfl,if_neg k3];exact m4.relabel λi _ hi=>gg (by
     rcases Nat.lt_or_ge i H2.length with g|g
     ·rw[f4.own i (Nat.lt_of_lt_of_le g f3.size)] at hi;exact absurd (old i g hi) id
     ·omega)
theorem KV {o2:an}{q2:Int}{y:Value}{m:PL}(hx:ee H o q x l)(hy:ee H o2 q2 y m)(hl:l.length≤4294967296)(hn:l.length<n):run G (n+1) 24 [x,y] H=some (.bool (decide (l=m)),H):=by
 rw[aav];have jm:=hx.len;have hyl:=hy.len;by_cases hlen:l.length=m.length
 ·obtain⟨r,iL,eC,hr⟩:=iy (step:=Kh (run G n) n)
   (Q:=λk vs H'=>H'=H∧∃(i:Nat) (d14 d25:Value),i≤l.length∧k=l.length-i∧vs=[x,y,.bool false,.bool false,cv i,d14,d25]∧l.take i=m.take i)
   (R:=λr=>r.2.2=H∧∃(d5 d14 d25:Value),r.2.1=[x,y,.bool false,.bool false,d5,d14,d25]∧((r.1= .exit 0∧l=m)∨(r.1= .ret∧l≠m)))
   (by
    rintro k vs H' ⟨rfl,i,d14,d25,hi,rfl,rfl,IZ⟩;by_cases dH:i<l.length
    ·have h1:(i:Int)<l.length:=by omega
     have Jq:i<m.length:=by omega
     obtain⟨bi,bo,y0,fq,rW,DY,qH⟩:=hx.idx dH;obtain⟨d1,d2,d3⟩:=qH _ rW;obtain⟨bj,bjo,z0,Dg,IT,hco,W9⟩:=hy.idx Jq;obtain⟨c1,c2,c3⟩:=W9 _ IT;have hw:IntKind.i64.wrap ((i:Int)+1)=((i+1:Nat):Int):=by rw[jE (by omega)];omega
     by_cases he:l.getD i (0,0)=m.getD i (0,0)
     ·have UZ:((l.getD i (0,0)).1,(l.getD i (0,0)).2)=((m.getD i (0,0)).1,(m.getD i (0,0)).2):=he;refine .inl ⟨_,_,l.length-(i+1),by omega,?_,rfl,i+1,.bool true,.bool false,by omega,rfl,rfl,by rw[nG dH,nG Jq,IZ,he]⟩
      simp -implicitDefEqProofs [-List.getD_eq_getElem?_getD, -Int.natCast_add, -Prod.mk.injEq,AA,uZ,jm,aE,h1,fq,Dg,d3,c3,neP,UZ,de,hw,fin]
     ·have UZ: ¬((l.getD i (0,0)).1,(l.getD i (0,0)).2)=((m.getD i (0,0)).1,(m.getD i (0,0)).2):=he;refine .inr ⟨(.ret,[x,y,.bool false,.bool false,cv i,.bool true,.bool true],H'),?_,by simp,rfl,_,_,_,rfl,.inr ⟨rfl,λe=>he (by rw[e])⟩⟩
      simp -implicitDefEqProofs [-List.getD_eq_getElem?_getD, -Int.natCast_add, -Prod.mk.injEq,AA,uZ,jm,aE,h1,fq,Dg,d3,c3,neP,UZ,fin]
    ·have h1: ¬(i:Int)<l.length:=by omega
     rw[List.take_of_length_le (by omega),List.take_of_length_le (by omega)] at IZ
     refine .inr ⟨(.exit 0,[x,y,.bool false,.bool false,cv i,.bool false,d25],H'),?_,by simp,rfl,_,_,_,rfl,.inl ⟨rfl,IZ⟩⟩
     simp -implicitDefEqProofs [AA,uZ,jm,aE,h1,fin])
   (l.length-0) [x,y,.bool false,.bool false,cv (0:Nat),undef,undef] H ⟨rfl,0,_,_,Nat.zero_le _,rfl,rfl,by simp⟩ n (by omega)
  obtain⟨e,vs,H'⟩:=r;simp only at hr;obtain⟨rfl,d5,d14,d25,rfl,⟨rfl,h⟩|⟨rfl,h⟩⟩:=hr
  ·simp only[Int.natCast_zero] at iL;rw[decide_eq_true h];simp -implicitDefEqProofs [F24,jm,hyl,hlen,eu,iL,RS,Fz]
  ·simp only[Int.natCast_zero] at iL;rw[decide_eq_false h];simp -implicitDefEqProofs [F24,jm,hyl,hlen,eu,iL,dr,dv,up,qP,qO,xO];rfl
 ·have h: ¬l=m:=λe=>hlen (by rw[e])
  have ug: ¬(l.length:Int)=m.length:=by omega
  rw[decide_eq_false h];simp -implicitDefEqProofs [F24,jm,hyl,ug,eu]
end
section
variable {G:ag} {H:ae} {o:an} {q:Int} {x:Value} {l:PL} {n p:Nat}
theorem KX {o2:an}{q2:Int}{y:Value}{m:PL}(hx:ee H o q x l)(hy:ee H o2 q2 y m)(hl:l.length≤4294967296)(hn:l.length<n):run G (n+1) 109 [x,y] H=some (.bool (decide (l=m)),H):=by
 rw[VK];have jm:=hx.len;have hyl:=hy.len;by_cases hlen:l.length=m.length
 ·obtain⟨r,iL,eC,hr⟩:=iy (step:=FB (run G n) n)
   (Q:=λk vs H'=>H'=H∧∃(i:Nat) (d14 d5 d24:Value),i≤l.length∧k=l.length-i∧vs=[x,y,.bool false,.bool false,cv i,cv l.length,d14,d5,d24]∧l.take i=m.take i)
   (R:=λr=>r.2.2=H∧∃(d13 d14 d5 d24:Value),r.2.1=[x,y,.bool false,.bool false,d13,cv l.length,d14,d5,d24]∧((r.1= .exit 0∧l=m)∨(r.1= .ret∧l≠m)))
   (by
    rintro k vs H' ⟨rfl,i,d14,d5,d24,hi,rfl,rfl,IZ⟩;by_cases dH:i<l.length
    ·have h1:(i:Int)<l.length:=by omega
     have Jq:i<m.length:=by omega
     obtain⟨bi,bo,y0,fq,rW,DY,qH⟩:=hx.idx dH;obtain⟨d1,d2,d3⟩:=qH _ rW;obtain⟨bj,bjo,z0,Dg,IT,hco,W9⟩:=hy.idx Jq;obtain⟨c1,c2,c3⟩:=W9 _ IT;have hw:IntKind.i64.wrap ((i:Int)+1)=((i+1:Nat):Int):=by rw[jE (by omega)];omega
     by_cases he:l.getD i (0,0)=m.getD i (0,0)
     ·have UZ:((l.getD i (0,0)).1,(l.getD i (0,0)).2)=((m.getD i (0,0)).1,(m.getD i (0,0)).2):=he;refine .inl ⟨_,_,l.length-(i+1),by omega,?_,rfl,i+1,.bool true,cv i,.bool false,by omega,rfl,rfl,by rw[nG dH,nG Jq,IZ,he]⟩
      simp -implicitDefEqProofs [-List.getD_eq_getElem?_getD, -Int.natCast_add, -Prod.mk.injEq,wD,qX,aE,h1,fq,Dg,d3,c3,neP,UZ,de,hw,fin]
     ·have UZ: ¬((l.getD i (0,0)).1,(l.getD i (0,0)).2)=((m.getD i (0,0)).1,(m.getD i (0,0)).2):=he;refine .inr ⟨(.ret,[x,y,.bool false,.bool false,cv i,cv l.length,.bool true,cv i,.bool true],H'),?_,by simp,rfl,_,_,_,_,rfl,.inr ⟨rfl,λe=>he (by rw[e])⟩⟩
      simp -implicitDefEqProofs [-List.getD_eq_getElem?_getD, -Int.natCast_add, -Prod.mk.injEq,wD,qX,aE,h1,fq,Dg,d3,c3,neP,UZ,fin]
    ·have h1: ¬(i:Int)<l.length:=by omega
     rw[List.take_of_length_le (by omega),List.take_of_length_le (by omega)] at IZ
     refine .inr ⟨(.exit 0,[x,y,.bool false,.bool false,cv i,cv l.length,.bool false,d5,d24],H'),?_,by simp,rfl,_,_,_,_,rfl,.inl ⟨rfl,IZ⟩⟩
     simp -implicitDefEqProofs [wD,qX,aE,h1,fin])
   (l.length-0) [x,y,.bool false,.bool false,cv (0:Nat),cv l.length,undef,undef,undef] H ⟨rfl,0,_,_,_,Nat.zero_le _,rfl,rfl,by simp⟩ n (by omega)
  obtain⟨e,vs,H'⟩:=r;simp only at hr;obtain⟨rfl,d13,d14,d5,d24,rfl,⟨rfl,h⟩|⟨rfl,h⟩⟩:=hr
  ·simp only[Int.natCast_zero] at iL;rw[hlen] at iL;rw[decide_eq_true h];simp -implicitDefEqProofs [VJ,jm,hyl,hlen,eu,iL,Ou,AB]
  ·simp only[Int.natCast_zero] at iL;rw[hlen] at iL;rw[decide_eq_false h];simp -implicitDefEqProofs [VJ,jm,hyl,hlen,eu,iL,dr,dv,up,qP,qO,xO];rfl
 ·have h: ¬l=m:=λe=>hlen (by rw[e])
  have ug: ¬(l.length:Int)=m.length:=by omega
  rw[decide_eq_false h];simp -implicitDefEqProofs [VJ,jm,hyl,ug,eu]
theorem PH (r:dF){s:Value}{a:Option Addr}{m c:Nat}(es:s= .slice a m c)(H:ae):cB 45 (c8 r s) H=some (pv H.length,H.new ⟨[cv r.pH,.bool r.found,cv r.key,cv r.value,cv r.n,s],45,1,false⟩):=by
 subst es;simp[cB,Value.cells,aD,aO]
theorem yd {H:ae}{b:Nat}{r:dF}{s:Value}{t:TypeId}(h:H.get b=some ⟨[cv r.pH,.bool r.found,cv r.key,cv r.value,cv r.n,s],t,1,false⟩):bV 2 (.pointer (some ⟨b,2,none⟩)) H=some (.agg #[cv r.key,cv r.value]):=by
 simp[bV,aA,h]
theorem pI {o2:an}{q2:Int}{y:Value}{ra rb:dF}(hx:wK H o q x ra)(hy:wK H o2 q2 y rb)(hl:ra.list.length≤4294967296)(hn:ra.list.length<n):
  ∃H',run G (n+2) 11 [x,y] H=some (.bool (du ra rb),H')∧Ext H H':=by
 rw[aas];obtain⟨s,rfl,hs⟩:=hx;obtain⟨t,rfl,ht⟩:=hy;obtain⟨a1,c1,es⟩:=hs.isSlice;obtain⟨a2,c2,et⟩:=ht.isSlice;have b1:=PH ra es H;obtain⟨H1,e1⟩: ∃z,z=H.new ⟨[cv ra.pH,.bool ra.found,cv ra.key,cv ra.value,cv ra.n,s],45,1,false⟩:=⟨_,rfl⟩;rw[←e1] at b1;have l1:H1.length=H.length+1:=by rw[e1,bh]
 have b2:=PH rb et H1;obtain⟨H2,e2⟩: ∃z,z=H1.new ⟨[cv rb.pH,.bool rb.found,cv rb.key,cv rb.value,cv rb.n,t],45,1,false⟩:=⟨_,rfl⟩;rw[←e2,l1] at b2;have x2:Ext H H2:=by rw[e2,e1];exact((Ext.refl H).new _).new _
 have g1:H2.get H.length=some ⟨[cv ra.pH,.bool ra.found,cv ra.key,cv ra.value,cv ra.n,s],45,1,false⟩:=by rw[e2,cr (by omega),e1];exact az
 have g2:H2.get (H.length+1)=some ⟨[cv rb.pH,.bool rb.found,cv rb.key,cv rb.value,cv rb.n,t],45,1,false⟩:=by
  have:=az (H:=H1) (c:=⟨[cv rb.pH,.bool rb.found,cv rb.key,cv rb.value,cv rb.n,t],45,1,false⟩)
  rw[l1, ←e2] at this;exact this
 have hp:=KV (G:=G) (n:=n) (hs.fr (x2.fr o 0) (by simp)) (ht.fr (x2.fr o2 0) (by simp)) hl hn
 refine⟨H2,?_,x2⟩;have A0:=ak H.length 0 H2 g1;have A1:=ak H.length 1 H2 g1;have A4:=ak H.length 4 H2 g1;have A5:=ak H.length 5 H2 g1;have B0:=ak (H.length+1) 0 H2 g2;have B1:=ak (H.length+1) 1 H2 g2;have B4:=ak (H.length+1) 4 H2 g2;have B5:=ak (H.length+1) 5 H2 g2;unfold du;by_cases h1:ra.pH=rb.pH
 case neg=>simp -implicitDefEqProofs [F11,b1,b2,ax,A0,B0,aF,h1,ar]
 by_cases h2:ra.found=rb.found
 case neg=>
  have Nj:(ra.found==rb.found)=false:=by simpa using h2
  simp -implicitDefEqProofs [F11,b1,b2,ax,A0,B0,A1,B1,aF,lH _ _ Yq,h1,Nj,ar]
 by_cases h3:(ra.key,ra.value)=(rb.key,rb.value)
 case neg=>simp -implicitDefEqProofs [-Prod.mk.injEq,F11,b1,b2,ax,A0,B0,A1,B1,aF,lH _ _ Yq,h1,h2,ar,yd g1,yd g2,eqP,h3]
 by_cases h4:ra.n=rb.n
 case neg=>simp -implicitDefEqProofs [-Prod.mk.injEq,F11,b1,b2,ax,A0,B0,A1,B1,A4,B4,aF,lH _ _ Yq,h1,h2,ar,yd g1,yd g2,eqP,h3,h4]
 simp -implicitDefEqProofs [-Prod.mk.injEq,F11,b1,b2,ax,A0,B0,A1,B1,A4,B4,A5,B5,aF,lH _ _ Yq,h1,h2,ar,yd g1,yd g2,eqP,h3,h4,hp]
theorem rX {o2:an}{q2:Int}{y:Value}{ra rb:dF}(hx:wK H o q x ra)(hy:wK H o2 q2 y rb)(hl:ra.list.length≤4294967296)(hn:ra.list.length<n):
  ∃H',run G (n+2) 82 [x,y] H=some (.bool (du ra rb),H')∧Ext H H':=by
 rw[aaj];obtain⟨s,rfl,hs⟩:=hx;obtain⟨t,rfl,ht⟩:=hy;obtain⟨a1,c1,es⟩:=hs.isSlice;obtain⟨a2,c2,et⟩:=ht.isSlice;have b1:=PH ra es H;obtain⟨H1,e1⟩: ∃z,z=H.new ⟨[cv ra.pH,.bool ra.found,cv ra.key,cv ra.value,cv ra.n,s],45,1,false⟩:=⟨_,rfl⟩;rw[←e1] at b1;have l1:H1.length=H.length+1:=by rw[e1,bh]
 have b2:=PH rb et H1;obtain⟨H2,e2⟩: ∃z,z=H1.new ⟨[cv rb.pH,.bool rb.found,cv rb.key,cv rb.value,cv rb.n,t],45,1,false⟩:=⟨_,rfl⟩;rw[←e2,l1] at b2;have x2:Ext H H2:=by rw[e2,e1];exact((Ext.refl H).new _).new _
 have g1:H2.get H.length=some ⟨[cv ra.pH,.bool ra.found,cv ra.key,cv ra.value,cv ra.n,s],45,1,false⟩:=by rw[e2,cr (by omega),e1];exact az
 have g2:H2.get (H.length+1)=some ⟨[cv rb.pH,.bool rb.found,cv rb.key,cv rb.value,cv rb.n,t],45,1,false⟩:=by
  have:=az (H:=H1) (c:=⟨[cv rb.pH,.bool rb.found,cv rb.key,cv rb.value,cv rb.n,t],45,1,false⟩)
  rw[l1, ←e2] at this;exact this
 have hp:=KX (G:=G) (n:=n) (hs.fr (x2.fr o 0) (by simp)) (ht.fr (x2.fr o2 0) (by simp)) hl hn
 refine⟨H2,?_,x2⟩;have A0:=ak H.length 0 H2 g1;have A1:=ak H.length 1 H2 g1;have A4:=ak H.length 4 H2 g1;have A5:=ak H.length 5 H2 g1;have B0:=ak (H.length+1) 0 H2 g2;have B1:=ak (H.length+1) 1 H2 g2;have B4:=ak (H.length+1) 4 H2 g2;have B5:=ak (H.length+1) 5 H2 g2;unfold du;by_cases h1:ra.pH=rb.pH
 case neg=>simp -implicitDefEqProofs [F82,b1,b2,ax,A0,B0,aF,h1,ar]
 by_cases h2:ra.found=rb.found
 case neg=>
  have Nj:(ra.found==rb.found)=false:=by simpa using h2
  simp -implicitDefEqProofs [F82,b1,b2,ax,A0,B0,A1,B1,aF,lH _ _ Yq,h1,Nj,ar]
 by_cases h3:(ra.key,ra.value)=(rb.key,rb.value)
 case neg=>simp -implicitDefEqProofs [-Prod.mk.injEq,F82,b1,b2,ax,A0,B0,A1,B1,aF,lH _ _ Yq,h1,h2,ar,yd g1,yd g2,eqP,h3]
 by_cases h4:ra.n=rb.n
 case neg=>simp -implicitDefEqProofs [-Prod.mk.injEq,F82,b1,b2,ax,A0,B0,A1,B1,A4,B4,aF,lH _ _ Yq,h1,h2,ar,yd g1,yd g2,eqP,h3,h4]
 simp -implicitDefEqProofs [-Prod.mk.injEq,F82,b1,b2,ax,A0,B0,A1,B1,A4,B4,A5,B5,aF,lH _ _ Yq,h1,h2,ar,yd g1,yd g2,eqP,h3,h4,hp]
theorem vA (hx:ee H o q x l)(hl:l.length≤4194303)(op:jZ)(hn:4194304<n):
  ∃y H',run G (n+4) 60 [x,iG op] H=some (y,H')∧wK H' (nw H.length) 1 y (PG l op)∧Ext H H':=by
 rw[ZM];have b1:=tJ op H;obtain⟨H1,e1⟩: ∃z,z=H.new ⟨[cv op.kind,cv op.key,cv op.value],39,1,false⟩:=⟨_,rfl⟩;rw[←e1] at b1;have l1:H1.length=H.length+1:=by rw[e1,bh]
 obtain⟨H2,e2⟩: ∃z,z=H1.new ⟨[cv 0,.bool false,cv 0,cv 0,cv 0,aB],45,1,false⟩:=⟨_,rfl⟩;have l2:H2.length=H.length+2:=by rw[e2,bh,l1]
 have x2:Ext H H2:=by rw[e2,e1];exact((Ext.refl H).new _).new _
 have n2:aO H1 45 1 [cv 0,.bool false,cv 0,cv 0,cv 0,aB]=(pv (H.length+1),H2):=by rw[PF,e2,l1]
 have g1:H2.get H.length=some ⟨[cv op.kind,cv op.key,cv op.value],39,1,false⟩:=by rw[e2,cr (by omega),e1];exact az
 have g2:H2.get (H.length+1)=some ⟨[cv 0,.bool false,cv 0,cv 0,cv 0,aB],45,1,false⟩:=by
  have:=az (H:=H1) (c:=⟨[cv 0,.bool false,cv 0,cv 0,cv 0,aB],45,1,false⟩)
  rw[l1, ←e2] at this;exact this
 have P0:=ak H.length 0 H2 g1;have P1:=ak H.length 1 H2 g1;have P2:=ak H.length 2 H2 g1;have Ur:=hx.fr (x2.fr o 0) (by simp)
 have oN:=tH (G:=G) (n:=n+2) Ur (by omega) (by omega)
 unfold PG;by_cases lV:q8 (aX l)
 case neg=>
  rw[if_neg lV];rw[decide_eq_false lV] at oN;obtain⟨A,t1,t2,t3,sA⟩:=kt (H0:=H) bZ (s:=aB) rfl g2 rfl x2 (by omega)
  refine⟨_,A,?_,⟨aB,rfl,.nil⟩,t3⟩;simp -implicitDefEqProofs [Uu,b1,n2,oN,aS,yc,t1,t2]
 rw[if_pos lV];rw[decide_eq_true lV] at oN;have Tg: ∀(t:Int×Int×Bool) (Hx:ae),Ext H2 Hx→∃H3,run G (n+3) 86 [.agg #[cv t.1,cv t.2.1],.bool t.2.2] Hx=some (c8 (kr t) aB,H3)∧∃A,bS 6 (pv (H.length+1)) (c8 (kr t) aB) H3=some (undef,A)∧bV 6 (pv (H.length+1)) A=some (c8 (kr t) aB)∧Ext H A:=by
  intro t Hx Xd;obtain⟨H3,r3,x3⟩:=Ip (G:=G) (n:=n+2) t.1 t.2.1 t.2.2 Hx;obtain⟨A,h1,h2,h3,_⟩:=kt (H0:=H) (kr t) (s:=aB) rfl (x3.get (Xd.get g2)) rfl ((x2.trans Xd).trans x3) (by omega)
  exact⟨H3,r3,A,h1,h2,h3⟩
 have done: ∀(t:Int×Int×Bool) (A:ae),wK A (nw H.length) 1 (c8 (kr t) aB) (kr t):=λt A=>⟨aB,rfl,by rw[mB];exact .nil⟩
 have flo: ∀k,∃Hx,run G (n+3) 87 [x,cv k] H2=some (W8 (gN l k),Hx)∧Ext H2 Hx:=λk=>by
  obtain⟨Hx,r,s,z⟩:=Ik (G:=G) (n:=n+1) Ur (by omega) k (by omega)
  exact⟨Hx,r,s,z⟩
 have cei: ∀k,∃Hx,run G (n+3) 88 [x,cv k] H2=some (W8 (kM l k),Hx)∧Ext H2 Hx:=λk=>by
  obtain⟨Hx,r,s,z⟩:=Df (G:=G) (n:=n+1) Ur (by omega) k (by omega)
  exact⟨Hx,r,s,z⟩
 have lst: ∃xs H3,run G (n+3) 89 [x,cv op.key,cv op.value] H2=some (xs,H3)∧fF H3 (nw H.length) 1 xs (wJ op.key op.value l)∧Ext H2 H3:=by
  obtain⟨xs,H3,r3,s3,sl3,z3⟩:=Il (G:=G) (n:=n+2) Ur (by omega) op.key op.value (by omega)
  exact⟨xs,H3,r3,BZ (BY s3) (by omega),sl3,z3⟩
 by_cases k4:op.kind=1∨op.kind=2∨op.kind=3∨op.kind=4
 ·have lW:=wI (G:=G) (n:=n+1) Ur (by omega) op.key (by omega)
  obtain⟨H3,r3,A,t1,t2,t3⟩:=Tg (op.key,pF l op.key,ef l op.key) H2 (.refl _);refine⟨_,A,?_,by have:=done (op.key,pF l op.key,ef l op.key) A;unfold jf;rw[if_pos k4];exact this,t3⟩
  simp only at r3 t1 t2;rcases k4 with k|k|k|k<;>
  ·simp -implicitDefEqProofs [Uu,k,b1,n2,oN,aS,ax,P0,P1,aF,lK,lf,lW,eN,abP,r3,t1,t2]
 have k1: ¬op.kind=1:=λh=>k4 (.inl h)
 have k2: ¬op.kind=2:=λh=>k4 (.inr (.inl h))
 have k3: ¬op.kind=3:=λh=>k4 (.inr (.inr (.inl h)))
 have k4': ¬op.kind=4:=λh=>k4 (.inr (.inr (.inr h)))
 by_cases k5:op.kind=5
 ·obtain⟨Hx,rx,ex⟩:=flo op.key;obtain⟨H3,r3,A,t1,t2,t3⟩:=Tg (gN l op.key) Hx ex;refine⟨_,A,?_,by have:=done (gN l op.key) A;unfold jf;rw[if_neg k4,if_pos k5];exact this,t3⟩
  simp -implicitDefEqProofs [Uu,k5,b1,n2,oN,aS,ax,P0,P1,aF,lK,lf,rx,eN,r3,t1,t2]
 by_cases k6:op.kind=6
 ·obtain⟨Hx,rx,ex⟩:=cei op.key;obtain⟨H3,r3,A,t1,t2,t3⟩:=Tg (kM l op.key) Hx ex;refine⟨_,A,?_,by have:=done (kM l op.key) A;unfold jf;rw[if_neg k4,if_neg k5,if_pos k6];exact this,t3⟩
  simp -implicitDefEqProofs [Uu,k6,b1,n2,oN,aS,ax,P0,P1,aF,lK,lf,rx,eN,r3,t1,t2]
 by_cases k7:op.kind=7
 ·obtain⟨Hx,rx,ex⟩:=cei (-9223372036854775808);obtain⟨H3,r3,A,t1,t2,t3⟩:=Tg (kM l (-9223372036854775808)) Hx ex;refine⟨_,A,?_,by have:=done (kM l (-9223372036854775808)) A;unfold jf;rw[if_neg k4,if_neg k5,if_neg k6,if_pos k7];exact this,t3⟩
  simp -implicitDefEqProofs [Uu,k7,b1,n2,oN,aS,ax,P0,P1,aF,lK,lf,rx,eN,r3,t1,t2]
 by_cases k8:op.kind=8
 ·obtain⟨Hx,rx,ex⟩:=flo 9223372036854775807;obtain⟨H3,r3,A,t1,t2,t3⟩:=Tg (gN l 9223372036854775807) Hx ex;refine⟨_,A,?_,by have:=done (gN l 9223372036854775807) A;unfold jf;rw[if_neg k4,if_neg k5,if_neg k6,if_neg k7,if_pos k8];exact this,t3⟩
  simp -implicitDefEqProofs [Uu,k8,b1,n2,oN,aS,ax,P0,P1,aF,lK,lf,rx,eN,r3,t1,t2]
 by_cases k9:op.kind=9
 ·obtain⟨xs,H3,r3,s3,x3⟩:=lst;obtain⟨a,c,es⟩:=s3.isSlice;obtain⟨A,t1,t2,t3,sA⟩:=kt (H0:=H) ⟨0,false,0,0,0,wJ op.key op.value l⟩ (s:=xs) es (x3.get g2) rfl (x2.trans x3) (by omega)
  refine⟨_,A,?_,⟨xs,by unfold jf;rw[if_neg k4,if_neg k5,if_neg k6,if_neg k7,if_neg k8,if_pos k9],?_⟩,t3⟩
  ·have ab:=Xe a (wJ op.key op.value l).length c;rw[←es] at ab;simp -implicitDefEqProofs [Uu,k9,b1,n2,oN,aS,ax,P0,P1,P2,aF,lK,lf,r3,ab,t1,t2]
  ·unfold jf;rw[if_neg k4,if_neg k5,if_neg k6,if_neg k7,if_neg k8,if_pos k9];refine(s3.mv (H':=A) (o':=nw H.length) λi n c e=>⟨sA i ?_,rfl⟩).r
   rintro rfl;exact s3.yA (x3.get g2) _ _ e
 by_cases KM:op.kind=10
 ·obtain⟨xs,H3,r3,s3,x3⟩:=lst;obtain⟨A,t1,t2,t3,_⟩:=kt (H0:=H) ⟨0,false,0,0,(wJ op.key op.value l).length,[]⟩ (s:=aB) rfl (x3.get g2) rfl (x2.trans x3) (by omega)
  refine⟨_,A,?_,⟨aB,by unfold jf;rw[if_neg k4,if_neg k5,if_neg k6,if_neg k7,if_neg k8,if_neg k9,if_pos KM],by unfold jf;rw[if_neg k4,if_neg k5,if_neg k6,if_neg k7,if_neg k8,if_neg k9,if_pos KM];exact .nil⟩,t3⟩
  simp -implicitDefEqProofs [Uu,KM,b1,n2,oN,aS,ax,P0,P1,P2,aF,lK,lf,r3,s3.len,acH,t1,t2]
 ·obtain⟨A,t1,t2,t3,_⟩:=kt (H0:=H) (eJ 5) (s:=aB) rfl g2 rfl x2 (by omega)
  refine⟨_,A,?_,⟨aB,by unfold jf;rw[if_neg k4,if_neg k5,if_neg k6,if_neg k7,if_neg k8,if_neg k9,if_neg KM],by unfold jf;rw[if_neg k4,if_neg k5,if_neg k6,if_neg k7,if_neg k8,if_neg k9,if_neg KM];exact .nil⟩,t3⟩
  simp -implicitDefEqProofs [Uu,b1,n2,oN,aS,ax,P0,P1,P2,aF,k1,k2,k3,k4',k5,k6,k7,k8,k9,KM,lK,lf,Rn,E6,nV,t1,t2]
theorem D2 (hx:ee H o q x l)(hl:l.length≤4194304):
  ∃y H',cd 42 2 16 (.slice (some ⟨H.length,0,none⟩) 0 0) x (H.new ⟨[],42,2,false⟩)=some (y,H')∧fF H' (nw H.length) 1 y l∧Ext H H':=by
 have h0:ee H (oI H) 0 x l:=hx.relabel λi hi _=>Ig hi
 obtain⟨H1,e1⟩: ∃y,y=H.new ⟨[],42,2,false⟩:=⟨_,rfl⟩;have f1:Fr H (oI H) H1 ((oI H).up H.length 1) [1]:=by rw[e1];exact(Fr.refl _ _ _).new _ _
 have x1:=h0.fr f1 (by simp)
 have s1:fF H1 ((oI H).up H.length 1) 1 (.slice (some ⟨H.length,0,none⟩) 0 0) []:=.inr ⟨H.length,0,[],42,rfl,by rw[e1];exact az,rfl,aQ⟩
 obtain⟨x',H',o',ha,xs,f2,_⟩:=s1.app 42 x1.src (by simp;omega)
 rw[←e1];have fA:=f1.tr f2;refine⟨x',H',ha,BY λQ=>(Ih (o:=o) (by simpa using xs) fA Q).1,⟨(Ih (o:=o) xs fA 0).2.1,fA.size⟩⟩
theorem Ir (hx:ee H o q x l)(hl:l.length≤4194303)(op:jZ)(hn:4194304<n):
  ∃y H',run G (n+3) 59 [x,iG op] H=some (y,H')∧ee H' (nw H.length) 1 y (Th l op)∧Ext H H':=by
 rw[aaw];have b1:=tJ op H;obtain⟨H1,e1⟩: ∃z,z=H.new ⟨[cv op.kind,cv op.key,cv op.value],39,1,false⟩:=⟨_,rfl⟩;rw[←e1] at b1;have l1:H1.length=H.length+1:=by rw[e1,bh]
 have x1:Ext H H1:=by rw[e1];exact(Ext.refl H).new _
 have g1:H1.get H.length=some ⟨[cv op.kind,cv op.key,cv op.value],39,1,false⟩:=by rw[e1];exact az
 have P0:=ak H.length 0 H1 g1;have P1:=ak H.length 1 H1 g1;have P2:=ak H.length 2 H1 g1;have xN:=hx.fr (x1.fr o 0) (by simp)
 have oN:=tH (G:=G) (n:=n+1) xN (by omega) (by omega)
 unfold Th;by_cases lV:q8 (aX l)
 case neg=>
  rw[if_neg lV];rw[decide_eq_false lV] at oN;refine⟨aB,H1,?_,.nil,x1⟩;simp -implicitDefEqProofs [F59,b1,oN,aS]
 rw[if_pos lV];rw[decide_eq_true lV] at oN;have lW:=wI (G:=G) (n:=n) xN (by omega) op.key (by omega)
 have put: ∃y H2,run G (n+2) 42 [x,cv op.key,cv op.value] H1=some (y,H2)∧ee H2 (nw H.length) 1 y (jM l op.key op.value)∧Ext H H2:=by
  obtain⟨y,H2,r2,s2,Xg,z2⟩:=Pz (G:=G) (n:=n) xN hl op.key op.value (by omega)
  exact⟨y,H2,r2,(BZ (BY s2) (by omega)).r,x1.trans ⟨Xg,z2⟩⟩
 have del: ∃y H2,run G (n+2) 85 [x,cv op.key] H1=some (y,H2)∧ee H2 (nw H.length) 1 y (lz l op.key)∧Ext H H2:=by
  obtain⟨y,H2,r2,s2,Xg,z2⟩:=PA (G:=G) (n:=n) xN hl op.key (by omega)
  exact⟨y,H2,r2,(BZ (BY s2) (by omega)).r,x1.trans ⟨Xg,z2⟩⟩
 have cpy: ∃y H2,cd 42 2 16 (.slice (some ⟨H1.length,0,none⟩) 0 0) x (H1.new ⟨[],42,2,false⟩)=some (y,H2)∧ee H2 (nw H.length) 1 y l∧Ext H H2:=by
  obtain⟨y,H2,r2,s2,x2⟩:=D2 xN (by omega)
  exact⟨y,H2,r2,(BZ s2 (by omega)).r,x1.trans x2⟩
 have b0:=W6 H1;unfold Im nU;by_cases k1:op.kind=1
 ·cases hh:ef l op.key with
  |true=>
   obtain⟨y,H2,r2,s2,x2⟩:=cpy;rw[hh] at lW;refine⟨y,H2,?_,by simpa[k1] using s2,x2⟩
   simp -implicitDefEqProofs [F59,b1,oN,aS,ax,P0,P1,P2,lW,eN,aF,k1,ar,qW,pB,HR,yE,b0,r2]
  |false=>
   obtain⟨y,H2,r2,s2,x2⟩:=put;rw[hh] at lW;refine⟨y,H2,?_,by simpa[k1] using s2,x2⟩
   simp -implicitDefEqProofs [F59,b1,oN,aS,ax,P0,P1,P2,lW,eN,aF,k1,ar,qW,pB,r2]
 by_cases k2:op.kind=2
 ·obtain⟨y,H2,r2,s2,x2⟩:=put;refine⟨y,H2,?_,by simpa[k2] using s2,x2⟩
  simp -implicitDefEqProofs [F59,b1,oN,aS,ax,P0,P1,P2,lW,eN,aF,k2,ar,qW,pB,r2]
 by_cases k3:op.kind=3
 ·obtain⟨y,H2,r2,s2,x2⟩:=del;refine⟨y,H2,?_,?_,x2⟩
  ·simp -implicitDefEqProofs [F59,b1,oN,aS,ax,P0,P1,P2,lW,eN,aF,k3,ar,qW,pB,r2]
  ·cases hh:ef l op.key with
   |true=>simpa[k3] using s2
   |false=>rw[Xf hh] at s2;simpa[k3] using s2
 ·obtain⟨y,H2,r2,s2,x2⟩:=cpy;refine⟨y,H2,?_,by simpa[k1,k2,k3] using s2,x2⟩
  simp -implicitDefEqProofs [F59,b1,oN,aS,ax,P0,P1,P2,lW,eN,aF,k1,k2,k3,ar,qW,pB,HR,yE,b0,r2]
end
end Go.Proofs.YtjgmnoaalbbonaaGreat.Fun
end
