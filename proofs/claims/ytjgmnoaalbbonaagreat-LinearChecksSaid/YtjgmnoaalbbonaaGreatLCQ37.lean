/- Texts of the proof of linearChecks_holds, put together by a small program of ours (names shortened, spaces taken out). No condition beyond the given statement. -/
import Derived.Test.YtjgmnoaalbbonaaGreatLCQ15
import Derived.Test.YtjgmnoaalbbonaaGreatLCQ16
import Derived.Test.YtjgmnoaalbbonaaGreatLCQ20
import Derived.Test.YtjgmnoaalbbonaaGreatLCQ36
import Derived.Test.YtjgmnoaalbbonaaGreatLCQ19
import Derived.Test.YtjgmnoaalbbonaaGreatLCQ21
import Derived.Test.YtjgmnoaalbbonaaGreatLCQ18
set_option linter.unusedVariables false
set_option linter.unusedSimpArgs false
set_option linter.unnecessarySimpa false
noncomputable section
section
namespace Go.Proofs.YtjgmnoaalbbonaaGreat.Fun
open Go Go.RowKit Go.Proofs.YtjgmnoaalbbonaaGreatA.Am
set_option maxRecDepth 10000
section
variable {G:ag} {H H':ae} {o o':an} {p m c:Nat} {K K':ae→an→Prop} {t q:Int} {x:Value} {l:PL} {n i:Nat} {cs:List Value} {T:TypeId}
abbrev ac (dG:Int)(op:jZ):List Value:=[cv 0,cv dG,cv 0,cv 0,cv 0,cv 0,cv 0,.bool false,cv 0,.bool false,aB,aB,aB,aB,aB,cv 0,cv 0,cv 0,cv op.kind,cv op.key,cv op.value]
abbrev oc (r:dF)(s:Value):List Value:=[cv 0,.bool false,cv 0,cv 0,cv 0,aB,aB,cv r.pH,.bool r.found,cv r.key,cv r.value,cv r.n,s]
abbrev fc (proc dG:Int)(op:jZ)(tape:Value)(done:Bool)(r:dF)(s:Value)(rec laid:Int):List Value:=cv proc::(ac dG op++tape:: .bool done::(oc r s++[cv rec,cv laid]))
theorem afn:aI Tryz.prog 162 []=some (.agg (oc bZ aB).toArray):=by kernel_rfl
theorem IJ (i:Nat)(r:dF){s:Value}{a:Option Addr}{k c:Nat}(es:s= .slice a k c)(r0:dF)(s0:Value){T:TypeId}(H:ae)(h:H.get i=some ⟨oc r0 s0,T,1,false⟩):bS 13 (pv i) (.agg (oc r s).toArray) H=some (undef,H.put i ⟨oc r s,T,1,false⟩):=by
 subst es;simp[bS,bG,h,Value.cells,known,aD,bO]
theorem M7 (i:Nat)(r:dF)(s:Value){T:TypeId}(H:ae)(h:H.get i=some ⟨oc r s,T,1,false⟩):bV 13 (pv i) H=some (.agg (oc r s).toArray):=by
 simp[bV,aA,h]
theorem afo (i:Nat)(r:dF){s:Value}{a:Option Addr}{k c:Nat}(es:s= .slice a k c)(r0:dF)(s0:Value){T:TypeId}(H:ae)(h:H.get i=some ⟨oc r0 s0,T,1,false⟩):bS 6 (.pointer (some ⟨i,7,none⟩)) (c8 r s) H=some (undef,H.put i ⟨oc r s,T,1,false⟩):=by
 subst es;simp[bS,bG,h,Value.cells,known,aD,bO]
theorem afp (i:Nat)(dG:Int)(op:jZ)(b0:Int)(op0:jZ){T:TypeId}(H:ae)(h:H.get i=some ⟨ac b0 op0,T,1,false⟩):bS 21 (pv i) (.agg (ac dG op).toArray) H=some (undef,H.put i ⟨ac dG op,T,1,false⟩):=by
 simp[bS,bG,h,Value.cells,known,aD,bO]
theorem ac7 (f:Nat)(proc dG:Int)(op:jZ)(tape:Value)(done:Bool)(r:dF)(s:Value)(rec laid:Int){T:TypeId}(H:ae)(h:H.get f=some ⟨fc proc dG op tape done r s rec laid,T,1,false⟩):bV 21 (.pointer (some ⟨f,1,none⟩)) H=some (.agg (ac dG op).toArray):=by
 simp[bV,aA,h]
theorem afq (i:Nat)(dG:Int)(op:jZ){T:TypeId}(H:ae)(h:H.get i=some ⟨ac dG op,T,1,false⟩):bV 3 (.pointer (some ⟨i,18,none⟩)) H=some (iG op):=by
 simp[bV,aA,h]
structure KH (B:ae) (b:an) (p i0 i1 i2:Nat) (dG:Int) (op:jZ) (r2:dF) (s2:Value) (H:ae) (o:an):Prop where
 fr:Fr B b H o [(p:Int)]
 k0:Cl i0 (oc bZ aB) 162 H o
 k1:Cl i1 (ac dG op) 140 H o
 k2:Cl i2 (oc r2 s2) 162 H o
 sl:ee H o (-41) s2 r2.list
theorem KH.js {B:ae}{b:an}{i0 i1 i2:Nat}{dG:Int}{op:jZ}{r2:dF}{s2:Value}:cW [(p:Int)] (KH B b p i0 i1 i2 dG op r2 s2):=λH o H' o' h f=>⟨h.fr.tr f,h.k0.fr f (by simp),h.k1.fr f (by simp),h.k2.fr f (by simp),h.sl.fr f (by simp)⟩
abbrev KB (B:ae)(b:an)(p:Nat)(s:Value)(l:PL):ae→an→Prop:=λH o=>Fr B b H o [(p:Int)]∧ee H o (-41) s l
theorem ac8 {b:an}{f:Nat}{proc dG:Int}{op:jZ}{tape:Value}{done:Bool}{r0:dF}{s0:Value}{rec laid:Int}{T:TypeId}(hr:Ca H b p m)(hM:m≤2147483648)(hf:H.get f=some ⟨fc proc dG op tape done r0 s0 rec laid,T,1,false⟩)(hbf:b f≠p)(hp:proc=24∨proc=25):
  bN (run G) 124 [pv f,pv p] H λv H'=>∃r s m',v= .agg (oc r s).toArray∧r.list.length≤m∧J (KB H b p s r.list) p m' H':=by
 refine Ev.up (t:=λk=>aal (run G k) k (pv f) (pv p) H) ?_ λk=>VA ..
 obtain⟨i0,e0⟩: ∃i,i=H.length:=⟨_,rfl⟩;obtain⟨i1,e1⟩: ∃i,i=H.length+1:=⟨_,rfl⟩;obtain⟨i2,e2⟩: ∃i,i=H.length+2:=⟨_,rfl⟩;have IV:=aq hf;obtain⟨H1,iI⟩: ∃z,z=H.new ⟨oc bZ aB,162,1,false⟩:=⟨_,rfl⟩;have l1:H1.length=H.length+1:=by rw[iI,bh]
 obtain⟨H2,jt⟩: ∃z,z=H1.new ⟨ac 0 ⟨0,0,0⟩,140,1,false⟩:=⟨_,rfl⟩;have l2:H2.length=H.length+2:=by rw[jt,bh,l1]
 have g2:H2.get i1=some ⟨ac 0 ⟨0,0,0⟩,140,1,false⟩:=by rw[jt,e1, ←l1];exact az
 obtain⟨H3,pX⟩: ∃z,z=H2.put i1 ⟨ac dG op,140,1,false⟩:=⟨_,rfl⟩;have l3:H3.length=H.length+2:=by rw[pX,iw,l2]
 obtain⟨H4,qt⟩: ∃z,z=H3.new ⟨oc bZ aB,162,1,false⟩:=⟨_,rfl⟩;have kY:J (λH' o=>Fr H b H' o [(p:Int)]∧Cl i0 (oc bZ aB) 162 H' o) p m H1:=by
  rw[iI];have XA:J (λH' o=>Fr H b H' o [(p:Int)]) p m H:=⟨cW.base (by simp),b,hr,Fr.refl _ _ _⟩
  refine XA.tM _ _ 1 ((cW.base (by simp)).and λH o H' o' a f=>a.fr f (by simp)) λo hk f=>⟨hk.new _ _,?_⟩
  rw[e0];exact Cl.made
 have jJ:J (λH' o=>(Fr H b H' o [(p:Int)]∧Cl i0 (oc bZ aB) 162 H' o)∧Cl i1 (ac 0 ⟨0,0,0⟩) 140 H' o) p m H2:=by
  rw[jt];refine kY.tM _ _ 1 (kY.1.and λH o H' o' a f=>a.fr f (by simp)) λo hk f=>⟨⟨hk.1.new _ _,hk.2.new⟩,?_⟩
  rw[e1, ←l1];exact Cl.made
 have lu:J (λH' o=>(Fr H b H' o [(p:Int)]∧Cl i0 (oc bZ aB) 162 H' o)∧Cl i1 (ac dG op) 140 H' o) p m H3:=by
  rw[pX];refine jJ.Lh (λo hg=>hg.2) (kY.1.and λH o H' o' a f=>a.fr f (by simp)) λo hg=>⟨⟨hg.1.1.put λhh=>by omega,hg.1.2.put (by omega)⟩,hg.2.self⟩
 have sN:J (KH H b p i0 i1 i2 dG op bZ aB) p m H4:=by
  rw[qt];refine lu.tM _ _ 1 KH.js λo hk f=>⟨hk.1.1.new _ _,hk.1.2.new,hk.2.new,?_,.nil⟩
  rw[e2, ←l3];exact Cl.made
 have n0:aO H 162 1 [cv 0,.bool false,cv 0,cv 0,cv 0,aB,aB,cv 0,.bool false,cv 0,cv 0,cv 0,aB]=(pv i0,H1):=by rw[iI,e0];rfl
 have n1:aO H1 140 1 [cv 0,cv 0,cv 0,cv 0,cv 0,cv 0,cv 0,.bool false,cv 0,.bool false,aB,aB,aB,aB,aB,cv 0,cv 0,cv 0,cv 0,cv 0,cv 0]=(pv i1,H2):=by rw[jt,e1, ←l1];rfl
 have n2:aO H3 162 1 [cv 0,.bool false,cv 0,cv 0,cv 0,aB,aB,cv 0,.bool false,cv 0,cv 0,cv 0,aB]=(pv i2,H4):=by rw[qt,e2, ←l3];rfl
 have nN: ∀{H':ae} {o':an},Fr H b H' o' [(p:Int)]→H'.get f=some ⟨fc proc dG op tape done r0 s0 rec laid,T,1,false⟩:=λfr=>by rw[fr.same f IV (by simpa using hbf)];exact hf
 have gf1:H1.get f=some ⟨fc proc dG op tape done r0 s0 rec laid,T,1,false⟩:=by obtain⟨_,o,_,hk⟩:=kY;exact nN hk.1
 have L1:=ac7 f proc dG op tape done r0 s0 rec laid H1 gf1;have S1:=afp i1 dG op 0 ⟨0,0,0⟩ H2 g2;rw[←pX] at S1;obtain⟨_,o4,_,hk4⟩:=id sN;have S2:=IJ i2 bZ (s:=aB) rfl bZ aB H4 hk4.k2.1;have ahF:H4.put i2 ⟨oc bZ aB,162,1,false⟩=H4:=by
  have hl:=aq hk4.k2.1;have hg:=hk4.k2.1;unfold ae.put;apply List.ext_getElem?;intro k;by_cases e:k=i2
  ·subst e;rw[List.getElem?_set_self hl];unfold ae.get at hg;cases hx:H4[k]? with
   |none=>rw[hx] at hg;cases hg
   |some z=>rw[hx] at hg;cases z<;>simp_all
  ·rw[List.getElem?_set_ne (Ne.symm e)]
 rw[ahF] at S2;have Lp:au (pv f) H4=some (cv proc):=ak f 0 H4 (nN hk4.fr);have ql: ∀{r2:dF} {s2:Value} {m':Nat} {H':ae},J (KH H b p i0 i1 i2 dG op r2 s2) p m' H'→au (.pointer (some ⟨i1,18,none⟩)) H'=some (cv op.kind)∧au (.pointer (some ⟨i1,1,none⟩)) H'=some (cv dG)∧bV 3 (.pointer (some ⟨i1,18,none⟩)) H'=some (iG op):=λhj=>by
  obtain⟨_,o,_,hg⟩:=hj;exact⟨ak i1 18 _ hg.k1.1,ak i1 1 _ hg.k1.1,afq _ _ _ _ hg.k1.1⟩
 have set: ∀{m':Nat} {H':ae} (r:dF) (s:Value),J (λH o=>KH H4 o4 p i0 i1 i2 dG op bZ aB H o) p m' H'→True:=λ_ _ _=>trivial
 have fin: ∀{r2:dF} {s2:Value} {m':Nat} {H':ae} (r:dF) (s:Value),(∃a k c,s= .slice a k c)→J (λH' o=>KH H b p i0 i1 i2 dG op r2 s2 H' o∧ee H' o (-41) s r.list) p m' H'→∃H3,bS 6 (.pointer (some ⟨i2,7,none⟩)) (c8 r s) H'=some (undef,H3)∧J (KH H b p i0 i1 i2 dG op r s) p m' H3:=λ{r2 s2 m' H'} r s nP hj=>by
  obtain⟨a,k,c,es⟩:=nP;obtain⟨_,o,JA,hg,hs⟩:=id hj;refine⟨_,afo i2 r es r2 s2 H' hg.k2.1,hj.Lh (λo hg=>hg.1.k2) KH.js λo hg=>⟨hg.1.fr.put λhh=>by omega,hg.1.k0.put (by omega),hg.1.k1.put (by omega),hg.1.k2.self,hg.2.fr ((Fr.refl H' o [-9]).put λ_=>by simp[hg.1.k2.2]) (by simp)⟩⟩
 have J0: ∀{r2:dF} {s2:Value} {m':Nat} {H':ae} (aZ bn x5 bU cJ cV eF fG gl l6:Value),(∃a k c,s2= .slice a k c)→r2.list.length≤m→J (KH H b p i0 i1 i2 dG op r2 s2) p m' H'→Ev (λk=>jq (run G k) k [pv f,pv p,pv i0,aZ,bn,x5,pv i2,bU,cJ,cV,eF,fG,gl,l6] H') λr=>∃rr s m',r.1= .agg (oc rr s).toArray∧rr.list.length≤m∧J (KB H b p s rr.list) p m' r.2:=by
  intro r2 s2 m' H' aZ bn x5 bU cJ cV eF fG gl l6 nP hl hj;obtain⟨a,k,c,es⟩:=nP;obtain⟨_,o,JA,hg⟩:=id hj;have A1:=M7 i2 r2 s2 H' hg.k2.1;have A2:=IJ i0 r2 es bZ aB H' hg.k0.1;have A3:=M7 i0 r2 s2 (T:=162) _ (aH (c:=⟨oc r2 s2,162,1,false⟩) hg.k0.1);simp -implicitDefEqProofs only[Ol,Av,A1,A2,A3,sS,Nat.reduceAdd];refine Ev.ret ⟨r2,s2,m',rfl,hl,hj.Lh (λo hg=>hg.k0) ((cW.base (by simp)).and (cW.lZ (by simp))) λo hg=>⟨hg.fr.put λhh=>by omega,hg.sl.fr ((Fr.refl H' o [-9]).put λ_=>by simp[hg.k0.2]) (by simp)⟩⟩
 have afr: ∀{r2:dF} {s2:Value} {m':Nat} {H':ae} (r:dF),r.list=[]→J (KH H b p i0 i1 i2 dG op r2 s2) p m' H'→J (λH' o=>KH H b p i0 i1 i2 dG op r2 s2 H' o∧ee H' o (-41) aB r.list) p m' H':=λr hl hj=>hj.mono (KH.js.and (cW.lZ (by simp))) λo a=>⟨a,by rw[hl];exact .nil⟩
 have err: ∀(w:Int),∃H3,bS 6 (.pointer (some ⟨i2,7,none⟩)) (c8 (eJ w) aB) H4=some (undef,H3)∧J (KH H b p i0 i1 i2 dG op (eJ w) aB) p m H3:=λw=>fin (eJ w) aB ⟨_,_,_,rfl⟩ (afr _ rfl sN)
 obtain⟨a0,a1,a2⟩:=ql sN;simp -implicitDefEqProofs only[aal,n0,L1,n1,S1,afn,n2,S2,Lp,Nat.add_zero,sS,Nat.reduceAdd];refine Ev.eql (λhq=>?_) (λhq=>?_)<;>try simp -implicitDefEqProofs only[sS,Nat.reduceAdd]
 ·omega
 refine Ev.eql (λhq=>?_) (λhq=>?_)<;>try simp -implicitDefEqProofs only[sS,Nat.reduceAdd]
 ·omega
 refine Ev.eql (λhq=>?_) (λhq=>?_)<;>try simp -implicitDefEqProofs only[sS,Nat.reduceAdd]
 ·omega
 refine Ev.eql (λhq=>?_) (λhq=>?_)<;>try simp -implicitDefEqProofs only[a0,Nat.add_zero,sS,Nat.reduceAdd]
 ·have hch:Ev (λk=>af (run G k 144 [pv p,iG op] H4) λy Hy=>af (bS 6 (.pointer (some ⟨i2,7,none⟩)) y Hy) λ_ Hy=>jq (run G k) k [pv f,pv p,pv i0,cv proc,.bool false,pv i1,pv i2,.bool false,.bool false,.bool true,.bool false,undef,undef,undef] Hy) λr=>∃rr s m',r.1= .agg (oc rr s).toArray∧rr.list.length≤m∧J (KB H b p s rr.list) p m' r.2:=by
   refine Ev.call (TP sN hM op) ?_;rintro v H5 ⟨r,rfl,hl,m',hj,hm⟩;obtain⟨H6,g6,vP⟩:=fin r aB ⟨_,_,_,rfl⟩ (afr _ hl hj);simp -implicitDefEqProofs only[g6,sS,Nat.reduceAdd];exact J0 _ _ _ _ _ _ _ _ _ _ ⟨_,_,_,rfl⟩ (by rw[hl];simp) vP
  refine Ev.lss (λhq=>?_) (λhq=>?_)<;>try simp -implicitDefEqProofs only[a0,Nat.add_zero,sS,Nat.reduceAdd]
  ·obtain⟨H6,g6,vP⟩:=err 5;simp -implicitDefEqProofs only[nV,g6,sS,Nat.reduceAdd];exact J0 _ _ _ _ _ _ _ _ _ _ ⟨_,_,_,rfl⟩ (by simp[eJ]) vP
  refine Ev.gtr (λhq=>?_) (λhq=>?_)<;>try simp -implicitDefEqProofs only[a2,sS,Nat.reduceAdd]
  ·obtain⟨H6,g6,vP⟩:=err 5;simp -implicitDefEqProofs only[nV,g6,sS,Nat.reduceAdd];exact J0 _ _ _ _ _ _ _ _ _ _ ⟨_,_,_,rfl⟩ (by simp[eJ]) vP
  ·exact hch
 refine Ev.eql (λhq=>?_) (λhq=>?_)<;>try simp -implicitDefEqProofs only[a0,Nat.add_zero,sS,Nat.reduceAdd]
 ·have hqu:Ev (λk=>af (run G k 145 [pv p,iG op,cv dG] H4) λy Hy=>af (bS 6 (.pointer (some ⟨i2,7,none⟩)) y Hy) λ_ Hy=>jq (run G k) k [pv f,pv p,pv i0,cv proc,.bool false,pv i1,pv i2,.bool false,.bool false,.bool false,undef,.bool true,.bool false,.bool false] Hy) λr=>∃rr s m',r.1= .agg (oc rr s).toArray∧rr.list.length≤m∧J (KB H b p s rr.list) p m' r.2:=by
   refine Ev.call (XG sN hM op dG) ?_;rintro v H5 ⟨r,s,rfl,hl,m',hj,hm⟩;have nP: ∃a k c,s= .slice a k c:=by
    obtain⟨_,o,_,_,hs⟩:=hj;obtain⟨a,c,e⟩:=hs.isSlice;exact⟨a,_,c,e⟩
   obtain⟨H6,g6,vP⟩:=fin r s nP hj;simp -implicitDefEqProofs only[g6,sS,Nat.reduceAdd];exact J0 _ _ _ _ _ _ _ _ _ _ nP hl vP
  have er5: ∀w,Ev (λk=>af (bS 6 (.pointer (some ⟨i2,7,none⟩)) (c8 (eJ w) aB) H4) λ_ Hy=>some (undef,Hy)) λr=>J (KH H b p i0 i1 i2 dG op (eJ w) aB) p m r.2:=λw=>by
   obtain⟨H6,g6,vP⟩:=err w;simp -implicitDefEqProofs only[g6,sS,Nat.reduceAdd];exact Ev.ret vP
  refine Ev.lss (λhq=>?_) (λhq=>?_)<;>try simp -implicitDefEqProofs only[a0,Nat.add_zero,sS,Nat.reduceAdd]
  ·obtain⟨H6,g6,vP⟩:=err 5;simp -implicitDefEqProofs only[nV,g6,sS,Nat.reduceAdd];exact J0 _ _ _ _ _ _ _ _ _ _ ⟨_,_,_,rfl⟩ (by simp[eJ]) vP
  refine Ev.gtr (λhq=>?_) (λhq=>?_)<;>try simp -implicitDefEqProofs only[a1,sS,Nat.reduceAdd]
  ·obtain⟨H6,g6,vP⟩:=err 5;simp -implicitDefEqProofs only[nV,g6,sS,Nat.reduceAdd];exact J0 _ _ _ _ _ _ _ _ _ _ ⟨_,_,_,rfl⟩ (by simp[eJ]) vP
  refine Ev.lss (λhq=>?_) (λhq=>?_)<;>try simp -implicitDefEqProofs only[a1,sS,Nat.reduceAdd]
  ·obtain⟨H6,g6,vP⟩:=err 2;simp -implicitDefEqProofs only[nV,g6,sS,Nat.reduceAdd];exact J0 _ _ _ _ _ _ _ _ _ _ ⟨_,_,_,rfl⟩ (by simp[eJ]) vP
  refine Ev.gtr (λhq=>?_) (λhq=>?_)<;>try simp -implicitDefEqProofs only[a2,a1,sS,Nat.reduceAdd]
  ·obtain⟨H6,g6,vP⟩:=err 2;simp -implicitDefEqProofs only[nV,g6,sS,Nat.reduceAdd];exact J0 _ _ _ _ _ _ _ _ _ _ ⟨_,_,_,rfl⟩ (by simp[eJ]) vP
  ·exact hqu
 ·omega
end
section
variable {G:ag} {H H':ae} {o o':an} {p m c mp:Nat} {K K':ae→an→Prop} {t q:Int} {x:Value} {l:PL} {n i:Nat} {cs:List Int} {T:TypeId} {mx:Int}
def vI (H:ae)(o:an)(mp:Nat)(mx:Int)(cs:List Int):Prop:=
 ∃(nY se ref:Int) (s:Value) (ty:TypeId),H.get mp=some ⟨[cv mx,s,cv nY,cv se,cv ref],ty,1,false⟩∧o mp= -70∧rJ H o (-71) s cs∧(cs.length:Int)≤mx∧mx≤65536
theorem vI.fr {ps:List Int}(h:vI H o mp mx cs)(f:Fr H o H' o' ps)(h1:(-70:Int) ∉ ps)(h2:(-71:Int) ∉ ps):vI H' o' mp mx cs:=by
 obtain⟨nY,se,ref,s,ty,g,ho,hs,hl⟩:=h;exact⟨nY,se,ref,s,ty,by rw[f.same mp (aq g) (by rw[ho];exact h1)];exact g,by rw[f.own mp (aq g)];exact ho,hs.fr f h2,hl⟩
def JM (K:ae→an→Prop)(mp:Nat)(mx:Int)(cs:List Int)(H:ae):Prop:=cW [-70, -71] K∧∃o,vI H o mp mx cs∧K H o
theorem JM.num (h:JM K mp mx cs H): ∃nY se ref s ty,H.get mp=some ⟨[cv mx,s,cv nY,cv se,cv ref],ty,1,false⟩∧cq s=some (cv cs.length)∧∀Li Ch Ci,JM K mp mx cs (H.put mp ⟨[cv mx,s,cv Li,cv Ch,cv Ci],ty,1,false⟩):=by
 obtain⟨hK,o,⟨nY,se,ref,s,ty,g,ho,hs,hl⟩,hk⟩:=h;refine⟨nY,se,ref,s,ty,g,hs.ints.1.len,λLi Ch Ci=>⟨hK,o,⟨Li,Ch,Ci,s,ty,aH g,ho,?_,hl⟩,hK _ _ _ _ hk ?_⟩⟩
 ·exact hs.fr ((Fr.refl H o [-70]).put λ_=>by simp[ho]) (by simp)
 ·exact((Fr.refl H o [-70]).put λ_=>by simp[ho]).wk (by simp)
theorem afs (h:JM K mp mx cs H)(a:Int):bN (run G) 70 [pv mp,cv a] H λv H'=>v= .bool (decide (1≤a∧a≤cs.length))∧JM K mp mx cs H':=by
 refine Ev.up (t:=λk=>F70 (run G k) k (pv mp) (cv a) H) ?_ λk=>abe ..
 obtain⟨nY,se,ref,s,ty,g,hl,hj⟩:=h.num;obtain⟨H1,e1⟩: ∃z,z=H.put mp ⟨[cv mx,s,cv (IntKind.i64.wrap (nY+1)),cv se,cv ref],ty,1,false⟩:=⟨_,rfl⟩;have kY:=hj (IntKind.i64.wrap (nY+1)) se ref;rw[←e1] at kY;have g1:H1.get mp=some ⟨[cv mx,s,cv (IntKind.i64.wrap (nY+1)),cv se,cv ref],ty,1,false⟩:=by rw[e1];exact aH g
 have L2:au (.pointer (some ⟨mp,2,none⟩)) H=some (cv nY):=ak mp 2 H g;have S2:=kF mp 2 (IntKind.i64.wrap (nY+1)) H g rfl (by simp)
 simp only[List.set_cons_succ,List.set_cons_zero] at S2;rw[←e1] at S2;have M1:au (.pointer (some ⟨mp,1,none⟩)) H1=some s:=ak mp 1 H1 g1;have M3:au (.pointer (some ⟨mp,3,none⟩)) H1=some (cv se):=ak mp 3 H1 g1;have S3:=kF mp 3 (IntKind.i64.wrap (se+1)) H1 g1 rfl (by simp)
 simp only[List.set_cons_succ,List.set_cons_zero] at S3;have jJ:JM K mp mx cs (H1.put mp ⟨[cv mx,s,cv (IntKind.i64.wrap (nY+1)),cv (IntKind.i64.wrap (se+1)),cv ref],ty,1,false⟩):=by
  obtain⟨c2,o2,r2,s2,nL,g2,_,jJ⟩:=kY.num;rw[g1] at g2;cases g2;exact jJ _ _ _
 simp -implicitDefEqProofs only[F70,L2,S2,sS,Nat.reduceAdd];refine Ev.lss (λhq=>?_) (λhq=>?_)<;>try simp -implicitDefEqProofs only[M1,hl,M3,S3,sS,Nat.reduceAdd]
 ·exact Ev.ret ⟨by simp;omega,jJ⟩
 refine Ev.gtr (λhq=>?_) (λhq=>?_)<;>try simp -implicitDefEqProofs only[M3,S3,sS,Nat.reduceAdd]
 ·exact Ev.ret ⟨by simp;omega,jJ⟩
 ·exact Ev.ret ⟨by simp;omega,kY⟩
theorem JM.cell (h:JM K mp mx cs H){a:Int}(ha:1≤a∧a≤cs.length): ∃s q j,au (.pointer (some ⟨mp,1,none⟩)) H=some s∧(∀H',bP 1 s (cv (a-1)) H'=some (.pointer (some ⟨q,j,none⟩),H'))∧(∃z,au (.pointer (some ⟨q,j,none⟩)) H=some (cv z))∧
  ∀x:Int,∃H' dg,bS 1 (.pointer (some ⟨q,j,none⟩)) (cv x) H=some (undef,H')∧JM K mp mx dg H'∧dg.length=cs.length:=by
 obtain⟨hK,o,⟨nY,se,ref,s,ty,g,ho,hs,hl⟩,hk⟩:=h;obtain⟨j,hj⟩: ∃j:Nat,a-1=j:=⟨(a-1).toNat,by omega⟩
 have Cz:j<cs.length:=by omega
 obtain⟨q,b,c,h1,h2,h3,h4,h5,_⟩:=hs.set Cz 0;rw[hj];refine⟨s,q,j,ak mp 1 H g,h1,⟨_,(ak q j H h2).trans h5⟩,λx=>?_⟩
 obtain⟨q',b',c',k1,k2,k3,k4,k5,k6,k7,k8⟩:=hs.set Cz x;have eq:q'=q:=by
  have a1:=k1 [];have a2:=h1 [];rw[a1] at a2;simpa using a2
 subst eq;have f:Fr H o (H.put q' c') o [-71]:=(Fr.refl H o [-71]).put λ_=>by simp[k4]
 refine⟨_,cs.set j x,k7,⟨hK,o,⟨nY,se,ref,s,ty,?_,ho,k8,by simpa using hl⟩,hK _ _ _ _ hk (f.wk (by simp))⟩,by simp⟩
 rw[bt (by rintro rfl;rw[ho] at k4;omega)];exact g
section
variable {α:Type} {k:Nat→Value→ae→Option α} {Q:α→Prop}
theorem Ev.has (h:JM K mp mx cs H){a:Int}(h1:1≤a∧a≤cs.length→∀H',JM K mp mx cs H'→Ev (λn=>k n (.bool true) H') Q)(h2: ¬(1≤a∧a≤cs.length)→∀H',JM K mp mx cs H'→Ev (λn=>k n (.bool false) H') Q):Ev (λn=>af (run G n 70 [pv mp,cv a] H) (k n)) Q:=
 Ev.call (afs h a) λv H' hq=>by
  obtain⟨rfl,hj⟩:=hq;by_cases e:1≤a∧a≤cs.length
  ·have:decide (1≤a∧a≤cs.length)=true:=by simpa using e
   rw[this];exact h1 e H' hj
  ·have:decide (1≤a∧a≤cs.length)=false:=by simpa using e
   rw[this];exact h2 e H' hj
end
abbrev afu (K:ae→an→Prop)(mp:Nat)(mx:Int)(n:Nat):Value→ae→Prop:=λv H'=>∃z dg,v=cv z∧JM K mp mx dg H'∧dg.length=n
theorem Ee {a:Int}(h:1≤a∧a≤cs.length)(hl:cs.length≤65536):IntKind.i64.wrap (a-1)=a-1:=jE (by omega)
theorem JM.UI (h:JM K mp mx cs H):cs.length≤65536:=by
 obtain⟨_,o,⟨_,_,_,_,_,_,_,_,h1,h2⟩,_⟩:=h;omega
theorem XH (h:JM K mp mx cs H)(a:Int):bN (run G) 125 [pv mp,cv a] H (afu K mp mx cs.length):=by
 refine Ev.up (t:=λk=>ZR (run G k) k (pv mp) (cv a) H) ?_ λk=>Vi ..
 simp -implicitDefEqProofs only[ZR,sS,Nat.reduceAdd];refine Ev.has h (λha H1 hj=>?_) (λha H1 hj=>?_)<;>try simp -implicitDefEqProofs only[sS,Nat.reduceAdd]
 ·obtain⟨s,q,j,e1,e2,⟨z,e3⟩,e4⟩:=hj.cell ha;simp -implicitDefEqProofs only[e1,Ee ha hj.UI,e2,e3,sS,Nat.reduceAdd];exact Ev.ret ⟨_,_,rfl,hj,rfl⟩
 ·exact Ev.ret ⟨_,_,rfl,hj,rfl⟩
theorem IK (h:JM K mp mx cs H)(a x:Int):bN (run G) 41 [pv mp,cv a,cv x] H λv H'=>∃dg,JM K mp mx dg H'∧dg.length=cs.length:=by
 refine Ev.up (t:=λk=>F41 (run G k) k (pv mp) (cv a) (cv x) H) ?_ λk=>aae ..
 simp -implicitDefEqProofs only[F41,sS,Nat.reduceAdd];refine Ev.has h (λha H1 hj=>?_) (λha H1 hj=>?_)<;>try simp -implicitDefEqProofs only[sS,Nat.reduceAdd]
 ·obtain⟨s,q,j,e1,e2,⟨z,e3⟩,e4⟩:=hj.cell ha;obtain⟨H2,dg,e5,jJ,hl⟩:=e4 x;simp -implicitDefEqProofs only[e1,Ee ha hj.UI,e2,e5,sS,Nat.reduceAdd];exact Ev.ret ⟨_,jJ,hl⟩
 ·exact Ev.ret ⟨_,hj,rfl⟩
theorem ac9 (h:JM K mp mx cs H)(a x y:Int):bN (run G) 126 [pv mp,cv a,cv x,cv y] H λv H'=>∃b dg,v= .bool b∧JM K mp mx dg H'∧dg.length=cs.length:=by
 refine Ev.up (t:=λk=>ZS (run G k) k (pv mp) (cv a) (cv x) (cv y) H) ?_ λk=>Vj ..
 simp -implicitDefEqProofs only[ZS,sS,Nat.reduceAdd];refine Ev.has h (λha H1 hj=>?_) (λha H1 hj=>?_)<;>try simp -implicitDefEqProofs only[sS,Nat.reduceAdd]
 ·obtain⟨s,q,j,e1,e2,⟨z,e3⟩,e4⟩:=hj.cell ha;obtain⟨H2,dg,e5,jJ,hl⟩:=e4 y;simp -implicitDefEqProofs only[e1,Ee ha hj.UI,e2,e3,sS,Nat.reduceAdd];refine Ev.neq (λhq=>?_) (λhq=>?_)<;>try simp -implicitDefEqProofs only[e1,Ee ha hj.UI,e2,e5,sS,Nat.reduceAdd]
  ·exact Ev.ret ⟨_,_,rfl,hj,rfl⟩
  ·exact Ev.ret ⟨_,_,rfl,jJ,hl⟩
 ·exact Ev.ret ⟨_,_,rfl,hj,rfl⟩
theorem ada (h:JM K mp mx cs H)(a x:Int):bN (run G) 127 [pv mp,cv a,cv x] H (afu K mp mx cs.length):=by
 refine Ev.up (t:=λk=>abF (run G k) k (pv mp) (cv a) (cv x) H) ?_ λk=>Wm ..
 simp -implicitDefEqProofs only[abF,sS,Nat.reduceAdd];refine Ev.has h (λha H1 hj=>?_) (λha H1 hj=>?_)<;>try simp -implicitDefEqProofs only[sS,Nat.reduceAdd]
 ·obtain⟨s,q,j,e1,e2,⟨z,e3⟩,e4⟩:=hj.cell ha;obtain⟨H2,dg,e5,jJ,hl⟩:=e4 (IntKind.i64.wrap (z+x));simp -implicitDefEqProofs only[e1,Ee ha hj.UI,e2,e3,e5,sS,Nat.reduceAdd];exact Ev.ret ⟨_,_,rfl,jJ,hl⟩
 ·exact Ev.ret ⟨_,_,rfl,hj,rfl⟩
theorem afv (h:JM K mp mx cs H)(a:Int):bN (run G) 93 [pv mp,cv a] H λv H'=>(∃z,v=cv z)∧H'=H:=by
 refine Ev.up (t:=λk=>F93 (run G k) k (pv mp) (cv a) H) ?_ λk=>RM ..
 obtain⟨nY,se,ref,s,ty,g,hl,hj⟩:=h.num;have L1:au (.pointer (some ⟨mp,1,none⟩)) H=some s:=ak mp 1 H g;simp -implicitDefEqProofs only[F93,sS,Nat.reduceAdd];refine Ev.lss (λhq=>?_) (λhq=>?_)<;>try simp -implicitDefEqProofs only[L1,hl,sS,Nat.reduceAdd]
 ·exact Ev.ret ⟨⟨_,rfl⟩,rfl⟩
 refine Ev.gtr (λrB=>?_) (λrB=>?_)<;>try simp -implicitDefEqProofs only[sS,Nat.reduceAdd]
 ·exact Ev.ret ⟨⟨_,rfl⟩,rfl⟩
 ·obtain⟨s',q,j,e1,e2,⟨z,e3⟩,e4⟩:=h.cell (a:=a) (by omega)
  rw[L1] at e1;cases e1;simp -implicitDefEqProofs only[L1,Ee (cs:=cs) (a:=a) (by omega) h.UI,e2,e3,sS,Nat.reduceAdd]
  exact Ev.ret ⟨⟨_,rfl⟩,rfl⟩
theorem M8 (h:JM K mp mx cs H){w:Value}{lw:List Int}(hw:jb H w lw)(Yv:lw≠[]→∀a n c,w= .slice (some a) n c→a.block≠mp):bN (run G) 61 [pv mp,w] H λv H'=>∃z b dg,v= .tuple #[cv z,.bool b]∧JM K mp mx dg H':=by
 refine Ev.up (t:=λk=>F61 (run G k) k (pv mp) w H) ?_ λk=>Ro ..
 obtain⟨nY,se,ref,s,ty,g,hl,hj⟩:=h.num;obtain⟨H1,e1⟩: ∃z,z=H.put mp ⟨[cv mx,s,cv (IntKind.i64.wrap (nY+1)),cv se,cv ref],ty,1,false⟩:=⟨_,rfl⟩;have kY:=hj (IntKind.i64.wrap (nY+1)) se ref;rw[←e1] at kY;have g1:H1.get mp=some ⟨[cv mx,s,cv (IntKind.i64.wrap (nY+1)),cv se,cv ref],ty,1,false⟩:=by rw[e1];exact aH g
 have L2:au (.pointer (some ⟨mp,2,none⟩)) H=some (cv nY):=ak mp 2 H g;have S2:=kF mp 2 (IntKind.i64.wrap (nY+1)) H g rfl (by simp)
 simp only[List.set_cons_succ,List.set_cons_zero] at S2;rw[←e1] at S2;have M0:au (pv mp) H1=some (cv mx):=ak mp 0 H1 g1;have M1:au (.pointer (some ⟨mp,1,none⟩)) H1=some s:=ak mp 1 H1 g1;have M4:au (.pointer (some ⟨mp,4,none⟩)) H1=some (cv ref):=ak mp 4 H1 g1;have S4:=kF mp 4 (IntKind.i64.wrap (ref+1)) H1 g1 rfl (by simp)
 simp only[List.set_cons_succ,List.set_cons_zero] at S4;have jJ:JM K mp mx cs (H1.put mp ⟨[cv mx,s,cv (IntKind.i64.wrap (nY+1)),cv se,cv (IntKind.i64.wrap (ref+1))],ty,1,false⟩):=by
  obtain⟨c2,o2,r2,s2,nL,g2,_,jJ⟩:=kY.num;rw[g1] at g2;cases g2;exact jJ _ _ _
 have GH:jb H1 w lw:=by
  refine hw.keep λi b e eC=>?_
  rw[e1,bt (Yv eC b _ _ e)]
 have adb:=h.UI;obtain⟨hK,o,⟨Li,Ch,Ci,s',EU,g',ho,hs,XI⟩,hk⟩:=id kY;rw[g1] at g';obtain⟨rfl,rfl,rfl,rfl,rfl⟩:s'=s∧Li=IntKind.i64.wrap (nY+1)∧Ch=se∧Ci=ref∧EU=ty:=by
  injection g' with g';injection g' with a b c d;injection a with a1 a2;injection a2 with a3 a4;injection a4 with a5 a6;injection a6 with a7 a8;injection a8 with a9 a10;injection a5 with _ a5;injection a7 with _ a7;injection a9 with _ a9;exact⟨a3.symm,a5.symm,a7.symm,a9.symm,b.symm⟩
 simp -implicitDefEqProofs only[F61,L2,S2,hw.len,sS,Nat.reduceAdd];refine Ev.eql (λhq=>?_) (λhq=>?_)<;>try simp -implicitDefEqProofs only[hw.len,M0,M1,M4,S4,hl,sS,Nat.reduceAdd]
 ·exact Ev.ret ⟨_,_,_,rfl,jJ⟩
 have hw9:IntKind.i64.wrap (mx-cs.length)=mx-cs.length:=jE (by omega)
 simp -implicitDefEqProofs only[hw9,sS,Nat.reduceAdd];refine Ev.gtr (λrB=>?_) (λrB=>?_)<;>try simp -implicitDefEqProofs only[M0,M1,M4,S4,hl,sS,Nat.reduceAdd]
 ·exact Ev.ret ⟨_,_,_,rfl,jJ⟩
 obtain⟨x',H2,o2,a2,s2,f2,k2⟩:=mL 2 hs GH (by omega)
 have g2:H2.get mp=some ⟨[cv mx,s',cv (IntKind.i64.wrap (nY+1)),cv Ch,cv Ci],EU,1,false⟩:=by rw[f2.same mp (aq g1) (by rw[ho];simp)];exact g1
 have Hd:o2 mp= -70:=by rw[f2.own mp (aq g1)];exact ho
 obtain⟨ba,bc,ex⟩:=s2.isSlice;have S1:=zO mp 1 ba (cs++lw).length bc H2 g2 rfl (by simp)
 rw[←ex] at S1;simp only[List.set_cons_succ,List.set_cons_zero] at S1;simp -implicitDefEqProofs only[a2,S1,sS,Nat.reduceAdd];have f3:Fr H2 o2 (H2.put mp ⟨[cv mx,x',cv (IntKind.i64.wrap (nY+1)),cv Ch,cv Ci],EU,1,false⟩) o2 [-70]:=(Fr.refl H2 o2 [-70]).put λ_=>by simp[Hd]
 exact Ev.ret ⟨_,_,cs++lw,rfl,hK,o2,⟨_,_,_,x',EU,aH g2,Hd,s2.fr f3 (by simp),by simp;omega,XI.2⟩,hK _ _ _ _ hk (f2.trans f3 (by simp) (by simp))⟩
theorem ahG (h:JM K mp mx cs H)(k a y z:Int){w:Value}{lw:List Int}(hw:jb H w lw)(Yv:lw≠[]→∀a n c,w= .slice (some a) n c→a.block≠mp):bN (run G) 116 [pv mp,wO k a y z w] H λv H'=>∃u dg,v=cv u∧JM K mp mx dg H':=by
 refine Ev.up (t:=λn=>ab1 (run G n) n (pv mp) (wO k a y z w) H) ?_ λn=>Wy ..
 obtain⟨wb,wc,ew⟩:=hw.isSlice;obtain⟨H1,e1⟩: ∃z',z'=H.new ⟨[cv k,cv a,cv y,cv z,w],180,1,false⟩:=⟨_,rfl⟩;have bx:=TD k a y z (b:=wb) (n:=lw.length) (c:=wc) H;rw[←ew, ←e1] at bx;have kY:JM K mp mx cs H1:=by
  obtain⟨hK,o,hm,hk⟩:=h;have f:Fr H o H1 (o.up H.length (-9)) []:=by rw[e1];exact(Fr.refl H o []).new _ _
  exact⟨hK,_,hm.fr f (by simp) (by simp),hK _ _ _ _ hk (f.wk (by simp))⟩
 have g1:H1.get H.length=some ⟨[cv k,cv a,cv y,cv z,w],180,1,false⟩:=by rw[e1];exact az
 have L0:au (pv H.length) H1=some (cv k):=ak H.length 0 H1 g1;have L1:au (.pointer (some ⟨H.length,1,none⟩)) H1=some (cv a):=ak H.length 1 H1 g1;have L2:au (.pointer (some ⟨H.length,2,none⟩)) H1=some (cv y):=ak H.length 2 H1 g1;have L3:au (.pointer (some ⟨H.length,3,none⟩)) H1=some (cv z):=ak H.length 3 H1 g1;have L4:au (.pointer (some ⟨H.length,4,none⟩)) H1=some w:=ak H.length 4 H1 g1;have GH:jb H1 w lw:=by rw[e1];exact M5 hw _
 have J0: ∀{H2:ae} {dg:List Int} (x4 x3 x8 x9 aZ bU cz cN dV x5:Value),JM K mp mx dg H2→Ev (λn=>vo (run G n) n [pv mp,wO k a y z w,x4,x3,x8,x9,aZ,bU,cz,cN,dV,x5] H2) λr=>∃u dg,r.1=cv u∧JM K mp mx dg r.2:=by
  intro H2 dg x4 x3 x8 x9 aZ bU cz cN dV x5 hj;simp -implicitDefEqProofs only[O5,Bp,sS,Nat.reduceAdd];exact Ev.ret ⟨_,_,rfl,hj⟩
 simp -implicitDefEqProofs only[ab1,bx,L0,Nat.add_zero,sS,Nat.reduceAdd];refine Ev.eql (λhq=>?_) (λhq=>?_)<;>try simp -implicitDefEqProofs only[L1,L2,L3,L4,sS,Nat.reduceAdd]
 ·refine Ev.call (XH kY a) ?_;rintro v H2 ⟨u,dg,rfl,hj,_⟩;exact Ev.ret ⟨_,_,rfl,hj⟩
 refine Ev.eql (λhq=>?_) (λhq=>?_)<;>try simp -implicitDefEqProofs only[L1,L2,L3,L4,sS,Nat.reduceAdd]
 ·refine Ev.call (IK kY a y) ?_;rintro v H2 ⟨dg,hj,_⟩;exact J0 _ _ _ _ _ _ _ _ _ _ hj
 refine Ev.eql (λhq=>?_) (λhq=>?_)<;>try simp -implicitDefEqProofs only[L1,L2,L3,L4,sS,Nat.reduceAdd]
 ·refine Ev.call (ac9 kY a y z) ?_;rintro v H2 ⟨b,dg,rfl,hj,_⟩;cases b<;>simp -implicitDefEqProofs only[sS,Nat.reduceAdd]
  ·exact J0 _ _ _ _ _ _ _ _ _ _ hj
  ·exact Ev.ret ⟨_,_,rfl,hj⟩
 refine Ev.eql (λhq=>?_) (λhq=>?_)<;>try simp -implicitDefEqProofs only[L1,L2,L3,L4,sS,Nat.reduceAdd]
 ·refine Ev.call (ada kY a y) ?_;rintro v H2 ⟨u,dg,rfl,hj,_⟩;exact Ev.ret ⟨_,_,rfl,hj⟩
 refine Ev.eql (λhq=>?_) (λhq=>?_)<;>try simp -implicitDefEqProofs only[L1,L2,L3,L4,sS,Nat.reduceAdd]
 ·refine Ev.call (M8 kY GH Yv) ?_;rintro v H2 ⟨u,b,dg,rfl,hj⟩
  try simp -implicitDefEqProofs only[sS,Nat.reduceAdd]
  exact Ev.ret ⟨_,_,rfl,hj⟩
 ·exact J0 _ _ _ _ _ _ _ _ _ _ kY
end
section
variable {G:ag} {H H':ae} {o o':an} {p m c mp f:Nat} {K K':ae→an→Prop} {tf tg q:Int} {x:Value} {l:PL} {n i:Nat} {cs:List Int} {mx proc dG rec laid:Int} {op:jZ} {tape s0:Value} {done:Bool} {r0:dF} {T:List Int}
theorem afw (b:Option Addr)(n c:Nat):aI Tryz.prog 182 [(0,.slice b n c)]=some (.agg #[.slice b n c,cv 0,.bool false,cv 0,cv 0,cv 0,cv 0,aB,cv 0,cv 0]):=by kernel_rfl
theorem ade (b:Option Addr)(n c:Nat)(H:ae):cB 182 (.agg #[.slice b n c,cv 0,.bool false,cv 0,cv 0,cv 0,cv 0,aB,cv 0,cv 0]) H=some (pv H.length,H.new ⟨[.slice b n c,cv 0,.bool false,cv 0,cv 0,cv 0,cv 0,aB,cv 0,cv 0],182,1,false⟩):=by
 simp[cB,Value.cells,aD,aO]
theorem TW (hf:H.get f=some ⟨fc proc dG op tape done r0 s0 rec laid,164,1,false⟩)(ht:gj H o tg tape T)(hT:T.length≤1048576)(hp:proc=24∨proc=25):
  bN (run G) 115 [pv f] H λv H'=>∃p r s o' m',v= .tuple #[pv p,.agg (oc r s).toArray]∧Ext H H'∧H.length≤p∧Ca H' o' p m'∧ee H' o' (-41) s r.list∧r.list.length≤1048577∧∀i,i<H.length→o' i≠ -41∧o' i≠ -51:=by
 refine Ev.up (t:=λk=>aaW (run G k) k (pv f) H) ?_ λk=>VX ..
 classical
 let o1:an:=λi=>if ∃a n c,tape= .slice (some a) n c∧a.block=i then -50 else -9
 have o1v: ∀i,o1 i= -50∨o1 i= -9:=λi=>by
  show(if ∃a n c,tape= .slice (some a) n c∧a.block=i then(-50:Int) else -9)= -50∨(if ∃a n c,tape= .slice (some a) n c∧a.block=i then(-50:Int) else -9)= -9
  split
  ·exact .inl rfl
  ·exact .inr rfl
 have wP:gj H o1 (-50) tape T:=⟨ht.1,λb n c e eC=>⟨(ht.2 b n c e eC).1,if_pos ⟨b,n,c,e,rfl⟩⟩⟩
 obtain⟨ta,tc,et⟩:=ht.1.isSlice;have IV:=aq hf;obtain⟨H1,iI⟩: ∃z,z=H.new ⟨oc bZ aB,162,1,false⟩:=⟨_,rfl⟩;have l1:H1.length=H.length+1:=by rw[iI,bh]
 have g1:H1.get H.length=some ⟨oc bZ aB,162,1,false⟩:=by rw[iI];exact az
 obtain⟨p,ep⟩: ∃p,p=H1.length:=⟨_,rfl⟩;obtain⟨H2,jt⟩: ∃z,z=H1.new ⟨[tape,cv 0,.bool false,cv 0,cv 0,cv 0,cv 0,aB,cv 0,cv 0],182,1,false⟩:=⟨_,rfl⟩;have l2:H2.length=H.length+2:=by rw[jt,bh,l1]
 obtain⟨o2,PM⟩: ∃z,z=(o1.up H.length (-9)).up p p:=⟨_,rfl⟩;have f1:Fr H o1 H1 (o1.up H.length (-9)) []:=by rw[iI];exact(Fr.refl H o1 []).new _ _
 have f2:Fr H o1 H2 o2 []:=by rw[jt,PM,ep];exact f1.new _ _
 have gp:H2.get p=some ⟨[tape,cv 0,.bool false,cv 0,cv 0,cv 0,cv 0,aB,cv 0,cv 0],182,1,false⟩:=by rw[jt,ep];exact az
 have hr:Ca H2 o2 p (T.length+1):=⟨tape,aB,T,[],0,0,0,0,0,0,0,182,by rw[gp];simp,by rw[PM];exact aQ,wP.fr f2 (by simp),hT,.nil,λ_=>by omega⟩
 have gf2:H2.get f=some ⟨fc proc dG op tape done r0 s0 rec laid,164,1,false⟩:=by rw[f2.same f IV (by simp)];exact hf
 have Hd: ∀i,i<H.length→o2 i=o1 i:=λi hi=>f2.own i hi
 have hbf:o2 f≠(p:Int):=by rw[Hd f IV];have:=o1v f;omega
 have oi:o2 H.length= -9:=by rw[PM,dc (by omega)];exact aQ
 have g2:H2.get H.length=some ⟨oc bZ aB,162,1,false⟩:=by rw[jt,cr (by omega)];exact g1
 have n0:aO H 162 1 [cv 0,.bool false,cv 0,cv 0,cv 0,aB,aB,cv 0,.bool false,cv 0,cv 0,cv 0,aB]=(pv H.length,H1):=by rw[iI];rfl
 have gf1:H1.get f=some ⟨fc proc dG op tape done r0 s0 rec laid,164,1,false⟩:=by rw[iI,cr IV];exact hf
 have Lt:au (.pointer (some ⟨f,22,none⟩)) H1=some tape:=ak f 22 H1 gf1;have Lp:au (pv f) H2=some (cv proc):=ak f 0 H2 gf2;have bx:=ade ta T.length tc H1;rw[←et, ←jt, ←ep] at bx;have ab:=afw ta T.length tc;rw[←et] at ab;simp -implicitDefEqProofs only[aaW,n0,Lt,ab,bx,Lp,Nat.add_zero,sS,Nat.reduceAdd];refine Ev.leq (λhq=>?_) (λhq=>?_)<;>try simp -implicitDefEqProofs only[Lp,Nat.add_zero,sS,Nat.reduceAdd]
 ·omega
 refine Ev.leq (λhq=>?_) (λhq=>?_)<;>try simp -implicitDefEqProofs only[sS,Nat.reduceAdd]
 ·omega
 refine Ev.call (ac8 hr (by omega) gf2 hbf hp) ?_
 rintro v H3 ⟨r,s,m',rfl,hl,_,o3,hr3,f3,UA⟩;obtain⟨sa,sc,es⟩:=UA.isSlice;have g3:H3.get H.length=some ⟨oc bZ aB,162,1,false⟩:=by rw[f3.same _ (aq g2) (by rw[oi];simp)];exact g2
 have A2:=IJ H.length r es bZ aB H3 g3;have A3:=M7 H.length r s (T:=162) _ (aH (c:=⟨oc r s,162,1,false⟩) g3);simp -implicitDefEqProofs only[A2,A3,sS,Nat.reduceAdd];have o3i:o3 H.length= -9:=by rw[f3.own _ (aq g2)];exact oi
 have f4:Fr H3 o3 (H3.put H.length ⟨oc r s,162,1,false⟩) o3 [-9]:=(Fr.refl H3 o3 [-9]).put λ_=>by simp[o3i]
 refine Ev.ret ⟨p,r,s,o3,m',rfl,⟨λj hj=>?_,?_⟩,by omega,hr3.fr f4 (by simp) (by simp) (by simp),UA.fr f4 (by simp),by omega,λi hi=>?_⟩
 ·rw[cU (by omega),f3.slot j (by omega) (by rw[Hd j hj];have:=o1v j;simp;omega)]
  exact f2.slot j hj (by simp)
 ·rw[iw];have:=f3.size;omega
 ·have:=f3.own i (by omega)
  have:=Hd i hi
  have:=o1v i
  omega
def lX (H:ae)(o:an)(f:Nat)(tf tg:Int)(T:List Int):Prop:=
 ∃(proc dG:Int) (op:jZ) (tape:Value) (done:Bool) (r:dF) (s:Value) (rec laid:Int),H.get f=some ⟨fc proc dG op tape done r s rec laid,164,1,false⟩∧o f=tf∧rJ H o tg tape T∧(proc=24∨proc=25)∧ee H o (-41) s r.list∧r.list.length≤1048577
theorem lX.fr {ps:List Int}(h:lX H o f tf tg T)(fr:Fr H o H' o' ps)(h1:tf ∉ ps)(h2:tg ∉ ps)(h3:(-41:Int) ∉ ps):lX H' o' f tf tg T:=by
 obtain⟨proc,dG,op,tape,done,r,s,rec,laid,g,ho,ht,hp,hs,hl⟩:=h;exact⟨proc,dG,op,tape,done,r,s,rec,laid,by rw[fr.same f (aq g) (by rw[ho];exact h1)];exact g,by rw[fr.own f (aq g)];exact ho,ht.fr fr h2,hp,hs.fr fr h3,hl⟩
theorem rJ.mv {s:Value}{cs:List Int}(h:rJ H o q s cs)(k: ∀i,i<H.length→o i=q→H'.get i=H.get i∧o' i=q):rJ H' o' q s cs:=by
 rcases h with h|⟨i,cap,rest,ty,h1,h2,h3,h4⟩
 ·exact .inl h
 ·obtain⟨k1,k2⟩:=k i (aq h2) h4;exact .inr ⟨i,cap,rest,ty,h1,by rw[k1];exact h2,h3,k2⟩
theorem adf (f:Nat)(r:dF){s:Value}{a:Option Addr}{k c:Nat}(es:s= .slice a k c){T:TypeId}(H:ae)(h:H.get f=some ⟨fc proc dG op tape done r0 s0 rec laid,T,1,false⟩):bS 13 (.pointer (some ⟨f,24,none⟩)) (.agg (oc r s).toArray) H=some (undef,H.put f ⟨fc proc dG op tape done r s rec laid,T,1,false⟩):=by
 subst es;simp[bS,bG,h,Value.cells,known,aD,bO];rfl
def afx (o o3:an)(n:Nat):an:=λi=>if i<n then o i else if o3 i= -41 then -41 else if o3 i= -51 then -51 else -9
theorem IL (h:lX H o f tf tg T)(hT:T.length≤1048576)(h1:tf≠tg∧tf≠ -41):bN (run G) 100 [pv f] H λv H'=>∃o',Fr H o H' o' [tf]∧lX H' o' f tf tg T:=by
 refine Ev.up (t:=λk=>abl (run G k) k (pv f) H) ?_ λk=>Wd ..
 obtain⟨proc,dG,op,tape,done,r0,s0,rec,laid,g,ho,ht,hp,hs,hl⟩:=h;have IV:=aq g;simp -implicitDefEqProofs only[abl,sS,Nat.reduceAdd];refine Ev.call (TW g ht.ints hT hp) ?_;rintro v H1 ⟨p,r,s,o3,m',rfl,ex,En,hr3,UA,Zl,XJ⟩;obtain⟨sa,sc,es⟩:=UA.isSlice;have l1:=ex.size;have g1:=ex.get g;obtain⟨H2,jt⟩: ∃z,z=H1.new ⟨oc bZ aB,162,1,false⟩:=⟨_,rfl⟩;have l2:H2.length=H1.length+1:=by rw[jt,bh]
 have gb:H2.get H1.length=some ⟨oc bZ aB,162,1,false⟩:=by rw[jt];exact az
 have n0:aO H1 162 1 [cv 0,.bool false,cv 0,cv 0,cv 0,aB,aB,cv 0,.bool false,cv 0,cv 0,cv 0,aB]=(pv H1.length,H2):=by rw[jt];rfl
 have A2:=IJ H1.length r es bZ aB H2 gb;obtain⟨H3,pX⟩: ∃z,z=H2.put H1.length ⟨oc r s,162,1,false⟩:=⟨_,rfl⟩;rw[←pX] at A2;have l3:H3.length=H1.length+1:=by rw[pX,iw,l2]
 have hold: ∀j,j<H1.length→H3[j]? =H1[j]? :=λj hj=>by rw[pX,cU (by omega),jt,dh hj]
 have gb3:H3.get H1.length=some ⟨oc r s,162,1,false⟩:=by rw[pX];exact aH gb
 obtain⟨tp,w,TT,W,i,nk,na,nx,ny,Dl,IM,ty,gp,_⟩:=hr3;have Qa:=aq gp;have gp3:H3.get p=some ⟨[tp,cv i,.bool (decide (m'=0)),cv nk,cv na,cv nx,cv ny,w,cv Dl,cv IM],ty,1,false⟩:=by rw[cT (hold p Qa)];exact gp
 have gf3:H3.get f=some ⟨fc proc dG op tape done r0 s0 rec laid,164,1,false⟩:=by rw[cT (hold f (by omega))];exact g1
 have L8:au (.pointer (some ⟨p,8,none⟩)) H3=some (cv Dl):=ak p 8 H3 gp3;have S37:=kF f 37 Dl H3 gf3 rfl (by simp)
 obtain⟨H4,qt⟩: ∃z,z=H3.put f ⟨fc proc dG op tape done r0 s0 Dl laid,164,1,false⟩:=⟨_,rfl⟩;have e37:(fc proc dG op tape done r0 s0 rec laid).set 37 (cv Dl)=fc proc dG op tape done r0 s0 Dl laid:=rfl;simp only[e37] at S37;rw[←qt] at S37;have gp4:H4.get p=some ⟨[tp,cv i,.bool (decide (m'=0)),cv nk,cv na,cv nx,cv ny,w,cv Dl,cv IM],ty,1,false⟩:=by rw[qt,bt (by omega)];exact gp3
 have XK:H4.get f=some ⟨fc proc dG op tape done r0 s0 Dl laid,164,1,false⟩:=by rw[qt];exact aH gf3
 have L9:au (.pointer (some ⟨p,9,none⟩)) H4=some (cv IM):=ak p 9 H4 gp4;have S38:=kF f 38 IM H4 XK rfl (by simp)
 obtain⟨H5,wQ⟩: ∃z,z=H4.put f ⟨fc proc dG op tape done r0 s0 Dl IM,164,1,false⟩:=⟨_,rfl⟩;have e38:(fc proc dG op tape done r0 s0 Dl laid).set 38 (cv IM)=fc proc dG op tape done r0 s0 Dl IM:=rfl;simp only[e38] at S38;rw[←wQ] at S38;have gp5:H5.get p=some ⟨[tp,cv i,.bool (decide (m'=0)),cv nk,cv na,cv nx,cv ny,w,cv Dl,cv IM],ty,1,false⟩:=by rw[wQ,bt (by omega)];exact gp4
 have gf5:H5.get f=some ⟨fc proc dG op tape done r0 s0 Dl IM,164,1,false⟩:=by rw[wQ];exact aH XK
 have L2:au (.pointer (some ⟨p,2,none⟩)) H5=some (.bool (decide (m'=0))):=ak p 2 H5 gp5;simp -implicitDefEqProofs only[n0,A2,L8,S37,L9,S38,L2,sS,Nat.reduceAdd]
 let o':an:=afx o o3 H.length
 have ow: ∀i,i<H.length→o' i=o i:=λi hi=>if_pos hi
 have out: ∀{Hx:ae} {dn:Bool} {rr:dF} {ss:Value},Hx.get f=some ⟨fc proc dG op tape dn rr ss Dl IM,164,1,false⟩→(∀j,j≠f→Hx[j]? =H3[j]?)→Hx.length=H3.length→((rr=r0∧ss=s0)∨(rr=r∧ss=s))→∃o',Fr H o Hx o' [tf]∧lX Hx o' f tf tg T:=λ{Hx dn rr ss} gx hx hlx hrs=>by
  have fr:Fr H o Hx o' [tf]:=⟨λj hj hn=>by rw[hx j (by rintro rfl;exact hn (by simp[ho])),hold j (by omega)];exact ex.old j hj,ow,by omega⟩
  refine⟨o',fr,proc,dG,op,tape,dn,rr,ss,Dl,IM,gx,by rw[ow f IV];exact ho,ht.fr fr (by simp;omega),hp,?_⟩
  rcases hrs with⟨rfl,rfl⟩|⟨rfl,rfl⟩
  ·exact⟨hs.fr fr (by simp;omega),hl⟩
  ·refine⟨UA.mv λj hj hoj=>?_,Zl⟩
   have hge:H.length≤j:=by
    rcases Nat.lt_or_ge j H.length with g|g
    ·exact absurd hoj (XJ j g).1
    ·exact g
   refine⟨cT (by rw[hx j (by omega),hold j hj]),?_⟩
   show(if j<H.length then o j else if o3 j= -41 then(-41:Int) else if o3 j= -51 then -51 else -9)= -41
   rw[if_neg (by omega),if_pos hoj]
 have h53: ∀j,j≠f→H5[j]? =H3[j]? :=λj hj=>by rw[wQ,cU hj,qt,cU hj]
 have l5:H5.length=H3.length:=by rw[wQ,iw,qt,iw]
 refine Ev.br (λhq=>?_) (λhq=>?_)<;>try simp -implicitDefEqProofs only[sS,Nat.reduceAdd]
 ·have S23:=jA f 23 (.bool true) H5 gf5 rfl (by simp) rfl rfl rfl
  obtain⟨H6,II⟩: ∃z,z=H5.put f ⟨fc proc dG op tape true r0 s0 Dl IM,164,1,false⟩:=⟨_,rfl⟩;have e23:(fc proc dG op tape done r0 s0 Dl IM).set 23 (.bool true)=fc proc dG op tape true r0 s0 Dl IM:=rfl;simp only[e23] at S23;rw[←II] at S23;have gf6:H6.get f=some ⟨fc proc dG op tape true r0 s0 Dl IM,164,1,false⟩:=by rw[II];exact aH gf5
  have gb6:H6.get H1.length=some ⟨oc r s,162,1,false⟩:=by rw[II,cT (cU (by omega)),cT (h53 _ (by omega))];exact gb3
  have A6:=M7 H1.length r s H6 gb6;have S24:=adf f r es H6 gf6;simp -implicitDefEqProofs only[S23,A6,S24,sS,Nat.reduceAdd];exact Ev.ret (out (aH gf6) (λj hj=>by rw[cU hj,II,cU hj];exact h53 j hj) (by rw[iw,II,iw];exact l5) (.inr ⟨rfl,rfl⟩))
 ·exact Ev.ret (out gf5 h53 l5 (.inl ⟨rfl,rfl⟩))
end
end Go.Proofs.YtjgmnoaalbbonaaGreat.Fun
end
