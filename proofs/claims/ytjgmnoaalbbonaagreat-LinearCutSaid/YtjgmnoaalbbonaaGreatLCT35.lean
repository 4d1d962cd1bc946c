/- Texts of the proof of linearCut_holds, put together by a small program of ours (names shortened, spaces taken out). No condition beyond the given statement. -/
import Derived.Test.YtjgmnoaalbbonaaGreatLCT15
import Derived.Test.YtjgmnoaalbbonaaGreatLCT16
import Derived.Test.YtjgmnoaalbbonaaGreatLCT20
import Derived.Test.YtjgmnoaalbbonaaGreatLCT34
import Derived.Test.YtjgmnoaalbbonaaGreatLCT19
import Derived.Test.YtjgmnoaalbbonaaGreatLCT21
import Derived.Test.YtjgmnoaalbbonaaGreatLCT18
set_option linter.unusedVariables false
set_option linter.unusedSimpArgs false
set_option linter.unnecessarySimpa false
noncomputable section
section
namespace Go.Proofs.YtjgmnoaalbbonaaGreat.Fun
open Go Go.RowKit Go.Proofs.YtjgmnoaalbbonaaGreatA.Am
set_option maxRecDepth 10000
section
variable {G:ae} {H H':aa} {o o':aj} {p m c:Nat} {K K':aa→aj→Prop} {t q:Int} {x:Value} {l:PL} {n i:Nat} {cs:List Value} {T:TypeId}
abbrev ac (dt:Int)(op:kC):List Value:=[cv 0,cv dt,cv 0,cv 0,cv 0,cv 0,cv 0,.bool false,cv 0,.bool false,ax,ax,ax,ax,ax,cv 0,cv 0,cv 0,cv op.kind,cv op.key,cv op.value]
abbrev oc (r:dA)(s:Value):List Value:=[cv 0,.bool false,cv 0,cv 0,cv 0,ax,ax,cv r.qY,.bool r.found,cv r.key,cv r.value,cv r.n,s]
abbrev fc (proc dt:Int)(op:kC)(tape:Value)(done:Bool)(r:dA)(s:Value)(rec laid:Int):List Value:=cv proc::(ac dt op++tape:: .bool done::(oc r s++[cv rec,cv laid]))
theorem aba:aE Tryz.prog 162 []=some (.agg (oc bM ax).toArray):=by kernel_rfl
theorem Ft (i:Nat)(r:dA){s:Value}{a:Option Addr}{k c:Nat}(es:s= .slice a k c)(r0:dA)(s0:Value){T:TypeId}(H:aa)(h:H.get i=some ⟨oc r0 s0,T,1,false⟩):bS 13 (pv i) (.agg (oc r s).toArray) H=some (undef,H.put i ⟨oc r s,T,1,false⟩):=by
 subst es;simp[bS,bl,h,Value.cells,known,av,bB]
theorem IX (i:Nat)(r:dA)(s:Value){T:TypeId}(H:aa)(h:H.get i=some ⟨oc r s,T,1,false⟩):cK 13 (pv i) H=some (.agg (oc r s).toArray):=by
 simp[cK,aw,h]
theorem abb (i:Nat)(r:dA){s:Value}{a:Option Addr}{k c:Nat}(es:s= .slice a k c)(r0:dA)(s0:Value){T:TypeId}(H:aa)(h:H.get i=some ⟨oc r0 s0,T,1,false⟩):bS 6 (.pointer (some ⟨i,7,none⟩)) (dL r s) H=some (undef,H.put i ⟨oc r s,T,1,false⟩):=by
 subst es;simp[bS,bl,h,Value.cells,known,av,bB]
theorem abc (i:Nat)(dt:Int)(op:kC)(b0:Int)(op0:kC){T:TypeId}(H:aa)(h:H.get i=some ⟨ac b0 op0,T,1,false⟩):bS 21 (pv i) (.agg (ac dt op).toArray) H=some (undef,H.put i ⟨ac dt op,T,1,false⟩):=by
 simp[bS,bl,h,Value.cells,known,av,bB]
theorem Yw (f:Nat)(proc dt:Int)(op:kC)(tape:Value)(done:Bool)(r:dA)(s:Value)(rec laid:Int){T:TypeId}(H:aa)(h:H.get f=some ⟨fc proc dt op tape done r s rec laid,T,1,false⟩):cK 21 (.pointer (some ⟨f,1,none⟩)) H=some (.agg (ac dt op).toArray):=by
 simp[cK,aw,h]
theorem abd (i:Nat)(dt:Int)(op:kC){T:TypeId}(H:aa)(h:H.get i=some ⟨ac dt op,T,1,false⟩):cK 3 (.pointer (some ⟨i,18,none⟩)) H=some (iO op):=by
 simp[cK,aw,h]
structure KH (B:aa) (b:aj) (p i0 i1 i2:Nat) (dt:Int) (op:kC) (r2:dA) (s2:Value) (H:aa) (o:aj):Prop where
 fr:Fr B b H o [(p:Int)]
 k0:Cl i0 (oc bM ax) 162 H o
 k1:Cl i1 (ac dt op) 140 H o
 k2:Cl i2 (oc r2 s2) 162 H o
 sl:gE H o (-41) s2 r2.list
theorem KH.iK {B:aa}{b:aj}{i0 i1 i2:Nat}{dt:Int}{op:kC}{r2:dA}{s2:Value}:cI [(p:Int)] (KH B b p i0 i1 i2 dt op r2 s2):=λH o H' o' h f=>⟨h.fr.tr f,h.k0.fr f (by simp),h.k1.fr f (by simp),h.k2.fr f (by simp),h.sl.fr f (by simp)⟩
abbrev KB (B:aa)(b:aj)(p:Nat)(s:Value)(l:PL):aa→aj→Prop:=λH o=>Fr B b H o [(p:Int)]∧gE H o (-41) s l
theorem Yx {b:aj}{f:Nat}{proc dt:Int}{op:kC}{tape:Value}{done:Bool}{r0:dA}{s0:Value}{rec laid:Int}{T:TypeId}(hr:zH H b p m)(hM:m≤2147483648)(hf:H.get f=some ⟨fc proc dt op tape done r0 s0 rec laid,T,1,false⟩)(hbf:b f≠p)(hp:proc=24∨proc=25):
  bA (run G) 124 [pv f,pv p] H λv H'=>∃r s m',v= .agg (oc r s).toArray∧r.list.length≤m∧J (KB H b p s r.list) p m' H':=by
 refine Ev.up (t:=λk=>VV (run G k) k (pv f) (pv p) H) ?_ λk=>Rb ..
 obtain⟨i0,e0⟩: ∃i,i=H.length:=⟨_,rfl⟩;obtain⟨i1,e1⟩: ∃i,i=H.length+1:=⟨_,rfl⟩;obtain⟨i2,e2⟩: ∃i,i=H.length+2:=⟨_,rfl⟩;have FC:=an hf;obtain⟨H1,hU⟩: ∃z,z=H.new ⟨oc bM ax,162,1,false⟩:=⟨_,rfl⟩;have l1:H1.length=H.length+1:=by rw[hU,aW]
 obtain⟨H2,iL⟩: ∃z,z=H1.new ⟨ac 0 ⟨0,0,0⟩,140,1,false⟩:=⟨_,rfl⟩;have l2:H2.length=H.length+2:=by rw[iL,aW,l1]
 have g2:H2.get i1=some ⟨ac 0 ⟨0,0,0⟩,140,1,false⟩:=by rw[iL,e1, ←l1];exact ay
 obtain⟨H3,ou⟩: ∃z,z=H2.put i1 ⟨ac dt op,140,1,false⟩:=⟨_,rfl⟩;have l3:H3.length=H.length+2:=by rw[ou,jd,l2]
 obtain⟨H4,oV⟩: ∃z,z=H3.new ⟨oc bM ax,162,1,false⟩:=⟨_,rfl⟩;have kc:J (λH' o=>Fr H b H' o [(p:Int)]∧Cl i0 (oc bM ax) 162 H' o) p m H1:=by
  rw[hU];have SM:J (λH' o=>Fr H b H' o [(p:Int)]) p m H:=⟨cI.base (by simp),b,hr,Fr.refl _ _ _⟩
  refine SM.rL _ _ 1 ((cI.base (by simp)).and λH o H' o' a f=>a.fr f (by simp)) λo hk f=>⟨hk.new _ _,?_⟩
  rw[e0];exact Cl.made
 have jb:J (λH' o=>(Fr H b H' o [(p:Int)]∧Cl i0 (oc bM ax) 162 H' o)∧Cl i1 (ac 0 ⟨0,0,0⟩) 140 H' o) p m H2:=by
  rw[iL];refine kc.rL _ _ 1 (kc.1.and λH o H' o' a f=>a.fr f (by simp)) λo hk f=>⟨⟨hk.1.new _ _,hk.2.new⟩,?_⟩
  rw[e1, ←l1];exact Cl.made
 have kg:J (λH' o=>(Fr H b H' o [(p:Int)]∧Cl i0 (oc bM ax) 162 H' o)∧Cl i1 (ac dt op) 140 H' o) p m H3:=by
  rw[ou];refine jb.Hl (λo hg=>hg.2) (kc.1.and λH o H' o' a f=>a.fr f (by simp)) λo hg=>⟨⟨hg.1.1.put λhh=>by omega,hg.1.2.put (by omega)⟩,hg.2.self⟩
 have qX:J (KH H b p i0 i1 i2 dt op bM ax) p m H4:=by
  rw[oV];refine kg.rL _ _ 1 KH.iK λo hk f=>⟨hk.1.1.new _ _,hk.1.2.new,hk.2.new,?_,.nil⟩
  rw[e2, ←l3];exact Cl.made
 have n0:aO H 162 1 [cv 0,.bool false,cv 0,cv 0,cv 0,ax,ax,cv 0,.bool false,cv 0,cv 0,cv 0,ax]=(pv i0,H1):=by rw[hU,e0];rfl
 have n1:aO H1 140 1 [cv 0,cv 0,cv 0,cv 0,cv 0,cv 0,cv 0,.bool false,cv 0,.bool false,ax,ax,ax,ax,ax,cv 0,cv 0,cv 0,cv 0,cv 0,cv 0]=(pv i1,H2):=by rw[iL,e1, ←l1];rfl
 have n2:aO H3 162 1 [cv 0,.bool false,cv 0,cv 0,cv 0,ax,ax,cv 0,.bool false,cv 0,cv 0,cv 0,ax]=(pv i2,H4):=by rw[oV,e2, ←l3];rfl
 have mr: ∀{H':aa} {o':aj},Fr H b H' o' [(p:Int)]→H'.get f=some ⟨fc proc dt op tape done r0 s0 rec laid,T,1,false⟩:=λfr=>by rw[fr.same f FC (by simpa using hbf)];exact hf
 have gf1:H1.get f=some ⟨fc proc dt op tape done r0 s0 rec laid,T,1,false⟩:=by obtain⟨_,o,_,hk⟩:=kc;exact mr hk.1
 have L1:=Yw f proc dt op tape done r0 s0 rec laid H1 gf1;have S1:=abc i1 dt op 0 ⟨0,0,0⟩ H2 g2;rw[←ou] at S1;obtain⟨_,o4,_,hk4⟩:=id qX;have S2:=Ft i2 bM (s:=ax) rfl bM ax H4 hk4.k2.1;have adl:H4.put i2 ⟨oc bM ax,162,1,false⟩=H4:=by
  have hl:=an hk4.k2.1;have hg:=hk4.k2.1;unfold aa.put;apply List.ext_getElem?;intro k;by_cases e:k=i2
  ·subst e;rw[List.getElem?_set_self hl];unfold aa.get at hg;cases hx:H4[k]? with
   |none=>rw[hx] at hg;cases hg
   |some z=>rw[hx] at hg;cases z<;>simp_all
  ·rw[List.getElem?_set_ne (Ne.symm e)]
 rw[adl] at S2;have Lp:aq (pv f) H4=some (cv proc):=ak f 0 H4 (mr hk4.fr);have oR: ∀{r2:dA} {s2:Value} {m':Nat} {H':aa},J (KH H b p i0 i1 i2 dt op r2 s2) p m' H'→aq (.pointer (some ⟨i1,18,none⟩)) H'=some (cv op.kind)∧aq (.pointer (some ⟨i1,1,none⟩)) H'=some (cv dt)∧cK 3 (.pointer (some ⟨i1,18,none⟩)) H'=some (iO op):=λhj=>by
  obtain⟨_,o,_,hg⟩:=hj;exact⟨ak i1 18 _ hg.k1.1,ak i1 1 _ hg.k1.1,abd _ _ _ _ hg.k1.1⟩
 have set: ∀{m':Nat} {H':aa} (r:dA) (s:Value),J (λH o=>KH H4 o4 p i0 i1 i2 dt op bM ax H o) p m' H'→True:=λ_ _ _=>trivial
 have fin: ∀{r2:dA} {s2:Value} {m':Nat} {H':aa} (r:dA) (s:Value),(∃a k c,s= .slice a k c)→J (λH' o=>KH H b p i0 i1 i2 dt op r2 s2 H' o∧gE H' o (-41) s r.list) p m' H'→∃H3,bS 6 (.pointer (some ⟨i2,7,none⟩)) (dL r s) H'=some (undef,H3)∧J (KH H b p i0 i1 i2 dt op r s) p m' H3:=λ{r2 s2 m' H'} r s oz hj=>by
  obtain⟨a,k,c,es⟩:=oz;obtain⟨_,o,Gl,hg,hs⟩:=id hj;refine⟨_,abb i2 r es r2 s2 H' hg.k2.1,hj.Hl (λo hg=>hg.1.k2) KH.iK λo hg=>⟨hg.1.fr.put λhh=>by omega,hg.1.k0.put (by omega),hg.1.k1.put (by omega),hg.1.k2.self,hg.2.fr ((Fr.refl H' o [-9]).put λ_=>by simp[hg.1.k2.2]) (by simp)⟩⟩
 have J0: ∀{r2:dA} {s2:Value} {m':Nat} {H':aa} (aT aX x5 bQ cU cY ef fM gv oH:Value),(∃a k c,s2= .slice a k c)→r2.list.length≤m→J (KH H b p i0 i1 i2 dt op r2 s2) p m' H'→Ev (λk=>iH (run G k) k [pv f,pv p,pv i0,aT,aX,x5,pv i2,bQ,cU,cY,ef,fM,gv,oH] H') λr=>∃rr s m',r.1= .agg (oc rr s).toArray∧rr.list.length≤m∧J (KB H b p s rr.list) p m' r.2:=by
  intro r2 s2 m' H' aT aX x5 bQ cU cY ef fM gv oH oz hl hj;obtain⟨a,k,c,es⟩:=oz;obtain⟨_,o,Gl,hg⟩:=id hj;have A1:=IX i2 r2 s2 H' hg.k2.1;have A2:=Ft i0 r2 es bM ax H' hg.k0.1;have A3:=IX i0 r2 s2 (T:=162) _ (aD (c:=⟨oc r2 s2,162,1,false⟩) hg.k0.1);simp -implicitDefEqProofs only[Ke,yb,A1,A2,A3,sS,Nat.reduceAdd];refine Ev.ret ⟨r2,s2,m',rfl,hl,hj.Hl (λo hg=>hg.k0) ((cI.base (by simp)).and (cI.kJ (by simp))) λo hg=>⟨hg.fr.put λhh=>by omega,hg.sl.fr ((Fr.refl H' o [-9]).put λ_=>by simp[hg.k0.2]) (by simp)⟩⟩
 have abe: ∀{r2:dA} {s2:Value} {m':Nat} {H':aa} (r:dA),r.list=[]→J (KH H b p i0 i1 i2 dt op r2 s2) p m' H'→J (λH' o=>KH H b p i0 i1 i2 dt op r2 s2 H' o∧gE H' o (-41) ax r.list) p m' H':=λr hl hj=>hj.mono (KH.iK.and (cI.kJ (by simp))) λo a=>⟨a,by rw[hl];exact .nil⟩
 have err: ∀(w:Int),∃H3,bS 6 (.pointer (some ⟨i2,7,none⟩)) (dL (fN w) ax) H4=some (undef,H3)∧J (KH H b p i0 i1 i2 dt op (fN w) ax) p m H3:=λw=>fin (fN w) ax ⟨_,_,_,rfl⟩ (abe _ rfl qX)
 obtain⟨a0,a1,a2⟩:=oR qX;simp -implicitDefEqProofs only[VV,n0,L1,n1,S1,aba,n2,S2,Lp,Nat.add_zero,sS,Nat.reduceAdd];refine Ev.eql (λhq=>?_) (λhq=>?_)<;>try simp -implicitDefEqProofs only[sS,Nat.reduceAdd]
 ·omega
 refine Ev.eql (λhq=>?_) (λhq=>?_)<;>try simp -implicitDefEqProofs only[sS,Nat.reduceAdd]
 ·omega
 refine Ev.eql (λhq=>?_) (λhq=>?_)<;>try simp -implicitDefEqProofs only[sS,Nat.reduceAdd]
 ·omega
 refine Ev.eql (λhq=>?_) (λhq=>?_)<;>try simp -implicitDefEqProofs only[a0,Nat.add_zero,sS,Nat.reduceAdd]
 ·have hch:Ev (λk=>af (run G k 144 [pv p,iO op] H4) λy Hy=>af (bS 6 (.pointer (some ⟨i2,7,none⟩)) y Hy) λ_ Hy=>iH (run G k) k [pv f,pv p,pv i0,cv proc,.bool false,pv i1,pv i2,.bool false,.bool false,.bool true,.bool false,undef,undef,undef] Hy) λr=>∃rr s m',r.1= .agg (oc rr s).toArray∧rr.list.length≤m∧J (KB H b p s rr.list) p m' r.2:=by
   refine Ev.call (PA qX hM op) ?_;rintro v H5 ⟨r,rfl,hl,m',hj,hm⟩;obtain⟨H6,g6,tU⟩:=fin r ax ⟨_,_,_,rfl⟩ (abe _ hl hj);simp -implicitDefEqProofs only[g6,sS,Nat.reduceAdd];exact J0 _ _ _ _ _ _ _ _ _ _ ⟨_,_,_,rfl⟩ (by rw[hl];simp) tU
  refine Ev.lss (λhq=>?_) (λhq=>?_)<;>try simp -implicitDefEqProofs only[a0,Nat.add_zero,sS,Nat.reduceAdd]
  ·obtain⟨H6,g6,tU⟩:=err 5;simp -implicitDefEqProofs only[tF,g6,sS,Nat.reduceAdd];exact J0 _ _ _ _ _ _ _ _ _ _ ⟨_,_,_,rfl⟩ (by simp[fN]) tU
  refine Ev.gtr (λhq=>?_) (λhq=>?_)<;>try simp -implicitDefEqProofs only[a2,sS,Nat.reduceAdd]
  ·obtain⟨H6,g6,tU⟩:=err 5;simp -implicitDefEqProofs only[tF,g6,sS,Nat.reduceAdd];exact J0 _ _ _ _ _ _ _ _ _ _ ⟨_,_,_,rfl⟩ (by simp[fN]) tU
  ·exact hch
 refine Ev.eql (λhq=>?_) (λhq=>?_)<;>try simp -implicitDefEqProofs only[a0,Nat.add_zero,sS,Nat.reduceAdd]
 ·have hqu:Ev (λk=>af (run G k 145 [pv p,iO op,cv dt] H4) λy Hy=>af (bS 6 (.pointer (some ⟨i2,7,none⟩)) y Hy) λ_ Hy=>iH (run G k) k [pv f,pv p,pv i0,cv proc,.bool false,pv i1,pv i2,.bool false,.bool false,.bool false,undef,.bool true,.bool false,.bool false] Hy) λr=>∃rr s m',r.1= .agg (oc rr s).toArray∧rr.list.length≤m∧J (KB H b p s rr.list) p m' r.2:=by
   refine Ev.call (SS qX hM op dt) ?_;rintro v H5 ⟨r,s,rfl,hl,m',hj,hm⟩;have oz: ∃a k c,s= .slice a k c:=by
    obtain⟨_,o,_,_,hs⟩:=hj;obtain⟨a,c,e⟩:=hs.isSlice;exact⟨a,_,c,e⟩
   obtain⟨H6,g6,tU⟩:=fin r s oz hj;simp -implicitDefEqProofs only[g6,sS,Nat.reduceAdd];exact J0 _ _ _ _ _ _ _ _ _ _ oz hl tU
  have er5: ∀w,Ev (λk=>af (bS 6 (.pointer (some ⟨i2,7,none⟩)) (dL (fN w) ax) H4) λ_ Hy=>some (undef,Hy)) λr=>J (KH H b p i0 i1 i2 dt op (fN w) ax) p m r.2:=λw=>by
   obtain⟨H6,g6,tU⟩:=err w;simp -implicitDefEqProofs only[g6,sS,Nat.reduceAdd];exact Ev.ret tU
  refine Ev.lss (λhq=>?_) (λhq=>?_)<;>try simp -implicitDefEqProofs only[a0,Nat.add_zero,sS,Nat.reduceAdd]
  ·obtain⟨H6,g6,tU⟩:=err 5;simp -implicitDefEqProofs only[tF,g6,sS,Nat.reduceAdd];exact J0 _ _ _ _ _ _ _ _ _ _ ⟨_,_,_,rfl⟩ (by simp[fN]) tU
  refine Ev.gtr (λhq=>?_) (λhq=>?_)<;>try simp -implicitDefEqProofs only[a1,sS,Nat.reduceAdd]
  ·obtain⟨H6,g6,tU⟩:=err 5;simp -implicitDefEqProofs only[tF,g6,sS,Nat.reduceAdd];exact J0 _ _ _ _ _ _ _ _ _ _ ⟨_,_,_,rfl⟩ (by simp[fN]) tU
  refine Ev.lss (λhq=>?_) (λhq=>?_)<;>try simp -implicitDefEqProofs only[a1,sS,Nat.reduceAdd]
  ·obtain⟨H6,g6,tU⟩:=err 2;simp -implicitDefEqProofs only[tF,g6,sS,Nat.reduceAdd];exact J0 _ _ _ _ _ _ _ _ _ _ ⟨_,_,_,rfl⟩ (by simp[fN]) tU
  refine Ev.gtr (λhq=>?_) (λhq=>?_)<;>try simp -implicitDefEqProofs only[a2,a1,sS,Nat.reduceAdd]
  ·obtain⟨H6,g6,tU⟩:=err 2;simp -implicitDefEqProofs only[tF,g6,sS,Nat.reduceAdd];exact J0 _ _ _ _ _ _ _ _ _ _ ⟨_,_,_,rfl⟩ (by simp[fN]) tU
  ·exact hqu
 ·omega
end
section
variable {G:ae} {H H':aa} {o o':aj} {p m c mp:Nat} {K K':aa→aj→Prop} {t q:Int} {x:Value} {l:PL} {n i:Nat} {cs:List Int} {T:TypeId} {mx:Int}
def tN (H:aa)(o:aj)(mp:Nat)(mx:Int)(cs:List Int):Prop:=
 ∃(mH qB ref:Int) (s:Value) (ty:TypeId),H.get mp=some ⟨[cv mx,s,cv mH,cv qB,cv ref],ty,1,false⟩∧o mp= -70∧qd H o (-71) s cs∧(cs.length:Int)≤mx∧mx≤65536
theorem tN.fr {ps:List Int}(h:tN H o mp mx cs)(f:Fr H o H' o' ps)(h1:(-70:Int) ∉ ps)(h2:(-71:Int) ∉ ps):tN H' o' mp mx cs:=by
 obtain⟨mH,qB,ref,s,ty,g,ho,hs,hl⟩:=h;exact⟨mH,qB,ref,s,ty,by rw[f.same mp (an g) (by rw[ho];exact h1)];exact g,by rw[f.own mp (an g)];exact ho,hs.fr f h2,hl⟩
def JM (K:aa→aj→Prop)(mp:Nat)(mx:Int)(cs:List Int)(H:aa):Prop:=cI [-70, -71] K∧∃o,tN H o mp mx cs∧K H o
theorem JM.num (h:JM K mp mx cs H): ∃mH qB ref s ty,H.get mp=some ⟨[cv mx,s,cv mH,cv qB,cv ref],ty,1,false⟩∧cw s=some (cv cs.length)∧∀Hm zO zP,JM K mp mx cs (H.put mp ⟨[cv mx,s,cv Hm,cv zO,cv zP],ty,1,false⟩):=by
 obtain⟨hK,o,⟨mH,qB,ref,s,ty,g,ho,hs,hl⟩,hk⟩:=h;refine⟨mH,qB,ref,s,ty,g,hs.ints.1.len,λHm zO zP=>⟨hK,o,⟨Hm,zO,zP,s,ty,aD g,ho,?_,hl⟩,hK _ _ _ _ hk ?_⟩⟩
 ·exact hs.fr ((Fr.refl H o [-70]).put λ_=>by simp[ho]) (by simp)
 ·exact((Fr.refl H o [-70]).put λ_=>by simp[ho]).wk (by simp)
theorem abf (h:JM K mp mx cs H)(a:Int):bA (run G) 70 [pv mp,cv a] H λv H'=>v= .bool (decide (1≤a∧a≤cs.length))∧JM K mp mx cs H':=by
 refine Ev.up (t:=λk=>F70 (run G k) k (pv mp) (cv a) H) ?_ λk=>WL ..
 obtain⟨mH,qB,ref,s,ty,g,hl,hj⟩:=h.num;obtain⟨H1,e1⟩: ∃z,z=H.put mp ⟨[cv mx,s,cv (IntKind.i64.wrap (mH+1)),cv qB,cv ref],ty,1,false⟩:=⟨_,rfl⟩;have kc:=hj (IntKind.i64.wrap (mH+1)) qB ref;rw[←e1] at kc;have g1:H1.get mp=some ⟨[cv mx,s,cv (IntKind.i64.wrap (mH+1)),cv qB,cv ref],ty,1,false⟩:=by rw[e1];exact aD g
 have L2:aq (.pointer (some ⟨mp,2,none⟩)) H=some (cv mH):=ak mp 2 H g;have S2:=jM mp 2 (IntKind.i64.wrap (mH+1)) H g rfl (by simp)
 simp only[List.set_cons_succ,List.set_cons_zero] at S2;rw[←e1] at S2;have M1:aq (.pointer (some ⟨mp,1,none⟩)) H1=some s:=ak mp 1 H1 g1;have M3:aq (.pointer (some ⟨mp,3,none⟩)) H1=some (cv qB):=ak mp 3 H1 g1;have S3:=jM mp 3 (IntKind.i64.wrap (qB+1)) H1 g1 rfl (by simp)
 simp only[List.set_cons_succ,List.set_cons_zero] at S3;have jb:JM K mp mx cs (H1.put mp ⟨[cv mx,s,cv (IntKind.i64.wrap (mH+1)),cv (IntKind.i64.wrap (qB+1)),cv ref],ty,1,false⟩):=by
  obtain⟨c2,o2,r2,s2,mo,g2,_,jb⟩:=kc.num;rw[g1] at g2;cases g2;exact jb _ _ _
 simp -implicitDefEqProofs only[F70,L2,S2,sS,Nat.reduceAdd];refine Ev.lss (λhq=>?_) (λhq=>?_)<;>try simp -implicitDefEqProofs only[M1,hl,M3,S3,sS,Nat.reduceAdd]
 ·exact Ev.ret ⟨by simp;omega,jb⟩
 refine Ev.gtr (λhq=>?_) (λhq=>?_)<;>try simp -implicitDefEqProofs only[M3,S3,sS,Nat.reduceAdd]
 ·exact Ev.ret ⟨by simp;omega,jb⟩
 ·exact Ev.ret ⟨by simp;omega,kc⟩
theorem JM.cell (h:JM K mp mx cs H){a:Int}(ha:1≤a∧a≤cs.length): ∃s q j,aq (.pointer (some ⟨mp,1,none⟩)) H=some s∧(∀H',cq 1 s (cv (a-1)) H'=some (.pointer (some ⟨q,j,none⟩),H'))∧(∃z,aq (.pointer (some ⟨q,j,none⟩)) H=some (cv z))∧
  ∀x:Int,∃H' c8,bS 1 (.pointer (some ⟨q,j,none⟩)) (cv x) H=some (undef,H')∧JM K mp mx c8 H'∧c8.length=cs.length:=by
 obtain⟨hK,o,⟨mH,qB,ref,s,ty,g,ho,hs,hl⟩,hk⟩:=h;obtain⟨j,hj⟩: ∃j:Nat,a-1=j:=⟨(a-1).toNat,by omega⟩
 have z9:j<cs.length:=by omega
 obtain⟨q,b,c,h1,h2,h3,h4,h5,_⟩:=hs.set z9 0;rw[hj];refine⟨s,q,j,ak mp 1 H g,h1,⟨_,(ak q j H h2).trans h5⟩,λx=>?_⟩
 obtain⟨q',b',c',k1,k2,k3,k4,k5,k6,k7,k8⟩:=hs.set z9 x;have eq:q'=q:=by
  have a1:=k1 [];have a2:=h1 [];rw[a1] at a2;simpa using a2
 subst eq;have f:Fr H o (H.put q' c') o [-71]:=(Fr.refl H o [-71]).put λ_=>by simp[k4]
 refine⟨_,cs.set j x,k7,⟨hK,o,⟨mH,qB,ref,s,ty,?_,ho,k8,by simpa using hl⟩,hK _ _ _ _ hk (f.wk (by simp))⟩,by simp⟩
 rw[aS (by rintro rfl;rw[ho] at k4;omega)];exact g
section
variable {α:Type} {k:Nat→Value→aa→Option α} {Q:α→Prop}
theorem Ev.has (h:JM K mp mx cs H){a:Int}(h1:1≤a∧a≤cs.length→∀H',JM K mp mx cs H'→Ev (λn=>k n (.bool true) H') Q)(h2: ¬(1≤a∧a≤cs.length)→∀H',JM K mp mx cs H'→Ev (λn=>k n (.bool false) H') Q):Ev (λn=>af (run G n 70 [pv mp,cv a] H) (k n)) Q:=
 Ev.call (abf h a) λv H' hq=>by
  obtain⟨rfl,hj⟩:=hq;by_cases e:1≤a∧a≤cs.length
  ·have:decide (1≤a∧a≤cs.length)=true:=by simpa using e
   rw[this];exact h1 e H' hj
  ·have:decide (1≤a∧a≤cs.length)=false:=by simpa using e
   rw[this];exact h2 e H' hj
end
abbrev abg (K:aa→aj→Prop)(mp:Nat)(mx:Int)(n:Nat):Value→aa→Prop:=λv H'=>∃z c8,v=cv z∧JM K mp mx c8 H'∧c8.length=n
theorem BF {a:Int}(h:1≤a∧a≤cs.length)(hl:cs.length≤65536):IntKind.i64.wrap (a-1)=a-1:=kr (by omega)
theorem JM.Qi (h:JM K mp mx cs H):cs.length≤65536:=by
 obtain⟨_,o,⟨_,_,_,_,_,_,_,_,h1,h2⟩,_⟩:=h;omega
theorem SU (h:JM K mp mx cs H)(a:Int):bA (run G) 125 [pv mp,cv a] H (abg K mp mx cs.length):=by
 refine Ev.up (t:=λk=>Vh (run G k) k (pv mp) (cv a) H) ?_ λk=>QQ ..
 simp -implicitDefEqProofs only[Vh,sS,Nat.reduceAdd];refine Ev.has h (λha H1 hj=>?_) (λha H1 hj=>?_)<;>try simp -implicitDefEqProofs only[sS,Nat.reduceAdd]
 ·obtain⟨s,q,j,e1,e2,⟨z,e3⟩,e4⟩:=hj.cell ha;simp -implicitDefEqProofs only[e1,BF ha hj.Qi,e2,e3,sS,Nat.reduceAdd];exact Ev.ret ⟨_,_,rfl,hj,rfl⟩
 ·exact Ev.ret ⟨_,_,rfl,hj,rfl⟩
theorem Fu (h:JM K mp mx cs H)(a x:Int):bA (run G) 41 [pv mp,cv a,cv x] H λv H'=>∃c8,JM K mp mx c8 H'∧c8.length=cs.length:=by
 refine Ev.up (t:=λk=>F41 (run G k) k (pv mp) (cv a) (cv x) H) ?_ λk=>VP ..
 simp -implicitDefEqProofs only[F41,sS,Nat.reduceAdd];refine Ev.has h (λha H1 hj=>?_) (λha H1 hj=>?_)<;>try simp -implicitDefEqProofs only[sS,Nat.reduceAdd]
 ·obtain⟨s,q,j,e1,e2,⟨z,e3⟩,e4⟩:=hj.cell ha;obtain⟨H2,c8,e5,jb,hl⟩:=e4 x;simp -implicitDefEqProofs only[e1,BF ha hj.Qi,e2,e5,sS,Nat.reduceAdd];exact Ev.ret ⟨_,jb,hl⟩
 ·exact Ev.ret ⟨_,hj,rfl⟩
theorem Yy (h:JM K mp mx cs H)(a x y:Int):bA (run G) 126 [pv mp,cv a,cv x,cv y] H λv H'=>∃b c8,v= .bool b∧JM K mp mx c8 H'∧c8.length=cs.length:=by
 refine Ev.up (t:=λk=>Vi (run G k) k (pv mp) (cv a) (cv x) (cv y) H) ?_ λk=>QR ..
 simp -implicitDefEqProofs only[Vi,sS,Nat.reduceAdd];refine Ev.has h (λha H1 hj=>?_) (λha H1 hj=>?_)<;>try simp -implicitDefEqProofs only[sS,Nat.reduceAdd]
 ·obtain⟨s,q,j,e1,e2,⟨z,e3⟩,e4⟩:=hj.cell ha;obtain⟨H2,c8,e5,jb,hl⟩:=e4 y;simp -implicitDefEqProofs only[e1,BF ha hj.Qi,e2,e3,sS,Nat.reduceAdd];refine Ev.neq (λhq=>?_) (λhq=>?_)<;>try simp -implicitDefEqProofs only[e1,BF ha hj.Qi,e2,e5,sS,Nat.reduceAdd]
  ·exact Ev.ret ⟨_,_,rfl,hj,rfl⟩
  ·exact Ev.ret ⟨_,_,rfl,jb,hl⟩
 ·exact Ev.ret ⟨_,_,rfl,hj,rfl⟩
theorem Yz (h:JM K mp mx cs H)(a x:Int):bA (run G) 127 [pv mp,cv a,cv x] H (abg K mp mx cs.length):=by
 refine Ev.up (t:=λk=>Xa (run G k) k (pv mp) (cv a) (cv x) H) ?_ λk=>RT ..
 simp -implicitDefEqProofs only[Xa,sS,Nat.reduceAdd];refine Ev.has h (λha H1 hj=>?_) (λha H1 hj=>?_)<;>try simp -implicitDefEqProofs only[sS,Nat.reduceAdd]
 ·obtain⟨s,q,j,e1,e2,⟨z,e3⟩,e4⟩:=hj.cell ha;obtain⟨H2,c8,e5,jb,hl⟩:=e4 (IntKind.i64.wrap (z+x));simp -implicitDefEqProofs only[e1,BF ha hj.Qi,e2,e3,e5,sS,Nat.reduceAdd];exact Ev.ret ⟨_,_,rfl,jb,hl⟩
 ·exact Ev.ret ⟨_,_,rfl,hj,rfl⟩
theorem abh (h:JM K mp mx cs H)(a:Int):bA (run G) 93 [pv mp,cv a] H λv H'=>(∃z,v=cv z)∧H'=H:=by
 refine Ev.up (t:=λk=>F93 (run G k) k (pv mp) (cv a) H) ?_ λk=>Oc ..
 obtain⟨mH,qB,ref,s,ty,g,hl,hj⟩:=h.num;have L1:aq (.pointer (some ⟨mp,1,none⟩)) H=some s:=ak mp 1 H g;simp -implicitDefEqProofs only[F93,sS,Nat.reduceAdd];refine Ev.lss (λhq=>?_) (λhq=>?_)<;>try simp -implicitDefEqProofs only[L1,hl,sS,Nat.reduceAdd]
 ·exact Ev.ret ⟨⟨_,rfl⟩,rfl⟩
 refine Ev.gtr (λpT=>?_) (λpT=>?_)<;>try simp -implicitDefEqProofs only[sS,Nat.reduceAdd]
 ·exact Ev.ret ⟨⟨_,rfl⟩,rfl⟩
 ·obtain⟨s',q,j,e1,e2,⟨z,e3⟩,e4⟩:=h.cell (a:=a) (by omega)
  rw[L1] at e1;cases e1;simp -implicitDefEqProofs only[L1,BF (cs:=cs) (a:=a) (by omega) h.Qi,e2,e3,sS,Nat.reduceAdd]
  exact Ev.ret ⟨⟨_,rfl⟩,rfl⟩
theorem IY (h:JM K mp mx cs H){w:Value}{lw:List Int}(hw:iz H w lw)(YA:lw≠[]→∀a n c,w= .slice (some a) n c→a.block≠mp):bA (run G) 61 [pv mp,w] H λv H'=>∃z b c8,v= .tuple #[cv z,.bool b]∧JM K mp mx c8 H':=by
 refine Ev.up (t:=λk=>F61 (run G k) k (pv mp) w H) ?_ λk=>NG ..
 obtain⟨mH,qB,ref,s,ty,g,hl,hj⟩:=h.num;obtain⟨H1,e1⟩: ∃z,z=H.put mp ⟨[cv mx,s,cv (IntKind.i64.wrap (mH+1)),cv qB,cv ref],ty,1,false⟩:=⟨_,rfl⟩;have kc:=hj (IntKind.i64.wrap (mH+1)) qB ref;rw[←e1] at kc;have g1:H1.get mp=some ⟨[cv mx,s,cv (IntKind.i64.wrap (mH+1)),cv qB,cv ref],ty,1,false⟩:=by rw[e1];exact aD g
 have L2:aq (.pointer (some ⟨mp,2,none⟩)) H=some (cv mH):=ak mp 2 H g;have S2:=jM mp 2 (IntKind.i64.wrap (mH+1)) H g rfl (by simp)
 simp only[List.set_cons_succ,List.set_cons_zero] at S2;rw[←e1] at S2;have M0:aq (pv mp) H1=some (cv mx):=ak mp 0 H1 g1;have M1:aq (.pointer (some ⟨mp,1,none⟩)) H1=some s:=ak mp 1 H1 g1;have M4:aq (.pointer (some ⟨mp,4,none⟩)) H1=some (cv ref):=ak mp 4 H1 g1;have S4:=jM mp 4 (IntKind.i64.wrap (ref+1)) H1 g1 rfl (by simp)
 simp only[List.set_cons_succ,List.set_cons_zero] at S4;have jb:JM K mp mx cs (H1.put mp ⟨[cv mx,s,cv (IntKind.i64.wrap (mH+1)),cv qB,cv (IntKind.i64.wrap (ref+1))],ty,1,false⟩):=by
  obtain⟨c2,o2,r2,s2,mo,g2,_,jb⟩:=kc.num;rw[g1] at g2;cases g2;exact jb _ _ _
 have FY:iz H1 w lw:=by
  refine hw.keep λi b e dX=>?_
  rw[e1,aS (YA dX b _ _ e)]
 have YB:=h.Qi;obtain⟨hK,o,⟨Hm,zO,zP,s',Co,g',ho,hs,SW⟩,hk⟩:=id kc;rw[g1] at g';obtain⟨rfl,rfl,rfl,rfl,rfl⟩:s'=s∧Hm=IntKind.i64.wrap (mH+1)∧zO=qB∧zP=ref∧Co=ty:=by
  injection g' with g';injection g' with a b c d;injection a with a1 a2;injection a2 with a3 a4;injection a4 with a5 a6;injection a6 with a7 a8;injection a8 with a9 a10;injection a5 with _ a5;injection a7 with _ a7;injection a9 with _ a9;exact⟨a3.symm,a5.symm,a7.symm,a9.symm,b.symm⟩
 simp -implicitDefEqProofs only[F61,L2,S2,hw.len,sS,Nat.reduceAdd];refine Ev.eql (λhq=>?_) (λhq=>?_)<;>try simp -implicitDefEqProofs only[hw.len,M0,M1,M4,S4,hl,sS,Nat.reduceAdd]
 ·exact Ev.ret ⟨_,_,_,rfl,jb⟩
 have hw9:IntKind.i64.wrap (mx-cs.length)=mx-cs.length:=kr (by omega)
 simp -implicitDefEqProofs only[hw9,sS,Nat.reduceAdd];refine Ev.gtr (λpT=>?_) (λpT=>?_)<;>try simp -implicitDefEqProofs only[M0,M1,M4,S4,hl,sS,Nat.reduceAdd]
 ·exact Ev.ret ⟨_,_,_,rfl,jb⟩
 obtain⟨x',H2,o2,a2,s2,f2,k2⟩:=lD 2 hs FY (by omega)
 have g2:H2.get mp=some ⟨[cv mx,s',cv (IntKind.i64.wrap (mH+1)),cv zO,cv zP],Co,1,false⟩:=by rw[f2.same mp (an g1) (by rw[ho];simp)];exact g1
 have Ee:o2 mp= -70:=by rw[f2.own mp (an g1)];exact ho
 obtain⟨ba,bc,ex⟩:=s2.isSlice;have S1:=xk mp 1 ba (cs++lw).length bc H2 g2 rfl (by simp)
 rw[←ex] at S1;simp only[List.set_cons_succ,List.set_cons_zero] at S1;simp -implicitDefEqProofs only[a2,S1,sS,Nat.reduceAdd];have f3:Fr H2 o2 (H2.put mp ⟨[cv mx,x',cv (IntKind.i64.wrap (mH+1)),cv zO,cv zP],Co,1,false⟩) o2 [-70]:=(Fr.refl H2 o2 [-70]).put λ_=>by simp[Ee]
 exact Ev.ret ⟨_,_,cs++lw,rfl,hK,o2,⟨_,_,_,x',Co,aD g2,Ee,s2.fr f3 (by simp),by simp;omega,SW.2⟩,hK _ _ _ _ hk (f2.trans f3 (by simp) (by simp))⟩
theorem adm (h:JM K mp mx cs H)(k a y z:Int){w:Value}{lw:List Int}(hw:iz H w lw)(YA:lw≠[]→∀a n c,w= .slice (some a) n c→a.block≠mp):bA (run G) 116 [pv mp,uH k a y z w] H λv H'=>∃u c8,v=cv u∧JM K mp mx c8 H':=by
 refine Ev.up (t:=λn=>Xq (run G n) n (pv mp) (uH k a y z w) H) ?_ λn=>R1 ..
 obtain⟨wb,wc,ew⟩:=hw.isSlice;obtain⟨H1,e1⟩: ∃z',z'=H.new ⟨[cv k,cv a,cv y,cv z,w],180,1,false⟩:=⟨_,rfl⟩;have bx:=Pr k a y z (b:=wb) (n:=lw.length) (c:=wc) H;rw[←ew, ←e1] at bx;have kc:JM K mp mx cs H1:=by
  obtain⟨hK,o,hm,hk⟩:=h;have f:Fr H o H1 (o.up H.length (-9)) []:=by rw[e1];exact(Fr.refl H o []).new _ _
  exact⟨hK,_,hm.fr f (by simp) (by simp),hK _ _ _ _ hk (f.wk (by simp))⟩
 have g1:H1.get H.length=some ⟨[cv k,cv a,cv y,cv z,w],180,1,false⟩:=by rw[e1];exact ay
 have L0:aq (pv H.length) H1=some (cv k):=ak H.length 0 H1 g1;have L1:aq (.pointer (some ⟨H.length,1,none⟩)) H1=some (cv a):=ak H.length 1 H1 g1;have L2:aq (.pointer (some ⟨H.length,2,none⟩)) H1=some (cv y):=ak H.length 2 H1 g1;have L3:aq (.pointer (some ⟨H.length,3,none⟩)) H1=some (cv z):=ak H.length 3 H1 g1;have L4:aq (.pointer (some ⟨H.length,4,none⟩)) H1=some w:=ak H.length 4 H1 g1;have FY:iz H1 w lw:=by rw[e1];exact IV hw _
 have J0: ∀{H2:aa} {c8:List Int} (x4 x3 x8 x9 aT bQ cr cM dM x5:Value),JM K mp mx c8 H2→Ev (λn=>tq (run G n) n [pv mp,uH k a y z w,x4,x3,x8,x9,aT,bQ,cr,cM,dM,x5] H2) λr=>∃u c8,r.1=cv u∧JM K mp mx c8 r.2:=by
  intro H2 c8 x4 x3 x8 x9 aT bQ cr cM dM x5 hj;simp -implicitDefEqProofs only[K8,yX,sS,Nat.reduceAdd];exact Ev.ret ⟨_,_,rfl,hj⟩
 simp -implicitDefEqProofs only[Xq,bx,L0,Nat.add_zero,sS,Nat.reduceAdd];refine Ev.eql (λhq=>?_) (λhq=>?_)<;>try simp -implicitDefEqProofs only[L1,L2,L3,L4,sS,Nat.reduceAdd]
 ·refine Ev.call (SU kc a) ?_;rintro v H2 ⟨u,c8,rfl,hj,_⟩;exact Ev.ret ⟨_,_,rfl,hj⟩
 refine Ev.eql (λhq=>?_) (λhq=>?_)<;>try simp -implicitDefEqProofs only[L1,L2,L3,L4,sS,Nat.reduceAdd]
 ·refine Ev.call (Fu kc a y) ?_;rintro v H2 ⟨c8,hj,_⟩;exact J0 _ _ _ _ _ _ _ _ _ _ hj
 refine Ev.eql (λhq=>?_) (λhq=>?_)<;>try simp -implicitDefEqProofs only[L1,L2,L3,L4,sS,Nat.reduceAdd]
 ·refine Ev.call (Yy kc a y z) ?_;rintro v H2 ⟨b,c8,rfl,hj,_⟩;cases b<;>simp -implicitDefEqProofs only[sS,Nat.reduceAdd]
  ·exact J0 _ _ _ _ _ _ _ _ _ _ hj
  ·exact Ev.ret ⟨_,_,rfl,hj⟩
 refine Ev.eql (λhq=>?_) (λhq=>?_)<;>try simp -implicitDefEqProofs only[L1,L2,L3,L4,sS,Nat.reduceAdd]
 ·refine Ev.call (Yz kc a y) ?_;rintro v H2 ⟨u,c8,rfl,hj,_⟩;exact Ev.ret ⟨_,_,rfl,hj⟩
 refine Ev.eql (λhq=>?_) (λhq=>?_)<;>try simp -implicitDefEqProofs only[L1,L2,L3,L4,sS,Nat.reduceAdd]
 ·refine Ev.call (IY kc FY YA) ?_;rintro v H2 ⟨u,b,c8,rfl,hj⟩
  try simp -implicitDefEqProofs only[sS,Nat.reduceAdd]
  exact Ev.ret ⟨_,_,rfl,hj⟩
 ·exact J0 _ _ _ _ _ _ _ _ _ _ kc
end
section
variable {G:ae} {H H':aa} {o o':aj} {p m c mp f:Nat} {K K':aa→aj→Prop} {tf tg q:Int} {x:Value} {l:PL} {n i:Nat} {cs:List Int} {mx proc dt rec laid:Int} {op:kC} {tape s0:Value} {done:Bool} {r0:dA} {T:List Int}
theorem abi (b:Option Addr)(n c:Nat):aE Tryz.prog 182 [(0,.slice b n c)]=some (.agg #[.slice b n c,cv 0,.bool false,cv 0,cv 0,cv 0,cv 0,ax,cv 0,cv 0]):=by kernel_rfl
theorem YC (b:Option Addr)(n c:Nat)(H:aa):cO 182 (.agg #[.slice b n c,cv 0,.bool false,cv 0,cv 0,cv 0,cv 0,ax,cv 0,cv 0]) H=some (pv H.length,H.new ⟨[.slice b n c,cv 0,.bool false,cv 0,cv 0,cv 0,cv 0,ax,cv 0,cv 0],182,1,false⟩):=by
 simp[cO,Value.cells,av,aO]
theorem PE (hf:H.get f=some ⟨fc proc dt op tape done r0 s0 rec laid,164,1,false⟩)(ht:fp H o tg tape T)(hT:T.length≤1048576)(hp:proc=24∨proc=25):
  bA (run G) 115 [pv f] H λv H'=>∃p r s o' m',v= .tuple #[pv p,.agg (oc r s).toArray]∧Ext H H'∧H.length≤p∧zH H' o' p m'∧gE H' o' (-41) s r.list∧r.list.length≤1048577∧∀i,i<H.length→o' i≠ -41∧o' i≠ -51:=by
 refine Ev.up (t:=λk=>Wt (run G k) k (pv f) H) ?_ λk=>Rw ..
 classical
 let o1:aj:=λi=>if ∃a n c,tape= .slice (some a) n c∧a.block=i then -50 else -9
 have o1v: ∀i,o1 i= -50∨o1 i= -9:=λi=>by
  show(if ∃a n c,tape= .slice (some a) n c∧a.block=i then(-50:Int) else -9)= -50∨(if ∃a n c,tape= .slice (some a) n c∧a.block=i then(-50:Int) else -9)= -9
  split
  ·exact .inl rfl
  ·exact .inr rfl
 have uJ:fp H o1 (-50) tape T:=⟨ht.1,λb n c e dX=>⟨(ht.2 b n c e dX).1,if_pos ⟨b,n,c,e,rfl⟩⟩⟩
 obtain⟨ta,tc,et⟩:=ht.1.isSlice;have FC:=an hf;obtain⟨H1,hU⟩: ∃z,z=H.new ⟨oc bM ax,162,1,false⟩:=⟨_,rfl⟩;have l1:H1.length=H.length+1:=by rw[hU,aW]
 have g1:H1.get H.length=some ⟨oc bM ax,162,1,false⟩:=by rw[hU];exact ay
 obtain⟨p,ep⟩: ∃p,p=H1.length:=⟨_,rfl⟩;obtain⟨H2,iL⟩: ∃z,z=H1.new ⟨[tape,cv 0,.bool false,cv 0,cv 0,cv 0,cv 0,ax,cv 0,cv 0],182,1,false⟩:=⟨_,rfl⟩;have l2:H2.length=H.length+2:=by rw[iL,aW,l1]
 obtain⟨o2,Ye⟩: ∃z,z=(o1.up H.length (-9)).up p p:=⟨_,rfl⟩;have f1:Fr H o1 H1 (o1.up H.length (-9)) []:=by rw[hU];exact(Fr.refl H o1 []).new _ _
 have f2:Fr H o1 H2 o2 []:=by rw[iL,Ye,ep];exact f1.new _ _
 have gp:H2.get p=some ⟨[tape,cv 0,.bool false,cv 0,cv 0,cv 0,cv 0,ax,cv 0,cv 0],182,1,false⟩:=by rw[iL,ep];exact ay
 have hr:zH H2 o2 p (T.length+1):=⟨tape,ax,T,[],0,0,0,0,0,0,0,182,by rw[gp];simp,by rw[Ye];exact aH,uJ.fr f2 (by simp),hT,.nil,λ_=>by omega⟩
 have gf2:H2.get f=some ⟨fc proc dt op tape done r0 s0 rec laid,164,1,false⟩:=by rw[f2.same f FC (by simp)];exact hf
 have Ee: ∀i,i<H.length→o2 i=o1 i:=λi hi=>f2.own i hi
 have hbf:o2 f≠(p:Int):=by rw[Ee f FC];have:=o1v f;omega
 have oi:o2 H.length= -9:=by rw[Ye,cZ (by omega)];exact aH
 have g2:H2.get H.length=some ⟨oc bM ax,162,1,false⟩:=by rw[iL,cD (by omega)];exact g1
 have n0:aO H 162 1 [cv 0,.bool false,cv 0,cv 0,cv 0,ax,ax,cv 0,.bool false,cv 0,cv 0,cv 0,ax]=(pv H.length,H1):=by rw[hU];rfl
 have gf1:H1.get f=some ⟨fc proc dt op tape done r0 s0 rec laid,164,1,false⟩:=by rw[hU,cD FC];exact hf
 have Lt:aq (.pointer (some ⟨f,22,none⟩)) H1=some tape:=ak f 22 H1 gf1;have Lp:aq (pv f) H2=some (cv proc):=ak f 0 H2 gf2;have bx:=YC ta T.length tc H1;rw[←et, ←iL, ←ep] at bx;have ab:=abi ta T.length tc;rw[←et] at ab;simp -implicitDefEqProofs only[Wt,n0,Lt,ab,bx,Lp,Nat.add_zero,sS,Nat.reduceAdd];refine Ev.leq (λhq=>?_) (λhq=>?_)<;>try simp -implicitDefEqProofs only[Lp,Nat.add_zero,sS,Nat.reduceAdd]
 ·omega
 refine Ev.leq (λhq=>?_) (λhq=>?_)<;>try simp -implicitDefEqProofs only[sS,Nat.reduceAdd]
 ·omega
 refine Ev.call (Yx hr (by omega) gf2 hbf hp) ?_
 rintro v H3 ⟨r,s,m',rfl,hl,_,o3,hr3,f3,Qe⟩;obtain⟨sa,sc,es⟩:=Qe.isSlice;have g3:H3.get H.length=some ⟨oc bM ax,162,1,false⟩:=by rw[f3.same _ (an g2) (by rw[oi];simp)];exact g2
 have A2:=Ft H.length r es bM ax H3 g3;have A3:=IX H.length r s (T:=162) _ (aD (c:=⟨oc r s,162,1,false⟩) g3);simp -implicitDefEqProofs only[A2,A3,sS,Nat.reduceAdd];have o3i:o3 H.length= -9:=by rw[f3.own _ (an g2)];exact oi
 have f4:Fr H3 o3 (H3.put H.length ⟨oc r s,162,1,false⟩) o3 [-9]:=(Fr.refl H3 o3 [-9]).put λ_=>by simp[o3i]
 refine Ev.ret ⟨p,r,s,o3,m',rfl,⟨λj hj=>?_,?_⟩,by omega,hr3.fr f4 (by simp) (by simp) (by simp),Qe.fr f4 (by simp),by omega,λi hi=>?_⟩
 ·rw[db (by omega),f3.slot j (by omega) (by rw[Ee j hj];have:=o1v j;simp;omega)]
  exact f2.slot j hj (by simp)
 ·rw[jd];have:=f3.size;omega
 ·have:=f3.own i (by omega)
  have:=Ee i hi
  have:=o1v i
  omega
def kH (H:aa)(o:aj)(f:Nat)(tf tg:Int)(T:List Int):Prop:=
 ∃(proc dt:Int) (op:kC) (tape:Value) (done:Bool) (r:dA) (s:Value) (rec laid:Int),H.get f=some ⟨fc proc dt op tape done r s rec laid,164,1,false⟩∧o f=tf∧qd H o tg tape T∧(proc=24∨proc=25)∧gE H o (-41) s r.list∧r.list.length≤1048577
theorem kH.fr {ps:List Int}(h:kH H o f tf tg T)(fr:Fr H o H' o' ps)(h1:tf ∉ ps)(h2:tg ∉ ps)(h3:(-41:Int) ∉ ps):kH H' o' f tf tg T:=by
 obtain⟨proc,dt,op,tape,done,r,s,rec,laid,g,ho,ht,hp,hs,hl⟩:=h;exact⟨proc,dt,op,tape,done,r,s,rec,laid,by rw[fr.same f (an g) (by rw[ho];exact h1)];exact g,by rw[fr.own f (an g)];exact ho,ht.fr fr h2,hp,hs.fr fr h3,hl⟩
theorem qd.mv {s:Value}{cs:List Int}(h:qd H o q s cs)(k: ∀i,i<H.length→o i=q→H'.get i=H.get i∧o' i=q):qd H' o' q s cs:=by
 rcases h with h|⟨i,cap,rest,ty,h1,h2,h3,h4⟩
 ·exact .inl h
 ·obtain⟨k1,k2⟩:=k i (an h2) h4;exact .inr ⟨i,cap,rest,ty,h1,by rw[k1];exact h2,h3,k2⟩
theorem YD (f:Nat)(r:dA){s:Value}{a:Option Addr}{k c:Nat}(es:s= .slice a k c){T:TypeId}(H:aa)(h:H.get f=some ⟨fc proc dt op tape done r0 s0 rec laid,T,1,false⟩):bS 13 (.pointer (some ⟨f,24,none⟩)) (.agg (oc r s).toArray) H=some (undef,H.put f ⟨fc proc dt op tape done r s rec laid,T,1,false⟩):=by
 subst es;simp[bS,bl,h,Value.cells,known,av,bB];rfl
def abj (o o3:aj)(n:Nat):aj:=λi=>if i<n then o i else if o3 i= -41 then -41 else if o3 i= -51 then -51 else -9
theorem Fv (h:kH H o f tf tg T)(hT:T.length≤1048576)(h1:tf≠tg∧tf≠ -41):bA (run G) 100 [pv f] H λv H'=>∃o',Fr H o H' o' [tf]∧kH H' o' f tf tg T:=by
 refine Ev.up (t:=λk=>WU (run G k) k (pv f) H) ?_ λk=>RK ..
 obtain⟨proc,dt,op,tape,done,r0,s0,rec,laid,g,ho,ht,hp,hs,hl⟩:=h;have FC:=an g;simp -implicitDefEqProofs only[WU,sS,Nat.reduceAdd];refine Ev.call (PE g ht.ints hT hp) ?_;rintro v H1 ⟨p,r,s,o3,m',rfl,ex,BQ,hr3,Qe,UM,SX⟩;obtain⟨sa,sc,es⟩:=Qe.isSlice;have l1:=ex.size;have g1:=ex.get g;obtain⟨H2,iL⟩: ∃z,z=H1.new ⟨oc bM ax,162,1,false⟩:=⟨_,rfl⟩;have l2:H2.length=H1.length+1:=by rw[iL,aW]
 have gb:H2.get H1.length=some ⟨oc bM ax,162,1,false⟩:=by rw[iL];exact ay
 have n0:aO H1 162 1 [cv 0,.bool false,cv 0,cv 0,cv 0,ax,ax,cv 0,.bool false,cv 0,cv 0,cv 0,ax]=(pv H1.length,H2):=by rw[iL];rfl
 have A2:=Ft H1.length r es bM ax H2 gb;obtain⟨H3,ou⟩: ∃z,z=H2.put H1.length ⟨oc r s,162,1,false⟩:=⟨_,rfl⟩;rw[←ou] at A2;have l3:H3.length=H1.length+1:=by rw[ou,jd,l2]
 have hold: ∀j,j<H1.length→H3[j]? =H1[j]? :=λj hj=>by rw[ou,db (by omega),iL,dC hj]
 have gb3:H3.get H1.length=some ⟨oc r s,162,1,false⟩:=by rw[ou];exact aD gb
 obtain⟨tp,w,TT,W,i,nk,na,nx,ny,AP,Fw,ty,gp,_⟩:=hr3;have Mq:=an gp;have gp3:H3.get p=some ⟨[tp,cv i,.bool (decide (m'=0)),cv nk,cv na,cv nx,cv ny,w,cv AP,cv Fw],ty,1,false⟩:=by rw[cP (hold p Mq)];exact gp
 have YE:H3.get f=some ⟨fc proc dt op tape done r0 s0 rec laid,164,1,false⟩:=by rw[cP (hold f (by omega))];exact g1
 have L8:aq (.pointer (some ⟨p,8,none⟩)) H3=some (cv AP):=ak p 8 H3 gp3;have S37:=jM f 37 AP H3 YE rfl (by simp)
 obtain⟨H4,oV⟩: ∃z,z=H3.put f ⟨fc proc dt op tape done r0 s0 AP laid,164,1,false⟩:=⟨_,rfl⟩;have e37:(fc proc dt op tape done r0 s0 rec laid).set 37 (cv AP)=fc proc dt op tape done r0 s0 AP laid:=rfl;simp only[e37] at S37;rw[←oV] at S37;have gp4:H4.get p=some ⟨[tp,cv i,.bool (decide (m'=0)),cv nk,cv na,cv nx,cv ny,w,cv AP,cv Fw],ty,1,false⟩:=by rw[oV,aS (by omega)];exact gp3
 have SY:H4.get f=some ⟨fc proc dt op tape done r0 s0 AP laid,164,1,false⟩:=by rw[oV];exact aD YE
 have L9:aq (.pointer (some ⟨p,9,none⟩)) H4=some (cv Fw):=ak p 9 H4 gp4;have S38:=jM f 38 Fw H4 SY rfl (by simp)
 obtain⟨H5,uK⟩: ∃z,z=H4.put f ⟨fc proc dt op tape done r0 s0 AP Fw,164,1,false⟩:=⟨_,rfl⟩;have e38:(fc proc dt op tape done r0 s0 AP laid).set 38 (cv Fw)=fc proc dt op tape done r0 s0 AP Fw:=rfl;simp only[e38] at S38;rw[←uK] at S38;have gp5:H5.get p=some ⟨[tp,cv i,.bool (decide (m'=0)),cv nk,cv na,cv nx,cv ny,w,cv AP,cv Fw],ty,1,false⟩:=by rw[uK,aS (by omega)];exact gp4
 have gf5:H5.get f=some ⟨fc proc dt op tape done r0 s0 AP Fw,164,1,false⟩:=by rw[uK];exact aD SY
 have L2:aq (.pointer (some ⟨p,2,none⟩)) H5=some (.bool (decide (m'=0))):=ak p 2 H5 gp5;simp -implicitDefEqProofs only[n0,A2,L8,S37,L9,S38,L2,sS,Nat.reduceAdd]
 let o':aj:=abj o o3 H.length
 have ow: ∀i,i<H.length→o' i=o i:=λi hi=>if_pos hi
 have out: ∀{Hx:aa} {dn:Bool} {rr:dA} {ss:Value},Hx.get f=some ⟨fc proc dt op tape dn rr ss AP Fw,164,1,false⟩→(∀j,j≠f→Hx[j]? =H3[j]?)→Hx.length=H3.length→((rr=r0∧ss=s0)∨(rr=r∧ss=s))→∃o',Fr H o Hx o' [tf]∧kH Hx o' f tf tg T:=λ{Hx dn rr ss} gx hx hlx hrs=>by
  have fr:Fr H o Hx o' [tf]:=⟨λj hj hn=>by rw[hx j (by rintro rfl;exact hn (by simp[ho])),hold j (by omega)];exact ex.old j hj,ow,by omega⟩
  refine⟨o',fr,proc,dt,op,tape,dn,rr,ss,AP,Fw,gx,by rw[ow f FC];exact ho,ht.fr fr (by simp;omega),hp,?_⟩
  rcases hrs with⟨rfl,rfl⟩|⟨rfl,rfl⟩
  ·exact⟨hs.fr fr (by simp;omega),hl⟩
  ·refine⟨Qe.mv λj hj hoj=>?_,UM⟩
   have ZA:H.length≤j:=by
    rcases Nat.lt_or_ge j H.length with g|g
    ·exact absurd hoj (SX j g).1
    ·exact g
   refine⟨cP (by rw[hx j (by omega),hold j hj]),?_⟩
   show(if j<H.length then o j else if o3 j= -41 then(-41:Int) else if o3 j= -51 then -51 else -9)= -41
   rw[if_neg (by omega),if_pos hoj]
 have h53: ∀j,j≠f→H5[j]? =H3[j]? :=λj hj=>by rw[uK,db hj,oV,db hj]
 have l5:H5.length=H3.length:=by rw[uK,jd,oV,jd]
 refine Ev.br (λhq=>?_) (λhq=>?_)<;>try simp -implicitDefEqProofs only[sS,Nat.reduceAdd]
 ·have S23:=kE f 23 (.bool true) H5 gf5 rfl (by simp) rfl rfl rfl
  obtain⟨H6,Fs⟩: ∃z,z=H5.put f ⟨fc proc dt op tape true r0 s0 AP Fw,164,1,false⟩:=⟨_,rfl⟩;have e23:(fc proc dt op tape done r0 s0 AP Fw).set 23 (.bool true)=fc proc dt op tape true r0 s0 AP Fw:=rfl;simp only[e23] at S23;rw[←Fs] at S23;have gf6:H6.get f=some ⟨fc proc dt op tape true r0 s0 AP Fw,164,1,false⟩:=by rw[Fs];exact aD gf5
  have gb6:H6.get H1.length=some ⟨oc r s,162,1,false⟩:=by rw[Fs,cP (db (by omega)),cP (h53 _ (by omega))];exact gb3
  have A6:=IX H1.length r s H6 gb6;have S24:=YD f r es H6 gf6;simp -implicitDefEqProofs only[S23,A6,S24,sS,Nat.reduceAdd];exact Ev.ret (out (aD gf6) (λj hj=>by rw[db hj,Fs,db hj];exact h53 j hj) (by rw[jd,Fs,jd];exact l5) (.inr ⟨rfl,rfl⟩))
 ·exact Ev.ret (out gf5 h53 l5 (.inl ⟨rfl,rfl⟩))
end
end Go.Proofs.YtjgmnoaalbbonaaGreat.Fun
end
