/- Texts of the proof of helpPlays_holds, put together by a small program of ours (names shortened, spaces taken out). No condition beyond the given statement. -/
import Derived.Test.YtgfgglponbmgmaaGreatHPL11
import Derived.Test.YtgfgglponbmgmaaGreatHPL16
import Derived.Test.YtgfgglponbmgmaaGreatHPL31
import Derived.Test.YtgfgglponbmgmaaGreatHPL15
import Derived.Test.YtgfgglponbmgmaaGreatHPL17
set_option linter.unusedVariables false
set_option linter.unusedSimpArgs false
set_option linter.unnecessarySimpa false
noncomputable section
section
namespace Go.Proofs.YtgfgglponbmgmaaGreat.Fun.R
open Go Go.RowKit Go.Proofs.YtgfgglponbmgmaaGreatA.Am
set_option maxRecDepth 10000
section
variable {G:ae} {H H':aa} {o o':aj} {p m c:Nat} {K K':aa→aj→Prop} {t q:Int} {x:Value} {l:PL} {n i:Nat} {cs:List Value} {T:TypeId}
abbrev ac (bud:Int)(op:kp):List Value:=[cv 0,cv bud,cv 0,cv 0,cv 0,cv 0,cv 0,.bool false,cv 0,.bool false,aA,aA,aA,aA,aA,cv 0,cv 0,cv 0,cv op.kind,cv op.key,cv op.value]
abbrev oc (r:eQ)(s:Value):List Value:=[cv 0,.bool false,cv 0,cv 0,cv 0,aA,aA,cv r.Fa,.bool r.found,cv r.key,cv r.value,cv r.n,s]
abbrev fc (proc bud:Int)(op:kp)(tape:Value)(done:Bool)(r:eQ)(s:Value)(rec laid:Int):List Value:=cv proc::(ac bud op++tape:: .bool done::(oc r s++[cv rec,cv laid]))
theorem JL:aE Tryz.prog 49 []=some (.agg (oc bS aA).toArray):=by kernel_rfl
theorem uR (i:Nat)(r:eQ){s:Value}{a:Option Addr}{k c:Nat}(es:s= .slice a k c)(r0:eQ)(s0:Value){T:TypeId}(H:aa)(h:H.get i=some ⟨oc r0 s0,T,1,false⟩):bE 13 (pv i) (.agg (oc r s).toArray) H=some (undef,H.put i ⟨oc r s,T,1,false⟩):=by
 subst es;simp[bE,bZ,h,Value.cells,known,aD,dz]
theorem zB (i:Nat)(r:eQ)(s:Value){T:TypeId}(H:aa)(h:H.get i=some ⟨oc r s,T,1,false⟩):dh 13 (pv i) H=some (.agg (oc r s).toArray):=by
 simp[dh,aR,h]
theorem Qj (i:Nat)(r:eQ){s:Value}{a:Option Addr}{k c:Nat}(es:s= .slice a k c)(r0:eQ)(s0:Value){T:TypeId}(H:aa)(h:H.get i=some ⟨oc r0 s0,T,1,false⟩):bE 6 (.pointer (some ⟨i,7,none⟩)) (gz r s) H=some (undef,H.put i ⟨oc r s,T,1,false⟩):=by
 subst es;simp[bE,bZ,h,Value.cells,known,aD,dz]
theorem Qk (i:Nat)(bud:Int)(op:kp)(b0:Int)(op0:kp){T:TypeId}(H:aa)(h:H.get i=some ⟨ac b0 op0,T,1,false⟩):bE 21 (pv i) (.agg (ac bud op).toArray) H=some (undef,H.put i ⟨ac bud op,T,1,false⟩):=by
 simp[bE,bZ,h,Value.cells,known,aD,dz]
theorem Hw (f:Nat)(proc bud:Int)(op:kp)(tape:Value)(done:Bool)(r:eQ)(s:Value)(rec laid:Int){T:TypeId}(H:aa)(h:H.get f=some ⟨fc proc bud op tape done r s rec laid,T,1,false⟩):dh 21 (.pointer (some ⟨f,1,none⟩)) H=some (.agg (ac bud op).toArray):=by
 simp[dh,aR,h]
theorem Ql (i:Nat)(bud:Int)(op:kp){T:TypeId}(H:aa)(h:H.get i=some ⟨ac bud op,T,1,false⟩):dh 3 (.pointer (some ⟨i,18,none⟩)) H=some (jx op):=by
 simp[dh,aR,h]
structure KH (B:aa) (b:aj) (p i0 i1 i2:Nat) (bud:Int) (op:kp) (r2:eQ) (s2:Value) (H:aa) (o:aj):Prop where
 fr:Fr B b H o [(p:Int)]
 k0:Cl i0 (oc bS aA) 49 H o
 k1:Cl i1 (ac bud op) 41 H o
 k2:Cl i2 (oc r2 s2) 49 H o
 sl:gT H o (-41) s2 r2.list
theorem KH.fg {B:aa}{b:aj}{i0 i1 i2:Nat}{bud:Int}{op:kp}{r2:eQ}{s2:Value}:bH [(p:Int)] (KH B b p i0 i1 i2 bud op r2 s2):=λH o H' o' h f=>⟨h.fr.tr f,h.k0.fr f (by simp),h.k1.fr f (by simp),h.k2.fr f (by simp),h.sl.fr f (by simp)⟩
abbrev KB (B:aa)(b:aj)(p:Nat)(s:Value)(l:PL):aa→aj→Prop:=λH o=>Fr B b H o [(p:Int)]∧gT H o (-41) s l
theorem YV {b:aj}{f:Nat}{proc bud:Int}{op:kp}{tape:Value}{done:Bool}{r0:eQ}{s0:Value}{rec laid:Int}{T:TypeId}(hr:Av H b p m)(hM:m≤2147483648)(hf:H.get f=some ⟨fc proc bud op tape done r0 s0 rec laid,T,1,false⟩)(HA:b f≠p)(hp:proc=25):
  aF (run G) 97 [pv f,pv p] H λv H'=>∃r s m',v= .agg (oc r s).toArray∧r.list.length≤m∧J (KB H b p s r.list) p m' H':=by
 refine Ev.up (t:=λk=>F97 (run G k) k (pv f) (pv p) H) ?_ λk=>Pc ..
 obtain⟨i0,e0⟩: ∃i,i=H.length:=⟨_,rfl⟩;obtain⟨i1,e1⟩: ∃i,i=H.length+1:=⟨_,rfl⟩;obtain⟨i2,e2⟩: ∃i,i=H.length+2:=⟨_,rfl⟩;have FJ:=ar hf;obtain⟨H1,gg⟩: ∃z,z=H.new ⟨oc bS aA,49,1,false⟩:=⟨_,rfl⟩;have l1:H1.length=H.length+1:=by rw[gg,cD]
 obtain⟨H2,iJ⟩: ∃z,z=H1.new ⟨ac 0 ⟨0,0,0⟩,41,1,false⟩:=⟨_,rfl⟩;have l2:H2.length=H.length+2:=by rw[iJ,cD,l1]
 have g2:H2.get i1=some ⟨ac 0 ⟨0,0,0⟩,41,1,false⟩:=by rw[iJ,e1, ←l1];exact aL
 obtain⟨H3,mH⟩: ∃z,z=H2.put i1 ⟨ac bud op,41,1,false⟩:=⟨_,rfl⟩;have l3:H3.length=H.length+2:=by rw[mH,iR,l2]
 obtain⟨H4,pW⟩: ∃z,z=H3.new ⟨oc bS aA,49,1,false⟩:=⟨_,rfl⟩;have fK:J (λH' o=>Fr H b H' o [(p:Int)]∧Cl i0 (oc bS aA) 49 H' o) p m H1:=by
  rw[gg];have P9:J (λH' o=>Fr H b H' o [(p:Int)]) p m H:=⟨bH.base (by simp),b,hr,Fr.refl _ _ _⟩
  refine P9.nI _ _ 1 ((bH.base (by simp)).and λH o H' o' a f=>a.fr f (by simp)) λo hk f=>⟨hk.new _ _,?_⟩
  rw[e0];exact Cl.made
 have fP:J (λH' o=>(Fr H b H' o [(p:Int)]∧Cl i0 (oc bS aA) 49 H' o)∧Cl i1 (ac 0 ⟨0,0,0⟩) 41 H' o) p m H2:=by
  rw[iJ];refine fK.nI _ _ 1 (fK.1.and λH o H' o' a f=>a.fr f (by simp)) λo hk f=>⟨⟨hk.1.new _ _,hk.2.new⟩,?_⟩
  rw[e1, ←l1];exact Cl.made
 have gG:J (λH' o=>(Fr H b H' o [(p:Int)]∧Cl i0 (oc bS aA) 49 H' o)∧Cl i1 (ac bud op) 41 H' o) p m H3:=by
  rw[mH];refine fP.uj (λo hg=>hg.2) (fK.1.and λH o H' o' a f=>a.fr f (by simp)) λo hg=>⟨⟨hg.1.1.put λhh=>by omega,hg.1.2.put (by omega)⟩,hg.2.self⟩
 have jh:J (KH H b p i0 i1 i2 bud op bS aA) p m H4:=by
  rw[pW];refine gG.nI _ _ 1 KH.fg λo hk f=>⟨hk.1.1.new _ _,hk.1.2.new,hk.2.new,?_,.nil⟩
  rw[e2, ←l3];exact Cl.made
 have n0:aV H 49 1 [cv 0,.bool false,cv 0,cv 0,cv 0,aA,aA,cv 0,.bool false,cv 0,cv 0,cv 0,aA]=(pv i0,H1):=by rw[gg,e0];rfl
 have n1:aV H1 41 1 [cv 0,cv 0,cv 0,cv 0,cv 0,cv 0,cv 0,.bool false,cv 0,.bool false,aA,aA,aA,aA,aA,cv 0,cv 0,cv 0,cv 0,cv 0,cv 0]=(pv i1,H2):=by rw[iJ,e1, ←l1];rfl
 have n2:aV H3 49 1 [cv 0,.bool false,cv 0,cv 0,cv 0,aA,aA,cv 0,.bool false,cv 0,cv 0,cv 0,aA]=(pv i2,H4):=by rw[pW,e2, ←l3];rfl
 have lj: ∀{H':aa} {o':aj},Fr H b H' o' [(p:Int)]→H'.get f=some ⟨fc proc bud op tape done r0 s0 rec laid,T,1,false⟩:=λfr=>by rw[fr.same f FJ (by simpa using HA)];exact hf
 have gf1:H1.get f=some ⟨fc proc bud op tape done r0 s0 rec laid,T,1,false⟩:=by obtain⟨_,o,_,hk⟩:=fK;exact lj hk.1
 have L1:=Hw f proc bud op tape done r0 s0 rec laid H1 gf1;have S1:=Qk i1 bud op 0 ⟨0,0,0⟩ H2 g2;rw[←mH] at S1;obtain⟨_,o4,_,Nc⟩:=id jh;have S2:=uR i2 bS (s:=aA) rfl bS aA H4 Nc.k2.1;have YW:H4.put i2 ⟨oc bS aA,49,1,false⟩=H4:=by
  have hl:=ar Nc.k2.1;have hg:=Nc.k2.1;unfold aa.put;apply List.ext_getElem?;intro k;by_cases e:k=i2
  ·subst e;rw[List.getElem?_set_self hl];unfold aa.get at hg;cases hx:H4[k]? with
   |none=>rw[hx] at hg;cases hg
   |some z=>rw[hx] at hg;cases z<;>simp_all
  ·rw[List.getElem?_set_ne (Ne.symm e)]
 rw[YW] at S2;have Lp:aq (pv f) H4=some (cv proc):=an f 0 H4 (lj Nc.fr);have n9: ∀{r2:eQ} {s2:Value} {m':Nat} {H':aa},J (KH H b p i0 i1 i2 bud op r2 s2) p m' H'→aq (.pointer (some ⟨i1,18,none⟩)) H'=some (cv op.kind)∧aq (.pointer (some ⟨i1,1,none⟩)) H'=some (cv bud)∧dh 3 (.pointer (some ⟨i1,18,none⟩)) H'=some (jx op):=λhj=>by
  obtain⟨_,o,_,hg⟩:=hj;exact⟨an i1 18 _ hg.k1.1,an i1 1 _ hg.k1.1,Ql _ _ _ _ hg.k1.1⟩
 have set: ∀{m':Nat} {H':aa} (r:eQ) (s:Value),J (λH o=>KH H4 o4 p i0 i1 i2 bud op bS aA H o) p m' H'→True:=λ_ _ _=>trivial
 have fin: ∀{r2:eQ} {s2:Value} {m':Nat} {H':aa} (r:eQ) (s:Value),(∃a k c,s= .slice a k c)→J (λH' o=>KH H b p i0 i1 i2 bud op r2 s2 H' o∧gT H' o (-41) s r.list) p m' H'→∃H3,bE 6 (.pointer (some ⟨i2,7,none⟩)) (gz r s) H'=some (undef,H3)∧J (KH H b p i0 i1 i2 bud op r s) p m' H3:=λ{r2 s2 m' H'} r s vn hj=>by
  obtain⟨a,k,c,es⟩:=vn;obtain⟨_,o,u6,hg,hs⟩:=id hj;refine⟨_,Qj i2 r es r2 s2 H' hg.k2.1,hj.uj (λo hg=>hg.1.k2) KH.fg λo hg=>⟨hg.1.fr.put λhh=>by omega,hg.1.k0.put (by omega),hg.1.k1.put (by omega),hg.1.k2.self,hg.2.fr ((Fr.refl H' o [-9]).put λ_=>by simp[hg.1.k2.2]) (by simp)⟩⟩
 have J0: ∀{r2:eQ} {s2:Value} {m':Nat} {H':aa} (aS bf x5 bL cq cm de eZ fI mC:Value),(∃a k c,s2= .slice a k c)→r2.list.length≤m→J (KH H b p i0 i1 i2 bud op r2 s2) p m' H'→Ev (λk=>kA (run G k) k [pv f,pv p,pv i0,aS,bf,x5,pv i2,bL,cq,cm,de,eZ,fI,mC] H') λr=>∃rr s m',r.1= .agg (oc rr s).toArray∧rr.list.length≤m∧J (KB H b p s rr.list) p m' r.2:=by
  intro r2 s2 m' H' aS bf x5 bL cq cm de eZ fI mC vn hl hj;obtain⟨a,k,c,es⟩:=vn;obtain⟨_,o,u6,hg⟩:=id hj;have A1:=zB i2 r2 s2 H' hg.k2.1;have A2:=uR i0 r2 es bS aA H' hg.k0.1;have A3:=zB i0 r2 s2 (T:=49) _ (aG (c:=⟨oc r2 s2,49,1,false⟩) hg.k0.1);simp -implicitDefEqProofs only[ER,vQ,A1,A2,A3,sS,Nat.reduceAdd];refine Ev.ret ⟨r2,s2,m',rfl,hl,hj.uj (λo hg=>hg.k0) ((bH.base (by simp)).and (bH.kJ (by simp))) λo hg=>⟨hg.fr.put λhh=>by omega,hg.sl.fr ((Fr.refl H' o [-9]).put λ_=>by simp[hg.k0.2]) (by simp)⟩⟩
 have adu: ∀{r2:eQ} {s2:Value} {m':Nat} {H':aa} (r:eQ),r.list=[]→J (KH H b p i0 i1 i2 bud op r2 s2) p m' H'→J (λH' o=>KH H b p i0 i1 i2 bud op r2 s2 H' o∧gT H' o (-41) aA r.list) p m' H':=λr hl hj=>hj.mono (KH.fg.and (bH.kJ (by simp))) λo a=>⟨a,by rw[hl];exact .nil⟩
 have err: ∀(w:Int),∃H3,bE 6 (.pointer (some ⟨i2,7,none⟩)) (gz (lO w) aA) H4=some (undef,H3)∧J (KH H b p i0 i1 i2 bud op (lO w) aA) p m H3:=λw=>fin (lO w) aA ⟨_,_,_,rfl⟩ (adu _ rfl jh)
 obtain⟨a0,a1,a2⟩:=n9 jh;simp -implicitDefEqProofs only[F97,n0,L1,n1,S1,JL,n2,S2,Lp,Nat.add_zero,sS,Nat.reduceAdd];refine Ev.eql (λhq=>?_) (λhq=>?_)<;>try simp -implicitDefEqProofs only[sS,Nat.reduceAdd]
 ·omega
 refine Ev.eql (λhq=>?_) (λhq=>?_)<;>try simp -implicitDefEqProofs only[sS,Nat.reduceAdd]
 ·omega
 refine Ev.eql (λhq=>?_) (λhq=>?_)<;>try simp -implicitDefEqProofs only[sS,Nat.reduceAdd]
 ·omega
 refine Ev.eql (λhq=>?_) (λhq=>?_)<;>try simp -implicitDefEqProofs only[a0,Nat.add_zero,sS,Nat.reduceAdd]
 ·omega
 refine Ev.eql (λhq=>?_) (λhq=>?_)<;>try simp -implicitDefEqProofs only[a0,Nat.add_zero,sS,Nat.reduceAdd]
 ·have hqu:Ev (λk=>af (run G k 128 [pv p,jx op,cv bud] H4) λy Hy=>af (bE 6 (.pointer (some ⟨i2,7,none⟩)) y Hy) λ_ Hy=>kA (run G k) k [pv f,pv p,pv i0,cv proc,.bool false,pv i1,pv i2,.bool false,.bool false,.bool false,undef,.bool true,.bool false,.bool false] Hy) λr=>∃rr s m',r.1= .agg (oc rr s).toArray∧rr.list.length≤m∧J (KB H b p s rr.list) p m' r.2:=by
   refine Ev.call (TO jh hM op bud) ?_;rintro v H5 ⟨r,s,rfl,hl,m',hj,hm⟩;have vn: ∃a k c,s= .slice a k c:=by
    obtain⟨_,o,_,_,hs⟩:=hj;obtain⟨a,c,e⟩:=hs.isSlice;exact⟨a,_,c,e⟩
   obtain⟨H6,g6,oj⟩:=fin r s vn hj;simp -implicitDefEqProofs only[g6,sS,Nat.reduceAdd];exact J0 _ _ _ _ _ _ _ _ _ _ vn hl oj
  have er5: ∀w,Ev (λk=>af (bE 6 (.pointer (some ⟨i2,7,none⟩)) (gz (lO w) aA) H4) λ_ Hy=>some (undef,Hy)) λr=>J (KH H b p i0 i1 i2 bud op (lO w) aA) p m r.2:=λw=>by
   obtain⟨H6,g6,oj⟩:=err w;simp -implicitDefEqProofs only[g6,sS,Nat.reduceAdd];exact Ev.ret oj
  refine Ev.lss (λhq=>?_) (λhq=>?_)<;>try simp -implicitDefEqProofs only[a0,Nat.add_zero,sS,Nat.reduceAdd]
  ·obtain⟨H6,g6,oj⟩:=err 5;simp -implicitDefEqProofs only[M7,g6,sS,Nat.reduceAdd];exact J0 _ _ _ _ _ _ _ _ _ _ ⟨_,_,_,rfl⟩ (by simp[lO]) oj
  refine Ev.gtr (λhq=>?_) (λhq=>?_)<;>try simp -implicitDefEqProofs only[a1,sS,Nat.reduceAdd]
  ·obtain⟨H6,g6,oj⟩:=err 5;simp -implicitDefEqProofs only[M7,g6,sS,Nat.reduceAdd];exact J0 _ _ _ _ _ _ _ _ _ _ ⟨_,_,_,rfl⟩ (by simp[lO]) oj
  refine Ev.lss (λhq=>?_) (λhq=>?_)<;>try simp -implicitDefEqProofs only[a1,sS,Nat.reduceAdd]
  ·obtain⟨H6,g6,oj⟩:=err 2;simp -implicitDefEqProofs only[M7,g6,sS,Nat.reduceAdd];exact J0 _ _ _ _ _ _ _ _ _ _ ⟨_,_,_,rfl⟩ (by simp[lO]) oj
  refine Ev.gtr (λhq=>?_) (λhq=>?_)<;>try simp -implicitDefEqProofs only[a2,a1,sS,Nat.reduceAdd]
  ·obtain⟨H6,g6,oj⟩:=err 2;simp -implicitDefEqProofs only[M7,g6,sS,Nat.reduceAdd];exact J0 _ _ _ _ _ _ _ _ _ _ ⟨_,_,_,rfl⟩ (by simp[lO]) oj
  ·exact hqu
 ·omega
end
end Go.Proofs.YtgfgglponbmgmaaGreat.Fun.R
end
section
namespace Go.Proofs.YtgfgglponbmgmaaGreat.Fun
open Go Go.RowKit Go.Proofs.YtgfgglponbmgmaaGreatA.Am
set_option maxRecDepth 10000
section
open Go.Proofs.YtgfgglponbmgmaaGreatA
variable {G:ae} {H H':aa} {o o':aj} {mp:Nat} {K:aa→aj→Prop} {m:Y.Mm}
def lP (H:aa)(o:aj)(mp:Nat)(m:Y.Mm):Prop:=
 ∃(cr jI ref:Int) (s:Value) (ty:TypeId),H.get mp=some ⟨[cv m.max,s,cv cr,cv jI,cv ref],ty,1,false⟩∧o mp= -70∧oQ H o (-71) s m.cs∧m.cs.length≤m.max∧m.max≤65536
theorem lP.fr {ps:List Int}(h:lP H o mp m)(f:Fr H o H' o' ps)(h1:(-70:Int) ∉ ps)(h2:(-71:Int) ∉ ps):lP H' o' mp m:=by
 obtain⟨cr,jI,ref,s,ty,g,ho,hs,hl⟩:=h;exact⟨cr,jI,ref,s,ty,by rw[f.same mp (ar g) (by rw[ho];exact h1)];exact g,by rw[f.own mp (ar g)];exact ho,hs.fr f h2,hl⟩
theorem lP.look (h:lP H o mp m):qp H mp m:=by
 obtain⟨cr,jI,ref,s,ty,g,ho,hs,hl⟩:=h;exact⟨_,_,_,_,s,ty,g,hs.ints.1⟩
theorem lP.Aw (h:lP H o mp m):m.cs.length≤65536∧m.cs.length≤m.max∧m.max≤65536:=by
 obtain⟨_,_,_,_,_,_,_,_,h1,h2⟩:=h;exact⟨by omega,h1,h2⟩
def JM (K:aa→aj→Prop)(mp:Nat)(m:Y.Mm)(H:aa):Prop:=bH [-70, -71] K∧∃o,lP H o mp m∧K H o
theorem JM.Aw (h:JM K mp m H):m.cs.length≤65536:=by
 obtain⟨_,o,hm,_⟩:=h;exact hm.Aw.1
theorem JM.num (h:JM K mp m H): ∃cr jI ref s ty,H.get mp=some ⟨[cv m.max,s,cv cr,cv jI,cv ref],ty,1,false⟩∧cE s=some (cv m.cs.length)∧∀eS qP qQ,JM K mp m (H.put mp ⟨[cv m.max,s,cv eS,cv qP,cv qQ],ty,1,false⟩):=by
 obtain⟨hK,o,⟨cr,jI,ref,s,ty,g,ho,hs,hl⟩,hk⟩:=h;refine⟨cr,jI,ref,s,ty,g,hs.ints.1.len,λeS qP qQ=>⟨hK,o,⟨eS,qP,qQ,s,ty,aG g,ho,?_,hl⟩,hK _ _ _ _ hk ?_⟩⟩
 ·exact hs.fr ((Fr.refl H o [-70]).put λ_=>by simp[ho]) (by simp)
 ·exact((Fr.refl H o [-70]).put λ_=>by simp[ho]).wk (by simp)
theorem abx (h:JM K mp m H)(a:Int):aF (run G) 90 [pv mp,cv a] H λv H'=>v= .bool (decide (m.used a))∧JM K mp m H':=by
 refine Ev.up (t:=λk=>F90 (run G k) k (pv mp) (cv a) H) ?_ λk=>XC ..
 obtain⟨cr,jI,ref,s,ty,g,hl,hj⟩:=h.num;obtain⟨H1,e1⟩: ∃z,z=H.put mp ⟨[cv m.max,s,cv (IntKind.i64.wrap (cr+1)),cv jI,cv ref],ty,1,false⟩:=⟨_,rfl⟩;have fK:=hj (IntKind.i64.wrap (cr+1)) jI ref;rw[←e1] at fK;have g1:H1.get mp=some ⟨[cv m.max,s,cv (IntKind.i64.wrap (cr+1)),cv jI,cv ref],ty,1,false⟩:=by rw[e1];exact aG g
 have L2:aq (.pointer (some ⟨mp,2,none⟩)) H=some (cv cr):=an mp 2 H g;have S2:=gY mp 2 (IntKind.i64.wrap (cr+1)) H g rfl (by simp)
 simp only[List.set_cons_succ,List.set_cons_zero] at S2;rw[←e1] at S2;have M1:aq (.pointer (some ⟨mp,1,none⟩)) H1=some s:=an mp 1 H1 g1;have M3:aq (.pointer (some ⟨mp,3,none⟩)) H1=some (cv jI):=an mp 3 H1 g1;have S3:=gY mp 3 (IntKind.i64.wrap (jI+1)) H1 g1 rfl (by simp)
 simp only[List.set_cons_succ,List.set_cons_zero] at S3;have fP:JM K mp m (H1.put mp ⟨[cv m.max,s,cv (IntKind.i64.wrap (cr+1)),cv (IntKind.i64.wrap (jI+1)),cv ref],ty,1,false⟩):=by
  obtain⟨c2,o2,r2,s2,mV,g2,_,fP⟩:=fK.num;rw[g1] at g2;cases g2;exact fP _ _ _
 simp -implicitDefEqProofs only[F90,L2,S2,sS,Nat.reduceAdd];refine Ev.lss (λhq=>?_) (λhq=>?_)<;>try simp -implicitDefEqProofs only[M1,hl,M3,S3,sS,Nat.reduceAdd]
 ·exact Ev.ret ⟨by rw[decide_eq_false (by unfold Y.Mm.used;omega)],fP⟩
 refine Ev.gtr (λhq=>?_) (λhq=>?_)<;>try simp -implicitDefEqProofs only[M3,S3,sS,Nat.reduceAdd]
 ·exact Ev.ret ⟨by rw[decide_eq_false (by unfold Y.Mm.used;omega)],fP⟩
 ·exact Ev.ret ⟨by rw[decide_eq_true (by unfold Y.Mm.used;omega)],fK⟩
theorem JM.cell (h:JM K mp m H){a:Int}(ha:m.used a): ∃s q j,aq (.pointer (some ⟨mp,1,none⟩)) H=some s∧(∀H',cK 1 s (cv (a-1)) H'=some (.pointer (some ⟨q,j,none⟩),H'))∧aq (.pointer (some ⟨q,j,none⟩)) H=some (cv (m.at a))∧
  ∀x:Int,∃H',bE 1 (.pointer (some ⟨q,j,none⟩)) (cv x) H=some (undef,H')∧JM K mp (m.set a x) H':=by
 obtain⟨hK,o,⟨cr,jI,ref,s,ty,g,ho,hs,hl⟩,hk⟩:=h;have ha':=ha;unfold Y.Mm.used at ha';obtain⟨j,hj⟩: ∃j:Nat,a-1=j:=⟨(a-1).toNat,by omega⟩
 have AK:j<m.cs.length:=by omega
 have ej:(a-1).toNat=j:=by omega
 obtain⟨q,b,c,h1,h2,h3,h4,h5,_⟩:=hs.set AK 0;rw[hj];refine⟨s,q,j,an mp 1 H g,h1,?_,λx=>?_⟩
 ·rw[an q j H h2,h5];unfold Y.Mm.at;rw[if_pos ha,ej]
 obtain⟨q',b',c',k1,k2,k3,k4,k5,k6,k7,k8⟩:=hs.set AK x;have eq:q'=q:=by
  have a1:=k1 [];have a2:=h1 [];rw[a1] at a2;simpa using a2
 subst eq;have f:Fr H o (H.put q' c') o [-71]:=(Fr.refl H o [-71]).put λ_=>by simp[k4]
 have em:m.set a x=⟨m.cs.set j x,m.max⟩:=by unfold Y.Mm.set;rw[if_pos ha,ej]
 rw[em];refine⟨_,k7,⟨hK,o,⟨cr,jI,ref,s,ty,?_,ho,k8,by simpa using hl⟩,hK _ _ _ _ hk (f.wk (by simp))⟩⟩
 rw[bt (by rintro rfl;rw[ho] at k4;omega)];exact g
section
variable {α:Type} {k:Nat→Value→aa→Option α} {Q:α→Prop}
theorem Ev.has (h:JM K mp m H){a:Int}(h1:m.used a→∀H',JM K mp m H'→Ev (λn=>k n (.bool true) H') Q)(h2: ¬m.used a→∀H',JM K mp m H'→Ev (λn=>k n (.bool false) H') Q):Ev (λn=>af (run G n 90 [pv mp,cv a] H) (k n)) Q:=
 Ev.call (abx h a) λv H' hq=>by
  obtain⟨rfl,hj⟩:=hq;by_cases e:m.used a
  ·have:decide (m.used a)=true:=by simpa using e
   rw[this];exact h1 e H' hj
  ·have:decide (m.used a)=false:=by simpa using e
   rw[this];exact h2 e H' hj
end
theorem Fu {a:Int}(h:m.used a)(hl:m.cs.length≤65536):IntKind.i64.wrap (a-1)=a-1:=ga (by unfold Y.Mm.used at h;omega)
theorem JN {a:Int}(h: ¬m.used a):m.at a=0:=by unfold Y.Mm.at;rw[if_neg h]
theorem JO (h:JM K mp m H)(a:Int):aF (run G) 98 [pv mp,cv a] H λv H'=>v=cv (m.at a)∧JM K mp m H':=by
 refine Ev.up (t:=λk=>F98 (run G k) k (pv mp) (cv a) H) ?_ λk=>WA ..
 simp -implicitDefEqProofs only[F98,sS,Nat.reduceAdd];refine Ev.has h (λha H1 hj=>?_) (λha H1 hj=>?_)<;>try simp -implicitDefEqProofs only[sS,Nat.reduceAdd]
 ·obtain⟨s,q,j,e1,e2,e3,e4⟩:=hj.cell ha;simp -implicitDefEqProofs only[e1,Fu ha hj.Aw,e2,e3,sS,Nat.reduceAdd];exact Ev.ret ⟨rfl,hj⟩
 ·exact Ev.ret ⟨by rw[JN ha],hj⟩
theorem zC (h:JM K mp m H)(a x:Int):aF (run G) 61 [pv mp,cv a,cv x] H λv H'=>JM K mp (m.set a x) H':=by
 refine Ev.up (t:=λk=>F61 (run G k) k (pv mp) (cv a) (cv x) H) ?_ λk=>X4 ..
 simp -implicitDefEqProofs only[F61,sS,Nat.reduceAdd];refine Ev.has h (λha H1 hj=>?_) (λha H1 hj=>?_)<;>try simp -implicitDefEqProofs only[sS,Nat.reduceAdd]
 ·obtain⟨s,q,j,e1,e2,e3,e4⟩:=hj.cell ha;obtain⟨H2,e5,fP⟩:=e4 x;simp -implicitDefEqProofs only[e1,Fu ha hj.Aw,e2,e5,sS,Nat.reduceAdd];exact Ev.ret fP
 ·refine Ev.ret ?_;have:m.set a x=m:=by unfold Y.Mm.set;rw[if_neg ha]
  show JM K mp (m.set a x) H1
  rw[this];exact hj
theorem Qm (h:JM K mp m H)(a x y:Int):aF (run G) 60 [pv mp,cv a,cv x,cv y] H λv H'=>v= .bool (decide ((Y.db m (.cs a x y)).1=1))∧JM K mp (Y.db m (.cs a x y)).2 H':=by
 refine Ev.up (t:=λk=>F60 (run G k) k (pv mp) (cv a) (cv x) (cv y) H) ?_ λk=>XN ..
 simp -implicitDefEqProofs only[F60,sS,Nat.reduceAdd];refine Ev.has h (λha H1 hj=>?_) (λha H1 hj=>?_)<;>try simp -implicitDefEqProofs only[sS,Nat.reduceAdd]
 ·obtain⟨s,q,j,e1,e2,e3,e4⟩:=hj.cell ha;obtain⟨H2,e5,fP⟩:=e4 y;simp -implicitDefEqProofs only[e1,Fu ha hj.Aw,e2,e3,sS,Nat.reduceAdd];refine Ev.neq (λhq=>?_) (λhq=>?_)<;>try simp -implicitDefEqProofs only[e1,Fu ha hj.Aw,e2,e5,sS,Nat.reduceAdd]
  ·refine Ev.ret ?_;have:Y.db m (.cs a x y)=(0,m):=by simp only[Y.db];rw[if_neg (λh=>hq h.2)]
   rw[this];exact⟨rfl,hj⟩
  ·refine Ev.ret ?_;have:Y.db m (.cs a x y)=(1,m.set a y):=by simp only[Y.db];rw[if_pos ⟨ha,hq⟩]
   rw[this];exact⟨rfl,fP⟩
 ·refine Ev.ret ?_;have:Y.db m (.cs a x y)=(0,m):=by simp only[Y.db];rw[if_neg (λh=>ha h.1)]
  rw[this];exact⟨rfl,hj⟩
theorem YX (h:JM K mp m H)(a x:Int):aF (run G) 99 [pv mp,cv a,cv x] H λv H'=>v=cv (Y.db m (.ad a x)).1∧JM K mp (Y.db m (.ad a x)).2 H':=by
 refine Ev.up (t:=λk=>F99 (run G k) k (pv mp) (cv a) (cv x) H) ?_ λk=>XW ..
 simp -implicitDefEqProofs only[F99,sS,Nat.reduceAdd];refine Ev.has h (λha H1 hj=>?_) (λha H1 hj=>?_)<;>try simp -implicitDefEqProofs only[sS,Nat.reduceAdd]
 ·obtain⟨s,q,j,e1,e2,e3,e4⟩:=hj.cell ha;obtain⟨H2,e5,fP⟩:=e4 (IntKind.i64.wrap (m.at a+x));simp -implicitDefEqProofs only[e1,Fu ha hj.Aw,e2,e3,e5,sS,Nat.reduceAdd];refine Ev.ret ?_;have:Y.db m (.ad a x)=(m.at a,m.set a (Y.wr (m.at a+x))):=by simp only[Y.db];rw[if_pos ha]
  rw[this, ←cP];exact⟨rfl,fP⟩
 ·refine Ev.ret ?_;have:Y.db m (.ad a x)=(0,m):=by simp only[Y.db];rw[if_neg ha]
  rw[this];exact⟨rfl,hj⟩
theorem JQ (h:JM K mp m H){w:Value}{lw:List Int}(hw:eO H w lw)(YY:lw≠[]→∀a n c,w= .slice (some a) n c→a.block≠mp):aF (run G) 35 [pv mp,w] H λv H'=>v= .tuple #[cv (Y.db m (.mk lw)).1,.bool (decide ((Y.db m (.mk lw)).1>0))]∧JM K mp (Y.db m (.mk lw)).2 H':=by
 refine Ev.up (t:=λk=>F35 (run G k) k (pv mp) w H) ?_ λk=>XL ..
 obtain⟨cr,jI,ref,s,ty,g,hl,hj⟩:=h.num;obtain⟨H1,e1⟩: ∃z,z=H.put mp ⟨[cv m.max,s,cv (IntKind.i64.wrap (cr+1)),cv jI,cv ref],ty,1,false⟩:=⟨_,rfl⟩;have fK:=hj (IntKind.i64.wrap (cr+1)) jI ref;rw[←e1] at fK;have g1:H1.get mp=some ⟨[cv m.max,s,cv (IntKind.i64.wrap (cr+1)),cv jI,cv ref],ty,1,false⟩:=by rw[e1];exact aG g
 have L2:aq (.pointer (some ⟨mp,2,none⟩)) H=some (cv cr):=an mp 2 H g;have S2:=gY mp 2 (IntKind.i64.wrap (cr+1)) H g rfl (by simp)
 simp only[List.set_cons_succ,List.set_cons_zero] at S2;rw[←e1] at S2;have M0:aq (pv mp) H1=some (cv m.max):=an mp 0 H1 g1;have M1:aq (.pointer (some ⟨mp,1,none⟩)) H1=some s:=an mp 1 H1 g1;have M4:aq (.pointer (some ⟨mp,4,none⟩)) H1=some (cv ref):=an mp 4 H1 g1;have S4:=gY mp 4 (IntKind.i64.wrap (ref+1)) H1 g1 rfl (by simp)
 simp only[List.set_cons_succ,List.set_cons_zero] at S4;have fP:JM K mp m (H1.put mp ⟨[cv m.max,s,cv (IntKind.i64.wrap (cr+1)),cv jI,cv (IntKind.i64.wrap (ref+1))],ty,1,false⟩):=by
  obtain⟨c2,o2,r2,s2,mV,g2,_,fP⟩:=fK.num;rw[g1] at g2;cases g2;exact fP _ _ _
 have BU:eO H1 w lw:=by
  refine hw.keep λi b e dC=>?_
  rw[e1,bt (YY dC b _ _ e)]
 have TQ:=h.Aw;obtain⟨hK,o,⟨eS,qP,qQ,s',Bg,g',ho,hs,NF⟩,hk⟩:=id fK;rw[g1] at g';obtain⟨rfl,rfl,rfl,rfl,rfl⟩:s'=s∧eS=IntKind.i64.wrap (cr+1)∧qP=jI∧qQ=ref∧Bg=ty:=by
  injection g' with g';injection g' with a b c d;injection a with a1 a2;injection a2 with a3 a4;injection a4 with a5 a6;injection a6 with a7 a8;injection a8 with a9 a10;injection a5 with _ a5;injection a7 with _ a7;injection a9 with _ a9;exact⟨a3.symm,a5.symm,a7.symm,a9.symm,b.symm⟩
 simp -implicitDefEqProofs only[F35,L2,S2,hw.len,sS,Nat.reduceAdd];refine Ev.eql (λhq=>?_) (λhq=>?_)<;>try simp -implicitDefEqProofs only[hw.len,M0,M1,M4,S4,hl,sS,Nat.reduceAdd]
 ·refine Ev.ret ?_;have:Y.db m (.mk lw)=(0,m):=by simp only[Y.db];rw[if_pos (.inl (List.length_eq_zero_iff.1 (by omega)))]
  rw[this];exact⟨rfl,fP⟩
 have hw9:IntKind.i64.wrap (m.max-m.cs.length)=m.max-m.cs.length:=ga (by omega)
 simp -implicitDefEqProofs only[hw9,sS,Nat.reduceAdd];refine Ev.gtr (λkn=>?_) (λkn=>?_)<;>try simp -implicitDefEqProofs only[M0,M1,M4,S4,hl,sS,Nat.reduceAdd]
 ·refine Ev.ret ?_;have:Y.db m (.mk lw)=(0,m):=by simp only[Y.db];rw[if_pos (.inr (by omega))]
  rw[this];exact⟨rfl,fP⟩
 have hmk:Y.db m (.mk lw)=((m.cs.length:Int)+1,⟨m.cs++lw,m.max⟩):=by
  simp only[Y.db];rw[if_neg (by
   rintro(h|h)
   ·subst h;simp at hq
   ·omega)]
 obtain⟨x',H2,o2,a2,s2,f2,k2⟩:=kg 2 hs BU (by omega)
 have g2:H2.get mp=some ⟨[cv m.max,s',cv (IntKind.i64.wrap (cr+1)),cv qP,cv qQ],Bg,1,false⟩:=by rw[f2.same mp (ar g1) (by rw[ho];simp)];exact g1
 have DC:o2 mp= -70:=by rw[f2.own mp (ar g1)];exact ho
 obtain⟨ba,bc,ex⟩:=s2.isSlice;have S1:=G8 mp 1 ba (m.cs++lw).length bc H2 g2 rfl (by simp)
 rw[←ex] at S1;simp only[List.set_cons_succ,List.set_cons_zero] at S1;have hwa:IntKind.i64.wrap ((m.cs.length:Int)+1)=(m.cs.length:Int)+1:=ga (by omega)
 simp -implicitDefEqProofs only[a2,S1,hwa,sS,Nat.reduceAdd];have f3:Fr H2 o2 (H2.put mp ⟨[cv m.max,x',cv (IntKind.i64.wrap (cr+1)),cv qP,cv qQ],Bg,1,false⟩) o2 [-70]:=(Fr.refl H2 o2 [-70]).put λ_=>by simp[DC]
 refine Ev.ret ?_;rw[hmk];refine⟨?_,hK,o2,⟨_,_,_,x',Bg,aG g2,DC,s2.fr f3 (by simp),by simp;omega,NF.2⟩,hK _ _ _ _ hk (f2.trans f3 (by simp) (by simp))⟩
 have:decide ((m.cs.length:Int)+1>0)=true:=decide_eq_true (by omega)
 simp only[this]
theorem adv (h:JM K mp m H){q:Y.Ask}{k a y z:Int}{w:Value}{lw:List Int}(hq:JA q k a y z lw)(hw:eO H w lw)(YY:lw≠[]→∀a n c,w= .slice (some a) n c→a.block≠mp):aF (run G) 71 [pv mp,nA k a y z w] H λv H'=>v=cv (Y.db m q).1∧JM K mp (Y.db m q).2 H':=by
 refine Ev.up (t:=λn=>F71 (run G n) n (pv mp) (nA k a y z w) H) ?_ λn=>Pl ..
 obtain⟨wb,wc,ew⟩:=hw.isSlice;obtain⟨H1,e1⟩: ∃z',z'=H.new ⟨[cv k,cv a,cv y,cv z,w],112,1,false⟩:=⟨_,rfl⟩;have bx:=C4 k a y z (b:=wb) (n:=lw.length) (c:=wc) H;rw[←ew, ←e1] at bx;have fK:JM K mp m H1:=by
  obtain⟨hK,o,hm,hk⟩:=h;have f:Fr H o H1 (o.up H.length (-9)) []:=by rw[e1];exact(Fr.refl H o []).new _ _
  exact⟨hK,_,hm.fr f (by simp) (by simp),hK _ _ _ _ hk (f.wk (by simp))⟩
 have g1:H1.get H.length=some ⟨[cv k,cv a,cv y,cv z,w],112,1,false⟩:=by rw[e1];exact aL
 have L0:aq (pv H.length) H1=some (cv k):=an H.length 0 H1 g1;have L1:aq (.pointer (some ⟨H.length,1,none⟩)) H1=some (cv a):=an H.length 1 H1 g1;have L2:aq (.pointer (some ⟨H.length,2,none⟩)) H1=some (cv y):=an H.length 2 H1 g1;have L3:aq (.pointer (some ⟨H.length,3,none⟩)) H1=some (cv z):=an H.length 3 H1 g1;have L4:aq (.pointer (some ⟨H.length,4,none⟩)) H1=some w:=an H.length 4 H1 g1;have BU:eO H1 w lw:=by rw[e1];exact Dm hw _
 have J0: ∀{H2:aa} {m':Y.Mm} (x4 x3 x8 x9 aS bL bN cu cM x5:Value),JM K mp m' H2→Ev (λn=>yA (run G n) n [pv mp,nA k a y z w,x4,x3,x8,x9,aS,bL,bN,cu,cM,x5] H2) λr=>r.1=cv 0∧JM K mp m' r.2:=by
  intro H2 m' x4 x3 x8 x9 aS bL bN cu cM x5 hj;simp -implicitDefEqProofs only[ES,vS,sS,Nat.reduceAdd];exact Ev.ret ⟨rfl,hj⟩
 simp -implicitDefEqProofs only[F71,bx,L0,Nat.add_zero,sS,Nat.reduceAdd];cases q with
 |rd a'=>
  obtain⟨rfl,rfl⟩:=hq;refine Ev.eql (λ_=>?_) (λh=>absurd rfl h)
  try simp -implicitDefEqProofs only[L1,L2,L3,L4,sS,Nat.reduceAdd]
  refine Ev.call (JO fK a) ?_;rintro v H2 ⟨rfl,hj⟩;exact Ev.ret ⟨rfl,hj⟩
 |wr a' x'=>
  obtain⟨rfl,rfl,rfl⟩:=hq;refine Ev.eql (λh=>absurd h (by decide)) (λ_=>?_)
  try simp -implicitDefEqProofs only[sS,Nat.reduceAdd]
  refine Ev.eql (λ_=>?_) (λh=>absurd rfl h)
  try simp -implicitDefEqProofs only[L1,L2,L3,L4,sS,Nat.reduceAdd]
  refine Ev.call (zC fK a y) ?_;rintro v H2 hj;exact J0 _ _ _ _ _ _ _ _ _ _ hj
 |cs a' x' y'=>
  obtain⟨rfl,rfl,rfl,rfl⟩:=hq;refine Ev.eql (λh=>absurd h (by decide)) (λ_=>?_)
  try simp -implicitDefEqProofs only[sS,Nat.reduceAdd]
  refine Ev.eql (λh=>absurd h (by decide)) (λ_=>?_)
  try simp -implicitDefEqProofs only[sS,Nat.reduceAdd]
  refine Ev.eql (λ_=>?_) (λh=>absurd rfl h)
  try simp -implicitDefEqProofs only[L1,L2,L3,L4,sS,Nat.reduceAdd]
  refine Ev.call (Qm fK a y z) ?_;rintro v H2 ⟨rfl,hj⟩;by_cases e:(Y.db m (.cs a y z)).1=1
  ·have:decide ((Y.db m (.cs a y z)).1=1)=true:=by simpa using e
   simp -implicitDefEqProofs only[this,sS,Nat.reduceAdd];exact Ev.ret ⟨by rw[e],hj⟩
  ·have:decide ((Y.db m (.cs a y z)).1=1)=false:=by simpa using e
   simp -implicitDefEqProofs only[this,sS,Nat.reduceAdd];have e0:(Y.db m (.cs a y z)).1=0:=by
    revert e;simp only[Y.db];split<;>simp
   rw[e0];exact J0 _ _ _ _ _ _ _ _ _ _ hj
 |ad a' x'=>
  obtain⟨rfl,rfl,rfl⟩:=hq;refine Ev.eql (λh=>absurd h (by decide)) (λ_=>?_)
  try simp -implicitDefEqProofs only[sS,Nat.reduceAdd]
  refine Ev.eql (λh=>absurd h (by decide)) (λ_=>?_)
  try simp -implicitDefEqProofs only[sS,Nat.reduceAdd]
  refine Ev.eql (λh=>absurd h (by decide)) (λ_=>?_)
  try simp -implicitDefEqProofs only[sS,Nat.reduceAdd]
  refine Ev.eql (λ_=>?_) (λh=>absurd rfl h)
  try simp -implicitDefEqProofs only[L1,L2,L3,L4,sS,Nat.reduceAdd]
  refine Ev.call (YX fK a y) ?_;rintro v H2 ⟨rfl,hj⟩;exact Ev.ret ⟨rfl,hj⟩
 |mk w'=>
  obtain⟨rfl,rfl⟩:=hq;refine Ev.eql (λh=>absurd h (by decide)) (λ_=>?_)
  try simp -implicitDefEqProofs only[sS,Nat.reduceAdd]
  refine Ev.eql (λh=>absurd h (by decide)) (λ_=>?_)
  try simp -implicitDefEqProofs only[sS,Nat.reduceAdd]
  refine Ev.eql (λh=>absurd h (by decide)) (λ_=>?_)
  try simp -implicitDefEqProofs only[sS,Nat.reduceAdd]
  refine Ev.eql (λh=>absurd h (by decide)) (λ_=>?_)
  try simp -implicitDefEqProofs only[sS,Nat.reduceAdd]
  refine Ev.eql (λ_=>?_) (λh=>absurd rfl h)
  try simp -implicitDefEqProofs only[L1,L2,L3,L4,sS,Nat.reduceAdd]
  refine Ev.call (JQ fK BU YY) ?_;rintro v H2 ⟨rfl,hj⟩
  try simp -implicitDefEqProofs only[sS,Nat.reduceAdd]
  exact Ev.ret ⟨rfl,hj⟩
theorem adw (h:JM K mp m H){k:Int}(hk:k=0∨k=1)(a y z:Int){w:Value}{lw:List Int}(hw:eO H w lw):aF (run G) 71 [pv mp,nA k a y z w] H λv H'=>(∃u,v=cv u)∧JM K mp m H':=by
 refine Ev.up (t:=λn=>F71 (run G n) n (pv mp) (nA k a y z w) H) ?_ λn=>Pl ..
 obtain⟨wb,wc,ew⟩:=hw.isSlice;obtain⟨H1,e1⟩: ∃z',z'=H.new ⟨[cv k,cv a,cv y,cv z,w],112,1,false⟩:=⟨_,rfl⟩;have bx:=C4 k a y z (b:=wb) (n:=lw.length) (c:=wc) H;rw[←ew, ←e1] at bx;have fK:JM K mp m H1:=by
  obtain⟨hK,o,hm,hk⟩:=h;have f:Fr H o H1 (o.up H.length (-9)) []:=by rw[e1];exact(Fr.refl H o []).new _ _
  exact⟨hK,_,hm.fr f (by simp) (by simp),hK _ _ _ _ hk (f.wk (by simp))⟩
 have g1:H1.get H.length=some ⟨[cv k,cv a,cv y,cv z,w],112,1,false⟩:=by rw[e1];exact aL
 have L0:aq (pv H.length) H1=some (cv k):=an H.length 0 H1 g1;have L1:aq (.pointer (some ⟨H.length,1,none⟩)) H1=some (cv a):=an H.length 1 H1 g1;simp -implicitDefEqProofs only[F71,bx,L0,Nat.add_zero,sS,Nat.reduceAdd];refine Ev.eql (λhq=>?_) (λhq=>?_)<;>try simp -implicitDefEqProofs only[L1,sS,Nat.reduceAdd]
 ·refine Ev.call (JO fK a) ?_;rintro v H2 ⟨rfl,hj⟩;exact Ev.ret ⟨⟨_,rfl⟩,hj⟩
 refine Ev.eql (λhq=>?_) (λhq=>?_)<;>try simp -implicitDefEqProofs only[sS,Nat.reduceAdd]
 ·omega
 refine Ev.eql (λhq=>?_) (λhq=>?_)<;>try simp -implicitDefEqProofs only[sS,Nat.reduceAdd]
 ·omega
 refine Ev.eql (λhq=>?_) (λhq=>?_)<;>try simp -implicitDefEqProofs only[sS,Nat.reduceAdd]
 ·omega
 refine Ev.eql (λhq=>?_) (λhq=>?_)<;>try simp -implicitDefEqProofs only[sS,Nat.reduceAdd]
 ·omega
 simp -implicitDefEqProofs only[ES,vS,sS,Nat.reduceAdd];exact Ev.ret ⟨⟨_,rfl⟩,fK⟩
end
section
open Go.Proofs.YtgfgglponbmgmaaGreatA
variable {G:ae} {H H':aa} {o o':aj} {p m c f n i:Nat} {K K':aa→aj→Prop} {q:Int} {x:Value} {l:PL} {cs:List Value} {T:TypeId} {st:Y.St}
structure eE where
 word:Int
 num:Int
 res:eQ
abbrev fV:eE:=⟨0,0,bS⟩
abbrev ax (a b p q:Int)(op:kp):List Value:=[cv a,cv b,cv 0,cv p,cv q,cv 0,cv 0,.bool false,cv 0,.bool false,aA,aA,aA,aA,aA,cv 0,cv 0,cv 0,cv op.kind,cv op.key,cv op.value]
abbrev oc (r:eE)(s:Value):List Value:=[cv r.word,.bool false,cv r.num,cv 0,cv 0,aA,aA,cv r.res.Fa,.bool r.res.found,cv r.res.key,cv r.res.value,cv r.res.n,s]
abbrev fc (proc a b p q:Int)(op:kp)(tape:Value)(done:Bool)(r:eE)(s:Value)(rec laid:Int):List Value:=cv proc::(ax a b p q op++tape:: .bool done::(oc r s++[cv rec,cv laid]))
variable {proc a b' pp qq rec laid:Int} {op:kp} {tape s0:Value} {done:Bool} {r0:eE}
theorem JL:aE Tryz.prog 49 []=some (.agg (oc fV aA).toArray):=by kernel_rfl
theorem uR (i:Nat)(r:eE){s:Value}{a:Option Addr}{k c:Nat}(es:s= .slice a k c)(r0:eE)(s0:Value){T:TypeId}(H:aa)(h:H.get i=some ⟨oc r0 s0,T,1,false⟩):bE 13 (pv i) (.agg (oc r s).toArray) H=some (undef,H.put i ⟨oc r s,T,1,false⟩):=by
 subst es;simp[bE,bZ,h,Value.cells,known,aD,dz]
theorem zB (i:Nat)(r:eE)(s:Value){T:TypeId}(H:aa)(h:H.get i=some ⟨oc r s,T,1,false⟩):dh 13 (pv i) H=some (.agg (oc r s).toArray):=by
 simp[dh,aR,h]
theorem Qj (i:Nat)(r:eQ){s:Value}{a:Option Addr}{k c:Nat}(es:s= .slice a k c)(r0:eE)(s0:Value){T:TypeId}(H:aa)(h:H.get i=some ⟨oc r0 s0,T,1,false⟩):bE 6 (.pointer (some ⟨i,7,none⟩)) (gz r s) H=some (undef,H.put i ⟨oc {r0 with res:=r} s,T,1,false⟩):=by
 subst es;simp[bE,bZ,h,Value.cells,known,aD,dz]
theorem Qk (i:Nat)(a b p q:Int)(op:kp)(a0 b0 p0 q0:Int)(op0:kp){T:TypeId}(H:aa)(h:H.get i=some ⟨ax a0 b0 p0 q0 op0,T,1,false⟩):bE 21 (pv i) (.agg (ax a b p q op).toArray) H=some (undef,H.put i ⟨ax a b p q op,T,1,false⟩):=by
 simp[bE,bZ,h,Value.cells,known,aD,dz]
theorem Hw (f:Nat)(H:aa)(h:H.get f=some ⟨fc proc a b' pp qq op tape done r0 s0 rec laid,T,1,false⟩):dh 21 (.pointer (some ⟨f,1,none⟩)) H=some (.agg (ax a b' pp qq op).toArray):=by
 simp[dh,aR,h]
theorem Ql (i:Nat)(H:aa)(h:H.get i=some ⟨ax a b' pp qq op,T,1,false⟩):dh 3 (.pointer (some ⟨i,18,none⟩)) H=some (jx op):=by
 simp[dh,aR,h]
structure KH (B:aa) (b:aj) (p i0 i1 i2:Nat) (xs:List Value) (r2:eE) (H:aa) (o:aj):Prop where
 fr:Fr B b H o [(p:Int)]
 k0:Cl i0 (oc fV aA) 49 H o
 k1:Cl i1 xs 41 H o
 k2:Cl i2 (oc r2 aA) 49 H o
 od:B.length≤i0∧i0<i1∧i1<i2
section
variable {B:aa} {b:aj} {i0 i1 i2:Nat} {xs:List Value} {r2:eE}
theorem KH.fg:bH [(p:Int)] (KH B b p i0 i1 i2 xs r2):=λH o H' o' h f=>⟨h.fr.tr f,h.k0.fr f (by simp),h.k1.fr f (by simp),h.k2.fr f (by simp),h.od⟩
abbrev KB0 (B:aa)(b:aj)(p:Nat):aa→aj→Prop:=λH o=>Fr B b H o [(p:Int)]
structure Pre (H:aa) (b:aj) (p f i0 i1 i2:Nat) (proc a b' pp qq:Int) (op:kp) (st:Y.St) (H1 H2 H3 H4:aa):Prop where
 n0:aV H 49 1 [cv 0,.bool false,cv 0,cv 0,cv 0,aA,aA,cv 0,.bool false,cv 0,cv 0,cv 0,aA]=(pv i0,H1)
 l1:dh 21 (.pointer (some ⟨f,1,none⟩)) H1=some (.agg (ax a b' pp qq op).toArray)
 n1:aV H1 41 1 [cv 0,cv 0,cv 0,cv 0,cv 0,cv 0,cv 0,.bool false,cv 0,.bool false,aA,aA,aA,aA,aA,cv 0,cv 0,cv 0,cv 0,cv 0,cv 0]=(pv i1,H2)
 s1:bE 21 (pv i1) (.agg (ax a b' pp qq op).toArray) H2=some (undef,H3)
 n2:aV H3 49 1 [cv 0,.bool false,cv 0,cv 0,cv 0,aA,aA,cv 0,.bool false,cv 0,cv 0,cv 0,aA]=(pv i2,H4)
 s2:bE 13 (pv i2) (.agg (oc fV aA).toArray) H4=some (undef,H4)
 lp:aq (pv f) H4=some (cv proc)
 j4:JX (KH H b p i0 i1 i2 (ax a b' pp qq op) fV) p st H4
theorem Qn (hr:zg H b p st)(hf:H.get f=some ⟨fc proc a b' pp qq op tape done r0 s0 rec laid,T,1,false⟩)(HA:b f≠p): ∃i0 i1 i2 H1 H2 H3 H4,Pre H b p f i0 i1 i2 proc a b' pp qq op st H1 H2 H3 H4:=by
 obtain⟨i0,e0⟩: ∃i,i=H.length:=⟨_,rfl⟩;obtain⟨i1,e1⟩: ∃i,i=H.length+1:=⟨_,rfl⟩;obtain⟨i2,e2⟩: ∃i,i=H.length+2:=⟨_,rfl⟩;have FJ:=ar hf;obtain⟨H1,gg⟩: ∃z,z=H.new ⟨oc fV aA,49,1,false⟩:=⟨_,rfl⟩;have l1:H1.length=H.length+1:=by rw[gg,cD]
 obtain⟨H2,iJ⟩: ∃z,z=H1.new ⟨ax 0 0 0 0 ⟨0,0,0⟩,41,1,false⟩:=⟨_,rfl⟩;have l2:H2.length=H.length+2:=by rw[iJ,cD,l1]
 have g2:H2.get i1=some ⟨ax 0 0 0 0 ⟨0,0,0⟩,41,1,false⟩:=by rw[iJ,e1, ←l1];exact aL
 obtain⟨H3,mH⟩: ∃z,z=H2.put i1 ⟨ax a b' pp qq op,41,1,false⟩:=⟨_,rfl⟩;have l3:H3.length=H.length+2:=by rw[mH,iR,l2]
 obtain⟨H4,pW⟩: ∃z,z=H3.new ⟨oc fV aA,49,1,false⟩:=⟨_,rfl⟩;have fK:JX (λH' o=>Fr H b H' o [(p:Int)]∧Cl i0 (oc fV aA) 49 H' o) p st H1:=by
  rw[gg];have P9:JX (λH' o=>Fr H b H' o [(p:Int)]) p st H:=⟨bH.base (by simp),b,hr,Fr.refl _ _ _⟩
  refine P9.nI _ _ 1 ((bH.base (by simp)).and λH o H' o' a f=>a.fr f (by simp)) λo hk f=>⟨hk.new _ _,?_⟩
  rw[e0];exact Cl.made
 have fP:JX (λH' o=>(Fr H b H' o [(p:Int)]∧Cl i0 (oc fV aA) 49 H' o)∧Cl i1 (ax 0 0 0 0 ⟨0,0,0⟩) 41 H' o) p st H2:=by
  rw[iJ];refine fK.nI _ _ 1 (fK.1.and λH o H' o' a f=>a.fr f (by simp)) λo hk f=>⟨⟨hk.1.new _ _,hk.2.new⟩,?_⟩
  rw[e1, ←l1];exact Cl.made
 have gG:JX (λH' o=>(Fr H b H' o [(p:Int)]∧Cl i0 (oc fV aA) 49 H' o)∧Cl i1 (ax a b' pp qq op) 41 H' o) p st H3:=by
  rw[mH];refine fP.uj (λo hg=>hg.2) (fK.1.and λH o H' o' a f=>a.fr f (by simp)) λo hg=>⟨⟨hg.1.1.put λhh=>by omega,hg.1.2.put (by omega)⟩,hg.2.self⟩
 have jh:JX (KH H b p i0 i1 i2 (ax a b' pp qq op) fV) p st H4:=by
  rw[pW];refine gG.nI _ _ 1 KH.fg λo hk f=>⟨hk.1.1.new _ _,hk.1.2.new,hk.2.new,?_,by omega⟩
  rw[e2, ←l3];exact Cl.made
 have lj: ∀{H':aa} {o':aj},Fr H b H' o' [(p:Int)]→H'.get f=some ⟨fc proc a b' pp qq op tape done r0 s0 rec laid,T,1,false⟩:=λfr=>by rw[fr.same f FJ (by simpa using HA)];exact hf
 have gf1:H1.get f=some ⟨fc proc a b' pp qq op tape done r0 s0 rec laid,T,1,false⟩:=by obtain⟨_,o,_,hk⟩:=fK;exact lj hk.1
 have S1:=Qk i1 a b' pp qq op 0 0 0 0 ⟨0,0,0⟩ H2 g2;rw[←mH] at S1;obtain⟨_,o4,_,Nc⟩:=id jh;have S2:=uR i2 fV (s:=aA) rfl fV aA H4 Nc.k2.1;have YW:H4.put i2 ⟨oc fV aA,49,1,false⟩=H4:=by
  have hl:=ar Nc.k2.1;have hg:=Nc.k2.1;unfold aa.put;apply List.ext_getElem?;intro k;by_cases e:k=i2
  ·subst e;rw[List.getElem?_set_self hl];unfold aa.get at hg;cases hx:H4[k]? with
   |none=>rw[hx] at hg;cases hg
   |some z=>rw[hx] at hg;cases z<;>simp_all
  ·rw[List.getElem?_set_ne (Ne.symm e)]
 rw[YW] at S2;exact⟨i0,i1,i2,H1,H2,H3,H4,by rw[gg,e0];rfl,Hw f H1 gf1,by rw[iJ,e1, ←l1];rfl,S1,by rw[pW,e2, ←l3];rfl,S2,an f 0 H4 (lj Nc.fr),jh⟩
theorem KH.args (hj:JX (KH B b p i0 i1 i2 (ax a b' pp qq op) r2) p st H):aq (pv i1) H=some (cv a)∧aq (.pointer (some ⟨i1,1,none⟩)) H=some (cv b')∧aq (.pointer (some ⟨i1,3,none⟩)) H=some (cv pp)∧aq (.pointer (some ⟨i1,4,none⟩)) H=some (cv qq)∧aq (.pointer (some ⟨i1,18,none⟩)) H=some (cv op.kind)∧dh 3 (.pointer (some ⟨i1,18,none⟩)) H=some (jx op):=by
 obtain⟨_,o,_,hg⟩:=hj;exact⟨an i1 0 _ hg.k1.1,an i1 1 _ hg.k1.1,an i1 3 _ hg.k1.1,an i1 4 _ hg.k1.1,an i1 18 _ hg.k1.1,Ql _ _ hg.k1.1⟩
theorem KH.fin (hj:JX (KH B b p i0 i1 i2 xs r2) p st H): ∃H2,dh 13 (pv i2) H=some (.agg (oc r2 aA).toArray)∧bE 13 (pv i0) (.agg (oc r2 aA).toArray) H=some (undef,H2)∧dh 13 (pv i0) H2=some (.agg (oc r2 aA).toArray)∧JX (KB0 B b p) p st H2:=by
 obtain⟨_,o,u6,hg⟩:=id hj;exact⟨_,zB i2 r2 aA H hg.k2.1,uR i0 r2 rfl fV aA H hg.k0.1,zB i0 r2 aA (T:=49) _ (aG hg.k0.1),hj.uj (λo hg=>hg.k0) (bH.base (by simp)) λo hg=>hg.fr.put λhh=>by have:=hg.od;omega⟩
theorem KH.res (hj:JX (KH B b p i0 i1 i2 xs r2) p st H)(r:eQ): ∃H3,bE 6 (.pointer (some ⟨i2,7,none⟩)) (gz r aA) H=some (undef,H3)∧JX (KH B b p i0 i1 i2 xs {r2 with res:=r}) p st H3:=by
 obtain⟨_,o,u6,hg⟩:=id hj;exact⟨_,Qj i2 r rfl r2 aA H hg.k2.1,hj.uj (λo hg=>hg.k2) KH.fg λo hg=>⟨hg.fr.put λhh=>by have:=hg.od;omega,hg.k0.put (by have:=hg.od;omega),hg.k1.put (by have:=hg.od;omega),hg.k2.self,hg.od⟩⟩
end
abbrev FF:Nat:=1048577
def TR (op:kp):Y.Tr eE:=Y.gu (FF+1) (om op) (FF+1) >>= λr=>.ret ⟨0,0,zx r⟩
theorem YZ {b:aj}(hr:zg H b p st)(hM:st.left≤FF)(hf:H.get f=some ⟨fc 24 a b' pp qq op tape done r0 s0 rec laid,T,1,false⟩)(HA:b f≠p)(vx:1≤op.kind∧op.kind≤3):
  aF (run G) 97 [pv f,pv p] H λv H'=>v= .agg (oc (Y.ah (TR op) st).1 aA).toArray∧JX (KB0 H b p) p (Y.ah (TR op) st).2 H':=by
 refine Ev.up (t:=λk=>F97 (run G k) k (pv f) (pv p) H) ?_ λk=>Pc ..
 obtain⟨i0,i1,i2,H1,H2,H3,H4,h⟩:=Qn hr hf HA;obtain⟨n0,L1,n1,S1,n2,S2,Lp,jh⟩:=h;obtain⟨_,_,_,_,a0,a2⟩:=KH.args jh;simp -implicitDefEqProofs only[F97,n0,L1,n1,S1,JL,n2,S2,Lp,Nat.add_zero,sS,Nat.reduceAdd];refine Ev.eql (λhq=>?_) (λhq=>?_)<;>try simp -implicitDefEqProofs only[sS,Nat.reduceAdd]
 ·omega
 refine Ev.eql (λhq=>?_) (λhq=>?_)<;>try simp -implicitDefEqProofs only[sS,Nat.reduceAdd]
 ·omega
 refine Ev.eql (λhq=>?_) (λhq=>?_)<;>try simp -implicitDefEqProofs only[sS,Nat.reduceAdd]
 ·omega
 refine Ev.eql (λhq=>?_) (λhq=>?_)<;>try simp -implicitDefEqProofs only[a0,Nat.add_zero,sS,Nat.reduceAdd]
 rotate_left
 ·omega
 refine Ev.lss (λhq=>?_) (λhq=>?_)<;>try simp -implicitDefEqProofs only[a0,Nat.add_zero,sS,Nat.reduceAdd]
 ·omega
 refine Ev.gtr (λhq=>?_) (λhq=>?_)<;>try simp -implicitDefEqProofs only[a2,sS,Nat.reduceAdd]
 ·omega
 refine Ev.call (Qb jh hM op) ?_;rintro v H5 ⟨rfl,hj⟩;generalize hR:Y.ah (Y.gu (FF+1) (om op) (FF+1)) st=R at hj
 obtain⟨rr,s2⟩:=R;have eR:Y.ah (TR op) st=(⟨0,0,zx rr⟩,s2):=by unfold TR;rw[Y.aJ hR];rfl
 rw[eR];simp only at hj;obtain⟨H6,g6,oj⟩:=KH.res hj (zx rr);obtain⟨H7,A1,A2,A3,Dg⟩:=KH.fin oj;simp -implicitDefEqProofs only[g6,ER,vQ,A1,A2,A3,sS,Nat.reduceAdd];exact Ev.ret ⟨rfl,Dg⟩
end
end Go.Proofs.YtgfgglponbmgmaaGreat.Fun
end
