/- Texts of the proof of helpPlays_holds, put together by a small program of ours (names shortened, spaces taken out). No condition beyond the given statement. -/
import Derived.Test.YtgfgglponbmgmaaGreatHPL16
import Derived.Test.YtgfgglponbmgmaaGreatHPL32
import Derived.Test.YtgfgglponbmgmaaGreatHPL11
import Derived.Test.YtgfgglponbmgmaaGreatHPL14
import Derived.Test.YtgfgglponbmgmaaGreatHPL12
import Derived.Test.YtgfgglponbmgmaaGreatHPL17
import Derived.Test.YtgfgglponbmgmaaGreatHPL27
set_option linter.unusedVariables false
set_option linter.unusedSimpArgs false
set_option linter.unnecessarySimpa false
noncomputable section
section
namespace Go.Proofs.YtgfgglponbmgmaaGreat.Fun
open Go Go.RowKit Go.Proofs.YtgfgglponbmgmaaGreatA.Am
set_option maxRecDepth 10000
section
open Go.Proofs.YtgfgglponbmgmaaGreatA
inductive Pr where
 |ex (t:Y.Tr eE)
 |rd
abbrev Y0 (w:Int):eE:=⟨w,0,bS⟩
abbrev aby (n:Int):eE:=⟨0,n,bS⟩
def Qo (a:Int):Y.Tr eE:=Y.sD a >>= λw=>.ret (Y0 w)
def nT (a:Int):Y.Tr eE:=Y.uH a >>= λ_=>.ret fV
def Qp (a:Int):Y.Tr eE:=Y.kK FF a >>= λw=>.ret (Y0 w)
def Qq (a b p q:Int):Y.Tr eE:=Y.sF a b p q >>= λn=>.ret (aby n)
def BA (t:Y.Tr eE)(proc a b p q:Int):Prop:=
 (proc=11∧t=Qo a)∨(proc=12∧(-9223372036854775808≤a∧a≤65536)∧t=nT a)∨(proc=13∧t=Qp a)∨(proc=14∧t=Qq a b p q)
theorem BA.proc {t:Y.Tr eE}{proc a b p q:Int}(h:BA t proc a b p q):11≤proc∧proc≤16:=by
 rcases h with⟨h,_⟩|⟨h,_⟩|⟨h,_⟩|⟨h,_⟩<;>omega
theorem BA.list {t:Y.Tr eE}{proc a b p q:Int}(h:BA t proc a b p q)(st:Y.St):(Y.ah t st).1.res.list=[]:=by
 rcases h with⟨_,rfl⟩|⟨_,_,rfl⟩|⟨_,rfl⟩|⟨_,rfl⟩
 ·unfold Qo;rw[Y.al];rfl
 ·unfold nT;rw[Y.al];rfl
 ·unfold Qp;rw[Y.al];rfl
 ·unfold Qq;rw[Y.al];rfl
variable {G:ae} {H H':aa} {o o':aj} {p m c f n i:Nat} {K K':aa→aj→Prop} {q:Int} {x:Value} {l:PL} {cs:List Value} {T:TypeId} {st:Y.St} {proc a b' pp qq rec laid:Int} {op:kp} {tape s0:Value} {done:Bool} {r0:eE}
section
variable {B:aa} {b:aj} {i0 i1 i2:Nat} {xs:List Value}
theorem KH.word (hj:JX (KH B b p i0 i1 i2 xs fV) p st H)(w:Int): ∃H3,bE 1 (pv i2) (cv w) H=some (undef,H3)∧JX (KH B b p i0 i1 i2 xs (Y0 w)) p st H3:=by
 obtain⟨_,o,u6,hg⟩:=id hj;have S:=gY i2 0 w H hg.k2.1 rfl (by simp)
 exact⟨_,S,hj.uj (λo hg=>hg.k2) KH.fg λo hg=>⟨hg.fr.put λhh=>by have:=hg.od;omega,hg.k0.put (by have:=hg.od;omega),hg.k1.put (by have:=hg.od;omega),hg.k2.self,hg.od⟩⟩
theorem KH.adx (hj:JX (KH B b p i0 i1 i2 xs fV) p st H)(w:Int): ∃H3,bE 1 (.pointer (some ⟨i2,2,none⟩)) (cv w) H=some (undef,H3)∧JX (KH B b p i0 i1 i2 xs (aby w)) p st H3:=by
 obtain⟨_,o,u6,hg⟩:=id hj;have S:=gY i2 2 w H hg.k2.1 rfl (by simp)
 exact⟨_,S,hj.uj (λo hg=>hg.k2) KH.fg λo hg=>⟨hg.fr.put λhh=>by have:=hg.od;omega,hg.k0.put (by have:=hg.od;omega),hg.k1.put (by have:=hg.od;omega),hg.k2.self,hg.od⟩⟩
end
theorem abz {b:aj}{t:Y.Tr eE}(hr:zg H b p st)(hM:st.left≤FF)(hf:H.get f=some ⟨fc proc a b' pp qq op tape done r0 s0 rec laid,T,1,false⟩)(HA:b f≠p)(hl:BA t proc a b' pp qq):
  aF (run G) 95 [pv f,pv p] H λv H'=>v= .agg (oc (Y.ah t st).1 aA).toArray∧JX (KB0 H b p) p (Y.ah t st).2 H':=by
 refine Ev.up (t:=λk=>F95 (run G k) k (pv f) (pv p) H) ?_ λk=>XV ..
 obtain⟨i0,i1,i2,H1,H2,H3,H4,h⟩:=Qn hr hf HA;obtain⟨n0,L1,n1,S1,n2,S2,Lp,jh⟩:=h;obtain⟨A0,A1,A3,A4,_,_⟩:=KH.args jh;have J0: ∀{r2:eE} {s':Y.St} {H':aa} (aS bf bL bV cm cH eU:Value),JX (KH H b p i0 i1 i2 (ax a b' pp qq op) r2) p s' H'→Y.ah t st=(r2,s')→Ev (λk=>nv (run G k) k [pv f,pv p,pv i0,aS,bf,pv i1,pv i2,bL,bV,cm,cH,eU] H') λr=>r.1= .agg (oc (Y.ah t st).1 aA).toArray∧JX (KB0 H b p) p (Y.ah t st).2 r.2:=by
  intro r2 s' H' aS bf bL bV cm cH eU hj e;obtain⟨H7,B1,B2,B3,Dg⟩:=KH.fin hj;simp -implicitDefEqProofs only[Pb,CQ,B1,B2,B3,sS,Nat.reduceAdd];rw[e];exact Ev.ret ⟨rfl,Dg⟩
 simp -implicitDefEqProofs only[F95,n0,L1,n1,S1,JL,n2,S2,Lp,Nat.add_zero,sS,Nat.reduceAdd];rcases hl with⟨rfl,rfl⟩|⟨rfl,ha,rfl⟩|⟨rfl,rfl⟩|⟨rfl,rfl⟩
 ·refine Ev.eql (λ_=>?_) (λhq=>absurd rfl hq)
  simp -implicitDefEqProofs only[A0,A1,A3,A4,Nat.add_zero,sS,Nat.reduceAdd];refine Ev.fe (PM jh a) λz s1 H5 ez hj=>?_
  obtain⟨H6,g6,oj⟩:=KH.word hj z;simp -implicitDefEqProofs only[Nat.add_zero,g6,sS,Nat.reduceAdd];exact J0 _ _ _ _ _ _ _ oj (by unfold Qo;rw[Y.aJ ez];rfl)
 ·refine Ev.eql (λhq=>absurd hq (by decide)) (λ_=>?_)
  try simp -implicitDefEqProofs only[sS,Nat.reduceAdd]
  refine Ev.eql (λ_=>?_) (λhq=>absurd rfl hq)
  simp -implicitDefEqProofs only[A0,A1,A3,A4,Nat.add_zero,sS,Nat.reduceAdd];refine Ev.ZV (PN jh ha) λv z s1 H5 ez hj=>?_
  exact J0 _ _ _ _ _ _ _ hj (by unfold nT;rw[Y.aJ ez];rfl)
 ·refine Ev.eql (λhq=>absurd hq (by decide)) (λ_=>?_)
  try simp -implicitDefEqProofs only[sS,Nat.reduceAdd]
  refine Ev.eql (λhq=>absurd hq (by decide)) (λ_=>?_)
  try simp -implicitDefEqProofs only[sS,Nat.reduceAdd]
  refine Ev.eql (λ_=>?_) (λhq=>absurd rfl hq)
  simp -implicitDefEqProofs only[A0,A1,A3,A4,Nat.add_zero,sS,Nat.reduceAdd];refine Ev.fe (He jh (f:=FF) (by omega) a) λz s1 H5 ez hj=>?_
  obtain⟨H6,g6,oj⟩:=KH.word hj z;simp -implicitDefEqProofs only[Nat.add_zero,g6,sS,Nat.reduceAdd];exact J0 _ _ _ _ _ _ _ oj (by unfold Qp;rw[Y.aJ ez];rfl)
 ·refine Ev.eql (λhq=>absurd hq (by decide)) (λ_=>?_)
  try simp -implicitDefEqProofs only[sS,Nat.reduceAdd]
  refine Ev.eql (λhq=>absurd hq (by decide)) (λ_=>?_)
  try simp -implicitDefEqProofs only[sS,Nat.reduceAdd]
  refine Ev.eql (λhq=>absurd hq (by decide)) (λ_=>?_)
  try simp -implicitDefEqProofs only[sS,Nat.reduceAdd]
  refine Ev.eql (λ_=>?_) (λhq=>absurd rfl hq)
  simp -implicitDefEqProofs only[A0,A1,A3,A4,Nat.add_zero,sS,Nat.reduceAdd];refine Ev.fe (Da jh a b' pp qq) λz s1 H5 ez hj=>?_
  obtain⟨H6,g6,oj⟩:=KH.adx hj z;simp -implicitDefEqProofs only[Nat.add_zero,g6,sS,Nat.reduceAdd];exact J0 _ _ _ _ _ _ _ oj (by unfold Qq;rw[Y.aJ ez];rfl)
end
section
open Go.Proofs.YtgfgglponbmgmaaGreatA
variable {G:ae} {H H':aa} {o o':aj} {p m c mp f n i:Nat} {K K':aa→aj→Prop} {tf tg q:Int} {x:Value} {l:PL} {cs:List Value} {proc a b' pp qq rec laid:Int} {op:kp} {tape s0:Value} {done:Bool} {r0:eE} {T:List Int} {mm:Y.Mm} {pr:Pr}
def BB (T:List Int):Y.St:=⟨T,false,.rd 0,0,0⟩
def zD (pr:Pr)(proc a b p q:Int)(op:kp):Prop:=
 match pr with
 | .rd=>proc=25∧a=0∧p=0∧q=0
 | .ex t=>(proc=24∧(1≤op.kind∧op.kind≤3)∧t=TR op)∨BA t proc a b p q
def TS (H:aa)(o:aj)(p:Nat)(A:Bool→Int→Int→Int→Int→List Int→Int→Prop):Prop:=
 ∃(tape w:Value) (W:List Int) (b:Bool) (i:Nat) (nk na nx ny oS laid:Int) (ty:TypeId),
  H.get p=some ⟨[tape,cv i,.bool b,cv nk,cv na,cv nx,cv ny,w,cv oS,cv laid],ty,1,false⟩∧dH H o (-51) w W∧A b nk na nx ny W oS
def prA (pr:Pr)(T:List Int)(b:Bool)(nk na nx ny:Int)(W:List Int)(oS:Int):Prop:=
 match pr with
 | .rd=>nk=0∨nk=1
 | .ex t=>b=(Y.ah t (BB T)).2.off∧oS=(Y.ah t (BB T)).2.oS∧(b=true→JA (Y.ah t (BB T)).2.next nk na nx ny W)
def prO (pr:Pr)(T:List Int)(r:eE):Prop:=
 match pr with
 | .rd=>r.word=0∧r.num=0
 | .ex t=>r=(Y.ah t (BB T)).1
abbrev JR (pr:Pr)(T:List Int)(H:aa)(b:aj)(p:Nat):Value→aa→Prop:=λv H'=>∃r s o',v= .agg (oc r s).toArray∧TS H' o' p (prA pr T)∧Fr H b H' o' [(p:Int)]∧gT H' o' (-41) s r.res.list∧r.res.list.length≤1048577∧prO pr T r
theorem zg.ady {t:Y.Tr eE}(h:zg H o p (Y.ah t (BB T)).2):TS H o p (prA (.ex t) T):=by
 obtain⟨tape,w,T',W,i,nk,na,nx,ny,ty,g,ho,ht,hT,hw,hi,_,hn⟩:=h;exact⟨tape,w,W,_,i,nk,na,nx,ny,_,_,ty,g,hw,rfl,rfl,hn⟩
theorem JS {t:Y.Tr eE}{b:aj}{C:Nat→ae}{fn:Nat}{args:List Value}(h:aF C fn args H λv H'=>v= .agg (oc (Y.ah t (BB T)).1 aA).toArray∧JX (KB0 H b p) p (Y.ah t (BB T)).2 H')(hl:(Y.ah t (BB T)).1.res.list=[]):aF C fn args H (JR (.ex t) T H b p):=by
 refine h.mono ?_;rintro v H' ⟨rfl,_,o',hr,hf⟩;exact⟨_,aA,o',rfl,hr.ady,hf,by rw[hl];exact .nil,by rw[hl];simp,rfl⟩
theorem Qr (op:kp)(st:Y.St):(Y.ah (TR op) st).1.res.list=[]:=by unfold TR;rw[Y.al];rfl
section
variable {b:aj} (gp:H.get p=some ⟨[tape,cv 0,.bool false,cv 0,cv 0,cv 0,cv 0,aA,cv 0,cv 0],114,1,false⟩) (vx:b p=p) (ht:dH H b (-50) tape T) (hT:T.length≤1048576) (hf:H.get f=some ⟨fc proc a b' pp qq op tape done r0 s0 rec laid,51,1,false⟩) (HA:b f≠p)
include gp vx ht hT
theorem JT:zg H b p (BB T):=⟨tape,aA,T,[],0,0,0,0,0,114,gp,vx,ht,hT,.nil,by omega,rfl,λh=>by cases h⟩
theorem TT:R.Av H b p (T.length+1):=⟨tape,aA,T,[],0,0,0,0,0,0,0,114,by rw[gp];simp,vx,ht,hT,.nil,λ_=>by omega,.inl rfl⟩
include hf HA
theorem Y1 (hp:zD pr proc a b' pp qq op)(h24:24≤proc)(h0:pr= .rd→r0.word=0∧r0.num=0):aF (run G) 97 [pv f,pv p] H (JR pr T H b p):=by
 cases pr with
 |rd=>
  obtain⟨rfl,rfl,rfl,rfl⟩:=hp;obtain⟨h1,h2⟩:=h0 rfl;obtain⟨w0,n0,r00⟩:=r0;simp only at h1 h2;subst h1 h2;refine(R.YV (TT gp vx ht hT) (by omega) (T:=51) (f:=f) (bud:=b') (op:=op) (r0:=r00) hf HA rfl).mono ?_
  rintro v H' ⟨r,s,m',rfl,hl,_,o',hr,lj,vn⟩;obtain⟨Qs,w,T',W,i,nk,na,nx,ny,kF,Qt,ty,g,ho,ht',hT',hw,hi,hnk⟩:=hr;exact⟨⟨0,0,r⟩,s,o',rfl,⟨Qs,w,W,_,i,nk,na,nx,ny,kF,Qt,ty,g,hw,hnk⟩,lj,vn,by show r.list.length≤_;omega,rfl,rfl⟩
 |ex t=>
  rcases hp with⟨rfl,hk,rfl⟩|hp
  ·exact JS (YZ (JT gp vx ht hT) (by show T.length+1≤1048577;omega) hf HA hk) (Qr _ _)
  ·have:=hp.proc;omega
theorem abA (hp:zD pr proc a b' pp qq op)(h16:proc≤16):aF (run G) 95 [pv f,pv p] H (JR pr T H b p):=by
 cases pr with
 |rd=>obtain⟨rfl,_⟩:=hp;omega
 |ex t=>
  rcases hp with⟨rfl,hk,rfl⟩|hp
  ·omega
  ·exact JS (abz (JT gp vx ht hT) (by show T.length+1≤1048577;omega) hf HA hp) (hp.list _)
end
theorem abB (b:Option Addr)(n c:Nat):aE Tryz.prog 114 [(0,.slice b n c)]=some (.agg #[.slice b n c,cv 0,.bool false,cv 0,cv 0,cv 0,cv 0,aA,cv 0,cv 0]):=by kernel_rfl
theorem Y2 (b:Option Addr)(n c:Nat)(H:aa):dL 114 (.agg #[.slice b n c,cv 0,.bool false,cv 0,cv 0,cv 0,cv 0,aA,cv 0,cv 0]) H=some (pv H.length,H.new ⟨[.slice b n c,cv 0,.bool false,cv 0,cv 0,cv 0,cv 0,aA,cv 0,cv 0],114,1,false⟩):=by
 simp[dL,Value.cells,aD,aV]
theorem zD.num (hp:zD pr proc a b' pp qq op):(11≤proc∧proc≤16)∨proc=24∨proc=25:=by
 cases pr with
 |rd=>exact .inr (.inr hp.1)
 |ex t=>
  rcases hp with h|h
  ·exact .inr (.inl h.1)
  ·exact .inl h.proc
theorem Qu (hf:H.get f=some ⟨fc proc a b' pp qq op tape done r0 s0 rec laid,51,1,false⟩)(ht:dH H o tg tape T)(hT:T.length≤1048576)(hp:zD pr proc a b' pp qq op)(h0:pr= .rd→r0.word=0∧r0.num=0):
  aF (run G) 70 [pv f] H λv H'=>∃p r s o',v= .tuple #[pv p,.agg (oc r s).toArray]∧Ext H H'∧H.length≤p∧TS H' o' p (prA pr T)∧gT H' o' (-41) s r.res.list∧r.res.list.length≤1048577∧prO pr T r∧∀i,i<H.length→o' i≠ -41∧o' i≠ -51:=by
 refine Ev.up (t:=λk=>F70 (run G k) k (pv f) H) ?_ λk=>Wz ..
 classical
 let o1:aj:=λi=>if ∃a n c,tape= .slice (some a) n c∧a.block=i then -50 else -9
 have o1v: ∀i,o1 i= -50∨o1 i= -9:=λi=>by
  show(if ∃a n c,tape= .slice (some a) n c∧a.block=i then(-50:Int) else -9)= -50∨(if ∃a n c,tape= .slice (some a) n c∧a.block=i then(-50:Int) else -9)= -9
  split
  ·exact .inl rfl
  ·exact .inr rfl
 have P5:dH H o1 (-50) tape T:=⟨ht.1,λb n c e dC=>⟨(ht.2 b n c e dC).1,if_pos ⟨b,n,c,e,rfl⟩⟩⟩
 obtain⟨ta,tc,et⟩:=ht.1.isSlice;have FJ:=ar hf;obtain⟨H1,gg⟩: ∃z,z=H.new ⟨oc fV aA,49,1,false⟩:=⟨_,rfl⟩;have l1:H1.length=H.length+1:=by rw[gg,cD]
 have g1:H1.get H.length=some ⟨oc fV aA,49,1,false⟩:=by rw[gg];exact aL
 obtain⟨p,ep⟩: ∃p,p=H1.length:=⟨_,rfl⟩;obtain⟨H2,iJ⟩: ∃z,z=H1.new ⟨[tape,cv 0,.bool false,cv 0,cv 0,cv 0,cv 0,aA,cv 0,cv 0],114,1,false⟩:=⟨_,rfl⟩;have l2:H2.length=H.length+2:=by rw[iJ,cD,l1]
 obtain⟨o2,eo2⟩: ∃z,z=(o1.up H.length (-9)).up p p:=⟨_,rfl⟩;have f1:Fr H o1 H1 (o1.up H.length (-9)) []:=by rw[gg];exact(Fr.refl H o1 []).new _ _
 have f2:Fr H o1 H2 o2 []:=by rw[iJ,eo2,ep];exact f1.new _ _
 have gp:H2.get p=some ⟨[tape,cv 0,.bool false,cv 0,cv 0,cv 0,cv 0,aA,cv 0,cv 0],114,1,false⟩:=by rw[iJ,ep];exact aL
 have vx:o2 p=p:=by rw[eo2];exact aP
 have C8:dH H2 o2 (-50) tape T:=P5.fr f2 (by simp)
 have gf2:H2.get f=some ⟨fc proc a b' pp qq op tape done r0 s0 rec laid,51,1,false⟩:=by rw[f2.same f FJ (by simp)];exact hf
 have DC: ∀i,i<H.length→o2 i=o1 i:=λi hi=>f2.own i hi
 have HA:o2 f≠(p:Int):=by rw[DC f FJ];have:=o1v f;omega
 have oi:o2 H.length= -9:=by rw[eo2,dP (by omega)];exact aP
 have g2:H2.get H.length=some ⟨oc fV aA,49,1,false⟩:=by rw[iJ,dq (by omega)];exact g1
 have n0:aV H 49 1 [cv 0,.bool false,cv 0,cv 0,cv 0,aA,aA,cv 0,.bool false,cv 0,cv 0,cv 0,aA]=(pv H.length,H1):=by rw[gg];rfl
 have gf1:H1.get f=some ⟨fc proc a b' pp qq op tape done r0 s0 rec laid,51,1,false⟩:=by rw[gg,dq FJ];exact hf
 have Lt:aq (.pointer (some ⟨f,22,none⟩)) H1=some tape:=an f 22 H1 gf1;have Lp:aq (pv f) H2=some (cv proc):=an f 0 H2 gf2;have bx:=Y2 ta T.length tc H1;rw[←et, ←iJ, ←ep] at bx;have ab:=abB ta T.length tc;rw[←et] at ab;have fin: ∀{v:Value} {H3:aa},JR pr T H2 o2 p v H3→∃r s,v= .agg (oc r s).toArray∧∃H4,bE 13 (pv H.length) (.agg (oc r s).toArray) H3=some (undef,H4)∧dh 13 (pv H.length) H4=some (.agg (oc r s).toArray)∧
   ∃p' r' s' o',(Value.tuple #[pv p,.agg (oc r s).toArray])= .tuple #[pv p',.agg (oc r' s').toArray]∧Ext H H4∧H.length≤p'∧TS H4 o' p' (prA pr T)∧gT H4 o' (-41) s' r'.res.list∧r'.res.list.length≤1048577∧prO pr T r'∧∀i,i<H.length→o' i≠ -41∧o' i≠ -51:=by
  rintro v H3 ⟨r,s,o3,rfl,hr3,f3,Y3,We,ho3⟩;obtain⟨sa,sc,es⟩:=Y3.isSlice;have g3:H3.get H.length=some ⟨oc fV aA,49,1,false⟩:=by rw[f3.same _ (ar g2) (by rw[oi];simp)];exact g2
  have o3i:o3 H.length= -9:=by rw[f3.own _ (ar g2)];exact oi
  have f4:Fr H3 o3 (H3.put H.length ⟨oc r s,49,1,false⟩) o3 [-9]:=(Fr.refl H3 o3 [-9]).put λ_=>by simp[o3i]
  refine⟨r,s,rfl,_,uR H.length r es fV aA H3 g3,zB H.length r s (T:=49) _ (aG g3),p,r,s,o3,rfl,⟨λj hj=>?_,?_⟩,by omega,?_,Y3.fr f4 (by simp),We,ho3,λi hi=>?_⟩
  ·rw[fF (by omega),f3.slot j (by omega) (by rw[DC j hj];have:=o1v j;simp;omega)]
   exact f2.slot j hj (by simp)
  ·rw[iR];have:=f3.size;omega
  ·obtain⟨tp,w,W,b,i,nk,na,nx,ny,oS,la,ty,gq,hw,hA⟩:=hr3;exact⟨tp,w,W,b,i,nk,na,nx,ny,oS,la,ty,by rw[bt (by omega)];exact gq,hw.fr f4 (by simp),hA⟩
  ·have:=f3.own i (by omega)
   have:=DC i hi
   have:=o1v i
   omega
 have hn:=hp.num;simp -implicitDefEqProofs only[F70,n0,Lt,ab,bx,Lp,Nat.add_zero,sS,Nat.reduceAdd];refine Ev.leq (λhq=>?_) (λhq=>?_)<;>try simp -implicitDefEqProofs only[Lp,Nat.add_zero,sS,Nat.reduceAdd]
 ·refine Ev.call (abA gp vx C8 hT gf2 HA hp hq) ?_;intro v H3 Vn;obtain⟨r,s,rfl,H4,A2,A3,u4⟩:=fin Vn;simp -implicitDefEqProofs only[A2,A3,sS,Nat.reduceAdd];exact Ev.ret u4
 refine Ev.leq (λhq=>?_) (λhq=>?_)<;>try simp -implicitDefEqProofs only[sS,Nat.reduceAdd]
 ·omega
 refine Ev.call (Y1 gp vx C8 hT gf2 HA hp (by omega) h0) ?_
 intro v H3 Vn;obtain⟨r,s,rfl,H4,A2,A3,u4⟩:=fin Vn;simp -implicitDefEqProofs only[A2,A3,sS,Nat.reduceAdd];exact Ev.ret u4
def hZ (H:aa)(o:aj)(f:Nat)(tf tg:Int)(pr:Pr)(T:List Int)(done:Bool)(r:eE)(rec:Int):Prop:=
 ∃(proc a b p q:Int) (op:kp) (tape s:Value) (laid:Int),H.get f=some ⟨fc proc a b p q op tape done r s rec laid,51,1,false⟩∧o f=tf∧oQ H o tg tape T∧zD pr proc a b p q op∧gT H o (-41) s r.res.list∧r.res.list.length≤1048577∧(pr= .rd→r.word=0∧r.num=0)
def FN (pr:Pr)(T:List Int)(done:Bool)(r:eE)(rec:Int):Prop:=
 match pr with
 | .rd=>True
 | .ex t=>done= !(Y.ah t (BB T)).2.off∧rec=(Y.ah t (BB T)).2.oS∧(done=true→r=(Y.ah t (BB T)).1)
theorem hZ.fr {ps:List Int}(h:hZ H o f tf tg pr T done r0 rec)(fr:Fr H o H' o' ps)(h1:tf ∉ ps)(h2:tg ∉ ps)(h3:(-41:Int) ∉ ps):hZ H' o' f tf tg pr T done r0 rec:=by
 obtain⟨proc,a,b,p,q,op,tape,s,laid,g,ho,ht,hp,hs,hl⟩:=h;exact⟨proc,a,b,p,q,op,tape,s,laid,by rw[fr.same f (ar g) (by rw[ho];exact h1)];exact g,by rw[fr.own f (ar g)];exact ho,ht.fr fr h2,hp,hs.fr fr h3,hl⟩
theorem Y4 (f:Nat)(r:eE){s:Value}{a0:Option Addr}{k c:Nat}(es:s= .slice a0 k c){T:TypeId}(H:aa)(h:H.get f=some ⟨fc proc a b' pp qq op tape done r0 s0 rec laid,T,1,false⟩):bE 13 (.pointer (some ⟨f,24,none⟩)) (.agg (oc r s).toArray) H=some (undef,H.put f ⟨fc proc a b' pp qq op tape done r s rec laid,T,1,false⟩):=by
 subst es;simp[bE,bZ,h,Value.cells,known,aD,dz];rfl
def abC (o o3:aj)(n:Nat):aj:=λi=>if i<n then o i else if o3 i= -41 then -41 else if o3 i= -51 then -51 else -9
theorem Fv (h:hZ H o f tf tg pr T false r0 rec)(hT:T.length≤1048576)(h1:tf≠tg∧tf≠ -41):aF (run G) 69 [pv f] H λv H'=>∃o' Fw r' kF,Fr H o H' o' [tf]∧hZ H' o' f tf tg pr T Fw r' kF∧FN pr T Fw r' kF:=by
 refine Ev.up (t:=λk=>F69 (run G k) k (pv f) H) ?_ λk=>Xp ..
 obtain⟨proc,a,b,pq,qq,op,tape,s0,laid,g,ho,ht,hp,hs,hl,h0⟩:=h;have FJ:=ar g;simp -implicitDefEqProofs only[F69,sS,Nat.reduceAdd];refine Ev.call (Qu g ht.ints hT hp h0) ?_;rintro v H1 ⟨p,r,s,o3,rfl,ex,VP,hr3,Y3,We,hO,TU⟩;obtain⟨sa,sc,es⟩:=Y3.isSlice;have l1:=ex.size;have g1:=ex.get g;obtain⟨H2,iJ⟩: ∃z,z=H1.new ⟨oc fV aA,49,1,false⟩:=⟨_,rfl⟩;have l2:H2.length=H1.length+1:=by rw[iJ,cD]
 have gb:H2.get H1.length=some ⟨oc fV aA,49,1,false⟩:=by rw[iJ];exact aL
 have n0:aV H1 49 1 [cv 0,.bool false,cv 0,cv 0,cv 0,aA,aA,cv 0,.bool false,cv 0,cv 0,cv 0,aA]=(pv H1.length,H2):=by rw[iJ];rfl
 have A2:=uR H1.length r es fV aA H2 gb;obtain⟨H3,mH⟩: ∃z,z=H2.put H1.length ⟨oc r s,49,1,false⟩:=⟨_,rfl⟩;rw[←mH] at A2;have l3:H3.length=H1.length+1:=by rw[mH,iR,l2]
 have hold: ∀j,j<H1.length→H3[j]? =H1[j]? :=λj hj=>by rw[mH,fF (by omega),iJ,mR hj]
 have gb3:H3.get H1.length=some ⟨oc r s,49,1,false⟩:=by rw[mH];exact aG gb
 obtain⟨tp,w,W,off,i,nk,na,nx,ny,zE,Fx,ty,gp,_,hA⟩:=hr3;have F6:=ar gp;have gp3:H3.get p=some ⟨[tp,cv i,.bool off,cv nk,cv na,cv nx,cv ny,w,cv zE,cv Fx],ty,1,false⟩:=by rw[eA (hold p F6)];exact gp
 have Y5:H3.get f=some ⟨fc proc a b pq qq op tape false r0 s0 rec laid,51,1,false⟩:=by rw[eA (hold f (by omega))];exact g1
 have L8:aq (.pointer (some ⟨p,8,none⟩)) H3=some (cv zE):=an p 8 H3 gp3;have S37:=gY f 37 zE H3 Y5 rfl (by simp)
 obtain⟨H4,pW⟩: ∃z,z=H3.put f ⟨fc proc a b pq qq op tape false r0 s0 zE laid,51,1,false⟩:=⟨_,rfl⟩;have e37:(fc proc a b pq qq op tape false r0 s0 rec laid).set 37 (cv zE)=fc proc a b pq qq op tape false r0 s0 zE laid:=rfl;simp only[e37] at S37;rw[←pW] at S37;have gp4:H4.get p=some ⟨[tp,cv i,.bool off,cv nk,cv na,cv nx,cv ny,w,cv zE,cv Fx],ty,1,false⟩:=by rw[pW,bt (by omega)];exact gp3
 have TV:H4.get f=some ⟨fc proc a b pq qq op tape false r0 s0 zE laid,51,1,false⟩:=by rw[pW];exact aG Y5
 have L9:aq (.pointer (some ⟨p,9,none⟩)) H4=some (cv Fx):=an p 9 H4 gp4;have S38:=gY f 38 Fx H4 TV rfl (by simp)
 obtain⟨H5,uk⟩: ∃z,z=H4.put f ⟨fc proc a b pq qq op tape false r0 s0 zE Fx,51,1,false⟩:=⟨_,rfl⟩;have e38:(fc proc a b pq qq op tape false r0 s0 zE laid).set 38 (cv Fx)=fc proc a b pq qq op tape false r0 s0 zE Fx:=rfl;simp only[e38] at S38;rw[←uk] at S38;have gp5:H5.get p=some ⟨[tp,cv i,.bool off,cv nk,cv na,cv nx,cv ny,w,cv zE,cv Fx],ty,1,false⟩:=by rw[uk,bt (by omega)];exact gp4
 have gf5:H5.get f=some ⟨fc proc a b pq qq op tape false r0 s0 zE Fx,51,1,false⟩:=by rw[uk];exact aG TV
 have L2:aq (.pointer (some ⟨p,2,none⟩)) H5=some (.bool off):=an p 2 H5 gp5;simp -implicitDefEqProofs only[n0,A2,L8,S37,L9,S38,L2,sS,Nat.reduceAdd]
 let o':aj:=abC o o3 H.length
 have ow: ∀i,i<H.length→o' i=o i:=λi hi=>if_pos hi
 have out: ∀{Hx:aa} {dn:Bool} {rr:eE} {ss:Value},Hx.get f=some ⟨fc proc a b pq qq op tape dn rr ss zE Fx,51,1,false⟩→(∀j,j≠f→Hx[j]? =H3[j]?)→Hx.length=H3.length→((rr=r0∧ss=s0)∨(rr=r∧ss=s))→FN pr T dn rr zE→∃o' Fw r' kF,Fr H o Hx o' [tf]∧hZ Hx o' f tf tg pr T Fw r' kF∧FN pr T Fw r' kF:=λ{Hx dn rr ss} gx hx hlx hrs dR=>by
  have fr:Fr H o Hx o' [tf]:=⟨λj hj hn=>by rw[hx j (by rintro rfl;exact hn (by simp[ho])),hold j (by omega)];exact ex.old j hj,ow,by omega⟩
  refine⟨o',dn,rr,zE,fr,⟨proc,a,b,pq,qq,op,tape,ss,Fx,gx,by rw[ow f FJ];exact ho,ht.fr fr (by simp;omega),hp,?_⟩,dR⟩
  rcases hrs with⟨rfl,rfl⟩|⟨rfl,rfl⟩
  ·exact⟨hs.fr fr (by simp;omega),hl,h0⟩
  ·refine⟨Y3.mv λj hj hoj=>?_,We,λe=>by subst e;exact hO⟩
   have ZH:H.length≤j:=by
    rcases Nat.lt_or_ge j H.length with g|g
    ·exact absurd hoj (TU j g).1
    ·exact g
   refine⟨eA (by rw[hx j (by omega),hold j hj]),?_⟩
   show(if j<H.length then o j else if o3 j= -41 then(-41:Int) else if o3 j= -51 then -51 else -9)= -41
   rw[if_neg (by omega),if_pos hoj]
 have h53: ∀j,j≠f→H5[j]? =H3[j]? :=λj hj=>by rw[uk,fF hj,pW,fF hj]
 have l5:H5.length=H3.length:=by rw[uk,iR,pW,iR]
 have dR: ∀dn rr,(off=false→dn=true∧rr=r)→(off=true→dn=false)→FN pr T dn rr zE:=λdn rr k1 k2=>by
  cases pr with
  |rd=>trivial
  |ex t=>
   obtain⟨e1,e2,_⟩:=hA;refine⟨?_,e2,λhd=>?_⟩
   ·rw[←e1];cases off with
    |true=>exact k2 rfl
    |false=>exact(k1 rfl).1
   ·cases off with
    |true=>rw[k2 rfl] at hd;cases hd
    |false=>rw[(k1 rfl).2];exact hO
 refine Ev.br (λhq=>?_) (λhq=>?_)<;>try simp -implicitDefEqProofs only[sS,Nat.reduceAdd]
 ·have ho0:off=false:=by cases off<;>simp_all
  have S23:=sA f 23 (.bool true) H5 gf5 rfl (by simp) rfl rfl rfl
  obtain⟨H6,DE⟩: ∃z,z=H5.put f ⟨fc proc a b pq qq op tape true r0 s0 zE Fx,51,1,false⟩:=⟨_,rfl⟩;have e23:(fc proc a b pq qq op tape false r0 s0 zE Fx).set 23 (.bool true)=fc proc a b pq qq op tape true r0 s0 zE Fx:=rfl;simp only[e23] at S23;rw[←DE] at S23;have gf6:H6.get f=some ⟨fc proc a b pq qq op tape true r0 s0 zE Fx,51,1,false⟩:=by rw[DE];exact aG gf5
  have gb6:H6.get H1.length=some ⟨oc r s,49,1,false⟩:=by rw[DE,eA (fF (by omega)),eA (h53 _ (by omega))];exact gb3
  have A6:=zB H1.length r s H6 gb6;have S24:=Y4 f r es H6 gf6;simp -implicitDefEqProofs only[S23,A6,S24,sS,Nat.reduceAdd];exact Ev.ret (out (aG gf6) (λj hj=>by rw[fF hj,DE,fF hj];exact h53 j hj) (by rw[iR,DE,iR];exact l5) (.inr ⟨rfl,rfl⟩) (dR _ _ (λ_=>⟨rfl,rfl⟩) λh=>by rw[ho0] at h;cases h))
 ·have ho0:off=true:=by cases off<;>simp_all
  exact Ev.ret (out gf5 h53 l5 (.inl ⟨rfl,rfl⟩) (dR _ _ (λh=>by rw[ho0] at h;cases h) λ_=>rfl))
end
section
open Go.Proofs.YtgfgglponbmgmaaGreatA
variable {G:ae} {H H':aa} {o o':aj} {p c mp f n i:Nat} {K K':aa→aj→Prop} {tf tg q:Int} {x:Value} {l:PL} {cs:List Value} {proc a b' pp qq rec laid:Int} {op:kp} {tape s0:Value} {done:Bool} {r0:eE} {T:List Int} {m m':Y.Mm} {pr:Pr}
structure FT (tf tg:Int):Prop where
 ne:tf≠tg
 lt:tf< -100
 lg:tg< -100
theorem oQ.ot {s:Value}{cs:List Int}(h:oQ H o q s cs):ot s s=true:=by
 obtain⟨a,c,rfl⟩:=h.isSlice;exact kU ..
def qR (pr:Pr)(done:Bool)(T:List Int)(m:Y.Mm)(T':List Int)(m':Y.Mm):Prop:=
 (done=true∧T'=T∧m'=m)∨(done=false∧match pr with
  | .rd=>m'=m∧∃z,T'=T++[z]
  | .ex t=>∃q k,Y.after t T= .ask q k∧T'=T++[(Y.db m q).1]∧m'=(Y.db m q).2)
theorem qR.len {pr:Pr}{done:Bool}{T T':List Int}{m m':Y.Mm}(h:qR pr done T m T' m'):T'.length≤T.length+1:=by
 rcases h with⟨_,rfl,_⟩|⟨_,h⟩
 ·omega
 ·cases pr with
  |rd=>obtain⟨_,z,rfl⟩:=h;simp
  |ex t=>obtain⟨q,k,_,rfl,_⟩:=h;simp
theorem Nm {t:Y.Tr eE}{T:List Int}(h:(Y.ah t (BB T)).2.off=true): ∃q k,Y.after t T= .ask q k∧(Y.ah t (BB T)).2.next=q:=by
 have:=Y.sC t (BB T) rfl
 revert this
 rw[show(BB T).rest=T from rfl]
 cases Y.after t T with
 |ret a=>rintro⟨_,h2⟩;rw[h2] at h;cases h
 |ask q k=>rintro⟨_,h2⟩;exact⟨q,k,rfl,h2⟩
 |off k=>exact False.elim
 |rc r t=>exact False.elim
 |ld t=>exact False.elim
theorem JU (h:hZ H o f tf tg pr T done r0 rec)(dR:FN pr T done r0 rec)(hm:lP H o mp m)(hT:T.length<1048576)(ht:FT tf tg):aF (run G) 20 [pv f,pv mp] H λv H'=>∃o' T' m' d r' kF,v= .bool d∧Fr H o H' o' [tf,tg, -70, -71]∧hZ H' o' f tf tg pr T' d r' kF∧FN pr T' d r' kF∧lP H' o' mp m'∧qR pr done T m T' m':=by
 refine Ev.up (t:=λk=>F20 (run G k) k (pv f) (pv mp) H) ?_ λk=>WJ ..
 obtain⟨proc,a,b,pq,qq,op,tape,s0,laid,g,ho,hs,hp,vn,hl,h0⟩:=id h;have dC:=ht.ne;have gH:=ht.lt;have hlg:=ht.lg;have FJ:=ar g;have L23:aq (.pointer (some ⟨f,23,none⟩)) H=some (.bool done):=an f 23 H g;simp -implicitDefEqProofs only[F20,L23,sS,Nat.reduceAdd];refine Ev.br (λhd=>?_) (λhd=>?_)<;>try simp -implicitDefEqProofs only[sS,Nat.reduceAdd]
 ·subst hd;exact Ev.ret ⟨o,T,m,true,_,_,rfl,Fr.refl _ _ _,h,dR,hm,.inl ⟨rfl,rfl,rfl⟩⟩
 subst hd;refine Ev.call (Qu g hs.ints (by omega) hp h0) ?_
 rintro v H1 ⟨p,r,s,o3,rfl,ex,VP,hr3,Y3,We,hO,TU⟩;obtain⟨sa,sc,es⟩:=Y3.isSlice;have l1:=ex.size;have g1:=ex.get g;have Rr:mp<H.length:=by obtain⟨_,_,_,_,_,gm,_⟩:=hm;exact ar gm
 obtain⟨tp,w,W,off,i,nk,na,nx,ny,zE,Fx,ty,gp,hw,hA⟩:=hr3;have F6:=ar gp;obtain⟨H2,iJ⟩: ∃z,z=H1.new ⟨oc fV aA,49,1,false⟩:=⟨_,rfl⟩;have l2:H2.length=H1.length+1:=by rw[iJ,cD]
 have gb:H2.get H1.length=some ⟨oc fV aA,49,1,false⟩:=by rw[iJ];exact aL
 have n0:aV H1 49 1 [cv 0,.bool false,cv 0,cv 0,cv 0,aA,aA,cv 0,.bool false,cv 0,cv 0,cv 0,aA]=(pv H1.length,H2):=by rw[iJ];rfl
 have A2:=uR H1.length r es fV aA H2 gb;obtain⟨H3,mH⟩: ∃z,z=H2.put H1.length ⟨oc r s,49,1,false⟩:=⟨_,rfl⟩;rw[←mH] at A2;have hold: ∀j,j<H1.length→H3[j]? =H1[j]? :=λj hj=>by rw[mH,fF (by omega),iJ,mR hj]
 let o1:aj:=abC o o3 H.length
 have Z0:Fr H o H3 o1 []:=⟨λj hj _=>by rw[hold j (by omega)];exact ex.old j hj,λj hj=>if_pos hj,by rw[mH,iR,l2];omega⟩
 have gp3:H3.get p=some ⟨[tp,cv i,.bool off,cv nk,cv na,cv nx,cv ny,w,cv zE,cv Fx],ty,1,false⟩:=by rw[eA (hold p F6)];exact gp
 have Y5:H3.get f=some ⟨fc proc a b pq qq op tape false r0 s0 rec laid,51,1,false⟩:=by rw[eA (hold f (by omega))];exact g1
 have UE:=hm.fr Z0 (by simp) (by simp)
 have AN:=oQ.ot hs;have LT3:aq (.pointer (some ⟨f,22,none⟩)) H3=some tape:=an f 22 H3 Y5;have LA:dh 5 (.pointer (some ⟨p,3,none⟩)) H3=some (nA nk na nx ny w):=by simp[dh,aR,gp3]
 have ZU:eO H3 w W:=hw.1.keep λk b e dC=>eA (hold _ (hw.2 b _ _ e dC).1)
 have YY:W≠[]→∀a n c,w= .slice (some a) n c→a.block≠mp:=λdC a n c e hh=>by
  have:=(hw.2 a n c e dC).2
  rw[hh] at this;exact(TU mp Rr).2 this
 simp -implicitDefEqProofs only[n0,A2,LT3,LA,sS,Nat.reduceAdd];have z8:JM (λH' o'=>Fr H3 o1 H' o' [-70, -71]) mp m H3:=⟨bH.base (by simp),o1,UE,Fr.refl _ _ _⟩
 have V0:aF (run G) 71 [pv mp,nA nk na nx ny w] H3 λv H'=>∃u m',v=cv u∧JM (λH' o'=>Fr H3 o1 H' o' [-70, -71]) mp m' H'∧qR pr false T m (T++[u]) m':=by
  cases pr with
  |rd=>
   refine(adw z8 hA na nx ny ZU).mono ?_;rintro v H' ⟨⟨u,rfl⟩,hj⟩;exact⟨u,m,rfl,hj,.inr ⟨rfl,rfl,u,rfl⟩⟩
  |ex t=>
   obtain⟨e1,e2,hq⟩:=hA;have abD:(Y.ah t (BB T)).2.off=true:=by
    have:=dR.1
    revert this;cases(Y.ah t (BB T)).2.off<;>simp
   obtain⟨q,k,ea,en⟩:=Nm abD;have hq':=hq (e1.trans abD);rw[en] at hq';refine(adv z8 hq' ZU YY).mono ?_;rintro v H' ⟨rfl,hj⟩;exact⟨_,_,rfl,hj,.inr ⟨rfl,q,k,ea,rfl,rfl⟩⟩
 refine Ev.call V0 ?_;rintro v H4 ⟨u,m',rfl,⟨_,o4,hm4,fr4⟩,zF⟩;have abE:o1 f=tf:=by show(if f<H.length then o f else _)=tf;rw[if_pos FJ];exact ho
 have TV:H4.get f=some ⟨fc proc a b pq qq op tape false r0 s0 rec laid,51,1,false⟩:=by rw[fr4.same f (ar Y5) (by rw[abE];simp;omega)];exact Y5
 have abF:o4 f=tf:=by rw[fr4.own f (ar Y5)];exact abE
 have hs4:oQ H4 o4 tg tape T:=(hs.fr Z0 (by simp)).fr fr4 (by simp;omega)
 have adz:gT H4 o4 (-41) s0 r0.res.list:=(vn.fr Z0 (by simp)).fr fr4 (by simp)
 obtain⟨H5,uk⟩: ∃z,z=H4.new ⟨[cv u],2,1,false⟩:=⟨_,rfl⟩;have b1:=Ar u H4;rw[←uk] at b1;have gf5:H5.get f=some ⟨fc proc a b pq qq op tape false r0 s0 rec laid,51,1,false⟩:=by rw[uk,dq (ar TV)];exact TV
 have LT4:aq (.pointer (some ⟨f,22,none⟩)) H4=some tape:=an f 22 H4 TV;have LT5:aq (.pointer (some ⟨f,22,none⟩)) H5=some tape:=an f 22 H5 gf5;obtain⟨x',H6,o6,e6,s6,fr6⟩:=PZ 2 2 u hs4 (by omega)
 rw[←uk] at e6;have gf6:H6.get f=some ⟨fc proc a b pq qq op tape false r0 s0 rec laid,51,1,false⟩:=by rw[fr6.same f (ar TV) (by rw[abF];simp;omega)];exact TV
 have abG:o6 f=tf:=by rw[fr6.own f (ar TV)];exact abF
 obtain⟨xa,xc,exx⟩:=s6.isSlice;have S22:=G8 f 22 xa (T++[u]).length xc H6 gf6 rfl (by simp)
 rw[←exx] at S22;have e22:(fc proc a b pq qq op tape false r0 s0 rec laid).set 22 x'=fc proc a b pq qq op x' false r0 s0 rec laid:=rfl;simp only[e22] at S22;obtain⟨H7,Rg⟩: ∃z,z=H6.put f ⟨fc proc a b pq qq op x' false r0 s0 rec laid,51,1,false⟩:=⟨_,rfl⟩;rw[←Rg] at S22;have fr7:Fr H6 o6 H7 o6 [tf]:=by rw[Rg];exact(Fr.refl H6 o6 [tf]).put λ_=>by simp[abG]
 have hf7:hZ H7 o6 f tf tg pr (T++[u]) false r0 rec:=⟨proc,a,b,pq,qq,op,x',s0,laid,by rw[Rg];exact aG gf6,abG,s6.fr fr7 (by simp;omega),hp,(adz.fr fr6 (by simp;omega)).fr fr7 (by simp;omega),hl,h0⟩
 have hm7:lP H7 o6 mp m':=(hm4.fr fr6 (by simp;omega) (by simp;omega)).fr fr7 (by simp;omega) (by simp;omega)
 have frA:Fr H o H7 o6 [tf,tg, -70, -71]:=(((Z0.trans fr4 (rs:=[tf,tg, -70, -71]) (by simp) (by simp)).trans fr6 (rs:=[tf,tg, -70, -71]) (by simp) (by simp))).trans fr7 (by simp) (by simp)
 simp -implicitDefEqProofs only[b1,e6,S22,LT3,LT4,LT5,AN,sS,Nat.reduceAdd];refine Ev.call (Fv hf7 (by simp;omega) ⟨by omega,by omega⟩) ?_
 rintro v H8 ⟨o8,d,r',kF,fr8,hf8,adA⟩;obtain⟨abH,a',b',p',q',op',Qs,s',Qt,g8,_⟩:=id hf8;have L8:aq (.pointer (some ⟨f,23,none⟩)) H8=some (.bool d):=an f 23 H8 g8;simp -implicitDefEqProofs only[L8,sS,Nat.reduceAdd];exact Ev.ret ⟨o8,T++[u],m',d,r',kF,rfl,frA.trans fr8 (by simp) (by simp),hf8,adA,hm7.fr fr8 (by simp;omega) (by simp;omega),zF⟩
theorem TW (a b p q:Int)(op:kp)(H:aa):dL 41 (.agg (ax a b p q op).toArray) H=some (pv H.length,H.new ⟨ax a b p q op,41,1,false⟩):=by
 simp[dL,Value.cells,aD,aV]
theorem Y6 (i:Nat)(a b p q:Int)(op:kp)(H:aa)(h:H.get i=some ⟨ax a b p q op,41,1,false⟩):dh 21 (pv i) H=some (.agg (ax a b p q op).toArray):=by
 simp[dh,aR,h]
theorem TX (proc a b p q:Int)(op:kp):aE Tryz.prog 51 [(0,cv proc),(1,.agg (ax a b p q op).toArray)]=some (.agg (fc proc a b p q op aA false fV aA 0 0).toArray):=by kernel_rfl
theorem Qv (proc a b p q:Int)(op:kp)(H:aa):dL 51 (.agg (fc proc a b p q op aA false fV aA 0 0).toArray) H=some (pv H.length,H.new ⟨fc proc a b p q op aA false fV aA 0 0,51,1,false⟩):=by
 simp[dL,Value.cells,aD,aV]
theorem HB (ht:FT tf tg){a b p q:Int}(hp:zD pr proc a b p q op)(H:aa)(o:aj):aF (run G) 17 [cv proc,.agg (ax a b p q op).toArray] H λv H'=>∃f o' done r rec,v=pv f∧Fr H o H' o' [tf]∧hZ H' o' f tf tg pr [] done r rec∧FN pr [] done r rec:=by
 refine Ev.up (t:=λk=>F17 (run G k) k (cv proc) (.agg (ax a b p q op).toArray) H) ?_ λk=>Ww ..
 have dC:=ht.ne;have gH:=ht.lt;obtain⟨H1,gg⟩: ∃z,z=H.new ⟨ax a b p q op,41,1,false⟩:=⟨_,rfl⟩;have l1:H1.length=H.length+1:=by rw[gg,cD]
 have g1:H1.get H.length=some ⟨ax a b p q op,41,1,false⟩:=by rw[gg];exact aL
 obtain⟨H2,iJ⟩: ∃z,z=H1.new ⟨fc proc a b p q op aA false fV aA 0 0,51,1,false⟩:=⟨_,rfl⟩;have b1:=TW a b p q op H;rw[←gg] at b1;have b2:=Qv proc a b p q op H1;rw[←iJ] at b2;have A1:=Y6 H.length a b p q op H1 g1;have f1:Fr H o H1 (o.up H.length (-9)) []:=by rw[gg];exact(Fr.refl H o []).new _ _
 have f2:Fr H o H2 ((o.up H.length (-9)).up H1.length tf) []:=by rw[iJ];exact f1.new _ _
 have TY:hZ H2 ((o.up H.length (-9)).up H1.length tf) H1.length tf tg pr [] false fV 0:=⟨proc,a,b,p,q,op,aA,aA,0,by rw[iJ];exact aL,aP,.inl ⟨rfl,rfl⟩,hp,.nil,by simp[fV,bS],λ_=>⟨rfl,rfl⟩⟩
 have ab:=TX proc a b p q op;simp -implicitDefEqProofs only[F17,b1,A1,ab,b2,sS,Nat.reduceAdd];refine Ev.call (Fv TY (by simp) ⟨by omega,by omega⟩) ?_
 rintro v H3 ⟨o3,d,r',kF,Z0,hf3,Y7⟩
 try simp -implicitDefEqProofs only[sS,Nat.reduceAdd]
 exact Ev.ret ⟨H1.length,o3,d,r',kF,rfl,f2.trans Z0 (by simp) (by simp),hf3,Y7⟩
end
theorem uI:Tryz.prog.underlying 3=some (.int .i64):=by kernel_rfl
theorem u64:Tryz.prog.underlying 2=some (.int .i64):=by kernel_rfl
section
variable {G:ae} {H:aa} {o:aj} {q:Int} {x:Value} {l:PL} {n p:Nat}
end
structure kq where
 kind:Int
 Qw:Int
 no:Int
 op:kp
 res:eQ
 pick:Int
section
variable {H:aa} {o:aj} {p:Int} {s:Value} {cs:List Value} {b:Option Nat}
end
abbrev fH (e:kq)(s:Value):List Value:=[cv e.kind,cv e.Qw,cv e.no,cv e.op.kind,cv e.op.key,cv e.op.value,cv e.res.Fa,.bool e.res.found,cv e.res.key,cv e.res.value,cv e.res.n,s,cv e.pick]
abbrev evA (e:kq)(s:Value):Value:=.agg #[cv e.kind,cv e.Qw,cv e.no,cv e.op.kind,cv e.op.key,cv e.op.value,cv e.res.Fa,.bool e.res.found,cv e.res.key,cv e.res.value,cv e.res.n,s,cv e.pick]
section
variable {H:aa} {b:Nat} {t:TypeId} {r:eQ} {e:kq} {s:Value}
end
section
variable {H:aa} {o:aj} {q:Int} {n p:Nat} {l:PL}
end
end Go.Proofs.YtgfgglponbmgmaaGreat.Fun
namespace Go.Proofs.YtgfgglponbmgmaaGreat.Fun
open Go Go.RowKit Go.Proofs.YtgfgglponbmgmaaGreatA.Am
set_option maxRecDepth 10000
section
variable {G:ae} {H:aa} {o:aj} {q:Int} {n c:Nat} {sm:Value} {bm:Option Nat} {t:Nat} {ms:List (Nat×PL)} {ty:TypeId} {inv:Int}
end
end Go.Proofs.YtgfgglponbmgmaaGreat.Fun
namespace Go.Proofs.YtgfgglponbmgmaaGreat.Fun
open Go Go.RowKit Go.Proofs.YtgfgglponbmgmaaGreatA.Am
set_option maxRecDepth 10000
section
variable {H:aa} {o:aj} {q:Int} {n c:Nat} {e:kq} {x:Value}
end
end Go.Proofs.YtgfgglponbmgmaaGreat.Fun
namespace Go.Proofs.YtgfgglponbmgmaaGreat.Fun
open Go Go.RowKit Go.Proofs.YtgfgglponbmgmaaGreatA.Am
set_option maxRecDepth 10000
section
variable {H:aa} {o:aj} {q:Int} {n c:Nat} {e:kq} {x:Value}
end
end Go.Proofs.YtgfgglponbmgmaaGreat.Fun
namespace Go.Proofs.YtgfgglponbmgmaaGreat.Fun
open Go Go.RowKit Go.Proofs.YtgfgglponbmgmaaGreatA.Am
set_option maxRecDepth 10000
section
variable {H H':aa} {o o':aj} {q q2:Int} {x:Value} {L:List kq}
end
section
variable {H:aa} {o:aj} {q q2:Int} {n:Nat} {x:Value} {L:List kq} {B:Nat}
end
def BC:List (kq×Value)→List Value
 | []=>[]
 |x::l=>fH x.1 x.2++BC l
theorem JV: ∀l:List (kq×Value),(BC l).length=13*l.length
 | []=>rfl
 |x::l=>by simp only[BC,List.length_append,List.length_cons,JV l];simp;omega
theorem Dr: ∀a b:List (kq×Value),BC (a++b)=BC a++BC b
 | [],b=>rfl
 |x::a,b=>by simp only[List.cons_append,BC,Dr a b,List.append_assoc]
def HC (H:aa)(o:aj)(q q2:Int)(x:Value)(L:List kq):Prop:=
 (x= .slice none 0 0∧L=[])∨∃i cap rest ty es,x= .slice (some ⟨i,0,none⟩) L.length cap∧H.get i=some ⟨BC es++rest,ty,13,false⟩∧L=es.map (λz=>z.1)∧13*L.length+rest.length=13*cap∧o i=q∧∀z∈es,gT H o q2 z.2 z.1.res.list
section
variable {H H':aa} {o o':aj} {q q2:Int} {x:Value} {L:List kq}
theorem HC.fr {ps:List Int}(h:HC H o q q2 x L)(f:Fr H o H' o' ps)(h1:q ∉ ps)(h2:q2 ∉ ps):HC H' o' q q2 x L:=by
 rcases h with h|⟨i,cap,rest,ty,es,e1,e2,e3,e4,e5,e6⟩
 ·exact .inl h
 ·exact .inr ⟨i,cap,rest,ty,es,e1,by rw[f.same i (ar e2) (by rw[e5];exact h1)];exact e2,e3,e4,by rw[f.own i (ar e2)];exact e5,λz hz=>(e6 z hz).fr f h2⟩
theorem TZ (x:kq×Value)(a:Option Addr)(m c:Nat)(es:x.2= .slice a m c):(fH x.1 x.2).all aD=true:=by
 rw[es];rfl
theorem HC.app {j:Nat}{e:kq}{s:Value}{t tE:TypeId}(h:HC H o q q2 x L)(hj:H.get j=some ⟨fH e s,t,13,false⟩)(hs:gT H o q2 s e.res.list)(hq:q2≠q)(hl:L.length<4294967295):
  ∃x' H' o',dk tE 13 120 x (.slice (some ⟨j,0,none⟩) 1 1) H=some (x',H')∧HC H' o' q q2 x' (L++[e])∧Fr H o H' o' [q]:=by
 have uW:aR H j 0 13=some (fH e s):=by simp[aR,hj]
 obtain⟨sa,sm,esl⟩:=hs.isSlice;have zW:=TZ (e,s) _ _ _ esl;rcases h with⟨rfl,rfl⟩|⟨i,cap,rest,ty,es,rfl,h2,rfl,h4,h5,h6⟩
 ·have f:Fr H o (H.new ⟨fH e s,tE,13,false⟩) (o.up H.length q) [q]:=(Fr.refl _ _ _).new _ _;refine⟨.slice (some ⟨H.length,0,none⟩) 1 1,H.new ⟨fH e s,tE,13,false⟩,o.up H.length q,?_,.inr ⟨H.length,1,[],tE,[(e,s)],rfl,by rw[aL];simp[Fun.BC],rfl,rfl,aP,λz hz=>?_⟩,f⟩
  ·simp[dk,cJ,uW]
  ·have:z=(e,s):=by simpa using hz
   subst this;exact hs.fr f (by simpa using hq)
 ·have ZT:=ar h2;have hel:=JV es;simp only[List.length_map] at h4 hl ⊢;by_cases jn:es.length+1≤cap
  ·have VI:dz (Fun.BC es++rest) (13*es.length) (fH e s)=Fun.BC (es++[(e,s)])++rest.drop 13:=by
    have h9:=qL (fH e s) (Fun.BC es) rest (by simp;omega)
    rw[hel] at h9;rw[h9,Dr];simp[Fun.BC]
   have kY:bZ H i (0+es.length*13) (fH e s)=some (H.put i ⟨Fun.BC (es++[(e,s)])++rest.drop 13,ty,13,false⟩):=by
    simp only[bZ,h2,zW];rw[if_pos (by simp[hel];omega),show 0+es.length*13=13*es.length by omega,VI]
   have f:Fr H o (H.put i ⟨Fun.BC (es++[(e,s)])++rest.drop 13,ty,13,false⟩) o [q]:=(Fr.refl _ _ _).put λ_=>by simp[h5]
   refine⟨.slice (some ⟨i,0,none⟩) (es.length+1) cap,_,o,?_,.inr ⟨i,cap,rest.drop 13,ty,es++[(e,s)],by simp,aG h2,by simp,by simp;omega,h5,λz hz=>?_⟩,f⟩
   ·simp only[dk,cJ,Nat.one_mul];rw[if_neg (by omega)]
    simp only[uW,Option.map_some];rw[if_pos jn,if_neg (by omega)]
    simp only[h2,if_true,kY,Option.map_some]
   ·rcases List.mem_append.1 hz with hz|hz
    ·exact(h6 z hz).fr f (by simpa using hq)
    ·have:z=(e,s):=by simpa using hz
     subst this;exact hs.fr f (by simpa using hq)
  ·have hold:aR H i 0 (es.length*13)=some (Fun.BC es):=by
    simp only[aR,h2];rw[if_pos (by simp[hel];omega),List.drop_zero,List.take_left' (by omega)]
   have f:Fr H o ((H.kill i).new ⟨Fun.BC es++fH e s,tE,13,false⟩) (o.up H.length q) [q]:=by
    have:=((Fr.refl H o [q]).kill (i:=i) (λ_=>by simp[h5])).new ⟨Fun.BC es++fH e s,tE,13,false⟩ q
    rw[gF] at this;exact this
   refine⟨.slice (some ⟨H.length,0,none⟩) (es.length+1) (es.length+1),_,o.up H.length q,?_,.inr ⟨H.length,es.length+1,[],tE,es++[(e,s)],by simp,?_,by simp,by simp,aP,λz hz=>?_⟩,f⟩
   ·simp only[dk,cJ,Nat.one_mul];rw[if_neg (by omega)]
    simp only[uW,Option.map_some];rw[if_neg jn,if_pos (by simp;omega)]
    simp only[h2];rw[if_pos (by simp[hel];omega)]
    simp only[hold]
   ·have:=aL (H:=H.kill i) (c:=⟨Fun.BC es++fH e s,tE,13,false⟩)
    rw[gF] at this;rw[Dr];simpa[Fun.BC] using this
   ·rcases List.mem_append.1 hz with hz|hz
    ·exact(h6 z hz).fr f (by simpa using hq)
    ·have:z=(e,s):=by simpa using hz
     subst this;exact hs.fr f (by simpa using hq)
end
end Go.Proofs.YtgfgglponbmgmaaGreat.Fun
end
