/- Texts of the proof of dcssPlays_holds, put together by a small program of ours (names shortened, spaces taken out). No condition beyond the given statement. -/
import Derived.Test.YtgfgglponbmgmaaGreatDCP14
import Derived.Test.YtgfgglponbmgmaaGreatDCP34
import Derived.Test.YtgfgglponbmgmaaGreatDCP15
import Derived.Test.YtgfgglponbmgmaaGreatDCP12
set_option linter.unusedVariables false
set_option linter.unusedSimpArgs false
set_option linter.unnecessarySimpa false
noncomputable section
section
namespace Go.Proofs.YtgfgglponbmgmaaGreat.Fun
open Go Go.RowKit Go.Proofs.YtgfgglponbmgmaaGreatA.Am
set_option maxRecDepth 10000
section
open Go.Proofs.YtgfgglponbmgmaaGreatA
variable {G:ae} {H H':aa} {o o':aj} {p c mp f xp:Nat} {q:Int} {x:Value} {l:PL} {n i:Nat} {m m':Y.Mm} {T:List Int}
structure QD where
 ti:Nat
 busy:Bool
 hY:Bool
 T:List Int
 pr:Pr
def uQ (t:QD):Nat:=if t.busy then(if t.hY then 1 else 2) else 0
def VS (H:aa)(o:aj)(i:Nat)(s:QD):Prop:=
 ∃(bud k key val steps no:Int) (F:Value) (ty:TypeId),H.get s.ti=some ⟨[cv bud,.bool s.busy,cv k,cv key,cv val,F,cv steps,.bool s.hY,cv no],ty,1,false⟩∧o s.ti= -200-i∧(s.busy=true→∃f done r rec,F=pv f∧gy H o f (-210-i) (-220-i) s.pr s.T done r rec∧FB s.pr s.T done r rec)
theorem VS.fr {ps:List Int}{s:QD}(h:VS H o i s)(fr:Fr H o H' o' ps)(h1:(-200-i:Int) ∉ ps)(h2:(-210-i:Int) ∉ ps)(h3:(-220-i:Int) ∉ ps)(h4:(-41:Int) ∉ ps):VS H' o' i s:=by
 obtain⟨bud,k,key,val,steps,no,F,ty,g,ho,hF⟩:=h;exact⟨bud,k,key,val,steps,no,F,ty,by rw[fr.same s.ti (ar g) (by rw[ho];exact h1)];exact g,by rw[fr.own s.ti (ar g)];exact ho,λhb=>by
  obtain⟨f,d,r,rec,e,hf,dH⟩:=hF hb;exact⟨f,d,r,rec,e,hf.fr fr h2 h3 h4,dH⟩⟩
theorem ftI (i:Nat):FT (-210-i) (-220-i):=⟨by omega,by omega,by omega⟩
abbrev jy:=Nat→QD
def oU (th:jy)(i:Nat)(s:QD):jy:=λj=>if j=i then s else th j
def WR (H:aa)(o:aj)(xp mp:Nat)(m:Y.Mm)(th:jy)(L:List jV):Prop:=
 ∃(c0 c1 c2 inv dG:Int) (tb cap:Nat) (Lx:Value) (rest:List Value) (ty mT:TypeId),
  H.get xp=some ⟨[cv c0,cv c1,cv c2,pv mp,.slice (some ⟨tb,0,none⟩) 3 cap,Lx,cv inv,cv dG],ty,1,false⟩∧o xp= -80∧
  H.get tb=some ⟨pv (th 0).ti::pv (th 1).ti::pv (th 2).ti::rest,mT,1,false⟩∧o tb= -81∧
  lL H o mp m∧(∀i,i<3→VS H o i (th i))∧Hs H o (-82) (-41) Lx L
abbrev wt:List Int:=[-70, -71, -80, -81, -82, -200, -201, -202, -210, -211, -212, -220, -221, -222]
theorem JN (hi:i<3): ∀z∈([-200-i, -210-i, -220-i, -70, -71]:List Int),z∈wt:=by
 have:i=0∨i=1∨i=2:=by omega
 rcases this with rfl|rfl|rfl<;>simp
theorem WR.Fe {th:jy}{L:List jV}{s':QD}(h:WR H o xp mp m th L)(hi:i<3)(fr:Fr H o H' o' [-200-i, -210-i, -220-i, -70, -71])(ht:VS H' o' i s')(ZI:s'.ti=(th i).ti)(hm:lL H' o' mp m'):WR H' o' xp mp m' (oU th i s') L:=by
 obtain⟨c0,c1,c2,inv,dG,tb,cap,Lx,rest,ty,mT,g,ho,gt,kR,_,mQ,hL⟩:=h;have key: ∀j,(Fun.oU th i s' j).ti=(th j).ti:=λj=>by
  unfold Fun.oU;split
  ·rename_i e;rw[e];exact ZI
  ·rfl
 refine⟨c0,c1,c2,inv,dG,tb,cap,Lx,rest,ty,mT,?_,?_,?_,?_,hm,λj hj=>?_,hL.fr fr (by simp<;>omega) (by simp<;>omega)⟩
 ·rw[fr.same xp (ar g) (by rw[ho];simp;omega)];exact g
 ·rw[fr.own xp (ar g)];exact ho
 ·rw[fr.same tb (ar gt) (by rw[kR];simp;omega),key,key,key];exact gt
 ·rw[fr.own tb (ar gt)];exact kR
 ·unfold Fun.oU;split
  ·rename_i e;subst e;exact ht
  ·rename_i e;exact(mQ j hj).fr fr (by simp<;>omega) (by simp<;>omega) (by simp<;>omega) (by simp<;>omega)
theorem WR.uJ {th:jy}{L:List jV}{ps:List Int}(h:WR H o xp mp m th L)(fr:Fr H o H' o' ps)(hp: ∀z∈ps,z ∉ (-41:Int)::wt):WR H' o' xp mp m th L:=by
 obtain⟨c0,c1,c2,inv,dG,tb,cap,Lx,rest,ty,mT,g,ho,gt,kR,hm,mQ,hL⟩:=h;have np: ∀z∈(-41:Int)::wt,z ∉ ps:=λz hz hh=>hp z hh hz
 refine⟨c0,c1,c2,inv,dG,tb,cap,Lx,rest,ty,mT,?_,?_,?_,?_,hm.fr fr (np _ (by simp)) (np _ (by simp)),λj hj=>?_,hL.fr fr (np _ (by simp)) (np _ (by simp))⟩
 ·rw[fr.same xp (ar g) (by rw[ho];exact np _ (by simp))];exact g
 ·rw[fr.own xp (ar g)];exact ho
 ·rw[fr.same tb (ar gt) (by rw[kR];exact np _ (by simp))];exact gt
 ·rw[fr.own tb (ar gt)];exact kR
 ·have:j=0∨j=1∨j=2:=by omega
  rcases this with rfl|rfl|rfl
  ·exact(mQ 0 hj).fr fr (np _ (by simp)) (np _ (by simp)) (np _ (by simp)) (np _ (by simp))
  ·exact(mQ 1 hj).fr fr (np _ (by simp)) (np _ (by simp)) (np _ (by simp)) (np _ (by simp))
  ·exact(mQ 2 hj).fr fr (np _ (by simp)) (np _ (by simp)) (np _ (by simp)) (np _ (by simp))
theorem T9 {th:jy}{L:List jV}(h:WR H o xp mp m th L)(hi:i<3)(hb:(th i).busy=true)(hT:(th i).T.length<1048576):aF (run G) 101 [pv (th i).ti,pv mp] H λv H'=>∃o' r s e T' m' done,
  v= .tuple #[gu r s,.bool e]∧Fr H o H' o' [-200-i, -210-i, -220-i, -70, -71]∧WR H' o' xp mp m' (oU th i ⟨(th i).ti, !e,(th i).hY,T',(th i).pr⟩) L∧qQ (th i).pr done (th i).T m T' m'∧gU H' o' (-41) s r.list∧r.list.length≤1048577:=by
 refine Ev.up (t:=λk=>XN (run G k) k (pv (th i).ti) (pv mp) H) ?_ λk=>Sk ..
 obtain⟨H1,fY⟩: ∃z,z=H.new ⟨rc bS,47,1,false⟩:=⟨_,rfl⟩;have n0:aS H 47 1 [cv 0,.bool false,cv 0,cv 0,cv 0,aA]=(pv H.length,H1):=by rw[fY];rfl
 have f1:Fr H o H1 (o.up H.length (-9)) []:=by rw[fY];exact(Fr.refl H o []).new _ _
 have c1:Cl H.length (rc bS) 47 H1 (o.up H.length (-9)):=by rw[fY];exact Cl.made
 have h1:=h.uJ f1 (by simp)
 obtain⟨ti,et⟩: ∃ti,ti=(th i).ti:=⟨_,rfl⟩;rw[←et];obtain⟨c0',_,_,_,_,_,_,_,_,_,_,_,_,_,_,hm,mQ,_⟩:=id h1;obtain⟨bud,k,key,val,steps,no,F,ty,g,kR,hF⟩:=mQ i hi;obtain⟨f,dn,r0,aei,rfl,hf,dH⟩:=hF hb;rw[←et] at g kR;rw[hb] at g;have L1:aq (.pointer (some ⟨ti,1,none⟩)) H1=some (.bool true):=an ti 1 H1 g;have L6:aq (.pointer (some ⟨ti,6,none⟩)) H1=some (cv steps):=an ti 6 H1 g;have S6:=gY ti 6 (IntKind.i64.wrap (steps+1)) H1 g rfl (by simp)
 simp only[List.set_cons_succ,List.set_cons_zero] at S6;obtain⟨H2,iB⟩: ∃z,z=H1.put ti ⟨[cv bud,.bool true,cv k,cv key,cv val,pv f,cv (IntKind.i64.wrap (steps+1)),.bool (th i).hY,cv no],ty,1,false⟩:=⟨_,rfl⟩;rw[←iB] at S6;have g2:H2.get ti=some ⟨[cv bud,.bool true,cv k,cv key,cv val,pv f,cv (IntKind.i64.wrap (steps+1)),.bool (th i).hY,cv no],ty,1,false⟩:=by rw[iB];exact aH g
 have f2:Fr H1 (o.up H.length (-9)) H2 (o.up H.length (-9)) [-200-i]:=by rw[iB];exact(Fr.refl _ _ _).put λ_=>by simp[kR]
 have L5:aq (.pointer (some ⟨ti,5,none⟩)) H2=some (pv f):=an ti 5 H2 g2;have ZG:=hf.fr f2 (by simp<;>omega) (by simp<;>omega) (by simp<;>omega)
 have Kg:=hm.fr f2 (by simp<;>omega) (by simp<;>omega)
 simp -implicitDefEqProofs only[XN,n0,L1,L6,S6,L5,sS,Nat.reduceAdd];refine Ev.call (JK ZG dH Kg hT (ftI i)) ?_;rintro v H3 ⟨o3,T',m',d,r1,aej,rfl,f3,hf3,ZH,US,zG⟩;have f13:Fr H1 (o.up H.length (-9)) H3 o3 [-200-i, -210-i, -220-i, -70, -71]:=f2.trans f3 (by simp) (by simp)
 have c3:Cl H.length (rc bS) 47 H3 o3:=c1.fr f13 (by simp<;>omega)
 have wv:(o.up H.length (-9)) ti= -200-i:=kR;have g3:H3.get ti=some ⟨[cv bud,.bool true,cv k,cv key,cv val,pv f,cv (IntKind.i64.wrap (steps+1)),.bool (th i).hY,cv no],ty,1,false⟩:=by rw[f3.same ti (ar g2) (by rw[wv];simp;omega)];exact g2
 have ho3:o3 ti= -200-i:=by rw[f3.own ti (ar g2)];exact wv
 have dx:ti≠H.length:=by
  rintro rfl;have:=c1.2
  omega
 cases d<;>simp -implicitDefEqProofs only[sS,Nat.reduceAdd]
 ·have A:=uc H.length bS (s:=aA) rfl H3 c3.1 rfl;obtain⟨H4,pM⟩: ∃z,z=H3.put H.length ⟨rc bS,47,1,false⟩:=⟨_,rfl⟩;have e4:(⟨[cv bS.ET,.bool bS.found,cv bS.key,cv bS.value,cv bS.n,aA],47,1,false⟩:eS)=⟨rc bS,47,1,false⟩:=rfl;rw[e4, ←pM] at A;have c4:Cl H.length (rc bS) 47 H4 o3:=by rw[pM];exact c3.self
  have Lr:=pL H.length bS (s:=aA) H4 c4.1;have f4:Fr H3 o3 H4 o3 [-9]:=by rw[pM];exact(Fr.refl _ _ _).put λ_=>by simp[c3.2]
  simp -implicitDefEqProofs only[De,A,Lr,sS,Nat.reduceAdd];have g4:H4.get ti=some ⟨[cv bud,.bool true,cv k,cv key,cv val,pv f,cv (IntKind.i64.wrap (steps+1)),.bool (th i).hY,cv no],ty,1,false⟩:=by rw[pM,bA dx];exact g3
  have ht3:VS H3 o3 i ⟨(th i).ti,true,(th i).hY,T',(th i).pr⟩:=⟨bud,k,key,val,_,no,pv f,ty,by rw[←et];exact g3,by rw[←et];exact ho3,λ_=>⟨f,_,_,_,rfl,hf3,ZH⟩⟩
  have hw3:=h1.Fe hi f13 ht3 rfl US;have Tm:=hw3.uJ f4 (by simp)
  refine Ev.ret ⟨o3,bS,aA,false,T',m',dn,rfl,?_,by rw[et];exact Tm,zG,.nil,by simp[bS]⟩
  have fA:=(f1.trans f13 (rs:=[-200-i, -210-i, -220-i, -70, -71]) (by simp) (λ_ h=>h))
  refine⟨λj hj hn=>?_,λj hj=>fA.own j hj,by have:=fA.size;have:=f4.size;show H.length≤H4.length;omega⟩
  show H4[j]? =_
  rw[pM,fD (by omega)];exact fA.slot j hj hn
 ·have S1:=sr ti 1 (.bool false) H3 g3 rfl (by simp) rfl rfl rfl
  simp only[List.set_cons_succ,List.set_cons_zero] at S1;obtain⟨H4,pM⟩: ∃z,z=H3.put ti ⟨[cv bud,.bool false,cv k,cv key,cv val,pv f,cv (IntKind.i64.wrap (steps+1)),.bool (th i).hY,cv no],ty,1,false⟩:=⟨_,rfl⟩;rw[←pM] at S1;have g4:H4.get ti=some ⟨[cv bud,.bool false,cv k,cv key,cv val,pv f,cv (IntKind.i64.wrap (steps+1)),.bool (th i).hY,cv no],ty,1,false⟩:=by rw[pM];exact aH g3
  have f4:Fr H3 o3 H4 o3 [-200-i]:=by rw[pM];exact(Fr.refl _ _ _).put λ_=>by simp[ho3]
  have L5':aq (.pointer (some ⟨ti,5,none⟩)) H4=some (pv f):=an ti 5 H4 g4;have hf4:=hf3.fr f4 (by simp<;>omega) (by simp<;>omega) (by simp<;>omega)
  have hm4:=US.fr f4 (by simp<;>omega) (by simp<;>omega)
  obtain⟨abS,a',b',p',q',op',Qx,s',Qy,gf,hof,UN,HQ,uG,VT,_⟩:=id hf4;obtain⟨sa,sc,es⟩:=uG.isSlice;have L31:df 6 (.pointer (some ⟨f,31,none⟩)) H4=some (gu r1.res s'):=by simp[df,aQ,gf]
  have c4:Cl H.length (rc bS) 47 H4 o3:=c3.fr f4 (by simp<;>omega)
  have A:=uc H.length r1.res es H4 c4.1 rfl;obtain⟨H5,ug⟩: ∃z,z=H4.put H.length ⟨R.M5 r1.res s',47,1,false⟩:=⟨_,rfl⟩;have e5:(⟨[cv r1.res.ET,.bool r1.res.found,cv r1.res.key,cv r1.res.value,cv r1.res.n,s'],47,1,false⟩:eS)=⟨R.M5 r1.res s',47,1,false⟩:=rfl;rw[e5, ←ug] at A;have g5:H5.get H.length=some ⟨R.M5 r1.res s',47,1,false⟩:=by rw[ug];exact aH c4.1
  have Lr:=pL H.length r1.res (s:=s') H5 g5;have f5:Fr H4 o3 H5 o3 [-9]:=by rw[ug];exact(Fr.refl _ _ _).put λ_=>by simp[c4.2]
  simp -implicitDefEqProofs only[S1,L5',L31,A,Lr,sS,Nat.reduceAdd];have f14:Fr H1 (o.up H.length (-9)) H4 o3 [-200-i, -210-i, -220-i, -70, -71]:=f13.trans f4 (λ_ h=>h) (by simp)
  have ht4:VS H4 o3 i ⟨(th i).ti,false,(th i).hY,T',(th i).pr⟩:=⟨bud,k,key,val,_,no,pv f,ty,by rw[←et];exact g4,by rw[←et];exact ho3,λhh=>by simp at hh⟩
  have Tm:=h1.Fe hi f14 ht4 rfl hm4;have hw5:=Tm.uJ f5 (by simp)
  refine Ev.ret ⟨o3,r1.res,s',true,T',m',dn,rfl,?_,by rw[et];exact hw5,zG,uG.fr f5 (by simp),VT⟩
  have fA:=(f1.trans f14 (rs:=[-200-i, -210-i, -220-i, -70, -71]) (by simp) (λ_ h=>h))
  refine⟨λj hj hn=>?_,λj hj=>fA.own j hj,by have:=fA.size;have:=f5.size;show H.length≤H5.length;omega⟩
  show H5[j]? =_
  rw[ug,fD (by omega)];exact fA.slot j hj hn
end
section
open Go.Proofs.YtgfgglponbmgmaaGreatA
variable {G:ae} {H H':aa} {o o':aj} {p c mp f xp:Nat} {q:Int} {x:Value} {l:PL} {n i:Nat} {m m':Y.Mm} {T:List Int} {th:jy} {L:List jV} {N M:Nat}
theorem Ua (e:jV){s:Value}{a:Option Addr}{m c:Nat}(es:s= .slice a m c)(H:aa):ay Tryz.prog 63 1 [(0,evA e s)] H=some (.slice (some ⟨H.length,0,none⟩) 1 1,H.new ⟨fE e s,155,13,false⟩):=by subst es;kernel_rfl
theorem ZJ (t no pick:Int):aE Tryz.prog 155 [(0,cv 2),(1,cv t),(2,cv no),(5,cv pick)]=some (evA ⟨2,t,no,⟨0,0,0⟩,bS,pick⟩ aA):=by kernel_rfl
theorem abU (t no pick:Int)(op:ki):aE Tryz.prog 155 [(0,cv 1),(1,cv t),(2,cv no),(3,jw op),(5,cv pick)]=some (evA ⟨1,t,no,op,bS,pick⟩ aA):=by kernel_rfl
theorem abV (t no pick:Int)(r:eO){s:Value}{a:Option Addr}{m c:Nat}(es:s= .slice a m c):aE Tryz.prog 155 [(0,cv 3),(1,cv t),(2,cv no),(4,gu r s),(5,cv pick)]=some (evA ⟨3,t,no,⟨0,0,0⟩,r,pick⟩ s):=by subst es;kernel_rfl
structure Inv (th:jy) (L:List jV) (N M:Nat):Prop where
 len:L.length+uQ (th 0)+uQ (th 1)+uQ (th 2)≤N
 lists: ∀e∈L,e.res.list.length≤1048577
 tape: ∀i,i<3→(th i).T.length≤M
theorem Dm {s:QD}{d:Nat}(hi:i<3)(h:uQ s+d≤uQ (th i)):uQ (oU th i s 0)+uQ (oU th i s 1)+uQ (oU th i s 2)+d≤uQ (th 0)+uQ (th 1)+uQ (th 2):=by
 have:i=0∨i=1∨i=2:=by omega
 rcases this with rfl|rfl|rfl<;>simp[oU]<;>omega
theorem ZK {s:QD}{d:Nat}(hi:i<3)(h:uQ s≤uQ (th i)+d):uQ (oU th i s 0)+uQ (oU th i s 1)+uQ (oU th i s 2)≤uQ (th 0)+uQ (th 1)+uQ (th 2)+d:=by
 have:i=0∨i=1∨i=2:=by omega
 rcases this with rfl|rfl|rfl<;>simp[oU]<;>omega
theorem WR.n7 (h:WR H o xp mp m th L): ∃(tb cap:Nat) (inv dG:Int),aq (.pointer (some ⟨xp,3,none⟩)) H=some (pv mp)∧aq (.pointer (some ⟨xp,4,none⟩)) H=some (.slice (some ⟨tb,0,none⟩) 3 cap)∧aq (.pointer (some ⟨xp,6,none⟩)) H=some (cv inv)∧aq (.pointer (some ⟨xp,7,none⟩)) H=some (cv dG)∧
  (∀i:Nat,i<3→(∀H',cH 1 (.slice (some ⟨tb,0,none⟩) 3 cap) (cv i) H'=some (.pointer (some ⟨tb,i,none⟩),H'))∧aq (.pointer (some ⟨tb,i,none⟩)) H=some (pv (th i).ti))∧xp<H.length∧o xp= -80∧tb<H.length∧o tb= -81:=by
 obtain⟨c0,c1,c2,inv,dG,tb,cap,Lx,rest,ty,mT,g,ho,gt,kR,hm,mQ,hL⟩:=h;refine⟨tb,cap,inv,dG,an xp 3 _ g,an xp 4 _ g,an xp 6 _ g,an xp 7 _ g,λi hi=>⟨λH'=>?_,?_⟩,ar g,ho,ar gt,kR⟩
 ·simp only[cH];rw[if_pos (by constructor<;>omega)];simp
 ·rw[an tb i _ gt];have:i=0∨i=1∨i=2:=by omega
  rcases this with rfl|rfl|rfl<;>rfl
theorem WR.VU (h:WR H o xp mp m th L)(hi:i<3): ∃no:Int,aq (.pointer (some ⟨(th i).ti,1,none⟩)) H=some (.bool (th i).busy)∧aq (.pointer (some ⟨(th i).ti,7,none⟩)) H=some (.bool (th i).hY)∧aq (.pointer (some ⟨(th i).ti,8,none⟩)) H=some (cv no):=by
 obtain⟨c0,c1,c2,inv,dG,tb,cap,Lx,rest,ty,mT,g,ho,gt,kR,hm,mQ,hL⟩:=h;obtain⟨bud,k,key,val,steps,no,F,ty,g,kR,hF⟩:=mQ i hi;exact⟨no,an _ 1 _ g,an _ 7 _ g,an _ 8 _ g⟩
theorem WR.hY (h:WR H o xp mp m th L)(hi:i<3)(b:Bool): ∃H1,bD 1 (.pointer (some ⟨(th i).ti,7,none⟩)) (.bool b) H=some (undef,H1)∧WR H1 o xp mp m (oU th i ⟨(th i).ti,(th i).busy,b,(th i).T,(th i).pr⟩) L∧Fr H o H1 o [-200-i]:=by
 obtain⟨c0,c1,c2,inv,dG,tb,cap,Lx,rest,ty,mT,g,ho,gt,kR,hm,mQ,hL⟩:=id h;obtain⟨bud,k,key,val,steps,no,F,ty,g,kR,hF⟩:=mQ i hi;have S:=sr (th i).ti 7 (.bool b) H g rfl (by simp) rfl rfl rfl
 simp only[List.set_cons_succ,List.set_cons_zero] at S;have f:Fr H o (H.put (th i).ti ⟨[cv bud,.bool (th i).busy,cv k,cv key,cv val,F,cv steps,.bool b,cv no],ty,1,false⟩) o [-200-i]:=(Fr.refl _ _ _).put λ_=>by simp[kR]
 refine⟨_,S,h.Fe hi (f.wk (by simp)) ⟨bud,k,key,val,steps,no,F,ty,aH g,kR,λhb=>?_⟩ rfl (hm.fr f (by simp<;>omega) (by simp<;>omega)),f⟩
 obtain⟨f',d,r,rec,e,hf,dH⟩:=hF hb;exact⟨f',d,r,rec,e,hf.fr f (by simp<;>omega) (by simp<;>omega) (by simp<;>omega),dH⟩
theorem WR.app (h:WR H o xp mp m th L)(e:jV){s:Value}(hs:gU H o (-41) s e.res.list)(hl:L.length<4000000): ∃Lx,aq (.pointer (some ⟨xp,5,none⟩)) H=some Lx∧aq (.pointer (some ⟨xp,5,none⟩)) (H.new ⟨fE e s,155,13,false⟩)=some Lx∧oj Lx Lx=true∧∃x' H1 H2 o2,
  dj 155 13 120 Lx (.slice (some ⟨H.length,0,none⟩) 1 1) (H.new ⟨fE e s,155,13,false⟩)=some (x',H1)∧bD 1 (.pointer (some ⟨xp,5,none⟩)) x' H1=some (undef,H2)∧WR H2 o2 xp mp m th (L++[e])∧Fr H o H2 o2 [-82, -80]:=by
 obtain⟨c0,c1,c2,inv,dG,tb,cap,Lx,rest,ty,mT,g,ho,gt,kR,hm,mQ,hL⟩:=h;obtain⟨H1,e1⟩: ∃z,z=H.new ⟨fE e s,155,13,false⟩:=⟨_,rfl⟩;have f1:Fr H o H1 (o.up H.length (-9)) []:=by rw[e1];exact(Fr.refl H o []).new _ _
 have g1:H1.get H.length=some ⟨fE e s,155,13,false⟩:=by rw[e1];exact aK
 have VV:H1.get xp=some ⟨[cv c0,cv c1,cv c2,pv mp,.slice (some ⟨tb,0,none⟩) 3 cap,Lx,cv inv,cv dG],ty,1,false⟩:=by rw[f1.same xp (ar g) (by simp)];exact g
 have abW:(o.up H.length (-9)) xp= -80:=by rw[f1.own xp (ar g)];exact ho
 obtain⟨x',H2,o2,a2,lg,f2⟩:=(hL.fr f1 (by simp) (by simp)).app (tE:=155) g1 (hs.fr f1 (by simp)) (by simp) (by omega)
 have gx2:H2.get xp=some ⟨[cv c0,cv c1,cv c2,pv mp,.slice (some ⟨tb,0,none⟩) 3 cap,Lx,cv inv,cv dG],ty,1,false⟩:=by rw[f2.same xp (ar VV) (by rw[abW];simp)];exact VV
 have abX:o2 xp= -80:=by rw[f2.own xp (ar VV)];exact abW
 have hxs: ∃a n c,x'= .slice a n c:=by
  rcases lg with⟨e,_⟩|⟨_,_,_,_,_,e,_⟩
  ·exact⟨_,_,_,e⟩
  ·exact⟨_,_,_,e⟩
 obtain⟨xa,xn,xc,ex⟩:=hxs;have S:=GR xp 5 xa xn xc H2 gx2 rfl (by simp)
 rw[←ex] at S;simp only[List.set_cons_succ,List.set_cons_zero] at S;obtain⟨H3,e3⟩: ∃z,z=H2.put xp ⟨[cv c0,cv c1,cv c2,pv mp,.slice (some ⟨tb,0,none⟩) 3 cap,x',cv inv,cv dG],ty,1,false⟩:=⟨_,rfl⟩;rw[←e3] at S;have f3:Fr H2 o2 H3 o2 [-80]:=by rw[e3];exact(Fr.refl _ _ _).put λ_=>by simp[abX]
 have fA:Fr H o H3 o2 [-82, -80]:=(f1.trans f2 (rs:=[-82, -80]) (by simp) (by simp)).trans f3 (by simp) (by simp)
 have AM:oj Lx Lx=true:=by
  rcases hL with⟨e,_⟩|⟨_,_,_,_,_,e,_⟩
  ·rw[e];exact kN ..
  ·rw[e];exact kN ..
 rw[←e1];refine⟨Lx,an xp 5 _ g,an xp 5 _ VV,AM,x',H2,H3,o2,a2,S,⟨c0,c1,c2,inv,dG,tb,cap,x',rest,ty,mT,by rw[e3];exact aH gx2,abX,?_,?_,hm.fr fA (by simp) (by simp),λj hj=>?_,lg.fr f3 (by simp) (by simp)⟩,fA⟩
 ·rw[fA.same tb (ar gt) (by rw[kR];simp)];exact gt
 ·rw[fA.own tb (ar gt)];exact kR
 ·exact(mQ j hj).fr fA (by simp<;>omega) (by simp<;>omega) (by simp<;>omega) (by simp)
theorem QE (h:WR H o xp mp m th L)(hi:i<3):aF (run G) 129 [pv (th i).ti] H (CX H):=by
 refine Ev.up (t:=λk=>XQ (run G k) k (pv (th i).ti) H) ?_ λk=>Sn ..
 obtain⟨c0,c1,c2,inv,dG,tb,cap,Lx,rest,ty,mT,g,ho,gt,kR,hm,mQ,hL⟩:=h;obtain⟨bud,k,key,val,steps,no,F,ty,g,kR,hF⟩:=mQ i hi;have L1:aq (.pointer (some ⟨(th i).ti,1,none⟩)) H=some (.bool (th i).busy):=an _ 1 _ g;have L5:aq (.pointer (some ⟨(th i).ti,5,none⟩)) H=some F:=an _ 5 _ g;simp -implicitDefEqProofs only[XQ,L1,sS,Nat.reduceAdd];cases hb:(th i).busy<;>simp -implicitDefEqProofs only[L5,sS,Nat.reduceAdd]
 ·exact Ev.ret ⟨⟨_,rfl⟩,rfl⟩
 ·obtain⟨f,d,r,rec,rfl,hf,dH⟩:=hF hb;obtain⟨proc,a,b,p,q,op,tape,s,laid,g,_⟩:=hf;have L38:aq (.pointer (some ⟨f,38,none⟩)) H=some (cv laid):=an f 38 _ g;simp -implicitDefEqProofs only[L38,sS,Nat.reduceAdd];exact Ev.ret ⟨⟨_,rfl⟩,rfl⟩
theorem abY (h:WR H o xp mp m th L)(a:Int):aF (run G) 33 [pv mp,cv a] H (CX H):=by
 obtain⟨c0,c1,c2,inv,dG,tb,cap,Lx,rest,ty,mT,g,ho,gt,kR,hm,mQ,hL⟩:=h;exact(Dj hm.look hm.Au.1 a).mono λv H' hq=>⟨⟨_,hq.1⟩,hq.2⟩
theorem JO (hi:i<3): ∀z∈([-200-i]:List Int),z∈wt:=λz hz=>JN hi z (by simp at hz;simp[hz])
def uR (a b:jy):Prop:=∀j,(b j).ti=(a j).ti∧(b j).busy=(a j).busy∧(b j).T=(a j).T∧(b j).pr=(a j).pr
theorem Ub (h:WR H o xp mp m th L)(hI:Inv th L N M)(hN:N<4000000):aF (run G) 102 [pv xp] H λv H'=>∃o' im L',Fr H o H' o' wt∧WR H' o' xp mp m im L'∧Inv im L' N M∧uR th im:=by
 refine Ev.up (t:=λk=>XO (run G k) k (pv xp) H) ?_ λk=>Sl ..
 simp -implicitDefEqProofs only[XO,sS,Nat.reduceAdd];refine Ev.loop (k:=3) (λk vs Hx=>∃(j:Nat) (o1:aj) (jI:jy) (L1:List jV) (aD x3 dv:Value),j+k=3∧vs=[pv xp,cv j,aD,x3,dv]∧Fr H o Hx o1 wt∧WR Hx o1 xp mp m jI L1∧Inv jI L1 N M∧uR th jI)
  (λr=>r.1= .exit 0∧∃(o1:aj) (jI:jy) (L1:List jV),Fr H o r.2.2 o1 wt∧WR r.2.2 o1 xp mp m jI L1∧Inv jI L1 N M∧uR th jI)
  ⟨0,o,th,L,_,_,_,rfl,rfl,Fr.refl _ _ _,h,hI,λj=>⟨rfl,rfl,rfl,rfl⟩⟩ ?_ ?_
 ·rintro k vs Hx ⟨j,o1,jI,L1,aD,x3,dv,AD,rfl,kW,hw,uh,nK⟩;obtain⟨tb,cap,inv,dG,e3,e4,e6,e7,eT,_⟩:=hw.n7;have DP:IntKind.i64.wrap ((j:Int)+1)=((j+1:Nat):Int):=by rw[gz (by omega)];omega
  simp -implicitDefEqProofs only[Lj,xX,e4,cD,sS,Nat.reduceAdd];refine Ev.lss (λhq=>?_) (λhq=>?_)<;>try simp -implicitDefEqProofs only[e4,sS,Nat.reduceAdd]
  ·have gE:j<3:=by omega
   obtain⟨Uc,Ud⟩:=eT j gE;obtain⟨no,b1,b7,b8⟩:=hw.VU gE;have iP: ∀(aD x3 dv:Value) {H2:aa} {o2:aj} {Ht:jy} {L2:List jV},Fr H o H2 o2 wt→WR H2 o2 xp mp m Ht L2→Inv Ht L2 N M→uR th Ht→Ev (λn=>vI (run G n) n [pv xp,cv j,aD,x3,dv] H2) λr=>(r.1= .normal∧∃k',k'<k∧∃(j:Nat) (o1:aj) (jI:jy) (L1:List jV) (aD x3 dv:Value),j+k'=3∧r.2.1=[pv xp,cv j,aD,x3,dv]∧Fr H o r.2.2 o1 wt∧WR r.2.2 o1 xp mp m jI L1∧Inv jI L1 N M∧uR th jI)∨(r.1≠ .normal∧r.1= .exit 0∧∃(o1:aj) (jI:jy) (L1:List jV),Fr H o r.2.2 o1 wt∧WR r.2.2 o1 xp mp m jI L1∧Inv jI L1 N M∧uR th jI):=by
    intro aD x3 dv H2 o2 Ht L2 a1 a2 a3 a4;simp -implicitDefEqProofs only[Li,xV,DP,sS,Nat.reduceAdd];exact Ev.ret (.inl ⟨rfl,k-1,by omega,j+1,o2,Ht,L2,_,_,_,by omega,rfl,a1,a2,a3,a4⟩)
   simp -implicitDefEqProofs only[Uc,Ud,b1,sS,Nat.reduceAdd];cases hb:(jI j).busy<;>simp -implicitDefEqProofs only[b7,sS,Nat.reduceAdd]
   ·exact iP _ _ _ kW hw uh nK
   cases ht:(jI j).hY<;>simp -implicitDefEqProofs only[sS,Nat.reduceAdd]
   ·refine Ev.kp (QE hw gE) λzl=>?_
    try simp -implicitDefEqProofs only[sS,Nat.reduceAdd]
    refine Ev.gtr (λhq=>?_) (λhq=>?_)<;>try simp -implicitDefEqProofs only[e3,sS,Nat.reduceAdd]
    ·refine Ev.kp (QE hw gE) λzl=>?_
     try simp -implicitDefEqProofs only[sS,Nat.reduceAdd]
     refine Ev.kp (abY hw _) λza=>?_
     try simp -implicitDefEqProofs only[e3,iX,sS,Nat.reduceAdd]
     refine Ev.eql (λhq=>?_) (λhq=>?_)<;>try simp -implicitDefEqProofs only[e3,iX,sS,Nat.reduceAdd]
     ·obtain⟨H2,S7,w5,f2⟩:=hw.hY gE true;obtain⟨VW,fj,aek,QF,k3,k4,k6,k7,kT,_⟩:=w5.n7;obtain⟨no',d1,d7,d8⟩:=w5.VU gE;have ed:(oU jI j ⟨(jI j).ti,(jI j).busy,true,(jI j).T,(jI j).pr⟩ j).ti=(jI j).ti:=by simp[oU]
      rw[ed] at d8;have hlen:=uh.len;obtain⟨Lx,c1,c2,c3,x',H3,H4,o4,c4,c5,Tm,f4⟩:=w5.app ⟨2,j,no',⟨0,0,0⟩,bS,QF⟩ (s:=aA) .nil (by omega)
      simp -implicitDefEqProofs only[S7,c1,d8,k7,ZJ,Ua _ rfl,c2,c4,c5,c3,sS,Nat.reduceAdd];refine iP _ _ _ ((kW.trans f2 (rs:=wt) (λ_ h=>h) (JO gE)).trans f4 (λ_ h=>h) (by simp)) Tm ⟨?_,?_,?_⟩ ?_
      ·have hp:=Dm (th:=jI) (s:=⟨(jI j).ti,(jI j).busy,true,(jI j).T,(jI j).pr⟩) (d:=1) gE (by simp[uQ,hb,ht])
       simp only[List.length_append,List.length_singleton];omega
      ·intro e he;rcases List.mem_append.1 he with he|he
       ·exact uh.lists e he
       ·have:e=⟨2,j,no',⟨0,0,0⟩,bS,QF⟩:=by simpa using he
        subst this;simp[bS]
      ·intro i hi;have:=uh.tape i hi
       unfold oU;split
       ·rename_i e;subst e;exact this
       ·exact this
      ·intro i;have:=nK i
       unfold oU;split
       ·rename_i e;subst e;exact this
       ·exact this
     ·exact iP _ _ _ kW hw uh nK
    ·exact iP _ _ _ kW hw uh nK
   ·exact iP _ _ _ kW hw uh nK
  ·exact Ev.ret (.inr ⟨by simp,rfl,o1,jI,L1,kW,hw,uh,nK⟩)
 ·rintro e vs Hx ⟨he,o1,jI,L1,a1,a2,a3,a4⟩;simp only at he;subst he;show Ev (λ_=>some (Value.tuple #[],Hx)) _
  exact Ev.ret ⟨o1,jI,L1,a1,a2,a3,a4⟩
end
section
open Go.Proofs.YtgfgglponbmgmaaGreatA
variable {G:ae} {H H':aa} {o o':aj} {p c mp f xp:Nat} {q:Int} {x:Value} {l:PL} {n i:Nat} {m m':Y.Mm} {T:List Int} {th:jy} {L:List jV} {N M:Nat}
theorem WR.dG (h:WR H o xp mp m th L)(z:Int): ∃H1,bD 1 (.pointer (some ⟨xp,7,none⟩)) (cv z) H=some (undef,H1)∧WR H1 o xp mp m th L∧Fr H o H1 o [-80]:=by
 obtain⟨c0,c1,c2,inv,dG,tb,cap,Lx,rest,ty,mT,g,ho,gt,kR,hm,mQ,hL⟩:=h;have S:=gY xp 7 z H g rfl (by simp)
 simp only[List.set_cons_succ,List.set_cons_zero] at S;have f:Fr H o (H.put xp ⟨[cv c0,cv c1,cv c2,pv mp,.slice (some ⟨tb,0,none⟩) 3 cap,Lx,cv inv,cv z],ty,1,false⟩) o [-80]:=(Fr.refl _ _ _).put λ_=>by simp[ho]
 refine⟨_,S,⟨c0,c1,c2,inv,z,tb,cap,Lx,rest,ty,mT,aH g,ho,?_,kR,hm.fr f (by simp) (by simp),λj hj=>?_,hL.fr f (by simp) (by simp)⟩,f⟩
 ·rw[f.same tb (ar gt) (by rw[kR];simp)];exact gt
 ·exact(mQ j hj).fr f (by simp<;>omega) (by simp<;>omega) (by simp<;>omega) (by simp)
theorem WR.adt (h:WR H o xp mp m th L)(z:Int): ∃H1,bD 1 (.pointer (some ⟨xp,6,none⟩)) (cv z) H=some (undef,H1)∧WR H1 o xp mp m th L∧Fr H o H1 o [-80]:=by
 obtain⟨c0,c1,c2,inv,dG,tb,cap,Lx,rest,ty,mT,g,ho,gt,kR,hm,mQ,hL⟩:=h;have S:=gY xp 6 z H g rfl (by simp)
 simp only[List.set_cons_succ,List.set_cons_zero] at S;have f:Fr H o (H.put xp ⟨[cv c0,cv c1,cv c2,pv mp,.slice (some ⟨tb,0,none⟩) 3 cap,Lx,cv z,cv dG],ty,1,false⟩) o [-80]:=(Fr.refl _ _ _).put λ_=>by simp[ho]
 refine⟨_,S,⟨c0,c1,c2,z,dG,tb,cap,Lx,rest,ty,mT,aH g,ho,?_,kR,hm.fr f (by simp) (by simp),λj hj=>?_,hL.fr f (by simp) (by simp)⟩,f⟩
 ·rw[f.same tb (ar gt) (by rw[kR];simp)];exact gt
 ·exact(mQ j hj).fr f (by simp<;>omega) (by simp<;>omega) (by simp<;>omega) (by simp)
def sJ (i:Nat)(th:jy)(m:Y.Mm)(im:jy)(m':Y.Mm):Prop:=
 ∃jI,uR jI im∧(((th i).busy=false∧jI=th∧m'=m)∨((th i).busy=true∧∃done T' b,qQ (th i).pr done (th i).T m T' m'∧jI=oU th i ⟨(th i).ti,b,(th i).hY,T',(th i).pr⟩))
theorem QG (h:WR H o xp mp m th L)(hi:i<3)(hI:Inv th L N M)(hN:N<4000000)(hM:M<1048576):aF (run G) 74 [pv xp,cv i] H λv H'=>∃o' im L' m' r s e,
  v= .tuple #[gu r s,.bool e]∧(∃a n c,s= .slice a n c)∧Fr H o H' o' wt∧WR H' o' xp mp m' im L'∧Inv im L' N (M+1)∧sJ i th m im m':=by
 refine Ev.up (t:=λk=>F74 (run G k) k (pv xp) (cv i) H) ?_ λk=>Xi ..
 obtain⟨H1,fY⟩: ∃z,z=H.new ⟨rc bS,47,1,false⟩:=⟨_,rfl⟩;have l1:H1.length=H.length+1:=by rw[fY,cC]
 have n0:aS H 47 1 [cv 0,.bool false,cv 0,cv 0,cv 0,aA]=(pv H.length,H1):=by rw[fY];rfl
 obtain⟨oA,Rk⟩: ∃z,z=(o.up H.length (-9)).up H1.length (-9):=⟨_,rfl⟩;have f1:Fr H o H1 (o.up H.length (-9)) []:=by rw[fY];exact(Fr.refl H o []).new _ _
 have ZL:Fr H o H1 oA []:=⟨f1.slot,λj hj=>by rw[Rk,dO (by omega)];exact f1.own j hj,f1.size⟩
 have c1:Cl H.length (rc bS) 47 H1 oA:=⟨by rw[fY];exact aK,by rw[Rk,dO (by omega)];exact aO⟩
 have h1:=h.uJ ZL (by simp)
 obtain⟨tb,cap,inv,dG,e3,e4,e6,e7,eT,hxl,hxo,Zk,hto⟩:=h1.n7;obtain⟨Uc,Ud⟩:=eT i hi;obtain⟨no,b1,b7,b8⟩:=h1.VU hi;have hM1: ∀j,j<3→(th j).T.length≤M+1:=λj hj=>by have:=hI.tape j hj;omega
 have gK: ∀{Hx:aa} {ox:aj} {im:jy} {L':List jV} {m':Y.Mm},Cl H.length (rc bS) 47 Hx ox→Fr H o Hx ox wt→WR Hx ox xp mp m' im L'→Inv im L' N (M+1)→sJ i th m im m'→Ev (λk=>af (bD 6 (pv H.length) (gu bS aA) Hx) λ_ Hy=>af (pS (df 6 (pv H.length) Hy) Hy) λr0 _=>some (Value.tuple #[r0,.bool false],Hy)) λrr=>∃o' im L' m' r s e,rr.1= .tuple #[gu r s,.bool e]∧(∃a n c,s= .slice a n c)∧Fr H o rr.2 o' wt∧WR rr.2 o' xp mp m' im L'∧Inv im L' N (M+1)∧sJ i th m im m':=by
  intro Hx ox im L' m' hc hf hw hI' Ue;have A:=uc H.length bS (s:=aA) rfl Hx hc.1 rfl;have f4:Fr Hx ox (Hx.put H.length ⟨rc bS,47,1,false⟩) ox [-9]:=(Fr.refl _ _ _).put λ_=>by simp[hc.2]
  have Lr:=pL H.length bS (s:=aA) (t:=47) _ (aH hc.1);simp -implicitDefEqProofs only[A,Lr,sS,Nat.reduceAdd];exact Ev.ret ⟨ox,im,L',m',bS,aA,false,rfl,⟨_,_,_,rfl⟩,hf.put (λhh=>by omega),hw.uJ f4 (by simp),hI',Ue⟩
 simp -implicitDefEqProofs only[F74,n0,sS,Nat.reduceAdd];refine Ev.lss (λhq=>?_) (λhq=>?_)<;>try simp -implicitDefEqProofs only[e4,cD,sS,Nat.reduceAdd]
 ·omega
 refine Ev.geq (λhq=>?_) (λhq=>?_)<;>try simp -implicitDefEqProofs only[e4,Uc,Ud,b1,sS,Nat.reduceAdd]
 ·omega
 cases hb:(th i).busy<;>simp -implicitDefEqProofs only[De,e7,sS,Nat.reduceAdd]
 ·exact gK c1 (ZL.wk (by simp)) h1 ⟨hI.len,hI.lists,hM1⟩ ⟨th,λj=>⟨rfl,rfl,rfl,rfl⟩,.inl ⟨hb,rfl,rfl⟩⟩
 obtain⟨H2,S7,h2,f2⟩:=h1.dG (IntKind.i64.wrap (dG+1));obtain⟨VX,BK,inv2,ZM,j3,j4,j6,j7,jT,jxl,jxo,jtl,jto⟩:=h2.n7;have l2:H2.length=H.length+1:=by
  have:=f2.size
  rw[l1] at this;have e2:H2.length=H1.length:=by
   have hh:=S7;obtain⟨_,_,_,_,_,_,_,_,_,_,_,g,_⟩:=id h1;rw[gY xp 7 _ H1 g rfl (by simp)] at hh
   injection hh with hh;injection hh with _ hh;rw[←hh,iK]
  omega
 obtain⟨H3,mC⟩: ∃z,z=H2.cE 1:=⟨_,rfl⟩;have f3:Fr H2 oA H3 oA []:=by rw[mC];exact(Fr.refl _ _ _).cE 1
 have h3:=h2.uJ f3 (by simp)
 have abZ:H3[H2.length]? =some .hole:=by rw[mC];exact Bf
 have l3:H3.length=H2.length+1:=by rw[mC,Bg]
 have m3: ∀{a:Nat} {k:Nat} {b:eS} {y:Value},aq (.pointer (some ⟨a,k,none⟩)) H2=some y→a<H2.length→aq (.pointer (some ⟨a,k,none⟩)) H3=some y:=λ{a k b y} e ha=>by
  have:H3.get a=H2.get a:=eo (f3.slot a ha (by simp))
  simp only[aq,this] at e ⊢;exact e
 have k3:=m3 (b:=⟨[],0,1,false⟩) j3 jxl;have k4:=m3 (b:=⟨[],0,1,false⟩) j4 jxl;obtain⟨jT1,jT2⟩:=jT i hi;have kT:=m3 (b:=⟨[],0,1,false⟩) jT2 jtl;have adu:H2.cE 1=H3:=mC.symm;simp -implicitDefEqProofs only[S7,adu,k4,jT1,kT,k3,sS,Nat.reduceAdd];have hTl:(th i).T.length<1048576:=by have:=hI.tape i hi;omega
 refine Ev.call (T9 h3 hi hb hTl) ?_;rintro v H4 ⟨o4,r,s,e,T',m',dn,rfl,f4,h4,zG,hs4,hr4⟩;have hT':=zG.len;obtain⟨sa,sc,es⟩:=hs4.isSlice;have oA2:oA H2.length= -9:=by rw[Rk,l2, ←l1];exact aO
 have ab0:H4[H2.length]? =some .hole:=by rw[f4.slot H2.length (by omega) (by rw[oA2];simp<;>omega)];exact abZ
 have o42:o4 H2.length= -9:=by rw[f4.own H2.length (by omega)];exact oA2
 have l4:=f4.size;obtain⟨H5,ug⟩: ∃z:aa,z=H4.set H2.length (.zK ⟨rc bS,47,1,false⟩):=⟨_,rfl⟩;have lay:Kq H2.length (some (λi=>Value.pointer (some ⟨i,0,none⟩),(⟨[cv 0,.bool false,cv 0,cv 0,cv 0,aA],47,1,false⟩:eS))) H4=some (pv H2.length,H5):=by rw[ug];exact HT ab0
 have f5:Fr H4 o4 H5 o4 [-9]:=by rw[ug];exact(Fr.refl _ _ _).set _ λ_=>by simp[o42]
 have g5:H5.get H2.length=some ⟨rc bS,47,1,false⟩:=by rw[ug];exact sq (by omega)
 have A6:=uc H2.length r es H5 g5 rfl;obtain⟨H6,Dy⟩: ∃z,z=H5.put H2.length ⟨R.M5 r s,47,1,false⟩:=⟨_,rfl⟩;have e6':(⟨[cv r.ET,.bool r.found,cv r.key,cv r.value,cv r.n,s],47,1,false⟩:eS)=⟨R.M5 r s,47,1,false⟩:=rfl;rw[e6', ←Dy] at A6;have f6:Fr H5 o4 H6 o4 [-9]:=by rw[Dy];exact(Fr.refl _ _ _).put λ_=>by simp[o42]
 have f46:Fr H4 o4 H6 o4 [-9]:=f5.tr f6;have h6:=h4.uJ f46 (by simp)
 have c6:Cl H2.length (R.M5 r s) 47 H6 o4:=⟨by rw[Dy];exact aH g5,o42⟩
 have hs6:gU H6 o4 (-41) s r.list:=hs4.fr f46 (by simp)
 have kk: ∀{a:Nat} {k:Nat} {y:Value} {Hx:aa},aq (.pointer (some ⟨a,k,none⟩)) H3=some y→(Hx.get a=H3.get a)→aq (.pointer (some ⟨a,k,none⟩)) Hx=some y:=λ{a k y Hx} e hx=>by
  simp only[aq,hx] at e ⊢;exact e
 have gx4:H4.get xp=H3.get xp:=f4.same xp (by omega) (by rw[jxo];simp<;>omega)
 have gt4:H4.get VX=H3.get VX:=f4.same VX (by omega) (by rw[jto];simp<;>omega)
 have gx5:H5.get xp=H3.get xp:=by rw[ug,eo (jl (by omega))];exact gx4
 have gt5:H5.get VX=H3.get VX:=by rw[ug,eo (jl (by omega))];exact gt4
 have ev4:oj (Value.slice (some ⟨VX,0,none⟩) 3 BK) (Value.slice (some ⟨VX,0,none⟩) 3 BK)=true:=kN ..;have eD:=kk k4 gx4;have dX:=kk k4 gx5;have dF:=kk k3 gx4;have bJ:=kk k3 gx5;have xT4:=kk kT gt4;have xT5:=kk kT gt5;simp -implicitDefEqProofs only[Nat.add_zero,lay,A6,k4,kT,k3,eD,dX,dF,bJ,xT4,xT5,ev4,iX,sS,Nat.reduceAdd];have hI4:Inv (oU th i ⟨(th i).ti, !e,(th i).hY,T',(th i).pr⟩) L (if e then N-1 else N) (M+1):=by
  refine⟨?_,hI.lists,λj hj=>?_⟩
  ·have hl:=hI.len;cases e with
   |false=>
    have hp:=Dm (th:=th) (s:=⟨(th i).ti, !false,(th i).hY,T',(th i).pr⟩) (d:=0) hi (by simp[uQ,hb])
    simp only[Bool.false_eq_true,if_false];omega
   |true=>
    have hp:=Dm (th:=th) (s:=⟨(th i).ti, !true,(th i).hY,T',(th i).pr⟩) (d:=1) hi (by cases ht:(th i).hY<;>simp[uQ,hb,ht])
    simp only[if_true];omega
  ·unfold oU;split
   ·have:=hI.tape i hi
    show T'.length≤M+1
    omega
   ·exact hM1 j hj
 refine Ev.call (Ub h6 hI4 (by split<;>omega)) ?_
 rintro v H7 ⟨o7,th7,L7,f7,h7,M7,nK⟩;have Ue:sJ i th m th7 m':=⟨_,nK,.inr ⟨hb,dn,T', !e,zG,rfl⟩⟩;have fA7:Fr H o H7 o7 wt:=((((ZL.trans f2 (rs:=wt) (by simp) (by simp)).trans f3 (rs:=wt) (λ_ h=>h) (by simp)).trans f4 (rs:=wt) (λ_ h=>h) (JN hi)).trans f46 (rs:= -9::wt) (by simp) (by simp)).trans f7 (rs:= -9::wt) (λ_ h=>h) (by simp) |> λf=>by
  exact⟨λj hj hn=>by
   rw[f7.slot j (by have:=f46.size;omega) (by rw[(f46.own j (by omega)),f4.own j (by omega)];have:=ZL.own j hj;rw[this];exact hn)]
   have dx:j≠H2.length:=by omega
   rw[Dy,fD dx,ug,jl dx,f4.slot j (by omega) (by rw[ZL.own j hj];exact λhh=>hn (JN hi _ hh)),f3.slot j (by omega) (by simp),f2.slot j (by omega) (by rw[ZL.own j hj];exact λhh=>hn (by simp at hh;simp[hh]))]
   exact ZL.slot j hj (by simp),f.own,f.size⟩
 have c7:Cl H2.length (R.M5 r s) 47 H7 o7:=c6.fr f7 (by simp)
 have ab1:Cl H.length (rc bS) 47 H7 o7:=by
  have a1:Cl H.length (rc bS) 47 H4 o4:=((c1.fr f2 (by simp)).fr f3 (by simp)).fr f4 (by simp<;>omega)
  have a2:Cl H.length (rc bS) 47 H6 o4:=⟨by rw[Dy,bA (by omega),ug,eo (jl (by omega))];exact a1.1,a1.2⟩
  exact a2.fr f7 (by simp)
 have hs7:gU H7 o7 (-41) s r.list:=hs6.fr f7 (by simp)
 cases e<;>simp -implicitDefEqProofs only[De,sS,Nat.reduceAdd]
 ·exact gK ab1 fA7 h7 (by simpa using M7) Ue
 ·simp only[if_true] at M7;have hN1:1≤N:=by
   have:=hI.len
   have hp:1≤uQ (th i):=by cases ht:(th i).hY<;>simp[uQ,hb,ht]
   have:i=0∨i=1∨i=2:=by omega
   rcases this with rfl|rfl|rfl<;>omega
  obtain⟨tb7,adv,adw,ui,i3,i4,i6,i7,iT,ixl,ixo,itl,ito⟩:=h7.n7;obtain⟨iT1,iT2⟩:=iT i hi;obtain⟨no7,d1,d7,d8⟩:=h7.VU hi;have Lr:=pL H2.length r (s:=s) H7 c7.1;have ael:=M7.len;obtain⟨Lx,q1,q2,q3,x',H8,H9,o9,q4,q5,h9,f9⟩:=h7.app ⟨3,i,no7,⟨0,0,0⟩,r,ui⟩ (s:=s) hs7 (by omega)
  have c9:Cl H2.length (R.M5 r s) 47 H9 o9:=c7.fr f9 (by simp)
  have QH:Cl H.length (rc bS) 47 H9 o9:=ab1.fr f9 (by simp)
  have Lr9:=pL H2.length r (s:=s) H9 c9.1;have A10:=uc H.length r es H9 QH.1 rfl;have adx:=pL H.length r (s:=s) (t:=47) _ (aH (c:=⟨R.M5 r s,47,1,false⟩) QH.1);have e10:(⟨[cv r.ET,.bool r.found,cv r.key,cv r.value,cv r.n,s],47,1,false⟩:eS)=⟨R.M5 r s,47,1,false⟩:=rfl;rw[e10] at A10;have f10:Fr H9 o9 (H9.put H.length ⟨R.M5 r s,47,1,false⟩) o9 [-9]:=(Fr.refl _ _ _).put λ_=>by simp[QH.2]
  simp -implicitDefEqProofs only[q1,i4,iT1,iT2,d8,Lr,i7,abV _ _ _ r es,Ua _ es,q2,q4,q5,q3,Lr9,A10,adx,sS,Nat.reduceAdd];refine Ev.ret ⟨o9,th7,L7++[⟨3,i,no7,⟨0,0,0⟩,r,ui⟩],m',r,s,true,rfl,⟨_,_,_,es⟩,(fA7.trans f9 (rs:=wt) (λ_ h=>h) (by simp)).put (λhh=>by omega),h9.uJ f10 (by simp),⟨?_,?_,M7.tape⟩,Ue⟩
  ·simp only[List.length_append,List.length_singleton];omega
  ·intro z hz;rcases List.mem_append.1 hz with hz|hz
   ·exact M7.lists z hz
   ·have:z=⟨3,i,no7,⟨0,0,0⟩,r,ui⟩:=by simpa using hz
    subst this;exact hr4
end
end Go.Proofs.YtgfgglponbmgmaaGreat.Fun
end
