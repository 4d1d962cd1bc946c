/- Texts of the proof of helpLogic_holds, put together by a small program of ours (names shortened, spaces taken out). No condition beyond the given statement. -/
import Derived.Test.YtgfgglponbmgmaaGreatHLG10
import Derived.Test.YtgfgglponbmgmaaGreatHLG33
import Derived.Test.YtgfgglponbmgmaaGreatHLG14
import Derived.Test.YtgfgglponbmgmaaGreatHLG13
set_option linter.unusedVariables false
set_option linter.unusedSimpArgs false
set_option linter.unnecessarySimpa false
noncomputable section
section
namespace Go.Proofs.YtgfgglponbmgmaaGreat.Fun
open Go Go.RowKit Go.Proofs.YtgfgglponbmgmaaGreatA.Am
set_option maxRecDepth 10000
section
open Go.Proofs.YtgfgglponbmgmaaGreatA
variable {G:ae} {H H':aa} {o o':aj} {p c mp f xp:Nat} {q:Int} {x:Value} {l:PL} {n i:Nat} {m m':Y.Mm} {T:List Int}
structure O6 where
 ti:Nat
 busy:Bool
 gX:Bool
 T:List Int
 pr:Pr
def um (t:O6):Nat:=if t.busy then(if t.gX then 1 else 2) else 0
def TU (H:aa)(o:aj)(i:Nat)(s:O6):Prop:=
 ∃(bud k key val steps no:Int) (F:Value) (ty:TypeId),H.get s.ti=some ⟨[cv bud,.bool s.busy,cv k,cv key,cv val,F,cv steps,.bool s.gX,cv no],ty,1,false⟩∧o s.ti= -200-i∧(s.busy=true→∃f done r rec,F=pv f∧kj H o f (-210-i) (-220-i) s.pr s.T done r rec∧TT s.pr s.T done r rec)
theorem TU.fr {ps:List Int}{s:O6}(h:TU H o i s)(fr:Fr H o H' o' ps)(h1:(-200-i:Int) ∉ ps)(h2:(-210-i:Int) ∉ ps)(h3:(-220-i:Int) ∉ ps)(h4:(-41:Int) ∉ ps):TU H' o' i s:=by
 obtain⟨bud,k,key,val,steps,no,F,ty,g,ho,hF⟩:=h;exact⟨bud,k,key,val,steps,no,F,ty,by rw[fr.same s.ti (ar g) (by rw[ho];exact h1)];exact g,by rw[fr.own s.ti (ar g)];exact ho,λhb=>by
  obtain⟨f,d,r,rec,e,hf,eA⟩:=hF hb;exact⟨f,d,r,rec,e,hf.fr fr h2 h3 h4,eA⟩⟩
theorem ftI (i:Nat):FT (-210-i) (-220-i):=⟨by omega,by omega,by omega⟩
abbrev kl:=Nat→O6
def oU (th:kl)(i:Nat)(s:O6):kl:=λj=>if j=i then s else th j
def WR (H:aa)(o:aj)(xp mp:Nat)(m:Y.Mm)(th:kl)(L:List ku):Prop:=
 ∃(c0 c1 c2 inv dW:Int) (tb cap:Nat) (Lx:Value) (rest:List Value) (ty nE:TypeId),
  H.get xp=some ⟨[cv c0,cv c1,cv c2,pv mp,.slice (some ⟨tb,0,none⟩) 3 cap,Lx,cv inv,cv dW],ty,1,false⟩∧o xp= -80∧
  H.get tb=some ⟨pv (th 0).ti::pv (th 1).ti::pv (th 2).ti::rest,nE,1,false⟩∧o tb= -81∧
  mh H o mp m∧(∀i,i<3→TU H o i (th i))∧Gg H o (-82) (-41) Lx L
abbrev wt:List Int:=[-70, -71, -80, -81, -82, -200, -201, -202, -210, -211, -212, -220, -221, -222]
theorem ID (hi:i<3): ∀z∈([-200-i, -210-i, -220-i, -70, -71]:List Int),z∈wt:=by
 have:i=0∨i=1∨i=2:=by omega
 rcases this with rfl|rfl|rfl<;>simp
theorem WR.El {th:kl}{L:List ku}{s':O6}(h:WR H o xp mp m th L)(hi:i<3)(fr:Fr H o H' o' [-200-i, -210-i, -220-i, -70, -71])(ht:TU H' o' i s')(XG:s'.ti=(th i).ti)(hm:mh H' o' mp m'):WR H' o' xp mp m' (oU th i s') L:=by
 obtain⟨c0,c1,c2,inv,dW,tb,cap,Lx,rest,ty,nE,g,ho,gt,lF,_,n6,hL⟩:=h;have key: ∀j,(Fun.oU th i s' j).ti=(th j).ti:=λj=>by
  unfold Fun.oU;split
  ·rename_i e;rw[e];exact XG
  ·rfl
 refine⟨c0,c1,c2,inv,dW,tb,cap,Lx,rest,ty,nE,?_,?_,?_,?_,hm,λj hj=>?_,hL.fr fr (by simp<;>omega) (by simp<;>omega)⟩
 ·rw[fr.same xp (ar g) (by rw[ho];simp;omega)];exact g
 ·rw[fr.own xp (ar g)];exact ho
 ·rw[fr.same tb (ar gt) (by rw[lF];simp;omega),key,key,key];exact gt
 ·rw[fr.own tb (ar gt)];exact lF
 ·unfold Fun.oU;split
  ·rename_i e;subst e;exact ht
  ·rename_i e;exact(n6 j hj).fr fr (by simp<;>omega) (by simp<;>omega) (by simp<;>omega) (by simp<;>omega)
theorem WR.ue {th:kl}{L:List ku}{ps:List Int}(h:WR H o xp mp m th L)(fr:Fr H o H' o' ps)(hp: ∀z∈ps,z ∉ (-41:Int)::wt):WR H' o' xp mp m th L:=by
 obtain⟨c0,c1,c2,inv,dW,tb,cap,Lx,rest,ty,nE,g,ho,gt,lF,hm,n6,hL⟩:=h;have np: ∀z∈(-41:Int)::wt,z ∉ ps:=λz hz hh=>hp z hh hz
 refine⟨c0,c1,c2,inv,dW,tb,cap,Lx,rest,ty,nE,?_,?_,?_,?_,hm.fr fr (np _ (by simp)) (np _ (by simp)),λj hj=>?_,hL.fr fr (np _ (by simp)) (np _ (by simp))⟩
 ·rw[fr.same xp (ar g) (by rw[ho];exact np _ (by simp))];exact g
 ·rw[fr.own xp (ar g)];exact ho
 ·rw[fr.same tb (ar gt) (by rw[lF];exact np _ (by simp))];exact gt
 ·rw[fr.own tb (ar gt)];exact lF
 ·have:j=0∨j=1∨j=2:=by omega
  rcases this with rfl|rfl|rfl
  ·exact(n6 0 hj).fr fr (np _ (by simp)) (np _ (by simp)) (np _ (by simp)) (np _ (by simp))
  ·exact(n6 1 hj).fr fr (np _ (by simp)) (np _ (by simp)) (np _ (by simp)) (np _ (by simp))
  ·exact(n6 2 hj).fr fr (np _ (by simp)) (np _ (by simp)) (np _ (by simp)) (np _ (by simp))
theorem Sr {th:kl}{L:List ku}(h:WR H o xp mp m th L)(hi:i<3)(hb:(th i).busy=true)(hT:(th i).T.length<1048576):aE (run G) 101 [pv (th i).ti,pv mp] H λv H'=>∃o' r s e T' m' done,
  v= .tuple #[gj r s,.bool e]∧Fr H o H' o' [-200-i, -210-i, -220-i, -70, -71]∧WR H' o' xp mp m' (oU th i ⟨(th i).ti, !e,(th i).gX,T',(th i).pr⟩) L∧tK (th i).pr done (th i).T m T' m'∧gN H' o' (-41) s r.list∧r.list.length≤1048577:=by
 refine Ev.up (t:=λk=>WA (run G k) k (pv (th i).ti) (pv mp) H) ?_ λk=>Rl ..
 obtain⟨H1,fV⟩: ∃z,z=H.new ⟨rc bQ,47,1,false⟩:=⟨_,rfl⟩;have n0:aS H 47 1 [cv 0,.bool false,cv 0,cv 0,cv 0,aA]=(pv H.length,H1):=by rw[fV];rfl
 have f1:Fr H o H1 (o.up H.length (-9)) []:=by rw[fV];exact(Fr.refl H o []).new _ _
 have c1:Cl H.length (rc bQ) 47 H1 (o.up H.length (-9)):=by rw[fV];exact Cl.made
 have h1:=h.ue f1 (by simp)
 obtain⟨ti,et⟩: ∃ti,ti=(th i).ti:=⟨_,rfl⟩;rw[←et];obtain⟨c0',_,_,_,_,_,_,_,_,_,_,_,_,_,_,hm,n6,_⟩:=id h1;obtain⟨bud,k,key,val,steps,no,F,ty,g,lF,hF⟩:=n6 i hi;obtain⟨f,dn,r0,ady,rfl,hf,eA⟩:=hF hb;rw[←et] at g lF;rw[hb] at g;have L1:aq (.pointer (some ⟨ti,1,none⟩)) H1=some (.bool true):=ao ti 1 H1 g;have L6:aq (.pointer (some ⟨ti,6,none⟩)) H1=some (cv steps):=ao ti 6 H1 g;have S6:=gR ti 6 (IntKind.i64.wrap (steps+1)) H1 g rfl (by simp)
 simp only[List.set_cons_succ,List.set_cons_zero] at S6;obtain⟨H2,im⟩: ∃z,z=H1.put ti ⟨[cv bud,.bool true,cv k,cv key,cv val,pv f,cv (IntKind.i64.wrap (steps+1)),.bool (th i).gX,cv no],ty,1,false⟩:=⟨_,rfl⟩;rw[←im] at S6;have g2:H2.get ti=some ⟨[cv bud,.bool true,cv k,cv key,cv val,pv f,cv (IntKind.i64.wrap (steps+1)),.bool (th i).gX,cv no],ty,1,false⟩:=by rw[im];exact aG g
 have f2:Fr H1 (o.up H.length (-9)) H2 (o.up H.length (-9)) [-200-i]:=by rw[im];exact(Fr.refl _ _ _).put λ_=>by simp[lF]
 have L5:aq (.pointer (some ⟨ti,5,none⟩)) H2=some (pv f):=ao ti 5 H2 g2;have hf2:=hf.fr f2 (by simp<;>omega) (by simp<;>omega) (by simp<;>omega)
 have I2:=hm.fr f2 (by simp<;>omega) (by simp<;>omega)
 simp -implicitDefEqProofs only[WA,n0,L1,L6,S6,L5,sS,Nat.reduceAdd];refine Ev.call (Sn hf2 eA I2 hT (ftI i)) ?_;rintro v H3 ⟨o3,T',m',d,r1,adz,rfl,f3,hf3,XF,SZ,y3⟩;have f13:Fr H1 (o.up H.length (-9)) H3 o3 [-200-i, -210-i, -220-i, -70, -71]:=f2.trans f3 (by simp) (by simp)
 have c3:Cl H.length (rc bQ) 47 H3 o3:=c1.fr f13 (by simp<;>omega)
 have vN:(o.up H.length (-9)) ti= -200-i:=lF;have g3:H3.get ti=some ⟨[cv bud,.bool true,cv k,cv key,cv val,pv f,cv (IntKind.i64.wrap (steps+1)),.bool (th i).gX,cv no],ty,1,false⟩:=by rw[f3.same ti (ar g2) (by rw[vN];simp;omega)];exact g2
 have ho3:o3 ti= -200-i:=by rw[f3.own ti (ar g2)];exact vN
 have dy:ti≠H.length:=by
  rintro rfl;have:=c1.2
  omega
 cases d<;>simp -implicitDefEqProofs only[sS,Nat.reduceAdd]
 ·have A:=tD H.length bQ (s:=aA) rfl H3 c3.1 rfl;obtain⟨H4,pR⟩: ∃z,z=H3.put H.length ⟨rc bQ,47,1,false⟩:=⟨_,rfl⟩;have e4:(⟨[cv bQ.D5,.bool bQ.found,cv bQ.key,cv bQ.value,cv bQ.n,aA],47,1,false⟩:eM)=⟨rc bQ,47,1,false⟩:=rfl;rw[e4, ←pR] at A;have c4:Cl H.length (rc bQ) 47 H4 o3:=by rw[pR];exact c3.self
  have Lr:=pQ H.length bQ (s:=aA) H4 c4.1;have f4:Fr H3 o3 H4 o3 [-9]:=by rw[pR];exact(Fr.refl _ _ _).put λ_=>by simp[c3.2]
  simp -implicitDefEqProofs only[CI,A,Lr,sS,Nat.reduceAdd];have g4:H4.get ti=some ⟨[cv bud,.bool true,cv k,cv key,cv val,pv f,cv (IntKind.i64.wrap (steps+1)),.bool (th i).gX,cv no],ty,1,false⟩:=by rw[pR,bt dy];exact g3
  have ht3:TU H3 o3 i ⟨(th i).ti,true,(th i).gX,T',(th i).pr⟩:=⟨bud,k,key,val,_,no,pv f,ty,by rw[←et];exact g3,by rw[←et];exact ho3,λ_=>⟨f,_,_,_,rfl,hf3,XF⟩⟩
  have Tn:=h1.El hi f13 ht3 rfl SZ;have RI:=Tn.ue f4 (by simp)
  refine Ev.ret ⟨o3,bQ,aA,false,T',m',dn,rfl,?_,by rw[et];exact RI,y3,.nil,by simp[bQ]⟩
  have fA:=(f1.trans f13 (rs:=[-200-i, -210-i, -220-i, -70, -71]) (by simp) (λ_ h=>h))
  refine⟨λj hj hn=>?_,λj hj=>fA.own j hj,by have:=fA.size;have:=f4.size;show H.length≤H4.length;omega⟩
  show H4[j]? =_
  rw[pR,fi (by omega)];exact fA.slot j hj hn
 ·have S1:=r9 ti 1 (.bool false) H3 g3 rfl (by simp) rfl rfl rfl
  simp only[List.set_cons_succ,List.set_cons_zero] at S1;obtain⟨H4,pR⟩: ∃z,z=H3.put ti ⟨[cv bud,.bool false,cv k,cv key,cv val,pv f,cv (IntKind.i64.wrap (steps+1)),.bool (th i).gX,cv no],ty,1,false⟩:=⟨_,rfl⟩;rw[←pR] at S1;have g4:H4.get ti=some ⟨[cv bud,.bool false,cv k,cv key,cv val,pv f,cv (IntKind.i64.wrap (steps+1)),.bool (th i).gX,cv no],ty,1,false⟩:=by rw[pR];exact aG g3
  have f4:Fr H3 o3 H4 o3 [-200-i]:=by rw[pR];exact(Fr.refl _ _ _).put λ_=>by simp[ho3]
  have L5':aq (.pointer (some ⟨ti,5,none⟩)) H4=some (pv f):=ao ti 5 H4 g4;have TV:=hf3.fr f4 (by simp<;>omega) (by simp<;>omega) (by simp<;>omega)
  have hm4:=SZ.fr f4 (by simp<;>omega) (by simp<;>omega)
  obtain⟨aaD,a',b',p',q',op',O1,s',O2,gf,hof,PB,Gz,uV,TW,_⟩:=id TV;obtain⟨sa,sc,es⟩:=uV.isSlice;have L31:cZ 6 (.pointer (some ⟨f,31,none⟩)) H4=some (gj r1.res s'):=by simp[cZ,aR,gf]
  have c4:Cl H.length (rc bQ) 47 H4 o3:=c3.fr f4 (by simp<;>omega)
  have A:=tD H.length r1.res es H4 c4.1 rfl;obtain⟨H5,tJ⟩: ∃z,z=H4.put H.length ⟨R.LF r1.res s',47,1,false⟩:=⟨_,rfl⟩;have e5:(⟨[cv r1.res.D5,.bool r1.res.found,cv r1.res.key,cv r1.res.value,cv r1.res.n,s'],47,1,false⟩:eM)=⟨R.LF r1.res s',47,1,false⟩:=rfl;rw[e5, ←tJ] at A;have g5:H5.get H.length=some ⟨R.LF r1.res s',47,1,false⟩:=by rw[tJ];exact aG c4.1
  have Lr:=pQ H.length r1.res (s:=s') H5 g5;have f5:Fr H4 o3 H5 o3 [-9]:=by rw[tJ];exact(Fr.refl _ _ _).put λ_=>by simp[c4.2]
  simp -implicitDefEqProofs only[S1,L5',L31,A,Lr,sS,Nat.reduceAdd];have f14:Fr H1 (o.up H.length (-9)) H4 o3 [-200-i, -210-i, -220-i, -70, -71]:=f13.trans f4 (λ_ h=>h) (by simp)
  have ht4:TU H4 o3 i ⟨(th i).ti,false,(th i).gX,T',(th i).pr⟩:=⟨bud,k,key,val,_,no,pv f,ty,by rw[←et];exact g4,by rw[←et];exact ho3,λhh=>by simp at hh⟩
  have RI:=h1.El hi f14 ht4 rfl hm4;have hw5:=RI.ue f5 (by simp)
  refine Ev.ret ⟨o3,r1.res,s',true,T',m',dn,rfl,?_,by rw[et];exact hw5,y3,uV.fr f5 (by simp),TW⟩
  have fA:=(f1.trans f14 (rs:=[-200-i, -210-i, -220-i, -70, -71]) (by simp) (λ_ h=>h))
  refine⟨λj hj hn=>?_,λj hj=>fA.own j hj,by have:=fA.size;have:=f5.size;show H.length≤H5.length;omega⟩
  show H5[j]? =_
  rw[tJ,fi (by omega)];exact fA.slot j hj hn
end
section
open Go.Proofs.YtgfgglponbmgmaaGreatA
variable {G:ae} {H H':aa} {o o':aj} {p c mp f xp:Nat} {q:Int} {x:Value} {l:PL} {n i:Nat} {m m':Y.Mm} {T:List Int} {th:kl} {L:List ku} {N M:Nat}
theorem Ss (e:ku){s:Value}{a:Option Addr}{m c:Nat}(es:s= .slice a m c)(H:aa):ay Tryz.prog 63 1 [(0,evA e s)] H=some (.slice (some ⟨H.length,0,none⟩) 1 1,H.new ⟨fm e s,155,13,false⟩):=by subst es;kernel_rfl
theorem XH (t no pick:Int):aF Tryz.prog 155 [(0,cv 2),(1,cv t),(2,cv no),(5,cv pick)]=some (evA ⟨2,t,no,⟨0,0,0⟩,bQ,pick⟩ aA):=by kernel_rfl
theorem aaF (t no pick:Int)(op:jY):aF Tryz.prog 155 [(0,cv 1),(1,cv t),(2,cv no),(3,jj op),(5,cv pick)]=some (evA ⟨1,t,no,op,bQ,pick⟩ aA):=by kernel_rfl
theorem aaG (t no pick:Int)(r:eI){s:Value}{a:Option Addr}{m c:Nat}(es:s= .slice a m c):aF Tryz.prog 155 [(0,cv 3),(1,cv t),(2,cv no),(4,gj r s),(5,cv pick)]=some (evA ⟨3,t,no,⟨0,0,0⟩,r,pick⟩ s):=by subst es;kernel_rfl
structure Inv (th:kl) (L:List ku) (N M:Nat):Prop where
 len:L.length+um (th 0)+um (th 1)+um (th 2)≤N
 lists: ∀e∈L,e.res.list.length≤1048577
 tape: ∀i,i<3→(th i).T.length≤M
theorem CP {s:O6}{d:Nat}(hi:i<3)(h:um s+d≤um (th i)):um (oU th i s 0)+um (oU th i s 1)+um (oU th i s 2)+d≤um (th 0)+um (th 1)+um (th 2):=by
 have:i=0∨i=1∨i=2:=by omega
 rcases this with rfl|rfl|rfl<;>simp[oU]<;>omega
theorem XI {s:O6}{d:Nat}(hi:i<3)(h:um s≤um (th i)+d):um (oU th i s 0)+um (oU th i s 1)+um (oU th i s 2)≤um (th 0)+um (th 1)+um (th 2)+d:=by
 have:i=0∨i=1∨i=2:=by omega
 rcases this with rfl|rfl|rfl<;>simp[oU]<;>omega
theorem WR.oa (h:WR H o xp mp m th L): ∃(tb cap:Nat) (inv dW:Int),aq (.pointer (some ⟨xp,3,none⟩)) H=some (pv mp)∧aq (.pointer (some ⟨xp,4,none⟩)) H=some (.slice (some ⟨tb,0,none⟩) 3 cap)∧aq (.pointer (some ⟨xp,6,none⟩)) H=some (cv inv)∧aq (.pointer (some ⟨xp,7,none⟩)) H=some (cv dW)∧
  (∀i:Nat,i<3→(∀H',cK 1 (.slice (some ⟨tb,0,none⟩) 3 cap) (cv i) H'=some (.pointer (some ⟨tb,i,none⟩),H'))∧aq (.pointer (some ⟨tb,i,none⟩)) H=some (pv (th i).ti))∧xp<H.length∧o xp= -80∧tb<H.length∧o tb= -81:=by
 obtain⟨c0,c1,c2,inv,dW,tb,cap,Lx,rest,ty,nE,g,ho,gt,lF,hm,n6,hL⟩:=h;refine⟨tb,cap,inv,dW,ao xp 3 _ g,ao xp 4 _ g,ao xp 6 _ g,ao xp 7 _ g,λi hi=>⟨λH'=>?_,?_⟩,ar g,ho,ar gt,lF⟩
 ·simp only[cK];rw[if_pos (by constructor<;>omega)];simp
 ·rw[ao tb i _ gt];have:i=0∨i=1∨i=2:=by omega
  rcases this with rfl|rfl|rfl<;>rfl
theorem WR.XJ (h:WR H o xp mp m th L)(hi:i<3): ∃no:Int,aq (.pointer (some ⟨(th i).ti,1,none⟩)) H=some (.bool (th i).busy)∧aq (.pointer (some ⟨(th i).ti,7,none⟩)) H=some (.bool (th i).gX)∧aq (.pointer (some ⟨(th i).ti,8,none⟩)) H=some (cv no):=by
 obtain⟨c0,c1,c2,inv,dW,tb,cap,Lx,rest,ty,nE,g,ho,gt,lF,hm,n6,hL⟩:=h;obtain⟨bud,k,key,val,steps,no,F,ty,g,lF,hF⟩:=n6 i hi;exact⟨no,ao _ 1 _ g,ao _ 7 _ g,ao _ 8 _ g⟩
theorem WR.gX (h:WR H o xp mp m th L)(hi:i<3)(b:Bool): ∃H1,bD 1 (.pointer (some ⟨(th i).ti,7,none⟩)) (.bool b) H=some (undef,H1)∧WR H1 o xp mp m (oU th i ⟨(th i).ti,(th i).busy,b,(th i).T,(th i).pr⟩) L∧Fr H o H1 o [-200-i]:=by
 obtain⟨c0,c1,c2,inv,dW,tb,cap,Lx,rest,ty,nE,g,ho,gt,lF,hm,n6,hL⟩:=id h;obtain⟨bud,k,key,val,steps,no,F,ty,g,lF,hF⟩:=n6 i hi;have S:=r9 (th i).ti 7 (.bool b) H g rfl (by simp) rfl rfl rfl
 simp only[List.set_cons_succ,List.set_cons_zero] at S;have f:Fr H o (H.put (th i).ti ⟨[cv bud,.bool (th i).busy,cv k,cv key,cv val,F,cv steps,.bool b,cv no],ty,1,false⟩) o [-200-i]:=(Fr.refl _ _ _).put λ_=>by simp[lF]
 refine⟨_,S,h.El hi (f.wk (by simp)) ⟨bud,k,key,val,steps,no,F,ty,aG g,lF,λhb=>?_⟩ rfl (hm.fr f (by simp<;>omega) (by simp<;>omega)),f⟩
 obtain⟨f',d,r,rec,e,hf,eA⟩:=hF hb;exact⟨f',d,r,rec,e,hf.fr f (by simp<;>omega) (by simp<;>omega) (by simp<;>omega),eA⟩
theorem WR.app (h:WR H o xp mp m th L)(e:ku){s:Value}(hs:gN H o (-41) s e.res.list)(hl:L.length<4000000): ∃Lx,aq (.pointer (some ⟨xp,5,none⟩)) H=some Lx∧aq (.pointer (some ⟨xp,5,none⟩)) (H.new ⟨fm e s,155,13,false⟩)=some Lx∧pG Lx Lx=true∧∃x' H1 H2 o2,
  de 155 13 120 Lx (.slice (some ⟨H.length,0,none⟩) 1 1) (H.new ⟨fm e s,155,13,false⟩)=some (x',H1)∧bD 1 (.pointer (some ⟨xp,5,none⟩)) x' H1=some (undef,H2)∧WR H2 o2 xp mp m th (L++[e])∧Fr H o H2 o2 [-82, -80]:=by
 obtain⟨c0,c1,c2,inv,dW,tb,cap,Lx,rest,ty,nE,g,ho,gt,lF,hm,n6,hL⟩:=h;obtain⟨H1,e1⟩: ∃z,z=H.new ⟨fm e s,155,13,false⟩:=⟨_,rfl⟩;have f1:Fr H o H1 (o.up H.length (-9)) []:=by rw[e1];exact(Fr.refl H o []).new _ _
 have g1:H1.get H.length=some ⟨fm e s,155,13,false⟩:=by rw[e1];exact aL
 have TX:H1.get xp=some ⟨[cv c0,cv c1,cv c2,pv mp,.slice (some ⟨tb,0,none⟩) 3 cap,Lx,cv inv,cv dW],ty,1,false⟩:=by rw[f1.same xp (ar g) (by simp)];exact g
 have aaH:(o.up H.length (-9)) xp= -80:=by rw[f1.own xp (ar g)];exact ho
 obtain⟨x',H2,o2,a2,lg,f2⟩:=(hL.fr f1 (by simp) (by simp)).app (tE:=155) g1 (hs.fr f1 (by simp)) (by simp) (by omega)
 have gx2:H2.get xp=some ⟨[cv c0,cv c1,cv c2,pv mp,.slice (some ⟨tb,0,none⟩) 3 cap,Lx,cv inv,cv dW],ty,1,false⟩:=by rw[f2.same xp (ar TX) (by rw[aaH];simp)];exact TX
 have aaI:o2 xp= -80:=by rw[f2.own xp (ar TX)];exact aaH
 have YL: ∃a n c,x'= .slice a n c:=by
  rcases lg with⟨e,_⟩|⟨_,_,_,_,_,e,_⟩
  ·exact⟨_,_,_,e⟩
  ·exact⟨_,_,_,e⟩
 obtain⟨xa,xn,xc,ex⟩:=YL;have S:=FL xp 5 xa xn xc H2 gx2 rfl (by simp)
 rw[←ex] at S;simp only[List.set_cons_succ,List.set_cons_zero] at S;obtain⟨H3,e3⟩: ∃z,z=H2.put xp ⟨[cv c0,cv c1,cv c2,pv mp,.slice (some ⟨tb,0,none⟩) 3 cap,x',cv inv,cv dW],ty,1,false⟩:=⟨_,rfl⟩;rw[←e3] at S;have f3:Fr H2 o2 H3 o2 [-80]:=by rw[e3];exact(Fr.refl _ _ _).put λ_=>by simp[aaI]
 have fA:Fr H o H3 o2 [-82, -80]:=(f1.trans f2 (rs:=[-82, -80]) (by simp) (by simp)).trans f3 (by simp) (by simp)
 have Ai:pG Lx Lx=true:=by
  rcases hL with⟨e,_⟩|⟨_,_,_,_,_,e,_⟩
  ·rw[e];exact kJ ..
  ·rw[e];exact kJ ..
 rw[←e1];refine⟨Lx,ao xp 5 _ g,ao xp 5 _ TX,Ai,x',H2,H3,o2,a2,S,⟨c0,c1,c2,inv,dW,tb,cap,x',rest,ty,nE,by rw[e3];exact aG gx2,aaI,?_,?_,hm.fr fA (by simp) (by simp),λj hj=>?_,lg.fr f3 (by simp) (by simp)⟩,fA⟩
 ·rw[fA.same tb (ar gt) (by rw[lF];simp)];exact gt
 ·rw[fA.own tb (ar gt)];exact lF
 ·exact(n6 j hj).fr fA (by simp<;>omega) (by simp<;>omega) (by simp<;>omega) (by simp)
theorem O7 (h:WR H o xp mp m th L)(hi:i<3):aE (run G) 129 [pv (th i).ti] H (Cs H):=by
 refine Ev.up (t:=λk=>WD (run G k) k (pv (th i).ti) H) ?_ λk=>Ro ..
 obtain⟨c0,c1,c2,inv,dW,tb,cap,Lx,rest,ty,nE,g,ho,gt,lF,hm,n6,hL⟩:=h;obtain⟨bud,k,key,val,steps,no,F,ty,g,lF,hF⟩:=n6 i hi;have L1:aq (.pointer (some ⟨(th i).ti,1,none⟩)) H=some (.bool (th i).busy):=ao _ 1 _ g;have L5:aq (.pointer (some ⟨(th i).ti,5,none⟩)) H=some F:=ao _ 5 _ g;simp -implicitDefEqProofs only[WD,L1,sS,Nat.reduceAdd];cases hb:(th i).busy<;>simp -implicitDefEqProofs only[L5,sS,Nat.reduceAdd]
 ·exact Ev.ret ⟨⟨_,rfl⟩,rfl⟩
 ·obtain⟨f,d,r,rec,rfl,hf,eA⟩:=hF hb;obtain⟨proc,a,b,p,q,op,tape,s,laid,g,_⟩:=hf;have L38:aq (.pointer (some ⟨f,38,none⟩)) H=some (cv laid):=ao f 38 _ g;simp -implicitDefEqProofs only[L38,sS,Nat.reduceAdd];exact Ev.ret ⟨⟨_,rfl⟩,rfl⟩
theorem aaJ (h:WR H o xp mp m th L)(a:Int):aE (run G) 33 [pv mp,cv a] H (Cs H):=by
 obtain⟨c0,c1,c2,inv,dW,tb,cap,Lx,rest,ty,nE,g,ho,gt,lF,hm,n6,hL⟩:=h;exact(CN hm.look hm.zU.1 a).mono λv H' hq=>⟨⟨_,hq.1⟩,hq.2⟩
theorem IE (hi:i<3): ∀z∈([-200-i]:List Int),z∈wt:=λz hz=>ID hi z (by simp at hz;simp[hz])
def uo (a b:kl):Prop:=∀j,(b j).ti=(a j).ti∧(b j).busy=(a j).busy∧(b j).T=(a j).T∧(b j).pr=(a j).pr
theorem Su (h:WR H o xp mp m th L)(hI:Inv th L N M)(hN:N<4000000):aE (run G) 102 [pv xp] H λv H'=>∃o' jz L',Fr H o H' o' wt∧WR H' o' xp mp m jz L'∧Inv jz L' N M∧uo th jz:=by
 refine Ev.up (t:=λk=>WB (run G k) k (pv xp) H) ?_ λk=>Rm ..
 simp -implicitDefEqProofs only[WB,sS,Nat.reduceAdd];refine Ev.loop (k:=3) (λk vs Hx=>∃(j:Nat) (o1:aj) (kA:kl) (L1:List ku) (aC x3 dp:Value),j+k=3∧vs=[pv xp,cv j,aC,x3,dp]∧Fr H o Hx o1 wt∧WR Hx o1 xp mp m kA L1∧Inv kA L1 N M∧uo th kA)
  (λr=>r.1= .exit 0∧∃(o1:aj) (kA:kl) (L1:List ku),Fr H o r.2.2 o1 wt∧WR r.2.2 o1 xp mp m kA L1∧Inv kA L1 N M∧uo th kA)
  ⟨0,o,th,L,_,_,_,rfl,rfl,Fr.refl _ _ _,h,hI,λj=>⟨rfl,rfl,rfl,rfl⟩⟩ ?_ ?_
 ·rintro k vs Hx ⟨j,o1,kA,L1,aC,x3,dp,z9,rfl,kO,hw,A7,nG⟩;obtain⟨tb,cap,inv,dW,e3,e4,e6,e7,eT,_⟩:=hw.oa;have Br:IntKind.i64.wrap ((j:Int)+1)=((j+1:Nat):Int):=by rw[fL (by omega)];omega
  simp -implicitDefEqProofs only[Kz,yh,e4,cG,sS,Nat.reduceAdd];refine Ev.lss (λhq=>?_) (λhq=>?_)<;>try simp -implicitDefEqProofs only[e4,sS,Nat.reduceAdd]
  ·have gA:j<3:=by omega
   obtain⟨XK,XL⟩:=eT j gA;obtain⟨no,b1,b7,b8⟩:=hw.XJ gA;have iJ: ∀(aC x3 dp:Value) {H2:aa} {o2:aj} {Mb:kl} {L2:List ku},Fr H o H2 o2 wt→WR H2 o2 xp mp m Mb L2→Inv Mb L2 N M→uo th Mb→Ev (λn=>vx (run G n) n [pv xp,cv j,aC,x3,dp] H2) λr=>(r.1= .normal∧∃k',k'<k∧∃(j:Nat) (o1:aj) (kA:kl) (L1:List ku) (aC x3 dp:Value),j+k'=3∧r.2.1=[pv xp,cv j,aC,x3,dp]∧Fr H o r.2.2 o1 wt∧WR r.2.2 o1 xp mp m kA L1∧Inv kA L1 N M∧uo th kA)∨(r.1≠ .normal∧r.1= .exit 0∧∃(o1:aj) (kA:kl) (L1:List ku),Fr H o r.2.2 o1 wt∧WR r.2.2 o1 xp mp m kA L1∧Inv kA L1 N M∧uo th kA):=by
    intro aC x3 dp H2 o2 Mb L2 a1 a2 a3 a4;simp -implicitDefEqProofs only[Ky,yg,Br,sS,Nat.reduceAdd];exact Ev.ret (.inl ⟨rfl,k-1,by omega,j+1,o2,Mb,L2,_,_,_,by omega,rfl,a1,a2,a3,a4⟩)
   simp -implicitDefEqProofs only[XK,XL,b1,sS,Nat.reduceAdd];cases hb:(kA j).busy<;>simp -implicitDefEqProofs only[b7,sS,Nat.reduceAdd]
   ·exact iJ _ _ _ kO hw A7 nG
   cases ht:(kA j).gX<;>simp -implicitDefEqProofs only[sS,Nat.reduceAdd]
   ·refine Ev.ke (O7 hw gA) λzl=>?_
    try simp -implicitDefEqProofs only[sS,Nat.reduceAdd]
    refine Ev.gtr (λhq=>?_) (λhq=>?_)<;>try simp -implicitDefEqProofs only[e3,sS,Nat.reduceAdd]
    ·refine Ev.ke (O7 hw gA) λzl=>?_
     try simp -implicitDefEqProofs only[sS,Nat.reduceAdd]
     refine Ev.ke (aaJ hw _) λza=>?_
     try simp -implicitDefEqProofs only[e3,jM,sS,Nat.reduceAdd]
     refine Ev.eql (λhq=>?_) (λhq=>?_)<;>try simp -implicitDefEqProofs only[e3,jM,sS,Nat.reduceAdd]
     ·obtain⟨H2,S7,uA,f2⟩:=hw.gX gA true;obtain⟨TY,eY,adA,O8,k3,k4,k6,k7,kT,_⟩:=uA.oa;obtain⟨no',d1,d7,d8⟩:=uA.XJ gA;have ed:(oU kA j ⟨(kA j).ti,(kA j).busy,true,(kA j).T,(kA j).pr⟩ j).ti=(kA j).ti:=by simp[oU]
      rw[ed] at d8;have hlen:=A7.len;obtain⟨Lx,c1,c2,c3,x',H3,H4,o4,c4,c5,RI,f4⟩:=uA.app ⟨2,j,no',⟨0,0,0⟩,bQ,O8⟩ (s:=aA) .nil (by omega)
      simp -implicitDefEqProofs only[S7,c1,d8,k7,XH,Ss _ rfl,c2,c4,c5,c3,sS,Nat.reduceAdd];refine iJ _ _ _ ((kO.trans f2 (rs:=wt) (λ_ h=>h) (IE gA)).trans f4 (λ_ h=>h) (by simp)) RI ⟨?_,?_,?_⟩ ?_
      ·have hp:=CP (th:=kA) (s:=⟨(kA j).ti,(kA j).busy,true,(kA j).T,(kA j).pr⟩) (d:=1) gA (by simp[um,hb,ht])
       simp only[List.length_append,List.length_singleton];omega
      ·intro e he;rcases List.mem_append.1 he with he|he
       ·exact A7.lists e he
       ·have:e=⟨2,j,no',⟨0,0,0⟩,bQ,O8⟩:=by simpa using he
        subst this;simp[bQ]
      ·intro i hi;have:=A7.tape i hi
       unfold oU;split
       ·rename_i e;subst e;exact this
       ·exact this
      ·intro i;have:=nG i
       unfold oU;split
       ·rename_i e;subst e;exact this
       ·exact this
     ·exact iJ _ _ _ kO hw A7 nG
    ·exact iJ _ _ _ kO hw A7 nG
   ·exact iJ _ _ _ kO hw A7 nG
  ·exact Ev.ret (.inr ⟨by simp,rfl,o1,kA,L1,kO,hw,A7,nG⟩)
 ·rintro e vs Hx ⟨he,o1,kA,L1,a1,a2,a3,a4⟩;simp only at he;subst he;show Ev (λ_=>some (Value.tuple #[],Hx)) _
  exact Ev.ret ⟨o1,kA,L1,a1,a2,a3,a4⟩
end
section
open Go.Proofs.YtgfgglponbmgmaaGreatA
variable {G:ae} {H H':aa} {o o':aj} {p c mp f xp:Nat} {q:Int} {x:Value} {l:PL} {n i:Nat} {m m':Y.Mm} {T:List Int} {th:kl} {L:List ku} {N M:Nat}
theorem WR.dW (h:WR H o xp mp m th L)(z:Int): ∃H1,bD 1 (.pointer (some ⟨xp,7,none⟩)) (cv z) H=some (undef,H1)∧WR H1 o xp mp m th L∧Fr H o H1 o [-80]:=by
 obtain⟨c0,c1,c2,inv,dW,tb,cap,Lx,rest,ty,nE,g,ho,gt,lF,hm,n6,hL⟩:=h;have S:=gR xp 7 z H g rfl (by simp)
 simp only[List.set_cons_succ,List.set_cons_zero] at S;have f:Fr H o (H.put xp ⟨[cv c0,cv c1,cv c2,pv mp,.slice (some ⟨tb,0,none⟩) 3 cap,Lx,cv inv,cv z],ty,1,false⟩) o [-80]:=(Fr.refl _ _ _).put λ_=>by simp[ho]
 refine⟨_,S,⟨c0,c1,c2,inv,z,tb,cap,Lx,rest,ty,nE,aG g,ho,?_,lF,hm.fr f (by simp) (by simp),λj hj=>?_,hL.fr f (by simp) (by simp)⟩,f⟩
 ·rw[f.same tb (ar gt) (by rw[lF];simp)];exact gt
 ·exact(n6 j hj).fr f (by simp<;>omega) (by simp<;>omega) (by simp<;>omega) (by simp)
theorem WR.acO (h:WR H o xp mp m th L)(z:Int): ∃H1,bD 1 (.pointer (some ⟨xp,6,none⟩)) (cv z) H=some (undef,H1)∧WR H1 o xp mp m th L∧Fr H o H1 o [-80]:=by
 obtain⟨c0,c1,c2,inv,dW,tb,cap,Lx,rest,ty,nE,g,ho,gt,lF,hm,n6,hL⟩:=h;have S:=gR xp 6 z H g rfl (by simp)
 simp only[List.set_cons_succ,List.set_cons_zero] at S;have f:Fr H o (H.put xp ⟨[cv c0,cv c1,cv c2,pv mp,.slice (some ⟨tb,0,none⟩) 3 cap,Lx,cv z,cv dW],ty,1,false⟩) o [-80]:=(Fr.refl _ _ _).put λ_=>by simp[ho]
 refine⟨_,S,⟨c0,c1,c2,z,dW,tb,cap,Lx,rest,ty,nE,aG g,ho,?_,lF,hm.fr f (by simp) (by simp),λj hj=>?_,hL.fr f (by simp) (by simp)⟩,f⟩
 ·rw[f.same tb (ar gt) (by rw[lF];simp)];exact gt
 ·exact(n6 j hj).fr f (by simp<;>omega) (by simp<;>omega) (by simp<;>omega) (by simp)
def A8 (i:Nat)(th:kl)(m:Y.Mm)(jz:kl)(m':Y.Mm):Prop:=
 ∃kA,uo kA jz∧(((th i).busy=false∧kA=th∧m'=m)∨((th i).busy=true∧∃done T' b,tK (th i).pr done (th i).T m T' m'∧kA=oU th i ⟨(th i).ti,b,(th i).gX,T',(th i).pr⟩))
theorem XM (h:WR H o xp mp m th L)(hi:i<3)(hI:Inv th L N M)(hN:N<4000000)(hM:M<1048576):aE (run G) 74 [pv xp,cv i] H λv H'=>∃o' jz L' m' r s e,
  v= .tuple #[gj r s,.bool e]∧(∃a n c,s= .slice a n c)∧Fr H o H' o' wt∧WR H' o' xp mp m' jz L'∧Inv jz L' N (M+1)∧A8 i th m jz m':=by
 refine Ev.up (t:=λk=>F74 (run G k) k (pv xp) (cv i) H) ?_ λk=>UW ..
 obtain⟨H1,fV⟩: ∃z,z=H.new ⟨rc bQ,47,1,false⟩:=⟨_,rfl⟩;have l1:H1.length=H.length+1:=by rw[fV,cA]
 have n0:aS H 47 1 [cv 0,.bool false,cv 0,cv 0,cv 0,aA]=(pv H.length,H1):=by rw[fV];rfl
 obtain⟨oA,PR⟩: ∃z,z=(o.up H.length (-9)).up H1.length (-9):=⟨_,rfl⟩;have f1:Fr H o H1 (o.up H.length (-9)) []:=by rw[fV];exact(Fr.refl H o []).new _ _
 have XN:Fr H o H1 oA []:=⟨f1.slot,λj hj=>by rw[PR,dL (by omega)];exact f1.own j hj,f1.size⟩
 have c1:Cl H.length (rc bQ) 47 H1 oA:=⟨by rw[fV];exact aL,by rw[PR,dL (by omega)];exact aP⟩
 have h1:=h.ue XN (by simp)
 obtain⟨tb,cap,inv,dW,e3,e4,e6,e7,eT,hxl,hxo,Xk,hto⟩:=h1.oa;obtain⟨XK,XL⟩:=eT i hi;obtain⟨no,b1,b7,b8⟩:=h1.XJ hi;have hM1: ∀j,j<3→(th j).T.length≤M+1:=λj hj=>by have:=hI.tape j hj;omega
 have gF: ∀{Hx:aa} {ox:aj} {jz:kl} {L':List ku} {m':Y.Mm},Cl H.length (rc bQ) 47 Hx ox→Fr H o Hx ox wt→WR Hx ox xp mp m' jz L'→Inv jz L' N (M+1)→A8 i th m jz m'→Ev (λk=>af (bD 6 (pv H.length) (gj bQ aA) Hx) λ_ Hy=>af (pS (cZ 6 (pv H.length) Hy) Hy) λr0 _=>some (Value.tuple #[r0,.bool false],Hy)) λrr=>∃o' jz L' m' r s e,rr.1= .tuple #[gj r s,.bool e]∧(∃a n c,s= .slice a n c)∧Fr H o rr.2 o' wt∧WR rr.2 o' xp mp m' jz L'∧Inv jz L' N (M+1)∧A8 i th m jz m':=by
  intro Hx ox jz L' m' hc hf hw hI' YB;have A:=tD H.length bQ (s:=aA) rfl Hx hc.1 rfl;have f4:Fr Hx ox (Hx.put H.length ⟨rc bQ,47,1,false⟩) ox [-9]:=(Fr.refl _ _ _).put λ_=>by simp[hc.2]
  have Lr:=pQ H.length bQ (s:=aA) (t:=47) _ (aG hc.1);simp -implicitDefEqProofs only[A,Lr,sS,Nat.reduceAdd];exact Ev.ret ⟨ox,jz,L',m',bQ,aA,false,rfl,⟨_,_,_,rfl⟩,hf.put (λhh=>by omega),hw.ue f4 (by simp),hI',YB⟩
 simp -implicitDefEqProofs only[F74,n0,sS,Nat.reduceAdd];refine Ev.lss (λhq=>?_) (λhq=>?_)<;>try simp -implicitDefEqProofs only[e4,cG,sS,Nat.reduceAdd]
 ·omega
 refine Ev.geq (λhq=>?_) (λhq=>?_)<;>try simp -implicitDefEqProofs only[e4,XK,XL,b1,sS,Nat.reduceAdd]
 ·omega
 cases hb:(th i).busy<;>simp -implicitDefEqProofs only[CI,e7,sS,Nat.reduceAdd]
 ·exact gF c1 (XN.wk (by simp)) h1 ⟨hI.len,hI.lists,hM1⟩ ⟨th,λj=>⟨rfl,rfl,rfl,rfl⟩,.inl ⟨hb,rfl,rfl⟩⟩
 obtain⟨H2,S7,h2,f2⟩:=h1.dW (IntKind.i64.wrap (dW+1));obtain⟨TZ,Bl,inv2,XO,j3,j4,j6,j7,jT,jxl,jxo,jtl,jto⟩:=h2.oa;have l2:H2.length=H.length+1:=by
  have:=f2.size
  rw[l1] at this;have e2:H2.length=H1.length:=by
   have hh:=S7;obtain⟨_,_,_,_,_,_,_,_,_,_,_,g,_⟩:=id h1;rw[gR xp 7 _ H1 g rfl (by simp)] at hh
   injection hh with hh;injection hh with _ hh;rw[←hh,iC]
  omega
 obtain⟨H3,mo⟩: ∃z,z=H2.cB 1:=⟨_,rfl⟩;have f3:Fr H2 oA H3 oA []:=by rw[mo];exact(Fr.refl _ _ _).cB 1
 have h3:=h2.ue f3 (by simp)
 have aaK:H3[H2.length]? =some .hole:=by rw[mo];exact AH
 have l3:H3.length=H2.length+1:=by rw[mo,AI]
 have m3: ∀{a:Nat} {k:Nat} {b:eM} {y:Value},aq (.pointer (some ⟨a,k,none⟩)) H2=some y→a<H2.length→aq (.pointer (some ⟨a,k,none⟩)) H3=some y:=λ{a k b y} e ha=>by
  have:H3.get a=H2.get a:=dZ (f3.slot a ha (by simp))
  simp only[aq,this] at e ⊢;exact e
 have k3:=m3 (b:=⟨[],0,1,false⟩) j3 jxl;have k4:=m3 (b:=⟨[],0,1,false⟩) j4 jxl;obtain⟨jT1,jT2⟩:=jT i hi;have kT:=m3 (b:=⟨[],0,1,false⟩) jT2 jtl;have acP:H2.cB 1=H3:=mo.symm;simp -implicitDefEqProofs only[S7,acP,k4,jT1,kT,k3,sS,Nat.reduceAdd];have hTl:(th i).T.length<1048576:=by have:=hI.tape i hi;omega
 refine Ev.call (Sr h3 hi hb hTl) ?_;rintro v H4 ⟨o4,r,s,e,T',m',dn,rfl,f4,h4,y3,hs4,hr4⟩;have hT':=y3.len;obtain⟨sa,sc,es⟩:=hs4.isSlice;have oA2:oA H2.length= -9:=by rw[PR,l2, ←l1];exact aP
 have aaL:H4[H2.length]? =some .hole:=by rw[f4.slot H2.length (by omega) (by rw[oA2];simp<;>omega)];exact aaK
 have o42:o4 H2.length= -9:=by rw[f4.own H2.length (by omega)];exact oA2
 have l4:=f4.size;obtain⟨H5,tJ⟩: ∃z:aa,z=H4.set H2.length (.y7 ⟨rc bQ,47,1,false⟩):=⟨_,rfl⟩;have lay:Jd H2.length (some (λi=>Value.pointer (some ⟨i,0,none⟩),(⟨[cv 0,.bool false,cv 0,cv 0,cv 0,aA],47,1,false⟩:eM))) H4=some (pv H2.length,H5):=by rw[tJ];exact GC aaL
 have f5:Fr H4 o4 H5 o4 [-9]:=by rw[tJ];exact(Fr.refl _ _ _).set _ λ_=>by simp[o42]
 have g5:H5.get H2.length=some ⟨rc bQ,47,1,false⟩:=by rw[tJ];exact r8 (by omega)
 have A6:=tD H2.length r es H5 g5 rfl;obtain⟨H6,C1⟩: ∃z,z=H5.put H2.length ⟨R.LF r s,47,1,false⟩:=⟨_,rfl⟩;have e6':(⟨[cv r.D5,.bool r.found,cv r.key,cv r.value,cv r.n,s],47,1,false⟩:eM)=⟨R.LF r s,47,1,false⟩:=rfl;rw[e6', ←C1] at A6;have f6:Fr H5 o4 H6 o4 [-9]:=by rw[C1];exact(Fr.refl _ _ _).put λ_=>by simp[o42]
 have f46:Fr H4 o4 H6 o4 [-9]:=f5.tr f6;have h6:=h4.ue f46 (by simp)
 have c6:Cl H2.length (R.LF r s) 47 H6 o4:=⟨by rw[C1];exact aG g5,o42⟩
 have hs6:gN H6 o4 (-41) s r.list:=hs4.fr f46 (by simp)
 have kk: ∀{a:Nat} {k:Nat} {y:Value} {Hx:aa},aq (.pointer (some ⟨a,k,none⟩)) H3=some y→(Hx.get a=H3.get a)→aq (.pointer (some ⟨a,k,none⟩)) Hx=some y:=λ{a k y Hx} e hx=>by
  simp only[aq,hx] at e ⊢;exact e
 have gx4:H4.get xp=H3.get xp:=f4.same xp (by omega) (by rw[jxo];simp<;>omega)
 have gt4:H4.get TZ=H3.get TZ:=f4.same TZ (by omega) (by rw[jto];simp<;>omega)
 have gx5:H5.get xp=H3.get xp:=by rw[tJ,dZ (adL (by omega))];exact gx4
 have gt5:H5.get TZ=H3.get TZ:=by rw[tJ,dZ (adL (by omega))];exact gt4
 have ev4:pG (Value.slice (some ⟨TZ,0,none⟩) 3 Bl) (Value.slice (some ⟨TZ,0,none⟩) 3 Bl)=true:=kJ ..;have dY:=kk k4 gx4;have dI:=kk k4 gx5;have dC:=kk k3 gx4;have bP:=kk k3 gx5;have xT4:=kk kT gt4;have xT5:=kk kT gt5;simp -implicitDefEqProofs only[Nat.add_zero,lay,A6,k4,kT,k3,dY,dI,dC,bP,xT4,xT5,ev4,jM,sS,Nat.reduceAdd];have hI4:Inv (oU th i ⟨(th i).ti, !e,(th i).gX,T',(th i).pr⟩) L (if e then N-1 else N) (M+1):=by
  refine⟨?_,hI.lists,λj hj=>?_⟩
  ·have hl:=hI.len;cases e with
   |false=>
    have hp:=CP (th:=th) (s:=⟨(th i).ti, !false,(th i).gX,T',(th i).pr⟩) (d:=0) hi (by simp[um,hb])
    simp only[Bool.false_eq_true,if_false];omega
   |true=>
    have hp:=CP (th:=th) (s:=⟨(th i).ti, !true,(th i).gX,T',(th i).pr⟩) (d:=1) hi (by cases ht:(th i).gX<;>simp[um,hb,ht])
    simp only[if_true];omega
  ·unfold oU;split
   ·have:=hI.tape i hi
    show T'.length≤M+1
    omega
   ·exact hM1 j hj
 refine Ev.call (Su h6 hI4 (by split<;>omega)) ?_
 rintro v H7 ⟨o7,th7,L7,f7,h7,LH,nG⟩;have YB:A8 i th m th7 m':=⟨_,nG,.inr ⟨hb,dn,T', !e,y3,rfl⟩⟩;have fA7:Fr H o H7 o7 wt:=((((XN.trans f2 (rs:=wt) (by simp) (by simp)).trans f3 (rs:=wt) (λ_ h=>h) (by simp)).trans f4 (rs:=wt) (λ_ h=>h) (ID hi)).trans f46 (rs:= -9::wt) (by simp) (by simp)).trans f7 (rs:= -9::wt) (λ_ h=>h) (by simp) |> λf=>by
  exact⟨λj hj hn=>by
   rw[f7.slot j (by have:=f46.size;omega) (by rw[(f46.own j (by omega)),f4.own j (by omega)];have:=XN.own j hj;rw[this];exact hn)]
   have dy:j≠H2.length:=by omega
   rw[C1,fi dy,tJ,adL dy,f4.slot j (by omega) (by rw[XN.own j hj];exact λhh=>hn (ID hi _ hh)),f3.slot j (by omega) (by simp),f2.slot j (by omega) (by rw[XN.own j hj];exact λhh=>hn (by simp at hh;simp[hh]))]
   exact XN.slot j hj (by simp),f.own,f.size⟩
 have c7:Cl H2.length (R.LF r s) 47 H7 o7:=c6.fr f7 (by simp)
 have aaM:Cl H.length (rc bQ) 47 H7 o7:=by
  have a1:Cl H.length (rc bQ) 47 H4 o4:=((c1.fr f2 (by simp)).fr f3 (by simp)).fr f4 (by simp<;>omega)
  have a2:Cl H.length (rc bQ) 47 H6 o4:=⟨by rw[C1,bt (by omega),tJ,dZ (adL (by omega))];exact a1.1,a1.2⟩
  exact a2.fr f7 (by simp)
 have hs7:gN H7 o7 (-41) s r.list:=hs6.fr f7 (by simp)
 cases e<;>simp -implicitDefEqProofs only[CI,sS,Nat.reduceAdd]
 ·exact gF aaM fA7 h7 (by simpa using LH) YB
 ·simp only[if_true] at LH;have hN1:1≤N:=by
   have:=hI.len
   have hp:1≤um (th i):=by cases ht:(th i).gX<;>simp[um,hb,ht]
   have:i=0∨i=1∨i=2:=by omega
   rcases this with rfl|rfl|rfl<;>omega
  obtain⟨tb7,acQ,acR,tL,i3,i4,i6,i7,iT,ixl,ixo,itl,ito⟩:=h7.oa;obtain⟨iT1,iT2⟩:=iT i hi;obtain⟨no7,d1,d7,d8⟩:=h7.XJ hi;have Lr:=pQ H2.length r (s:=s) H7 c7.1;have adB:=LH.len;obtain⟨Lx,q1,q2,q3,x',H8,H9,o9,q4,q5,h9,f9⟩:=h7.app ⟨3,i,no7,⟨0,0,0⟩,r,tL⟩ (s:=s) hs7 (by omega)
  have c9:Cl H2.length (R.LF r s) 47 H9 o9:=c7.fr f9 (by simp)
  have O9:Cl H.length (rc bQ) 47 H9 o9:=aaM.fr f9 (by simp)
  have Lr9:=pQ H2.length r (s:=s) H9 c9.1;have A10:=tD H.length r es H9 O9.1 rfl;have acS:=pQ H.length r (s:=s) (t:=47) _ (aG (c:=⟨R.LF r s,47,1,false⟩) O9.1);have e10:(⟨[cv r.D5,.bool r.found,cv r.key,cv r.value,cv r.n,s],47,1,false⟩:eM)=⟨R.LF r s,47,1,false⟩:=rfl;rw[e10] at A10;have f10:Fr H9 o9 (H9.put H.length ⟨R.LF r s,47,1,false⟩) o9 [-9]:=(Fr.refl _ _ _).put λ_=>by simp[O9.2]
  simp -implicitDefEqProofs only[q1,i4,iT1,iT2,d8,Lr,i7,aaG _ _ _ r es,Ss _ es,q2,q4,q5,q3,Lr9,A10,acS,sS,Nat.reduceAdd];refine Ev.ret ⟨o9,th7,L7++[⟨3,i,no7,⟨0,0,0⟩,r,tL⟩],m',r,s,true,rfl,⟨_,_,_,es⟩,(fA7.trans f9 (rs:=wt) (λ_ h=>h) (by simp)).put (λhh=>by omega),h9.ue f10 (by simp),⟨?_,?_,LH.tape⟩,YB⟩
  ·simp only[List.length_append,List.length_singleton];omega
  ·intro z hz;rcases List.mem_append.1 hz with hz|hz
   ·exact LH.lists z hz
   ·have:z=⟨3,i,no7,⟨0,0,0⟩,r,tL⟩:=by simpa using hz
    subst this;exact hr4
end
end Go.Proofs.YtgfgglponbmgmaaGreat.Fun
end
