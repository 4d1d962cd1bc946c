/- Texts of the proof of peekPlays_holds, put together by a small program of ours (names shortened, spaces taken out). No condition beyond the given statement. -/
import Derived.Test.YtgfgglponbmgmaaGreatPKP13
import Derived.Test.YtgfgglponbmgmaaGreatPKP33
import Derived.Test.YtgfgglponbmgmaaGreatPKP14
import Derived.Test.YtgfgglponbmgmaaGreatPKP12
set_option linter.unusedVariables false
set_option linter.unusedSimpArgs false
set_option linter.unnecessarySimpa false
noncomputable section
section
namespace Go.Proofs.YtgfgglponbmgmaaGreat.Fun
open Go Go.RowKit Go.Proofs.YtgfgglponbmgmaaGreatA.Am
set_option maxRecDepth 10000
section
open Go.Proofs.YtgfgglponbmgmaaGreatA
variable {G:ae} {H H':aa} {o o':aj} {p c mp f xp:Nat} {q:Int} {x:Value} {l:PL} {n i:Nat} {m m':Y.Mm} {T:List Int}
structure PN where
 ti:Nat
 busy:Bool
 hY:Bool
 T:List Int
 pr:Pr
def uG (t:PN):Nat:=if t.busy then(if t.hY then 1 else 2) else 0
def UW (H:aa)(o:aj)(i:Nat)(s:PN):Prop:=
 ∃(bud k key val steps no:Int) (F:Value) (ty:TypeId),H.get s.ti=some ⟨[cv bud,.bool s.busy,cv k,cv key,cv val,F,cv steps,.bool s.hY,cv no],ty,1,false⟩∧o s.ti= -200-i∧(s.busy=true→∃f done r rec,F=pv f∧gy H o f (-210-i) (-220-i) s.pr s.T done r rec∧Fe s.pr s.T done r rec)
theorem UW.fr {ps:List Int}{s:PN}(h:UW H o i s)(fr:Fr H o H' o' ps)(h1:(-200-i:Int) ∉ ps)(h2:(-210-i:Int) ∉ ps)(h3:(-220-i:Int) ∉ ps)(h4:(-41:Int) ∉ ps):UW H' o' i s:=by
 obtain⟨bud,k,key,val,steps,no,F,ty,g,ho,hF⟩:=h;exact⟨bud,k,key,val,steps,no,F,ty,by rw[fr.same s.ti (ar g) (by rw[ho];exact h1)];exact g,by rw[fr.own s.ti (ar g)];exact ho,λhb=>by
  obtain⟨f,d,r,rec,e,hf,dG⟩:=hF hb;exact⟨f,d,r,rec,e,hf.fr fr h2 h3 h4,dG⟩⟩
theorem ftI (i:Nat):FT (-210-i) (-220-i):=⟨by omega,by omega,by omega⟩
abbrev jc:=Nat→PN
def oh (th:jc)(i:Nat)(s:PN):jc:=λj=>if j=i then s else th j
def WR (H:aa)(o:aj)(xp mp:Nat)(m:Y.Mm)(th:jc)(L:List jE):Prop:=
 ∃(c0 c1 c2 inv dD:Int) (tb cap:Nat) (Lx:Value) (rest:List Value) (ty mQ:TypeId),
  H.get xp=some ⟨[cv c0,cv c1,cv c2,pv mp,.slice (some ⟨tb,0,none⟩) 3 cap,Lx,cv inv,cv dD],ty,1,false⟩∧o xp= -80∧
  H.get tb=some ⟨pv (th 0).ti::pv (th 1).ti::pv (th 2).ti::rest,mQ,1,false⟩∧o tb= -81∧
  lJ H o mp m∧(∀i,i<3→UW H o i (th i))∧GN H o (-82) (-41) Lx L
abbrev wt:List Int:=[-70, -71, -80, -81, -82, -200, -201, -202, -210, -211, -212, -220, -221, -222]
theorem Jd (hi:i<3): ∀z∈([-200-i, -210-i, -220-i, -70, -71]:List Int),z∈wt:=by
 have:i=0∨i=1∨i=2:=by omega
 rcases this with rfl|rfl|rfl<;>simp
theorem WR.EO {th:jc}{L:List jE}{s':PN}(h:WR H o xp mp m th L)(hi:i<3)(fr:Fr H o H' o' [-200-i, -210-i, -220-i, -70, -71])(ht:UW H' o' i s')(YB:s'.ti=(th i).ti)(hm:lJ H' o' mp m'):WR H' o' xp mp m' (oh th i s') L:=by
 obtain⟨c0,c1,c2,inv,dD,tb,cap,Lx,rest,ty,mQ,g,ho,gt,kO,_,mN,hL⟩:=h;have key: ∀j,(Fun.oh th i s' j).ti=(th j).ti:=λj=>by
  unfold Fun.oh;split
  ·rename_i e;rw[e];exact YB
  ·rfl
 refine⟨c0,c1,c2,inv,dD,tb,cap,Lx,rest,ty,mQ,?_,?_,?_,?_,hm,λj hj=>?_,hL.fr fr (by simp<;>omega) (by simp<;>omega)⟩
 ·rw[fr.same xp (ar g) (by rw[ho];simp;omega)];exact g
 ·rw[fr.own xp (ar g)];exact ho
 ·rw[fr.same tb (ar gt) (by rw[kO];simp;omega),key,key,key];exact gt
 ·rw[fr.own tb (ar gt)];exact kO
 ·unfold Fun.oh;split
  ·rename_i e;subst e;exact ht
  ·rename_i e;exact(mN j hj).fr fr (by simp<;>omega) (by simp<;>omega) (by simp<;>omega) (by simp<;>omega)
theorem WR.uz {th:jc}{L:List jE}{ps:List Int}(h:WR H o xp mp m th L)(fr:Fr H o H' o' ps)(hp: ∀z∈ps,z ∉ (-41:Int)::wt):WR H' o' xp mp m th L:=by
 obtain⟨c0,c1,c2,inv,dD,tb,cap,Lx,rest,ty,mQ,g,ho,gt,kO,hm,mN,hL⟩:=h;have np: ∀z∈(-41:Int)::wt,z ∉ ps:=λz hz hh=>hp z hh hz
 refine⟨c0,c1,c2,inv,dD,tb,cap,Lx,rest,ty,mQ,?_,?_,?_,?_,hm.fr fr (np _ (by simp)) (np _ (by simp)),λj hj=>?_,hL.fr fr (np _ (by simp)) (np _ (by simp))⟩
 ·rw[fr.same xp (ar g) (by rw[ho];exact np _ (by simp))];exact g
 ·rw[fr.own xp (ar g)];exact ho
 ·rw[fr.same tb (ar gt) (by rw[kO];exact np _ (by simp))];exact gt
 ·rw[fr.own tb (ar gt)];exact kO
 ·have:j=0∨j=1∨j=2:=by omega
  rcases this with rfl|rfl|rfl
  ·exact(mN 0 hj).fr fr (np _ (by simp)) (np _ (by simp)) (np _ (by simp)) (np _ (by simp))
  ·exact(mN 1 hj).fr fr (np _ (by simp)) (np _ (by simp)) (np _ (by simp)) (np _ (by simp))
  ·exact(mN 2 hj).fr fr (np _ (by simp)) (np _ (by simp)) (np _ (by simp)) (np _ (by simp))
theorem Ti {th:jc}{L:List jE}(h:WR H o xp mp m th L)(hi:i<3)(hb:(th i).busy=true)(hT:(th i).T.length<1048576):aF (run G) 101 [pv (th i).ti,pv mp] H λv H'=>∃o' r s e T' m' done,
  v= .tuple #[gu r s,.bool e]∧Fr H o H' o' [-200-i, -210-i, -220-i, -70, -71]∧WR H' o' xp mp m' (oh th i ⟨(th i).ti, !e,(th i).hY,T',(th i).pr⟩) L∧qO (th i).pr done (th i).T m T' m'∧gT H' o' (-41) s r.list∧r.list.length≤1048577:=by
 refine Ev.up (t:=λk=>WK (run G k) k (pv (th i).ti) (pv mp) H) ?_ λk=>Rz ..
 obtain⟨H1,ga⟩: ∃z,z=H.new ⟨rc bQ,47,1,false⟩:=⟨_,rfl⟩;have n0:aS H 47 1 [cv 0,.bool false,cv 0,cv 0,cv 0,aA]=(pv H.length,H1):=by rw[ga];rfl
 have f1:Fr H o H1 (o.up H.length (-9)) []:=by rw[ga];exact(Fr.refl H o []).new _ _
 have c1:Cl H.length (rc bQ) 47 H1 (o.up H.length (-9)):=by rw[ga];exact Cl.made
 have h1:=h.uz f1 (by simp)
 obtain⟨ti,et⟩: ∃ti,ti=(th i).ti:=⟨_,rfl⟩;rw[←et];obtain⟨c0',_,_,_,_,_,_,_,_,_,_,_,_,_,_,hm,mN,_⟩:=id h1;obtain⟨bud,k,key,val,steps,no,F,ty,g,kO,hF⟩:=mN i hi;obtain⟨f,dn,r0,aet,rfl,hf,dG⟩:=hF hb;rw[←et] at g kO;rw[hb] at g;have L1:aq (.pointer (some ⟨ti,1,none⟩)) H1=some (.bool true):=an ti 1 H1 g;have L6:aq (.pointer (some ⟨ti,6,none⟩)) H1=some (cv steps):=an ti 6 H1 g;have S6:=gX ti 6 (IntKind.i64.wrap (steps+1)) H1 g rfl (by simp)
 simp only[List.set_cons_succ,List.set_cons_zero] at S6;obtain⟨H2,iD⟩: ∃z,z=H1.put ti ⟨[cv bud,.bool true,cv k,cv key,cv val,pv f,cv (IntKind.i64.wrap (steps+1)),.bool (th i).hY,cv no],ty,1,false⟩:=⟨_,rfl⟩;rw[←iD] at S6;have g2:H2.get ti=some ⟨[cv bud,.bool true,cv k,cv key,cv val,pv f,cv (IntKind.i64.wrap (steps+1)),.bool (th i).hY,cv no],ty,1,false⟩:=by rw[iD];exact aG g
 have f2:Fr H1 (o.up H.length (-9)) H2 (o.up H.length (-9)) [-200-i]:=by rw[iD];exact(Fr.refl _ _ _).put λ_=>by simp[kO]
 have L5:aq (.pointer (some ⟨ti,5,none⟩)) H2=some (pv f):=an ti 5 H2 g2;have Zq:=hf.fr f2 (by simp<;>omega) (by simp<;>omega) (by simp<;>omega)
 have Jz:=hm.fr f2 (by simp<;>omega) (by simp<;>omega)
 simp -implicitDefEqProofs only[WK,n0,L1,L6,S6,L5,sS,Nat.reduceAdd];refine Ev.call (Jb Zq dG Jz hT (ftI i)) ?_;rintro v H3 ⟨o3,T',m',d,r1,aeu,rfl,f3,hf3,YA,T3,zu⟩;have f13:Fr H1 (o.up H.length (-9)) H3 o3 [-200-i, -210-i, -220-i, -70, -71]:=f2.trans f3 (by simp) (by simp)
 have c3:Cl H.length (rc bQ) 47 H3 o3:=c1.fr f13 (by simp<;>omega)
 have wg:(o.up H.length (-9)) ti= -200-i:=kO;have g3:H3.get ti=some ⟨[cv bud,.bool true,cv k,cv key,cv val,pv f,cv (IntKind.i64.wrap (steps+1)),.bool (th i).hY,cv no],ty,1,false⟩:=by rw[f3.same ti (ar g2) (by rw[wg];simp;omega)];exact g2
 have ho3:o3 ti= -200-i:=by rw[f3.own ti (ar g2)];exact wg
 have dz:ti≠H.length:=by
  rintro rfl;have:=c1.2
  omega
 cases d<;>simp -implicitDefEqProofs only[sS,Nat.reduceAdd]
 ·have A:=tV H.length bQ (s:=aA) rfl H3 c3.1 rfl;obtain⟨H4,pP⟩: ∃z,z=H3.put H.length ⟨rc bQ,47,1,false⟩:=⟨_,rfl⟩;have e4:(⟨[cv bQ.Ex,.bool bQ.found,cv bQ.key,cv bQ.value,cv bQ.n,aA],47,1,false⟩:eU)=⟨rc bQ,47,1,false⟩:=rfl;rw[e4, ←pP] at A;have c4:Cl H.length (rc bQ) 47 H4 o3:=by rw[pP];exact c3.self
  have Lr:=pO H.length bQ (s:=aA) H4 c4.1;have f4:Fr H3 o3 H4 o3 [-9]:=by rw[pP];exact(Fr.refl _ _ _).put λ_=>by simp[c3.2]
  simp -implicitDefEqProofs only[C4,A,Lr,sS,Nat.reduceAdd];have g4:H4.get ti=some ⟨[cv bud,.bool true,cv k,cv key,cv val,pv f,cv (IntKind.i64.wrap (steps+1)),.bool (th i).hY,cv no],ty,1,false⟩:=by rw[pP,bz dz];exact g3
  have ht3:UW H3 o3 i ⟨(th i).ti,true,(th i).hY,T',(th i).pr⟩:=⟨bud,k,key,val,_,no,pv f,ty,by rw[←et];exact g3,by rw[←et];exact ho3,λ_=>⟨f,_,_,_,rfl,hf3,YA⟩⟩
  have Uq:=h1.EO hi f13 ht3 rfl T3;have Sr:=Uq.uz f4 (by simp)
  refine Ev.ret ⟨o3,bQ,aA,false,T',m',dn,rfl,?_,by rw[et];exact Sr,zu,.nil,by simp[bQ]⟩
  have fA:=(f1.trans f13 (rs:=[-200-i, -210-i, -220-i, -70, -71]) (by simp) (λ_ h=>h))
  refine⟨λj hj hn=>?_,λj hj=>fA.own j hj,by have:=fA.size;have:=f4.size;show H.length≤H4.length;omega⟩
  show H4[j]? =_
  rw[pP,fv (by omega)];exact fA.slot j hj hn
 ·have S1:=sj ti 1 (.bool false) H3 g3 rfl (by simp) rfl rfl rfl
  simp only[List.set_cons_succ,List.set_cons_zero] at S1;obtain⟨H4,pP⟩: ∃z,z=H3.put ti ⟨[cv bud,.bool false,cv k,cv key,cv val,pv f,cv (IntKind.i64.wrap (steps+1)),.bool (th i).hY,cv no],ty,1,false⟩:=⟨_,rfl⟩;rw[←pP] at S1;have g4:H4.get ti=some ⟨[cv bud,.bool false,cv k,cv key,cv val,pv f,cv (IntKind.i64.wrap (steps+1)),.bool (th i).hY,cv no],ty,1,false⟩:=by rw[pP];exact aG g3
  have f4:Fr H3 o3 H4 o3 [-200-i]:=by rw[pP];exact(Fr.refl _ _ _).put λ_=>by simp[ho3]
  have L5':aq (.pointer (some ⟨ti,5,none⟩)) H4=some (pv f):=an ti 5 H4 g4;have UX:=hf3.fr f4 (by simp<;>omega) (by simp<;>omega) (by simp<;>omega)
  have hm4:=T3.fr f4 (by simp<;>omega) (by simp<;>omega)
  obtain⟨abo,a',b',p',q',op',PG,s',PH,gf,hof,TW,Hi,tU,UY,_⟩:=id UX;obtain⟨sa,sc,es⟩:=tU.isSlice;have L31:c8 6 (.pointer (some ⟨f,31,none⟩)) H4=some (gu r1.res s'):=by simp[c8,aR,gf]
  have c4:Cl H.length (rc bQ) 47 H4 o3:=c3.fr f4 (by simp<;>omega)
  have A:=tV H.length r1.res es H4 c4.1 rfl;obtain⟨H5,tZ⟩: ∃z,z=H4.put H.length ⟨R.Mr r1.res s',47,1,false⟩:=⟨_,rfl⟩;have e5:(⟨[cv r1.res.Ex,.bool r1.res.found,cv r1.res.key,cv r1.res.value,cv r1.res.n,s'],47,1,false⟩:eU)=⟨R.Mr r1.res s',47,1,false⟩:=rfl;rw[e5, ←tZ] at A;have g5:H5.get H.length=some ⟨R.Mr r1.res s',47,1,false⟩:=by rw[tZ];exact aG c4.1
  have Lr:=pO H.length r1.res (s:=s') H5 g5;have f5:Fr H4 o3 H5 o3 [-9]:=by rw[tZ];exact(Fr.refl _ _ _).put λ_=>by simp[c4.2]
  simp -implicitDefEqProofs only[S1,L5',L31,A,Lr,sS,Nat.reduceAdd];have f14:Fr H1 (o.up H.length (-9)) H4 o3 [-200-i, -210-i, -220-i, -70, -71]:=f13.trans f4 (λ_ h=>h) (by simp)
  have ht4:UW H4 o3 i ⟨(th i).ti,false,(th i).hY,T',(th i).pr⟩:=⟨bud,k,key,val,_,no,pv f,ty,by rw[←et];exact g4,by rw[←et];exact ho3,λhh=>by simp at hh⟩
  have Sr:=h1.EO hi f14 ht4 rfl hm4;have hw5:=Sr.uz f5 (by simp)
  refine Ev.ret ⟨o3,r1.res,s',true,T',m',dn,rfl,?_,by rw[et];exact hw5,zu,tU.fr f5 (by simp),UY⟩
  have fA:=(f1.trans f14 (rs:=[-200-i, -210-i, -220-i, -70, -71]) (by simp) (λ_ h=>h))
  refine⟨λj hj hn=>?_,λj hj=>fA.own j hj,by have:=fA.size;have:=f5.size;show H.length≤H5.length;omega⟩
  show H5[j]? =_
  rw[tZ,fv (by omega)];exact fA.slot j hj hn
end
section
open Go.Proofs.YtgfgglponbmgmaaGreatA
variable {G:ae} {H H':aa} {o o':aj} {p c mp f xp:Nat} {q:Int} {x:Value} {l:PL} {n i:Nat} {m m':Y.Mm} {T:List Int} {th:jc} {L:List jE} {N M:Nat}
theorem Tj (e:jE){s:Value}{a:Option Addr}{m c:Nat}(es:s= .slice a m c)(H:aa):ay Tryz.prog 63 1 [(0,evA e s)] H=some (.slice (some ⟨H.length,0,none⟩) 1 1,H.new ⟨fD e s,155,13,false⟩):=by subst es;kernel_rfl
theorem YC (t no pick:Int):aE Tryz.prog 155 [(0,cv 2),(1,cv t),(2,cv no),(5,cv pick)]=some (evA ⟨2,t,no,⟨0,0,0⟩,bQ,pick⟩ aA):=by kernel_rfl
theorem abq (t no pick:Int)(op:kf):aE Tryz.prog 155 [(0,cv 1),(1,cv t),(2,cv no),(3,jr op),(5,cv pick)]=some (evA ⟨1,t,no,op,bQ,pick⟩ aA):=by kernel_rfl
theorem abr (t no pick:Int)(r:eN){s:Value}{a:Option Addr}{m c:Nat}(es:s= .slice a m c):aE Tryz.prog 155 [(0,cv 3),(1,cv t),(2,cv no),(4,gu r s),(5,cv pick)]=some (evA ⟨3,t,no,⟨0,0,0⟩,r,pick⟩ s):=by subst es;kernel_rfl
structure Inv (th:jc) (L:List jE) (N M:Nat):Prop where
 len:L.length+uG (th 0)+uG (th 1)+uG (th 2)≤N
 lists: ∀e∈L,e.res.list.length≤1048577
 tape: ∀i,i<3→(th i).T.length≤M
theorem Db {s:PN}{d:Nat}(hi:i<3)(h:uG s+d≤uG (th i)):uG (oh th i s 0)+uG (oh th i s 1)+uG (oh th i s 2)+d≤uG (th 0)+uG (th 1)+uG (th 2):=by
 have:i=0∨i=1∨i=2:=by omega
 rcases this with rfl|rfl|rfl<;>simp[oh]<;>omega
theorem YD {s:PN}{d:Nat}(hi:i<3)(h:uG s≤uG (th i)+d):uG (oh th i s 0)+uG (oh th i s 1)+uG (oh th i s 2)≤uG (th 0)+uG (th 1)+uG (th 2)+d:=by
 have:i=0∨i=1∨i=2:=by omega
 rcases this with rfl|rfl|rfl<;>simp[oh]<;>omega
theorem WR.n7 (h:WR H o xp mp m th L): ∃(tb cap:Nat) (inv dD:Int),aq (.pointer (some ⟨xp,3,none⟩)) H=some (pv mp)∧aq (.pointer (some ⟨xp,4,none⟩)) H=some (.slice (some ⟨tb,0,none⟩) 3 cap)∧aq (.pointer (some ⟨xp,6,none⟩)) H=some (cv inv)∧aq (.pointer (some ⟨xp,7,none⟩)) H=some (cv dD)∧
  (∀i:Nat,i<3→(∀H',cG 1 (.slice (some ⟨tb,0,none⟩) 3 cap) (cv i) H'=some (.pointer (some ⟨tb,i,none⟩),H'))∧aq (.pointer (some ⟨tb,i,none⟩)) H=some (pv (th i).ti))∧xp<H.length∧o xp= -80∧tb<H.length∧o tb= -81:=by
 obtain⟨c0,c1,c2,inv,dD,tb,cap,Lx,rest,ty,mQ,g,ho,gt,kO,hm,mN,hL⟩:=h;refine⟨tb,cap,inv,dD,an xp 3 _ g,an xp 4 _ g,an xp 6 _ g,an xp 7 _ g,λi hi=>⟨λH'=>?_,?_⟩,ar g,ho,ar gt,kO⟩
 ·simp only[cG];rw[if_pos (by constructor<;>omega)];simp
 ·rw[an tb i _ gt];have:i=0∨i=1∨i=2:=by omega
  rcases this with rfl|rfl|rfl<;>rfl
theorem WR.UZ (h:WR H o xp mp m th L)(hi:i<3): ∃no:Int,aq (.pointer (some ⟨(th i).ti,1,none⟩)) H=some (.bool (th i).busy)∧aq (.pointer (some ⟨(th i).ti,7,none⟩)) H=some (.bool (th i).hY)∧aq (.pointer (some ⟨(th i).ti,8,none⟩)) H=some (cv no):=by
 obtain⟨c0,c1,c2,inv,dD,tb,cap,Lx,rest,ty,mQ,g,ho,gt,kO,hm,mN,hL⟩:=h;obtain⟨bud,k,key,val,steps,no,F,ty,g,kO,hF⟩:=mN i hi;exact⟨no,an _ 1 _ g,an _ 7 _ g,an _ 8 _ g⟩
theorem WR.hY (h:WR H o xp mp m th L)(hi:i<3)(b:Bool): ∃H1,bE 1 (.pointer (some ⟨(th i).ti,7,none⟩)) (.bool b) H=some (undef,H1)∧WR H1 o xp mp m (oh th i ⟨(th i).ti,(th i).busy,b,(th i).T,(th i).pr⟩) L∧Fr H o H1 o [-200-i]:=by
 obtain⟨c0,c1,c2,inv,dD,tb,cap,Lx,rest,ty,mQ,g,ho,gt,kO,hm,mN,hL⟩:=id h;obtain⟨bud,k,key,val,steps,no,F,ty,g,kO,hF⟩:=mN i hi;have S:=sj (th i).ti 7 (.bool b) H g rfl (by simp) rfl rfl rfl
 simp only[List.set_cons_succ,List.set_cons_zero] at S;have f:Fr H o (H.put (th i).ti ⟨[cv bud,.bool (th i).busy,cv k,cv key,cv val,F,cv steps,.bool b,cv no],ty,1,false⟩) o [-200-i]:=(Fr.refl _ _ _).put λ_=>by simp[kO]
 refine⟨_,S,h.EO hi (f.wk (by simp)) ⟨bud,k,key,val,steps,no,F,ty,aG g,kO,λhb=>?_⟩ rfl (hm.fr f (by simp<;>omega) (by simp<;>omega)),f⟩
 obtain⟨f',d,r,rec,e,hf,dG⟩:=hF hb;exact⟨f',d,r,rec,e,hf.fr f (by simp<;>omega) (by simp<;>omega) (by simp<;>omega),dG⟩
theorem WR.app (h:WR H o xp mp m th L)(e:jE){s:Value}(hs:gT H o (-41) s e.res.list)(hl:L.length<4000000): ∃Lx,aq (.pointer (some ⟨xp,5,none⟩)) H=some Lx∧aq (.pointer (some ⟨xp,5,none⟩)) (H.new ⟨fD e s,155,13,false⟩)=some Lx∧oo Lx Lx=true∧∃x' H1 H2 o2,
  df 155 13 120 Lx (.slice (some ⟨H.length,0,none⟩) 1 1) (H.new ⟨fD e s,155,13,false⟩)=some (x',H1)∧bE 1 (.pointer (some ⟨xp,5,none⟩)) x' H1=some (undef,H2)∧WR H2 o2 xp mp m th (L++[e])∧Fr H o H2 o2 [-82, -80]:=by
 obtain⟨c0,c1,c2,inv,dD,tb,cap,Lx,rest,ty,mQ,g,ho,gt,kO,hm,mN,hL⟩:=h;obtain⟨H1,e1⟩: ∃z,z=H.new ⟨fD e s,155,13,false⟩:=⟨_,rfl⟩;have f1:Fr H o H1 (o.up H.length (-9)) []:=by rw[e1];exact(Fr.refl H o []).new _ _
 have g1:H1.get H.length=some ⟨fD e s,155,13,false⟩:=by rw[e1];exact aL
 have U0:H1.get xp=some ⟨[cv c0,cv c1,cv c2,pv mp,.slice (some ⟨tb,0,none⟩) 3 cap,Lx,cv inv,cv dD],ty,1,false⟩:=by rw[f1.same xp (ar g) (by simp)];exact g
 have abt:(o.up H.length (-9)) xp= -80:=by rw[f1.own xp (ar g)];exact ho
 obtain⟨x',H2,o2,a2,lg,f2⟩:=(hL.fr f1 (by simp) (by simp)).app (tE:=155) g1 (hs.fr f1 (by simp)) (by simp) (by omega)
 have gx2:H2.get xp=some ⟨[cv c0,cv c1,cv c2,pv mp,.slice (some ⟨tb,0,none⟩) 3 cap,Lx,cv inv,cv dD],ty,1,false⟩:=by rw[f2.same xp (ar U0) (by rw[abt];simp)];exact U0
 have abu:o2 xp= -80:=by rw[f2.own xp (ar U0)];exact abt
 have ZI: ∃a n c,x'= .slice a n c:=by
  rcases lg with⟨e,_⟩|⟨_,_,_,_,_,e,_⟩
  ·exact⟨_,_,_,e⟩
  ·exact⟨_,_,_,e⟩
 obtain⟨xa,xn,xc,ex⟩:=ZI;have S:=Gm xp 5 xa xn xc H2 gx2 rfl (by simp)
 rw[←ex] at S;simp only[List.set_cons_succ,List.set_cons_zero] at S;obtain⟨H3,e3⟩: ∃z,z=H2.put xp ⟨[cv c0,cv c1,cv c2,pv mp,.slice (some ⟨tb,0,none⟩) 3 cap,x',cv inv,cv dD],ty,1,false⟩:=⟨_,rfl⟩;rw[←e3] at S;have f3:Fr H2 o2 H3 o2 [-80]:=by rw[e3];exact(Fr.refl _ _ _).put λ_=>by simp[abu]
 have fA:Fr H o H3 o2 [-82, -80]:=(f1.trans f2 (rs:=[-82, -80]) (by simp) (by simp)).trans f3 (by simp) (by simp)
 have AF:oo Lx Lx=true:=by
  rcases hL with⟨e,_⟩|⟨_,_,_,_,_,e,_⟩
  ·rw[e];exact kK ..
  ·rw[e];exact kK ..
 rw[←e1];refine⟨Lx,an xp 5 _ g,an xp 5 _ U0,AF,x',H2,H3,o2,a2,S,⟨c0,c1,c2,inv,dD,tb,cap,x',rest,ty,mQ,by rw[e3];exact aG gx2,abu,?_,?_,hm.fr fA (by simp) (by simp),λj hj=>?_,lg.fr f3 (by simp) (by simp)⟩,fA⟩
 ·rw[fA.same tb (ar gt) (by rw[kO];simp)];exact gt
 ·rw[fA.own tb (ar gt)];exact kO
 ·exact(mN j hj).fr fA (by simp<;>omega) (by simp<;>omega) (by simp<;>omega) (by simp)
theorem PO (h:WR H o xp mp m th L)(hi:i<3):aF (run G) 129 [pv (th i).ti] H (CP H):=by
 refine Ev.up (t:=λk=>WN (run G k) k (pv (th i).ti) H) ?_ λk=>RC ..
 obtain⟨c0,c1,c2,inv,dD,tb,cap,Lx,rest,ty,mQ,g,ho,gt,kO,hm,mN,hL⟩:=h;obtain⟨bud,k,key,val,steps,no,F,ty,g,kO,hF⟩:=mN i hi;have L1:aq (.pointer (some ⟨(th i).ti,1,none⟩)) H=some (.bool (th i).busy):=an _ 1 _ g;have L5:aq (.pointer (some ⟨(th i).ti,5,none⟩)) H=some F:=an _ 5 _ g;simp -implicitDefEqProofs only[WN,L1,sS,Nat.reduceAdd];cases hb:(th i).busy<;>simp -implicitDefEqProofs only[L5,sS,Nat.reduceAdd]
 ·exact Ev.ret ⟨⟨_,rfl⟩,rfl⟩
 ·obtain⟨f,d,r,rec,rfl,hf,dG⟩:=hF hb;obtain⟨proc,a,b,p,q,op,tape,s,laid,g,_⟩:=hf;have L38:aq (.pointer (some ⟨f,38,none⟩)) H=some (cv laid):=an f 38 _ g;simp -implicitDefEqProofs only[L38,sS,Nat.reduceAdd];exact Ev.ret ⟨⟨_,rfl⟩,rfl⟩
theorem abv (h:WR H o xp mp m th L)(a:Int):aF (run G) 33 [pv mp,cv a] H (CP H):=by
 obtain⟨c0,c1,c2,inv,dD,tb,cap,Lx,rest,ty,mQ,g,ho,gt,kO,hm,mN,hL⟩:=h;exact(C9 hm.look hm.Al.1 a).mono λv H' hq=>⟨⟨_,hq.1⟩,hq.2⟩
theorem Je (hi:i<3): ∀z∈([-200-i]:List Int),z∈wt:=λz hz=>Jd hi z (by simp at hz;simp[hz])
def uH (a b:jc):Prop:=∀j,(b j).ti=(a j).ti∧(b j).busy=(a j).busy∧(b j).T=(a j).T∧(b j).pr=(a j).pr
theorem Tk (h:WR H o xp mp m th L)(hI:Inv th L N M)(hN:N<4000000):aF (run G) 102 [pv xp] H λv H'=>∃o' hZ L',Fr H o H' o' wt∧WR H' o' xp mp m hZ L'∧Inv hZ L' N M∧uH th hZ:=by
 refine Ev.up (t:=λk=>WL (run G k) k (pv xp) H) ?_ λk=>RA ..
 simp -implicitDefEqProofs only[WL,sS,Nat.reduceAdd];refine Ev.loop (k:=3) (λk vs Hx=>∃(j:Nat) (o1:aj) (js:jc) (L1:List jE) (aC x3 dq:Value),j+k=3∧vs=[pv xp,cv j,aC,x3,dq]∧Fr H o Hx o1 wt∧WR Hx o1 xp mp m js L1∧Inv js L1 N M∧uH th js)
  (λr=>r.1= .exit 0∧∃(o1:aj) (js:jc) (L1:List jE),Fr H o r.2.2 o1 wt∧WR r.2.2 o1 xp mp m js L1∧Inv js L1 N M∧uH th js)
  ⟨0,o,th,L,_,_,_,rfl,rfl,Fr.refl _ _ _,h,hI,λj=>⟨rfl,rfl,rfl,rfl⟩⟩ ?_ ?_
 ·rintro k vs Hx ⟨j,o1,js,L1,aC,x3,dq,Av,rfl,kU,hw,ub,nK⟩;obtain⟨tb,cap,inv,dD,e3,e4,e6,e7,eT,_⟩:=hw.n7;have BL:IntKind.i64.wrap ((j:Int)+1)=((j+1:Nat):Int):=by rw[fZ (by omega)];omega
  simp -implicitDefEqProofs only[Ky,xQ,e4,cC,sS,Nat.reduceAdd];refine Ev.lss (λhq=>?_) (λhq=>?_)<;>try simp -implicitDefEqProofs only[e4,sS,Nat.reduceAdd]
  ·have gF:j<3:=by omega
   obtain⟨Tl,Tm⟩:=eT j gF;obtain⟨no,b1,b7,b8⟩:=hw.UZ gF;have iQ: ∀(aC x3 dq:Value) {H2:aa} {o2:aj} {GO:jc} {L2:List jE},Fr H o H2 o2 wt→WR H2 o2 xp mp m GO L2→Inv GO L2 N M→uH th GO→Ev (λn=>vD (run G n) n [pv xp,cv j,aC,x3,dq] H2) λr=>(r.1= .normal∧∃k',k'<k∧∃(j:Nat) (o1:aj) (js:jc) (L1:List jE) (aC x3 dq:Value),j+k'=3∧r.2.1=[pv xp,cv j,aC,x3,dq]∧Fr H o r.2.2 o1 wt∧WR r.2.2 o1 xp mp m js L1∧Inv js L1 N M∧uH th js)∨(r.1≠ .normal∧r.1= .exit 0∧∃(o1:aj) (js:jc) (L1:List jE),Fr H o r.2.2 o1 wt∧WR r.2.2 o1 xp mp m js L1∧Inv js L1 N M∧uH th js):=by
    intro aC x3 dq H2 o2 GO L2 a1 a2 a3 a4;simp -implicitDefEqProofs only[Kx,xO,BL,sS,Nat.reduceAdd];exact Ev.ret (.inl ⟨rfl,k-1,by omega,j+1,o2,GO,L2,_,_,_,by omega,rfl,a1,a2,a3,a4⟩)
   simp -implicitDefEqProofs only[Tl,Tm,b1,sS,Nat.reduceAdd];cases hb:(js j).busy<;>simp -implicitDefEqProofs only[b7,sS,Nat.reduceAdd]
   ·exact iQ _ _ _ kU hw ub nK
   cases ht:(js j).hY<;>simp -implicitDefEqProofs only[sS,Nat.reduceAdd]
   ·refine Ev.kj (PO hw gF) λzl=>?_
    try simp -implicitDefEqProofs only[sS,Nat.reduceAdd]
    refine Ev.gtr (λhq=>?_) (λhq=>?_)<;>try simp -implicitDefEqProofs only[e3,sS,Nat.reduceAdd]
    ·refine Ev.kj (PO hw gF) λzl=>?_
     try simp -implicitDefEqProofs only[sS,Nat.reduceAdd]
     refine Ev.kj (abv hw _) λza=>?_
     try simp -implicitDefEqProofs only[e3,jS,sS,Nat.reduceAdd]
     refine Ev.eql (λhq=>?_) (λhq=>?_)<;>try simp -implicitDefEqProofs only[e3,jS,sS,Nat.reduceAdd]
     ·obtain⟨H2,S7,uQ,f2⟩:=hw.hY gF true;obtain⟨U1,fi,aev,PQ,k3,k4,k6,k7,kT,_⟩:=uQ.n7;obtain⟨no',d1,d7,d8⟩:=uQ.UZ gF;have ed:(oh js j ⟨(js j).ti,(js j).busy,true,(js j).T,(js j).pr⟩ j).ti=(js j).ti:=by simp[oh]
      rw[ed] at d8;have hlen:=ub.len;obtain⟨Lx,c1,c2,c3,x',H3,H4,o4,c4,c5,Sr,f4⟩:=uQ.app ⟨2,j,no',⟨0,0,0⟩,bQ,PQ⟩ (s:=aA) .nil (by omega)
      simp -implicitDefEqProofs only[S7,c1,d8,k7,YC,Tj _ rfl,c2,c4,c5,c3,sS,Nat.reduceAdd];refine iQ _ _ _ ((kU.trans f2 (rs:=wt) (λ_ h=>h) (Je gF)).trans f4 (λ_ h=>h) (by simp)) Sr ⟨?_,?_,?_⟩ ?_
      ·have hp:=Db (th:=js) (s:=⟨(js j).ti,(js j).busy,true,(js j).T,(js j).pr⟩) (d:=1) gF (by simp[uG,hb,ht])
       simp only[List.length_append,List.length_singleton];omega
      ·intro e he;rcases List.mem_append.1 he with he|he
       ·exact ub.lists e he
       ·have:e=⟨2,j,no',⟨0,0,0⟩,bQ,PQ⟩:=by simpa using he
        subst this;simp[bQ]
      ·intro i hi;have:=ub.tape i hi
       unfold oh;split
       ·rename_i e;subst e;exact this
       ·exact this
      ·intro i;have:=nK i
       unfold oh;split
       ·rename_i e;subst e;exact this
       ·exact this
     ·exact iQ _ _ _ kU hw ub nK
    ·exact iQ _ _ _ kU hw ub nK
   ·exact iQ _ _ _ kU hw ub nK
  ·exact Ev.ret (.inr ⟨by simp,rfl,o1,js,L1,kU,hw,ub,nK⟩)
 ·rintro e vs Hx ⟨he,o1,js,L1,a1,a2,a3,a4⟩;simp only at he;subst he;show Ev (λ_=>some (Value.tuple #[],Hx)) _
  exact Ev.ret ⟨o1,js,L1,a1,a2,a3,a4⟩
end
section
open Go.Proofs.YtgfgglponbmgmaaGreatA
variable {G:ae} {H H':aa} {o o':aj} {p c mp f xp:Nat} {q:Int} {x:Value} {l:PL} {n i:Nat} {m m':Y.Mm} {T:List Int} {th:jc} {L:List jE} {N M:Nat}
theorem WR.dD (h:WR H o xp mp m th L)(z:Int): ∃H1,bE 1 (.pointer (some ⟨xp,7,none⟩)) (cv z) H=some (undef,H1)∧WR H1 o xp mp m th L∧Fr H o H1 o [-80]:=by
 obtain⟨c0,c1,c2,inv,dD,tb,cap,Lx,rest,ty,mQ,g,ho,gt,kO,hm,mN,hL⟩:=h;have S:=gX xp 7 z H g rfl (by simp)
 simp only[List.set_cons_succ,List.set_cons_zero] at S;have f:Fr H o (H.put xp ⟨[cv c0,cv c1,cv c2,pv mp,.slice (some ⟨tb,0,none⟩) 3 cap,Lx,cv inv,cv z],ty,1,false⟩) o [-80]:=(Fr.refl _ _ _).put λ_=>by simp[ho]
 refine⟨_,S,⟨c0,c1,c2,inv,z,tb,cap,Lx,rest,ty,mQ,aG g,ho,?_,kO,hm.fr f (by simp) (by simp),λj hj=>?_,hL.fr f (by simp) (by simp)⟩,f⟩
 ·rw[f.same tb (ar gt) (by rw[kO];simp)];exact gt
 ·exact(mN j hj).fr f (by simp<;>omega) (by simp<;>omega) (by simp<;>omega) (by simp)
theorem WR.adC (h:WR H o xp mp m th L)(z:Int): ∃H1,bE 1 (.pointer (some ⟨xp,6,none⟩)) (cv z) H=some (undef,H1)∧WR H1 o xp mp m th L∧Fr H o H1 o [-80]:=by
 obtain⟨c0,c1,c2,inv,dD,tb,cap,Lx,rest,ty,mQ,g,ho,gt,kO,hm,mN,hL⟩:=h;have S:=gX xp 6 z H g rfl (by simp)
 simp only[List.set_cons_succ,List.set_cons_zero] at S;have f:Fr H o (H.put xp ⟨[cv c0,cv c1,cv c2,pv mp,.slice (some ⟨tb,0,none⟩) 3 cap,Lx,cv z,cv dD],ty,1,false⟩) o [-80]:=(Fr.refl _ _ _).put λ_=>by simp[ho]
 refine⟨_,S,⟨c0,c1,c2,z,dD,tb,cap,Lx,rest,ty,mQ,aG g,ho,?_,kO,hm.fr f (by simp) (by simp),λj hj=>?_,hL.fr f (by simp) (by simp)⟩,f⟩
 ·rw[f.same tb (ar gt) (by rw[kO];simp)];exact gt
 ·exact(mN j hj).fr f (by simp<;>omega) (by simp<;>omega) (by simp<;>omega) (by simp)
def sG (i:Nat)(th:jc)(m:Y.Mm)(hZ:jc)(m':Y.Mm):Prop:=
 ∃js,uH js hZ∧(((th i).busy=false∧js=th∧m'=m)∨((th i).busy=true∧∃done T' b,qO (th i).pr done (th i).T m T' m'∧js=oh th i ⟨(th i).ti,b,(th i).hY,T',(th i).pr⟩))
theorem PR (h:WR H o xp mp m th L)(hi:i<3)(hI:Inv th L N M)(hN:N<4000000)(hM:M<1048576):aF (run G) 74 [pv xp,cv i] H λv H'=>∃o' hZ L' m' r s e,
  v= .tuple #[gu r s,.bool e]∧(∃a n c,s= .slice a n c)∧Fr H o H' o' wt∧WR H' o' xp mp m' hZ L'∧Inv hZ L' N (M+1)∧sG i th m hZ m':=by
 refine Ev.up (t:=λk=>F74 (run G k) k (pv xp) (cv i) H) ?_ λk=>Wt ..
 obtain⟨H1,ga⟩: ∃z,z=H.new ⟨rc bQ,47,1,false⟩:=⟨_,rfl⟩;have l1:H1.length=H.length+1:=by rw[ga,cB]
 have n0:aS H 47 1 [cv 0,.bool false,cv 0,cv 0,cv 0,aA]=(pv H.length,H1):=by rw[ga];rfl
 obtain⟨oA,QA⟩: ∃z,z=(o.up H.length (-9)).up H1.length (-9):=⟨_,rfl⟩;have f1:Fr H o H1 (o.up H.length (-9)) []:=by rw[ga];exact(Fr.refl H o []).new _ _
 have YE:Fr H o H1 oA []:=⟨f1.slot,λj hj=>by rw[QA,dO (by omega)];exact f1.own j hj,f1.size⟩
 have c1:Cl H.length (rc bQ) 47 H1 oA:=⟨by rw[ga];exact aL,by rw[QA,dO (by omega)];exact aP⟩
 have h1:=h.uz YE (by simp)
 obtain⟨tb,cap,inv,dD,e3,e4,e6,e7,eT,hxl,hxo,Yf,hto⟩:=h1.n7;obtain⟨Tl,Tm⟩:=eT i hi;obtain⟨no,b1,b7,b8⟩:=h1.UZ hi;have hM1: ∀j,j<3→(th j).T.length≤M+1:=λj hj=>by have:=hI.tape j hj;omega
 have gL: ∀{Hx:aa} {ox:aj} {hZ:jc} {L':List jE} {m':Y.Mm},Cl H.length (rc bQ) 47 Hx ox→Fr H o Hx ox wt→WR Hx ox xp mp m' hZ L'→Inv hZ L' N (M+1)→sG i th m hZ m'→Ev (λk=>af (bE 6 (pv H.length) (gu bQ aA) Hx) λ_ Hy=>af (pS (c8 6 (pv H.length) Hy) Hy) λr0 _=>some (Value.tuple #[r0,.bool false],Hy)) λrr=>∃o' hZ L' m' r s e,rr.1= .tuple #[gu r s,.bool e]∧(∃a n c,s= .slice a n c)∧Fr H o rr.2 o' wt∧WR rr.2 o' xp mp m' hZ L'∧Inv hZ L' N (M+1)∧sG i th m hZ m':=by
  intro Hx ox hZ L' m' hc hf hw hI' Tn;have A:=tV H.length bQ (s:=aA) rfl Hx hc.1 rfl;have f4:Fr Hx ox (Hx.put H.length ⟨rc bQ,47,1,false⟩) ox [-9]:=(Fr.refl _ _ _).put λ_=>by simp[hc.2]
  have Lr:=pO H.length bQ (s:=aA) (t:=47) _ (aG hc.1);simp -implicitDefEqProofs only[A,Lr,sS,Nat.reduceAdd];exact Ev.ret ⟨ox,hZ,L',m',bQ,aA,false,rfl,⟨_,_,_,rfl⟩,hf.put (λhh=>by omega),hw.uz f4 (by simp),hI',Tn⟩
 simp -implicitDefEqProofs only[F74,n0,sS,Nat.reduceAdd];refine Ev.lss (λhq=>?_) (λhq=>?_)<;>try simp -implicitDefEqProofs only[e4,cC,sS,Nat.reduceAdd]
 ·omega
 refine Ev.geq (λhq=>?_) (λhq=>?_)<;>try simp -implicitDefEqProofs only[e4,Tl,Tm,b1,sS,Nat.reduceAdd]
 ·omega
 cases hb:(th i).busy<;>simp -implicitDefEqProofs only[C4,e7,sS,Nat.reduceAdd]
 ·exact gL c1 (YE.wk (by simp)) h1 ⟨hI.len,hI.lists,hM1⟩ ⟨th,λj=>⟨rfl,rfl,rfl,rfl⟩,.inl ⟨hb,rfl,rfl⟩⟩
 obtain⟨H2,S7,h2,f2⟩:=h1.dD (IntKind.i64.wrap (dD+1));obtain⟨U2,BF,inv2,YF,j3,j4,j6,j7,jT,jxl,jxo,jtl,jto⟩:=h2.n7;have l2:H2.length=H.length+1:=by
  have:=f2.size
  rw[l1] at this;have e2:H2.length=H1.length:=by
   have hh:=S7;obtain⟨_,_,_,_,_,_,_,_,_,_,_,g,_⟩:=id h1;rw[gX xp 7 _ H1 g rfl (by simp)] at hh
   injection hh with hh;injection hh with _ hh;rw[←hh,iL]
  omega
 obtain⟨H3,mA⟩: ∃z,z=H2.cE 1:=⟨_,rfl⟩;have f3:Fr H2 oA H3 oA []:=by rw[mA];exact(Fr.refl _ _ _).cE 1
 have h3:=h2.uz f3 (by simp)
 have abw:H3[H2.length]? =some .hole:=by rw[mA];exact A9
 have l3:H3.length=H2.length+1:=by rw[mA,Ba]
 have m3: ∀{a:Nat} {k:Nat} {b:eU} {y:Value},aq (.pointer (some ⟨a,k,none⟩)) H2=some y→a<H2.length→aq (.pointer (some ⟨a,k,none⟩)) H3=some y:=λ{a k b y} e ha=>by
  have:H3.get a=H2.get a:=ek (f3.slot a ha (by simp))
  simp only[aq,this] at e ⊢;exact e
 have k3:=m3 (b:=⟨[],0,1,false⟩) j3 jxl;have k4:=m3 (b:=⟨[],0,1,false⟩) j4 jxl;obtain⟨jT1,jT2⟩:=jT i hi;have kT:=m3 (b:=⟨[],0,1,false⟩) jT2 jtl;have adD:H2.cE 1=H3:=mA.symm;simp -implicitDefEqProofs only[S7,adD,k4,jT1,kT,k3,sS,Nat.reduceAdd];have hTl:(th i).T.length<1048576:=by have:=hI.tape i hi;omega
 refine Ev.call (Ti h3 hi hb hTl) ?_;rintro v H4 ⟨o4,r,s,e,T',m',dn,rfl,f4,h4,zu,Yy,hr4⟩;have hT':=zu.len;obtain⟨sa,sc,es⟩:=Yy.isSlice;have oA2:oA H2.length= -9:=by rw[QA,l2, ←l1];exact aP
 have abx:H4[H2.length]? =some .hole:=by rw[f4.slot H2.length (by omega) (by rw[oA2];simp<;>omega)];exact abw
 have o42:o4 H2.length= -9:=by rw[f4.own H2.length (by omega)];exact oA2
 have l4:=f4.size;obtain⟨H5,tZ⟩: ∃z:aa,z=H4.set H2.length (.zA ⟨rc bQ,47,1,false⟩):=⟨_,rfl⟩;have lay:JJ H2.length (some (λi=>Value.pointer (some ⟨i,0,none⟩),(⟨[cv 0,.bool false,cv 0,cv 0,cv 0,aA],47,1,false⟩:eU))) H4=some (pv H2.length,H5):=by rw[tZ];exact Hm abx
 have f5:Fr H4 o4 H5 o4 [-9]:=by rw[tZ];exact(Fr.refl _ _ _).set _ λ_=>by simp[o42]
 have g5:H5.get H2.length=some ⟨rc bQ,47,1,false⟩:=by rw[tZ];exact si (by omega)
 have A6:=tV H2.length r es H5 g5 rfl;obtain⟨H6,Dk⟩: ∃z,z=H5.put H2.length ⟨R.Mr r s,47,1,false⟩:=⟨_,rfl⟩;have e6':(⟨[cv r.Ex,.bool r.found,cv r.key,cv r.value,cv r.n,s],47,1,false⟩:eU)=⟨R.Mr r s,47,1,false⟩:=rfl;rw[e6', ←Dk] at A6;have f6:Fr H5 o4 H6 o4 [-9]:=by rw[Dk];exact(Fr.refl _ _ _).put λ_=>by simp[o42]
 have f46:Fr H4 o4 H6 o4 [-9]:=f5.tr f6;have h6:=h4.uz f46 (by simp)
 have c6:Cl H2.length (R.Mr r s) 47 H6 o4:=⟨by rw[Dk];exact aG g5,o42⟩
 have hs6:gT H6 o4 (-41) s r.list:=Yy.fr f46 (by simp)
 have kk: ∀{a:Nat} {k:Nat} {y:Value} {Hx:aa},aq (.pointer (some ⟨a,k,none⟩)) H3=some y→(Hx.get a=H3.get a)→aq (.pointer (some ⟨a,k,none⟩)) Hx=some y:=λ{a k y Hx} e hx=>by
  simp only[aq,hx] at e ⊢;exact e
 have gx4:H4.get xp=H3.get xp:=f4.same xp (by omega) (by rw[jxo];simp<;>omega)
 have gt4:H4.get U2=H3.get U2:=f4.same U2 (by omega) (by rw[jto];simp<;>omega)
 have gx5:H5.get xp=H3.get xp:=by rw[tZ,ek (ji (by omega))];exact gx4
 have gt5:H5.get U2=H3.get U2:=by rw[tZ,ek (ji (by omega))];exact gt4
 have ev4:oo (Value.slice (some ⟨U2,0,none⟩) 3 BF) (Value.slice (some ⟨U2,0,none⟩) 3 BF)=true:=kK ..;have eh:=kk k4 gx4;have dK:=kk k4 gx5;have dx:=kk k3 gx4;have bG:=kk k3 gx5;have xT4:=kk kT gt4;have xT5:=kk kT gt5;simp -implicitDefEqProofs only[Nat.add_zero,lay,A6,k4,kT,k3,eh,dK,dx,bG,xT4,xT5,ev4,jS,sS,Nat.reduceAdd];have hI4:Inv (oh th i ⟨(th i).ti, !e,(th i).hY,T',(th i).pr⟩) L (if e then N-1 else N) (M+1):=by
  refine⟨?_,hI.lists,λj hj=>?_⟩
  ·have hl:=hI.len;cases e with
   |false=>
    have hp:=Db (th:=th) (s:=⟨(th i).ti, !false,(th i).hY,T',(th i).pr⟩) (d:=0) hi (by simp[uG,hb])
    simp only[Bool.false_eq_true,if_false];omega
   |true=>
    have hp:=Db (th:=th) (s:=⟨(th i).ti, !true,(th i).hY,T',(th i).pr⟩) (d:=1) hi (by cases ht:(th i).hY<;>simp[uG,hb,ht])
    simp only[if_true];omega
  ·unfold oh;split
   ·have:=hI.tape i hi
    show T'.length≤M+1
    omega
   ·exact hM1 j hj
 refine Ev.call (Tk h6 hI4 (by split<;>omega)) ?_
 rintro v H7 ⟨o7,th7,L7,f7,h7,Mt,nK⟩;have Tn:sG i th m th7 m':=⟨_,nK,.inr ⟨hb,dn,T', !e,zu,rfl⟩⟩;have fA7:Fr H o H7 o7 wt:=((((YE.trans f2 (rs:=wt) (by simp) (by simp)).trans f3 (rs:=wt) (λ_ h=>h) (by simp)).trans f4 (rs:=wt) (λ_ h=>h) (Jd hi)).trans f46 (rs:= -9::wt) (by simp) (by simp)).trans f7 (rs:= -9::wt) (λ_ h=>h) (by simp) |> λf=>by
  exact⟨λj hj hn=>by
   rw[f7.slot j (by have:=f46.size;omega) (by rw[(f46.own j (by omega)),f4.own j (by omega)];have:=YE.own j hj;rw[this];exact hn)]
   have dz:j≠H2.length:=by omega
   rw[Dk,fv dz,tZ,ji dz,f4.slot j (by omega) (by rw[YE.own j hj];exact λhh=>hn (Jd hi _ hh)),f3.slot j (by omega) (by simp),f2.slot j (by omega) (by rw[YE.own j hj];exact λhh=>hn (by simp at hh;simp[hh]))]
   exact YE.slot j hj (by simp),f.own,f.size⟩
 have c7:Cl H2.length (R.Mr r s) 47 H7 o7:=c6.fr f7 (by simp)
 have aby:Cl H.length (rc bQ) 47 H7 o7:=by
  have a1:Cl H.length (rc bQ) 47 H4 o4:=((c1.fr f2 (by simp)).fr f3 (by simp)).fr f4 (by simp<;>omega)
  have a2:Cl H.length (rc bQ) 47 H6 o4:=⟨by rw[Dk,bz (by omega),tZ,ek (ji (by omega))];exact a1.1,a1.2⟩
  exact a2.fr f7 (by simp)
 have hs7:gT H7 o7 (-41) s r.list:=hs6.fr f7 (by simp)
 cases e<;>simp -implicitDefEqProofs only[C4,sS,Nat.reduceAdd]
 ·exact gL aby fA7 h7 (by simpa using Mt) Tn
 ·simp only[if_true] at Mt;have hN1:1≤N:=by
   have:=hI.len
   have hp:1≤uG (th i):=by cases ht:(th i).hY<;>simp[uG,hb,ht]
   have:i=0∨i=1∨i=2:=by omega
   rcases this with rfl|rfl|rfl<;>omega
  obtain⟨tb7,adE,adF,uc,i3,i4,i6,i7,iT,ixl,ixo,itl,ito⟩:=h7.n7;obtain⟨iT1,iT2⟩:=iT i hi;obtain⟨no7,d1,d7,d8⟩:=h7.UZ hi;have Lr:=pO H2.length r (s:=s) H7 c7.1;have aew:=Mt.len;obtain⟨Lx,q1,q2,q3,x',H8,H9,o9,q4,q5,h9,f9⟩:=h7.app ⟨3,i,no7,⟨0,0,0⟩,r,uc⟩ (s:=s) hs7 (by omega)
  have c9:Cl H2.length (R.Mr r s) 47 H9 o9:=c7.fr f9 (by simp)
  have PS:Cl H.length (rc bQ) 47 H9 o9:=aby.fr f9 (by simp)
  have Lr9:=pO H2.length r (s:=s) H9 c9.1;have A10:=tV H.length r es H9 PS.1 rfl;have adG:=pO H.length r (s:=s) (t:=47) _ (aG (c:=⟨R.Mr r s,47,1,false⟩) PS.1);have e10:(⟨[cv r.Ex,.bool r.found,cv r.key,cv r.value,cv r.n,s],47,1,false⟩:eU)=⟨R.Mr r s,47,1,false⟩:=rfl;rw[e10] at A10;have f10:Fr H9 o9 (H9.put H.length ⟨R.Mr r s,47,1,false⟩) o9 [-9]:=(Fr.refl _ _ _).put λ_=>by simp[PS.2]
  simp -implicitDefEqProofs only[q1,i4,iT1,iT2,d8,Lr,i7,abr _ _ _ r es,Tj _ es,q2,q4,q5,q3,Lr9,A10,adG,sS,Nat.reduceAdd];refine Ev.ret ⟨o9,th7,L7++[⟨3,i,no7,⟨0,0,0⟩,r,uc⟩],m',r,s,true,rfl,⟨_,_,_,es⟩,(fA7.trans f9 (rs:=wt) (λ_ h=>h) (by simp)).put (λhh=>by omega),h9.uz f10 (by simp),⟨?_,?_,Mt.tape⟩,Tn⟩
  ·simp only[List.length_append,List.length_singleton];omega
  ·intro z hz;rcases List.mem_append.1 hz with hz|hz
   ·exact Mt.lists z hz
   ·have:z=⟨3,i,no7,⟨0,0,0⟩,r,uc⟩:=by simpa using hz
    subst this;exact hr4
end
end Go.Proofs.YtgfgglponbmgmaaGreat.Fun
end
