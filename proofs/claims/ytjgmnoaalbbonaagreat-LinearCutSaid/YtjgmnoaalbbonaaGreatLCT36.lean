/- Texts of the proof of linearCut_holds, put together by a small program of ours (names shortened, spaces taken out). No condition beyond the given statement. -/
import Derived.Test.YtjgmnoaalbbonaaGreatLCT15
import Derived.Test.YtjgmnoaalbbonaaGreatLCT18
import Derived.Test.YtjgmnoaalbbonaaGreatLCT35
import Derived.Test.YtjgmnoaalbbonaaGreatLCT19
import Derived.Test.YtjgmnoaalbbonaaGreatLCT28
import Derived.Test.YtjgmnoaalbbonaaGreatLCT16
import Derived.Test.YtjgmnoaalbbonaaGreatLCT20
set_option linter.unusedVariables false
set_option linter.unusedSimpArgs false
set_option linter.unnecessarySimpa false
noncomputable section
section
namespace Go.Proofs.YtjgmnoaalbbonaaGreat.Fun
open Go Go.RowKit Go.Proofs.YtjgmnoaalbbonaaGreatA.Am
set_option maxRecDepth 10000
section
variable {G:ae} {H H':aa} {o o':aj} {p m c mp f:Nat} {K K':aa→aj→Prop} {tf tg q:Int} {x:Value} {l:PL} {n i:Nat} {cs:List Int} {mx proc dt rec laid:Int} {op:kC} {tape s0:Value} {done:Bool} {r0:dA} {T:List Int}
structure FT (tf tg:Int):Prop where
 ne:tf≠tg
 lt:tf< -100
 lg:tg< -100
theorem qd.jE {s:Value}{cs:List Int}(h:qd H o q s cs):jE s s=true:=by
 obtain⟨a,c,rfl⟩:=h.isSlice;exact jm ..
theorem SZ (h:kH H o f tf tg T)(hm:tN H o mp mx cs)(hT:T.length<1048576)(ht:FT tf tg):bA (run G) 98 [pv f,pv mp] H λv H'=>∃o' T' c8 d,v= .bool d∧Fr H o H' o' [tf,tg, -70, -71]∧kH H' o' f tf tg T'∧T'.length≤T.length+1∧tN H' o' mp mx c8:=by
 refine Ev.up (t:=λk=>F98 (run G k) k (pv f) (pv mp) H) ?_ λk=>Vf ..
 obtain⟨proc,dt,op,tape,done,r0,s0,rec,laid,g,ho,hs,hp,oz,hl⟩:=id h;have dX:=ht.ne;have eR:=ht.lt;have hlg:=ht.lg;have FC:=an g;have L23:aq (.pointer (some ⟨f,23,none⟩)) H=some (.bool done):=ak f 23 H g;simp -implicitDefEqProofs only[F98,L23,sS,Nat.reduceAdd];refine Ev.br (λhd=>?_) (λhd=>?_)<;>try simp -implicitDefEqProofs only[sS,Nat.reduceAdd]
 ·exact Ev.ret ⟨o,T,cs,true,rfl,Fr.refl _ _ _,h,by omega,hm⟩
 refine Ev.call (PE g hs.ints (by omega) hp) ?_
 rintro v H1 ⟨p,r,s,o3,m',rfl,ex,BQ,hr3,Qe,UM,SX⟩;obtain⟨sa,sc,es⟩:=Qe.isSlice;have l1:=ex.size;have g1:=ex.get g;have D6:mp<H.length:=by obtain⟨_,_,_,_,_,gm,_⟩:=hm;exact an gm
 obtain⟨tp,w,TT,W,i,nk,na,nx,ny,AP,Fw,ty,gp,Mn,_,_,hw,_⟩:=hr3;have Mq:=an gp;obtain⟨H2,iL⟩: ∃z,z=H1.new ⟨oc bM ax,162,1,false⟩:=⟨_,rfl⟩;have l2:H2.length=H1.length+1:=by rw[iL,aW]
 have gb:H2.get H1.length=some ⟨oc bM ax,162,1,false⟩:=by rw[iL];exact ay
 have n0:aO H1 162 1 [cv 0,.bool false,cv 0,cv 0,cv 0,ax,ax,cv 0,.bool false,cv 0,cv 0,cv 0,ax]=(pv H1.length,H2):=by rw[iL];rfl
 have A2:=Ft H1.length r es bM ax H2 gb;obtain⟨H3,ou⟩: ∃z,z=H2.put H1.length ⟨oc r s,162,1,false⟩:=⟨_,rfl⟩;rw[←ou] at A2;have hold: ∀j,j<H1.length→H3[j]? =H1[j]? :=λj hj=>by rw[ou,db (by omega),iL,dC hj]
 let o1:aj:=abj o o3 H.length
 have YF:Fr H o H3 o1 []:=⟨λj hj _=>by rw[hold j (by omega)];exact ex.old j hj,λj hj=>if_pos hj,by rw[ou,jd,l2];omega⟩
 have gp3:H3.get p=some ⟨[tp,cv i,.bool (decide (m'=0)),cv nk,cv na,cv nx,cv ny,w,cv AP,cv Fw],ty,1,false⟩:=by rw[cP (hold p Mq)];exact gp
 have YE:H3.get f=some ⟨fc proc dt op tape done r0 s0 rec laid,164,1,false⟩:=by rw[cP (hold f (by omega))];exact g1
 have Zp:=h.fr YF (by simp) (by simp) (by simp)
 have M5:=hm.fr YF (by simp) (by simp)
 have Bd:=qd.jE hs;have LT3:aq (.pointer (some ⟨f,22,none⟩)) H3=some tape:=ak f 22 H3 YE;have LA:cK 5 (.pointer (some ⟨p,3,none⟩)) H3=some (uH nk na nx ny w):=by simp[cK,aw,gp3]
 have hw3:iz H3 w W:=hw.1.keep λk b e dX=>cP (hold _ (hw.2 b _ _ e dX).1)
 have YA:W≠[]→∀a n c,w= .slice (some a) n c→a.block≠mp:=λdX a n c e hh=>by
  have:=(hw.2 a n c e dX).2
  rw[hh] at this;exact(SX mp D6).2 this
 simp -implicitDefEqProofs only[n0,A2,LT3,LA,sS,Nat.reduceAdd];have FX:JM (λH' o'=>Fr H3 o1 H' o' [-70, -71]) mp mx cs H3:=⟨cI.base (by simp),o1,M5,Fr.refl _ _ _⟩
 refine Ev.call (adm FX nk na nx ny hw3 YA) ?_;rintro v H4 ⟨u,c8,rfl,_,o4,T7,Zq⟩;have hf4:=Zp.fr Zq (by simp;omega) (by simp;omega) (by simp)
 have abk:o1 f=tf:=by show(if f<H.length then o f else _)=tf;rw[if_pos FC];exact ho
 have SY:H4.get f=some ⟨fc proc dt op tape done r0 s0 rec laid,164,1,false⟩:=by rw[Zq.same f (an YE) (by rw[abk];simp;omega)];exact YE
 have abl:o4 f=tf:=by rw[Zq.own f (an YE)];exact abk
 have hs4:qd H4 o4 tg tape T:=(hs.fr YF (by simp)).fr Zq (by simp;omega)
 have adn:gE H4 o4 (-41) s0 r0.list:=(oz.fr YF (by simp)).fr Zq (by simp)
 obtain⟨H5,uK⟩: ∃z,z=H4.new ⟨[cv u],2,1,false⟩:=⟨_,rfl⟩;have b1:=DF u H4;rw[←uK] at b1;have gf5:H5.get f=some ⟨fc proc dt op tape done r0 s0 rec laid,164,1,false⟩:=by rw[uK,cD (an SY)];exact SY
 have LT4:aq (.pointer (some ⟨f,22,none⟩)) H4=some tape:=ak f 22 H4 SY;have LT5:aq (.pointer (some ⟨f,22,none⟩)) H5=some tape:=ak f 22 H5 gf5;obtain⟨x',H6,o6,e6,s6,fr6⟩:=LQ 2 2 u hs4 (by omega)
 rw[←uK] at e6;have gf6:H6.get f=some ⟨fc proc dt op tape done r0 s0 rec laid,164,1,false⟩:=by rw[fr6.same f (an SY) (by rw[abl];simp;omega)];exact SY
 have abm:o6 f=tf:=by rw[fr6.own f (an SY)];exact abl
 obtain⟨xa,xc,exx⟩:=s6.isSlice;have S22:=xk f 22 xa (T++[u]).length xc H6 gf6 rfl (by simp)
 rw[←exx] at S22;have e22:(fc proc dt op tape done r0 s0 rec laid).set 22 x'=fc proc dt op x' done r0 s0 rec laid:=rfl;simp only[e22] at S22;obtain⟨H7,Qh⟩: ∃z,z=H6.put f ⟨fc proc dt op x' done r0 s0 rec laid,164,1,false⟩:=⟨_,rfl⟩;rw[←Qh] at S22;have fr7:Fr H6 o6 H7 o6 [tf]:=by rw[Qh];exact(Fr.refl H6 o6 [tf]).put λ_=>by simp[abm]
 have hf7:kH H7 o6 f tf tg (T++[u]):=⟨proc,dt,op,x',done,r0,s0,rec,laid,by rw[Qh];exact aD gf6,abm,s6.fr fr7 (by simp;omega),hp,(adn.fr fr6 (by simp;omega)).fr fr7 (by simp;omega),hl⟩
 have hm7:tN H7 o6 mp mx c8:=(T7.fr fr6 (by simp;omega) (by simp;omega)).fr fr7 (by simp;omega) (by simp;omega)
 have frA:Fr H o H7 o6 [tf,tg, -70, -71]:=(((YF.trans Zq (rs:=[tf,tg, -70, -71]) (by simp) (by simp)).trans fr6 (rs:=[tf,tg, -70, -71]) (by simp) (by simp))).trans fr7 (by simp) (by simp)
 simp -implicitDefEqProofs only[b1,e6,S22,LT3,LT4,LT5,Bd,sS,Nat.reduceAdd];refine Ev.call (Fv hf7 (by simp;omega) ⟨by omega,by omega⟩) ?_
 rintro v H8 ⟨o8,fr8,hf8⟩;obtain⟨abn,ado,op',abo,PF,r',s',adp,abp,g8,_⟩:=id hf8;have L8:aq (.pointer (some ⟨f,23,none⟩)) H8=some (.bool PF):=ak f 23 H8 g8;simp -implicitDefEqProofs only[L8,sS,Nat.reduceAdd];exact Ev.ret ⟨o8,T++[u],c8,PF,rfl,frA.trans fr8 (by simp) (by simp),hf8,by simp,hm7.fr fr8 (by simp;omega) (by simp;omega)⟩
theorem S0 (dt:Int)(op:kC)(H:aa):cO 140 (.agg (ac dt op).toArray) H=some (pv H.length,H.new ⟨ac dt op,140,1,false⟩):=by
 simp[cO,Value.cells,av,aO]
theorem YG (i:Nat)(dt:Int)(op:kC)(H:aa)(h:H.get i=some ⟨ac dt op,140,1,false⟩):cK 21 (pv i) H=some (.agg (ac dt op).toArray):=by
 simp[cK,aw,h]
theorem S9 (proc dt:Int)(op:kC):aE Tryz.prog 164 [(0,cv proc),(1,.agg (ac dt op).toArray)]=some (.agg (fc proc dt op ax false bM ax 0 0).toArray):=by kernel_rfl
theorem PG (proc dt:Int)(op:kC)(H:aa):cO 164 (.agg (fc proc dt op ax false bM ax 0 0).toArray) H=some (pv H.length,H.new ⟨fc proc dt op ax false bM ax 0 0,164,1,false⟩):=by
 simp[cO,Value.cells,av,aO]
theorem YH (ht:FT tf tg)(hp:proc=24∨proc=25)(dt:Int)(op:kC)(H:aa)(o:aj):bA (run G) 74 [cv proc,.agg (ac dt op).toArray] H λv H'=>∃f o',v=pv f∧Fr H o H' o' [tf]∧kH H' o' f tf tg []:=by
 refine Ev.up (t:=λk=>F74 (run G k) k (cv proc) (.agg (ac dt op).toArray) H) ?_ λk=>Wq ..
 have dX:=ht.ne;have eR:=ht.lt;obtain⟨H1,hU⟩: ∃z,z=H.new ⟨ac dt op,140,1,false⟩:=⟨_,rfl⟩;have l1:H1.length=H.length+1:=by rw[hU,aW]
 have g1:H1.get H.length=some ⟨ac dt op,140,1,false⟩:=by rw[hU];exact ay
 obtain⟨H2,iL⟩: ∃z,z=H1.new ⟨fc proc dt op ax false bM ax 0 0,164,1,false⟩:=⟨_,rfl⟩;have b1:=S0 dt op H;rw[←hU] at b1;have b2:=PG proc dt op H1;rw[←iL] at b2;have A1:=YG H.length dt op H1 g1;have f1:Fr H o H1 (o.up H.length (-9)) []:=by rw[hU];exact(Fr.refl H o []).new _ _
 have f2:Fr H o H2 ((o.up H.length (-9)).up H1.length tf) []:=by rw[iL];exact f1.new _ _
 have hf2:kH H2 ((o.up H.length (-9)).up H1.length tf) H1.length tf tg []:=⟨proc,dt,op,ax,false,bM,ax,0,0,by rw[iL];exact ay,aH,.inl ⟨rfl,rfl⟩,hp,.nil,by simp[bM]⟩
 have ab:=S9 proc dt op;simp -implicitDefEqProofs only[F74,b1,A1,ab,b2,sS,Nat.reduceAdd];refine Ev.call (Fv hf2 (by simp) ⟨by omega,by omega⟩) ?_
 rintro v H3 ⟨o3,YF,Zp⟩
 try simp -implicitDefEqProofs only[sS,Nat.reduceAdd]
 exact Ev.ret ⟨H1.length,o3,rfl,f2.trans YF (by simp) (by simp),Zp⟩
end
section
variable {G:ae} {H H':aa} {o o':aj} {p m c mp f xp:Nat} {K K':aa→aj→Prop} {tf tg q:Int} {x:Value} {l:PL} {n i:Nat} {cs:List Int} {mx:Int} {T:List Int}
structure T8 where
 ti:Nat
 busy:Bool
 fO:Bool
 T:List Int
def u7 (t:T8):Nat:=if t.busy then(if t.fO then 1 else 2) else 0
def T9 (H:aa)(o:aj)(i:Nat)(s:T8):Prop:=
 ∃(dt k key val steps no:Int) (F:Value) (ty:TypeId),H.get s.ti=some ⟨[cv dt,.bool s.busy,cv k,cv key,cv val,F,cv steps,.bool s.fO,cv no],ty,1,false⟩∧o s.ti= -200-i∧(s.busy=true→∃f,F=pv f∧kH H o f (-210-i) (-220-i) s.T)
theorem T9.fr {ps:List Int}{s:T8}(h:T9 H o i s)(fr:Fr H o H' o' ps)(h1:(-200-i:Int) ∉ ps)(h2:(-210-i:Int) ∉ ps)(h3:(-220-i:Int) ∉ ps)(h4:(-41:Int) ∉ ps):T9 H' o' i s:=by
 obtain⟨dt,k,key,val,steps,no,F,ty,g,ho,hF⟩:=h;exact⟨dt,k,key,val,steps,no,F,ty,by rw[fr.same s.ti (an g) (by rw[ho];exact h1)];exact g,by rw[fr.own s.ti (an g)];exact ho,λhb=>by
  obtain⟨f,e,hf⟩:=hF hb;exact⟨f,e,hf.fr fr h2 h3 h4⟩⟩
theorem ftI (i:Nat):FT (-210-i) (-220-i):=⟨by omega,by omega,by omega⟩
abbrev uL:=Nat→T8
def rQ (th:uL)(i:Nat)(s:T8):uL:=λj=>if j=i then s else th j
def WR (H:aa)(o:aj)(xp mp:Nat)(th:uL)(L:List hP):Prop:=
 ∃(c0 c1 c2 inv eO mx:Int) (tb cap:Nat) (cs:List Int) (Lx:Value) (rest:List Value) (ty mo:TypeId),
  H.get xp=some ⟨[cv c0,cv c1,cv c2,pv mp,.slice (some ⟨tb,0,none⟩) 3 cap,Lx,cv inv,cv eO],ty,1,false⟩∧o xp= -80∧
  H.get tb=some ⟨pv (th 0).ti::pv (th 1).ti::pv (th 2).ti::rest,mo,1,false⟩∧o tb= -81∧
  tN H o mp mx cs∧(∀i,i<3→T9 H o i (th i))∧iW H o (-82) (-41) Lx L
abbrev wt:List Int:=[-70, -71, -80, -81, -82, -200, -201, -202, -210, -211, -212, -220, -221, -222]
theorem IZ (hi:i<3): ∀z∈([-200-i, -210-i, -220-i, -70, -71]:List Int),z∈wt:=by
 have:i=0∨i=1∨i=2:=by omega
 rcases this with rfl|rfl|rfl<;>simp
theorem WR.Me {th:uL}{L:List hP}{s':T8}(h:WR H o xp mp th L)(hi:i<3)(fr:Fr H o H' o' [-200-i, -210-i, -220-i, -70, -71])(ht:T9 H' o' i s')(XZ:s'.ti=(th i).ti)(hm: ∃mx cs,tN H' o' mp mx cs):WR H' o' xp mp (rQ th i s') L:=by
 obtain⟨c0,c1,c2,inv,eO,mx,tb,cap,cs,Lx,rest,ty,mo,g,ho,gt,lQ,_,oW,hL⟩:=h;obtain⟨mx',c8,hm⟩:=hm;have key: ∀j,(Fun.rQ th i s' j).ti=(th j).ti:=λj=>by
  unfold Fun.rQ;split
  ·rename_i e;rw[e];exact XZ
  ·rfl
 refine⟨c0,c1,c2,inv,eO,mx',tb,cap,c8,Lx,rest,ty,mo,?_,?_,?_,?_,hm,λj hj=>?_,hL.fr fr (by simp<;>omega) (by simp<;>omega)⟩
 ·rw[fr.same xp (an g) (by rw[ho];simp;omega)];exact g
 ·rw[fr.own xp (an g)];exact ho
 ·rw[fr.same tb (an gt) (by rw[lQ];simp;omega),key,key,key];exact gt
 ·rw[fr.own tb (an gt)];exact lQ
 ·unfold Fun.rQ;split
  ·rename_i e;subst e;exact ht
  ·rename_i e;exact(oW j hj).fr fr (by simp<;>omega) (by simp<;>omega) (by simp<;>omega) (by simp<;>omega)
theorem WR.DR {th:uL}{L:List hP}{ps:List Int}(h:WR H o xp mp th L)(fr:Fr H o H' o' ps)(hp: ∀z∈ps,z ∉ (-41:Int)::wt):WR H' o' xp mp th L:=by
 obtain⟨c0,c1,c2,inv,eO,mx,tb,cap,cs,Lx,rest,ty,mo,g,ho,gt,lQ,hm,oW,hL⟩:=h;have np: ∀z∈(-41:Int)::wt,z ∉ ps:=λz hz hh=>hp z hh hz
 refine⟨c0,c1,c2,inv,eO,mx,tb,cap,cs,Lx,rest,ty,mo,?_,?_,?_,?_,hm.fr fr (np _ (by simp)) (np _ (by simp)),λj hj=>?_,hL.fr fr (np _ (by simp)) (np _ (by simp))⟩
 ·rw[fr.same xp (an g) (by rw[ho];exact np _ (by simp))];exact g
 ·rw[fr.own xp (an g)];exact ho
 ·rw[fr.same tb (an gt) (by rw[lQ];exact np _ (by simp))];exact gt
 ·rw[fr.own tb (an gt)];exact lQ
 ·have:j=0∨j=1∨j=2:=by omega
  rcases this with rfl|rfl|rfl
  ·exact(oW 0 hj).fr fr (np _ (by simp)) (np _ (by simp)) (np _ (by simp)) (np _ (by simp))
  ·exact(oW 1 hj).fr fr (np _ (by simp)) (np _ (by simp)) (np _ (by simp)) (np _ (by simp))
  ·exact(oW 2 hj).fr fr (np _ (by simp)) (np _ (by simp)) (np _ (by simp)) (np _ (by simp))
theorem Ta {th:uL}{L:List hP}(h:WR H o xp mp th L)(hi:i<3)(hb:(th i).busy=true)(hT:(th i).T.length<1048576):bA (run G) 72 [pv (th i).ti,pv mp] H λv H'=>∃o' r s e T',
  v= .tuple #[dL r s,.bool e]∧Fr H o H' o' [-200-i, -210-i, -220-i, -70, -71]∧WR H' o' xp mp (rQ th i ⟨(th i).ti, !e,(th i).fO,T'⟩) L∧T'.length≤(th i).T.length+1∧gE H' o' (-41) s r.list∧r.list.length≤1048577:=by
 refine Ev.up (t:=λk=>F72 (run G k) k (pv (th i).ti) (pv mp) H) ?_ λk=>WM ..
 obtain⟨H1,hU⟩: ∃z,z=H.new ⟨rc bM,45,1,false⟩:=⟨_,rfl⟩;have n0:aO H 45 1 [cv 0,.bool false,cv 0,cv 0,cv 0,ax]=(pv H.length,H1):=by rw[hU];rfl
 have f1:Fr H o H1 (o.up H.length (-9)) []:=by rw[hU];exact(Fr.refl H o []).new _ _
 have c1:Cl H.length (rc bM) 45 H1 (o.up H.length (-9)):=by rw[hU];exact Cl.made
 have h1:=h.DR f1 (by simp)
 obtain⟨ti,et⟩: ∃ti,ti=(th i).ti:=⟨_,rfl⟩;rw[←et];obtain⟨c0',_,_,_,_,mx,_,_,cs,_,_,_,_,_,_,_,_,hm,oW,_⟩:=id h1;obtain⟨dt,k,key,val,steps,no,F,ty,g,lQ,hF⟩:=oW i hi;obtain⟨f,rfl,hf⟩:=hF hb;rw[←et] at g lQ;rw[hb] at g;have L1:aq (.pointer (some ⟨ti,1,none⟩)) H1=some (.bool true):=ak ti 1 H1 g;have L6:aq (.pointer (some ⟨ti,6,none⟩)) H1=some (cv steps):=ak ti 6 H1 g;have S6:=jM ti 6 (IntKind.i64.wrap (steps+1)) H1 g rfl (by simp)
 simp only[List.set_cons_succ,List.set_cons_zero] at S6;obtain⟨H2,iL⟩: ∃z,z=H1.put ti ⟨[cv dt,.bool true,cv k,cv key,cv val,pv f,cv (IntKind.i64.wrap (steps+1)),.bool (th i).fO,cv no],ty,1,false⟩:=⟨_,rfl⟩;rw[←iL] at S6;have g2:H2.get ti=some ⟨[cv dt,.bool true,cv k,cv key,cv val,pv f,cv (IntKind.i64.wrap (steps+1)),.bool (th i).fO,cv no],ty,1,false⟩:=by rw[iL];exact aD g
 have f2:Fr H1 (o.up H.length (-9)) H2 (o.up H.length (-9)) [-200-i]:=by rw[iL];exact(Fr.refl _ _ _).put λ_=>by simp[lQ]
 have L5:aq (.pointer (some ⟨ti,5,none⟩)) H2=some (pv f):=ak ti 5 H2 g2;have hf2:=hf.fr f2 (by simp<;>omega) (by simp<;>omega) (by simp<;>omega)
 have DP:=hm.fr f2 (by simp<;>omega) (by simp<;>omega)
 simp -implicitDefEqProofs only[F72,n0,L1,L6,S6,L5,sS,Nat.reduceAdd];refine Ev.call (SZ hf2 DP hT (ftI i)) ?_;rintro v H3 ⟨o3,T',c8,d,rfl,f3,Zp,hT3,M5⟩;have f13:Fr H1 (o.up H.length (-9)) H3 o3 [-200-i, -210-i, -220-i, -70, -71]:=f2.trans f3 (by simp) (by simp)
 have c3:Cl H.length (rc bM) 45 H3 o3:=c1.fr f13 (by simp<;>omega)
 have vH:(o.up H.length (-9)) ti= -200-i:=lQ;have g3:H3.get ti=some ⟨[cv dt,.bool true,cv k,cv key,cv val,pv f,cv (IntKind.i64.wrap (steps+1)),.bool (th i).fO,cv no],ty,1,false⟩:=by rw[f3.same ti (an g2) (by rw[vH];simp;omega)];exact g2
 have ho3:o3 ti= -200-i:=by rw[f3.own ti (an g2)];exact vH
 have dX:ti≠H.length:=by
  rintro rfl;have:=c1.2
  omega
 cases d<;>simp -implicitDefEqProofs only[sS,Nat.reduceAdd]
 ·have A:=tD H.length bM (s:=ax) rfl H3 c3.1 rfl;obtain⟨H4,oV⟩: ∃z,z=H3.put H.length ⟨rc bM,45,1,false⟩:=⟨_,rfl⟩;have e4:(⟨[cv bM.qY,.bool bM.found,cv bM.key,cv bM.value,cv bM.n,ax],45,1,false⟩:eu)=⟨rc bM,45,1,false⟩:=rfl;rw[e4, ←oV] at A;have c4:Cl H.length (rc bM) 45 H4 o3:=by rw[oV];exact c3.self
  have Lr:=jJ H.length bM (s:=ax) H4 c4.1;have f4:Fr H3 o3 H4 o3 [-9]:=by rw[oV];exact(Fr.refl _ _ _).put λ_=>by simp[c3.2]
  simp -implicitDefEqProofs only[AL,A,Lr,sS,Nat.reduceAdd];have g4:H4.get ti=some ⟨[cv dt,.bool true,cv k,cv key,cv val,pv f,cv (IntKind.i64.wrap (steps+1)),.bool (th i).fO,cv no],ty,1,false⟩:=by rw[oV,aS dX];exact g3
  have ht3:T9 H3 o3 i ⟨(th i).ti,true,(th i).fO,T'⟩:=⟨dt,k,key,val,_,no,pv f,ty,by rw[←et];exact g3,by rw[←et];exact ho3,λ_=>⟨f,rfl,Zp⟩⟩
  have hw3:=h1.Me hi f13 ht3 rfl ⟨mx,c8,M5⟩;have Yn:=hw3.DR f4 (by simp)
  refine Ev.ret ⟨o3,bM,ax,false,T',rfl,?_,by rw[et];exact Yn,hT3,.nil,by simp[bM]⟩
  have fA:=(f1.trans f13 (rs:=[-200-i, -210-i, -220-i, -70, -71]) (by simp) (λ_ h=>h))
  refine⟨λj hj hn=>?_,λj hj=>fA.own j hj,by have:=fA.size;have:=f4.size;show H.length≤H4.length;omega⟩
  show H4[j]? =_
  rw[oV,db (by omega)];exact fA.slot j hj hn
 ·have S1:=kE ti 1 (.bool false) H3 g3 rfl (by simp) rfl rfl rfl
  simp only[List.set_cons_succ,List.set_cons_zero] at S1;obtain⟨H4,oV⟩: ∃z,z=H3.put ti ⟨[cv dt,.bool false,cv k,cv key,cv val,pv f,cv (IntKind.i64.wrap (steps+1)),.bool (th i).fO,cv no],ty,1,false⟩:=⟨_,rfl⟩;rw[←oV] at S1;have g4:H4.get ti=some ⟨[cv dt,.bool false,cv k,cv key,cv val,pv f,cv (IntKind.i64.wrap (steps+1)),.bool (th i).fO,cv no],ty,1,false⟩:=by rw[oV];exact aD g3
  have f4:Fr H3 o3 H4 o3 [-200-i]:=by rw[oV];exact(Fr.refl _ _ _).put λ_=>by simp[ho3]
  have L5':aq (.pointer (some ⟨ti,5,none⟩)) H4=some (pv f):=ak ti 5 H4 g4;have hf4:=Zp.fr f4 (by simp<;>omega) (by simp<;>omega) (by simp<;>omega)
  have T7:=M5.fr f4 (by simp<;>omega) (by simp<;>omega)
  obtain⟨abn,ado,op',abo,PF,r',s',adp,abp,gf,hof,Y5,Cd,oz,hll⟩:=id hf4;obtain⟨sa,sc,es⟩:=oz.isSlice;have L31:cK 6 (.pointer (some ⟨f,31,none⟩)) H4=some (dL r' s'):=by simp[cK,aw,gf]
  have c4:Cl H.length (rc bM) 45 H4 o3:=c3.fr f4 (by simp<;>omega)
  have A:=tD H.length r' es H4 c4.1 rfl;obtain⟨H5,uK⟩: ∃z,z=H4.put H.length ⟨Md r' s',45,1,false⟩:=⟨_,rfl⟩;have e5:(⟨[cv r'.qY,.bool r'.found,cv r'.key,cv r'.value,cv r'.n,s'],45,1,false⟩:eu)=⟨Md r' s',45,1,false⟩:=rfl;rw[e5, ←uK] at A;have g5:H5.get H.length=some ⟨Md r' s',45,1,false⟩:=by rw[uK];exact aD c4.1
  have Lr:=jJ H.length r' (s:=s') H5 g5;have f5:Fr H4 o3 H5 o3 [-9]:=by rw[uK];exact(Fr.refl _ _ _).put λ_=>by simp[c4.2]
  simp -implicitDefEqProofs only[S1,L5',L31,A,Lr,sS,Nat.reduceAdd];have f14:Fr H1 (o.up H.length (-9)) H4 o3 [-200-i, -210-i, -220-i, -70, -71]:=f13.trans f4 (λ_ h=>h) (by simp)
  have ht4:T9 H4 o3 i ⟨(th i).ti,false,(th i).fO,T'⟩:=⟨dt,k,key,val,_,no,pv f,ty,by rw[←et];exact g4,by rw[←et];exact ho3,λhh=>by simp at hh⟩
  have Yn:=h1.Me hi f14 ht4 rfl ⟨mx,c8,T7⟩;have hw5:=Yn.DR f5 (by simp)
  refine Ev.ret ⟨o3,r',s',true,T',rfl,?_,by rw[et];exact hw5,hT3,oz.fr f5 (by simp),hll⟩
  have fA:=(f1.trans f14 (rs:=[-200-i, -210-i, -220-i, -70, -71]) (by simp) (λ_ h=>h))
  refine⟨λj hj hn=>?_,λj hj=>fA.own j hj,by have:=fA.size;have:=f5.size;show H.length≤H5.length;omega⟩
  show H5[j]? =_
  rw[uK,db (by omega)];exact fA.slot j hj hn
end
section
variable {G:ae} {H H':aa} {o o':aj} {p m c mp f xp:Nat} {q:Int} {x:Value} {l:PL} {n i:Nat} {cs:List Int} {mx:Int} {T:List Int} {th:uL} {L:List hP} {N M:Nat}
theorem PH (e:hP){s:Value}{a:Option Addr}{m c:Nat}(es:s= .slice a m c)(H:aa):au Tryz.prog 23 1 [(0,Bz e s)] H=some (.slice (some ⟨H.length,0,none⟩) 1 1,H.new ⟨aM e s,47,13,false⟩):=by subst es;kernel_rfl
theorem YI (t no pick:Int):aE Tryz.prog 47 [(0,cv 2),(1,cv t),(2,cv no),(5,cv pick)]=some (Bz ⟨2,t,no,⟨0,0,0⟩,bM,pick⟩ ax):=by kernel_rfl
theorem abq (t no pick:Int)(op:kC):aE Tryz.prog 47 [(0,cv 1),(1,cv t),(2,cv no),(3,iO op),(5,cv pick)]=some (Bz ⟨1,t,no,op,bM,pick⟩ ax):=by kernel_rfl
theorem abr (t no pick:Int)(r:dA){s:Value}{a:Option Addr}{m c:Nat}(es:s= .slice a m c):aE Tryz.prog 47 [(0,cv 3),(1,cv t),(2,cv no),(4,dL r s),(5,cv pick)]=some (Bz ⟨3,t,no,⟨0,0,0⟩,r,pick⟩ s):=by subst es;kernel_rfl
structure Inv (th:uL) (L:List hP) (N M:Nat):Prop where
 len:L.length+u7 (th 0)+u7 (th 1)+u7 (th 2)≤N
 lists: ∀e∈L,e.res.list.length≤1048577
 tape: ∀i,i<3→(th i).T.length≤M
theorem DJ {s:T8}{d:Nat}(hi:i<3)(h:u7 s+d≤u7 (th i)):u7 (rQ th i s 0)+u7 (rQ th i s 1)+u7 (rQ th i s 2)+d≤u7 (th 0)+u7 (th 1)+u7 (th 2):=by
 have:i=0∨i=1∨i=2:=by omega
 rcases this with rfl|rfl|rfl<;>simp[rQ]<;>omega
theorem YJ {s:T8}{d:Nat}(hi:i<3)(h:u7 s≤u7 (th i)+d):u7 (rQ th i s 0)+u7 (rQ th i s 1)+u7 (rQ th i s 2)≤u7 (th 0)+u7 (th 1)+u7 (th 2)+d:=by
 have:i=0∨i=1∨i=2:=by omega
 rcases this with rfl|rfl|rfl<;>simp[rQ]<;>omega
theorem WR.oR (h:WR H o xp mp th L): ∃(tb cap:Nat) (inv eO:Int),aq (.pointer (some ⟨xp,3,none⟩)) H=some (pv mp)∧aq (.pointer (some ⟨xp,4,none⟩)) H=some (.slice (some ⟨tb,0,none⟩) 3 cap)∧aq (.pointer (some ⟨xp,6,none⟩)) H=some (cv inv)∧aq (.pointer (some ⟨xp,7,none⟩)) H=some (cv eO)∧
  (∀i:Nat,i<3→(∀H',cq 1 (.slice (some ⟨tb,0,none⟩) 3 cap) (cv i) H'=some (.pointer (some ⟨tb,i,none⟩),H'))∧aq (.pointer (some ⟨tb,i,none⟩)) H=some (pv (th i).ti))∧xp<H.length∧o xp= -80∧tb<H.length∧o tb= -81:=by
 obtain⟨c0,c1,c2,inv,eO,mx,tb,cap,cs,Lx,rest,ty,mo,g,ho,gt,lQ,hm,oW,hL⟩:=h;refine⟨tb,cap,inv,eO,ak xp 3 _ g,ak xp 4 _ g,ak xp 6 _ g,ak xp 7 _ g,λi hi=>⟨λH'=>?_,?_⟩,an g,ho,an gt,lQ⟩
 ·simp only[cq];rw[if_pos (by constructor<;>omega)];simp
 ·rw[ak tb i _ gt];have:i=0∨i=1∨i=2:=by omega
  rcases this with rfl|rfl|rfl<;>rfl
theorem WR.YK (h:WR H o xp mp th L)(hi:i<3): ∃no:Int,aq (.pointer (some ⟨(th i).ti,1,none⟩)) H=some (.bool (th i).busy)∧aq (.pointer (some ⟨(th i).ti,7,none⟩)) H=some (.bool (th i).fO)∧aq (.pointer (some ⟨(th i).ti,8,none⟩)) H=some (cv no):=by
 obtain⟨c0,c1,c2,inv,eO,mx,tb,cap,cs,Lx,rest,ty,mo,g,ho,gt,lQ,hm,oW,hL⟩:=h;obtain⟨dt,k,key,val,steps,no,F,ty,g,lQ,hF⟩:=oW i hi;exact⟨no,ak _ 1 _ g,ak _ 7 _ g,ak _ 8 _ g⟩
theorem WR.fO (h:WR H o xp mp th L)(hi:i<3)(b:Bool): ∃H1,bS 1 (.pointer (some ⟨(th i).ti,7,none⟩)) (.bool b) H=some (undef,H1)∧WR H1 o xp mp (rQ th i ⟨(th i).ti,(th i).busy,b,(th i).T⟩) L∧Fr H o H1 o [-200-i]:=by
 obtain⟨c0,c1,c2,inv,eO,mx,tb,cap,cs,Lx,rest,ty,mo,g,ho,gt,lQ,hm,oW,hL⟩:=id h;obtain⟨dt,k,key,val,steps,no,F,ty,g,lQ,hF⟩:=oW i hi;have S:=kE (th i).ti 7 (.bool b) H g rfl (by simp) rfl rfl rfl
 simp only[List.set_cons_succ,List.set_cons_zero] at S;have f:Fr H o (H.put (th i).ti ⟨[cv dt,.bool (th i).busy,cv k,cv key,cv val,F,cv steps,.bool b,cv no],ty,1,false⟩) o [-200-i]:=(Fr.refl _ _ _).put λ_=>by simp[lQ]
 refine⟨_,S,h.Me hi (f.wk (by simp)) ⟨dt,k,key,val,steps,no,F,ty,aD g,lQ,λhb=>?_⟩ rfl ⟨mx,cs,hm.fr f (by simp<;>omega) (by simp<;>omega)⟩,f⟩
 obtain⟨f',e,hf⟩:=hF hb;exact⟨f',e,hf.fr f (by simp<;>omega) (by simp<;>omega) (by simp<;>omega)⟩
theorem WR.app (h:WR H o xp mp th L)(e:hP){s:Value}(hs:gE H o (-41) s e.res.list)(hl:L.length<4000000): ∃Lx,aq (.pointer (some ⟨xp,5,none⟩)) H=some Lx∧aq (.pointer (some ⟨xp,5,none⟩)) (H.new ⟨aM e s,47,13,false⟩)=some Lx∧jE Lx Lx=true∧∃x' H1 H2 o2,
  cg 47 13 120 Lx (.slice (some ⟨H.length,0,none⟩) 1 1) (H.new ⟨aM e s,47,13,false⟩)=some (x',H1)∧bS 1 (.pointer (some ⟨xp,5,none⟩)) x' H1=some (undef,H2)∧WR H2 o2 xp mp th (L++[e])∧Fr H o H2 o2 [-82, -80]:=by
 obtain⟨c0,c1,c2,inv,eO,mx,tb,cap,cs,Lx,rest,ty,mo,g,ho,gt,lQ,hm,oW,hL⟩:=h;obtain⟨H1,e1⟩: ∃z,z=H.new ⟨aM e s,47,13,false⟩:=⟨_,rfl⟩;have f1:Fr H o H1 (o.up H.length (-9)) []:=by rw[e1];exact(Fr.refl H o []).new _ _
 have g1:H1.get H.length=some ⟨aM e s,47,13,false⟩:=by rw[e1];exact ay
 have Ua:H1.get xp=some ⟨[cv c0,cv c1,cv c2,pv mp,.slice (some ⟨tb,0,none⟩) 3 cap,Lx,cv inv,cv eO],ty,1,false⟩:=by rw[f1.same xp (an g) (by simp)];exact g
 have abt:(o.up H.length (-9)) xp= -80:=by rw[f1.own xp (an g)];exact ho
 obtain⟨x',H2,o2,a2,lg,f2⟩:=(hL.fr f1 (by simp) (by simp)).app (tE:=47) g1 (hs.fr f1 (by simp)) (by simp) (by omega)
 have gx2:H2.get xp=some ⟨[cv c0,cv c1,cv c2,pv mp,.slice (some ⟨tb,0,none⟩) 3 cap,Lx,cv inv,cv eO],ty,1,false⟩:=by rw[f2.same xp (an Ua) (by rw[abt];simp)];exact Ua
 have abu:o2 xp= -80:=by rw[f2.own xp (an Ua)];exact abt
 have Zz: ∃a n c,x'= .slice a n c:=by
  rcases lg with⟨e,_⟩|⟨_,_,_,_,_,e,_⟩
  ·exact⟨_,_,_,e⟩
  ·exact⟨_,_,_,e⟩
 obtain⟨xa,xn,xc,ex⟩:=Zz;have S:=xk xp 5 xa xn xc H2 gx2 rfl (by simp)
 rw[←ex] at S;simp only[List.set_cons_succ,List.set_cons_zero] at S;obtain⟨H3,e3⟩: ∃z,z=H2.put xp ⟨[cv c0,cv c1,cv c2,pv mp,.slice (some ⟨tb,0,none⟩) 3 cap,x',cv inv,cv eO],ty,1,false⟩:=⟨_,rfl⟩;rw[←e3] at S;have f3:Fr H2 o2 H3 o2 [-80]:=by rw[e3];exact(Fr.refl _ _ _).put λ_=>by simp[abu]
 have fA:Fr H o H3 o2 [-82, -80]:=(f1.trans f2 (rs:=[-82, -80]) (by simp) (by simp)).trans f3 (by simp) (by simp)
 have Bd:jE Lx Lx=true:=by
  rcases hL with⟨e,_⟩|⟨_,_,_,_,_,e,_⟩
  ·rw[e];exact jm ..
  ·rw[e];exact jm ..
 rw[←e1];refine⟨Lx,ak xp 5 _ g,ak xp 5 _ Ua,Bd,x',H2,H3,o2,a2,S,⟨c0,c1,c2,inv,eO,mx,tb,cap,cs,x',rest,ty,mo,by rw[e3];exact aD gx2,abu,?_,?_,hm.fr fA (by simp) (by simp),λj hj=>?_,lg.fr f3 (by simp) (by simp)⟩,fA⟩
 ·rw[fA.same tb (an gt) (by rw[lQ];simp)];exact gt
 ·rw[fA.own tb (an gt)];exact lQ
 ·exact(oW j hj).fr fA (by simp<;>omega) (by simp<;>omega) (by simp<;>omega) (by simp)
theorem PI (h:WR H o xp mp th L)(hi:i<3):bA (run G) 99 [pv (th i).ti] H (zI H):=by
 refine Ev.up (t:=λk=>F99 (run G k) k (pv (th i).ti) H) ?_ λk=>WT ..
 obtain⟨c0,c1,c2,inv,eO,mx,tb,cap,cs,Lx,rest,ty,mo,g,ho,gt,lQ,hm,oW,hL⟩:=h;obtain⟨dt,k,key,val,steps,no,F,ty,g,lQ,hF⟩:=oW i hi;have L1:aq (.pointer (some ⟨(th i).ti,1,none⟩)) H=some (.bool (th i).busy):=ak _ 1 _ g;have L5:aq (.pointer (some ⟨(th i).ti,5,none⟩)) H=some F:=ak _ 5 _ g;simp -implicitDefEqProofs only[F99,L1,sS,Nat.reduceAdd];cases hb:(th i).busy<;>simp -implicitDefEqProofs only[L5,sS,Nat.reduceAdd]
 ·exact Ev.ret ⟨⟨_,rfl⟩,rfl⟩
 ·obtain⟨f,rfl,hf⟩:=hF hb;obtain⟨proc,dt,op,tape,done,r,s,rec,laid,g,_⟩:=hf;have L38:aq (.pointer (some ⟨f,38,none⟩)) H=some (cv laid):=ak f 38 _ g;simp -implicitDefEqProofs only[L38,sS,Nat.reduceAdd];exact Ev.ret ⟨⟨_,rfl⟩,rfl⟩
theorem abv (h:WR H o xp mp th L)(a:Int):bA (run G) 93 [pv mp,cv a] H (zI H):=by
 obtain⟨c0,c1,c2,inv,eO,mx,tb,cap,cs,Lx,rest,ty,mo,g,ho,gt,lQ,hm,oW,hL⟩:=h;exact abh (K:=λ_ _=>True) (mx:=mx) (cs:=cs) ⟨cI.true,o,hm,trivial⟩ a
theorem I0 (hi:i<3): ∀z∈([-200-i]:List Int),z∈wt:=λz hz=>IZ hi z (by simp at hz;simp[hz])
theorem Tb (h:WR H o xp mp th L)(hI:Inv th L N M)(hN:N<4000000):bA (run G) 73 [pv xp] H λv H'=>∃o' qM L',Fr H o H' o' wt∧WR H' o' xp mp qM L'∧Inv qM L' N M∧∀j,(qM j).ti=(th j).ti∧(qM j).busy=(th j).busy:=by
 refine Ev.up (t:=λk=>F73 (run G k) k (pv xp) H) ?_ λk=>W7 ..
 simp -implicitDefEqProofs only[F73,sS,Nat.reduceAdd];refine Ev.loop (k:=3) (λk vs Hx=>∃(j:Nat) (o1:aj) (lR:uL) (L1:List hP) (aG x3 dD:Value),j+k=3∧vs=[pv xp,cv j,aG,x3,dD]∧Fr H o Hx o1 wt∧WR Hx o1 xp mp lR L1∧Inv lR L1 N M∧∀j,(lR j).ti=(th j).ti∧(lR j).busy=(th j).busy)
  (λr=>r.1= .exit 0∧∃(o1:aj) (lR:uL) (L1:List hP),Fr H o r.2.2 o1 wt∧WR r.2.2 o1 xp mp lR L1∧Inv lR L1 N M∧∀j,(lR j).ti=(th j).ti∧(lR j).busy=(th j).busy)
  ⟨0,o,th,L,_,_,_,rfl,rfl,Fr.refl _ _ _,h,hI,λj=>⟨rfl,rfl⟩⟩ ?_ ?_
 ·rintro k vs Hx ⟨j,o1,lR,L1,aG,x3,dD,BN,rfl,mr,hw,Fx,pw⟩;obtain⟨tb,cap,inv,eO,e3,e4,e6,e7,eT,_⟩:=hw.oR;have FY:IntKind.i64.wrap ((j:Int)+1)=((j+1:Nat):Int):=by rw[kr (by omega)];omega
  simp -implicitDefEqProofs only[OK,Dg,e4,cw,sS,Nat.reduceAdd];refine Ev.lss (λhq=>?_) (λhq=>?_)<;>try simp -implicitDefEqProofs only[e4,sS,Nat.reduceAdd]
  ·have kg:j<3:=by omega
   obtain⟨YL,YM⟩:=eT j kg;obtain⟨no,b1,b7,b8⟩:=hw.YK kg;have kN: ∀(aG x3 dD:Value) {H2:aa} {o2:aj} {Mf:uL} {L2:List hP},Fr H o H2 o2 wt→WR H2 o2 xp mp Mf L2→Inv Mf L2 N M→(∀j,(Mf j).ti=(th j).ti∧(Mf j).busy=(th j).busy)→Ev (λn=>Df (run G n) n [pv xp,cv j,aG,x3,dD] H2) λr=>(r.1= .normal∧∃k',k'<k∧∃(j:Nat) (o1:aj) (lR:uL) (L1:List hP) (aG x3 dD:Value),j+k'=3∧r.2.1=[pv xp,cv j,aG,x3,dD]∧Fr H o r.2.2 o1 wt∧WR r.2.2 o1 xp mp lR L1∧Inv lR L1 N M∧∀j,(lR j).ti=(th j).ti∧(lR j).busy=(th j).busy)∨(r.1≠ .normal∧r.1= .exit 0∧∃(o1:aj) (lR:uL) (L1:List hP),Fr H o r.2.2 o1 wt∧WR r.2.2 o1 xp mp lR L1∧Inv lR L1 N M∧∀j,(lR j).ti=(th j).ti∧(lR j).busy=(th j).busy):=by
    intro aG x3 dD H2 o2 Mf L2 a1 a2 a3 a4;simp -implicitDefEqProofs only[OI,De,FY,sS,Nat.reduceAdd];exact Ev.ret (.inl ⟨rfl,k-1,by omega,j+1,o2,Mf,L2,_,_,_,by omega,rfl,a1,a2,a3,a4⟩)
   simp -implicitDefEqProofs only[YL,YM,b1,sS,Nat.reduceAdd];cases hb:(lR j).busy<;>simp -implicitDefEqProofs only[b7,sS,Nat.reduceAdd]
   ·exact kN _ _ _ mr hw Fx pw
   cases ht:(lR j).fO<;>simp -implicitDefEqProofs only[sS,Nat.reduceAdd]
   ·refine Ev.az (PI hw kg) λzl=>?_
    try simp -implicitDefEqProofs only[sS,Nat.reduceAdd]
    refine Ev.gtr (λhq=>?_) (λhq=>?_)<;>try simp -implicitDefEqProofs only[e3,sS,Nat.reduceAdd]
    ·refine Ev.az (PI hw kg) λzl=>?_
     try simp -implicitDefEqProofs only[sS,Nat.reduceAdd]
     refine Ev.az (abv hw _) λza=>?_
     try simp -implicitDefEqProofs only[e3,pC,sS,Nat.reduceAdd]
     refine Ev.eql (λhq=>?_) (λhq=>?_)<;>try simp -implicitDefEqProofs only[e3,pC,sS,Nat.reduceAdd]
     ·obtain⟨H2,S7,Ag,f2⟩:=hw.fO kg true;obtain⟨Ub,dG,adU,PJ,k3,k4,k6,k7,kT,_⟩:=Ag.oR;obtain⟨no',d1,d7,d8⟩:=Ag.YK kg;have ed:(rQ lR j ⟨(lR j).ti,(lR j).busy,true,(lR j).T⟩ j).ti=(lR j).ti:=by simp[rQ]
      rw[ed] at d8;have hlen:=Fx.len;obtain⟨Lx,c1,c2,c3,x',H3,H4,o4,c4,c5,Yn,f4⟩:=Ag.app ⟨2,j,no',⟨0,0,0⟩,bM,PJ⟩ (s:=ax) .nil (by omega)
      simp -implicitDefEqProofs only[S7,c1,d8,k7,YI,PH _ rfl,c2,c4,c5,c3,sS,Nat.reduceAdd];refine kN _ _ _ ((mr.trans f2 (rs:=wt) (λ_ h=>h) (I0 kg)).trans f4 (λ_ h=>h) (by simp)) Yn ⟨?_,?_,?_⟩ ?_
      ·have hp:=DJ (th:=lR) (s:=⟨(lR j).ti,(lR j).busy,true,(lR j).T⟩) (d:=1) kg (by simp[u7,hb,ht])
       simp only[List.length_append,List.length_singleton];omega
      ·intro e he;rcases List.mem_append.1 he with he|he
       ·exact Fx.lists e he
       ·have:e=⟨2,j,no',⟨0,0,0⟩,bM,PJ⟩:=by simpa using he
        subst this;simp[bM]
      ·intro i hi;have:=Fx.tape i hi
       unfold rQ;split
       ·rename_i e;subst e;exact this
       ·exact this
      ·intro i;have:=pw i
       unfold rQ;split
       ·rename_i e;subst e;exact this
       ·exact this
     ·exact kN _ _ _ mr hw Fx pw
    ·exact kN _ _ _ mr hw Fx pw
   ·exact kN _ _ _ mr hw Fx pw
  ·exact Ev.ret (.inr ⟨by simp,rfl,o1,lR,L1,mr,hw,Fx,pw⟩)
 ·rintro e vs Hx ⟨he,o1,lR,L1,a1,a2,a3,a4⟩;simp only at he;subst he;show Ev (λ_=>some (Value.tuple #[],Hx)) _
  exact Ev.ret ⟨o1,lR,L1,a1,a2,a3,a4⟩
end
end Go.Proofs.YtjgmnoaalbbonaaGreat.Fun
end
