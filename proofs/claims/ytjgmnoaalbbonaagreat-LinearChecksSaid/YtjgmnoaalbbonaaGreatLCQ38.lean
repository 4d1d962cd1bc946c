/- Texts of the proof of linearChecks_holds, put together by a small program of ours (names shortened, spaces taken out). No condition beyond the given statement. -/
import Derived.Test.YtjgmnoaalbbonaaGreatLCQ15
import Derived.Test.YtjgmnoaalbbonaaGreatLCQ18
import Derived.Test.YtjgmnoaalbbonaaGreatLCQ37
import Derived.Test.YtjgmnoaalbbonaaGreatLCQ19
import Derived.Test.YtjgmnoaalbbonaaGreatLCQ29
import Derived.Test.YtjgmnoaalbbonaaGreatLCQ16
import Derived.Test.YtjgmnoaalbbonaaGreatLCQ20
set_option linter.unusedVariables false
set_option linter.unusedSimpArgs false
set_option linter.unnecessarySimpa false
noncomputable section
section
namespace Go.Proofs.YtjgmnoaalbbonaaGreat.Fun
open Go Go.RowKit Go.Proofs.YtjgmnoaalbbonaaGreatA.Am
set_option maxRecDepth 10000
section
variable {G:ag} {H H':ae} {o o':an} {p m c mp f:Nat} {K K':ae→an→Prop} {tf tg q:Int} {x:Value} {l:PL} {n i:Nat} {cs:List Int} {mx proc dG rec laid:Int} {op:jZ} {tape s0:Value} {done:Bool} {r0:dF} {T:List Int}
structure FT (tf tg:Int):Prop where
 ne:tf≠tg
 lt:tf< -100
 lg:tg< -100
theorem rJ.jd {s:Value}{cs:List Int}(h:rJ H o q s cs):jd s s=true:=by
 obtain⟨a,c,rfl⟩:=h.isSlice;exact jX ..
theorem XL (h:lX H o f tf tg T)(hm:vI H o mp mx cs)(hT:T.length<1048576)(ht:FT tf tg):bN (run G) 98 [pv f,pv mp] H λv H'=>∃o' T' dg d,v= .bool d∧Fr H o H' o' [tf,tg, -70, -71]∧lX H' o' f tf tg T'∧T'.length≤T.length+1∧vI H' o' mp mx dg:=by
 refine Ev.up (t:=λk=>F98 (run G k) k (pv f) (pv mp) H) ?_ λk=>ZP ..
 obtain⟨proc,dG,op,tape,done,r0,s0,rec,laid,g,ho,hs,hp,nP,hl⟩:=id h;have eC:=ht.ne;have dH:=ht.lt;have hlg:=ht.lg;have IV:=aq g;have L23:au (.pointer (some ⟨f,23,none⟩)) H=some (.bool done):=ak f 23 H g;simp -implicitDefEqProofs only[F98,L23,sS,Nat.reduceAdd];refine Ev.br (λhd=>?_) (λhd=>?_)<;>try simp -implicitDefEqProofs only[sS,Nat.reduceAdd]
 ·exact Ev.ret ⟨o,T,cs,true,rfl,Fr.refl _ _ _,h,by omega,hm⟩
 refine Ev.call (TW g hs.ints (by omega) hp) ?_
 rintro v H1 ⟨p,r,s,o3,m',rfl,ex,En,hr3,UA,Zl,XJ⟩;obtain⟨sa,sc,es⟩:=UA.isSlice;have l1:=ex.size;have g1:=ex.get g;have Ey:mp<H.length:=by obtain⟨_,_,_,_,_,gm,_⟩:=hm;exact aq gm
 obtain⟨tp,w,TT,W,i,nk,na,nx,ny,Dl,IM,ty,gp,Du,_,_,hw,_⟩:=hr3;have Qa:=aq gp;obtain⟨H2,jt⟩: ∃z,z=H1.new ⟨oc bZ aB,162,1,false⟩:=⟨_,rfl⟩;have l2:H2.length=H1.length+1:=by rw[jt,bh]
 have gb:H2.get H1.length=some ⟨oc bZ aB,162,1,false⟩:=by rw[jt];exact az
 have n0:aO H1 162 1 [cv 0,.bool false,cv 0,cv 0,cv 0,aB,aB,cv 0,.bool false,cv 0,cv 0,cv 0,aB]=(pv H1.length,H2):=by rw[jt];rfl
 have A2:=IJ H1.length r es bZ aB H2 gb;obtain⟨H3,pX⟩: ∃z,z=H2.put H1.length ⟨oc r s,162,1,false⟩:=⟨_,rfl⟩;rw[←pX] at A2;have hold: ∀j,j<H1.length→H3[j]? =H1[j]? :=λj hj=>by rw[pX,cU (by omega),jt,dh hj]
 let o1:an:=afx o o3 H.length
 have fr3:Fr H o H3 o1 []:=⟨λj hj _=>by rw[hold j (by omega)];exact ex.old j hj,λj hj=>if_pos hj,by rw[pX,iw,l2];omega⟩
 have gp3:H3.get p=some ⟨[tp,cv i,.bool (decide (m'=0)),cv nk,cv na,cv nx,cv ny,w,cv Dl,cv IM],ty,1,false⟩:=by rw[cT (hold p Qa)];exact gp
 have gf3:H3.get f=some ⟨fc proc dG op tape done r0 s0 rec laid,164,1,false⟩:=by rw[cT (hold f (by omega))];exact g1
 have hf3:=h.fr fr3 (by simp) (by simp) (by simp)
 have QK:=hm.fr fr3 (by simp) (by simp)
 have DC:=rJ.jd hs;have LT3:au (.pointer (some ⟨f,22,none⟩)) H3=some tape:=ak f 22 H3 gf3;have LA:bV 5 (.pointer (some ⟨p,3,none⟩)) H3=some (wO nk na nx ny w):=by simp[bV,aA,gp3]
 have hw3:jb H3 w W:=hw.1.keep λk b e eC=>cT (hold _ (hw.2 b _ _ e eC).1)
 have Yv:W≠[]→∀a n c,w= .slice (some a) n c→a.block≠mp:=λeC a n c e hh=>by
  have:=(hw.2 a n c e eC).2
  rw[hh] at this;exact(XJ mp Ey).2 this
 simp -implicitDefEqProofs only[n0,A2,LT3,LA,sS,Nat.reduceAdd];have Jf:JM (λH' o'=>Fr H3 o1 H' o' [-70, -71]) mp mx cs H3:=⟨cW.base (by simp),o1,QK,Fr.refl _ _ _⟩
 refine Ev.call (ahG Jf nk na nx ny hw3 Yv) ?_;rintro v H4 ⟨u,dg,rfl,_,o4,YJ,fr4⟩;have hf4:=hf3.fr fr4 (by simp;omega) (by simp;omega) (by simp)
 have afy:o1 f=tf:=by show(if f<H.length then o f else _)=tf;rw[if_pos IV];exact ho
 have XK:H4.get f=some ⟨fc proc dG op tape done r0 s0 rec laid,164,1,false⟩:=by rw[fr4.same f (aq gf3) (by rw[afy];simp;omega)];exact gf3
 have afz:o4 f=tf:=by rw[fr4.own f (aq gf3)];exact afy
 have hs4:rJ H4 o4 tg tape T:=(hs.fr fr3 (by simp)).fr fr4 (by simp;omega)
 have ahH:ee H4 o4 (-41) s0 r0.list:=(nP.fr fr3 (by simp)).fr fr4 (by simp)
 obtain⟨H5,wQ⟩: ∃z,z=H4.new ⟨[cv u],2,1,false⟩:=⟨_,rfl⟩;have b1:=Gv u H4;rw[←wQ] at b1;have gf5:H5.get f=some ⟨fc proc dG op tape done r0 s0 rec laid,164,1,false⟩:=by rw[wQ,cr (aq XK)];exact XK
 have LT4:au (.pointer (some ⟨f,22,none⟩)) H4=some tape:=ak f 22 H4 XK;have LT5:au (.pointer (some ⟨f,22,none⟩)) H5=some tape:=ak f 22 H5 gf5;obtain⟨x',H6,o6,e6,s6,fr6⟩:=KZ 2 2 u hs4 (by omega)
 rw[←wQ] at e6;have gf6:H6.get f=some ⟨fc proc dG op tape done r0 s0 rec laid,164,1,false⟩:=by rw[fr6.same f (aq XK) (by rw[afz];simp;omega)];exact XK
 have afA:o6 f=tf:=by rw[fr6.own f (aq XK)];exact afz
 obtain⟨xa,xc,exx⟩:=s6.isSlice;have S22:=zO f 22 xa (T++[u]).length xc H6 gf6 rfl (by simp)
 rw[←exx] at S22;have e22:(fc proc dG op tape done r0 s0 rec laid).set 22 x'=fc proc dG op x' done r0 s0 rec laid:=rfl;simp only[e22] at S22;obtain⟨H7,UH⟩: ∃z,z=H6.put f ⟨fc proc dG op x' done r0 s0 rec laid,164,1,false⟩:=⟨_,rfl⟩;rw[←UH] at S22;have fr7:Fr H6 o6 H7 o6 [tf]:=by rw[UH];exact(Fr.refl H6 o6 [tf]).put λ_=>by simp[afA]
 have hf7:lX H7 o6 f tf tg (T++[u]):=⟨proc,dG,op,x',done,r0,s0,rec,laid,by rw[UH];exact aH gf6,afA,s6.fr fr7 (by simp;omega),hp,(ahH.fr fr6 (by simp;omega)).fr fr7 (by simp;omega),hl⟩
 have hm7:vI H7 o6 mp mx dg:=(YJ.fr fr6 (by simp;omega) (by simp;omega)).fr fr7 (by simp;omega) (by simp;omega)
 have frA:Fr H o H7 o6 [tf,tg, -70, -71]:=(((fr3.trans fr4 (rs:=[tf,tg, -70, -71]) (by simp) (by simp)).trans fr6 (rs:=[tf,tg, -70, -71]) (by simp) (by simp))).trans fr7 (by simp) (by simp)
 simp -implicitDefEqProofs only[b1,e6,S22,LT3,LT4,LT5,DC,sS,Nat.reduceAdd];refine Ev.call (IL hf7 (by simp;omega) ⟨by omega,by omega⟩) ?_
 rintro v H8 ⟨o8,fr8,hf8⟩;obtain⟨afB,ahI,op',afC,TX,r',s',ahJ,afD,g8,_⟩:=id hf8;have L8:au (.pointer (some ⟨f,23,none⟩)) H8=some (.bool TX):=ak f 23 H8 g8;simp -implicitDefEqProofs only[L8,sS,Nat.reduceAdd];exact Ev.ret ⟨o8,T++[u],dg,TX,rfl,frA.trans fr8 (by simp) (by simp),hf8,by simp,hm7.fr fr8 (by simp;omega) (by simp;omega)⟩
theorem XM (dG:Int)(op:jZ)(H:ae):cB 140 (.agg (ac dG op).toArray) H=some (pv H.length,H.new ⟨ac dG op,140,1,false⟩):=by
 simp[cB,Value.cells,aD,aO]
theorem adg (i:Nat)(dG:Int)(op:jZ)(H:ae)(h:H.get i=some ⟨ac dG op,140,1,false⟩):bV 21 (pv i) H=some (.agg (ac dG op).toArray):=by
 simp[bV,aA,h]
theorem XN (proc dG:Int)(op:jZ):aI Tryz.prog 164 [(0,cv proc),(1,.agg (ac dG op).toArray)]=some (.agg (fc proc dG op aB false bZ aB 0 0).toArray):=by kernel_rfl
theorem TY (proc dG:Int)(op:jZ)(H:ae):cB 164 (.agg (fc proc dG op aB false bZ aB 0 0).toArray) H=some (pv H.length,H.new ⟨fc proc dG op aB false bZ aB 0 0,164,1,false⟩):=by
 simp[cB,Value.cells,aD,aO]
theorem adh (ht:FT tf tg)(hp:proc=24∨proc=25)(dG:Int)(op:jZ)(H:ae)(o:an):bN (run G) 74 [cv proc,.agg (ac dG op).toArray] H λv H'=>∃f o',v=pv f∧Fr H o H' o' [tf]∧lX H' o' f tf tg []:=by
 refine Ev.up (t:=λk=>F74 (run G k) k (cv proc) (.agg (ac dG op).toArray) H) ?_ λk=>aaT ..
 have eC:=ht.ne;have dH:=ht.lt;obtain⟨H1,iI⟩: ∃z,z=H.new ⟨ac dG op,140,1,false⟩:=⟨_,rfl⟩;have l1:H1.length=H.length+1:=by rw[iI,bh]
 have g1:H1.get H.length=some ⟨ac dG op,140,1,false⟩:=by rw[iI];exact az
 obtain⟨H2,jt⟩: ∃z,z=H1.new ⟨fc proc dG op aB false bZ aB 0 0,164,1,false⟩:=⟨_,rfl⟩;have b1:=XM dG op H;rw[←iI] at b1;have b2:=TY proc dG op H1;rw[←jt] at b2;have A1:=adg H.length dG op H1 g1;have f1:Fr H o H1 (o.up H.length (-9)) []:=by rw[iI];exact(Fr.refl H o []).new _ _
 have f2:Fr H o H2 ((o.up H.length (-9)).up H1.length tf) []:=by rw[jt];exact f1.new _ _
 have hf2:lX H2 ((o.up H.length (-9)).up H1.length tf) H1.length tf tg []:=⟨proc,dG,op,aB,false,bZ,aB,0,0,by rw[jt];exact az,aQ,.inl ⟨rfl,rfl⟩,hp,.nil,by simp[bZ]⟩
 have ab:=XN proc dG op;simp -implicitDefEqProofs only[F74,b1,A1,ab,b2,sS,Nat.reduceAdd];refine Ev.call (IL hf2 (by simp) ⟨by omega,by omega⟩) ?_
 rintro v H3 ⟨o3,fr3,hf3⟩
 try simp -implicitDefEqProofs only[sS,Nat.reduceAdd]
 exact Ev.ret ⟨H1.length,o3,rfl,f2.trans fr3 (by simp) (by simp),hf3⟩
end
section
variable {G:ag} {H H':ae} {o o':an} {p m c mp f xp:Nat} {K K':ae→an→Prop} {tf tg q:Int} {x:Value} {l:PL} {n i:Nat} {cs:List Int} {mx:Int} {T:List Int}
structure YK where
 ti:Nat
 busy:Bool
 fh:Bool
 T:List Int
def xE (t:YK):Nat:=if t.busy then(if t.fh then 1 else 2) else 0
def YL (H:ae)(o:an)(i:Nat)(s:YK):Prop:=
 ∃(dG k key val steps no:Int) (F:Value) (ty:TypeId),H.get s.ti=some ⟨[cv dG,.bool s.busy,cv k,cv key,cv val,F,cv steps,.bool s.fh,cv no],ty,1,false⟩∧o s.ti= -200-i∧(s.busy=true→∃f,F=pv f∧lX H o f (-210-i) (-220-i) s.T)
theorem YL.fr {ps:List Int}{s:YK}(h:YL H o i s)(fr:Fr H o H' o' ps)(h1:(-200-i:Int) ∉ ps)(h2:(-210-i:Int) ∉ ps)(h3:(-220-i:Int) ∉ ps)(h4:(-41:Int) ∉ ps):YL H' o' i s:=by
 obtain⟨dG,k,key,val,steps,no,F,ty,g,ho,hF⟩:=h;exact⟨dG,k,key,val,steps,no,F,ty,by rw[fr.same s.ti (aq g) (by rw[ho];exact h1)];exact g,by rw[fr.own s.ti (aq g)];exact ho,λhb=>by
  obtain⟨f,e,hf⟩:=hF hb;exact⟨f,e,hf.fr fr h2 h3 h4⟩⟩
theorem ftI (i:Nat):FT (-210-i) (-220-i):=⟨by omega,by omega,by omega⟩
abbrev wR:=Nat→YK
def tT (th:wR)(i:Nat)(s:YK):wR:=λj=>if j=i then s else th j
def WR (H:ae)(o:an)(xp mp:Nat)(th:wR)(L:List iH):Prop:=
 ∃(c0 c1 c2 inv fy mx:Int) (tb cap:Nat) (cs:List Int) (Lx:Value) (rest:List Value) (ty nL:TypeId),
  H.get xp=some ⟨[cv c0,cv c1,cv c2,pv mp,.slice (some ⟨tb,0,none⟩) 3 cap,Lx,cv inv,cv fy],ty,1,false⟩∧o xp= -80∧
  H.get tb=some ⟨pv (th 0).ti::pv (th 1).ti::pv (th 2).ti::rest,nL,1,false⟩∧o tb= -81∧
  vI H o mp mx cs∧(∀i,i<3→YL H o i (th i))∧jD H o (-82) (-41) Lx L
abbrev wt:List Int:=[-70, -71, -80, -81, -82, -200, -201, -202, -210, -211, -212, -220, -221, -222]
theorem M9 (hi:i<3): ∀z∈([-200-i, -210-i, -220-i, -70, -71]:List Int),z∈wt:=by
 have:i=0∨i=1∨i=2:=by omega
 rcases this with rfl|rfl|rfl<;>simp
theorem WR.PX {th:wR}{L:List iH}{s':YK}(h:WR H o xp mp th L)(hi:i<3)(fr:Fr H o H' o' [-200-i, -210-i, -220-i, -70, -71])(ht:YL H' o' i s')(hti:s'.ti=(th i).ti)(hm: ∃mx cs,vI H' o' mp mx cs):WR H' o' xp mp (tT th i s') L:=by
 obtain⟨c0,c1,c2,inv,fy,mx,tb,cap,cs,Lx,rest,ty,nL,g,ho,gt,mZ,_,qu,hL⟩:=h;obtain⟨mx',dg,hm⟩:=hm;have key: ∀j,(Fun.tT th i s' j).ti=(th j).ti:=λj=>by
  unfold Fun.tT;split
  ·rename_i e;rw[e];exact hti
  ·rfl
 refine⟨c0,c1,c2,inv,fy,mx',tb,cap,dg,Lx,rest,ty,nL,?_,?_,?_,?_,hm,λj hj=>?_,hL.fr fr (by simp<;>omega) (by simp<;>omega)⟩
 ·rw[fr.same xp (aq g) (by rw[ho];simp;omega)];exact g
 ·rw[fr.own xp (aq g)];exact ho
 ·rw[fr.same tb (aq gt) (by rw[mZ];simp;omega),key,key,key];exact gt
 ·rw[fr.own tb (aq gt)];exact mZ
 ·unfold Fun.tT;split
  ·rename_i e;subst e;exact ht
  ·rename_i e;exact(qu j hj).fr fr (by simp<;>omega) (by simp<;>omega) (by simp<;>omega) (by simp<;>omega)
theorem WR.GN {th:wR}{L:List iH}{ps:List Int}(h:WR H o xp mp th L)(fr:Fr H o H' o' ps)(hp: ∀z∈ps,z ∉ (-41:Int)::wt):WR H' o' xp mp th L:=by
 obtain⟨c0,c1,c2,inv,fy,mx,tb,cap,cs,Lx,rest,ty,nL,g,ho,gt,mZ,hm,qu,hL⟩:=h;have np: ∀z∈(-41:Int)::wt,z ∉ ps:=λz hz hh=>hp z hh hz
 refine⟨c0,c1,c2,inv,fy,mx,tb,cap,cs,Lx,rest,ty,nL,?_,?_,?_,?_,hm.fr fr (np _ (by simp)) (np _ (by simp)),λj hj=>?_,hL.fr fr (np _ (by simp)) (np _ (by simp))⟩
 ·rw[fr.same xp (aq g) (by rw[ho];exact np _ (by simp))];exact g
 ·rw[fr.own xp (aq g)];exact ho
 ·rw[fr.same tb (aq gt) (by rw[mZ];exact np _ (by simp))];exact gt
 ·rw[fr.own tb (aq gt)];exact mZ
 ·have:j=0∨j=1∨j=2:=by omega
  rcases this with rfl|rfl|rfl
  ·exact(qu 0 hj).fr fr (np _ (by simp)) (np _ (by simp)) (np _ (by simp)) (np _ (by simp))
  ·exact(qu 1 hj).fr fr (np _ (by simp)) (np _ (by simp)) (np _ (by simp)) (np _ (by simp))
  ·exact(qu 2 hj).fr fr (np _ (by simp)) (np _ (by simp)) (np _ (by simp)) (np _ (by simp))
theorem XO {th:wR}{L:List iH}(h:WR H o xp mp th L)(hi:i<3)(hb:(th i).busy=true)(hT:(th i).T.length<1048576):bN (run G) 72 [pv (th i).ti,pv mp] H λv H'=>∃o' r s e T',
  v= .tuple #[c8 r s,.bool e]∧Fr H o H' o' [-200-i, -210-i, -220-i, -70, -71]∧WR H' o' xp mp (tT th i ⟨(th i).ti, !e,(th i).fh,T'⟩) L∧T'.length≤(th i).T.length+1∧ee H' o' (-41) s r.list∧r.list.length≤1048577:=by
 refine Ev.up (t:=λk=>F72 (run G k) k (pv (th i).ti) (pv mp) H) ?_ λk=>abf ..
 obtain⟨H1,iI⟩: ∃z,z=H.new ⟨rc bZ,45,1,false⟩:=⟨_,rfl⟩;have n0:aO H 45 1 [cv 0,.bool false,cv 0,cv 0,cv 0,aB]=(pv H.length,H1):=by rw[iI];rfl
 have f1:Fr H o H1 (o.up H.length (-9)) []:=by rw[iI];exact(Fr.refl H o []).new _ _
 have c1:Cl H.length (rc bZ) 45 H1 (o.up H.length (-9)):=by rw[iI];exact Cl.made
 have h1:=h.GN f1 (by simp)
 obtain⟨ti,et⟩: ∃ti,ti=(th i).ti:=⟨_,rfl⟩;rw[←et];obtain⟨c0',_,_,_,_,mx,_,_,cs,_,_,_,_,_,_,_,_,hm,qu,_⟩:=id h1;obtain⟨dG,k,key,val,steps,no,F,ty,g,mZ,hF⟩:=qu i hi;obtain⟨f,rfl,hf⟩:=hF hb;rw[←et] at g mZ;rw[hb] at g;have L1:au (.pointer (some ⟨ti,1,none⟩)) H1=some (.bool true):=ak ti 1 H1 g;have L6:au (.pointer (some ⟨ti,6,none⟩)) H1=some (cv steps):=ak ti 6 H1 g;have S6:=kF ti 6 (IntKind.i64.wrap (steps+1)) H1 g rfl (by simp)
 simp only[List.set_cons_succ,List.set_cons_zero] at S6;obtain⟨H2,jt⟩: ∃z,z=H1.put ti ⟨[cv dG,.bool true,cv k,cv key,cv val,pv f,cv (IntKind.i64.wrap (steps+1)),.bool (th i).fh,cv no],ty,1,false⟩:=⟨_,rfl⟩;rw[←jt] at S6;have g2:H2.get ti=some ⟨[cv dG,.bool true,cv k,cv key,cv val,pv f,cv (IntKind.i64.wrap (steps+1)),.bool (th i).fh,cv no],ty,1,false⟩:=by rw[jt];exact aH g
 have f2:Fr H1 (o.up H.length (-9)) H2 (o.up H.length (-9)) [-200-i]:=by rw[jt];exact(Fr.refl _ _ _).put λ_=>by simp[mZ]
 have L5:au (.pointer (some ⟨ti,5,none⟩)) H2=some (pv f):=ak ti 5 H2 g2;have hf2:=hf.fr f2 (by simp<;>omega) (by simp<;>omega) (by simp<;>omega)
 have GI:=hm.fr f2 (by simp<;>omega) (by simp<;>omega)
 simp -implicitDefEqProofs only[F72,n0,L1,L6,S6,L5,sS,Nat.reduceAdd];refine Ev.call (XL hf2 GI hT (ftI i)) ?_;rintro v H3 ⟨o3,T',dg,d,rfl,f3,hf3,hT3,QK⟩;have f13:Fr H1 (o.up H.length (-9)) H3 o3 [-200-i, -210-i, -220-i, -70, -71]:=f2.trans f3 (by simp) (by simp)
 have c3:Cl H.length (rc bZ) 45 H3 o3:=c1.fr f13 (by simp<;>omega)
 have yl:(o.up H.length (-9)) ti= -200-i:=mZ;have g3:H3.get ti=some ⟨[cv dG,.bool true,cv k,cv key,cv val,pv f,cv (IntKind.i64.wrap (steps+1)),.bool (th i).fh,cv no],ty,1,false⟩:=by rw[f3.same ti (aq g2) (by rw[yl];simp;omega)];exact g2
 have ho3:o3 ti= -200-i:=by rw[f3.own ti (aq g2)];exact yl
 have eC:ti≠H.length:=by
  rintro rfl;have:=c1.2
  omega
 cases d<;>simp -implicitDefEqProofs only[sS,Nat.reduceAdd]
 ·have A:=tK H.length bZ (s:=aB) rfl H3 c3.1 rfl;obtain⟨H4,qt⟩: ∃z,z=H3.put H.length ⟨rc bZ,45,1,false⟩:=⟨_,rfl⟩;have e4:(⟨[cv bZ.pH,.bool bZ.found,cv bZ.key,cv bZ.value,cv bZ.n,aB],45,1,false⟩:eY)=⟨rc bZ,45,1,false⟩:=rfl;rw[e4, ←qt] at A;have c4:Cl H.length (rc bZ) 45 H4 o3:=by rw[qt];exact c3.self
  have Lr:=jR H.length bZ (s:=aB) H4 c4.1;have f4:Fr H3 o3 H4 o3 [-9]:=by rw[qt];exact(Fr.refl _ _ _).put λ_=>by simp[c3.2]
  simp -implicitDefEqProofs only[yc,A,Lr,sS,Nat.reduceAdd];have g4:H4.get ti=some ⟨[cv dG,.bool true,cv k,cv key,cv val,pv f,cv (IntKind.i64.wrap (steps+1)),.bool (th i).fh,cv no],ty,1,false⟩:=by rw[qt,bt eC];exact g3
  have ht3:YL H3 o3 i ⟨(th i).ti,true,(th i).fh,T'⟩:=⟨dG,k,key,val,_,no,pv f,ty,by rw[←et];exact g3,by rw[←et];exact ho3,λ_=>⟨f,rfl,hf3⟩⟩
  have hw3:=h1.PX hi f13 ht3 rfl ⟨mx,dg,QK⟩;have hw4:=hw3.GN f4 (by simp)
  refine Ev.ret ⟨o3,bZ,aB,false,T',rfl,?_,by rw[et];exact hw4,hT3,.nil,by simp[bZ]⟩
  have fA:=(f1.trans f13 (rs:=[-200-i, -210-i, -220-i, -70, -71]) (by simp) (λ_ h=>h))
  refine⟨λj hj hn=>?_,λj hj=>fA.own j hj,by have:=fA.size;have:=f4.size;show H.length≤H4.length;omega⟩
  show H4[j]? =_
  rw[qt,cU (by omega)];exact fA.slot j hj hn
 ·have S1:=jA ti 1 (.bool false) H3 g3 rfl (by simp) rfl rfl rfl
  simp only[List.set_cons_succ,List.set_cons_zero] at S1;obtain⟨H4,qt⟩: ∃z,z=H3.put ti ⟨[cv dG,.bool false,cv k,cv key,cv val,pv f,cv (IntKind.i64.wrap (steps+1)),.bool (th i).fh,cv no],ty,1,false⟩:=⟨_,rfl⟩;rw[←qt] at S1;have g4:H4.get ti=some ⟨[cv dG,.bool false,cv k,cv key,cv val,pv f,cv (IntKind.i64.wrap (steps+1)),.bool (th i).fh,cv no],ty,1,false⟩:=by rw[qt];exact aH g3
  have f4:Fr H3 o3 H4 o3 [-200-i]:=by rw[qt];exact(Fr.refl _ _ _).put λ_=>by simp[ho3]
  have L5':au (.pointer (some ⟨ti,5,none⟩)) H4=some (pv f):=ak ti 5 H4 g4;have hf4:=hf3.fr f4 (by simp<;>omega) (by simp<;>omega) (by simp<;>omega)
  have YJ:=QK.fr f4 (by simp<;>omega) (by simp<;>omega)
  obtain⟨afB,ahI,op',afC,TX,r',s',ahJ,afD,gf,hof,hs',EK,nP,hll⟩:=id hf4;obtain⟨sa,sc,es⟩:=nP.isSlice;have L31:bV 6 (.pointer (some ⟨f,31,none⟩)) H4=some (c8 r' s'):=by simp[bV,aA,gf]
  have c4:Cl H.length (rc bZ) 45 H4 o3:=c3.fr f4 (by simp<;>omega)
  have A:=tK H.length r' es H4 c4.1 rfl;obtain⟨H5,wQ⟩: ∃z,z=H4.put H.length ⟨PW r' s',45,1,false⟩:=⟨_,rfl⟩;have e5:(⟨[cv r'.pH,.bool r'.found,cv r'.key,cv r'.value,cv r'.n,s'],45,1,false⟩:eY)=⟨PW r' s',45,1,false⟩:=rfl;rw[e5, ←wQ] at A;have g5:H5.get H.length=some ⟨PW r' s',45,1,false⟩:=by rw[wQ];exact aH c4.1
  have Lr:=jR H.length r' (s:=s') H5 g5;have f5:Fr H4 o3 H5 o3 [-9]:=by rw[wQ];exact(Fr.refl _ _ _).put λ_=>by simp[c4.2]
  simp -implicitDefEqProofs only[S1,L5',L31,A,Lr,sS,Nat.reduceAdd];have f14:Fr H1 (o.up H.length (-9)) H4 o3 [-200-i, -210-i, -220-i, -70, -71]:=f13.trans f4 (λ_ h=>h) (by simp)
  have ht4:YL H4 o3 i ⟨(th i).ti,false,(th i).fh,T'⟩:=⟨dG,k,key,val,_,no,pv f,ty,by rw[←et];exact g4,by rw[←et];exact ho3,λhh=>by simp at hh⟩
  have hw4:=h1.PX hi f14 ht4 rfl ⟨mx,dg,YJ⟩;have hw5:=hw4.GN f5 (by simp)
  refine Ev.ret ⟨o3,r',s',true,T',rfl,?_,by rw[et];exact hw5,hT3,nP.fr f5 (by simp),hll⟩
  have fA:=(f1.trans f14 (rs:=[-200-i, -210-i, -220-i, -70, -71]) (by simp) (λ_ h=>h))
  refine⟨λj hj hn=>?_,λj hj=>fA.own j hj,by have:=fA.size;have:=f5.size;show H.length≤H5.length;omega⟩
  show H5[j]? =_
  rw[wQ,cU (by omega)];exact fA.slot j hj hn
end
section
variable {G:ag} {H H':ae} {o o':an} {p m c mp f xp:Nat} {q:Int} {x:Value} {l:PL} {n i:Nat} {cs:List Int} {mx:Int} {T:List Int} {th:wR} {L:List iH} {N M:Nat}
theorem TZ (e:iH){s:Value}{a:Option Addr}{m c:Nat}(es:s= .slice a m c)(H:ae):aw Tryz.prog 23 1 [(0,yT e s)] H=some (.slice (some ⟨H.length,0,none⟩) 1 1,H.new ⟨aT e s,47,13,false⟩):=by subst es;kernel_rfl
theorem adi (t no pick:Int):aI Tryz.prog 47 [(0,cv 2),(1,cv t),(2,cv no),(5,cv pick)]=some (yT ⟨2,t,no,⟨0,0,0⟩,bZ,pick⟩ aB):=by kernel_rfl
theorem afE (t no pick:Int)(op:jZ):aI Tryz.prog 47 [(0,cv 1),(1,cv t),(2,cv no),(3,iG op),(5,cv pick)]=some (yT ⟨1,t,no,op,bZ,pick⟩ aB):=by kernel_rfl
theorem afF (t no pick:Int)(r:dF){s:Value}{a:Option Addr}{m c:Nat}(es:s= .slice a m c):aI Tryz.prog 47 [(0,cv 3),(1,cv t),(2,cv no),(4,c8 r s),(5,cv pick)]=some (yT ⟨3,t,no,⟨0,0,0⟩,r,pick⟩ s):=by subst es;kernel_rfl
structure Inv (th:wR) (L:List iH) (N M:Nat):Prop where
 len:L.length+xE (th 0)+xE (th 1)+xE (th 2)≤N
 lists: ∀e∈L,e.res.list.length≤1048577
 tape: ∀i,i<3→(th i).T.length≤M
theorem Gz {s:YK}{d:Nat}(hi:i<3)(h:xE s+d≤xE (th i)):xE (tT th i s 0)+xE (tT th i s 1)+xE (tT th i s 2)+d≤xE (th 0)+xE (th 1)+xE (th 2):=by
 have:i=0∨i=1∨i=2:=by omega
 rcases this with rfl|rfl|rfl<;>simp[tT]<;>omega
theorem adj {s:YK}{d:Nat}(hi:i<3)(h:xE s≤xE (th i)+d):xE (tT th i s 0)+xE (tT th i s 1)+xE (tT th i s 2)≤xE (th 0)+xE (th 1)+xE (th 2)+d:=by
 have:i=0∨i=1∨i=2:=by omega
 rcases this with rfl|rfl|rfl<;>simp[tT]<;>omega
theorem WR.ql (h:WR H o xp mp th L): ∃(tb cap:Nat) (inv fy:Int),au (.pointer (some ⟨xp,3,none⟩)) H=some (pv mp)∧au (.pointer (some ⟨xp,4,none⟩)) H=some (.slice (some ⟨tb,0,none⟩) 3 cap)∧au (.pointer (some ⟨xp,6,none⟩)) H=some (cv inv)∧au (.pointer (some ⟨xp,7,none⟩)) H=some (cv fy)∧
  (∀i:Nat,i<3→(∀H',bP 1 (.slice (some ⟨tb,0,none⟩) 3 cap) (cv i) H'=some (.pointer (some ⟨tb,i,none⟩),H'))∧au (.pointer (some ⟨tb,i,none⟩)) H=some (pv (th i).ti))∧xp<H.length∧o xp= -80∧tb<H.length∧o tb= -81:=by
 obtain⟨c0,c1,c2,inv,fy,mx,tb,cap,cs,Lx,rest,ty,nL,g,ho,gt,mZ,hm,qu,hL⟩:=h;refine⟨tb,cap,inv,fy,ak xp 3 _ g,ak xp 4 _ g,ak xp 6 _ g,ak xp 7 _ g,λi hi=>⟨λH'=>?_,?_⟩,aq g,ho,aq gt,mZ⟩
 ·simp only[bP];rw[if_pos (by constructor<;>omega)];simp
 ·rw[ak tb i _ gt];have:i=0∨i=1∨i=2:=by omega
  rcases this with rfl|rfl|rfl<;>rfl
theorem WR.thr (h:WR H o xp mp th L)(hi:i<3): ∃no:Int,au (.pointer (some ⟨(th i).ti,1,none⟩)) H=some (.bool (th i).busy)∧au (.pointer (some ⟨(th i).ti,7,none⟩)) H=some (.bool (th i).fh)∧au (.pointer (some ⟨(th i).ti,8,none⟩)) H=some (cv no):=by
 obtain⟨c0,c1,c2,inv,fy,mx,tb,cap,cs,Lx,rest,ty,nL,g,ho,gt,mZ,hm,qu,hL⟩:=h;obtain⟨dG,k,key,val,steps,no,F,ty,g,mZ,hF⟩:=qu i hi;exact⟨no,ak _ 1 _ g,ak _ 7 _ g,ak _ 8 _ g⟩
theorem WR.fh (h:WR H o xp mp th L)(hi:i<3)(b:Bool): ∃H1,bS 1 (.pointer (some ⟨(th i).ti,7,none⟩)) (.bool b) H=some (undef,H1)∧WR H1 o xp mp (tT th i ⟨(th i).ti,(th i).busy,b,(th i).T⟩) L∧Fr H o H1 o [-200-i]:=by
 obtain⟨c0,c1,c2,inv,fy,mx,tb,cap,cs,Lx,rest,ty,nL,g,ho,gt,mZ,hm,qu,hL⟩:=id h;obtain⟨dG,k,key,val,steps,no,F,ty,g,mZ,hF⟩:=qu i hi;have S:=jA (th i).ti 7 (.bool b) H g rfl (by simp) rfl rfl rfl
 simp only[List.set_cons_succ,List.set_cons_zero] at S;have f:Fr H o (H.put (th i).ti ⟨[cv dG,.bool (th i).busy,cv k,cv key,cv val,F,cv steps,.bool b,cv no],ty,1,false⟩) o [-200-i]:=(Fr.refl _ _ _).put λ_=>by simp[mZ]
 refine⟨_,S,h.PX hi (f.wk (by simp)) ⟨dG,k,key,val,steps,no,F,ty,aH g,mZ,λhb=>?_⟩ rfl ⟨mx,cs,hm.fr f (by simp<;>omega) (by simp<;>omega)⟩,f⟩
 obtain⟨f',e,hf⟩:=hF hb;exact⟨f',e,hf.fr f (by simp<;>omega) (by simp<;>omega) (by simp<;>omega)⟩
theorem WR.app (h:WR H o xp mp th L)(e:iH){s:Value}(hs:ee H o (-41) s e.res.list)(hl:L.length<4000000): ∃Lx,au (.pointer (some ⟨xp,5,none⟩)) H=some Lx∧au (.pointer (some ⟨xp,5,none⟩)) (H.new ⟨aT e s,47,13,false⟩)=some Lx∧jd Lx Lx=true∧∃x' H1 H2 o2,
  cd 47 13 120 Lx (.slice (some ⟨H.length,0,none⟩) 1 1) (H.new ⟨aT e s,47,13,false⟩)=some (x',H1)∧bS 1 (.pointer (some ⟨xp,5,none⟩)) x' H1=some (undef,H2)∧WR H2 o2 xp mp th (L++[e])∧Fr H o H2 o2 [-82, -80]:=by
 obtain⟨c0,c1,c2,inv,fy,mx,tb,cap,cs,Lx,rest,ty,nL,g,ho,gt,mZ,hm,qu,hL⟩:=h;obtain⟨H1,e1⟩: ∃z,z=H.new ⟨aT e s,47,13,false⟩:=⟨_,rfl⟩;have f1:Fr H o H1 (o.up H.length (-9)) []:=by rw[e1];exact(Fr.refl H o []).new _ _
 have g1:H1.get H.length=some ⟨aT e s,47,13,false⟩:=by rw[e1];exact az
 have YM:H1.get xp=some ⟨[cv c0,cv c1,cv c2,pv mp,.slice (some ⟨tb,0,none⟩) 3 cap,Lx,cv inv,cv fy],ty,1,false⟩:=by rw[f1.same xp (aq g) (by simp)];exact g
 have afG:(o.up H.length (-9)) xp= -80:=by rw[f1.own xp (aq g)];exact ho
 obtain⟨x',H2,o2,a2,lg,f2⟩:=(hL.fr f1 (by simp) (by simp)).app (tE:=47) g1 (hs.fr f1 (by simp)) (by simp) (by omega)
 have gx2:H2.get xp=some ⟨[cv c0,cv c1,cv c2,pv mp,.slice (some ⟨tb,0,none⟩) 3 cap,Lx,cv inv,cv fy],ty,1,false⟩:=by rw[f2.same xp (aq YM) (by rw[afG];simp)];exact YM
 have afH:o2 xp= -80:=by rw[f2.own xp (aq YM)];exact afG
 have hxs: ∃a n c,x'= .slice a n c:=by
  rcases lg with⟨e,_⟩|⟨_,_,_,_,_,e,_⟩
  ·exact⟨_,_,_,e⟩
  ·exact⟨_,_,_,e⟩
 obtain⟨xa,xn,xc,ex⟩:=hxs;have S:=zO xp 5 xa xn xc H2 gx2 rfl (by simp)
 rw[←ex] at S;simp only[List.set_cons_succ,List.set_cons_zero] at S;obtain⟨H3,e3⟩: ∃z,z=H2.put xp ⟨[cv c0,cv c1,cv c2,pv mp,.slice (some ⟨tb,0,none⟩) 3 cap,x',cv inv,cv fy],ty,1,false⟩:=⟨_,rfl⟩;rw[←e3] at S;have f3:Fr H2 o2 H3 o2 [-80]:=by rw[e3];exact(Fr.refl _ _ _).put λ_=>by simp[afH]
 have fA:Fr H o H3 o2 [-82, -80]:=(f1.trans f2 (rs:=[-82, -80]) (by simp) (by simp)).trans f3 (by simp) (by simp)
 have DC:jd Lx Lx=true:=by
  rcases hL with⟨e,_⟩|⟨_,_,_,_,_,e,_⟩
  ·rw[e];exact jX ..
  ·rw[e];exact jX ..
 rw[←e1];refine⟨Lx,ak xp 5 _ g,ak xp 5 _ YM,DC,x',H2,H3,o2,a2,S,⟨c0,c1,c2,inv,fy,mx,tb,cap,cs,x',rest,ty,nL,by rw[e3];exact aH gx2,afH,?_,?_,hm.fr fA (by simp) (by simp),λj hj=>?_,lg.fr f3 (by simp) (by simp)⟩,fA⟩
 ·rw[fA.same tb (aq gt) (by rw[mZ];simp)];exact gt
 ·rw[fA.own tb (aq gt)];exact mZ
 ·exact(qu j hj).fr fA (by simp<;>omega) (by simp<;>omega) (by simp<;>omega) (by simp)
theorem T0 (h:WR H o xp mp th L)(hi:i<3):bN (run G) 99 [pv (th i).ti] H (Cb H):=by
 refine Ev.up (t:=λk=>F99 (run G k) k (pv (th i).ti) H) ?_ λk=>abk ..
 obtain⟨c0,c1,c2,inv,fy,mx,tb,cap,cs,Lx,rest,ty,nL,g,ho,gt,mZ,hm,qu,hL⟩:=h;obtain⟨dG,k,key,val,steps,no,F,ty,g,mZ,hF⟩:=qu i hi;have L1:au (.pointer (some ⟨(th i).ti,1,none⟩)) H=some (.bool (th i).busy):=ak _ 1 _ g;have L5:au (.pointer (some ⟨(th i).ti,5,none⟩)) H=some F:=ak _ 5 _ g;simp -implicitDefEqProofs only[F99,L1,sS,Nat.reduceAdd];cases hb:(th i).busy<;>simp -implicitDefEqProofs only[L5,sS,Nat.reduceAdd]
 ·exact Ev.ret ⟨⟨_,rfl⟩,rfl⟩
 ·obtain⟨f,rfl,hf⟩:=hF hb;obtain⟨proc,dG,op,tape,done,r,s,rec,laid,g,_⟩:=hf;have L38:au (.pointer (some ⟨f,38,none⟩)) H=some (cv laid):=ak f 38 _ g;simp -implicitDefEqProofs only[L38,sS,Nat.reduceAdd];exact Ev.ret ⟨⟨_,rfl⟩,rfl⟩
theorem afI (h:WR H o xp mp th L)(a:Int):bN (run G) 93 [pv mp,cv a] H (Cb H):=by
 obtain⟨c0,c1,c2,inv,fy,mx,tb,cap,cs,Lx,rest,ty,nL,g,ho,gt,mZ,hm,qu,hL⟩:=h;exact afv (K:=λ_ _=>True) (mx:=mx) (cs:=cs) ⟨cW.true,o,hm,trivial⟩ a
theorem Na (hi:i<3): ∀z∈([-200-i]:List Int),z∈wt:=λz hz=>M9 hi z (by simp at hz;simp[hz])
theorem XP (h:WR H o xp mp th L)(hI:Inv th L N M)(hN:N<4000000):bN (run G) 73 [pv xp] H λv H'=>∃o' sE L',Fr H o H' o' wt∧WR H' o' xp mp sE L'∧Inv sE L' N M∧∀j,(sE j).ti=(th j).ti∧(sE j).busy=(th j).busy:=by
 refine Ev.up (t:=λk=>F73 (run G k) k (pv xp) H) ?_ λk=>abz ..
 simp -implicitDefEqProofs only[F73,sS,Nat.reduceAdd];refine Ev.loop (k:=3) (λk vs Hx=>∃(j:Nat) (o1:an) (nf:wR) (L1:List iH) (aK x3 dC:Value),j+k=3∧vs=[pv xp,cv j,aK,x3,dC]∧Fr H o Hx o1 wt∧WR Hx o1 xp mp nf L1∧Inv nf L1 N M∧∀j,(nf j).ti=(th j).ti∧(nf j).busy=(th j).busy)
  (λr=>r.1= .exit 0∧∃(o1:an) (nf:wR) (L1:List iH),Fr H o r.2.2 o1 wt∧WR r.2.2 o1 xp mp nf L1∧Inv nf L1 N M∧∀j,(nf j).ti=(th j).ti∧(nf j).busy=(th j).busy)
  ⟨0,o,th,L,_,_,_,rfl,rfl,Fr.refl _ _ _,h,hI,λj=>⟨rfl,rfl⟩⟩ ?_ ?_
 ·rintro k vs Hx ⟨j,o1,nf,L1,aK,x3,dC,Ek,rfl,nN,hw,IN,qK⟩;obtain⟨tb,cap,inv,fy,e3,e4,e6,e7,eT,_⟩:=hw.ql;have GH:IntKind.i64.wrap ((j:Int)+1)=((j+1:Nat):Int):=by rw[jE (by omega)];omega
  simp -implicitDefEqProofs only[Su,F0,e4,cq,sS,Nat.reduceAdd];refine Ev.lss (λhq=>?_) (λhq=>?_)<;>try simp -implicitDefEqProofs only[e4,sS,Nat.reduceAdd]
  ·have lu:j<3:=by omega
   obtain⟨eT1,eT2⟩:=eT j lu;obtain⟨no,b1,b7,b8⟩:=hw.thr lu;have mf: ∀(aK x3 dC:Value) {H2:ae} {o2:an} {PY:wR} {L2:List iH},Fr H o H2 o2 wt→WR H2 o2 xp mp PY L2→Inv PY L2 N M→(∀j,(PY j).ti=(th j).ti∧(PY j).busy=(th j).busy)→Ev (λn=>FZ (run G n) n [pv xp,cv j,aK,x3,dC] H2) λr=>(r.1= .normal∧∃k',k'<k∧∃(j:Nat) (o1:an) (nf:wR) (L1:List iH) (aK x3 dC:Value),j+k'=3∧r.2.1=[pv xp,cv j,aK,x3,dC]∧Fr H o r.2.2 o1 wt∧WR r.2.2 o1 xp mp nf L1∧Inv nf L1 N M∧∀j,(nf j).ti=(th j).ti∧(nf j).busy=(th j).busy)∨(r.1≠ .normal∧r.1= .exit 0∧∃(o1:an) (nf:wR) (L1:List iH),Fr H o r.2.2 o1 wt∧WR r.2.2 o1 xp mp nf L1∧Inv nf L1 N M∧∀j,(nf j).ti=(th j).ti∧(nf j).busy=(th j).busy):=by
    intro aK x3 dC H2 o2 PY L2 a1 a2 a3 a4;simp -implicitDefEqProofs only[Ss,FY,GH,sS,Nat.reduceAdd];exact Ev.ret (.inl ⟨rfl,k-1,by omega,j+1,o2,PY,L2,_,_,_,by omega,rfl,a1,a2,a3,a4⟩)
   simp -implicitDefEqProofs only[eT1,eT2,b1,sS,Nat.reduceAdd];cases hb:(nf j).busy<;>simp -implicitDefEqProofs only[b7,sS,Nat.reduceAdd]
   ·exact mf _ _ _ nN hw IN qK
   cases ht:(nf j).fh<;>simp -implicitDefEqProofs only[sS,Nat.reduceAdd]
   ·refine Ev.aG (T0 hw lu) λzl=>?_
    try simp -implicitDefEqProofs only[sS,Nat.reduceAdd]
    refine Ev.gtr (λhq=>?_) (λhq=>?_)<;>try simp -implicitDefEqProofs only[e3,sS,Nat.reduceAdd]
    ·refine Ev.aG (T0 hw lu) λzl=>?_
     try simp -implicitDefEqProofs only[sS,Nat.reduceAdd]
     refine Ev.aG (afI hw _) λza=>?_
     try simp -implicitDefEqProofs only[e3,qN,sS,Nat.reduceAdd]
     refine Ev.eql (λhq=>?_) (λhq=>?_)<;>try simp -implicitDefEqProofs only[e3,qN,sS,Nat.reduceAdd]
     ·obtain⟨H2,S7,uH,f2⟩:=hw.fh lu true;obtain⟨YN,dY,aim,T3,k3,k4,k6,k7,kT,_⟩:=uH.ql;obtain⟨no',d1,d7,d8⟩:=uH.thr lu;have ed:(tT nf j ⟨(nf j).ti,(nf j).busy,true,(nf j).T⟩ j).ti=(nf j).ti:=by simp[tT]
      rw[ed] at d8;have hlen:=IN.len;obtain⟨Lx,c1,c2,c3,x',H3,H4,o4,c4,c5,hw4,f4⟩:=uH.app ⟨2,j,no',⟨0,0,0⟩,bZ,T3⟩ (s:=aB) .nil (by omega)
      simp -implicitDefEqProofs only[S7,c1,d8,k7,adi,TZ _ rfl,c2,c4,c5,c3,sS,Nat.reduceAdd];refine mf _ _ _ ((nN.trans f2 (rs:=wt) (λ_ h=>h) (Na lu)).trans f4 (λ_ h=>h) (by simp)) hw4 ⟨?_,?_,?_⟩ ?_
      ·have hp:=Gz (th:=nf) (s:=⟨(nf j).ti,(nf j).busy,true,(nf j).T⟩) (d:=1) lu (by simp[xE,hb,ht])
       simp only[List.length_append,List.length_singleton];omega
      ·intro e he;rcases List.mem_append.1 he with he|he
       ·exact IN.lists e he
       ·have:e=⟨2,j,no',⟨0,0,0⟩,bZ,T3⟩:=by simpa using he
        subst this;simp[bZ]
      ·intro i hi;have:=IN.tape i hi
       unfold tT;split
       ·rename_i e;subst e;exact this
       ·exact this
      ·intro i;have:=qK i
       unfold tT;split
       ·rename_i e;subst e;exact this
       ·exact this
     ·exact mf _ _ _ nN hw IN qK
    ·exact mf _ _ _ nN hw IN qK
   ·exact mf _ _ _ nN hw IN qK
  ·exact Ev.ret (.inr ⟨by simp,rfl,o1,nf,L1,nN,hw,IN,qK⟩)
 ·rintro e vs Hx ⟨he,o1,nf,L1,a1,a2,a3,a4⟩;simp only at he;subst he;show Ev (λ_=>some (Value.tuple #[],Hx)) _
  exact Ev.ret ⟨o1,nf,L1,a1,a2,a3,a4⟩
end
end Go.Proofs.YtjgmnoaalbbonaaGreat.Fun
end
