/- Texts of the proof of helpLogic_holds, put together by a small program of ours (names shortened, spaces taken out). No condition beyond the given statement. -/
import Derived.Test.YtgfgglponbmgmaaGreatHLG12
import Derived.Test.YtgfgglponbmgmaaGreatHLG16
import Derived.Test.YtgfgglponbmgmaaGreatHLG10
import Derived.Test.YtgfgglponbmgmaaGreatHLG32
import Derived.Test.YtgfgglponbmgmaaGreatHLG11
import Derived.Test.YtgfgglponbmgmaaGreatHLG17
import Derived.Test.YtgfgglponbmgmaaGreatHLG27
set_option linter.unusedVariables false
set_option linter.unusedSimpArgs false
set_option linter.unnecessarySimpa false
noncomputable section
section
namespace Go.Proofs.YtgfgglponbmgmaaGreat.Fun
open Go Go.RowKit Go.Proofs.YtgfgglponbmgmaaGreatA.Am
set_option maxRecDepth 10000
section
open Go.Proofs.YtgfgglponbmgmaaGreatA
variable {G:ae} {H H':aa} {o o':aj} {p m c mp f n i:Nat} {K K':aa→aj→Prop} {tf tg q:Int} {x:Value} {l:PL} {cs:List Value} {proc a b' pp qq rec laid:Int} {op:jY} {tape s0:Value} {done:Bool} {r0:g9} {T:List Int} {mm:Y.Mm} {pr:Pr}
def C2 (T:List Int):Y.St:=⟨T,false,.rd 0,0,0⟩
def zV (pr:Pr)(proc a b p q:Int)(op:jY):Prop:=
 match pr with
 | .rd=>proc=25∧a=0∧p=0∧q=0
 | .ex t=>(proc=24∧(1≤op.kind∧op.kind≤3)∧t=Sh op)∨AZ t proc a b p q
def Si (H:aa)(o:aj)(p:Nat)(A:Bool→Int→Int→Int→Int→List Int→Int→Prop):Prop:=
 ∃(tape w:Value) (W:List Int) (b:Bool) (i:Nat) (nk na nx ny oL laid:Int) (ty:TypeId),
  H.get p=some ⟨[tape,cv i,.bool b,cv nk,cv na,cv nx,cv ny,w,cv oL,cv laid],ty,1,false⟩∧dV H o (-51) w W∧A b nk na nx ny W oL
def prA (pr:Pr)(T:List Int)(b:Bool)(nk na nx ny:Int)(W:List Int)(oL:Int):Prop:=
 match pr with
 | .rd=>nk=0∨nk=1
 | .ex t=>b=(Y.ah t (C2 T)).2.off∧oL=(Y.ah t (C2 T)).2.oL∧(b=true→Ii (Y.ah t (C2 T)).2.next nk na nx ny W)
def prO (pr:Pr)(T:List Int)(r:g9):Prop:=
 match pr with
 | .rd=>r.word=0∧r.num=0
 | .ex t=>r=(Y.ah t (C2 T)).1
abbrev Iz (pr:Pr)(T:List Int)(H:aa)(b:aj)(p:Nat):Value→aa→Prop:=λv H'=>∃r s o',v= .agg (oc r s).toArray∧Si H' o' p (prA pr T)∧Fr H b H' o' [(p:Int)]∧gN H' o' (-41) s r.res.list∧r.res.list.length≤1048577∧prO pr T r
theorem yK.acL {t:Y.Tr g9}(h:yK H o p (Y.ah t (C2 T)).2):Si H o p (prA (.ex t) T):=by
 obtain⟨tape,w,T',W,i,nk,na,nx,ny,ty,g,ho,ht,hT,hw,hi,_,hn⟩:=h;exact⟨tape,w,W,_,i,nk,na,nx,ny,_,_,ty,g,hw,rfl,rfl,hn⟩
theorem IA {t:Y.Tr g9}{b:aj}{C:Nat→ae}{fn:Nat}{args:List Value}(h:aE C fn args H λv H'=>v= .agg (oc (Y.ah t (C2 T)).1 aA).toArray∧JX (KB0 H b p) p (Y.ah t (C2 T)).2 H')(hl:(Y.ah t (C2 T)).1.res.list=[]):aE C fn args H (Iz (.ex t) T H b p):=by
 refine h.mono ?_;rintro v H' ⟨rfl,_,o',hr,hf⟩;exact⟨_,aA,o',rfl,hr.acL,hf,by rw[hl];exact .nil,by rw[hl];simp,rfl⟩
theorem O0 (op:jY)(st:Y.St):(Y.ah (Sh op) st).1.res.list=[]:=by unfold Sh;rw[Y.ak];rfl
section
variable {b:aj} (gp:H.get p=some ⟨[tape,cv 0,.bool false,cv 0,cv 0,cv 0,cv 0,aA,cv 0,cv 0],114,1,false⟩) (hop:b p=p) (ht:dV H b (-50) tape T) (hT:T.length≤1048576) (hf:H.get f=some ⟨fc proc a b' pp qq op tape done r0 s0 rec laid,51,1,false⟩) (Gf:b f≠p)
include gp hop ht hT
theorem IB:yK H b p (C2 T):=⟨tape,aA,T,[],0,0,0,0,0,114,gp,hop,ht,hT,.nil,by omega,rfl,λh=>by cases h⟩
theorem Sj:R.zT H b p (T.length+1):=⟨tape,aA,T,[],0,0,0,0,0,0,0,114,by rw[gp];simp,hop,ht,hT,.nil,λ_=>by omega,.inl rfl⟩
include hf Gf
theorem Xz (hp:zV pr proc a b' pp qq op)(h24:24≤proc)(h0:pr= .rd→r0.word=0∧r0.num=0):aE (run G) 97 [pv f,pv p] H (Iz pr T H b p):=by
 cases pr with
 |rd=>
  obtain⟨rfl,rfl,rfl,rfl⟩:=hp;obtain⟨h1,h2⟩:=h0 rfl;obtain⟨w0,n0,r00⟩:=r0;simp only at h1 h2;subst h1 h2;refine(R.Xt (Sj gp hop ht hT) (by omega) (T:=51) (f:=f) (bud:=b') (op:=op) (r0:=r00) hf Gf rfl).mono ?_
  rintro v H' ⟨r,s,m',rfl,hl,_,o',hr,kO,uV⟩;obtain⟨O1,w,T',W,i,nk,na,nx,ny,sv,O2,ty,g,ho,ht',hT',hw,hi,hnk⟩:=hr;exact⟨⟨0,0,r⟩,s,o',rfl,⟨O1,w,W,_,i,nk,na,nx,ny,sv,O2,ty,g,hw,hnk⟩,kO,uV,by show r.list.length≤_;omega,rfl,rfl⟩
 |ex t=>
  rcases hp with⟨rfl,hk,rfl⟩|hp
  ·exact IA (Xx (IB gp hop ht hT) (by show T.length+1≤1048577;omega) hf Gf hk) (O0 _ _)
  ·have:=hp.proc;omega
theorem aaw (hp:zV pr proc a b' pp qq op)(h16:proc≤16):aE (run G) 95 [pv f,pv p] H (Iz pr T H b p):=by
 cases pr with
 |rd=>obtain⟨rfl,_⟩:=hp;omega
 |ex t=>
  rcases hp with⟨rfl,hk,rfl⟩|hp
  ·omega
  ·exact IA (aav (IB gp hop ht hT) (by show T.length+1≤1048577;omega) hf Gf hp) (hp.list _)
end
theorem aax (b:Option Addr)(n c:Nat):aF Tryz.prog 114 [(0,.slice b n c)]=some (.agg #[.slice b n c,cv 0,.bool false,cv 0,cv 0,cv 0,cv 0,aA,cv 0,cv 0]):=by kernel_rfl
theorem XA (b:Option Addr)(n c:Nat)(H:aa):dH 114 (.agg #[.slice b n c,cv 0,.bool false,cv 0,cv 0,cv 0,cv 0,aA,cv 0,cv 0]) H=some (pv H.length,H.new ⟨[.slice b n c,cv 0,.bool false,cv 0,cv 0,cv 0,cv 0,aA,cv 0,cv 0],114,1,false⟩):=by
 simp[dH,Value.cells,aD,aS]
theorem zV.num (hp:zV pr proc a b' pp qq op):(11≤proc∧proc≤16)∨proc=24∨proc=25:=by
 cases pr with
 |rd=>exact .inr (.inr hp.1)
 |ex t=>
  rcases hp with h|h
  ·exact .inr (.inl h.1)
  ·exact .inl h.proc
theorem O3 (hf:H.get f=some ⟨fc proc a b' pp qq op tape done r0 s0 rec laid,51,1,false⟩)(ht:dV H o tg tape T)(hT:T.length≤1048576)(hp:zV pr proc a b' pp qq op)(h0:pr= .rd→r0.word=0∧r0.num=0):
  aE (run G) 70 [pv f] H λv H'=>∃p r s o',v= .tuple #[pv p,.agg (oc r s).toArray]∧Ext H H'∧H.length≤p∧Si H' o' p (prA pr T)∧gN H' o' (-41) s r.res.list∧r.res.list.length≤1048577∧prO pr T r∧∀i,i<H.length→o' i≠ -41∧o' i≠ -51:=by
 refine Ev.up (t:=λk=>F70 (run G k) k (pv f) H) ?_ λk=>Wk ..
 classical
 let o1:aj:=λi=>if ∃a n c,tape= .slice (some a) n c∧a.block=i then -50 else -9
 have o1v: ∀i,o1 i= -50∨o1 i= -9:=λi=>by
  show(if ∃a n c,tape= .slice (some a) n c∧a.block=i then(-50:Int) else -9)= -50∨(if ∃a n c,tape= .slice (some a) n c∧a.block=i then(-50:Int) else -9)= -9
  split
  ·exact .inl rfl
  ·exact .inr rfl
 have PN:dV H o1 (-50) tape T:=⟨ht.1,λb n c e dy=>⟨(ht.2 b n c e dy).1,if_pos ⟨b,n,c,e,rfl⟩⟩⟩
 obtain⟨ta,tc,et⟩:=ht.1.isSlice;have EG:=ar hf;obtain⟨H1,fV⟩: ∃z,z=H.new ⟨oc gF aA,49,1,false⟩:=⟨_,rfl⟩;have l1:H1.length=H.length+1:=by rw[fV,cA]
 have g1:H1.get H.length=some ⟨oc gF aA,49,1,false⟩:=by rw[fV];exact aL
 obtain⟨p,ep⟩: ∃p,p=H1.length:=⟨_,rfl⟩;obtain⟨H2,im⟩: ∃z,z=H1.new ⟨[tape,cv 0,.bool false,cv 0,cv 0,cv 0,cv 0,aA,cv 0,cv 0],114,1,false⟩:=⟨_,rfl⟩;have l2:H2.length=H.length+2:=by rw[im,cA,l1]
 obtain⟨o2,eo2⟩: ∃z,z=(o1.up H.length (-9)).up p p:=⟨_,rfl⟩;have f1:Fr H o1 H1 (o1.up H.length (-9)) []:=by rw[fV];exact(Fr.refl H o1 []).new _ _
 have f2:Fr H o1 H2 o2 []:=by rw[im,eo2,ep];exact f1.new _ _
 have gp:H2.get p=some ⟨[tape,cv 0,.bool false,cv 0,cv 0,cv 0,cv 0,aA,cv 0,cv 0],114,1,false⟩:=by rw[im,ep];exact aL
 have hop:o2 p=p:=by rw[eo2];exact aP
 have Cw:dV H2 o2 (-50) tape T:=PN.fr f2 (by simp)
 have gf2:H2.get f=some ⟨fc proc a b' pp qq op tape done r0 s0 rec laid,51,1,false⟩:=by rw[f2.same f EG (by simp)];exact hf
 have CY: ∀i,i<H.length→o2 i=o1 i:=λi hi=>f2.own i hi
 have Gf:o2 f≠(p:Int):=by rw[CY f EG];have:=o1v f;omega
 have oi:o2 H.length= -9:=by rw[eo2,dL (by omega)];exact aP
 have g2:H2.get H.length=some ⟨oc gF aA,49,1,false⟩:=by rw[im,df (by omega)];exact g1
 have n0:aS H 49 1 [cv 0,.bool false,cv 0,cv 0,cv 0,aA,aA,cv 0,.bool false,cv 0,cv 0,cv 0,aA]=(pv H.length,H1):=by rw[fV];rfl
 have gf1:H1.get f=some ⟨fc proc a b' pp qq op tape done r0 s0 rec laid,51,1,false⟩:=by rw[fV,df EG];exact hf
 have Lt:aq (.pointer (some ⟨f,22,none⟩)) H1=some tape:=ao f 22 H1 gf1;have Lp:aq (pv f) H2=some (cv proc):=ao f 0 H2 gf2;have bx:=XA ta T.length tc H1;rw[←et, ←im, ←ep] at bx;have ab:=aax ta T.length tc;rw[←et] at ab;have fin: ∀{v:Value} {H3:aa},Iz pr T H2 o2 p v H3→∃r s,v= .agg (oc r s).toArray∧∃H4,bD 13 (pv H.length) (.agg (oc r s).toArray) H3=some (undef,H4)∧cZ 13 (pv H.length) H4=some (.agg (oc r s).toArray)∧
   ∃p' r' s' o',(Value.tuple #[pv p,.agg (oc r s).toArray])= .tuple #[pv p',.agg (oc r' s').toArray]∧Ext H H4∧H.length≤p'∧Si H4 o' p' (prA pr T)∧gN H4 o' (-41) s' r'.res.list∧r'.res.list.length≤1048577∧prO pr T r'∧∀i,i<H.length→o' i≠ -41∧o' i≠ -51:=by
  rintro v H3 ⟨r,s,o3,rfl,hr3,f3,Sk,UH,ho3⟩;obtain⟨sa,sc,es⟩:=Sk.isSlice;have g3:H3.get H.length=some ⟨oc gF aA,49,1,false⟩:=by rw[f3.same _ (ar g2) (by rw[oi];simp)];exact g2
  have o3i:o3 H.length= -9:=by rw[f3.own _ (ar g2)];exact oi
  have f4:Fr H3 o3 (H3.put H.length ⟨oc r s,49,1,false⟩) o3 [-9]:=(Fr.refl H3 o3 [-9]).put λ_=>by simp[o3i]
  refine⟨r,s,rfl,_,uk H.length r es gF aA H3 g3,yY H.length r s (T:=49) _ (aG g3),p,r,s,o3,rfl,⟨λj hj=>?_,?_⟩,by omega,?_,Sk.fr f4 (by simp),UH,ho3,λi hi=>?_⟩
  ·rw[fi (by omega),f3.slot j (by omega) (by rw[CY j hj];have:=o1v j;simp;omega)]
   exact f2.slot j hj (by simp)
  ·rw[iC];have:=f3.size;omega
  ·obtain⟨tp,w,W,b,i,nk,na,nx,ny,oL,la,ty,gq,hw,hA⟩:=hr3;exact⟨tp,w,W,b,i,nk,na,nx,ny,oL,la,ty,by rw[bt (by omega)];exact gq,hw.fr f4 (by simp),hA⟩
  ·have:=f3.own i (by omega)
   have:=CY i hi
   have:=o1v i
   omega
 have hn:=hp.num;simp -implicitDefEqProofs only[F70,n0,Lt,ab,bx,Lp,Nat.add_zero,sS,Nat.reduceAdd];refine Ev.leq (λhq=>?_) (λhq=>?_)<;>try simp -implicitDefEqProofs only[Lp,Nat.add_zero,sS,Nat.reduceAdd]
 ·refine Ev.call (aaw gp hop Cw hT gf2 Gf hp hq) ?_;intro v H3 TS;obtain⟨r,s,rfl,H4,A2,A3,uB⟩:=fin TS;simp -implicitDefEqProofs only[A2,A3,sS,Nat.reduceAdd];exact Ev.ret uB
 refine Ev.leq (λhq=>?_) (λhq=>?_)<;>try simp -implicitDefEqProofs only[sS,Nat.reduceAdd]
 ·omega
 refine Ev.call (Xz gp hop Cw hT gf2 Gf hp (by omega) h0) ?_
 intro v H3 TS;obtain⟨r,s,rfl,H4,A2,A3,uB⟩:=fin TS;simp -implicitDefEqProofs only[A2,A3,sS,Nat.reduceAdd];exact Ev.ret uB
def kj (H:aa)(o:aj)(f:Nat)(tf tg:Int)(pr:Pr)(T:List Int)(done:Bool)(r:g9)(rec:Int):Prop:=
 ∃(proc a b p q:Int) (op:jY) (tape s:Value) (laid:Int),H.get f=some ⟨fc proc a b p q op tape done r s rec laid,51,1,false⟩∧o f=tf∧oJ H o tg tape T∧zV pr proc a b p q op∧gN H o (-41) s r.res.list∧r.res.list.length≤1048577∧(pr= .rd∨done=false→r.word=0∧r.num=0)
def TT (pr:Pr)(T:List Int)(done:Bool)(r:g9)(rec:Int):Prop:=
 match pr with
 | .rd=>True
 | .ex t=>done= !(Y.ah t (C2 T)).2.off∧rec=(Y.ah t (C2 T)).2.oL∧(done=true→r=(Y.ah t (C2 T)).1)
theorem kj.fr {ps:List Int}(h:kj H o f tf tg pr T done r0 rec)(fr:Fr H o H' o' ps)(h1:tf ∉ ps)(h2:tg ∉ ps)(h3:(-41:Int) ∉ ps):kj H' o' f tf tg pr T done r0 rec:=by
 obtain⟨proc,a,b,p,q,op,tape,s,laid,g,ho,ht,hp,hs,hl⟩:=h;exact⟨proc,a,b,p,q,op,tape,s,laid,by rw[fr.same f (ar g) (by rw[ho];exact h1)];exact g,by rw[fr.own f (ar g)];exact ho,ht.fr fr h2,hp,hs.fr fr h3,hl⟩
theorem XB (f:Nat)(r:g9){s:Value}{a0:Option Addr}{k c:Nat}(es:s= .slice a0 k c){T:TypeId}(H:aa)(h:H.get f=some ⟨fc proc a b' pp qq op tape done r0 s0 rec laid,T,1,false⟩):bD 13 (.pointer (some ⟨f,24,none⟩)) (.agg (oc r s).toArray) H=some (undef,H.put f ⟨fc proc a b' pp qq op tape done r s rec laid,T,1,false⟩):=by
 subst es;simp[bD,bW,h,Value.cells,known,aD,dt];rfl
def aay (o o3:aj)(n:Nat):aj:=λi=>if i<n then o i else if o3 i= -41 then -41 else if o3 i= -51 then -51 else -9
theorem Eo (h:kj H o f tf tg pr T false r0 rec)(hT:T.length≤1048576)(h1:tf≠tg∧tf≠ -41):aE (run G) 69 [pv f] H λv H'=>∃o' Ep r' sv,Fr H o H' o' [tf]∧kj H' o' f tf tg pr T Ep r' sv∧TT pr T Ep r' sv:=by
 refine Ev.up (t:=λk=>F69 (run G k) k (pv f) H) ?_ λk=>Wy ..
 obtain⟨proc,a,b,pq,qq,op,tape,s0,laid,g,ho,ht,hp,hs,hl,h0⟩:=h;have EG:=ar g;simp -implicitDefEqProofs only[F69,sS,Nat.reduceAdd];refine Ev.call (O3 g ht.ints hT hp λe=>h0 (.inl e)) ?_
 rintro v H1 ⟨p,r,s,o3,rfl,ex,Yh,hr3,Sk,UH,hO,Sl⟩;obtain⟨sa,sc,es⟩:=Sk.isSlice;have l1:=ex.size;have g1:=ex.get g;obtain⟨H2,im⟩: ∃z,z=H1.new ⟨oc gF aA,49,1,false⟩:=⟨_,rfl⟩;have l2:H2.length=H1.length+1:=by rw[im,cA]
 have gb:H2.get H1.length=some ⟨oc gF aA,49,1,false⟩:=by rw[im];exact aL
 have n0:aS H1 49 1 [cv 0,.bool false,cv 0,cv 0,cv 0,aA,aA,cv 0,.bool false,cv 0,cv 0,cv 0,aA]=(pv H1.length,H2):=by rw[im];rfl
 have A2:=uk H1.length r es gF aA H2 gb;obtain⟨H3,mo⟩: ∃z,z=H2.put H1.length ⟨oc r s,49,1,false⟩:=⟨_,rfl⟩;rw[←mo] at A2;have l3:H3.length=H1.length+1:=by rw[mo,iC,l2]
 have hold: ∀j,j<H1.length→H3[j]? =H1[j]? :=λj hj=>by rw[mo,fi (by omega),im,mE hj]
 have gb3:H3.get H1.length=some ⟨oc r s,49,1,false⟩:=by rw[mo];exact aG gb
 obtain⟨tp,w,W,off,i,nk,na,nx,ny,y0,Er,ty,gp,_,hA⟩:=hr3;have EY:=ar gp;have gp3:H3.get p=some ⟨[tp,cv i,.bool off,cv nk,cv na,cv nx,cv ny,w,cv y0,cv Er],ty,1,false⟩:=by rw[dZ (hold p EY)];exact gp
 have XC:H3.get f=some ⟨fc proc a b pq qq op tape false r0 s0 rec laid,51,1,false⟩:=by rw[dZ (hold f (by omega))];exact g1
 have L8:aq (.pointer (some ⟨p,8,none⟩)) H3=some (cv y0):=ao p 8 H3 gp3;have S37:=gR f 37 y0 H3 XC rfl (by simp)
 obtain⟨H4,pR⟩: ∃z,z=H3.put f ⟨fc proc a b pq qq op tape false r0 s0 y0 laid,51,1,false⟩:=⟨_,rfl⟩;have e37:(fc proc a b pq qq op tape false r0 s0 rec laid).set 37 (cv y0)=fc proc a b pq qq op tape false r0 s0 y0 laid:=rfl;simp only[e37] at S37;rw[←pR] at S37;have gp4:H4.get p=some ⟨[tp,cv i,.bool off,cv nk,cv na,cv nx,cv ny,w,cv y0,cv Er],ty,1,false⟩:=by rw[pR,bt (by omega)];exact gp3
 have Sm:H4.get f=some ⟨fc proc a b pq qq op tape false r0 s0 y0 laid,51,1,false⟩:=by rw[pR];exact aG XC
 have L9:aq (.pointer (some ⟨p,9,none⟩)) H4=some (cv Er):=ao p 9 H4 gp4;have S38:=gR f 38 Er H4 Sm rfl (by simp)
 obtain⟨H5,tJ⟩: ∃z,z=H4.put f ⟨fc proc a b pq qq op tape false r0 s0 y0 Er,51,1,false⟩:=⟨_,rfl⟩;have e38:(fc proc a b pq qq op tape false r0 s0 y0 laid).set 38 (cv Er)=fc proc a b pq qq op tape false r0 s0 y0 Er:=rfl;simp only[e38] at S38;rw[←tJ] at S38;have gp5:H5.get p=some ⟨[tp,cv i,.bool off,cv nk,cv na,cv nx,cv ny,w,cv y0,cv Er],ty,1,false⟩:=by rw[tJ,bt (by omega)];exact gp4
 have gf5:H5.get f=some ⟨fc proc a b pq qq op tape false r0 s0 y0 Er,51,1,false⟩:=by rw[tJ];exact aG Sm
 have L2:aq (.pointer (some ⟨p,2,none⟩)) H5=some (.bool off):=ao p 2 H5 gp5;simp -implicitDefEqProofs only[n0,A2,L8,S37,L9,S38,L2,sS,Nat.reduceAdd]
 let o':aj:=aay o o3 H.length
 have ow: ∀i,i<H.length→o' i=o i:=λi hi=>if_pos hi
 have out: ∀{Hx:aa} {dn:Bool} {rr:g9} {ss:Value},Hx.get f=some ⟨fc proc a b pq qq op tape dn rr ss y0 Er,51,1,false⟩→(∀j,j≠f→Hx[j]? =H3[j]?)→Hx.length=H3.length→((rr=r0∧ss=s0)∨(rr=r∧ss=s∧dn=true))→TT pr T dn rr y0→∃o' Ep r' sv,Fr H o Hx o' [tf]∧kj Hx o' f tf tg pr T Ep r' sv∧TT pr T Ep r' sv:=λ{Hx dn rr ss} gx hx hlx hrs eA=>by
  have fr:Fr H o Hx o' [tf]:=⟨λj hj hn=>by rw[hx j (by rintro rfl;exact hn (by simp[ho])),hold j (by omega)];exact ex.old j hj,ow,by omega⟩
  refine⟨o',dn,rr,y0,fr,⟨proc,a,b,pq,qq,op,tape,ss,Er,gx,by rw[ow f EG];exact ho,ht.fr fr (by simp;omega),hp,?_⟩,eA⟩
  rcases hrs with⟨rfl,rfl⟩|⟨rfl,rfl,rfl⟩
  ·exact⟨hs.fr fr (by simp;omega),hl,λ_=>h0 (.inr rfl)⟩
  ·refine⟨Sk.mv λj hj hoj=>?_,UH,λe=>by
    rcases e with e|e
    ·subst e;exact hO
    ·cases e⟩
   have Yg:H.length≤j:=by
    rcases Nat.lt_or_ge j H.length with g|g
    ·exact absurd hoj (Sl j g).1
    ·exact g
   refine⟨dZ (by rw[hx j (by omega),hold j hj]),?_⟩
   show(if j<H.length then o j else if o3 j= -41 then(-41:Int) else if o3 j= -51 then -51 else -9)= -41
   rw[if_neg (by omega),if_pos hoj]
 have h53: ∀j,j≠f→H5[j]? =H3[j]? :=λj hj=>by rw[tJ,fi hj,pR,fi hj]
 have l5:H5.length=H3.length:=by rw[tJ,iC,pR,iC]
 have eA: ∀dn rr,(off=false→dn=true∧rr=r)→(off=true→dn=false)→TT pr T dn rr y0:=λdn rr k1 k2=>by
  cases pr with
  |rd=>trivial
  |ex t=>
   obtain⟨e1,e2,_⟩:=hA;refine⟨?_,e2,λhd=>?_⟩
   ·rw[←e1];cases off with
    |true=>exact k2 rfl
    |false=>exact(k1 rfl).1
   ·cases off with
    |true=>rw[k2 rfl] at hd;cases hd
    |false=>rw[(k1 rfl).2];exact hO
 refine Ev.br (λhq=>?_) (λhq=>?_)<;>try simp -implicitDefEqProofs only[sS,Nat.reduceAdd]
 ·have ho0:off=false:=by cases off<;>simp_all
  have S23:=r9 f 23 (.bool true) H5 gf5 rfl (by simp) rfl rfl rfl
  obtain⟨H6,C1⟩: ∃z,z=H5.put f ⟨fc proc a b pq qq op tape true r0 s0 y0 Er,51,1,false⟩:=⟨_,rfl⟩;have e23:(fc proc a b pq qq op tape false r0 s0 y0 Er).set 23 (.bool true)=fc proc a b pq qq op tape true r0 s0 y0 Er:=rfl;simp only[e23] at S23;rw[←C1] at S23;have gf6:H6.get f=some ⟨fc proc a b pq qq op tape true r0 s0 y0 Er,51,1,false⟩:=by rw[C1];exact aG gf5
  have gb6:H6.get H1.length=some ⟨oc r s,49,1,false⟩:=by rw[C1,dZ (fi (by omega)),dZ (h53 _ (by omega))];exact gb3
  have A6:=yY H1.length r s H6 gb6;have S24:=XB f r es H6 gf6;simp -implicitDefEqProofs only[S23,A6,S24,sS,Nat.reduceAdd];exact Ev.ret (out (aG gf6) (λj hj=>by rw[fi hj,C1,fi hj];exact h53 j hj) (by rw[iC,C1,iC];exact l5) (.inr ⟨rfl,rfl,rfl⟩) (eA _ _ (λ_=>⟨rfl,rfl⟩) λh=>by rw[ho0] at h;cases h))
 ·have ho0:off=true:=by cases off<;>simp_all
  exact Ev.ret (out gf5 h53 l5 (.inl ⟨rfl,rfl⟩) (eA _ _ (λh=>by rw[ho0] at h;cases h) λ_=>rfl))
end
section
open Go.Proofs.YtgfgglponbmgmaaGreatA
variable {G:ae} {H H':aa} {o o':aj} {p c mp f n i:Nat} {K K':aa→aj→Prop} {tf tg q:Int} {x:Value} {l:PL} {cs:List Value} {proc a b' pp qq rec laid:Int} {op:jY} {tape s0:Value} {done:Bool} {r0:g9} {T:List Int} {m m':Y.Mm} {pr:Pr}
structure FT (tf tg:Int):Prop where
 ne:tf≠tg
 lt:tf< -100
 lg:tg< -100
theorem oJ.pG {s:Value}{cs:List Int}(h:oJ H o q s cs):pG s s=true:=by
 obtain⟨a,c,rfl⟩:=h.isSlice;exact kJ ..
def tK (pr:Pr)(done:Bool)(T:List Int)(m:Y.Mm)(T':List Int)(m':Y.Mm):Prop:=
 (done=true∧T'=T∧m'=m)∨(done=false∧match pr with
  | .rd=>m'=m∧∃z,T'=T++[z]
  | .ex t=>∃q k,Y.after t T= .ask q k∧T'=T++[(Y.eB m q).1]∧m'=(Y.eB m q).2)
theorem tK.len {pr:Pr}{done:Bool}{T T':List Int}{m m':Y.Mm}(h:tK pr done T m T' m'):T'.length≤T.length+1:=by
 rcases h with⟨_,rfl,_⟩|⟨_,h⟩
 ·omega
 ·cases pr with
  |rd=>obtain⟨_,z,rfl⟩:=h;simp
  |ex t=>obtain⟨q,k,_,rfl,_⟩:=h;simp
theorem LG {t:Y.Tr g9}{T:List Int}(h:(Y.ah t (C2 T)).2.off=true): ∃q k,Y.after t T= .ask q k∧(Y.ah t (C2 T)).2.next=q:=by
 have:=Y.Cu t (C2 T) rfl
 revert this
 rw[show(C2 T).rest=T from rfl]
 cases Y.after t T with
 |ret a=>rintro⟨_,h2⟩;rw[h2] at h;cases h
 |ask q k=>rintro⟨_,h2⟩;exact⟨q,k,rfl,h2⟩
 |off k=>exact False.elim
 |rc r t=>exact False.elim
 |ld t=>exact False.elim
theorem Sn (h:kj H o f tf tg pr T done r0 rec)(eA:TT pr T done r0 rec)(hm:mh H o mp m)(hT:T.length<1048576)(ht:FT tf tg):aE (run G) 20 [pv f,pv mp] H λv H'=>∃o' T' m' d r' sv,v= .bool d∧Fr H o H' o' [tf,tg, -70, -71]∧kj H' o' f tf tg pr T' d r' sv∧TT pr T' d r' sv∧mh H' o' mp m'∧tK pr done T m T' m':=by
 refine Ev.up (t:=λk=>F20 (run G k) k (pv f) (pv mp) H) ?_ λk=>U6 ..
 obtain⟨proc,a,b,pq,qq,op,tape,s0,laid,g,ho,hs,hp,uV,hl,h0⟩:=id h;have dy:=ht.ne;have gB:=ht.lt;have hlg:=ht.lg;have EG:=ar g;have L23:aq (.pointer (some ⟨f,23,none⟩)) H=some (.bool done):=ao f 23 H g;simp -implicitDefEqProofs only[F20,L23,sS,Nat.reduceAdd];refine Ev.br (λhd=>?_) (λhd=>?_)<;>try simp -implicitDefEqProofs only[sS,Nat.reduceAdd]
 ·subst hd;exact Ev.ret ⟨o,T,m,true,_,_,rfl,Fr.refl _ _ _,h,eA,hm,.inl ⟨rfl,rfl,rfl⟩⟩
 subst hd;refine Ev.call (O3 g hs.ints (by omega) hp λe=>h0 (.inl e)) ?_
 rintro v H1 ⟨p,r,s,o3,rfl,ex,Yh,hr3,Sk,UH,hO,Sl⟩;obtain⟨sa,sc,es⟩:=Sk.isSlice;have l1:=ex.size;have g1:=ex.get g;have P3:mp<H.length:=by obtain⟨_,_,_,_,_,gm,_⟩:=hm;exact ar gm
 obtain⟨tp,w,W,off,i,nk,na,nx,ny,y0,Er,ty,gp,hw,hA⟩:=hr3;have EY:=ar gp;obtain⟨H2,im⟩: ∃z,z=H1.new ⟨oc gF aA,49,1,false⟩:=⟨_,rfl⟩;have l2:H2.length=H1.length+1:=by rw[im,cA]
 have gb:H2.get H1.length=some ⟨oc gF aA,49,1,false⟩:=by rw[im];exact aL
 have n0:aS H1 49 1 [cv 0,.bool false,cv 0,cv 0,cv 0,aA,aA,cv 0,.bool false,cv 0,cv 0,cv 0,aA]=(pv H1.length,H2):=by rw[im];rfl
 have A2:=uk H1.length r es gF aA H2 gb;obtain⟨H3,mo⟩: ∃z,z=H2.put H1.length ⟨oc r s,49,1,false⟩:=⟨_,rfl⟩;rw[←mo] at A2;have hold: ∀j,j<H1.length→H3[j]? =H1[j]? :=λj hj=>by rw[mo,fi (by omega),im,mE hj]
 let o1:aj:=aay o o3 H.length
 have YA:Fr H o H3 o1 []:=⟨λj hj _=>by rw[hold j (by omega)];exact ex.old j hj,λj hj=>if_pos hj,by rw[mo,iC,l2];omega⟩
 have gp3:H3.get p=some ⟨[tp,cv i,.bool off,cv nk,cv na,cv nx,cv ny,w,cv y0,cv Er],ty,1,false⟩:=by rw[dZ (hold p EY)];exact gp
 have XC:H3.get f=some ⟨fc proc a b pq qq op tape false r0 s0 rec laid,51,1,false⟩:=by rw[dZ (hold f (by omega))];exact g1
 have SZ:=hm.fr YA (by simp) (by simp)
 have Ai:=oJ.pG hs;have LT3:aq (.pointer (some ⟨f,22,none⟩)) H3=some tape:=ao f 22 H3 XC;have LA:cZ 5 (.pointer (some ⟨p,3,none⟩)) H3=some (nm nk na nx ny w):=by simp[cZ,aR,gp3]
 have Tn:eG H3 w W:=hw.1.keep λk b e dy=>dZ (hold _ (hw.2 b _ _ e dy).1)
 have Xw:W≠[]→∀a n c,w= .slice (some a) n c→a.block≠mp:=λdy a n c e hh=>by
  have:=(hw.2 a n c e dy).2
  rw[hh] at this;exact(Sl mp P3).2 this
 simp -implicitDefEqProofs only[n0,A2,LT3,LA,sS,Nat.reduceAdd];have zp:JM (λH' o'=>Fr H3 o1 H' o' [-70, -71]) mp m H3:=⟨bJ.base (by simp),o1,SZ,Fr.refl _ _ _⟩
 have Us:aE (run G) 71 [pv mp,nm nk na nx ny w] H3 λv H'=>∃u m',v=cv u∧JM (λH' o'=>Fr H3 o1 H' o' [-70, -71]) mp m' H'∧tK pr false T m (T++[u]) m':=by
  cases pr with
  |rd=>
   refine(acJ zp hA na nx ny Tn).mono ?_;rintro v H' ⟨⟨u,rfl⟩,hj⟩;exact⟨u,m,rfl,hj,.inr ⟨rfl,rfl,u,rfl⟩⟩
  |ex t=>
   obtain⟨e1,e2,hq⟩:=hA;have aaz:(Y.ah t (C2 T)).2.off=true:=by
    have:=eA.1
    revert this;cases(Y.ah t (C2 T)).2.off<;>simp
   obtain⟨q,k,ea,en⟩:=LG aaz;have hq':=hq (e1.trans aaz);rw[en] at hq';refine(acI zp hq' Tn Xw).mono ?_;rintro v H' ⟨rfl,hj⟩;exact⟨_,_,rfl,hj,.inr ⟨rfl,q,k,ea,rfl,rfl⟩⟩
 refine Ev.call Us ?_;rintro v H4 ⟨u,m',rfl,⟨_,o4,hm4,fr4⟩,y3⟩;have aaA:o1 f=tf:=by show(if f<H.length then o f else _)=tf;rw[if_pos EG];exact ho
 have Sm:H4.get f=some ⟨fc proc a b pq qq op tape false r0 s0 rec laid,51,1,false⟩:=by rw[fr4.same f (ar XC) (by rw[aaA];simp;omega)];exact XC
 have aaB:o4 f=tf:=by rw[fr4.own f (ar XC)];exact aaA
 have hs4:oJ H4 o4 tg tape T:=(hs.fr YA (by simp)).fr fr4 (by simp;omega)
 have acM:gN H4 o4 (-41) s0 r0.res.list:=(uV.fr YA (by simp)).fr fr4 (by simp)
 obtain⟨H5,tJ⟩: ∃z,z=H4.new ⟨[cv u],2,1,false⟩:=⟨_,rfl⟩;have b1:=zP u H4;rw[←tJ] at b1;have gf5:H5.get f=some ⟨fc proc a b pq qq op tape false r0 s0 rec laid,51,1,false⟩:=by rw[tJ,df (ar Sm)];exact Sm
 have LT4:aq (.pointer (some ⟨f,22,none⟩)) H4=some tape:=ao f 22 H4 Sm;have LT5:aq (.pointer (some ⟨f,22,none⟩)) H5=some tape:=ao f 22 H5 gf5;obtain⟨x',H6,o6,e6,s6,fr6⟩:=Oy 2 2 u hs4 (by omega)
 rw[←tJ] at e6;have gf6:H6.get f=some ⟨fc proc a b pq qq op tape false r0 s0 rec laid,51,1,false⟩:=by rw[fr6.same f (ar Sm) (by rw[aaB];simp;omega)];exact Sm
 have aaC:o6 f=tf:=by rw[fr6.own f (ar Sm)];exact aaB
 obtain⟨xa,xc,exx⟩:=s6.isSlice;have S22:=FL f 22 xa (T++[u]).length xc H6 gf6 rfl (by simp)
 rw[←exx] at S22;have e22:(fc proc a b pq qq op tape false r0 s0 rec laid).set 22 x'=fc proc a b pq qq op x' false r0 s0 rec laid:=rfl;simp only[e22] at S22;obtain⟨H7,PQ⟩: ∃z,z=H6.put f ⟨fc proc a b pq qq op x' false r0 s0 rec laid,51,1,false⟩:=⟨_,rfl⟩;rw[←PQ] at S22;have fr7:Fr H6 o6 H7 o6 [tf]:=by rw[PQ];exact(Fr.refl H6 o6 [tf]).put λ_=>by simp[aaC]
 have hf7:kj H7 o6 f tf tg pr (T++[u]) false r0 rec:=⟨proc,a,b,pq,qq,op,x',s0,laid,by rw[PQ];exact aG gf6,aaC,s6.fr fr7 (by simp;omega),hp,(acM.fr fr6 (by simp;omega)).fr fr7 (by simp;omega),hl,h0⟩
 have hm7:mh H7 o6 mp m':=(hm4.fr fr6 (by simp;omega) (by simp;omega)).fr fr7 (by simp;omega) (by simp;omega)
 have frA:Fr H o H7 o6 [tf,tg, -70, -71]:=(((YA.trans fr4 (rs:=[tf,tg, -70, -71]) (by simp) (by simp)).trans fr6 (rs:=[tf,tg, -70, -71]) (by simp) (by simp))).trans fr7 (by simp) (by simp)
 simp -implicitDefEqProofs only[b1,e6,S22,LT3,LT4,LT5,Ai,sS,Nat.reduceAdd];refine Ev.call (Eo hf7 (by simp;omega) ⟨by omega,by omega⟩) ?_
 rintro v H8 ⟨o8,d,r',sv,fr8,hf8,acN⟩;obtain⟨aaD,a',b',p',q',op',O1,s',O2,g8,_⟩:=id hf8;have L8:aq (.pointer (some ⟨f,23,none⟩)) H8=some (.bool d):=ao f 23 H8 g8;simp -implicitDefEqProofs only[L8,sS,Nat.reduceAdd];exact Ev.ret ⟨o8,T++[u],m',d,r',sv,rfl,frA.trans fr8 (by simp) (by simp),hf8,acN,hm7.fr fr8 (by simp;omega) (by simp;omega),y3⟩
theorem So (a b p q:Int)(op:jY)(H:aa):dH 41 (.agg (ax a b p q op).toArray) H=some (pv H.length,H.new ⟨ax a b p q op,41,1,false⟩):=by
 simp[dH,Value.cells,aD,aS]
theorem XD (i:Nat)(a b p q:Int)(op:jY)(H:aa)(h:H.get i=some ⟨ax a b p q op,41,1,false⟩):cZ 21 (pv i) H=some (.agg (ax a b p q op).toArray):=by
 simp[cZ,aR,h]
theorem Sp (proc a b p q:Int)(op:jY):aF Tryz.prog 51 [(0,cv proc),(1,.agg (ax a b p q op).toArray)]=some (.agg (fc proc a b p q op aA false gF aA 0 0).toArray):=by kernel_rfl
theorem O4 (proc a b p q:Int)(op:jY)(H:aa):dH 51 (.agg (fc proc a b p q op aA false gF aA 0 0).toArray) H=some (pv H.length,H.new ⟨fc proc a b p q op aA false gF aA 0 0,51,1,false⟩):=by
 simp[dH,Value.cells,aD,aS]
theorem XE (ht:FT tf tg){a b p q:Int}(hp:zV pr proc a b p q op)(H:aa)(o:aj):aE (run G) 17 [cv proc,.agg (ax a b p q op).toArray] H λv H'=>∃f o' done r rec,v=pv f∧Fr H o H' o' [tf]∧kj H' o' f tf tg pr [] done r rec∧TT pr [] done r rec:=by
 refine Ev.up (t:=λk=>F17 (run G k) k (cv proc) (.agg (ax a b p q op).toArray) H) ?_ λk=>Wi ..
 have dy:=ht.ne;have gB:=ht.lt;obtain⟨H1,fV⟩: ∃z,z=H.new ⟨ax a b p q op,41,1,false⟩:=⟨_,rfl⟩;have l1:H1.length=H.length+1:=by rw[fV,cA]
 have g1:H1.get H.length=some ⟨ax a b p q op,41,1,false⟩:=by rw[fV];exact aL
 obtain⟨H2,im⟩: ∃z,z=H1.new ⟨fc proc a b p q op aA false gF aA 0 0,51,1,false⟩:=⟨_,rfl⟩;have b1:=So a b p q op H;rw[←fV] at b1;have b2:=O4 proc a b p q op H1;rw[←im] at b2;have A1:=XD H.length a b p q op H1 g1;have f1:Fr H o H1 (o.up H.length (-9)) []:=by rw[fV];exact(Fr.refl H o []).new _ _
 have f2:Fr H o H2 ((o.up H.length (-9)).up H1.length tf) []:=by rw[im];exact f1.new _ _
 have hf2:kj H2 ((o.up H.length (-9)).up H1.length tf) H1.length tf tg pr [] false gF 0:=⟨proc,a,b,p,q,op,aA,aA,0,by rw[im];exact aL,aP,.inl ⟨rfl,rfl⟩,hp,.nil,by simp[gF,bQ],λ_=>⟨rfl,rfl⟩⟩
 have ab:=Sp proc a b p q op;simp -implicitDefEqProofs only[F17,b1,A1,ab,b2,sS,Nat.reduceAdd];refine Ev.call (Eo hf2 (by simp) ⟨by omega,by omega⟩) ?_
 rintro v H3 ⟨o3,d,r',sv,YA,hf3,XF⟩
 try simp -implicitDefEqProofs only[sS,Nat.reduceAdd]
 exact Ev.ret ⟨H1.length,o3,d,r',sv,rfl,f2.trans YA (by simp) (by simp),hf3,XF⟩
end
theorem uI:Tryz.prog.underlying 3=some (.int .i64):=by kernel_rfl
theorem u64:Tryz.prog.underlying 2=some (.int .i64):=by kernel_rfl
section
variable {G:ae} {H:aa} {o:aj} {q:Int} {x:Value} {l:PL} {n p:Nat}
end
structure ku where
 kind:Int
 O5:Int
 no:Int
 op:jY
 res:eI
 pick:Int
section
variable {H:aa} {o:aj} {p:Int} {s:Value} {cs:List Value} {b:Option Nat}
end
abbrev fm (e:ku)(s:Value):List Value:=[cv e.kind,cv e.O5,cv e.no,cv e.op.kind,cv e.op.key,cv e.op.value,cv e.res.D5,.bool e.res.found,cv e.res.key,cv e.res.value,cv e.res.n,s,cv e.pick]
abbrev evA (e:ku)(s:Value):Value:=.agg #[cv e.kind,cv e.O5,cv e.no,cv e.op.kind,cv e.op.key,cv e.op.value,cv e.res.D5,.bool e.res.found,cv e.res.key,cv e.res.value,cv e.res.n,s,cv e.pick]
section
variable {H:aa} {b:Nat} {t:TypeId} {r:eI} {e:ku} {s:Value}
end
section
variable {H:aa} {o:aj} {q:Int} {n p:Nat} {l:PL}
end
end Go.Proofs.YtgfgglponbmgmaaGreat.Fun
namespace Go.Proofs.YtgfgglponbmgmaaGreat.Fun
open Go Go.RowKit Go.Proofs.YtgfgglponbmgmaaGreatA.Am
set_option maxRecDepth 10000
section
variable {G:ae} {H:aa} {o:aj} {q:Int} {n c:Nat} {sm:Value} {bm:Option Nat} {t:Nat} {ms:List (Nat×PL)} {ty:TypeId} {inv:Int}
end
end Go.Proofs.YtgfgglponbmgmaaGreat.Fun
namespace Go.Proofs.YtgfgglponbmgmaaGreat.Fun
open Go Go.RowKit Go.Proofs.YtgfgglponbmgmaaGreatA.Am
set_option maxRecDepth 10000
section
variable {H:aa} {o:aj} {q:Int} {n c:Nat} {e:ku} {x:Value}
end
end Go.Proofs.YtgfgglponbmgmaaGreat.Fun
namespace Go.Proofs.YtgfgglponbmgmaaGreat.Fun
open Go Go.RowKit Go.Proofs.YtgfgglponbmgmaaGreatA.Am
set_option maxRecDepth 10000
section
variable {H:aa} {o:aj} {q:Int} {n c:Nat} {e:ku} {x:Value}
end
end Go.Proofs.YtgfgglponbmgmaaGreat.Fun
namespace Go.Proofs.YtgfgglponbmgmaaGreat.Fun
open Go Go.RowKit Go.Proofs.YtgfgglponbmgmaaGreatA.Am
set_option maxRecDepth 10000
section
variable {H H':aa} {o o':aj} {q q2:Int} {x:Value} {L:List ku}
end
section
variable {H:aa} {o:aj} {q q2:Int} {n:Nat} {x:Value} {L:List ku} {B:Nat}
end
def A5:List (ku×Value)→List Value
 | []=>[]
 |x::l=>fm x.1 x.2++A5 l
theorem IC: ∀l:List (ku×Value),(A5 l).length=13*l.length
 | []=>rfl
 |x::l=>by simp only[A5,List.length_append,List.length_cons,IC l];simp;omega
theorem CO: ∀a b:List (ku×Value),A5 (a++b)=A5 a++A5 b
 | [],b=>rfl
 |x::a,b=>by simp only[List.cons_append,A5,CO a b,List.append_assoc]
def Gg (H:aa)(o:aj)(q q2:Int)(x:Value)(L:List ku):Prop:=
 (x= .slice none 0 0∧L=[])∨∃i cap rest ty es,x= .slice (some ⟨i,0,none⟩) L.length cap∧H.get i=some ⟨A5 es++rest,ty,13,false⟩∧L=es.map (λz=>z.1)∧13*L.length+rest.length=13*cap∧o i=q∧∀z∈es,gN H o q2 z.2 z.1.res.list
section
variable {H H':aa} {o o':aj} {q q2:Int} {x:Value} {L:List ku}
theorem Gg.fr {ps:List Int}(h:Gg H o q q2 x L)(f:Fr H o H' o' ps)(h1:q ∉ ps)(h2:q2 ∉ ps):Gg H' o' q q2 x L:=by
 rcases h with h|⟨i,cap,rest,ty,es,e1,e2,e3,e4,e5,e6⟩
 ·exact .inl h
 ·exact .inr ⟨i,cap,rest,ty,es,e1,by rw[f.same i (ar e2) (by rw[e5];exact h1)];exact e2,e3,e4,by rw[f.own i (ar e2)];exact e5,λz hz=>(e6 z hz).fr f h2⟩
theorem Sq (x:ku×Value)(a:Option Addr)(m c:Nat)(es:x.2= .slice a m c):(fm x.1 x.2).all aD=true:=by
 rw[es];rfl
theorem Gg.app {j:Nat}{e:ku}{s:Value}{t tE:TypeId}(h:Gg H o q q2 x L)(hj:H.get j=some ⟨fm e s,t,13,false⟩)(hs:gN H o q2 s e.res.list)(hq:q2≠q)(hl:L.length<4294967295):
  ∃x' H' o',de tE 13 120 x (.slice (some ⟨j,0,none⟩) 1 1) H=some (x',H')∧Gg H' o' q q2 x' (L++[e])∧Fr H o H' o' [q]:=by
 have uu:aR H j 0 13=some (fm e s):=by simp[aR,hj]
 obtain⟨sa,sm,esl⟩:=hs.isSlice;have zj:=Sq (e,s) _ _ _ esl;rcases h with⟨rfl,rfl⟩|⟨i,cap,rest,ty,es,rfl,h2,rfl,h4,h5,h6⟩
 ·have f:Fr H o (H.new ⟨fm e s,tE,13,false⟩) (o.up H.length q) [q]:=(Fr.refl _ _ _).new _ _;refine⟨.slice (some ⟨H.length,0,none⟩) 1 1,H.new ⟨fm e s,tE,13,false⟩,o.up H.length q,?_,.inr ⟨H.length,1,[],tE,[(e,s)],rfl,by rw[aL];simp[Fun.A5],rfl,rfl,aP,λz hz=>?_⟩,f⟩
  ·simp[de,cF,uu]
  ·have:z=(e,s):=by simpa using hz
   subst this;exact hs.fr f (by simpa using hq)
 ·have Yt:=ar h2;have ZD:=IC es;simp only[List.length_map] at h4 hl ⊢;by_cases jb:es.length+1≤cap
  ·have Ub:dt (Fun.A5 es++rest) (13*es.length) (fm e s)=Fun.A5 (es++[(e,s)])++rest.drop 13:=by
    have h9:=qD (fm e s) (Fun.A5 es) rest (by simp;omega)
    rw[ZD] at h9;rw[h9,CO];simp[Fun.A5]
   have mj:bW H i (0+es.length*13) (fm e s)=some (H.put i ⟨Fun.A5 (es++[(e,s)])++rest.drop 13,ty,13,false⟩):=by
    simp only[bW,h2,zj];rw[if_pos (by simp[ZD];omega),show 0+es.length*13=13*es.length by omega,Ub]
   have f:Fr H o (H.put i ⟨Fun.A5 (es++[(e,s)])++rest.drop 13,ty,13,false⟩) o [q]:=(Fr.refl _ _ _).put λ_=>by simp[h5]
   refine⟨.slice (some ⟨i,0,none⟩) (es.length+1) cap,_,o,?_,.inr ⟨i,cap,rest.drop 13,ty,es++[(e,s)],by simp,aG h2,by simp,by simp;omega,h5,λz hz=>?_⟩,f⟩
   ·simp only[de,cF,Nat.one_mul];rw[if_neg (by omega)]
    simp only[uu,Option.map_some];rw[if_pos jb,if_neg (by omega)]
    simp only[h2,if_true,mj,Option.map_some]
   ·rcases List.mem_append.1 hz with hz|hz
    ·exact(h6 z hz).fr f (by simpa using hq)
    ·have:z=(e,s):=by simpa using hz
     subst this;exact hs.fr f (by simpa using hq)
  ·have hold:aR H i 0 (es.length*13)=some (Fun.A5 es):=by
    simp only[aR,h2];rw[if_pos (by simp[ZD];omega),List.drop_zero,List.take_left' (by omega)]
   have f:Fr H o ((H.kill i).new ⟨Fun.A5 es++fm e s,tE,13,false⟩) (o.up H.length q) [q]:=by
    have:=((Fr.refl H o [q]).kill (i:=i) (λ_=>by simp[h5])).new ⟨Fun.A5 es++fm e s,tE,13,false⟩ q
    rw[J3] at this;exact this
   refine⟨.slice (some ⟨H.length,0,none⟩) (es.length+1) (es.length+1),_,o.up H.length q,?_,.inr ⟨H.length,es.length+1,[],tE,es++[(e,s)],by simp,?_,by simp,by simp,aP,λz hz=>?_⟩,f⟩
   ·simp only[de,cF,Nat.one_mul];rw[if_neg (by omega)]
    simp only[uu,Option.map_some];rw[if_neg jb,if_pos (by simp;omega)]
    simp only[h2];rw[if_pos (by simp[ZD];omega)]
    simp only[hold]
   ·have:=aL (H:=H.kill i) (c:=⟨Fun.A5 es++fm e s,tE,13,false⟩)
    rw[J3] at this;rw[CO];simpa[Fun.A5] using this
   ·rcases List.mem_append.1 hz with hz|hz
    ·exact(h6 z hz).fr f (by simpa using hq)
    ·have:z=(e,s):=by simpa using hz
     subst this;exact hs.fr f (by simpa using hq)
end
end Go.Proofs.YtgfgglponbmgmaaGreat.Fun
end
