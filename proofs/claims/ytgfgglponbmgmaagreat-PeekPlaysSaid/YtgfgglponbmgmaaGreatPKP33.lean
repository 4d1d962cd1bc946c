/- Texts of the proof of peekPlays_holds, put together by a small program of ours (names shortened, spaces taken out). No condition beyond the given statement. -/
import Derived.Test.YtgfgglponbmgmaaGreatPKP11
import Derived.Test.YtgfgglponbmgmaaGreatPKP16
import Derived.Test.YtgfgglponbmgmaaGreatPKP13
import Derived.Test.YtgfgglponbmgmaaGreatPKP32
import Derived.Test.YtgfgglponbmgmaaGreatPKP10
import Derived.Test.YtgfgglponbmgmaaGreatPKP17
import Derived.Test.YtgfgglponbmgmaaGreatPKP27
set_option linter.unusedVariables false
set_option linter.unusedSimpArgs false
set_option linter.unnecessarySimpa false
noncomputable section
section
namespace Go.Proofs.YtgfgglponbmgmaaGreat.Fun
open Go Go.RowKit Go.Proofs.YtgfgglponbmgmaaGreatA.Am
set_option maxRecDepth 10000
section
open Go.Proofs.YtgfgglponbmgmaaGreatA
variable {G:ae} {H H':aa} {o o':aj} {p m c mp f n i:Nat} {K K':aa→aj→Prop} {tf tg q:Int} {x:Value} {l:PL} {cs:List Value} {proc a b' pp qq rec laid:Int} {op:kf} {tape s0:Value} {done:Bool} {r0:eO} {T:List Int} {mm:Y.Mm} {pr:Pr}
def Bt (T:List Int):Y.St:=⟨T,false,.rd 0,0,0⟩
def zp (pr:Pr)(proc a b p q:Int)(op:kf):Prop:=
 match pr with
 | .rd=>proc=25∧a=0∧p=0∧q=0
 | .ex t=>(proc=24∧(1≤op.kind∧op.kind≤3)∧t=Ta op)∨Br t proc a b p q
def Tb (H:aa)(o:aj)(p:Nat)(A:Bool→Int→Int→Int→Int→List Int→Int→Prop):Prop:=
 ∃(tape w:Value) (W:List Int) (b:Bool) (i:Nat) (nk na nx ny oO laid:Int) (ty:TypeId),
  H.get p=some ⟨[tape,cv i,.bool b,cv nk,cv na,cv nx,cv ny,w,cv oO,cv laid],ty,1,false⟩∧du H o (-51) w W∧A b nk na nx ny W oO
def prA (pr:Pr)(T:List Int)(b:Bool)(nk na nx ny:Int)(W:List Int)(oO:Int):Prop:=
 match pr with
 | .rd=>nk=0∨nk=1
 | .ex t=>b=(Y.ah t (Bt T)).2.off∧oO=(Y.ah t (Bt T)).2.oO∧(b=true→IT (Y.ah t (Bt T)).2.next nk na nx ny W)
def prO (pr:Pr)(T:List Int)(r:eO):Prop:=
 match pr with
 | .rd=>r.word=0∧r.num=0
 | .ex t=>r=(Y.ah t (Bt T)).1
abbrev I8 (pr:Pr)(T:List Int)(H:aa)(b:aj)(p:Nat):Value→aa→Prop:=λv H'=>∃r s o',v= .agg (oc r s).toArray∧Tb H' o' p (prA pr T)∧Fr H b H' o' [(p:Int)]∧gT H' o' (-41) s r.res.list∧r.res.list.length≤1048577∧prO pr T r
theorem y3.adz {t:Y.Tr eO}(h:y3 H o p (Y.ah t (Bt T)).2):Tb H o p (prA (.ex t) T):=by
 obtain⟨tape,w,T',W,i,nk,na,nx,ny,ty,g,ho,ht,hT,hw,hi,_,hn⟩:=h;exact⟨tape,w,W,_,i,nk,na,nx,ny,_,_,ty,g,hw,rfl,rfl,hn⟩
theorem I9 {t:Y.Tr eO}{b:aj}{C:Nat→ae}{fn:Nat}{args:List Value}(h:aF C fn args H λv H'=>v= .agg (oc (Y.ah t (Bt T)).1 aA).toArray∧JX (KB0 H b p) p (Y.ah t (Bt T)).2 H')(hl:(Y.ah t (Bt T)).1.res.list=[]):aF C fn args H (I8 (.ex t) T H b p):=by
 refine h.mono ?_;rintro v H' ⟨rfl,_,o',hr,hf⟩;exact⟨_,aA,o',rfl,hr.adz,hf,by rw[hl];exact .nil,by rw[hl];simp,rfl⟩
theorem PE (op:kf)(st:Y.St):(Y.ah (Ta op) st).1.res.list=[]:=by unfold Ta;rw[Y.al];rfl
section
variable {b:aj} (gp:H.get p=some ⟨[tape,cv 0,.bool false,cv 0,cv 0,cv 0,cv 0,aA,cv 0,cv 0],114,1,false⟩) (vi:b p=p) (ht:du H b (-50) tape T) (hT:T.length≤1048576) (hf:H.get f=some ⟨fc proc a b' pp qq op tape done r0 s0 rec laid,51,1,false⟩) (GM:b f≠p)
include gp vi ht hT
theorem Ja:y3 H b p (Bt T):=⟨tape,aA,T,[],0,0,0,0,0,114,gp,vi,ht,hT,.nil,by omega,rfl,λh=>by cases h⟩
theorem Tc:R.Ak H b p (T.length+1):=⟨tape,aA,T,[],0,0,0,0,0,0,0,114,by rw[gp];simp,vi,ht,hT,.nil,λ_=>by omega,.inl rfl⟩
include hf GM
theorem Yt (hp:zp pr proc a b' pp qq op)(h24:24≤proc)(h0:pr= .rd→r0.word=0∧r0.num=0):aF (run G) 97 [pv f,pv p] H (I8 pr T H b p):=by
 cases pr with
 |rd=>
  obtain⟨rfl,rfl,rfl,rfl⟩:=hp;obtain⟨h1,h2⟩:=h0 rfl;obtain⟨w0,n0,r00⟩:=r0;simp only at h1 h2;subst h1 h2;refine(R.Yo (Tc gp vi ht hT) (by omega) (T:=51) (f:=f) (bud:=b') (op:=op) (r0:=r00) hf GM rfl).mono ?_
  rintro v H' ⟨r,s,m',rfl,hl,_,o',hr,kU,tU⟩;obtain⟨PG,w,T',W,i,nk,na,nx,ny,kp,PH,ty,g,ho,ht',hT',hw,hi,hnk⟩:=hr;exact⟨⟨0,0,r⟩,s,o',rfl,⟨PG,w,W,_,i,nk,na,nx,ny,kp,PH,ty,g,hw,hnk⟩,kU,tU,by show r.list.length≤_;omega,rfl,rfl⟩
 |ex t=>
  rcases hp with⟨rfl,hk,rfl⟩|hp
  ·exact I9 (Ys (Ja gp vi ht hT) (by show T.length+1≤1048577;omega) hf GM hk) (PE _ _)
  ·have:=hp.proc;omega
theorem abh (hp:zp pr proc a b' pp qq op)(h16:proc≤16):aF (run G) 95 [pv f,pv p] H (I8 pr T H b p):=by
 cases pr with
 |rd=>obtain⟨rfl,_⟩:=hp;omega
 |ex t=>
  rcases hp with⟨rfl,hk,rfl⟩|hp
  ·omega
  ·exact I9 (abg (Ja gp vi ht hT) (by show T.length+1≤1048577;omega) hf GM hp) (hp.list _)
end
theorem abi (b:Option Addr)(n c:Nat):aE Tryz.prog 114 [(0,.slice b n c)]=some (.agg #[.slice b n c,cv 0,.bool false,cv 0,cv 0,cv 0,cv 0,aA,cv 0,cv 0]):=by kernel_rfl
theorem Yu (b:Option Addr)(n c:Nat)(H:aa):dJ 114 (.agg #[.slice b n c,cv 0,.bool false,cv 0,cv 0,cv 0,cv 0,aA,cv 0,cv 0]) H=some (pv H.length,H.new ⟨[.slice b n c,cv 0,.bool false,cv 0,cv 0,cv 0,cv 0,aA,cv 0,cv 0],114,1,false⟩):=by
 simp[dJ,Value.cells,aD,aS]
theorem zp.num (hp:zp pr proc a b' pp qq op):(11≤proc∧proc≤16)∨proc=24∨proc=25:=by
 cases pr with
 |rd=>exact .inr (.inr hp.1)
 |ex t=>
  rcases hp with h|h
  ·exact .inr (.inl h.1)
  ·exact .inl h.proc
theorem PI (hf:H.get f=some ⟨fc proc a b' pp qq op tape done r0 s0 rec laid,51,1,false⟩)(ht:du H o tg tape T)(hT:T.length≤1048576)(hp:zp pr proc a b' pp qq op)(h0:pr= .rd→r0.word=0∧r0.num=0):
  aF (run G) 70 [pv f] H λv H'=>∃p r s o',v= .tuple #[pv p,.agg (oc r s).toArray]∧Ext H H'∧H.length≤p∧Tb H' o' p (prA pr T)∧gT H' o' (-41) s r.res.list∧r.res.list.length≤1048577∧prO pr T r∧∀i,i<H.length→o' i≠ -41∧o' i≠ -51:=by
 refine Ev.up (t:=λk=>F70 (run G k) k (pv f) H) ?_ λk=>Wc ..
 classical
 let o1:aj:=λi=>if ∃a n c,tape= .slice (some a) n c∧a.block=i then -50 else -9
 have o1v: ∀i,o1 i= -50∨o1 i= -9:=λi=>by
  show(if ∃a n c,tape= .slice (some a) n c∧a.block=i then(-50:Int) else -9)= -50∨(if ∃a n c,tape= .slice (some a) n c∧a.block=i then(-50:Int) else -9)= -9
  split
  ·exact .inl rfl
  ·exact .inr rfl
 have Pg:du H o1 (-50) tape T:=⟨ht.1,λb n c e dz=>⟨(ht.2 b n c e dz).1,if_pos ⟨b,n,c,e,rfl⟩⟩⟩
 obtain⟨ta,tc,et⟩:=ht.1.isSlice;have Fa:=ar hf;obtain⟨H1,ga⟩: ∃z,z=H.new ⟨oc gL aA,49,1,false⟩:=⟨_,rfl⟩;have l1:H1.length=H.length+1:=by rw[ga,cB]
 have g1:H1.get H.length=some ⟨oc gL aA,49,1,false⟩:=by rw[ga];exact aL
 obtain⟨p,ep⟩: ∃p,p=H1.length:=⟨_,rfl⟩;obtain⟨H2,iD⟩: ∃z,z=H1.new ⟨[tape,cv 0,.bool false,cv 0,cv 0,cv 0,cv 0,aA,cv 0,cv 0],114,1,false⟩:=⟨_,rfl⟩;have l2:H2.length=H.length+2:=by rw[iD,cB,l1]
 obtain⟨o2,eo2⟩: ∃z,z=(o1.up H.length (-9)).up p p:=⟨_,rfl⟩;have f1:Fr H o1 H1 (o1.up H.length (-9)) []:=by rw[ga];exact(Fr.refl H o1 []).new _ _
 have f2:Fr H o1 H2 o2 []:=by rw[iD,eo2,ep];exact f1.new _ _
 have gp:H2.get p=some ⟨[tape,cv 0,.bool false,cv 0,cv 0,cv 0,cv 0,aA,cv 0,cv 0],114,1,false⟩:=by rw[iD,ep];exact aL
 have vi:o2 p=p:=by rw[eo2];exact aP
 have CS:du H2 o2 (-50) tape T:=Pg.fr f2 (by simp)
 have gf2:H2.get f=some ⟨fc proc a b' pp qq op tape done r0 s0 rec laid,51,1,false⟩:=by rw[f2.same f Fa (by simp)];exact hf
 have Di: ∀i,i<H.length→o2 i=o1 i:=λi hi=>f2.own i hi
 have GM:o2 f≠(p:Int):=by rw[Di f Fa];have:=o1v f;omega
 have oi:o2 H.length= -9:=by rw[eo2,dO (by omega)];exact aP
 have g2:H2.get H.length=some ⟨oc gL aA,49,1,false⟩:=by rw[iD,dh (by omega)];exact g1
 have n0:aS H 49 1 [cv 0,.bool false,cv 0,cv 0,cv 0,aA,aA,cv 0,.bool false,cv 0,cv 0,cv 0,aA]=(pv H.length,H1):=by rw[ga];rfl
 have gf1:H1.get f=some ⟨fc proc a b' pp qq op tape done r0 s0 rec laid,51,1,false⟩:=by rw[ga,dh Fa];exact hf
 have Lt:aq (.pointer (some ⟨f,22,none⟩)) H1=some tape:=an f 22 H1 gf1;have Lp:aq (pv f) H2=some (cv proc):=an f 0 H2 gf2;have bx:=Yu ta T.length tc H1;rw[←et, ←iD, ←ep] at bx;have ab:=abi ta T.length tc;rw[←et] at ab;have fin: ∀{v:Value} {H3:aa},I8 pr T H2 o2 p v H3→∃r s,v= .agg (oc r s).toArray∧∃H4,bE 13 (pv H.length) (.agg (oc r s).toArray) H3=some (undef,H4)∧c8 13 (pv H.length) H4=some (.agg (oc r s).toArray)∧
   ∃p' r' s' o',(Value.tuple #[pv p,.agg (oc r s).toArray])= .tuple #[pv p',.agg (oc r' s').toArray]∧Ext H H4∧H.length≤p'∧Tb H4 o' p' (prA pr T)∧gT H4 o' (-41) s' r'.res.list∧r'.res.list.length≤1048577∧prO pr T r'∧∀i,i<H.length→o' i≠ -41∧o' i≠ -51:=by
  rintro v H3 ⟨r,s,o3,rfl,hr3,f3,Yv,VL,ho3⟩;obtain⟨sa,sc,es⟩:=Yv.isSlice;have g3:H3.get H.length=some ⟨oc gL aA,49,1,false⟩:=by rw[f3.same _ (ar g2) (by rw[oi];simp)];exact g2
  have o3i:o3 H.length= -9:=by rw[f3.own _ (ar g2)];exact oi
  have f4:Fr H3 o3 (H3.put H.length ⟨oc r s,49,1,false⟩) o3 [-9]:=(Fr.refl H3 o3 [-9]).put λ_=>by simp[o3i]
  refine⟨r,s,rfl,_,uF H.length r es gL aA H3 g3,zn H.length r s (T:=49) _ (aG g3),p,r,s,o3,rfl,⟨λj hj=>?_,?_⟩,by omega,?_,Yv.fr f4 (by simp),VL,ho3,λi hi=>?_⟩
  ·rw[fv (by omega),f3.slot j (by omega) (by rw[Di j hj];have:=o1v j;simp;omega)]
   exact f2.slot j hj (by simp)
  ·rw[iL];have:=f3.size;omega
  ·obtain⟨tp,w,W,b,i,nk,na,nx,ny,oO,la,ty,gq,hw,hA⟩:=hr3;exact⟨tp,w,W,b,i,nk,na,nx,ny,oO,la,ty,by rw[bz (by omega)];exact gq,hw.fr f4 (by simp),hA⟩
  ·have:=f3.own i (by omega)
   have:=Di i hi
   have:=o1v i
   omega
 have hn:=hp.num;simp -implicitDefEqProofs only[F70,n0,Lt,ab,bx,Lp,Nat.add_zero,sS,Nat.reduceAdd];refine Ev.leq (λhq=>?_) (λhq=>?_)<;>try simp -implicitDefEqProofs only[Lp,Nat.add_zero,sS,Nat.reduceAdd]
 ·refine Ev.call (abh gp vi CS hT gf2 GM hp hq) ?_;intro v H3 UU;obtain⟨r,s,rfl,H4,A2,A3,uR⟩:=fin UU;simp -implicitDefEqProofs only[A2,A3,sS,Nat.reduceAdd];exact Ev.ret uR
 refine Ev.leq (λhq=>?_) (λhq=>?_)<;>try simp -implicitDefEqProofs only[sS,Nat.reduceAdd]
 ·omega
 refine Ev.call (Yt gp vi CS hT gf2 GM hp (by omega) h0) ?_
 intro v H3 UU;obtain⟨r,s,rfl,H4,A2,A3,uR⟩:=fin UU;simp -implicitDefEqProofs only[A2,A3,sS,Nat.reduceAdd];exact Ev.ret uR
def gy (H:aa)(o:aj)(f:Nat)(tf tg:Int)(pr:Pr)(T:List Int)(done:Bool)(r:eO)(rec:Int):Prop:=
 ∃(proc a b p q:Int) (op:kf) (tape s:Value) (laid:Int),H.get f=some ⟨fc proc a b p q op tape done r s rec laid,51,1,false⟩∧o f=tf∧oM H o tg tape T∧zp pr proc a b p q op∧gT H o (-41) s r.res.list∧r.res.list.length≤1048577∧(pr= .rd→r.word=0∧r.num=0)
def Fe (pr:Pr)(T:List Int)(done:Bool)(r:eO)(rec:Int):Prop:=
 match pr with
 | .rd=>True
 | .ex t=>done= !(Y.ah t (Bt T)).2.off∧rec=(Y.ah t (Bt T)).2.oO∧(done=true→r=(Y.ah t (Bt T)).1)
theorem gy.fr {ps:List Int}(h:gy H o f tf tg pr T done r0 rec)(fr:Fr H o H' o' ps)(h1:tf ∉ ps)(h2:tg ∉ ps)(h3:(-41:Int) ∉ ps):gy H' o' f tf tg pr T done r0 rec:=by
 obtain⟨proc,a,b,p,q,op,tape,s,laid,g,ho,ht,hp,hs,hl⟩:=h;exact⟨proc,a,b,p,q,op,tape,s,laid,by rw[fr.same f (ar g) (by rw[ho];exact h1)];exact g,by rw[fr.own f (ar g)];exact ho,ht.fr fr h2,hp,hs.fr fr h3,hl⟩
theorem Yw (f:Nat)(r:eO){s:Value}{a0:Option Addr}{k c:Nat}(es:s= .slice a0 k c){T:TypeId}(H:aa)(h:H.get f=some ⟨fc proc a b' pp qq op tape done r0 s0 rec laid,T,1,false⟩):bE 13 (.pointer (some ⟨f,24,none⟩)) (.agg (oc r s).toArray) H=some (undef,H.put f ⟨fc proc a b' pp qq op tape done r s rec laid,T,1,false⟩):=by
 subst es;simp[bE,bX,h,Value.cells,known,aD,dv];rfl
def abj (o o3:aj)(n:Nat):aj:=λi=>if i<n then o i else if o3 i= -41 then -41 else if o3 i= -51 then -51 else -9
theorem ES (h:gy H o f tf tg pr T false r0 rec)(hT:T.length≤1048576)(h1:tf≠tg∧tf≠ -41):aF (run G) 69 [pv f] H λv H'=>∃o' ET r' kp,Fr H o H' o' [tf]∧gy H' o' f tf tg pr T ET r' kp∧Fe pr T ET r' kp:=by
 refine Ev.up (t:=λk=>F69 (run G k) k (pv f) H) ?_ λk=>WI ..
 obtain⟨proc,a,b,pq,qq,op,tape,s0,laid,g,ho,ht,hp,hs,hl,h0⟩:=h;have Fa:=ar g;simp -implicitDefEqProofs only[F69,sS,Nat.reduceAdd];refine Ev.call (PI g ht.ints hT hp h0) ?_;rintro v H1 ⟨p,r,s,o3,rfl,ex,Y8,hr3,Yv,VL,hO,Td⟩;obtain⟨sa,sc,es⟩:=Yv.isSlice;have l1:=ex.size;have g1:=ex.get g;obtain⟨H2,iD⟩: ∃z,z=H1.new ⟨oc gL aA,49,1,false⟩:=⟨_,rfl⟩;have l2:H2.length=H1.length+1:=by rw[iD,cB]
 have gb:H2.get H1.length=some ⟨oc gL aA,49,1,false⟩:=by rw[iD];exact aL
 have n0:aS H1 49 1 [cv 0,.bool false,cv 0,cv 0,cv 0,aA,aA,cv 0,.bool false,cv 0,cv 0,cv 0,aA]=(pv H1.length,H2):=by rw[iD];rfl
 have A2:=uF H1.length r es gL aA H2 gb;obtain⟨H3,mA⟩: ∃z,z=H2.put H1.length ⟨oc r s,49,1,false⟩:=⟨_,rfl⟩;rw[←mA] at A2;have l3:H3.length=H1.length+1:=by rw[mA,iL,l2]
 have hold: ∀j,j<H1.length→H3[j]? =H1[j]? :=λj hj=>by rw[mA,fv (by omega),iD,mL hj]
 have gb3:H3.get H1.length=some ⟨oc r s,49,1,false⟩:=by rw[mA];exact aG gb
 obtain⟨tp,w,W,off,i,nk,na,nx,ny,zt,EU,ty,gp,_,hA⟩:=hr3;have Fv:=ar gp;have gp3:H3.get p=some ⟨[tp,cv i,.bool off,cv nk,cv na,cv nx,cv ny,w,cv zt,cv EU],ty,1,false⟩:=by rw[ek (hold p Fv)];exact gp
 have Yx:H3.get f=some ⟨fc proc a b pq qq op tape false r0 s0 rec laid,51,1,false⟩:=by rw[ek (hold f (by omega))];exact g1
 have L8:aq (.pointer (some ⟨p,8,none⟩)) H3=some (cv zt):=an p 8 H3 gp3;have S37:=gX f 37 zt H3 Yx rfl (by simp)
 obtain⟨H4,pP⟩: ∃z,z=H3.put f ⟨fc proc a b pq qq op tape false r0 s0 zt laid,51,1,false⟩:=⟨_,rfl⟩;have e37:(fc proc a b pq qq op tape false r0 s0 rec laid).set 37 (cv zt)=fc proc a b pq qq op tape false r0 s0 zt laid:=rfl;simp only[e37] at S37;rw[←pP] at S37;have gp4:H4.get p=some ⟨[tp,cv i,.bool off,cv nk,cv na,cv nx,cv ny,w,cv zt,cv EU],ty,1,false⟩:=by rw[pP,bz (by omega)];exact gp3
 have Te:H4.get f=some ⟨fc proc a b pq qq op tape false r0 s0 zt laid,51,1,false⟩:=by rw[pP];exact aG Yx
 have L9:aq (.pointer (some ⟨p,9,none⟩)) H4=some (cv EU):=an p 9 H4 gp4;have S38:=gX f 38 EU H4 Te rfl (by simp)
 obtain⟨H5,tZ⟩: ∃z,z=H4.put f ⟨fc proc a b pq qq op tape false r0 s0 zt EU,51,1,false⟩:=⟨_,rfl⟩;have e38:(fc proc a b pq qq op tape false r0 s0 zt laid).set 38 (cv EU)=fc proc a b pq qq op tape false r0 s0 zt EU:=rfl;simp only[e38] at S38;rw[←tZ] at S38;have gp5:H5.get p=some ⟨[tp,cv i,.bool off,cv nk,cv na,cv nx,cv ny,w,cv zt,cv EU],ty,1,false⟩:=by rw[tZ,bz (by omega)];exact gp4
 have gf5:H5.get f=some ⟨fc proc a b pq qq op tape false r0 s0 zt EU,51,1,false⟩:=by rw[tZ];exact aG Te
 have L2:aq (.pointer (some ⟨p,2,none⟩)) H5=some (.bool off):=an p 2 H5 gp5;simp -implicitDefEqProofs only[n0,A2,L8,S37,L9,S38,L2,sS,Nat.reduceAdd]
 let o':aj:=abj o o3 H.length
 have ow: ∀i,i<H.length→o' i=o i:=λi hi=>if_pos hi
 have out: ∀{Hx:aa} {dn:Bool} {rr:eO} {ss:Value},Hx.get f=some ⟨fc proc a b pq qq op tape dn rr ss zt EU,51,1,false⟩→(∀j,j≠f→Hx[j]? =H3[j]?)→Hx.length=H3.length→((rr=r0∧ss=s0)∨(rr=r∧ss=s))→Fe pr T dn rr zt→∃o' ET r' kp,Fr H o Hx o' [tf]∧gy Hx o' f tf tg pr T ET r' kp∧Fe pr T ET r' kp:=λ{Hx dn rr ss} gx hx hlx hrs dG=>by
  have fr:Fr H o Hx o' [tf]:=⟨λj hj hn=>by rw[hx j (by rintro rfl;exact hn (by simp[ho])),hold j (by omega)];exact ex.old j hj,ow,by omega⟩
  refine⟨o',dn,rr,zt,fr,⟨proc,a,b,pq,qq,op,tape,ss,EU,gx,by rw[ow f Fa];exact ho,ht.fr fr (by simp;omega),hp,?_⟩,dG⟩
  rcases hrs with⟨rfl,rfl⟩|⟨rfl,rfl⟩
  ·exact⟨hs.fr fr (by simp;omega),hl,h0⟩
  ·refine⟨Yv.mv λj hj hoj=>?_,VL,λe=>by subst e;exact hO⟩
   have Y7:H.length≤j:=by
    rcases Nat.lt_or_ge j H.length with g|g
    ·exact absurd hoj (Td j g).1
    ·exact g
   refine⟨ek (by rw[hx j (by omega),hold j hj]),?_⟩
   show(if j<H.length then o j else if o3 j= -41 then(-41:Int) else if o3 j= -51 then -51 else -9)= -41
   rw[if_neg (by omega),if_pos hoj]
 have h53: ∀j,j≠f→H5[j]? =H3[j]? :=λj hj=>by rw[tZ,fv hj,pP,fv hj]
 have l5:H5.length=H3.length:=by rw[tZ,iL,pP,iL]
 have dG: ∀dn rr,(off=false→dn=true∧rr=r)→(off=true→dn=false)→Fe pr T dn rr zt:=λdn rr k1 k2=>by
  cases pr with
  |rd=>trivial
  |ex t=>
   obtain⟨e1,e2,_⟩:=hA;refine⟨?_,e2,λhd=>?_⟩
   ·rw[←e1];cases off with
    |true=>exact k2 rfl
    |false=>exact(k1 rfl).1
   ·cases off with
    |true=>rw[k2 rfl] at hd;cases hd
    |false=>rw[(k1 rfl).2];exact hO
 refine Ev.br (λhq=>?_) (λhq=>?_)<;>try simp -implicitDefEqProofs only[sS,Nat.reduceAdd]
 ·have ho0:off=false:=by cases off<;>simp_all
  have S23:=sj f 23 (.bool true) H5 gf5 rfl (by simp) rfl rfl rfl
  obtain⟨H6,Dk⟩: ∃z,z=H5.put f ⟨fc proc a b pq qq op tape true r0 s0 zt EU,51,1,false⟩:=⟨_,rfl⟩;have e23:(fc proc a b pq qq op tape false r0 s0 zt EU).set 23 (.bool true)=fc proc a b pq qq op tape true r0 s0 zt EU:=rfl;simp only[e23] at S23;rw[←Dk] at S23;have gf6:H6.get f=some ⟨fc proc a b pq qq op tape true r0 s0 zt EU,51,1,false⟩:=by rw[Dk];exact aG gf5
  have gb6:H6.get H1.length=some ⟨oc r s,49,1,false⟩:=by rw[Dk,ek (fv (by omega)),ek (h53 _ (by omega))];exact gb3
  have A6:=zn H1.length r s H6 gb6;have S24:=Yw f r es H6 gf6;simp -implicitDefEqProofs only[S23,A6,S24,sS,Nat.reduceAdd];exact Ev.ret (out (aG gf6) (λj hj=>by rw[fv hj,Dk,fv hj];exact h53 j hj) (by rw[iL,Dk,iL];exact l5) (.inr ⟨rfl,rfl⟩) (dG _ _ (λ_=>⟨rfl,rfl⟩) λh=>by rw[ho0] at h;cases h))
 ·have ho0:off=true:=by cases off<;>simp_all
  exact Ev.ret (out gf5 h53 l5 (.inl ⟨rfl,rfl⟩) (dG _ _ (λh=>by rw[ho0] at h;cases h) λ_=>rfl))
end
section
open Go.Proofs.YtgfgglponbmgmaaGreatA
variable {G:ae} {H H':aa} {o o':aj} {p c mp f n i:Nat} {K K':aa→aj→Prop} {tf tg q:Int} {x:Value} {l:PL} {cs:List Value} {proc a b' pp qq rec laid:Int} {op:kf} {tape s0:Value} {done:Bool} {r0:eO} {T:List Int} {m m':Y.Mm} {pr:Pr}
structure FT (tf tg:Int):Prop where
 ne:tf≠tg
 lt:tf< -100
 lg:tg< -100
theorem oM.oo {s:Value}{cs:List Int}(h:oM H o q s cs):oo s s=true:=by
 obtain⟨a,c,rfl⟩:=h.isSlice;exact kK ..
def qO (pr:Pr)(done:Bool)(T:List Int)(m:Y.Mm)(T':List Int)(m':Y.Mm):Prop:=
 (done=true∧T'=T∧m'=m)∨(done=false∧match pr with
  | .rd=>m'=m∧∃z,T'=T++[z]
  | .ex t=>∃q k,Y.after t T= .ask q k∧T'=T++[(Y.dT m q).1]∧m'=(Y.dT m q).2)
theorem qO.len {pr:Pr}{done:Bool}{T T':List Int}{m m':Y.Mm}(h:qO pr done T m T' m'):T'.length≤T.length+1:=by
 rcases h with⟨_,rfl,_⟩|⟨_,h⟩
 ·omega
 ·cases pr with
  |rd=>obtain⟨_,z,rfl⟩:=h;simp
  |ex t=>obtain⟨q,k,_,rfl,_⟩:=h;simp
theorem Ms {t:Y.Tr eO}{T:List Int}(h:(Y.ah t (Bt T)).2.off=true): ∃q k,Y.after t T= .ask q k∧(Y.ah t (Bt T)).2.next=q:=by
 have:=Y.sq t (Bt T) rfl
 revert this
 rw[show(Bt T).rest=T from rfl]
 cases Y.after t T with
 |ret a=>rintro⟨_,h2⟩;rw[h2] at h;cases h
 |ask q k=>rintro⟨_,h2⟩;exact⟨q,k,rfl,h2⟩
 |off k=>exact False.elim
 |rc r t=>exact False.elim
 |ld t=>exact False.elim
theorem Jb (h:gy H o f tf tg pr T done r0 rec)(dG:Fe pr T done r0 rec)(hm:lJ H o mp m)(hT:T.length<1048576)(ht:FT tf tg):aF (run G) 20 [pv f,pv mp] H λv H'=>∃o' T' m' d r' kp,v= .bool d∧Fr H o H' o' [tf,tg, -70, -71]∧gy H' o' f tf tg pr T' d r' kp∧Fe pr T' d r' kp∧lJ H' o' mp m'∧qO pr done T m T' m':=by
 refine Ev.up (t:=λk=>F20 (run G k) k (pv f) (pv mp) H) ?_ λk=>VU ..
 obtain⟨proc,a,b,pq,qq,op,tape,s0,laid,g,ho,hs,hp,tU,hl,h0⟩:=id h;have dz:=ht.ne;have gG:=ht.lt;have hlg:=ht.lg;have Fa:=ar g;have L23:aq (.pointer (some ⟨f,23,none⟩)) H=some (.bool done):=an f 23 H g;simp -implicitDefEqProofs only[F20,L23,sS,Nat.reduceAdd];refine Ev.br (λhd=>?_) (λhd=>?_)<;>try simp -implicitDefEqProofs only[sS,Nat.reduceAdd]
 ·subst hd;exact Ev.ret ⟨o,T,m,true,_,_,rfl,Fr.refl _ _ _,h,dG,hm,.inl ⟨rfl,rfl,rfl⟩⟩
 subst hd;refine Ev.call (PI g hs.ints (by omega) hp h0) ?_
 rintro v H1 ⟨p,r,s,o3,rfl,ex,Y8,hr3,Yv,VL,hO,Td⟩;obtain⟨sa,sc,es⟩:=Yv.isSlice;have l1:=ex.size;have g1:=ex.get g;have QK:mp<H.length:=by obtain⟨_,_,_,_,_,gm,_⟩:=hm;exact ar gm
 obtain⟨tp,w,W,off,i,nk,na,nx,ny,zt,EU,ty,gp,hw,hA⟩:=hr3;have Fv:=ar gp;obtain⟨H2,iD⟩: ∃z,z=H1.new ⟨oc gL aA,49,1,false⟩:=⟨_,rfl⟩;have l2:H2.length=H1.length+1:=by rw[iD,cB]
 have gb:H2.get H1.length=some ⟨oc gL aA,49,1,false⟩:=by rw[iD];exact aL
 have n0:aS H1 49 1 [cv 0,.bool false,cv 0,cv 0,cv 0,aA,aA,cv 0,.bool false,cv 0,cv 0,cv 0,aA]=(pv H1.length,H2):=by rw[iD];rfl
 have A2:=uF H1.length r es gL aA H2 gb;obtain⟨H3,mA⟩: ∃z,z=H2.put H1.length ⟨oc r s,49,1,false⟩:=⟨_,rfl⟩;rw[←mA] at A2;have hold: ∀j,j<H1.length→H3[j]? =H1[j]? :=λj hj=>by rw[mA,fv (by omega),iD,mL hj]
 let o1:aj:=abj o o3 H.length
 have Zp:Fr H o H3 o1 []:=⟨λj hj _=>by rw[hold j (by omega)];exact ex.old j hj,λj hj=>if_pos hj,by rw[mA,iL,l2];omega⟩
 have gp3:H3.get p=some ⟨[tp,cv i,.bool off,cv nk,cv na,cv nx,cv ny,w,cv zt,cv EU],ty,1,false⟩:=by rw[ek (hold p Fv)];exact gp
 have Yx:H3.get f=some ⟨fc proc a b pq qq op tape false r0 s0 rec laid,51,1,false⟩:=by rw[ek (hold f (by omega))];exact g1
 have T3:=hm.fr Zp (by simp) (by simp)
 have AF:=oM.oo hs;have LT3:aq (.pointer (some ⟨f,22,none⟩)) H3=some tape:=an f 22 H3 Yx;have LA:c8 5 (.pointer (some ⟨p,3,none⟩)) H3=some (nv nk na nx ny w):=by simp[c8,aR,gp3]
 have Uq:eM H3 w W:=hw.1.keep λk b e dz=>ek (hold _ (hw.2 b _ _ e dz).1)
 have Yr:W≠[]→∀a n c,w= .slice (some a) n c→a.block≠mp:=λdz a n c e hh=>by
  have:=(hw.2 a n c e dz).2
  rw[hh] at this;exact(Td mp QK).2 this
 simp -implicitDefEqProofs only[n0,A2,LT3,LA,sS,Nat.reduceAdd];have zP:JM (λH' o'=>Fr H3 o1 H' o' [-70, -71]) mp m H3:=⟨bK.base (by simp),o1,T3,Fr.refl _ _ _⟩
 have Vv:aF (run G) 71 [pv mp,nv nk na nx ny w] H3 λv H'=>∃u m',v=cv u∧JM (λH' o'=>Fr H3 o1 H' o' [-70, -71]) mp m' H'∧qO pr false T m (T++[u]) m':=by
  cases pr with
  |rd=>
   refine(adx zP hA na nx ny Uq).mono ?_;rintro v H' ⟨⟨u,rfl⟩,hj⟩;exact⟨u,m,rfl,hj,.inr ⟨rfl,rfl,u,rfl⟩⟩
  |ex t=>
   obtain⟨e1,e2,hq⟩:=hA;have abk:(Y.ah t (Bt T)).2.off=true:=by
    have:=dG.1
    revert this;cases(Y.ah t (Bt T)).2.off<;>simp
   obtain⟨q,k,ea,en⟩:=Ms abk;have hq':=hq (e1.trans abk);rw[en] at hq';refine(adw zP hq' Uq Yr).mono ?_;rintro v H' ⟨rfl,hj⟩;exact⟨_,_,rfl,hj,.inr ⟨rfl,q,k,ea,rfl,rfl⟩⟩
 refine Ev.call Vv ?_;rintro v H4 ⟨u,m',rfl,⟨_,o4,hm4,fr4⟩,zu⟩;have abl:o1 f=tf:=by show(if f<H.length then o f else _)=tf;rw[if_pos Fa];exact ho
 have Te:H4.get f=some ⟨fc proc a b pq qq op tape false r0 s0 rec laid,51,1,false⟩:=by rw[fr4.same f (ar Yx) (by rw[abl];simp;omega)];exact Yx
 have abm:o4 f=tf:=by rw[fr4.own f (ar Yx)];exact abl
 have Yy:oM H4 o4 tg tape T:=(hs.fr Zp (by simp)).fr fr4 (by simp;omega)
 have adA:gT H4 o4 (-41) s0 r0.res.list:=(tU.fr Zp (by simp)).fr fr4 (by simp)
 obtain⟨H5,tZ⟩: ∃z,z=H4.new ⟨[cv u],2,1,false⟩:=⟨_,rfl⟩;have b1:=Ag u H4;rw[←tZ] at b1;have gf5:H5.get f=some ⟨fc proc a b pq qq op tape false r0 s0 rec laid,51,1,false⟩:=by rw[tZ,dh (ar Te)];exact Te
 have LT4:aq (.pointer (some ⟨f,22,none⟩)) H4=some tape:=an f 22 H4 Te;have LT5:aq (.pointer (some ⟨f,22,none⟩)) H5=some tape:=an f 22 H5 gf5;obtain⟨x',H6,o6,e6,s6,fr6⟩:=Pa 2 2 u Yy (by omega)
 rw[←tZ] at e6;have gf6:H6.get f=some ⟨fc proc a b pq qq op tape false r0 s0 rec laid,51,1,false⟩:=by rw[fr6.same f (ar Te) (by rw[abm];simp;omega)];exact Te
 have abn:o6 f=tf:=by rw[fr6.own f (ar Te)];exact abm
 obtain⟨xa,xc,exx⟩:=s6.isSlice;have S22:=Gm f 22 xa (T++[u]).length xc H6 gf6 rfl (by simp)
 rw[←exx] at S22;have e22:(fc proc a b pq qq op tape false r0 s0 rec laid).set 22 x'=fc proc a b pq qq op x' false r0 s0 rec laid:=rfl;simp only[e22] at S22;obtain⟨H7,Qz⟩: ∃z,z=H6.put f ⟨fc proc a b pq qq op x' false r0 s0 rec laid,51,1,false⟩:=⟨_,rfl⟩;rw[←Qz] at S22;have fr7:Fr H6 o6 H7 o6 [tf]:=by rw[Qz];exact(Fr.refl H6 o6 [tf]).put λ_=>by simp[abn]
 have hf7:gy H7 o6 f tf tg pr (T++[u]) false r0 rec:=⟨proc,a,b,pq,qq,op,x',s0,laid,by rw[Qz];exact aG gf6,abn,s6.fr fr7 (by simp;omega),hp,(adA.fr fr6 (by simp;omega)).fr fr7 (by simp;omega),hl,h0⟩
 have hm7:lJ H7 o6 mp m':=(hm4.fr fr6 (by simp;omega) (by simp;omega)).fr fr7 (by simp;omega) (by simp;omega)
 have frA:Fr H o H7 o6 [tf,tg, -70, -71]:=(((Zp.trans fr4 (rs:=[tf,tg, -70, -71]) (by simp) (by simp)).trans fr6 (rs:=[tf,tg, -70, -71]) (by simp) (by simp))).trans fr7 (by simp) (by simp)
 simp -implicitDefEqProofs only[b1,e6,S22,LT3,LT4,LT5,AF,sS,Nat.reduceAdd];refine Ev.call (ES hf7 (by simp;omega) ⟨by omega,by omega⟩) ?_
 rintro v H8 ⟨o8,d,r',kp,fr8,hf8,adB⟩;obtain⟨abo,a',b',p',q',op',PG,s',PH,g8,_⟩:=id hf8;have L8:aq (.pointer (some ⟨f,23,none⟩)) H8=some (.bool d):=an f 23 H8 g8;simp -implicitDefEqProofs only[L8,sS,Nat.reduceAdd];exact Ev.ret ⟨o8,T++[u],m',d,r',kp,rfl,frA.trans fr8 (by simp) (by simp),hf8,adB,hm7.fr fr8 (by simp;omega) (by simp;omega),zu⟩
theorem Tf (a b p q:Int)(op:kf)(H:aa):dJ 41 (.agg (ax a b p q op).toArray) H=some (pv H.length,H.new ⟨ax a b p q op,41,1,false⟩):=by
 simp[dJ,Value.cells,aD,aS]
theorem Yz (i:Nat)(a b p q:Int)(op:kf)(H:aa)(h:H.get i=some ⟨ax a b p q op,41,1,false⟩):c8 21 (pv i) H=some (.agg (ax a b p q op).toArray):=by
 simp[c8,aR,h]
theorem Tg (proc a b p q:Int)(op:kf):aE Tryz.prog 51 [(0,cv proc),(1,.agg (ax a b p q op).toArray)]=some (.agg (fc proc a b p q op aA false gL aA 0 0).toArray):=by kernel_rfl
theorem PJ (proc a b p q:Int)(op:kf)(H:aa):dJ 51 (.agg (fc proc a b p q op aA false gL aA 0 0).toArray) H=some (pv H.length,H.new ⟨fc proc a b p q op aA false gL aA 0 0,51,1,false⟩):=by
 simp[dJ,Value.cells,aD,aS]
theorem PK (ht:FT tf tg){a b p q:Int}(hp:zp pr proc a b p q op)(H:aa)(o:aj):aF (run G) 17 [cv proc,.agg (ax a b p q op).toArray] H λv H'=>∃f o' done r rec,v=pv f∧Fr H o H' o' [tf]∧gy H' o' f tf tg pr [] done r rec∧Fe pr [] done r rec:=by
 refine Ev.up (t:=λk=>F17 (run G k) k (cv proc) (.agg (ax a b p q op).toArray) H) ?_ λk=>Wa ..
 have dz:=ht.ne;have gG:=ht.lt;obtain⟨H1,ga⟩: ∃z,z=H.new ⟨ax a b p q op,41,1,false⟩:=⟨_,rfl⟩;have l1:H1.length=H.length+1:=by rw[ga,cB]
 have g1:H1.get H.length=some ⟨ax a b p q op,41,1,false⟩:=by rw[ga];exact aL
 obtain⟨H2,iD⟩: ∃z,z=H1.new ⟨fc proc a b p q op aA false gL aA 0 0,51,1,false⟩:=⟨_,rfl⟩;have b1:=Tf a b p q op H;rw[←ga] at b1;have b2:=PJ proc a b p q op H1;rw[←iD] at b2;have A1:=Yz H.length a b p q op H1 g1;have f1:Fr H o H1 (o.up H.length (-9)) []:=by rw[ga];exact(Fr.refl H o []).new _ _
 have f2:Fr H o H2 ((o.up H.length (-9)).up H1.length tf) []:=by rw[iD];exact f1.new _ _
 have Zq:gy H2 ((o.up H.length (-9)).up H1.length tf) H1.length tf tg pr [] false gL 0:=⟨proc,a,b,p,q,op,aA,aA,0,by rw[iD];exact aL,aP,.inl ⟨rfl,rfl⟩,hp,.nil,by simp[gL,bQ],λ_=>⟨rfl,rfl⟩⟩
 have ab:=Tg proc a b p q op;simp -implicitDefEqProofs only[F17,b1,A1,ab,b2,sS,Nat.reduceAdd];refine Ev.call (ES Zq (by simp) ⟨by omega,by omega⟩) ?_
 rintro v H3 ⟨o3,d,r',kp,Zp,hf3,YA⟩
 try simp -implicitDefEqProofs only[sS,Nat.reduceAdd]
 exact Ev.ret ⟨H1.length,o3,d,r',kp,rfl,f2.trans Zp (by simp) (by simp),hf3,YA⟩
end
theorem uI:Tryz.prog.underlying 3=some (.int .i64):=by kernel_rfl
theorem u64:Tryz.prog.underlying 2=some (.int .i64):=by kernel_rfl
section
variable {G:ae} {H:aa} {o:aj} {q:Int} {x:Value} {l:PL} {n p:Nat}
end
structure jE where
 kind:Int
 PM:Int
 no:Int
 op:kf
 res:eN
 pick:Int
section
variable {H:aa} {o:aj} {p:Int} {s:Value} {cs:List Value} {b:Option Nat}
end
abbrev fD (e:jE)(s:Value):List Value:=[cv e.kind,cv e.PM,cv e.no,cv e.op.kind,cv e.op.key,cv e.op.value,cv e.res.Ex,.bool e.res.found,cv e.res.key,cv e.res.value,cv e.res.n,s,cv e.pick]
abbrev evA (e:jE)(s:Value):Value:=.agg #[cv e.kind,cv e.PM,cv e.no,cv e.op.kind,cv e.op.key,cv e.op.value,cv e.res.Ex,.bool e.res.found,cv e.res.key,cv e.res.value,cv e.res.n,s,cv e.pick]
section
variable {H:aa} {b:Nat} {t:TypeId} {r:eN} {e:jE} {s:Value}
end
section
variable {H:aa} {o:aj} {q:Int} {n p:Nat} {l:PL}
end
end Go.Proofs.YtgfgglponbmgmaaGreat.Fun
namespace Go.Proofs.YtgfgglponbmgmaaGreat.Fun
open Go Go.RowKit Go.Proofs.YtgfgglponbmgmaaGreatA.Am
set_option maxRecDepth 10000
section
variable {G:ae} {H:aa} {o:aj} {q:Int} {n c:Nat} {sm:Value} {bm:Option Nat} {t:Nat} {ms:List (Nat×PL)} {ty:TypeId} {inv:Int}
end
end Go.Proofs.YtgfgglponbmgmaaGreat.Fun
namespace Go.Proofs.YtgfgglponbmgmaaGreat.Fun
open Go Go.RowKit Go.Proofs.YtgfgglponbmgmaaGreatA.Am
set_option maxRecDepth 10000
section
variable {H:aa} {o:aj} {q:Int} {n c:Nat} {e:jE} {x:Value}
end
end Go.Proofs.YtgfgglponbmgmaaGreat.Fun
namespace Go.Proofs.YtgfgglponbmgmaaGreat.Fun
open Go Go.RowKit Go.Proofs.YtgfgglponbmgmaaGreatA.Am
set_option maxRecDepth 10000
section
variable {H:aa} {o:aj} {q:Int} {n c:Nat} {e:jE} {x:Value}
end
end Go.Proofs.YtgfgglponbmgmaaGreat.Fun
namespace Go.Proofs.YtgfgglponbmgmaaGreat.Fun
open Go Go.RowKit Go.Proofs.YtgfgglponbmgmaaGreatA.Am
set_option maxRecDepth 10000
section
variable {H H':aa} {o o':aj} {q q2:Int} {x:Value} {L:List jE}
end
section
variable {H:aa} {o:aj} {q q2:Int} {n:Nat} {x:Value} {L:List jE} {B:Nat}
end
def Bu:List (jE×Value)→List Value
 | []=>[]
 |x::l=>fD x.1 x.2++Bu l
theorem Jc: ∀l:List (jE×Value),(Bu l).length=13*l.length
 | []=>rfl
 |x::l=>by simp only[Bu,List.length_append,List.length_cons,Jc l];simp;omega
theorem Da: ∀a b:List (jE×Value),Bu (a++b)=Bu a++Bu b
 | [],b=>rfl
 |x::a,b=>by simp only[List.cons_append,Bu,Da a b,List.append_assoc]
def GN (H:aa)(o:aj)(q q2:Int)(x:Value)(L:List jE):Prop:=
 (x= .slice none 0 0∧L=[])∨∃i cap rest ty es,x= .slice (some ⟨i,0,none⟩) L.length cap∧H.get i=some ⟨Bu es++rest,ty,13,false⟩∧L=es.map (λz=>z.1)∧13*L.length+rest.length=13*cap∧o i=q∧∀z∈es,gT H o q2 z.2 z.1.res.list
section
variable {H H':aa} {o o':aj} {q q2:Int} {x:Value} {L:List jE}
theorem GN.fr {ps:List Int}(h:GN H o q q2 x L)(f:Fr H o H' o' ps)(h1:q ∉ ps)(h2:q2 ∉ ps):GN H' o' q q2 x L:=by
 rcases h with h|⟨i,cap,rest,ty,es,e1,e2,e3,e4,e5,e6⟩
 ·exact .inl h
 ·exact .inr ⟨i,cap,rest,ty,es,e1,by rw[f.same i (ar e2) (by rw[e5];exact h1)];exact e2,e3,e4,by rw[f.own i (ar e2)];exact e5,λz hz=>(e6 z hz).fr f h2⟩
theorem Th (x:jE×Value)(a:Option Addr)(m c:Nat)(es:x.2= .slice a m c):(fD x.1 x.2).all aD=true:=by
 rw[es];rfl
theorem GN.app {j:Nat}{e:jE}{s:Value}{t tE:TypeId}(h:GN H o q q2 x L)(hj:H.get j=some ⟨fD e s,t,13,false⟩)(hs:gT H o q2 s e.res.list)(hq:q2≠q)(hl:L.length<4294967295):
  ∃x' H' o',df tE 13 120 x (.slice (some ⟨j,0,none⟩) 1 1) H=some (x',H')∧GN H' o' q q2 x' (L++[e])∧Fr H o H' o' [q]:=by
 have uL:aR H j 0 13=some (fD e s):=by simp[aR,hj]
 obtain⟨sa,sm,esl⟩:=hs.isSlice;have zK:=Th (e,s) _ _ _ esl;rcases h with⟨rfl,rfl⟩|⟨i,cap,rest,ty,es,rfl,h2,rfl,h4,h5,h6⟩
 ·have f:Fr H o (H.new ⟨fD e s,tE,13,false⟩) (o.up H.length q) [q]:=(Fr.refl _ _ _).new _ _;refine⟨.slice (some ⟨H.length,0,none⟩) 1 1,H.new ⟨fD e s,tE,13,false⟩,o.up H.length q,?_,.inr ⟨H.length,1,[],tE,[(e,s)],rfl,by rw[aL];simp[Fun.Bu],rfl,rfl,aP,λz hz=>?_⟩,f⟩
  ·simp[df,cI,uL]
  ·have:z=(e,s):=by simpa using hz
   subst this;exact hs.fr f (by simpa using hq)
 ·have Zj:=ar h2;have hel:=Jc es;simp only[List.length_map] at h4 hl ⊢;by_cases jg:es.length+1≤cap
  ·have Vf:dv (Fun.Bu es++rest) (13*es.length) (fD e s)=Fun.Bu (es++[(e,s)])++rest.drop 13:=by
    have h9:=qI (fD e s) (Fun.Bu es) rest (by simp;omega)
    rw[hel] at h9;rw[h9,Da];simp[Fun.Bu]
   have kq:bX H i (0+es.length*13) (fD e s)=some (H.put i ⟨Fun.Bu (es++[(e,s)])++rest.drop 13,ty,13,false⟩):=by
    simp only[bX,h2,zK];rw[if_pos (by simp[hel];omega),show 0+es.length*13=13*es.length by omega,Vf]
   have f:Fr H o (H.put i ⟨Fun.Bu (es++[(e,s)])++rest.drop 13,ty,13,false⟩) o [q]:=(Fr.refl _ _ _).put λ_=>by simp[h5]
   refine⟨.slice (some ⟨i,0,none⟩) (es.length+1) cap,_,o,?_,.inr ⟨i,cap,rest.drop 13,ty,es++[(e,s)],by simp,aG h2,by simp,by simp;omega,h5,λz hz=>?_⟩,f⟩
   ·simp only[df,cI,Nat.one_mul];rw[if_neg (by omega)]
    simp only[uL,Option.map_some];rw[if_pos jg,if_neg (by omega)]
    simp only[h2,if_true,kq,Option.map_some]
   ·rcases List.mem_append.1 hz with hz|hz
    ·exact(h6 z hz).fr f (by simpa using hq)
    ·have:z=(e,s):=by simpa using hz
     subst this;exact hs.fr f (by simpa using hq)
  ·have hold:aR H i 0 (es.length*13)=some (Fun.Bu es):=by
    simp only[aR,h2];rw[if_pos (by simp[hel];omega),List.drop_zero,List.take_left' (by omega)]
   have f:Fr H o ((H.kill i).new ⟨Fun.Bu es++fD e s,tE,13,false⟩) (o.up H.length q) [q]:=by
    have:=((Fr.refl H o [q]).kill (i:=i) (λ_=>by simp[h5])).new ⟨Fun.Bu es++fD e s,tE,13,false⟩ q
    rw[gE] at this;exact this
   refine⟨.slice (some ⟨H.length,0,none⟩) (es.length+1) (es.length+1),_,o.up H.length q,?_,.inr ⟨H.length,es.length+1,[],tE,es++[(e,s)],by simp,?_,by simp,by simp,aP,λz hz=>?_⟩,f⟩
   ·simp only[df,cI,Nat.one_mul];rw[if_neg (by omega)]
    simp only[uL,Option.map_some];rw[if_neg jg,if_pos (by simp;omega)]
    simp only[h2];rw[if_pos (by simp[hel];omega)]
    simp only[hold]
   ·have:=aL (H:=H.kill i) (c:=⟨Fun.Bu es++fD e s,tE,13,false⟩)
    rw[gE] at this;rw[Da];simpa[Fun.Bu] using this
   ·rcases List.mem_append.1 hz with hz|hz
    ·exact(h6 z hz).fr f (by simpa using hq)
    ·have:z=(e,s):=by simpa using hz
     subst this;exact hs.fr f (by simpa using hq)
end
end Go.Proofs.YtgfgglponbmgmaaGreat.Fun
end
