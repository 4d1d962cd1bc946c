/- Texts of the proof of linearChecks_holds, put together by a small program of ours (names shortened, spaces taken out). No condition beyond the given statement. -/
import Derived.Test.YtjgmnoaalbbonaaGreatLCQ15
import Derived.Test.YtjgmnoaalbbonaaGreatLCQ16
import Derived.Test.YtjgmnoaalbbonaaGreatLCQ17
import Derived.Test.YtjgmnoaalbbonaaGreatLCQ18
import Derived.Test.YtjgmnoaalbbonaaGreatLCQ20
import Derived.Test.YtjgmnoaalbbonaaGreatLCQ23
import Derived.Test.YtjgmnoaalbbonaaGreatLCQ21
import Derived.Test.YtjgmnoaalbbonaaGreatLCQ19
import Derived.Test.YtjgmnoaalbbonaaGreatLCQ22
import Derived.Test.YtjgmnoaalbbonaaGreatLCQ14
set_option linter.unusedVariables false
set_option linter.unusedSimpArgs false
set_option linter.unnecessarySimpa false
noncomputable section
section
namespace Go.Proofs.YtjgmnoaalbbonaaGreat.Fun
open Go Go.RowKit Go.Proofs.YtjgmnoaalbbonaaGreatA.Am
def Pu (H:ae)(o:an)(p:Nat)(kl vl:List Value):Prop:=
 ∃sk sv bk bv ty,H.get p=some ⟨[sk,sv],ty,1,false⟩∧Sl H o p sk kl bk∧Sl H o p sv vl bv∧o p=(p:Int)
theorem Pu.fr {H H':ae}{o o':an}{p:Nat}{kl vl:List Value}{ps:List Int}(h:Pu H o p kl vl)(f:Fr H o H' o' ps)(hp:(p:Int) ∉ ps):Pu H' o' p kl vl:=by
 obtain⟨sk,sv,bk,bv,ty,h1,h2,h3,h4⟩:=h;have hl:=aq h1;exact⟨sk,sv,bk,bv,ty,by rw[f.same p hl (by rw[h4];exact hp)];exact h1,h2.fr f hp,h3.fr f hp,by rw[f.own p hl];exact h4⟩
theorem fm.v {H:ae}{o:an}{p:Nat}{l:PL}(h:fm H o p l):Pu H o p (iB (aX l)) (iB (dw l)):=by
 obtain⟨⟨sk,sv,bk,bv,ty,h1,h2,h3,_⟩,h4,_⟩:=h;exact⟨sk,sv,bk,bv,ty,h1,h2,h3,h4⟩
theorem Yo (G:ag)(n y:Nat)(args:List Value)(H:ae):CM Tryz.prog.funcs.size (run G n) (.func (.yield y) #[] #[]) args H=run G n (Tryz.prog.funcs.size+y) args H:=rfl
section
variable {G:ag} {n:Nat}
theorem SS {H1 H0:ae}{o1:an}{p y i0 ba bm bf:Nat}{fv:Value}{kl vl:List Value}{mb:Value→Bool}{ps:List Int}{tm tf:TypeId}{J R:Nat→ae→Prop}(hm:Pu H1 o1 p kl vl)(hvl:vl.length=kl.length)(hl:kl.length≤4194304)(hn:4194304<n)(hp:(p:Int) ∉ ps)(gm:H1.get bm=some ⟨[pv p],tm,1,false⟩)(gf:H1.get bf=some ⟨[fv],tf,1,false⟩)(om:o1 bm ∉ ps)(of:o1 bf ∉ ps)(ga:au (pv ba) H0=some (cv i0))(acy: ∀H' o',Fr H1 o1 H' o' ps→∀x∈kl,CM Tryz.prog.funcs.size (run G n) fv [x] H'=some (.bool (mb x),H'))(hJ: ∀i H',J i H'→∃o',Fr H1 o1 H' o' ps)(j0:J i0 H0)(ZD:i0≤kl.length)(round: ∀i H' k v,kl[i]? =some k→vl[i]? =some v→i0≤i→mb k=true→J i H'→
   (∃jQ,run G n (Tryz.prog.funcs.size+y) [k,v] H'=some (.bool true,jQ)∧J (i+1) jQ)∨(∃jQ,run G n (Tryz.prog.funcs.size+y) [k,v] H'=some (.bool false,jQ)∧R i jQ)):
  ∃w H',run G (n+1) 119 [.func (.yield y) #[] #[],pv ba,pv bm,pv bf] H0=some (w,H')∧
   ((∃j,i0≤j∧j≤kl.length∧J j H'∧∀k,kl[j]? =some k→mb k=false)∨∃j,i0≤j∧j<kl.length∧R j H'):=by
 rw[VZ];obtain⟨r,iL,eC,hr⟩:=iy (step:=FH (run G n) n)
  (Q:=λm vs H'=>∃(i:Nat) (d1 d2:Value),i0≤i∧i≤kl.length∧m=kl.length-i∧vs=[.func (.yield y) #[] #[],pv ba,cv i,pv bm,pv bf,d1,d2]∧J i H')
  (R:=λr=>(r.1= .exit 0∧∃j,i0≤j∧j≤kl.length∧J j r.2.2∧∀k,kl[j]? =some k→mb k=false)∨(r.1= .ret∧∃j,i0≤j∧j<kl.length∧R j r.2.2))
  (by
   rintro m vs H' ⟨i,d1,d2,hi,JI,rfl,rfl,hj⟩;obtain⟨o',f⟩:=hJ i H' hj;have gm':H'.get bm=some ⟨[pv p],tm,1,false⟩:=by rw[f.same bm (aq gm) om];exact gm
   have gf':H'.get bf=some ⟨[fv],tf,1,false⟩:=by rw[f.same bf (aq gf) of];exact gf
   obtain⟨sk,sv,bk,bv,ty,h1,h2,h3,h4⟩:=hm.fr f hp;have nP:=h2.len;by_cases dH:i<kl.length
   ·have Gl:(i:Int)<kl.length:=by omega
    obtain⟨k,hk⟩: ∃k,kl[i]? =some k:=⟨_,List.getElem?_eq_getElem dH⟩;obtain⟨v,hv⟩: ∃v,vl[i]? =some v:=⟨_,List.getElem?_eq_getElem (by omega)⟩
    obtain⟨q,_,fq,fN⟩:=h2.idx hk;obtain⟨q',_,WZ,aeK⟩:=h3.idx hv;have hmy:=acy H' o' f k (List.mem_of_getElem? hk);cases hmb:mb k with
    |false=>
     rw[hmb] at hmy;refine .inr ⟨(.exit 0,[.func (.yield y) #[] #[],pv ba,cv i,pv bm,pv bf,.bool false,d2],H'),?_,by simp,.inl ⟨rfl,i,hi,JI,hj,λk' e=>by rw[hk] at e;cases e;exact hmb⟩⟩
     simp -implicitDefEqProofs [rO,oJ,ak _ _ _ gm',ak _ _ _ gf',ak _ _ _ h1,bF,ax,nP,aE,Gl,fq,fN H' rfl,hmy,ar,fin]
    |true=>
     rw[hmb] at hmy;have hw:IntKind.i64.wrap ((i:Int)+1)=((i+1:Nat):Int):=by rw[jE (by omega)];omega
     rcases round i H' k v hk hv hi hmb hj with⟨jQ,hr,GV⟩|⟨jQ,hr,hR⟩
     ·refine .inl ⟨_,jQ,kl.length-(i+1),by omega,?_,i+1,.bool true,.bool false,by omega,by omega,rfl,rfl,GV⟩
      simp -implicitDefEqProofs [-Int.natCast_add,rO,oJ,ak _ _ _ gm',ak _ _ _ gf',ak _ _ _ h1,bF,ax,nP,aE,Gl,fq,fN H' rfl,WZ,aeK H' rfl,hmy,ar,Yo,hr,aS,de,hw,fin]
     ·refine .inr ⟨(.ret,[.func (.yield y) #[] #[],pv ba,cv i,pv bm,pv bf,.bool true,.bool true],jQ),?_,by simp,.inr ⟨rfl,i,hi,dH,hR⟩⟩
      simp -implicitDefEqProofs [rO,oJ,ak _ _ _ gm',ak _ _ _ gf',ak _ _ _ h1,bF,ax,nP,aE,Gl,fq,fN H' rfl,WZ,aeK H' rfl,hmy,ar,Yo,hr,aS,fin]
   ·have Gl: ¬(i:Int)<kl.length:=by omega
    refine .inr ⟨(.exit 0,[.func (.yield y) #[] #[],pv ba,cv i,pv bm,pv bf,.bool false,d2],H'),?_,by simp,.inl ⟨rfl,i,hi,JI,hj,λk' e=>by rw[List.getElem?_eq_none (by omega)] at e;cases e⟩⟩
    simp -implicitDefEqProofs [rO,oJ,ak _ _ _ gm',ak _ _ _ h1,bF,ax,nP,aE,Gl,ar,fin])
  (kl.length-i0) [.func (.yield y) #[] #[],pv ba,cv i0,pv bm,pv bf,undef,undef] H0 ⟨i0,_,_,Nat.le_refl _,ZD,rfl,rfl,j0⟩ n (by omega)
 obtain⟨e,vs,H'⟩:=r;simp only at hr;rcases hr with⟨rfl,h⟩|⟨rfl,h⟩
 ·refine⟨.tuple #[],H',?_,.inl h⟩;simp -implicitDefEqProofs [aaX,ga,iL,qP,qO,xO]
 ·refine⟨.tuple #[],H',?_,.inr h⟩;simp -implicitDefEqProofs [aaX,ga,iL,qP,qO,xO]
theorem SU (t:TypeId)(x:Value)(H:ae)(h:x.cells= #[x])(h1:aD x=true):cB t x H=some (pv H.length,H.new ⟨[x],t,1,false⟩):=by
 unfold cB;rw[h];simp[h1,aO]
abbrev tQ (f:FuncId)(c:Array Value):Value:=.func (.func f) #[] c
def oL (H:ae)(p:Nat)(a:Int)(f:Value):ae:=((H.new ⟨[pv p],51,1,false⟩).new ⟨[cv a],3,1,false⟩).new ⟨[f],167,1,false⟩
abbrev Ib (H:ae):Value:=tQ 119 #[pv (H.length+1),pv H.length,pv (H.length+2)]
abbrev Ic (H:ae)(o:an)(bo:Int):an:=((o.up H.length bo).up (H.length+1) bo).up (H.length+2) bo
theorem Ie (H:ae)(o:an)(p:Nat)(a:Int)(f:Value)(bo:Int):Fr H o (oL H p a f) (Ic H o bo) []:=by
 have h1:=(Fr.refl H o []).new ⟨[pv p],51,1,false⟩ bo;have h2:=h1.new ⟨[cv a],3,1,false⟩ bo;have h3:=h2.new ⟨[f],167,1,false⟩ bo;simp only[bh] at h2 h3;exact h3
theorem DX (H:ae)(p:Nat)(a:Int)(f:Value):(oL H p a f).length=H.length+3:=by simp[oL,bh]
theorem W3 (H:ae)(p:Nat)(a:Int)(f:Value):(oL H p a f).get H.length=some ⟨[pv p],51,1,false⟩:=by
 unfold oL;rw[cr (by simp only[bh];omega),cr (by simp only[bh];omega)];exact az
theorem W4 (H:ae)(p:Nat)(a:Int)(f:Value):(oL H p a f).get (H.length+1)=some ⟨[cv a],3,1,false⟩:=by
 unfold oL;rw[cr (by simp only[bh];omega)]
 have:=az (H:=H.new ⟨[pv p],51,1,false⟩) (c:=⟨[cv a],3,1,false⟩)
 rw[bh] at this;exact this
theorem W5 (H:ae)(p:Nat)(a:Int)(f:Value):(oL H p a f).get (H.length+2)=some ⟨[f],167,1,false⟩:=by
 unfold oL;have:=az (H:=(H.new ⟨[pv p],51,1,false⟩).new ⟨[cv a],3,1,false⟩) (c:=⟨[f],167,1,false⟩)
 simp only[bh] at this;exact this
theorem Pv (p:Nat)(a:Int)(f:FuncId)(c:Array Value)(H:ae):run G (n+1) 105 [pv p,cv a,tQ f c] H=some (Ib H,oL H p a (tQ f c)):=by
 rw[Wl];have b1:=SU 51 (pv p) H rfl rfl;have b2:=SU 3 (cv a) (H.new ⟨[pv p],51,1,false⟩) rfl rfl;have b3:=SU 167 (tQ f c) ((H.new ⟨[pv p],51,1,false⟩).new ⟨[cv a],3,1,false⟩) rfl rfl;simp only[bh] at b2 b3;simp -implicitDefEqProofs [aek,b1,b2,b3,oL]
theorem SW {L:nZ}{H1:ae}{o1:an}{p i0 ba bm bf:Nat}{fv:Value}{kl vl:List Value}{mb:Value→Bool}{ps:List Int}{ta tm tf:TypeId}{J R:Nat→ae→Prop}(hm:Pu H1 o1 p kl vl)(hvl:vl.length=kl.length)(hl:kl.length≤4194304)(hn:4194304<n)(hp:(p:Int) ∉ ps)(gm:H1.get bm=some ⟨[pv p],tm,1,false⟩)(gf:H1.get bf=some ⟨[fv],tf,1,false⟩)(ga:H1.get ba=some ⟨[cv i0],ta,1,false⟩)(om:o1 bm ∉ ps)(of:o1 bf ∉ ps)(acy: ∀H' o',Fr H1 o1 H' o' ps→∀x∈kl,CM Tryz.prog.funcs.size (run G n) fv [x] H'=some (.bool (mb x),H'))(hJ: ∀i H',J i H'→(∃o',Fr H1 o1 H' o' ps)∧H'.db H1.length=some (.loop L .ready))(hR: ∀i H',R i H'→∃L' s,H'.db H1.length=some (.loop L' s))(j0:J i0 (H1.gX (.loop L .ready)))(ZD:i0≤kl.length)(round: ∀i H' k v,kl[i]? =some k→vl[i]? =some v→i0≤i→mb k=true→J i H'→
   (∃jQ,run G n (Tryz.prog.funcs.size+H1.length) [k,v] H'=some (.bool true,jQ)∧J (i+1) jQ)∨(∃jQ,run G n (Tryz.prog.funcs.size+H1.length) [k,v] H'=some (.bool false,jQ)∧R i jQ)):
  ∃s H',EN Tryz.prog.funcs.size (run G (n+1)) (tQ 119 #[pv ba,pv bm,pv bf]) L H1=some (s,H'.kill H1.length)∧
   ((s= .ready∧∃j,i0≤j∧j≤kl.length∧J j H'∧∀k,kl[j]? =some k→mb k=false)∨∃j,i0≤j∧j<kl.length∧R j H'∧∃L',H'.db H1.length=some (.loop L' s)):=by
 have ga0:au (pv ba) (H1.gX (.loop L .ready))=some (cv i0):=ak ba 0 _ (by rw[cT (DN (c:=.loop L .ready) (aq ga))];exact ga)
 obtain⟨w,H',hr,h⟩:=SS (y:=H1.length) hm hvl hl hn hp gm gf om of ga0 acy (λi H' h=>(hJ i H' h).1) j0 ZD round
 have dH:(119:Nat)<Tryz.prog.funcs.size:=by decide +kernel
 rcases h with⟨j,h1,h2,h3,h4⟩|⟨j,h1,h2,h3⟩
 ·exact⟨.ready,H',LK dH hr (hJ j H' h3).2,.inl ⟨rfl,j,h1,h2,h3,h4⟩⟩
 ·obtain⟨L',s,hs⟩:=hR j H' h3;exact⟨s,H',LK dH hr hs,.inr ⟨j,h1,h2,h3,L',hs⟩⟩
theorem SX {C:ag}{f:FuncId}{c:Array Value}{args:List Value}{H:ae}(h:f<Tryz.prog.funcs.size):CM Tryz.prog.funcs.size C (tQ f c) args H=C f (args++c.toList) H:=by
 simp[CM,h]
theorem Pw {b:Nat}{t:TypeId}{hi:Int}{H:ae}(h:H.get b=some ⟨[cv hi],t,1,false⟩)(x:Int):CM Tryz.prog.funcs.size (run G (n+1)) (tQ 106 #[pv b]) [cv x] H=some (.bool (decide (x≤hi)),H):=by
 have dH:(106:Nat)<Tryz.prog.funcs.size:=by decide +kernel
 rw[SX dH];show run G (n+1) _ [cv x,pv b] H=_
 rw[Vz];simp -implicitDefEqProofs [aef,ak _ _ _ h,hP]
def BV (H:ae)(hi:Int):ae:=H.new ⟨[cv hi],2,1,false⟩
theorem KN {H:ae}{o:an}{p:Nat}{l:PL}(h:fm H o p l)(lo hi:Int)(hn:4194304<n):
  run G (n+5) 79 [pv p,cv lo,cv hi] H=some (Ib (BV H hi),oL (BV H hi) p (bg l lo) (tQ 106 #[pv H.length])):=by
 rw[aaU];have b1:=SU 2 (cv hi) H rfl rfl;have h1:fm (BV H hi) (o.up H.length (-1)) p l:=h.fr ((Fr.refl H o []).new _ (-1)) (by simp)
 have ha:=vz (G:=G) h1 lo hn;have hf:=Pv (G:=G) (n:=n+3) p (bg l lo) 106 #[pv H.length] (BV H hi);have e:H.new ⟨[cv hi],2,1,false⟩=BV H hi:=rfl;rw[e] at b1;simp -implicitDefEqProofs [F79,b1,ha,eN,hf]
theorem bs0 (H:ae):aw Tryz.prog 52 0 [] H=some (.slice (some ⟨H.length,0,none⟩) 0 0,H.new ⟨[],2,1,false⟩):=by kernel_rfl
theorem slT:Tryz.prog.underlying 52=some (.slice 2):=by kernel_rfl
def _root_.Go.Proofs.YtjgmnoaalbbonaaGreatA.Am.an.from (o:an)(n:Nat)(Q:Int):an:=λi=>if n≤i then Q else o i
theorem gg {o:an}{n i:Nat}{Q:Int}(h:n≤i):o.from n Q i=Q:=by simp[an.from,h]
theorem nF {o:an}{n i:Nat}{Q:Int}(h:i<n):o.from n Q i=o i:=by unfold an.from;rw[if_neg (by omega)]
theorem xv {H:ae}{o:an}{P:Int}{s:Value}{cs:List Int}{b:Option Nat}(hs:Sl H o P s (iB cs) b)(hl:cs.length≤4194304):
  ∃s' H' b',run G (n+1) 107 [s] H=some (s',H')∧(∀Q,Sl H' (o.from H.length Q) Q s' (iB cs) b')∧(∀j,j<H.length→H'[j]? =H[j]?)∧H.length≤H'.length∧∀q,b'=some q→H.length≤q∧q<H'.length:=by
 rw[Vg];cases b with
 |none=>
  obtain⟨rfl,h0⟩:=hs;refine⟨.slice none 0 0,H,none,?_,λQ=>⟨rfl,h0⟩,λ_ _=>rfl,Nat.le_refl _,λq e=>by cases e⟩
  simp -implicitDefEqProofs [Vf,sL none 0 0 slT]
 |some q=>
  obtain⟨cap,rest,ty,rfl,hb,hc,hp,hq⟩:=hs;simp only[List.length_map] at hc;have zh:=aq hb;have he:=sL (P:=Tryz.prog) (some ⟨q,0,none⟩) cs.length cap slT;have b0:=bs0 H;obtain⟨H1,e1⟩: ∃x,x=H.new ⟨[],2,1,false⟩:=⟨_,rfl⟩;rw[←e1] at b0;have l1:H1.length=H.length+1:=by rw[e1,bh]
  have g1:H1.get H.length=some ⟨[],2,1,false⟩:=by rw[e1];exact az
  by_cases hn:cs=[]
  ·subst hn;simp only[List.length_nil] at he;have ha:cd 2 1 8 (.slice (some ⟨H.length,0,none⟩) 0 0) (.slice (some ⟨q,0,none⟩) 0 cap) H1=some (.slice (some ⟨H.length,0,none⟩) 0 0,H1):=by
    simp[cd,bp]
   refine⟨.slice (some ⟨H.length,0,none⟩) 0 0,H1,some H.length,?_,λQ=>⟨0,[],2,rfl,g1,rfl,rfl,gg (Nat.le_refl _)⟩,λj hj=>by rw[e1,dh hj],by omega,λq e=>by cases e;omega⟩
   simp -implicitDefEqProofs [Vf,he,b0,ha]
  ·have hlen:cs.length≠0:=by simpa using hn
   have hbq:H1.get q=some ⟨iB cs++rest,ty,1,false⟩:=by rw[e1,cr zh];exact hb
   have fN:aA H1 q 0 (cs.length*1)=some (iB cs):=by
    simp only[aA,hbq,Nat.mul_one];rw[if_pos (by simp),List.drop_zero,List.take_left' (by simp)]
   have agG:aA H1 H.length 0 (0*1)=some []:=by simp[aA,g1]
   have ha:cd 2 1 8 (.slice (some ⟨H.length,0,none⟩) 0 0) (.slice (some ⟨q,0,none⟩) cs.length cap) H1=some (.slice (some ⟨H.length+1,0,none⟩) cs.length cs.length,(H1.kill H.length).new ⟨iB cs,2,1,false⟩):=by
    simp only[cd,bp,hlen,if_false,fN,Option.map_some,Nat.zero_add];rw[if_neg (by omega),if_pos (by simp;omega)]
    simp only[g1];rw[if_pos (by simp)]
    simp only[agG,List.nil_append,l1]
   refine⟨.slice (some ⟨H.length+1,0,none⟩) cs.length cs.length,(H1.kill H.length).new ⟨iB cs,2,1,false⟩,some (H.length+1),?_,λQ=>?_,λj hj=>?_,by rw[bh,dt];omega,λq e=>by cases e;rw[bh,dt,l1];omega⟩
   ·simp -implicitDefEqProofs [Vf,he,b0,ha]
   ·have:=az (H:=H1.kill H.length) (c:=⟨iB cs,2,1,false⟩)
    rw[dt,l1] at this;exact⟨cs.length,[],2,by simp,by simpa using this,by simp,rfl,gg (by omega)⟩
   ·rw[dh (by rw[dt];omega),oq (by omega),e1,dh hj]
theorem abM (a b:Option Addr)(i j k m:Nat):aI Tryz.prog 54 [(0,.slice a i j),(1,.slice b k m)]=some (.agg #[.slice a i j,.slice b k m]):=by kernel_rfl
theorem KP {H:ae}{o:an}{p:Nat}{l:PL}(h:fm H o p l):
  ∃q H' o',run G (n+2) 80 [pv p] H=some (pv q,H')∧fm H' o' q l∧Fr H o H' o' []∧H.length≤q:=by
 obtain⟨⟨sk,sv,bk,bv,ty,hp,hk,hv,QC,yb,Je⟩,ho,ha,hf⟩:=h;have En:=aq hp;rw[aaz];obtain⟨sk',H1,bk',r1,k1,f1,m1,n1⟩:=xv (G:=G) (n:=n) hk (by simpa using hf)
 have Qs:Sl H1 o p sv (iB (dw l)) bv:=hv.mv λq e=>⟨f1 q (hv.Rh e).1,rfl⟩
 obtain⟨sv',H2,bv',r2,k2,f2,m2,n2⟩:=xv (G:=G) (n:=n) Qs (by simpa using hf)
 have P1: ∀o,au (.pointer (some ⟨p,o,none⟩)) H1=[sk,sv][o]? :=λo=>ak p o H1 (by rw[cT (f1 p En)];exact hp)
 obtain⟨a1,c1,d1,es1⟩:=(k1 0).isSlice;obtain⟨a2,c2,d2,es2⟩:=(k2 0).isSlice;have agH:cB 54 (.agg #[sk',sv']) H2=some (pv H2.length,H2.new ⟨[sk',sv'],54,1,false⟩):=by
  subst es1 es2;simp[cB,Value.cells,aD,aO]
 have hab:aI Tryz.prog 54 [(0,sk'),(1,sv')]=some (.agg #[sk',sv']):=by
  subst es1 es2;exact abM _ _ _ _ _ _
 refine⟨H2.length,H2.new ⟨[sk',sv'],54,1,false⟩,o.from H.length H2.length,?_,⟨⟨sk',sv',bk',bv',_,az,?_,?_,?_,?_,?_⟩,gg (by omega),ha,hf⟩,⟨λj hj _=>by rw[dh (by omega),f2 j (by omega),f1 j hj],λj hj=>nF hj,by rw[bh];omega⟩,by omega⟩
 ·simp -implicitDefEqProofs [F80,bF,ax,ak _ _ _ hp,P1,r1,r2,hab,agH,hv.jd]
 ·exact(k1 H2.length).mv λq e=>by
   have:=n1 q e
   exact⟨by rw[dh (by omega),f2 q this.2],rfl⟩
 ·exact(k2 H2.length).mv λq e=>by
   have:=n2 q e
   exact⟨by rw[dh this.2],by rw[gg (by omega),gg (by omega)]⟩
 ·intro e;have:=n1 _ e;omega
 ·intro e;have:=n2 _ e;omega
 ·intro q e e';have:=n1 q e;have:=n2 q e';omega
end
theorem acz:aI Tryz.prog 54 []=some (.agg #[.slice none 0 0,.slice none 0 0]):=by kernel_rfl
theorem agI (t:TypeId)(H:ae):cB t (.agg #[.slice none 0 0,.slice none 0 0]) H=some (pv H.length,H.new ⟨[.slice none 0 0,.slice none 0 0],t,1,false⟩):=by
 simp[cB,Value.cells,aD,aO]
theorem fm.fresh (H:ae)(o:an)(t:TypeId):fm (H.new ⟨[.slice none 0 0,.slice none 0 0],t,1,false⟩) (o.up H.length H.length) H.length []:=
 ⟨⟨_,_,none,none,t,az,⟨rfl,rfl⟩,⟨rfl,rfl⟩,by simp,by simp,by simp⟩,aQ,.nil,by simp⟩
section
variable {H:ae} {o:an} {n:Nat}
end
end Go.Proofs.YtjgmnoaalbbonaaGreat.Fun
end
section
namespace Go.Proofs.YtjgmnoaalbbonaaGreat.Fun
open Go Go.RowKit Go.Proofs.YtjgmnoaalbbonaaGreatA.Am
set_option maxRecDepth 4000
theorem Px {x:Value}(h: ∃a n c,x= .slice a n c):x.cells= #[x]∧known x=true∧aD x=true:=by
 obtain⟨a,n,c,rfl⟩:=h;exact⟨rfl,rfl,rfl⟩
section
variable {G:ag} {H:ae} {o:an} {p:Nat} {l:PL} {n:Nat}
theorem aeL {i:Nat}{k:Value}(h:(iB (aX l))[i]? =some k):i<l.length∧k=cv (l.getD i (0,0)).1:=by
 have hi:i<l.length:=by have:=(List.getElem?_eq_some_iff.1 h).1;simpa using this
 rw[BR hi] at h;exact⟨hi,(Option.some.inj h).symm⟩
theorem aeM {i:Nat}{k:Value}(h:(iB (dw l))[i]? =some k):k=cv (l.getD i (0,0)).2:=by
 have hi:i<l.length:=by have:=(List.getElem?_eq_some_iff.1 h).1;simpa using this
 rw[re hi] at h;exact(Option.some.inj h).symm
end
end Go.Proofs.YtjgmnoaalbbonaaGreat.Fun
end
section
namespace Go.Proofs.YtjgmnoaalbbonaaGreat.Fun
open Go Go.RowKit Go.Proofs.YtjgmnoaalbbonaaGreatA.Am
def acA (y:Nat)(v k w:Value)(H:ae):Option (Value×ae):=
 NJ y H λH=>
 af (pS (au v H) H) λgl H=>
 af (pS (aI Tryz.prog 42 [(0,k),(1,w)]) H) λiO H=>
 af (aw Tryz.prog 43 1 [(0,iO)] H) λjv H=>
 af (cd 42 2 16 gl jv H) λmR H=>
 af (bS 1 v mR H) λlI H=>
 Eh y .normal H
theorem abP (k w:Int):aI Tryz.prog 42 [(0,cv k),(1,cv w)]=some (.agg #[cv k,cv w]):=by kernel_rfl
theorem bsP (k w:Int)(H:ae):aw Tryz.prog 43 1 [(0,.agg #[cv k,cv w])] H=some (.slice (some ⟨H.length,0,none⟩) 1 1,H.new ⟨[cv k,cv w],42,2,false⟩):=by kernel_rfl
section
variable {G:ag} {H:ae} {o:an} {p:Nat} {l:PL} {n:Nat}
theorem nG {i:Nat}(hi:i<l.length):l.take (i+1)=l.take i++[((l.getD i (0,0)).1,(l.getD i (0,0)).2)]:=by
 have e:l[i]? =some l[i]:=List.getElem?_eq_getElem hi;rw[List.take_add_one,List.getD_eq_getElem?_getD,e];rfl
def acB (C:ae)(oC:an)(L:nZ)(b:Nat)(t:TypeId)(q:Int)(l:PL)(i:Nat)(H':ae):Prop:=
 ∃x o',Fr C oC H' o' [q]∧H'.db C.length=some (.loop L .ready)∧H'.get b=some ⟨[x],t,1,false⟩∧fF H' o' q x (l.take i)∧i≤l.length
theorem Py {C:ae}{oC:an}{L:nZ}{b:Nat}{t:TypeId}{q:Int}{i:Nat}(hb:b<C.length)(ob:oC b=q)(hl:l.length≤4194304)(hi:i<l.length){H':ae}(h:acB C oC L b t q l i H'):
  ∃jQ,acA C.length (pv b) (cv (l.getD i (0,0)).1) (cv (l.getD i (0,0)).2) H'=some (.bool true,jQ)∧acB C oC L b t q l (i+1) jQ:=by
 obtain⟨x,o',f,ot,gb,hx,_⟩:=h;obtain⟨A,eA⟩: ∃A,A=H'.fC C.length (.loop L .busy):=⟨_,rfl⟩;have otA:A.db C.length=some (.loop L .busy):=by rw[eA];exact uP ot
 have gA:A.get b=some ⟨[x],t,1,false⟩:=by rw[eA];exact oe ot gb
 have xA:fF A o' q x (l.take i):=by rw[eA];exact hx.fC ot
 have fA:Fr C oC A o' [q]:=by rw[eA];exact f.fC (λh=>by omega)
 obtain⟨B,eB⟩: ∃B,B=A.new ⟨[cv (l.getD i (0,0)).1,cv (l.getD i (0,0)).2],42,2,false⟩:=⟨_,rfl⟩;have fB:Fr A o' B (o'.up A.length (q-1)) []:=by rw[eB];exact(Fr.refl _ _ _).new _ _
 have xB:=xA.fr fB (by simp)
 have otB:B.db C.length=some (.loop L .busy):=by rw[eB,zU (dh (fi otA))];exact otA
 have gB:B.get b=some ⟨[x],t,1,false⟩:=by rw[eB,cr (aq gA)];exact gA
 have gs:B.get A.length=some ⟨[cv (l.getD i (0,0)).1,cv (l.getD i (0,0)).2],42,2,false⟩:=by rw[eB];exact az
 have Ux:=bsP (l.getD i (0,0)).1 (l.getD i (0,0)).2 A;rw[←eB] at Ux;obtain⟨x',D,oD,ha,xD,fD,hs⟩:=xB.app 42 (Src.one gs) (by simp;omega)
 obtain⟨sb,nb⟩:=hs b (xB.yA gB) (aq gB);obtain⟨sy,ny⟩:=hs C.length (xB.z4 otB) (fi otB);have gD:D.get b=some ⟨[x],t,1,false⟩:=by rw[cT sb];exact gB
 have otD:D.db C.length=some (.loop L .busy):=by rw[zU sy];exact otB
 obtain⟨c1,c2,c3⟩:=Px (by obtain⟨a,c,e⟩:=xD.isSlice;exact⟨a,_,c,e⟩)
 have st:=jA b 0 x' D gD rfl (by simp) c1 c2 c3
 simp only[List.set_cons_zero] at st;have eC:=Ri otD gD;have otE:=Rj (x:=⟨[x'],t,1,false⟩) otD eC;have en:=U5 (e:=.normal) otE;simp only[qw.of] at en;refine⟨(D.put b ⟨[x'],t,1,false⟩).fC C.length (.loop L .ready),?_,x',oD,?_,uP otE,oe otE (aH gD),?_,hi⟩
 ·unfold acA;simp -implicitDefEqProofs [-List.getD_eq_getElem?_getD,U4 ot, ←eA,ak _ _ _ gA,abP,Ux,ha,st,en,cg.on]
 ·have:=((fA.tr (fB.wk (by simp))).tr fD)
  exact(this.put (λ_=>by simp[ob])).fC (λh=>by omega)
 ·rw[nG hi];exact(xD.JO gD).fC otE
end
section
variable {G:ag} {H:ae} {o:an} {q:Int} {x:Value} {l:PL} {n:Nat}
theorem mP (hx:ee H o q x l)(hl:l.length≤4194304)(k:Int)(hn:4194304<n):run G (n+1) 71 [x,cv k] H=some (cv (bg l k),H):=by
 rw[acd];have jm:=hx.len;obtain⟨r,iL,eC,r1,r2,d,r3⟩:=iy (step:=KI (run G n) n)
  (Q:=λm vs H'=>H'=H∧∃(i:Nat) (d:Value),i≤l.length∧m=l.length-i∧vs=[x,cv k,cv 0,cv i,d]∧∀j (h:j<(aX l).length),j<i→rT (aX l)[j] k=true)
  (R:=λr=>r.1= .exit 0∧r.2.2=H∧∃d,r.2.1=[x,cv k,cv 0,cv (bg l k),d])
  (by
   rintro m vs H' ⟨rfl,i,d,hi,rfl,rfl,uj⟩;by_cases dH:i<l.length
   ·have h1:(i:Int)<l.length:=by omega
    obtain⟨bi,bo,y0,fq,rW,DY,qH⟩:=hx.idx dH;obtain⟨d1,d2,d3⟩:=qH _ rW;have ek:(aX l)[i]'(by simpa using dH)=(l.getD i (0,0)).1:=by
     rw[List.getD_eq_getElem?_getD,List.getElem?_eq_getElem dH];simp
    by_cases hc:(l.getD i (0,0)).1<k
    ·have hw:IntKind.i64.wrap ((i:Int)+1)=((i+1:Nat):Int):=by rw[jE (by omega)];omega
     refine .inl ⟨_,_,l.length-(i+1),by omega,?_,rfl,i+1,.bool true,by omega,rfl,rfl,λj hj hji=>?_⟩
     ·simp -implicitDefEqProofs [-List.getD_eq_getElem?_getD, -Int.natCast_add,BC,vw,jm,aE,h1,fq,ax,d1,hc,ar,de,hw,fin]
     ·rcases Nat.lt_or_ge j i with g|g
      ·exact uj j hj g
      ·obtain rfl:j=i:=by omega
       rw[ek];simpa using hc
    ·have hp:bg l k=i:=zV rT (by simp;omega) uj (λh=>by rw[ek];simpa using hc)
     refine .inr ⟨(.exit 0,[x,cv k,cv 0,cv i,.bool false],H'),?_,by simp,rfl,rfl,.bool false,by rw[hp]⟩
     simp -implicitDefEqProofs [-List.getD_eq_getElem?_getD,BC,vw,jm,aE,h1,fq,ax,d1,hc,ar,fin]
   ·have h1: ¬(i:Int)<l.length:=by omega
    have hp:bg l k=i:=zV rT (by simp;omega) uj (λh=>absurd h (by simp;omega))
    refine .inr ⟨(.exit 0,[x,cv k,cv 0,cv i,.bool false],H'),?_,by simp,rfl,rfl,.bool false,by rw[hp]⟩
    simp -implicitDefEqProofs [BC,vw,jm,aE,h1,ar,fin])
  (l.length-0) [x,cv k,cv 0,cv (0:Nat),undef] H ⟨rfl,0,_,Nat.zero_le _,rfl,rfl,λj _ h=>by omega⟩ n (by omega)
 obtain⟨e,vs,H'⟩:=r;simp only at r1 r2 r3;subst r1 r2 r3;simp only[Int.natCast_zero] at iL;simp -implicitDefEqProofs [F71,iL,SL,Gf]
theorem yS {l:PL}{k:Int}(h:ef l k=false): ¬(bg l k<l.length∧(l.getD (bg l k) (0,0)).1=k):=by
 rintro⟨h1,h2⟩;have:ef l k=true:=by
  unfold ef De;rw[decide_eq_true_eq]
  change (aX l)[bg l k]? =some k
  rw[List.getElem?_map,List.getElem?_eq_getElem h1];rw[List.getD_eq_getElem?_getD,List.getElem?_eq_getElem h1] at h2;simpa using h2
 rw[this] at h;cases h
theorem wI (hx:ee H o q x l)(hl:l.length≤4194304)(k:Int)(hn:4194304<n):run G (n+2) 58 [x,cv k] H=some (.tuple #[cv (pF l k),.bool (ef l k)],H):=by
 rw[abv];have jm:=hx.len;have hp:=mP (G:=G) hx hl k hn;cases hc:ef l k with
 |true=>
  obtain⟨h1,h2⟩:=jL hc;have tG:((bg l k:Nat):Int)<l.length:=by omega
  obtain⟨bi,bo,y0,fq,rW,DY,qH⟩:=hx.idx h1;obtain⟨d1,d2,d3⟩:=qH _ rW;rw[h2] at d1;simp -implicitDefEqProofs [-List.getD_eq_getElem?_getD,F58,hp,jm,aE,tG,fq,ax,d1,d2,aF,ar,pF,hc]
 |false=>
  have Yp:=yS hc;by_cases h1:bg l k<l.length
  ·have tG:((bg l k:Nat):Int)<l.length:=by omega
   have h2: ¬(l.getD (bg l k) (0,0)).1=k:=λh=>Yp ⟨h1,h⟩
   obtain⟨bi,bo,y0,fq,rW,DY,qH⟩:=hx.idx h1;obtain⟨d1,d2,d3⟩:=qH _ rW;simp -implicitDefEqProofs [-List.getD_eq_getElem?_getD,F58,hp,jm,aE,tG,fq,ax,d1,aF,h2,ar,pF,hc]
  ·have tG: ¬((bg l k:Nat):Int)<l.length:=by omega
   simp -implicitDefEqProofs [F58,hp,jm,aE,tG,ar,pF,hc]
abbrev oI (H:ae):an:=an.from (λ_=>0) H.length 1
theorem Ig {H:ae}{i:Nat}(h:i<H.length):oI H i=0:=nF h
theorem Ih {H':ae}{o1:an}{x':Value}{l':PL}(hx:fF H' o1 1 x' l')(f:Fr H (oI H) H' o1 [1])(Q:Int):fF H' (o.from H.length Q) Q x' l'∧(∀j,j<H.length→H'[j]? =H[j]?)∧H.length≤H'.length:=by
 refine⟨hx.relabel λi hi h=>?_,λj hj=>f.slot j hj (by rw[Ig hj];simp),f.size⟩
 rcases Nat.lt_or_ge i H.length with g|g
 ·rw[f.own i g,Ig g] at h;simp at h
 ·exact gg g
theorem W6 (H:ae):aw Tryz.prog 43 0 [] H=some (.slice (some ⟨H.length,0,none⟩) 0 0,H.new ⟨[],42,2,false⟩):=by kernel_rfl
theorem DZ (hx:ee H o q x l)(hl:l.length≤4194304){m:Nat}(hm:m≤l.length):
  ∃y x' H' o',dD 2 (H.new ⟨[],42,2,false⟩) x none (some (cv m))=some y∧cd 42 2 16 (.slice (some ⟨H.length,0,none⟩) 0 0) y (H.new ⟨[],42,2,false⟩)=some (x',H')∧fF H' o' 1 x' (l.take m)∧Fr H (oI H) H' o' [1]∧ee H' o' 0 x l:=by
 have h0:ee H (oI H) 0 x l:=hx.relabel λi hi _=>Ig hi
 obtain⟨H1,e1⟩: ∃y,y=H.new ⟨[],42,2,false⟩:=⟨_,rfl⟩;have f1:Fr H (oI H) H1 ((oI H).up H.length 1) [1]:=by rw[e1];exact(Fr.refl _ _ _).new _ _
 have x1:=h0.fr f1 (by simp)
 have s1:fF H1 ((oI H).up H.length 1) 1 (.slice (some ⟨H.length,0,none⟩) 0 0) []:=.inr ⟨H.length,0,[],42,rfl,by rw[e1];exact az,rfl,aQ⟩
 obtain⟨y,hy,sy⟩:=x1.LW hm;obtain⟨x',H',o',ha,xs,f2,_⟩:=s1.app 42 sy (by simp;omega)
 rw[←e1];exact⟨y,x',H',o',hy,ha,by simpa using xs,f1.tr f2,x1.fr f2 (by simp)⟩
theorem Pz (hx:ee H o q x l)(hl:l.length≤4194303)(k v:Int)(hn:4194304<n):
  ∃x' H',run G (n+2) 42 [x,cv k,cv v] H=some (x',H')∧(∀Q,fF H' (o.from H.length Q) Q x' (jM l k v))∧(∀j,j<H.length→H'[j]? =H[j]?)∧H.length≤H'.length:=by
 rw[aaf];have jm:=hx.len;have hp:=mP (G:=G) hx (by omega) k hn
 have hle:=mq l k;obtain⟨y,x1,H1,o1,hy,ha,s1,f1,xx1⟩:=DZ hx (by omega) hle
 obtain⟨H2,e2⟩: ∃z,z=H1.new ⟨[cv k,cv v],42,2,false⟩:=⟨_,rfl⟩;have f2:Fr H1 o1 H2 (o1.up H1.length 2) [1]:=by rw[e2];exact(Fr.refl _ _ _).new _ _
 have Ux:=bsP k v H1;rw[←e2] at Ux;have gs:H2.get H1.length=some ⟨[cv k,cv v],42,2,false⟩:=by rw[e2];exact az
 have s2:fF H2 (o1.up H1.length 2) 1 x1 (l.take (bg l k)):=s1.mv λi a c e=>by
  have hi:i<H1.length:=by
   rcases s1 with⟨rfl,_⟩|⟨i',cap,rest,ty,rfl,h2,_⟩
   ·cases e
   ·cases e;exact aq h2
  exact⟨by rw[e2,dh hi],dc (by omega)⟩
 have xx2:=xx1.fr f2 (by simp)
 obtain⟨x3,H3,o3,ha3,s3,f3,_⟩:=s2.app 42 (Src.one gs) (by simp;omega)
 have xx3:=xx2.fr f3 (by simp)
 have dH:(if ef l k then bg l k+1 else bg l k)≤l.length:=by
  split
  ·rename_i hc;have:=(jL hc).1;omega
  ·exact hle
 obtain⟨z,hz,sz⟩:=xx3.uQ dH;obtain⟨x4,H4,o4,ha4,s4,f4,_⟩:=s3.app 42 sz (by simp;omega)
 have heq:(l.take (bg l k)++[(k,v)])++l.drop (if ef l k then bg l k+1 else bg l k)=jM l k v:=by unfold jM;simp
 rw[heq] at s4;have KR:=((f1.tr f2).tr f3).tr f4;refine⟨x4,H4,?_,λQ=>(Ih s4 KR Q).1,(Ih (o:=o) s4 KR 0).2.1,KR.size⟩
 have b0:=W6 H;have hw:IntKind.i64.wrap ((bg l k:Int)+1)=((bg l k+1:Nat):Int):=by rw[jE (by omega)];omega
 cases hc:ef l k with
 |true=>
  rw[hc] at hz;simp only[if_true] at hz;obtain⟨h1,h2⟩:=jL hc;have tG:((bg l k:Nat):Int)<l.length:=by omega
  obtain⟨bi,bo,y0,fq,rW,DY,qH⟩:=xx3.idx h1;obtain⟨d1,d2,d3⟩:=qH _ rW;rw[h2] at d1;simp -implicitDefEqProofs [-List.getD_eq_getElem?_getD, -Int.natCast_add,F42,Au,uV,hp,b0,hy,ha,abP,Ux,ha3,jm,aE,tG,fq,ax,d1,aF,ar,de,hw,hz,ha4]
 |false=>
  rw[hc] at hz;simp only[Bool.false_eq_true,if_false] at hz;have Yp:=yS hc;by_cases h1:bg l k<l.length
  ·have tG:((bg l k:Nat):Int)<l.length:=by omega
   have h2: ¬(l.getD (bg l k) (0,0)).1=k:=λh=>Yp ⟨h1,h⟩
   obtain⟨bi,bo,y0,fq,rW,DY,qH⟩:=xx3.idx h1;obtain⟨d1,d2,d3⟩:=qH _ rW;simp -implicitDefEqProofs [-List.getD_eq_getElem?_getD,F42,Au,uV,hp,b0,hy,ha,abP,Ux,ha3,jm,aE,tG,fq,ax,d1,aF,h2,ar,hz,ha4]
  ·have tG: ¬((bg l k:Nat):Int)<l.length:=by omega
   simp -implicitDefEqProofs [F42,Au,uV,hp,b0,hy,ha,abP,Ux,ha3,jm,aE,tG,ar,hz,ha4]
theorem PA (hx:ee H o q x l)(hl:l.length≤4194303)(k:Int)(hn:4194304<n):
  ∃x' H',run G (n+2) 85 [x,cv k] H=some (x',H')∧(∀Q,fF H' (o.from H.length Q) Q x' (lz l k))∧(∀j,j<H.length→H'[j]? =H[j]?)∧H.length≤H'.length:=by
 rw[ab0];have jm:=hx.len;have hp:=mP (G:=G) hx (by omega) k hn
 have hle:=mq l k;obtain⟨y,x1,H1,o1,hy,ha,s1,f1,xx1⟩:=DZ hx (by omega) hle
 have dH:(if ef l k then bg l k+1 else bg l k)≤l.length:=by
  split
  ·rename_i hc;have:=(jL hc).1;omega
  ·exact hle
 obtain⟨z,hz,sz⟩:=xx1.uQ dH;obtain⟨x4,H4,o4,ha4,s4,f4,_⟩:=s1.app 42 sz (by simp;omega)
 have heq:l.take (bg l k)++l.drop (if ef l k then bg l k+1 else bg l k)=lz l k:=rfl
 rw[heq] at s4;have KR:=f1.tr f4;refine⟨x4,H4,?_,λQ=>(Ih s4 KR Q).1,(Ih (o:=o) s4 KR 0).2.1,KR.size⟩
 have b0:=W6 H;have hw:IntKind.i64.wrap ((bg l k:Int)+1)=((bg l k+1:Nat):Int):=by rw[jE (by omega)];omega
 cases hc:ef l k with
 |true=>
  rw[hc] at hz;simp only[if_true] at hz;obtain⟨h1,h2⟩:=jL hc;have tG:((bg l k:Nat):Int)<l.length:=by omega
  obtain⟨bi,bo,y0,fq,rW,DY,qH⟩:=xx1.idx h1;obtain⟨d1,d2,d3⟩:=qH _ rW;rw[h2] at d1;simp -implicitDefEqProofs [-List.getD_eq_getElem?_getD, -Int.natCast_add,F85,Bo,vn,hp,b0,hy,ha,jm,aE,tG,fq,ax,d1,aF,ar,de,hw,hz,ha4]
 |false=>
  rw[hc] at hz;simp only[Bool.false_eq_true,if_false] at hz;have Yp:=yS hc;by_cases h1:bg l k<l.length
  ·have tG:((bg l k:Nat):Int)<l.length:=by omega
   have h2: ¬(l.getD (bg l k) (0,0)).1=k:=λh=>Yp ⟨h1,h⟩
   obtain⟨bi,bo,y0,fq,rW,DY,qH⟩:=xx1.idx h1;obtain⟨d1,d2,d3⟩:=qH _ rW;simp -implicitDefEqProofs [-List.getD_eq_getElem?_getD,F85,Bo,vn,hp,b0,hy,ha,jm,aE,tG,fq,ax,d1,aF,h2,ar,hz,ha4]
  ·have tG: ¬((bg l k:Nat):Int)<l.length:=by omega
   simp -implicitDefEqProofs [F85,Bo,vn,hp,b0,hy,ha,jm,aE,tG,ar,hz,ha4]
abbrev W7 (a b:Int):Value:=.agg #[cv a,cv b]
theorem Ii (b:Nat)(a c:Int){u v:Value}{t:TypeId}{es:Nat}(H:ae)(h:H.get b=some ⟨[u,v],t,es,false⟩):bS 2 (.pointer (some ⟨b,0,none⟩)) (W7 a c) H=some (undef,H.put b ⟨[cv a,cv c],t,es,false⟩):=by
 simp[bS,bG,h,Value.cells,known,aD,bO]
theorem Ij (b:Nat)(a c:Int){t:TypeId}{es:Nat}(H:ae)(h:H.get b=some ⟨[cv a,cv c],t,es,false⟩):bV 2 (.pointer (some ⟨b,0,none⟩)) H=some (W7 a c):=by
 simp[bV,aA,h]
theorem acC:aI Tryz.prog 42 []=some (W7 0 0):=by kernel_rfl
abbrev W8 (x:Int×Int×Bool):Value:=.tuple #[W7 x.1 x.2.1,.bool x.2.2]
theorem Ik (hx:ee H o q x l)(hl:l.length≤4194304)(k:Int)(hn:4194304<n):
  ∃H',run G (n+2) 87 [x,cv k] H=some (W8 (gN l k),H')∧(∀j,j<H.length→H'[j]? =H[j]?)∧H.length≤H'.length:=by
 rw[aak];obtain⟨H1,e1⟩: ∃y,y=H.new ⟨[cv 0,cv 0],42,1,false⟩:=⟨_,rfl⟩;have g1:H1.get H.length=some ⟨[cv 0,cv 0],42,1,false⟩:=by rw[e1];exact az
 have x1:ee H1 (o.up H.length (q-1)) q x l:=by rw[e1];exact hx.fr ((Fr.refl H o []).new _ _) (by simp)
 have jm:=hx.len;have hp:=mP (G:=G) x1 hl k hn;have hle:=mq l k;have hs: ∀c,(∀j,j<H.length→(H1.put H.length c)[j]? =H[j]?)∧H.length≤(H1.put H.length c).length:=λc=>⟨λj hj=>by rw[cU (by omega),e1,dh hj],by rw[iw,e1,bh];omega⟩
 have Qi:H.new ⟨[Value.int .i64 0,Value.int .i64 0],42,1,false⟩=H1:=e1.symm;cases hc:ef l k with
 |true=>
  obtain⟨h1,h2⟩:=jL hc;have tG:((bg l k:Nat):Int)<l.length:=by omega
  obtain⟨bi,bo,y0,fq,rW,DY,qH⟩:=x1.idx h1;obtain⟨d1,d2,d3⟩:=qH _ rW;have hf:gN l k=((l.getD (bg l k) (0,0)).1,(l.getD (bg l k) (0,0)).2,true):=by unfold gN nE;rw[hc,if_pos rfl,if_pos (by omega),Int.toNat_natCast]
  refine⟨_,?_,hs ⟨[cv (l.getD (bg l k) (0,0)).1,cv (l.getD (bg l k) (0,0)).2],42,1,false⟩⟩;simp -implicitDefEqProofs [-List.getD_eq_getElem?_getD,F87,aO,Qi,hp,jm,aE,tG,fq,ax,d1,h2,aF,ar,d3,Ii _ _ _ _ g1,Ij _ _ _ _ (aH g1),hf]
 |false=>
  have Yp:=yS hc;by_cases h0:bg l k=0
  ·have hf:gN l k=(0,0,false):=by unfold gN nE;rw[hc];simp only[Bool.false_eq_true,if_false];rw[if_neg (by omega)]
   refine⟨_,?_,hs ⟨[cv 0,cv 0],42,1,false⟩⟩;by_cases h1:0<l.length
   ·have tG:(0:Int)<l.length:=by omega
    have h2: ¬(l.getD 0 (0,0)).1=k:=λh=>Yp ⟨by omega,by rw[h0];exact h⟩
    obtain⟨bi,bo,y0,fq,rW,DY,qH⟩:=x1.idx h1;obtain⟨d1,d2,d3⟩:=qH _ rW;simp only[Int.natCast_zero,Nat.mul_zero] at fq d1;simp only[h0,Int.natCast_zero] at hp;simp -implicitDefEqProofs [-List.getD_eq_getElem?_getD, -Int.natCast_pos,F87,aO,Qi,hp,jm,aE,tG,fq,ax,d1,h2,aF,ar,acC,Ii _ _ _ _ g1,Ij _ _ _ _ (aH g1),hf]
   ·have tG: ¬(0:Int)<l.length:=by omega
    simp only[h0,Int.natCast_zero] at hp;simp -implicitDefEqProofs [-Int.natCast_pos,F87,aO,Qi,hp,jm,aE,tG,aF,ar,acC,Ii _ _ _ _ g1,Ij _ _ _ _ (aH g1),hf]
  ·obtain⟨m,hm⟩: ∃m,bg l k=m+1:=⟨bg l k-1,by omega⟩
   have hw:IntKind.i64.wrap ((bg l k:Int)-1)=((m:Nat):Int):=by rw[jE (by omega)];omega
   have Ey:m<l.length:=by omega
   have h0': ¬((bg l k:Nat):Int)=0:=by omega
   have hf:gN l k=((l.getD m (0,0)).1,(l.getD m (0,0)).2,true):=by
    unfold gN nE;rw[hc];simp only[Bool.false_eq_true,if_false];rw[if_pos (by omega),show((bg l k:Int)-1).toNat=m by omega]
   obtain⟨bm,bmo,ym,aeN,hym,aif,agJ⟩:=x1.idx Ey;obtain⟨m1,m2,m3⟩:=agJ _ hym;refine⟨_,?_,hs ⟨[cv (l.getD m (0,0)).1,cv (l.getD m (0,0)).2],42,1,false⟩⟩;by_cases h1:bg l k<l.length
   ·have tG:((bg l k:Nat):Int)<l.length:=by omega
    have h2: ¬(l.getD (bg l k) (0,0)).1=k:=λh=>Yp ⟨h1,h⟩
    obtain⟨bi,bo,y0,fq,rW,DY,qH⟩:=x1.idx h1;obtain⟨d1,d2,d3⟩:=qH _ rW;simp -implicitDefEqProofs [-List.getD_eq_getElem?_getD,F87,aO,Qi,hp,jm,aE,tG,fq,ax,d1,h2,aF,ar,h0,h0',ki,hw,aeN,m3,Ii _ _ _ _ g1,Ij _ _ _ _ (aH g1),hf]
   ·have tG: ¬((bg l k:Nat):Int)<l.length:=by omega
    simp -implicitDefEqProofs [-List.getD_eq_getElem?_getD,F87,aO,Qi,hp,jm,aE,tG,aF,ar,h0,h0',ki,hw,aeN,m3,Ii _ _ _ _ g1,Ij _ _ _ _ (aH g1),hf]
theorem Df (hx:ee H o q x l)(hl:l.length≤4194304)(k:Int)(hn:4194304<n):
  ∃H',run G (n+2) 88 [x,cv k] H=some (W8 (kM l k),H')∧(∀j,j<H.length→H'[j]? =H[j]?)∧H.length≤H'.length:=by
 rw[abi];obtain⟨H1,e1⟩: ∃y,y=H.new ⟨[cv 0,cv 0],42,1,false⟩:=⟨_,rfl⟩;have g1:H1.get H.length=some ⟨[cv 0,cv 0],42,1,false⟩:=by rw[e1];exact az
 have x1:ee H1 (o.up H.length (q-1)) q x l:=by rw[e1];exact hx.fr ((Fr.refl H o []).new _ _) (by simp)
 have jm:=hx.len;have hp:=mP (G:=G) x1 hl k hn;have hle:=mq l k;have hs: ∀c,(∀j,j<H.length→(H1.put H.length c)[j]? =H[j]?)∧H.length≤(H1.put H.length c).length:=λc=>⟨λj hj=>by rw[cU (by omega),e1,dh hj],by rw[iw,e1,bh];omega⟩
 have Qi:H.new ⟨[Value.int .i64 0,Value.int .i64 0],42,1,false⟩=H1:=e1.symm;by_cases h1:bg l k<l.length
 ·have h1n: ¬bg l k=l.length:=by omega
  have tG: ¬((bg l k:Nat):Int)=l.length:=by omega
  obtain⟨bi,bo,y0,fq,rW,DY,qH⟩:=x1.idx h1;obtain⟨d1,d2,d3⟩:=qH _ rW;have hf:kM l k=((l.getD (bg l k) (0,0)).1,(l.getD (bg l k) (0,0)).2,true):=by unfold kM nE;rw[if_pos (by omega),Int.toNat_natCast]
  refine⟨_,?_,hs ⟨[cv (l.getD (bg l k) (0,0)).1,cv (l.getD (bg l k) (0,0)).2],42,1,false⟩⟩;simp -implicitDefEqProofs [-List.getD_eq_getElem?_getD,F88,aO,Qi,hp,jm,aF,tG,h1n,fq,d3,Ii _ _ _ _ g1,Ij _ _ _ _ (aH g1),hf]
 ·have h1n:bg l k=l.length:=by omega
  have tG:((bg l k:Nat):Int)=l.length:=by omega
  have hf:kM l k=(0,0,false):=by unfold kM nE;rw[if_neg (by omega)]
  refine⟨_,?_,hs ⟨[cv 0,cv 0],42,1,false⟩⟩;simp -implicitDefEqProofs [F88,aO,Qi,hp,jm,aF,tG,h1n,acC,Ii _ _ _ _ g1,Ij _ _ _ _ (aH g1),hf]
end
end Go.Proofs.YtjgmnoaalbbonaaGreat.Fun
end
