/- Texts of the proof of linearCut_holds, put together by a small program of ours (names shortened, spaces taken out). No condition beyond the given statement. -/
import Derived.Test.YtjgmnoaalbbonaaGreatLCT15
import Derived.Test.YtjgmnoaalbbonaaGreatLCT16
import Derived.Test.YtjgmnoaalbbonaaGreatLCT17
import Derived.Test.YtjgmnoaalbbonaaGreatLCT18
import Derived.Test.YtjgmnoaalbbonaaGreatLCT20
import Derived.Test.YtjgmnoaalbbonaaGreatLCT23
import Derived.Test.YtjgmnoaalbbonaaGreatLCT21
import Derived.Test.YtjgmnoaalbbonaaGreatLCT19
import Derived.Test.YtjgmnoaalbbonaaGreatLCT22
import Derived.Test.YtjgmnoaalbbonaaGreatLCT14
set_option linter.unusedVariables false
set_option linter.unusedSimpArgs false
set_option linter.unnecessarySimpa false
noncomputable section
section
namespace Go.Proofs.YtjgmnoaalbbonaaGreat.Fun
open Go Go.RowKit Go.Proofs.YtjgmnoaalbbonaaGreatA.Am
def LF (H:aa)(o:aj)(p:Nat)(kl vl:List Value):Prop:=
 ∃sk sv bk bv ty,H.get p=some ⟨[sk,sv],ty,1,false⟩∧Sl H o p sk kl bk∧Sl H o p sv vl bv∧o p=(p:Int)
theorem LF.fr {H H':aa}{o o':aj}{p:Nat}{kl vl:List Value}{ps:List Int}(h:LF H o p kl vl)(f:Fr H o H' o' ps)(hp:(p:Int) ∉ ps):LF H' o' p kl vl:=by
 obtain⟨sk,sv,bk,bv,ty,h1,h2,h3,h4⟩:=h;have hl:=an h1;exact⟨sk,sv,bk,bv,ty,by rw[f.same p hl (by rw[h4];exact hp)];exact h1,h2.fr f hp,h3.fr f hp,by rw[f.own p hl];exact h4⟩
theorem eK.v {H:aa}{o:aj}{p:Nat}{l:PL}(h:eK H o p l):LF H o p (gU (bd l)) (gU (di l)):=by
 obtain⟨⟨sk,sv,bk,bv,ty,h1,h2,h3,_⟩,h4,_⟩:=h;exact⟨sk,sv,bk,bv,ty,h1,h2,h3,h4⟩
theorem TU (G:ae)(n y:Nat)(args:List Value)(H:aa):Al Tryz.prog.funcs.size (run G n) (.func (.yield y) #[] #[]) args H=run G n (Tryz.prog.funcs.size+y) args H:=rfl
section
variable {G:ae} {n:Nat}
theorem O0 {H1 H0:aa}{o1:aj}{p y i0 ba bm bf:Nat}{fv:Value}{kl vl:List Value}{mb:Value→Bool}{ps:List Int}{tm tf:TypeId}{J R:Nat→aa→Prop}(hm:LF H1 o1 p kl vl)(hvl:vl.length=kl.length)(hl:kl.length≤4194304)(hn:4194304<n)(hp:(p:Int) ∉ ps)(gm:H1.get bm=some ⟨[pv p],tm,1,false⟩)(gf:H1.get bf=some ⟨[fv],tf,1,false⟩)(om:o1 bm ∉ ps)(of:o1 bf ∉ ps)(ga:aq (pv ba) H0=some (cv i0))(XU: ∀H' o',Fr H1 o1 H' o' ps→∀x∈kl,Al Tryz.prog.funcs.size (run G n) fv [x] H'=some (.bool (mb x),H'))(hJ: ∀i H',J i H'→∃o',Fr H1 o1 H' o' ps)(j0:J i0 H0)(U5:i0≤kl.length)(round: ∀i H' k v,kl[i]? =some k→vl[i]? =some v→i0≤i→mb k=true→J i H'→
   (∃kB,run G n (Tryz.prog.funcs.size+y) [k,v] H'=some (.bool true,kB)∧J (i+1) kB)∨(∃kB,run G n (Tryz.prog.funcs.size+y) [k,v] H'=some (.bool false,kB)∧R i kB)):
  ∃w H',run G (n+1) 119 [.func (.yield y) #[] #[],pv ba,pv bm,pv bf] H0=some (w,H')∧
   ((∃j,i0≤j∧j≤kl.length∧J j H'∧∀k,kl[j]? =some k→mb k=false)∨∃j,i0≤j∧j<kl.length∧R j H'):=by
 rw[Ry];obtain⟨r,oT,dX,hr⟩:=qg (step:=CW (run G n) n)
  (Q:=λm vs H'=>∃(i:Nat) (d1 d2:Value),i0≤i∧i≤kl.length∧m=kl.length-i∧vs=[.func (.yield y) #[] #[],pv ba,cv i,pv bm,pv bf,d1,d2]∧J i H')
  (R:=λr=>(r.1= .exit 0∧∃j,i0≤j∧j≤kl.length∧J j r.2.2∧∀k,kl[j]? =some k→mb k=false)∨(r.1= .ret∧∃j,i0≤j∧j<kl.length∧R j r.2.2))
  (by
   rintro m vs H' ⟨i,d1,d2,hi,JB,rfl,rfl,hj⟩;obtain⟨o',f⟩:=hJ i H' hj;have gm':H'.get bm=some ⟨[pv p],tm,1,false⟩:=by rw[f.same bm (an gm) om];exact gm
   have gf':H'.get bf=some ⟨[fv],tf,1,false⟩:=by rw[f.same bf (an gf) of];exact gf
   obtain⟨sk,sv,bk,bv,ty,h1,h2,h3,h4⟩:=hm.fr f hp;have oz:=h2.len;by_cases eR:i<kl.length
   ·have Dx:(i:Int)<kl.length:=by omega
    obtain⟨k,hk⟩: ∃k,kl[i]? =some k:=⟨_,List.getElem?_eq_getElem eR⟩;obtain⟨v,hv⟩: ∃v,vl[i]? =some v:=⟨_,List.getElem?_eq_getElem (by omega)⟩
    obtain⟨q,_,qo,iX⟩:=h2.idx hk;obtain⟨q',_,Sr,aaG⟩:=h3.idx hv;have hmy:=XU H' o' f k (List.mem_of_getElem? hk);cases Zm:mb k with
    |false=>
     rw[Zm] at hmy;refine .inr ⟨(.exit 0,[.func (.yield y) #[] #[],pv ba,cv i,pv bm,pv bf,.bool false,d2],H'),?_,by simp,.inl ⟨rfl,i,hi,JB,hj,λk' e=>by rw[hk] at e;cases e;exact Zm⟩⟩
     simp -implicitDefEqProofs [qj,mX,ak _ _ _ gm',ak _ _ _ gf',ak _ _ _ h1,cR,aQ,oz,bT,Dx,qo,iX H' rfl,hmy,aL,fin]
    |true=>
     rw[Zm] at hmy;have hw:IntKind.i64.wrap ((i:Int)+1)=((i+1:Nat):Int):=by rw[kr (by omega)];omega
     rcases round i H' k v hk hv hi Zm hj with⟨kB,hr,DV⟩|⟨kB,hr,hR⟩
     ·refine .inl ⟨_,kB,kl.length-(i+1),by omega,?_,i+1,.bool true,.bool false,by omega,by omega,rfl,rfl,DV⟩
      simp -implicitDefEqProofs [-Int.natCast_add,qj,mX,ak _ _ _ gm',ak _ _ _ gf',ak _ _ _ h1,cR,aQ,oz,bT,Dx,qo,iX H' rfl,Sr,aaG H' rfl,hmy,aL,TU,hr,da,gS,hw,fin]
     ·refine .inr ⟨(.ret,[.func (.yield y) #[] #[],pv ba,cv i,pv bm,pv bf,.bool true,.bool true],kB),?_,by simp,.inr ⟨rfl,i,hi,eR,hR⟩⟩
      simp -implicitDefEqProofs [qj,mX,ak _ _ _ gm',ak _ _ _ gf',ak _ _ _ h1,cR,aQ,oz,bT,Dx,qo,iX H' rfl,Sr,aaG H' rfl,hmy,aL,TU,hr,da,fin]
   ·have Dx: ¬(i:Int)<kl.length:=by omega
    refine .inr ⟨(.exit 0,[.func (.yield y) #[] #[],pv ba,cv i,pv bm,pv bf,.bool false,d2],H'),?_,by simp,.inl ⟨rfl,i,hi,JB,hj,λk' e=>by rw[List.getElem?_eq_none (by omega)] at e;cases e⟩⟩
    simp -implicitDefEqProofs [qj,mX,ak _ _ _ gm',ak _ _ _ h1,cR,aQ,oz,bT,Dx,aL,fin])
  (kl.length-i0) [.func (.yield y) #[] #[],pv ba,cv i0,pv bm,pv bf,undef,undef] H0 ⟨i0,_,_,Nat.le_refl _,U5,rfl,rfl,j0⟩ n (by omega)
 obtain⟨e,vs,H'⟩:=r;simp only at hr;rcases hr with⟨rfl,h⟩|⟨rfl,h⟩
 ·refine⟨.tuple #[],H',?_,.inl h⟩;simp -implicitDefEqProofs [Wu,ga,oT,vj,vi,Gr]
 ·refine⟨.tuple #[],H',?_,.inr h⟩;simp -implicitDefEqProofs [Wu,ga,oT,vj,vi,Gr]
theorem O1 (t:TypeId)(x:Value)(H:aa)(h:x.cells= #[x])(h1:av x=true):cO t x H=some (pv H.length,H.new ⟨[x],t,1,false⟩):=by
 unfold cO;rw[h];simp[h1,aO]
abbrev rN (f:FuncId)(c:Array Value):Value:=.func (.func f) #[] c
def mZ (H:aa)(p:Nat)(a:Int)(f:Value):aa:=((H.new ⟨[pv p],51,1,false⟩).new ⟨[cv a],3,1,false⟩).new ⟨[f],167,1,false⟩
abbrev E4 (H:aa):Value:=rN 119 #[pv (H.length+1),pv H.length,pv (H.length+2)]
abbrev E5 (H:aa)(o:aj)(bo:Int):aj:=((o.up H.length bo).up (H.length+1) bo).up (H.length+2) bo
theorem E6 (H:aa)(o:aj)(p:Nat)(a:Int)(f:Value)(bo:Int):Fr H o (mZ H p a f) (E5 H o bo) []:=by
 have h1:=(Fr.refl H o []).new ⟨[pv p],51,1,false⟩ bo;have h2:=h1.new ⟨[cv a],3,1,false⟩ bo;have h3:=h2.new ⟨[f],167,1,false⟩ bo;simp only[aW] at h2 h3;exact h3
theorem By (H:aa)(p:Nat)(a:Int)(f:Value):(mZ H p a f).length=H.length+3:=by simp[mZ,aW]
theorem Ss (H:aa)(p:Nat)(a:Int)(f:Value):(mZ H p a f).get H.length=some ⟨[pv p],51,1,false⟩:=by
 unfold mZ;rw[cD (by simp only[aW];omega),cD (by simp only[aW];omega)];exact ay
theorem St (H:aa)(p:Nat)(a:Int)(f:Value):(mZ H p a f).get (H.length+1)=some ⟨[cv a],3,1,false⟩:=by
 unfold mZ;rw[cD (by simp only[aW];omega)]
 have:=ay (H:=H.new ⟨[pv p],51,1,false⟩) (c:=⟨[cv a],3,1,false⟩)
 rw[aW] at this;exact this
theorem Su (H:aa)(p:Nat)(a:Int)(f:Value):(mZ H p a f).get (H.length+2)=some ⟨[f],167,1,false⟩:=by
 unfold mZ;have:=ay (H:=(H.new ⟨[pv p],51,1,false⟩).new ⟨[cv a],3,1,false⟩) (c:=⟨[f],167,1,false⟩)
 simp only[aW] at this;exact this
theorem LG (p:Nat)(a:Int)(f:FuncId)(c:Array Value)(H:aa):run G (n+1) 105 [pv p,cv a,rN f c] H=some (E4 H,mZ H p a (rN f c)):=by
 rw[RS];have b1:=O1 51 (pv p) H rfl rfl;have b2:=O1 3 (cv a) (H.new ⟨[pv p],51,1,false⟩) rfl rfl;have b3:=O1 167 (rN f c) ((H.new ⟨[pv p],51,1,false⟩).new ⟨[cv a],3,1,false⟩) rfl rfl;simp only[aW] at b2 b3;simp -implicitDefEqProofs [aaA,b1,b2,b3,mZ]
theorem O2 {L:mI}{H1:aa}{o1:aj}{p i0 ba bm bf:Nat}{fv:Value}{kl vl:List Value}{mb:Value→Bool}{ps:List Int}{ta tm tf:TypeId}{J R:Nat→aa→Prop}(hm:LF H1 o1 p kl vl)(hvl:vl.length=kl.length)(hl:kl.length≤4194304)(hn:4194304<n)(hp:(p:Int) ∉ ps)(gm:H1.get bm=some ⟨[pv p],tm,1,false⟩)(gf:H1.get bf=some ⟨[fv],tf,1,false⟩)(ga:H1.get ba=some ⟨[cv i0],ta,1,false⟩)(om:o1 bm ∉ ps)(of:o1 bf ∉ ps)(XU: ∀H' o',Fr H1 o1 H' o' ps→∀x∈kl,Al Tryz.prog.funcs.size (run G n) fv [x] H'=some (.bool (mb x),H'))(hJ: ∀i H',J i H'→(∃o',Fr H1 o1 H' o' ps)∧H'.cT H1.length=some (.loop L .ready))(hR: ∀i H',R i H'→∃L' s,H'.cT H1.length=some (.loop L' s))(j0:J i0 (H1.gj (.loop L .ready)))(U5:i0≤kl.length)(round: ∀i H' k v,kl[i]? =some k→vl[i]? =some v→i0≤i→mb k=true→J i H'→
   (∃kB,run G n (Tryz.prog.funcs.size+H1.length) [k,v] H'=some (.bool true,kB)∧J (i+1) kB)∨(∃kB,run G n (Tryz.prog.funcs.size+H1.length) [k,v] H'=some (.bool false,kB)∧R i kB)):
  ∃s H',Cg Tryz.prog.funcs.size (run G (n+1)) (rN 119 #[pv ba,pv bm,pv bf]) L H1=some (s,H'.kill H1.length)∧
   ((s= .ready∧∃j,i0≤j∧j≤kl.length∧J j H'∧∀k,kl[j]? =some k→mb k=false)∨∃j,i0≤j∧j<kl.length∧R j H'∧∃L',H'.cT H1.length=some (.loop L' s)):=by
 have ga0:aq (pv ba) (H1.gj (.loop L .ready))=some (cv i0):=ak ba 0 _ (by rw[cP (Bo (c:=.loop L .ready) (an ga))];exact ga)
 obtain⟨w,H',hr,h⟩:=O0 (y:=H1.length) hm hvl hl hn hp gm gf om of ga0 XU (λi H' h=>(hJ i H' h).1) j0 U5 round
 have eR:(119:Nat)<Tryz.prog.funcs.size:=by decide +kernel
 rcases h with⟨j,h1,h2,h3,h4⟩|⟨j,h1,h2,h3⟩
 ·exact⟨.ready,H',HK eR hr (hJ j H' h3).2,.inl ⟨rfl,j,h1,h2,h3,h4⟩⟩
 ·obtain⟨L',s,hs⟩:=hR j H' h3;exact⟨s,H',HK eR hr hs,.inr ⟨j,h1,h2,h3,L',hs⟩⟩
theorem O3 {C:ae}{f:FuncId}{c:Array Value}{args:List Value}{H:aa}(h:f<Tryz.prog.funcs.size):Al Tryz.prog.funcs.size C (rN f c) args H=C f (args++c.toList) H:=by
 simp[Al,h]
theorem LH {b:Nat}{t:TypeId}{hi:Int}{H:aa}(h:H.get b=some ⟨[cv hi],t,1,false⟩)(x:Int):Al Tryz.prog.funcs.size (run G (n+1)) (rN 106 #[pv b]) [cv x] H=some (.bool (decide (x≤hi)),H):=by
 have eR:(106:Nat)<Tryz.prog.funcs.size:=by decide +kernel
 rw[O3 eR];show run G (n+1) _ [cv x,pv b] H=_
 rw[Ra];simp -implicitDefEqProofs [aaw,ak _ _ _ h,kO]
def zC (H:aa)(hi:Int):aa:=H.new ⟨[cv hi],2,1,false⟩
theorem G5 {H:aa}{o:aj}{p:Nat}{l:PL}(h:eK H o p l)(lo hi:Int)(hn:4194304<n):
  run G (n+5) 79 [pv p,cv lo,cv hi] H=some (E4 (zC H hi),mZ (zC H hi) p (cn l lo) (rN 106 #[pv H.length])):=by
 rw[Wr];have b1:=O1 2 (cv hi) H rfl rfl;have h1:eK (zC H hi) (o.up H.length (-1)) p l:=h.fr ((Fr.refl H o []).new _ (-1)) (by simp)
 have ha:=tC (G:=G) h1 lo hn;have hf:=LG (G:=G) (n:=n+3) p (cn l lo) 106 #[pv H.length] (zC H hi);have e:H.new ⟨[cv hi],2,1,false⟩=zC H hi:=rfl;rw[e] at b1;simp -implicitDefEqProofs [F79,b1,ha,iw,hf]
theorem bs0 (H:aa):au Tryz.prog 52 0 [] H=some (.slice (some ⟨H.length,0,none⟩) 0 0,H.new ⟨[],2,1,false⟩):=by kernel_rfl
theorem slT:Tryz.prog.underlying 52=some (.slice 2):=by kernel_rfl
def _root_.Go.Proofs.YtjgmnoaalbbonaaGreatA.Am.aj.from (o:aj)(n:Nat)(Q:Int):aj:=λi=>if n≤i then Q else o i
theorem ie {o:aj}{n i:Nat}{Q:Int}(h:n≤i):o.from n Q i=Q:=by simp[aj.from,h]
theorem nW {o:aj}{n i:Nat}{Q:Int}(h:i<n):o.from n Q i=o i:=by unfold aj.from;rw[if_neg (by omega)]
theorem u5 {H:aa}{o:aj}{P:Int}{s:Value}{cs:List Int}{b:Option Nat}(hs:Sl H o P s (gU cs) b)(hl:cs.length≤4194304):
  ∃s' H' b',run G (n+1) 107 [s] H=some (s',H')∧(∀Q,Sl H' (o.from H.length Q) Q s' (gU cs) b')∧(∀j,j<H.length→H'[j]? =H[j]?)∧H.length≤H'.length∧∀q,b'=some q→H.length≤q∧q<H'.length:=by
 rw[QO];cases b with
 |none=>
  obtain⟨rfl,h0⟩:=hs;refine⟨.slice none 0 0,H,none,?_,λQ=>⟨rfl,h0⟩,λ_ _=>rfl,Nat.le_refl _,λq e=>by cases e⟩
  simp -implicitDefEqProofs [QN,qT none 0 0 slT]
 |some q=>
  obtain⟨cap,rest,ty,rfl,hb,hc,hp,hq⟩:=hs;simp only[List.length_map] at hc;have A7:=an hb;have he:=qT (P:=Tryz.prog) (some ⟨q,0,none⟩) cs.length cap slT;have b0:=bs0 H;obtain⟨H1,e1⟩: ∃x,x=H.new ⟨[],2,1,false⟩:=⟨_,rfl⟩;rw[←e1] at b0;have l1:H1.length=H.length+1:=by rw[e1,aW]
  have g1:H1.get H.length=some ⟨[],2,1,false⟩:=by rw[e1];exact ay
  by_cases hn:cs=[]
  ·subst hn;simp only[List.length_nil] at he;have ha:cg 2 1 8 (.slice (some ⟨H.length,0,none⟩) 0 0) (.slice (some ⟨q,0,none⟩) 0 cap) H1=some (.slice (some ⟨H.length,0,none⟩) 0 0,H1):=by
    simp[cg,bq]
   refine⟨.slice (some ⟨H.length,0,none⟩) 0 0,H1,some H.length,?_,λQ=>⟨0,[],2,rfl,g1,rfl,rfl,ie (Nat.le_refl _)⟩,λj hj=>by rw[e1,dC hj],by omega,λq e=>by cases e;omega⟩
   simp -implicitDefEqProofs [QN,he,b0,ha]
  ·have hlen:cs.length≠0:=by simpa using hn
   have hbq:H1.get q=some ⟨gU cs++rest,ty,1,false⟩:=by rw[e1,cD A7];exact hb
   have iX:aw H1 q 0 (cs.length*1)=some (gU cs):=by
    simp only[aw,hbq,Nat.mul_one];rw[if_pos (by simp),List.drop_zero,List.take_left' (by simp)]
   have acE:aw H1 H.length 0 (0*1)=some []:=by simp[aw,g1]
   have ha:cg 2 1 8 (.slice (some ⟨H.length,0,none⟩) 0 0) (.slice (some ⟨q,0,none⟩) cs.length cap) H1=some (.slice (some ⟨H.length+1,0,none⟩) cs.length cs.length,(H1.kill H.length).new ⟨gU cs,2,1,false⟩):=by
    simp only[cg,bq,hlen,if_false,iX,Option.map_some,Nat.zero_add];rw[if_neg (by omega),if_pos (by simp;omega)]
    simp only[g1];rw[if_pos (by simp)]
    simp only[acE,List.nil_append,l1]
   refine⟨.slice (some ⟨H.length+1,0,none⟩) cs.length cs.length,(H1.kill H.length).new ⟨gU cs,2,1,false⟩,some (H.length+1),?_,λQ=>?_,λj hj=>?_,by rw[aW,dh];omega,λq e=>by cases e;rw[aW,dh,l1];omega⟩
   ·simp -implicitDefEqProofs [QN,he,b0,ha]
   ·have:=ay (H:=H1.kill H.length) (c:=⟨gU cs,2,1,false⟩)
    rw[dh,l1] at this;exact⟨cs.length,[],2,by simp,by simpa using this,by simp,rfl,ie (by omega)⟩
   ·rw[dC (by rw[dh];omega),mS (by omega),e1,dC hj]
theorem abM (a b:Option Addr)(i j k m:Nat):aE Tryz.prog 54 [(0,.slice a i j),(1,.slice b k m)]=some (.agg #[.slice a i j,.slice b k m]):=by kernel_rfl
theorem G6 {H:aa}{o:aj}{p:Nat}{l:PL}(h:eK H o p l):
  ∃q H' o',run G (n+2) 80 [pv p] H=some (pv q,H')∧eK H' o' q l∧Fr H o H' o' []∧H.length≤q:=by
 obtain⟨⟨sk,sv,bk,bv,ty,hp,hk,hv,MS,vz,FW⟩,ho,ha,hf⟩:=h;have BQ:=an hp;rw[V7];obtain⟨XS,H1,bk',r1,k1,f1,m1,n1⟩:=u5 (G:=G) (n:=n) hk (by simpa using hf)
 have MH:Sl H1 o p sv (gU (di l)) bv:=hv.mv λq e=>⟨f1 q (hv.Qb e).1,rfl⟩
 obtain⟨XT,H2,bv',r2,k2,f2,m2,n2⟩:=u5 (G:=G) (n:=n) MH (by simpa using hf)
 have P1: ∀o,aq (.pointer (some ⟨p,o,none⟩)) H1=[sk,sv][o]? :=λo=>ak p o H1 (by rw[cP (f1 p BQ)];exact hp)
 obtain⟨a1,c1,d1,es1⟩:=(k1 0).isSlice;obtain⟨a2,c2,d2,es2⟩:=(k2 0).isSlice;have acF:cO 54 (.agg #[XS,XT]) H2=some (pv H2.length,H2.new ⟨[XS,XT],54,1,false⟩):=by
  subst es1 es2;simp[cO,Value.cells,av,aO]
 have hab:aE Tryz.prog 54 [(0,XS),(1,XT)]=some (.agg #[XS,XT]):=by
  subst es1 es2;exact abM _ _ _ _ _ _
 refine⟨H2.length,H2.new ⟨[XS,XT],54,1,false⟩,o.from H.length H2.length,?_,⟨⟨XS,XT,bk',bv',_,ay,?_,?_,?_,?_,?_⟩,ie (by omega),ha,hf⟩,⟨λj hj _=>by rw[dC (by omega),f2 j (by omega),f1 j hj],λj hj=>nW hj,by rw[aW];omega⟩,by omega⟩
 ·simp -implicitDefEqProofs [F80,cR,aQ,ak _ _ _ hp,P1,r1,r2,hab,acF,hv.jE]
 ·exact(k1 H2.length).mv λq e=>by
   have:=n1 q e
   exact⟨by rw[dC (by omega),f2 q this.2],rfl⟩
 ·exact(k2 H2.length).mv λq e=>by
   have:=n2 q e
   exact⟨by rw[dC this.2],by rw[ie (by omega),ie (by omega)]⟩
 ·intro e;have:=n1 _ e;omega
 ·intro e;have:=n2 _ e;omega
 ·intro q e e';have:=n1 q e;have:=n2 q e';omega
end
theorem XV:aE Tryz.prog 54 []=some (.agg #[.slice none 0 0,.slice none 0 0]):=by kernel_rfl
theorem acG (t:TypeId)(H:aa):cO t (.agg #[.slice none 0 0,.slice none 0 0]) H=some (pv H.length,H.new ⟨[.slice none 0 0,.slice none 0 0],t,1,false⟩):=by
 simp[cO,Value.cells,av,aO]
theorem eK.fresh (H:aa)(o:aj)(t:TypeId):eK (H.new ⟨[.slice none 0 0,.slice none 0 0],t,1,false⟩) (o.up H.length H.length) H.length []:=
 ⟨⟨_,_,none,none,t,ay,⟨rfl,rfl⟩,⟨rfl,rfl⟩,by simp,by simp,by simp⟩,aH,.nil,by simp⟩
section
variable {H:aa} {o:aj} {n:Nat}
theorem O4 {G:ae}(n:Nat)(a k:Int)(ha: -9223372036854775808≤a∧a≤9223372036854775807)(hk:0<k∧k≤4611686018427387904)(H:aa):run G (n+1) 9 [cv a,cv k] H=some (cv (a%k),H):=by
 rw[TN];have h0:k≠0:=by omega
 have h1:=Int.emod_nonneg a h0;have h2:=Int.emod_lt_of_pos a hk.1;have e:a.tmod k=if 0≤a∨a%k=0 then a%k else a%k-k:=by
  rw[Int.tmod_eq_emod];by_cases h:0≤a∨k ∣ a
  ·have h':0≤a∨a%k=0:=h.imp id (λh=>Int.emod_eq_zero_of_dvd h)
   simp[h,h']
  ·have h': ¬(0≤a∨a%k=0):=λhh=>h (hh.imp id (λh=>Int.dvd_of_emod_eq_zero h))
   simp only[h,h',if_false];rw[Int.natAbs_of_nonneg (by omega)]
 by_cases hc:0≤a∨a%k=0
 ·have e2: ¬(a%k<0):=by omega
  simp -implicitDefEqProofs [F9,Di,yW,sO _ _ _ h0,e,hc,bT,e2]
 ·have e2:(a%k-k<0):=by omega
  have e3:IntKind.i64.wrap (a%k)=a%k:=kr (by omega)
  simp -implicitDefEqProofs [F9,Di,yW,sO _ _ _ h0,e,hc,bT,e2,gS,e3]
end
end Go.Proofs.YtjgmnoaalbbonaaGreat.Fun
end
section
namespace Go.Proofs.YtjgmnoaalbbonaaGreat.Fun
open Go Go.RowKit Go.Proofs.YtjgmnoaalbbonaaGreatA.Am
set_option maxRecDepth 4000
theorem LI {x:Value}(h: ∃a n c,x= .slice a n c):x.cells= #[x]∧known x=true∧av x=true:=by
 obtain⟨a,n,c,rfl⟩:=h;exact⟨rfl,rfl,rfl⟩
section
variable {G:ae} {H:aa} {o:aj} {p:Nat} {l:PL} {n:Nat}
theorem aaH {i:Nat}{k:Value}(h:(gU (bd l))[i]? =some k):i<l.length∧k=cv (l.getD i (0,0)).1:=by
 have hi:i<l.length:=by have:=(List.getElem?_eq_some_iff.1 h).1;simpa using this
 rw[zA hi] at h;exact⟨hi,(Option.some.inj h).symm⟩
theorem aaI {i:Nat}{k:Value}(h:(gU (di l))[i]? =some k):k=cv (l.getD i (0,0)).2:=by
 have hi:i<l.length:=by have:=(List.getElem?_eq_some_iff.1 h).1;simpa using this
 rw[pK hi] at h;exact(Option.some.inj h).symm
end
end Go.Proofs.YtjgmnoaalbbonaaGreat.Fun
end
section
namespace Go.Proofs.YtjgmnoaalbbonaaGreat.Fun
open Go Go.RowKit Go.Proofs.YtjgmnoaalbbonaaGreatA.Am
def XW (y:Nat)(v k w:Value)(H:aa):Option (Value×aa):=
 Ju y H λH=>
 af (pS (aq v H) H) λgv H=>
 af (pS (aE Tryz.prog 42 [(0,k),(1,w)]) H) λjh H=>
 af (au Tryz.prog 43 1 [(0,jh)] H) λjB H=>
 af (cg 42 2 16 gv jB H) λoK H=>
 af (bS 1 v oK H) λlJ H=>
 BK y .normal H
theorem abP (k w:Int):aE Tryz.prog 42 [(0,cv k),(1,cv w)]=some (.agg #[cv k,cv w]):=by kernel_rfl
theorem bsP (k w:Int)(H:aa):au Tryz.prog 43 1 [(0,.agg #[cv k,cv w])] H=some (.slice (some ⟨H.length,0,none⟩) 1 1,H.new ⟨[cv k,cv w],42,2,false⟩):=by kernel_rfl
section
variable {G:ae} {H:aa} {o:aj} {p:Nat} {l:PL} {n:Nat}
theorem wo {i:Nat}(hi:i<l.length):l.take (i+1)=l.take i++[((l.getD i (0,0)).1,(l.getD i (0,0)).2)]:=by
 have e:l[i]? =some l[i]:=List.getElem?_eq_getElem hi;rw[List.take_add_one,List.getD_eq_getElem?_getD,e];rfl
def XX (C:aa)(oC:aj)(L:mI)(b:Nat)(t:TypeId)(q:Int)(l:PL)(i:Nat)(H':aa):Prop:=
 ∃x o',Fr C oC H' o' [q]∧H'.cT C.length=some (.loop L .ready)∧H'.get b=some ⟨[x],t,1,false⟩∧gu H' o' q x (l.take i)∧i≤l.length
theorem LJ {C:aa}{oC:aj}{L:mI}{b:Nat}{t:TypeId}{q:Int}{i:Nat}(hb:b<C.length)(ob:oC b=q)(hl:l.length≤4194304)(hi:i<l.length){H':aa}(h:XX C oC L b t q l i H'):
  ∃kB,XW C.length (pv b) (cv (l.getD i (0,0)).1) (cv (l.getD i (0,0)).2) H'=some (.bool true,kB)∧XX C oC L b t q l (i+1) kB:=by
 obtain⟨x,o',f,ot,gb,hx,_⟩:=h;obtain⟨A,eA⟩: ∃A,A=H'.eQ C.length (.loop L .busy):=⟨_,rfl⟩;have otA:A.cT C.length=some (.loop L .busy):=by rw[eA];exact sT ot
 have gA:A.get b=some ⟨[x],t,1,false⟩:=by rw[eA];exact mO ot gb
 have xA:gu A o' q x (l.take i):=by rw[eA];exact hx.eQ ot
 have fA:Fr C oC A o' [q]:=by rw[eA];exact f.eQ (λh=>by omega)
 obtain⟨B,eB⟩: ∃B,B=A.new ⟨[cv (l.getD i (0,0)).1,cv (l.getD i (0,0)).2],42,2,false⟩:=⟨_,rfl⟩;have fB:Fr A o' B (o'.up A.length (q-1)) []:=by rw[eB];exact(Fr.refl _ _ _).new _ _
 have xB:=xA.fr fB (by simp)
 have otB:B.cT C.length=some (.loop L .busy):=by rw[eB,xw (dC (eF otA))];exact otA
 have gB:B.get b=some ⟨[x],t,1,false⟩:=by rw[eB,cD (an gA)];exact gA
 have gs:B.get A.length=some ⟨[cv (l.getD i (0,0)).1,cv (l.getD i (0,0)).2],42,2,false⟩:=by rw[eB];exact ay
 have hbs:=bsP (l.getD i (0,0)).1 (l.getD i (0,0)).2 A;rw[←eB] at hbs;obtain⟨x',D,oD,ha,xD,fD,hs⟩:=xB.app 42 (Src.one gs) (by simp;omega)
 obtain⟨sb,nb⟩:=hs b (xB.Cs gB) (an gB);obtain⟨sy,ny⟩:=hs C.length (xB.xC otB) (eF otB);have gD:D.get b=some ⟨[x],t,1,false⟩:=by rw[cP sb];exact gB
 have otD:D.cT C.length=some (.loop L .busy):=by rw[xw sy];exact otB
 obtain⟨c1,c2,c3⟩:=LI (by obtain⟨a,c,e⟩:=xD.isSlice;exact⟨a,_,c,e⟩)
 have st:=kE b 0 x' D gD rfl (by simp) c1 c2 c3
 simp only[List.set_cons_zero] at st;have dX:=Ny otD gD;have otE:=Nz (x:=⟨[x'],t,1,false⟩) otD dX;have en:=QC (e:=.normal) otE;simp only[oX.of] at en;refine⟨(D.put b ⟨[x'],t,1,false⟩).eQ C.length (.loop L .ready),?_,x',oD,?_,sT otE,mO otE (aD gD),?_,hi⟩
 ·unfold XW;simp -implicitDefEqProofs [-List.getD_eq_getElem?_getD,QB ot, ←eA,ak _ _ _ gA,abP,hbs,ha,st,en,bJ.on]
 ·have:=((fA.tr (fB.wk (by simp))).tr fD)
  exact(this.put (λ_=>by simp[ob])).eQ (λh=>by omega)
 ·rw[wo hi];exact(xD.GB gD).eQ otE
end
section
variable {G:ae} {H:aa} {o:aj} {q:Int} {x:Value} {l:PL} {n:Nat}
abbrev acH (a b:Int):Value:=.agg #[cv a,cv b]
theorem acI (b:Nat)(a c:Int){u v:Value}{t:TypeId}{es:Nat}(H:aa)(h:H.get b=some ⟨[u,v],t,es,false⟩):bS 2 (.pointer (some ⟨b,0,none⟩)) (acH a c) H=some (undef,H.put b ⟨[cv a,cv c],t,es,false⟩):=by
 simp[bS,bl,h,Value.cells,known,av,bB]
end
section
variable {G:ae} {H:aa} {o:aj} {q:Int} {x:Value} {l:PL} {n:Nat}
def FE (lo hi:Int)(l:PL):PL:=l.filter λz=>decide (lo≤z.1)&&decide (z.1≤hi)
theorem Sv (lo hi:Int)(l:PL):(FE lo hi l).length≤l.length:=List.length_filter_le _ _
end
theorem filter_le {hi:Int}: ∀{l:PL},AJ (bd l)→l.filter (λz=>decide (z.1≤hi))=l.takeWhile λz=>decide (z.1≤hi)
 | [],_=>rfl
 |x::l,h=>by
  have h':=List.pairwise_cons.1 h;by_cases hx:x.1≤hi
  ·simp only[List.filter_cons,List.takeWhile_cons,hx,decide_true,if_true];rw[filter_le h'.2]
  ·have hn:l.filter (λz=>decide (z.1≤hi))=[]:=by
    rw[List.filter_eq_nil_iff];intro z hz;have:x.1<z.1:=h'.1 z.1 (List.mem_map_of_mem (f:=Prod.fst) hz);simp;omega
   simp[List.filter_cons,List.takeWhile_cons,hx,hn]
theorem G7 {lo hi:Int}: ∀{l:PL},AJ (bd l)→FE lo hi l=(l.drop (cn l lo)).takeWhile λz=>decide (z.1≤hi)
 | [],_=>rfl
 |x::l,h=>by
  have h':=List.pairwise_cons.1 h;by_cases hx:x.1<lo
  ·have e:cn (x::l) lo=cn l lo+1:=by simp[cn,oa,List.takeWhile_cons,hx]
   have hn: ¬lo≤x.1:=by omega
   rw[e,List.drop_succ_cons, ←G7 h'.2];simp[FE,List.filter_cons,hn]
  ·have e:cn (x::l) lo=0:=by simp[cn,oa,List.takeWhile_cons,hx]
   rw[e,List.drop_zero, ←filter_le h];unfold FE;refine List.filter_congr λz hz=>?_
   have:lo≤z.1:=by
    rcases List.mem_cons.1 hz with rfl|hz
    ·omega
    ·have:x.1<z.1:=h'.1 z.1 (List.mem_map_of_mem (f:=Prod.fst) hz);omega
   simp[this]
theorem XY {l:PL}{hi:Int}{j:Nat}(h1:j≤l.length)(h2: ∀t (h:t<l.length),t<j→l[t].1≤hi)(h3: ∀h:j<l.length,¬l[j].1≤hi):(l.takeWhile λz=>decide (z.1≤hi)).length=j:=
 GA (λ(z k:Int×Int)=>decide (z.1≤k.1)) (k:=(hi,0)) h1 (λt h ht=>by simpa using h2 t h ht) (λh=>by simpa using h3 h)
theorem O5 {hi:Int}: ∀{l:PL} {j:Nat} (hj:j<l.length),(∀t (h:t<l.length),t≤j→l[t].1≤hi)→(l.takeWhile λz=>decide (z.1≤hi))[j]? =some l[j]
 | [],j,hj,_=>by simp at hj
 |x::l,j,hj,h=>by
  have h0:=h 0 (by simp) (by omega)
  simp only[List.getElem_cons_zero] at h0;simp only[List.takeWhile_cons,h0,decide_true,if_true];cases j with
  |zero=>rfl
  |succ j=>
   simp only[List.getElem?_cons_succ,List.getElem_cons_succ];exact O5 (by simpa using hj) λt ht htj=>h (t+1) (by simpa using ht) (by omega)
theorem nX {l:PL}{i:Nat}(h:i<l.length):l.getD i (0,0)=l[i]:=by rw[List.getD_eq_getElem?_getD,List.getElem?_eq_getElem h];rfl
theorem Sw {l:PL}(ha:AJ (bd l)){lo hi:Int}{i:Nat}(Ms:cn l lo≤i)(DQ:i<l.length)(h: ∀t,cn l lo≤t→t≤i→(l.getD t (0,0)).1≤hi):
  i-cn l lo<(FE lo hi l).length∧(FE lo hi l).getD (i-cn l lo) (0,0)=l.getD i (0,0):=by
 rw[G7 ha];have eR:i-cn l lo<(l.drop (cn l lo)).length:=by simp;omega
 have hg:=O5 (hi:=hi) eR λt ht XZ=>by
  rw[List.getElem_drop];have:=h (cn l lo+t) (by omega) (by omega)
  rw[nX (by simp at ht;omega)] at this
  exact this
 refine⟨(List.getElem?_eq_some_iff.1 hg).1,?_⟩;rw[List.getD_eq_getElem?_getD,hg,nX DQ,Option.getD_some,List.getElem_drop]
 congr 1;omega
theorem O6 {l:PL}(ha:AJ (bd l)){lo hi:Int}{j:Nat}(kc:cn l lo≤j)(jb:j≤l.length)(h: ∀t,cn l lo≤t→t<j→(l.getD t (0,0)).1≤hi)(he:j<l.length→¬(l.getD j (0,0)).1≤hi):
  (FE lo hi l).length=j-cn l lo:=by
 rw[G7 ha];refine XY (by simp;omega) (λt ht htj=>?_) (λht=>?_)
 ·rw[List.getElem_drop];have:=h (cn l lo+t) (by omega) (by omega)
  rw[nX (by simp at ht;omega)] at this
  exact this
 ·rw[List.getElem_drop];simp only[List.length_drop] at ht;have e:cn l lo+(j-cn l lo)=j:=by omega
  have:=he (by omega)
  rw[nX (by omega)] at this
  simpa[e] using this
section
variable {G:ae} {H:aa} {o:aj} {p:Nat} {l:PL} {n:Nat}
abbrev qL (H:aa)(p:Nat)(l:PL)(lo hi:Int):aa:=mZ (zC H hi) p (cn l lo) (rN 106 #[pv H.length])
abbrev AK (H:aa)(o:aj)(hi:Int):aj:=E5 (zC H hi) (o.up H.length (-3)) (-3)
theorem IL (o:aj)(lo hi:Int):Fr H o (qL H p l lo hi) (AK H o hi) []:=
 ((Fr.refl H o []).new ⟨[cv hi],2,1,false⟩ (-3)).tr (E6 (zC H hi) (o.up H.length (-3)) p (cn l lo) (rN 106 #[pv H.length]) (-3))
theorem O7 (lo hi:Int):(qL H p l lo hi).length=H.length+4:=by rw[By];simp[zC,aW]
theorem LK {L:mI}{lo hi:Int}{ps:List Int}{J R:Nat→aa→Prop}(h:eK H o p l)(hp:(p:Int) ∉ ps)(h3:(-3:Int) ∉ ps)(hn:4194304<n)(hJ: ∀i H',J i H'→(∃o',Fr (qL H p l lo hi) (AK H o hi) H' o' ps)∧H'.cT (qL H p l lo hi).length=some (.loop L .ready))(hR: ∀i H',R i H'→∃L' s,H'.cT (qL H p l lo hi).length=some (.loop L' s))(j0:J (cn l lo) ((qL H p l lo hi).gj (.loop L .ready)))(round: ∀i H',i<l.length→cn l lo≤i→(l.getD i (0,0)).1≤hi→J i H'→
   (∃kB,run G (n+1) (Tryz.prog.funcs.size+(qL H p l lo hi).length) [cv (l.getD i (0,0)).1,cv (l.getD i (0,0)).2] H'=some (.bool true,kB)∧J (i+1) kB)∨
   (∃kB,run G (n+1) (Tryz.prog.funcs.size+(qL H p l lo hi).length) [cv (l.getD i (0,0)).1,cv (l.getD i (0,0)).2] H'=some (.bool false,kB)∧R i kB)):
  ∃s H',Cg Tryz.prog.funcs.size (run G (n+2)) (E4 (zC H hi)) L (qL H p l lo hi)=some (s,H'.kill (qL H p l lo hi).length)∧
   ((s= .ready∧∃j,cn l lo≤j∧j≤l.length∧J j H'∧(j<l.length→¬(l.getD j (0,0)).1≤hi))∨∃j,cn l lo≤j∧j<l.length∧R j H'∧∃L',H'.cT (qL H p l lo hi).length=some (.loop L' s)):=by
 have f:=IL (H:=H) (p:=p) (l:=l) o lo hi;have cm:=Ss (zC H hi) p (cn l lo) (rN 106 #[pv H.length]);have ca:=St (zC H hi) p (cn l lo) (rN 106 #[pv H.length]);have cf:=Su (zC H hi) p (cn l lo) (rN 106 #[pv H.length]);have lC:=By (zC H hi) p (cn l lo) (rN 106 #[pv H.length]);have l1:(zC H hi).length=H.length+1:=aW _ _;have f2:=E6 (zC H hi) (o.up H.length (-3)) p (cn l lo) (rN 106 #[pv H.length]) (-3);have gh:(qL H p l lo hi).get H.length=some ⟨[cv hi],2,1,false⟩:=by
  rw[f2.same H.length (by omega) (by simp)];exact ay
 have oh:AK H o hi H.length= -3:=by unfold AK;rw[f2.own H.length (by omega),aH]
 have mC:=h.fr f (by simp)
 have D6:=h.fits;obtain⟨s,H',X0,kN⟩:=O2 (G:=G) (n:=n+1) (L:=L) (J:=J) (R:=R) (mb:=λv=>match v with| .int _ z=>decide (z≤hi)|_=>false) (ps:=ps) (i0:=cn l lo)
  mC.v (by simp) (by simpa using D6) (by omega) hp cm cf ca (by unfold AK;rw[show E5 (zC H hi) (o.up H.length (-3)) (-3) (zC H hi).length= -3 by simp[aj.up]];exact h3) (by unfold AK;rw[show E5 (zC H hi) (o.up H.length (-3)) (-3) ((zC H hi).length+2)= -3 by simp[aj.up]];exact h3)
  (λH' o' f' x hx=>by
   obtain⟨z,_,rfl⟩:=List.mem_map.1 hx;exact LH (by rw[f'.same H.length (an gh) (by rw[oh];exact h3)];exact gh) z)
  hJ hR j0 (by simpa using tz l lo)
  (by
   rintro i H' kx vx hk vM Ms Zm hj;obtain⟨DQ,rfl⟩:=aaH hk;obtain rfl:=aaI vM;exact round i H' DQ Ms (by simpa using Zm) hj)
 refine⟨s,H',X0,kN.imp (λ⟨h1,j,h2,h3,h4,h5⟩=>⟨h1,j,h2,by simpa using h3,h4,λhj=>?_⟩) (λ⟨j,h2,h3,h4⟩=>⟨j,h2,by simpa using h3,h4⟩)⟩
 have:=h5 _ (zA hj)
 simpa using this
def Bx (H:aa)(o:aj)(b:Nat)(q:Int)(t:TypeId)(x:Value):Prop:=H.get b=some ⟨[x],t,1,false⟩∧o b=q
theorem Bx.fr {H H':aa}{o o':aj}{b:Nat}{q:Int}{t:TypeId}{x:Value}{ps:List Int}(h:Bx H o b q t x)(f:Fr H o H' o' ps)(hq:q ∉ ps):Bx H' o' b q t x:=
 ⟨by rw[f.same b (an h.1) (by rw[h.2];exact hq)];exact h.1,by rw[f.own b (an h.1)];exact h.2⟩
theorem Bx.ld {H:aa}{o:aj}{b:Nat}{q:Int}{t:TypeId}{x:Value}(h:Bx H o b q t x):aq (pv b) H=some x:=ak _ _ _ h.1
theorem Bx.lt {H:aa}{o:aj}{b:Nat}{q:Int}{t:TypeId}{x:Value}(h:Bx H o b q t x):b<H.length:=an h.1
theorem Bx.made (H:aa)(o:aj)(q:Int)(t:TypeId)(x:Value):Bx (H.new ⟨[x],t,1,false⟩) (o.up H.length q) H.length q t x:=⟨ay,aH⟩
theorem Bx.st {H:aa}{o:aj}{b:Nat}{q:Int}{t:TypeId}{x y:Value}(h:Bx H o b q t x)(hx:y.cells= #[y]∧known y=true∧av y=true):
  ∃A,bS 1 (pv b) y H=some (undef,A)∧Bx A o b q t y∧Fr H o A o [q]:=by
 have st:=kE b 0 y H h.1 rfl (by simp) hx.1 hx.2.1 hx.2.2
 simp only[List.set_cons_zero] at st;exact⟨_,st,⟨aD h.1,h.2⟩,(Fr.refl _ _ _).put (λ_=>by simp[h.2])⟩
theorem Sx (H:aa)(o:aj)(q:Int)(t:TypeId)(x y:Value)(hx:y.cells= #[y]∧known y=true∧av y=true):
  ∃A,bS 1 (pv H.length) y (H.new ⟨[x],t,1,false⟩)=some (undef,A)∧Bx A (o.up H.length q) H.length q t y∧Fr H o A (o.up H.length q) []:=by
 obtain⟨A,h1,h2,h3⟩:=(Bx.made H o q t x).st hx;refine⟨A,h1,h2,⟨λi hi hn=>?_,λi hi=>cZ (by omega),?_⟩⟩
 ·have:=kE H.length 0 y _ (Bx.made H o q t x).1 rfl (by simp) hx.1 hx.2.1 hx.2.2
  rw[h1] at this;cases this;rw[db (by omega),dC hi]
 ·have:=h3.size;rw[aW] at this;omega
theorem O8 {i:Nat}(vK:i<H.length)(hi:Int):AK H o hi i=o i:=by
 unfold AK E5;have l1:(zC H hi).length=H.length+1:=aW _ _;simp only[l1];rw[cZ (by omega),cZ (by omega),cZ (by omega),cZ (by omega)]
end
end Go.Proofs.YtjgmnoaalbbonaaGreat.Fun
end
