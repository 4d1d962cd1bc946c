/- Texts of the proof of linearChecks_holds, put together by a small program of ours (names shortened, spaces taken out). No condition beyond the given statement. -/
import Derived.Test.YtjgmnoaalbbonaaGreatLCQ15
import Derived.Test.YtjgmnoaalbbonaaGreatLCQ20
import Derived.Test.YtjgmnoaalbbonaaGreatLCQ24
import Derived.Test.YtjgmnoaalbbonaaGreatLCQ16
import Derived.Test.YtjgmnoaalbbonaaGreatLCQ21
import Derived.Test.YtjgmnoaalbbonaaGreatLCQ22
set_option linter.unusedVariables false
set_option linter.unusedSimpArgs false
set_option linter.unnecessarySimpa false
noncomputable section
section
namespace Go.Proofs.YtjgmnoaalbbonaaGreat.Fun
open Go Go.RowKit Go.Proofs.YtjgmnoaalbbonaaGreatA.Am
section
variable {G:ag} {H:ae} {o:an} {q:Int} {x:Value} {l:PL} {n:Nat}
def wJ (lo hi:Int)(l:PL):PL:=l.filter λz=>decide (lo≤z.1)&&decide (z.1≤hi)
theorem MQ (lo hi:Int)(l:PL):(wJ lo hi l).length≤l.length:=List.length_filter_le _ _
theorem acD {lo hi:Int}{i:Nat}(wZ:i<l.length):wJ lo hi (l.take (i+1))=wJ lo hi (l.take i)++if lo≤(l.getD i (0,0)).1∧(l.getD i (0,0)).1≤hi then[((l.getD i (0,0)).1,(l.getD i (0,0)).2)] else[]:=by
 rw[nG wZ,wJ,List.filter_append]
 congr 1
 by_cases h1:lo≤(l.getD i (0,0)).1<;>by_cases h2:(l.getD i (0,0)).1≤hi<;>simp[h1,h2, -List.getD_eq_getElem?_getD]
theorem Il (hx:ee H o q x l)(hl:l.length≤4194304)(lo hi:Int)(hn:4194304<n):
  ∃x' H',run G (n+1) 89 [x,cv lo,cv hi] H=some (x',H')∧(∀Q,fF H' (o.from H.length Q) Q x' (wJ lo hi l))∧(∀j,j<H.length→H'[j]? =H[j]?)∧H.length≤H'.length:=by
 rw[abD];have jm:=hx.len;have h0:ee H (oI H) 0 x l:=hx.relabel λi hi _=>Ig hi
 obtain⟨r,iL,eC,r1,o',x',d8,d12,d30,r2,r3,r4⟩:=iy (step:=Kt (run G n) n)
  (Q:=λm vs H'=>∃(i:Nat) (o':an) (x' d12 d30:Value),i≤l.length∧m=l.length-i∧vs=[x,cv lo,cv hi,.slice none 0 0,cv i,d12,d30,x']∧fF H' o' 1 x' (wJ lo hi (l.take i))∧Fr H (oI H) H' o' [1])
  (R:=λr=>r.1= .exit 0∧∃(o':an) (x' d8 d12 d30:Value),r.2.1=[x,cv lo,cv hi,.slice none 0 0,d8,d12,d30,x']∧fF r.2.2 o' 1 x' (wJ lo hi l)∧Fr H (oI H) r.2.2 o' [1])
  (by
   rintro m vs H' ⟨i,o',x',d12,d30,Nz,rfl,rfl,hs,hf⟩;by_cases dH:i<l.length
   ·have h1:(i:Int)<l.length:=by omega
    obtain⟨bi,bo,y0,fq,rW,DY,qH⟩:=(h0.fr hf (by simp)).idx dH
    obtain⟨d1,d2,d3⟩:=qH _ rW;have hw:IntKind.i64.wrap ((i:Int)+1)=((i+1:Nat):Int):=by rw[jE (by omega)];omega
    have hra:=acD (lo:=lo) (hi:=hi) dH;by_cases ha:(l.getD i (0,0)).1≥lo
    ·by_cases hb:(l.getD i (0,0)).1≤hi
     ·obtain⟨H2,e2⟩: ∃z,z=H'.new ⟨[cv (l.getD i (0,0)).1,cv (l.getD i (0,0)).2],42,2,false⟩:=⟨_,rfl⟩;have f2:Fr H' o' H2 (o'.up H'.length 2) [1]:=by rw[e2];exact(Fr.refl _ _ _).new _ _
      have Ux:=bsP (l.getD i (0,0)).1 (l.getD i (0,0)).2 H';rw[←e2] at Ux;have gs:H2.get H'.length=some ⟨[cv (l.getD i (0,0)).1,cv (l.getD i (0,0)).2],42,2,false⟩:=by rw[e2];exact az
      have s2:fF H2 (o'.up H'.length 2) 1 x' (wJ lo hi (l.take i)):=hs.mv λj a c e=>by
       have hj:j<H'.length:=by
        rcases hs with⟨rfl,_⟩|⟨i',cap,rest,ty,rfl,h2,_⟩
        ·cases e
        ·cases e;exact aq h2
       exact⟨by rw[e2,dh hj],dc (by omega)⟩
      have hrl:=MQ lo hi (l.take i);rw[List.length_take] at hrl;obtain⟨x3,H3,o3,ha3,s3,f3,_⟩:=s2.app 42 (Src.one gs) (by simp;omega)
      rw[if_pos ⟨by omega,hb⟩] at hra
      rw[←hra] at s3;refine .inl ⟨_,H3,l.length-(i+1),by omega,?_,i+1,o3,x3,.bool true,.bool true,by omega,rfl,rfl,s3,(hf.tr f2).tr f3⟩
      simp -implicitDefEqProofs [-List.getD_eq_getElem?_getD, -Int.natCast_add, -ge_iff_le,vk,rR,jm,aE,h1,fq,ax,d1,fp,ha,hP,hb,ar,d3,Ux,ha3,Bc,vj,de,hw,fin]
     ·rw[if_neg (by omega),List.append_nil] at hra
      rw[←hra] at hs;refine .inl ⟨_,H',l.length-(i+1),by omega,?_,i+1,o',x',.bool true,.bool false,by omega,rfl,rfl,hs,hf⟩
      simp -implicitDefEqProofs [-List.getD_eq_getElem?_getD, -Int.natCast_add, -ge_iff_le,vk,rR,jm,aE,h1,fq,ax,d1,fp,ha,hP,hb,ar,Bc,vj,de,hw,fin]
    ·rw[if_neg (by omega),List.append_nil] at hra
     rw[←hra] at hs;refine .inl ⟨_,H',l.length-(i+1),by omega,?_,i+1,o',x',.bool true,.bool false,by omega,rfl,rfl,hs,hf⟩
     simp -implicitDefEqProofs [-List.getD_eq_getElem?_getD, -Int.natCast_add, -ge_iff_le,vk,rR,jm,aE,h1,fq,ax,d1,fp,ha,ar,Bc,vj,de,hw,fin]
   ·have h1: ¬(i:Int)<l.length:=by omega
    have JI:i=l.length:=by omega
    rw[JI,List.take_length] at hs;refine .inr ⟨(.exit 0,[x,cv lo,cv hi,.slice none 0 0,cv i,.bool false,d30,x'],H'),?_,by simp,rfl,o',x',_,_,_,rfl,hs,hf⟩
    simp -implicitDefEqProofs [vk,rR,jm,aE,h1,fin])
  (l.length-0) [x,cv lo,cv hi,.slice none 0 0,cv (0:Nat),undef,undef,.slice none 0 0] H ⟨0,_,_,_,_,Nat.zero_le _,rfl,rfl,.inl ⟨rfl,rfl⟩,.refl _ _ _⟩ n (by omega)
 obtain⟨e,vs,H'⟩:=r;simp only at r1 r2 r3 r4;subst r1 r2;simp only[Int.natCast_zero] at iL;refine⟨x',H',?_,λQ=>(Ih r3 r4 Q).1,(Ih (o:=o) r3 r4 0).2.1,r4.size⟩
 simp -implicitDefEqProofs [F89,iL,Sw,F1]
theorem PB (hx:ee H o q x l)(hl:l.length≤4194304)(ha:q8 (aX l))(hn:4194304<n):run G (n+1) 32 [x] H=some (.bool true,H):=by
 rw[JP];have jm:=hx.len;obtain⟨r,iL,eC,r1,r2,d3,d7,d21,r3⟩:=iy (step:=E5 (run G n) n)
  (Q:=λm vs H'=>H'=H∧∃(i:Nat) (d7 d21:Value),1≤i∧m=l.length-i∧vs=[x,.bool false,cv i,d7,d21])
  (R:=λr=>r.1= .exit 0∧r.2.2=H∧∃d3 d7 d21,r.2.1=[x,.bool false,d3,d7,d21])
  (by
   rintro m vs H' ⟨rfl,i,d7,d21,hi,rfl,rfl⟩;by_cases dH:i<l.length
   ·have h1:(i:Int)<l.length:=by omega
    obtain⟨j,rfl⟩: ∃j,i=j+1:=⟨i-1,by omega⟩
    obtain⟨bi,bo,y0,fq,rW,DY,qH⟩:=hx.idx dH;obtain⟨d1,d2,d3⟩:=qH _ rW;obtain⟨bj,bjo,z0,Dg,IT,hco,W9⟩:=hx.idx (show j<l.length by omega)
    obtain⟨c1,c2,c3⟩:=W9 _ IT;have hw:IntKind.i64.wrap (((j+1:Nat):Int)+1)=((j+1+1:Nat):Int):=by rw[jE (by omega)];omega
    have uH:IntKind.i64.wrap (((j+1:Nat):Int)-1)=(j:Int):=by rw[jE (by omega)];omega
    have hk: ¬(l.getD (j+1) (0,0)).1≤(l.getD j (0,0)).1:=by
     have:=List.pairwise_iff_getElem.1 ha j (j+1) (by simp;omega) (by simpa using dH) (by omega)
     rw[List.getD_eq_getElem?_getD,List.getD_eq_getElem?_getD,List.getElem?_eq_getElem dH,List.getElem?_eq_getElem (show j<l.length by omega)]
     simp only[List.getElem_map,Option.getD_some] at this ⊢;omega
    refine .inl ⟨_,_,l.length-(j+1+1),by omega,?_,rfl,j+1+1,.bool true,.bool false,by omega,rfl,rfl⟩
    simp -implicitDefEqProofs [-List.getD_eq_getElem?_getD, -Int.natCast_add,qS,po,jm,aE,h1,fq,Dg,ax,d1,c1,ki,uH,hP,hk,de,hw,fin]
   ·have h1: ¬(i:Int)<l.length:=by omega
    refine .inr ⟨(.exit 0,[x,.bool false,cv i,.bool false,d21],H'),?_,by simp,rfl,rfl,_,_,_,rfl⟩
    simp -implicitDefEqProofs [qS,po,jm,aE,h1,fin])
  (l.length-1) [x,.bool false,cv (1:Nat),undef,undef] H ⟨rfl,1,_,_,Nat.le_refl _,rfl,rfl⟩ n (by omega)
 obtain⟨e,vs,H'⟩:=r;simp only at r1 r2 r3;subst r1 r2 r3;have e1:((1:Nat):Int)=1:=rfl;rw[e1] at iL;simp -implicitDefEqProofs [F32,iL,HH,yB]
end
theorem filter_le {hi:Int}: ∀{l:PL},q8 (aX l)→l.filter (λz=>decide (z.1≤hi))=l.takeWhile λz=>decide (z.1≤hi)
 | [],_=>rfl
 |x::l,h=>by
  have h':=List.pairwise_cons.1 h;by_cases hx:x.1≤hi
  ·simp only[List.filter_cons,List.takeWhile_cons,hx,decide_true,if_true];rw[filter_le h'.2]
  ·have hn:l.filter (λz=>decide (z.1≤hi))=[]:=by
    rw[List.filter_eq_nil_iff];intro z hz;have:x.1<z.1:=h'.1 z.1 (List.mem_map_of_mem (f:=Prod.fst) hz);simp;omega
   simp[List.filter_cons,List.takeWhile_cons,hx,hn]
theorem KS {lo hi:Int}: ∀{l:PL},q8 (aX l)→wJ lo hi l=(l.drop (bg l lo)).takeWhile λz=>decide (z.1≤hi)
 | [],_=>rfl
 |x::l,h=>by
  have h':=List.pairwise_cons.1 h;by_cases hx:x.1<lo
  ·have e:bg (x::l) lo=bg l lo+1:=by simp[bg,pQ,List.takeWhile_cons,hx]
   have hn: ¬lo≤x.1:=by omega
   rw[e,List.drop_succ_cons, ←KS h'.2];simp[wJ,List.filter_cons,hn]
  ·have e:bg (x::l) lo=0:=by simp[bg,pQ,List.takeWhile_cons,hx]
   rw[e,List.drop_zero, ←filter_le h];unfold wJ;refine List.filter_congr λz hz=>?_
   have:lo≤z.1:=by
    rcases List.mem_cons.1 hz with rfl|hz
    ·omega
    ·have:x.1<z.1:=h'.1 z.1 (List.mem_map_of_mem (f:=Prod.fst) hz);omega
   simp[this]
theorem acE {l:PL}{hi:Int}{j:Nat}(h1:j≤l.length)(h2: ∀t (h:t<l.length),t<j→l[t].1≤hi)(h3: ∀h:j<l.length,¬l[j].1≤hi):(l.takeWhile λz=>decide (z.1≤hi)).length=j:=
 zV (λ(z k:Int×Int)=>decide (z.1≤k.1)) (k:=(hi,0)) h1 (λt h ht=>by simpa using h2 t h ht) (λh=>by simpa using h3 h)
theorem SY {hi:Int}: ∀{l:PL} {j:Nat} (hj:j<l.length),(∀t (h:t<l.length),t≤j→l[t].1≤hi)→(l.takeWhile λz=>decide (z.1≤hi))[j]? =some l[j]
 | [],j,hj,_=>by simp at hj
 |x::l,j,hj,h=>by
  have h0:=h 0 (by simp) (by omega)
  simp only[List.getElem_cons_zero] at h0;simp only[List.takeWhile_cons,h0,decide_true,if_true];cases j with
  |zero=>rfl
  |succ j=>
   simp only[List.getElem?_cons_succ,List.getElem_cons_succ];exact SY (by simpa using hj) λt ht htj=>h (t+1) (by simpa using ht) (by omega)
theorem pG {l:PL}{i:Nat}(h:i<l.length):l.getD i (0,0)=l[i]:=by rw[List.getD_eq_getElem?_getD,List.getElem?_eq_getElem h];rfl
theorem Xa {l:PL}(ha:q8 (aX l)){lo hi:Int}{i:Nat}(Nz:bg l lo≤i)(GL:i<l.length)(h: ∀t,bg l lo≤t→t≤i→(l.getD t (0,0)).1≤hi):
  i-bg l lo<(wJ lo hi l).length∧(wJ lo hi l).getD (i-bg l lo) (0,0)=l.getD i (0,0):=by
 rw[KS ha];have dH:i-bg l lo<(l.drop (bg l lo)).length:=by simp;omega
 have hg:=SY (hi:=hi) dH λt ht hti=>by
  rw[List.getElem_drop];have:=h (bg l lo+t) (by omega) (by omega)
  rw[pG (by simp at ht;omega)] at this
  exact this
 refine⟨(List.getElem?_eq_some_iff.1 hg).1,?_⟩;rw[List.getD_eq_getElem?_getD,hg,pG GL,Option.getD_some,List.getElem_drop]
 congr 1;omega
theorem SZ {l:PL}(ha:q8 (aX l)){lo hi:Int}{j:Nat}(kY:bg l lo≤j)(jJ:j≤l.length)(h: ∀t,bg l lo≤t→t<j→(l.getD t (0,0)).1≤hi)(he:j<l.length→¬(l.getD j (0,0)).1≤hi):
  (wJ lo hi l).length=j-bg l lo:=by
 rw[KS ha];refine acE (by simp;omega) (λt ht htj=>?_) (λht=>?_)
 ·rw[List.getElem_drop];have:=h (bg l lo+t) (by omega) (by omega)
  rw[pG (by simp at ht;omega)] at this
  exact this
 ·rw[List.getElem_drop];simp only[List.length_drop] at ht;have e:bg l lo+(j-bg l lo)=j:=by omega
  have:=he (by omega)
  rw[pG (by omega)] at this
  simpa[e] using this
section
variable {G:ag} {H:ae} {o:an} {p:Nat} {l:PL} {n:Nat}
abbrev sC (H:ae)(p:Nat)(l:PL)(lo hi:Int):ae:=oL (BV H hi) p (bg l lo) (tQ 106 #[pv H.length])
abbrev Dh (H:ae)(o:an)(hi:Int):an:=Ic (BV H hi) (o.up H.length (-3)) (-3)
theorem MR (o:an)(lo hi:Int):Fr H o (sC H p l lo hi) (Dh H o hi) []:=
 ((Fr.refl H o []).new ⟨[cv hi],2,1,false⟩ (-3)).tr (Ie (BV H hi) (o.up H.length (-3)) p (bg l lo) (tQ 106 #[pv H.length]) (-3))
theorem S9 (lo hi:Int):(sC H p l lo hi).length=H.length+4:=by rw[DX];simp[BV,bh]
theorem PC {L:nZ}{lo hi:Int}{ps:List Int}{J R:Nat→ae→Prop}(h:fm H o p l)(hp:(p:Int) ∉ ps)(h3:(-3:Int) ∉ ps)(hn:4194304<n)(hJ: ∀i H',J i H'→(∃o',Fr (sC H p l lo hi) (Dh H o hi) H' o' ps)∧H'.db (sC H p l lo hi).length=some (.loop L .ready))(hR: ∀i H',R i H'→∃L' s,H'.db (sC H p l lo hi).length=some (.loop L' s))(j0:J (bg l lo) ((sC H p l lo hi).gX (.loop L .ready)))(round: ∀i H',i<l.length→bg l lo≤i→(l.getD i (0,0)).1≤hi→J i H'→
   (∃jQ,run G (n+1) (Tryz.prog.funcs.size+(sC H p l lo hi).length) [cv (l.getD i (0,0)).1,cv (l.getD i (0,0)).2] H'=some (.bool true,jQ)∧J (i+1) jQ)∨
   (∃jQ,run G (n+1) (Tryz.prog.funcs.size+(sC H p l lo hi).length) [cv (l.getD i (0,0)).1,cv (l.getD i (0,0)).2] H'=some (.bool false,jQ)∧R i jQ)):
  ∃s H',EN Tryz.prog.funcs.size (run G (n+2)) (Ib (BV H hi)) L (sC H p l lo hi)=some (s,H'.kill (sC H p l lo hi).length)∧
   ((s= .ready∧∃j,bg l lo≤j∧j≤l.length∧J j H'∧(j<l.length→¬(l.getD j (0,0)).1≤hi))∨∃j,bg l lo≤j∧j<l.length∧R j H'∧∃L',H'.db (sC H p l lo hi).length=some (.loop L' s)):=by
 have f:=MR (H:=H) (p:=p) (l:=l) o lo hi;have cm:=W3 (BV H hi) p (bg l lo) (tQ 106 #[pv H.length]);have ca:=W4 (BV H hi) p (bg l lo) (tQ 106 #[pv H.length]);have cf:=W5 (BV H hi) p (bg l lo) (tQ 106 #[pv H.length]);have lC:=DX (BV H hi) p (bg l lo) (tQ 106 #[pv H.length]);have l1:(BV H hi).length=H.length+1:=bh _ _;have f2:=Ie (BV H hi) (o.up H.length (-3)) p (bg l lo) (tQ 106 #[pv H.length]) (-3);have gh:(sC H p l lo hi).get H.length=some ⟨[cv hi],2,1,false⟩:=by
  rw[f2.same H.length (by omega) (by simp)];exact az
 have oh:Dh H o hi H.length= -3:=by unfold Dh;rw[f2.own H.length (by omega),aQ]
 have mC:=h.fr f (by simp)
 have Ey:=h.fits;obtain⟨s,H',acF,mf⟩:=SW (G:=G) (n:=n+1) (L:=L) (J:=J) (R:=R) (mb:=λv=>match v with| .int _ z=>decide (z≤hi)|_=>false) (ps:=ps) (i0:=bg l lo)
  mC.v (by simp) (by simpa using Ey) (by omega) hp cm cf ca (by unfold Dh;rw[show Ic (BV H hi) (o.up H.length (-3)) (-3) (BV H hi).length= -3 by simp[an.up]];exact h3) (by unfold Dh;rw[show Ic (BV H hi) (o.up H.length (-3)) (-3) ((BV H hi).length+2)= -3 by simp[an.up]];exact h3)
  (λH' o' f' x hx=>by
   obtain⟨z,_,rfl⟩:=List.mem_map.1 hx;exact Pw (by rw[f'.same H.length (aq gh) (by rw[oh];exact h3)];exact gh) z)
  hJ hR j0 (by simpa using mq l lo)
  (by
   rintro i H' kx vx hk yr Nz hmb hj;obtain⟨GL,rfl⟩:=aeL hk;obtain rfl:=aeM yr;exact round i H' GL Nz (by simpa using hmb) hj)
 refine⟨s,H',acF,mf.imp (λ⟨h1,j,h2,h3,h4,h5⟩=>⟨h1,j,h2,by simpa using h3,h4,λhj=>?_⟩) (λ⟨j,h2,h3,h4⟩=>⟨j,h2,by simpa using h3,h4⟩)⟩
 have:=h5 _ (BR hj)
 simpa using this
def Bx (H:ae)(o:an)(b:Nat)(q:Int)(t:TypeId)(x:Value):Prop:=H.get b=some ⟨[x],t,1,false⟩∧o b=q
theorem Bx.fr {H H':ae}{o o':an}{b:Nat}{q:Int}{t:TypeId}{x:Value}{ps:List Int}(h:Bx H o b q t x)(f:Fr H o H' o' ps)(hq:q ∉ ps):Bx H' o' b q t x:=
 ⟨by rw[f.same b (aq h.1) (by rw[h.2];exact hq)];exact h.1,by rw[f.own b (aq h.1)];exact h.2⟩
theorem Bx.ld {H:ae}{o:an}{b:Nat}{q:Int}{t:TypeId}{x:Value}(h:Bx H o b q t x):au (pv b) H=some x:=ak _ _ _ h.1
theorem Bx.lt {H:ae}{o:an}{b:Nat}{q:Int}{t:TypeId}{x:Value}(h:Bx H o b q t x):b<H.length:=aq h.1
theorem Bx.made (H:ae)(o:an)(q:Int)(t:TypeId)(x:Value):Bx (H.new ⟨[x],t,1,false⟩) (o.up H.length q) H.length q t x:=⟨az,aQ⟩
theorem Bx.st {H:ae}{o:an}{b:Nat}{q:Int}{t:TypeId}{x y:Value}(h:Bx H o b q t x)(hx:y.cells= #[y]∧known y=true∧aD y=true):
  ∃A,bS 1 (pv b) y H=some (undef,A)∧Bx A o b q t y∧Fr H o A o [q]:=by
 have st:=jA b 0 y H h.1 rfl (by simp) hx.1 hx.2.1 hx.2.2
 simp only[List.set_cons_zero] at st;exact⟨_,st,⟨aH h.1,h.2⟩,(Fr.refl _ _ _).put (λ_=>by simp[h.2])⟩
theorem Xb (H:ae)(o:an)(q:Int)(t:TypeId)(x y:Value)(hx:y.cells= #[y]∧known y=true∧aD y=true):
  ∃A,bS 1 (pv H.length) y (H.new ⟨[x],t,1,false⟩)=some (undef,A)∧Bx A (o.up H.length q) H.length q t y∧Fr H o A (o.up H.length q) []:=by
 obtain⟨A,h1,h2,h3⟩:=(Bx.made H o q t x).st hx;refine⟨A,h1,h2,⟨λi hi hn=>?_,λi hi=>dc (by omega),?_⟩⟩
 ·have:=jA H.length 0 y _ (Bx.made H o q t x).1 rfl (by simp) hx.1 hx.2.1 hx.2.2
  rw[h1] at this;cases this;rw[cU (by omega),dh hi]
 ·have:=h3.size;rw[bh] at this;omega
theorem Ta {i:Nat}(wZ:i<H.length)(hi:Int):Dh H o hi i=o i:=by
 unfold Dh Ic;have l1:(BV H hi).length=H.length+1:=bh _ _;simp only[l1];rw[dc (by omega),dc (by omega),dc (by omega),dc (by omega)]
end
structure Ext (H H':ae):Prop where
 old: ∀j,j<H.length→H'[j]? =H[j]?
 size:H.length≤H'.length
theorem Ext.refl (H:ae):Ext H H:=⟨λ_ _=>rfl,Nat.le_refl _⟩
theorem Ext.trans {H H1 H2:ae}(a:Ext H H1)(b:Ext H1 H2):Ext H H2:=⟨λj hj=>by rw[b.old j (Nat.lt_of_lt_of_le hj a.size),a.old j hj],Nat.le_trans a.size b.size⟩
theorem Ext.new {H H1:ae}(a:Ext H H1)(c:eY):Ext H (H1.new c):=a.trans ⟨λj hj=>dh hj,by rw[bh];omega⟩
theorem Ext.put {H H1:ae}(a:Ext H H1){i:Nat}{c:eY}(h:H.length≤i):Ext H (H1.put i c):=⟨λj hj=>by rw[cU (by omega),a.old j hj],by rw[iw];exact a.size⟩
theorem Ext.fr {H H':ae}(a:Ext H H')(o:an)(Q:Int):Fr H o H' (o.from H.length Q) []:=⟨λj hj _=>a.old j hj,λj hj=>nF hj,a.size⟩
theorem Ext.get {H H':ae}(a:Ext H H'){i:Nat}{b:eY}(h:H.get i=some b):H'.get i=some b:=by rw[cT (a.old i (aq h))];exact h
theorem Ext.of {H H':ae}{o o':an}{ps:List Int}(f:Fr H o H' o' ps)(h: ∀i,i<H.length→o i ∉ ps):Ext H H':=⟨λj hj=>f.slot j hj (h j hj),f.size⟩
theorem Ext.trans' {H H1 H2:ae}{o o':an}{c:Int}(a:Ext H H1)(f:Fr H1 o H2 o' [c])(k: ∀i,i<H.length→o i=c→False):Ext H H2:=
 ⟨λj hj=>by rw[f.slot j (Nat.lt_of_lt_of_le hj a.size) (λh=>by simp at h;exact k j hj h),a.old j hj],Nat.le_trans a.size f.size⟩
abbrev oM (o:an)(p:Nat):an:=λi=>if o i=(p:Int) then p else -1
theorem fm.relabel {H:ae}{o o':an}{p:Nat}{l:PL}(h:fm H o p l)(k: ∀i,i<H.length→o i=(p:Int)→o' i=p):fm H o' p l:=by
 obtain⟨⟨sk,sv,bk,bv,ty,h1,h2,h3,h4⟩,h5,h6,h7⟩:=h;have hl:=aq h1;refine⟨⟨sk,sv,bk,bv,ty,h1,h2.mv λq e=>?_,h3.mv λq e=>?_,h4⟩,k p hl h5,h6,h7⟩
 ·obtain⟨g1,g2⟩:=h2.Rh e;exact⟨rfl,by rw[k q g1 g2,g2]⟩
 ·obtain⟨g1,g2⟩:=h3.Rh e;exact⟨rfl,by rw[k q g1 g2,g2]⟩
theorem fm.oM {H:ae}{o:an}{p:Nat}{l:PL}(h:fm H o p l):fm H (oM o p) p l:=h.relabel λi _ hi=>by simp[Fun.oM,hi]
theorem Tb {o:an}{p i:Nat}{q:Int}(h0:q< -1):Fun.oM o p i≠q:=by
 unfold Fun.oM;split<;>omega
theorem fm.ext {H H':ae}{o:an}{p:Nat}{l:PL}(h:fm H o p l)(e:Ext H H')(Q:Int):fm H' (o.from H.length Q) p l:=h.fr (e.fr o Q) (by simp)
theorem Tc {l:PL}{k v:Int}(h: ∀j (h:j<l.length),l[j].1<k):jM l k v=l++[(k,v)]:=by
 have hp:bg l k=l.length:=zV rT (by simp) (λj hj _=>by simpa using h j (by simpa using hj)) (λh=>by simp at h)
 have hh:ef l k=false:=by
  cases hc:ef l k with
  |false=>rfl
  |true=>have:=(jL hc).1;omega
 unfold jM;rw[hh,hp];simp
theorem BW {l:PL}{i:Nat}(ha:q8 (aX (l.take i)))(hi:i<l.length)(h:0<i→(l.getD (i-1) (0,0)).1<(l.getD i (0,0)).1): ∀j (h:j<(l.take i).length),(l.take i)[j].1<(l.getD i (0,0)).1:=by
 intro j hj;simp only[List.length_take] at hj;have ZD:0<i:=by omega
 have h1:=h ZD;have e:(l.getD (i-1) (0,0))=l[i-1]'(by omega):=pG (by omega)
 rw[e] at h1;rw[List.getElem_take];rcases Nat.lt_or_ge j (i-1) with g|g
 ·have:=List.pairwise_iff_getElem.1 ha j (i-1) (by simp;omega) (by simp;omega) g
  simp only[List.getElem_map,List.getElem_take] at this;omega
 ·have:j=i-1:=by omega
  subst this;exact h1
theorem Td {l:PL}{i:Nat}(ha:q8 (aX (l.take i)))(hi:i<l.length)(h:0<i→(l.getD (i-1) (0,0)).1<(l.getD i (0,0)).1):q8 (aX (l.take (i+1))):=by
 have hb:=BW ha hi h;rw[nG hi,aX,List.map_append];refine List.pairwise_append.2 ⟨ha,List.pairwise_singleton _ _,λa h b tN=>?_⟩
 simp only[List.map_cons,List.map_nil,List.mem_singleton] at tN;subst tN;obtain⟨j,hj,rfl⟩:=List.getElem_of_mem h;have h9:=hb j (by simpa using hj)
 rw[List.getElem_take] at h9;simpa using h9
theorem Xc {l:PL}{i:Nat}(hi:i<l.length)(h0:0<i)(h:(l.getD i (0,0)).1≤(l.getD (i-1) (0,0)).1): ¬q8 (aX l):=λha=>by
 have:=List.pairwise_iff_getElem.1 ha (i-1) i (by simp;omega) (by simpa using hi) (by omega)
 rw[pG hi,pG (show i-1<l.length by omega)] at h
 simp only[List.getElem_map] at this;omega
section
variable {G:ag} {H:ae} {o:an} {q:Int} {x:Value} {l:PL} {n p:Nat}
theorem tH (hx:ee H o q x l)(hl:l.length≤4194304)(hn:4194304<n):run G (n+1) 32 [x] H=some (.bool (decide (q8 (aX l))),H):=by
 by_cases lV:q8 (aX l)
 ·rw[PB hx hl lV hn,decide_eq_true lV]
 rw[JP];have jm:=hx.len;obtain⟨r,iL,eC,r1,r2,d3,d7,d21,r3⟩:=iy (step:=E5 (run G n) n)
  (Q:=λm vs H'=>H'=H∧∃(i:Nat) (d7 d21:Value),1≤i∧m=l.length-i∧vs=[x,.bool false,cv i,d7,d21]∧q8 (aX (l.take i)))
  (R:=λr=>r.1= .ret∧r.2.2=H∧∃d3 d7 d21,r.2.1=[x,.bool false,d3,d7,d21])
  (by
   rintro m vs H' ⟨rfl,i,d7,d21,hi,rfl,rfl,IZ⟩;by_cases dH:i<l.length
   ·have h1:(i:Int)<l.length:=by omega
    obtain⟨j,rfl⟩: ∃j,i=j+1:=⟨i-1,by omega⟩
    obtain⟨bi,bio,y0,fq,rW,DY,qH⟩:=hx.idx dH;obtain⟨d1,d2,d3⟩:=qH _ rW;obtain⟨bj,bjo,z0,Dg,IT,hco,W9⟩:=hx.idx (show j<l.length by omega)
    obtain⟨c1,c2,c3⟩:=W9 _ IT;have hw:IntKind.i64.wrap (((j+1:Nat):Int)+1)=((j+1+1:Nat):Int):=by rw[jE (by omega)];omega
    have uH:IntKind.i64.wrap (((j+1:Nat):Int)-1)=(j:Int):=by rw[jE (by omega)];omega
    by_cases hk:(l.getD (j+1) (0,0)).1≤(l.getD j (0,0)).1
    ·refine .inr ⟨(.ret,[x,.bool false,cv (j+1:Nat),.bool true,.bool true],H'),?_,by simp,rfl,rfl,_,_,_,rfl⟩
     simp -implicitDefEqProofs [-List.getD_eq_getElem?_getD, -Int.natCast_add,qS,po,jm,aE,h1,fq,Dg,ax,d1,c1,ki,uH,hP,hk,de,hw,fin]
    ·refine .inl ⟨_,_,l.length-(j+1+1),by omega,?_,rfl,j+1+1,.bool true,.bool false,by omega,rfl,rfl,Td IZ dH λ_=>by rw[Nat.add_sub_cancel];omega⟩
     simp -implicitDefEqProofs [-List.getD_eq_getElem?_getD, -Int.natCast_add,qS,po,jm,aE,h1,fq,Dg,ax,d1,c1,ki,uH,hP,hk,de,hw,fin]
   ·rw[List.take_of_length_le (by omega)] at IZ
    exact absurd IZ lV)
  (l.length-1) [x,.bool false,cv (1:Nat),undef,undef] H ⟨rfl,1,_,_,Nat.le_refl _,rfl,rfl,by cases l<;>simp⟩ n (by omega)
 obtain⟨e,vs,H'⟩:=r;simp only at r1 r2 r3;subst r1 r2 r3;have e1:((1:Nat):Int)=1:=rfl;rw[e1] at iL;rw[decide_eq_false lV];simp -implicitDefEqProofs [F32,iL,dr,dv,up,qP,qO,xO];rfl
theorem Te {L:nZ}{b:Nat}{t:TypeId}{q lo hi:Int}(hR: ∀m y k w H,H.db y=some (.loop L .ready)→run G (m+1) (Tryz.prog.funcs.size+y) [k,w] H=acA y (pv b) k w H)(h:fm H o p l)(hb:H.get b=some ⟨[.slice none 0 0],t,1,false⟩)(ob:o b=q)(hqp:(p:Int)≠q)(hq3:q≠ -3)(hn:4194304<n):
  ∃H' o' x,EN Tryz.prog.funcs.size (run G (n+2)) (Ib (BV H hi)) L (sC H p l lo hi)=some (.ready,H')∧Fr H o H' o' [q]∧H'.get b=some ⟨[x],t,1,false⟩∧fF H' o' q x (wJ lo hi l):=by
 have f:=MR (H:=H) (p:=p) (l:=l) o lo hi;have lC:=S9 (H:=H) (p:=p) (l:=l) lo hi;have MP:=h.MP;have zh:=aq hb;have obC:Dh H o hi b=q:=by rw[Ta zh];exact ob
 have bC:(sC H p l lo hi).get b=some ⟨[.slice none 0 0],t,1,false⟩:=by rw[f.same b zh (by simp)];exact hb
 have rl:=MQ lo hi l;have iN:=h.fits;obtain⟨s,H',acF,mf⟩:=PC (G:=G) (n:=n) (L:=L) (lo:=lo) (hi:=hi) (ps:=[q])
  (J:=λi H'=>acB (sC H p l lo hi) (Dh H o hi) L b t q (wJ lo hi l) (i-bg l lo) H'∧∀t,bg l lo≤t→t<i→(l.getD t (0,0)).1≤hi) (R:=λ_ _=>False)
  h (by simpa using hqp) (by simp;omega) hn (λi H' ⟨⟨x,o',e1,e2,_⟩,_⟩=>⟨⟨o',e1⟩,e2⟩) (λ_ _ h=>h.elim)
  ⟨⟨.slice none 0 0,_,(Fr.refl _ _ _).gX _ 0,od,by rw[cT (DN (aq bC))];exact bC,by rw[Nat.sub_self];exact .inl ⟨rfl,rfl⟩,by omega⟩,λt h1 h2=>by omega⟩
  (by
   rintro i H' Nz GL hle ⟨hj,NB⟩;obtain⟨w1,w2⟩:=Xa MP GL Nz λt h1 h2=>by
    rcases Nat.lt_or_eq_of_le h2 with g|g
    ·exact NB t h1 g
    ·subst g;exact hle
   obtain⟨jQ,e1,e2⟩:=Py (aq bC) obC (by omega) w1 hj
   rw[w2] at e1;obtain⟨x,o',_,ot,_⟩:=hj;refine .inl ⟨jQ,by rw[hR _ _ _ _ _ ot];exact e1,by rw[show i+1-bg l lo=i-bg l lo+1 by omega];exact e2,λt h1 h2=>?_⟩
   rcases Nat.lt_or_ge t i with g|g
   ·exact NB t h1 g
   ·have:t=i:=by omega
    subst this;exact hle)
 rcases mf with⟨rfl,j,kY,jJ,⟨⟨x,o',fr,ot,gb,hx,_⟩,NB⟩,aeO⟩|⟨_,_,_,h,_⟩
 case inr=>exact h.elim
 have e:=SZ MP kY jJ NB aeO;rw[←e,List.take_length] at hx;refine⟨H'.kill (sC H p l lo hi).length,o',x,acF,((f.wk (by simp)).tr fr).kill (λh=>by omega),by rw[iX (by omega)];exact gb,?_⟩
 exact hx.mv λi n c e=>⟨oq (by rintro rfl;exact hx.z4 ot _ _ e),rfl⟩
theorem PD (h:fm H o p l)(lo hi:Int)(hn:4194304<n):
  ∃x H',run G (n+6) 51 [pv p,cv lo,cv hi] H=some (x,H')∧(∀Q,fF H' (o.from H.length Q) Q x (wJ lo hi l))∧Ext H H':=by
 rw[abV];obtain⟨H1,e1⟩: ∃z,z=H.new ⟨[.slice none 0 0],43,1,false⟩:=⟨_,rfl⟩;have b1:Bx H1 ((Fun.oM o p).up H.length (-2)) H.length (-2) 43 (.slice none 0 0):=by rw[e1];exact Bx.made _ _ _ _ _
 have f1:Fr H (Fun.oM o p) H1 ((Fun.oM o p).up H.length (-2)) []:=by rw[e1];exact(Fr.refl _ _ _).new _ _
 have m1:=h.oM.fr f1 (by simp)
 have g1:=KN (G:=G) (n:=n) m1 lo hi hn;obtain⟨H2,o2,x,rc,f2,gb,sx⟩:=Te (G:=G) (n:=n+3) (lo:=lo) (hi:=hi) (L:=Kw [pv p,cv lo,cv hi,.slice none 0 0,Ib (BV H1 hi),undef,undef,pv H.length,undef,undef]) (λm y k w H h=>by rw[O3 (h:=h)];kernel_rfl) m1 b1.1 b1.2 (by omega) (by omega) (by omega)
 have fA:=(f1.wk (qs:=[-2]) (by simp)).tr f2
 refine⟨x,H2,?_,λQ=>sx.relabel λi Nz GL=>?_,Ext.of fA λi _ hi=>?_⟩
 ·simp -implicitDefEqProofs [F51,aO, ←e1,g1,rc,dr,dv,up,SB,F6,ak _ _ _ gb]
 ·rcases Nat.lt_or_ge i H.length with g|g
  ·rw[fA.own i g] at GL;exact absurd GL (Tb (by omega))
  ·exact gg g
 ·simp at hi;exact absurd hi (Tb (q:= -2) (by omega))
theorem aeP (H:ae):cB 54 (.agg #[.slice none 0 0,.slice none 0 0]) H=some (pv H.length,H.new ⟨[.slice none 0 0,.slice none 0 0],54,1,false⟩):=agI _ _
theorem PE (hx:ee H o q x l)(hl:l.length≤4194303)(hn:4194304<n):
  ∃H',(if q8 (aX l) then run KG (n+5) 25 [x] H=some (.tuple #[pv H.length,.bool true],H')∧fm H' (o.from H.length H.length) H.length l else run KG (n+5) 25 [x] H=some (.tuple #[.pointer none,.bool false],H'))∧Ext H H':=by
 rw[ab9];have jm:=hx.len;have x0:ee H o0 (-1) x l:=hx.relabel λi _ _=>rfl
 obtain⟨H1,e1⟩: ∃z,z=H.new ⟨[.slice none 0 0,.slice none 0 0],54,1,false⟩:=⟨_,rfl⟩;have b1:=aeP H;rw[←e1] at b1;have m1:fm H1 (an.up o0 H.length H.length) H.length (l.take 0):=by rw[e1];exact fm.fresh H o0 _
 have f1:Fr H o0 H1 (an.up o0 H.length H.length) [(H.length:Int)]:=by rw[e1];exact(Fr.refl _ _ _).new _ _
 have Np:(-1:Int) ∉ [(H.length:Int)]:=by simp<;>omega
 obtain⟨r,iL,eC,o',fR,hr⟩:=iy (step:=Kz (run KG (n+4)) (n+4))
  (Q:=λm vs H'=>∃(i:Nat) (o':an) (d12 d5 d6 d28:Value),i≤l.length∧m=l.length-i∧vs=[x,.pointer none,.bool false,cv i,cv l.length,d12,x,d5,d6,d28,pv H.length]∧fm H' o' H.length (l.take i)∧Fr H o0 H' o' [(H.length:Int)])
  (R:=λr=>∃o',Fr H o0 r.2.2 o' [(H.length:Int)]∧((r.1= .exit 0∧fm r.2.2 o' H.length l∧∃d9 d12 d5 d6 d28:Value,r.2.1=[x,.pointer none,.bool false,d9,cv l.length,d12,x,d5,d6,d28,pv H.length])∨
   (r.1= .ret∧¬q8 (aX l)∧∃d9 d12 d5 d6 d28:Value,r.2.1=[x,.pointer none,.bool false,d9,cv l.length,d12,x,d5,d6,d28,pv H.length])))
  (by
   rintro m vs H' ⟨i,o',d12,d5,d6,d28,hi,rfl,rfl,hm,hf⟩;by_cases dH:i<l.length
   ·have h1:(i:Int)<l.length:=by omega
    have xH:=x0.fr hf Np;obtain⟨bi,bio,y0,fq,rW,DY,qH⟩:=xH.idx dH;obtain⟨d1,d2,d3⟩:=qH _ rW;obtain⟨A,eA⟩: ∃z,z=(H'.new ⟨[cv 0,cv 0],42,1,false⟩).put H'.length ⟨[cv (l.getD i (0,0)).1,cv (l.getD i (0,0)).2],42,1,false⟩:=⟨_,rfl⟩;have tA:=Ii H'.length (l.getD i (0,0)).1 (l.getD i (0,0)).2 (H'.new ⟨[cv 0,cv 0],42,1,false⟩) az;rw[←eA] at tA;have gA:A.get H'.length=some ⟨[cv (l.getD i (0,0)).1,cv (l.getD i (0,0)).2],42,1,false⟩:=by rw[eA];exact aH az
    have fA:Fr H' o' A (o'.up H'.length (-5)) []:=by rw[eA];exact((Fr.refl _ _ _).new _ _).put (λh=>by omega)
    have mA:=hm.fr fA (by simp)
    have xA:=xH.fr fA (by simp)
    have oY:=hf.size;have P0:=ak H'.length 0 A gA;have P1:=ak H'.length 1 A gA;have hw:IntKind.i64.wrap ((i:Int)+1)=((i+1:Nat):Int):=by rw[jE (by omega)];omega
    have aeQ:(0<i→(l.getD (i-1) (0,0)).1<(l.getD i (0,0)).1)→∃w jQ GM,run KG (n+4) 46 [pv H.length,cv (l.getD i (0,0)).1,cv (l.getD i (0,0)).2] A=some (w,jQ)∧fm jQ GM H.length (l.take (i+1))∧Fr H o0 jQ GM [(H.length:Int)]:=λCF=>by
     obtain⟨jQ,GM,r1,r2,r3⟩:=Ia (n:=n) mA (l.getD i (0,0)).1 (l.getD i (0,0)).2 (by simp;omega) hn
     rw[Tc (BW hm.MP dH CF)] at r2;exact⟨_,jQ,GM,r1,by rw[nG dH];exact r2,(hf.IW fA).tr r3⟩
    cases i with
    |zero=>
     obtain⟨w,jQ,GM,r1,r2,r3⟩:=aeQ (λh=>by omega)
     refine .inl ⟨_,jQ,l.length-(0+1),by omega,?_,0+1,GM,.bool true,cv (0:Nat),pv H'.length,.bool false,by omega,rfl,rfl,r2,r3⟩
     simp only[Int.natCast_zero] at fq h1;simp -implicitDefEqProofs [-List.getD_eq_getElem?_getD, -Int.natCast_pos,vq,rS,aE,h1,fq,d3,aO,tA,eS,ar,ax,P0,P1,r1,de,jE,fin]
    |succ j=>
     have hj:j<l.length:=by omega
     obtain⟨bj,bjo,z0,Dg,IT,hco,W9⟩:=xA.idx hj;obtain⟨c1,c2,c3⟩:=W9 _ IT;have uH:IntKind.i64.wrap (((j+1:Nat):Int)-1)=(j:Int):=by rw[jE (by omega)];omega
     have hg:((j+1:Nat):Int)>0:=by omega
     by_cases hk:(l.getD (j+1) (0,0)).1≤(l.getD j (0,0)).1
     ·refine .inr ⟨(.ret,[x,.pointer none,.bool false,cv (j+1:Nat),cv l.length,.bool true,x,cv (j+1:Nat),pv H'.length,.bool true,pv H.length],A),?_,by simp,_,hf.IW fA,.inr ⟨rfl,Xc dH (by omega) (by rw[Nat.add_sub_cancel];exact hk),_,_,_,_,_,rfl⟩⟩
      simp -implicitDefEqProofs [-List.getD_eq_getElem?_getD, -Int.natCast_add, -gt_iff_lt,vq,rS,aE,h1,fq,d3,aO,tA,eS,hg,ar,ax,P0,P1,ki,uH,Dg,c1,hP,hk,fin]
     ·obtain⟨w,jQ,GM,r1,r2,r3⟩:=aeQ (λ_=>by rw[Nat.add_sub_cancel];omega)
      refine .inl ⟨_,jQ,l.length-(j+1+1),by omega,?_,j+1+1,GM,.bool true,cv (j+1:Nat),pv H'.length,.bool false,by omega,rfl,rfl,r2,r3⟩
      simp -implicitDefEqProofs [-List.getD_eq_getElem?_getD, -Int.natCast_add, -gt_iff_lt,vq,rS,aE,h1,fq,d3,aO,tA,eS,hg,ar,ax,P0,P1,ki,uH,Dg,c1,hP,hk,r1,de,hw,fin]
   ·have h1: ¬(i:Int)<l.length:=by omega
    rw[List.take_of_length_le (by omega)] at hm
    refine .inr ⟨(.exit 0,[x,.pointer none,.bool false,cv i,cv l.length,.bool false,x,d5,d6,d28,pv H.length],H'),?_,by simp,o',hf,.inl ⟨rfl,hm,_,_,_,_,_,rfl⟩⟩
    simp -implicitDefEqProofs [vq,rS,aE,h1,fin])
  (l.length-0) [x,.pointer none,.bool false,cv (0:Nat),cv l.length,undef,x,undef,undef,undef,pv H.length] H1 ⟨0,_,_,_,_,_,Nat.zero_le _,rfl,rfl,m1,f1⟩ (n+4) (by omega)
 obtain⟨e,vs,H'⟩:=r;simp only at hr fR;simp only[Int.natCast_zero] at iL;have Xd:Ext H H':=Ext.of fR λi hi=>Np
 refine⟨H',?_,Xd⟩;rcases hr with⟨rfl,hm,d9,d12,d5,d6,d28,rfl⟩|⟨rfl,hna,d9,d12,d5,d6,d28,rfl⟩
 ·rw[if_pos hm.MP];refine⟨?_,hm.relabel λi Nz GL=>?_⟩
  ·simp -implicitDefEqProofs [F25,acz,b1,jm,iL,SH,Ge]
  ·rcases Nat.lt_or_ge i H.length with g|g
   ·rw[fR.own i g] at GL;exact absurd (show(-1:Int)=H.length from GL) (by omega)
   ·exact gg g
 ·rw[if_neg hna];simp -implicitDefEqProofs [F25,acz,b1,jm,iL,dr,dv,up,qP,qO,xO];exact⟨rfl,rfl⟩
end
end Go.Proofs.YtjgmnoaalbbonaaGreat.Fun
end
