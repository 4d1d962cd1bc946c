/- Texts of the proof of linearCut_holds, put together by a small program of ours (names shortened, spaces taken out). No condition beyond the given statement. -/
import Derived.Test.YtjgmnoaalbbonaaGreatLCT15
import Derived.Test.YtjgmnoaalbbonaaGreatLCT16
import Derived.Test.YtjgmnoaalbbonaaGreatLCT21
import Derived.Test.YtjgmnoaalbbonaaGreatLCT22
import Derived.Test.YtjgmnoaalbbonaaGreatLCT24
import Derived.Test.YtjgmnoaalbbonaaGreatLCT20
import Derived.Test.YtjgmnoaalbbonaaGreatLCT17
import Derived.Test.YtjgmnoaalbbonaaGreatLCT18
import Derived.Test.YtjgmnoaalbbonaaGreatLCT19
set_option linter.unusedVariables false
set_option linter.unusedSimpArgs false
set_option linter.unnecessarySimpa false
noncomputable section
section
namespace Go.Proofs.YtjgmnoaalbbonaaGreat.Fun
open Go Go.RowKit Go.Proofs.YtjgmnoaalbbonaaGreatA.Am
structure Ext (H H':aa):Prop where
 old: ∀j,j<H.length→H'[j]? =H[j]?
 size:H.length≤H'.length
theorem Ext.refl (H:aa):Ext H H:=⟨λ_ _=>rfl,Nat.le_refl _⟩
theorem Ext.trans {H H1 H2:aa}(a:Ext H H1)(b:Ext H1 H2):Ext H H2:=⟨λj hj=>by rw[b.old j (Nat.lt_of_lt_of_le hj a.size),a.old j hj],Nat.le_trans a.size b.size⟩
theorem Ext.new {H H1:aa}(a:Ext H H1)(c:eu):Ext H (H1.new c):=a.trans ⟨λj hj=>dC hj,by rw[aW];omega⟩
theorem Ext.put {H H1:aa}(a:Ext H H1){i:Nat}{c:eu}(h:H.length≤i):Ext H (H1.put i c):=⟨λj hj=>by rw[db (by omega),a.old j hj],by rw[jd];exact a.size⟩
theorem Ext.fr {H H':aa}(a:Ext H H')(o:aj)(Q:Int):Fr H o H' (o.from H.length Q) []:=⟨λj hj _=>a.old j hj,λj hj=>nW hj,a.size⟩
theorem Ext.get {H H':aa}(a:Ext H H'){i:Nat}{b:eu}(h:H.get i=some b):H'.get i=some b:=by rw[cP (a.old i (an h))];exact h
theorem Ext.of {H H':aa}{o o':aj}{ps:List Int}(f:Fr H o H' o' ps)(h: ∀i,i<H.length→o i ∉ ps):Ext H H':=⟨λj hj=>f.slot j hj (h j hj),f.size⟩
theorem Ext.trans' {H H1 H2:aa}{o o':aj}{c:Int}(a:Ext H H1)(f:Fr H1 o H2 o' [c])(k: ∀i,i<H.length→o i=c→False):Ext H H2:=
 ⟨λj hj=>by rw[f.slot j (Nat.lt_of_lt_of_le hj a.size) (λh=>by simp at h;exact k j hj h),a.old j hj],Nat.le_trans a.size f.size⟩
abbrev oM (o:aj)(p:Nat):aj:=λi=>if o i=(p:Int) then p else -1
theorem eK.relabel {H:aa}{o o':aj}{p:Nat}{l:PL}(h:eK H o p l)(k: ∀i,i<H.length→o i=(p:Int)→o' i=p):eK H o' p l:=by
 obtain⟨⟨sk,sv,bk,bv,ty,h1,h2,h3,h4⟩,h5,h6,h7⟩:=h;have hl:=an h1;refine⟨⟨sk,sv,bk,bv,ty,h1,h2.mv λq e=>?_,h3.mv λq e=>?_,h4⟩,k p hl h5,h6,h7⟩
 ·obtain⟨g1,g2⟩:=h2.Qb e;exact⟨rfl,by rw[k q g1 g2,g2]⟩
 ·obtain⟨g1,g2⟩:=h3.Qb e;exact⟨rfl,by rw[k q g1 g2,g2]⟩
theorem eK.oM {H:aa}{o:aj}{p:Nat}{l:PL}(h:eK H o p l):eK H (oM o p) p l:=h.relabel λi _ hi=>by simp[Fun.oM,hi]
theorem O9 {o:aj}{p i:Nat}{q:Int}(h0:q< -1):Fun.oM o p i≠q:=by
 unfold Fun.oM;split<;>omega
theorem eK.ext {H H':aa}{o:aj}{p:Nat}{l:PL}(h:eK H o p l)(e:Ext H H')(Q:Int):eK H' (o.from H.length Q) p l:=h.fr (e.fr o Q) (by simp)
theorem Pa {l:PL}{k v:Int}(h: ∀j (h:j<l.length),l[j].1<k):jS l k v=l++[(k,v)]:=by
 have hp:cn l k=l.length:=GA rJ (by simp) (λj hj _=>by simpa using h j (by simpa using hj)) (λh=>by simp at h)
 have hh:gZ l k=false:=by
  cases hc:gZ l k with
  |false=>rfl
  |true=>have:=(qp hc).1;omega
 unfold jS;rw[hh,hp];simp
theorem G8 {l:PL}{i:Nat}(ha:AJ (bd (l.take i)))(hi:i<l.length)(h:0<i→(l.getD (i-1) (0,0)).1<(l.getD i (0,0)).1): ∀j (h:j<(l.take i).length),(l.take i)[j].1<(l.getD i (0,0)).1:=by
 intro j hj;simp only[List.length_take] at hj;have U5:0<i:=by omega
 have h1:=h U5;have e:(l.getD (i-1) (0,0))=l[i-1]'(by omega):=nX (by omega)
 rw[e] at h1;rw[List.getElem_take];rcases Nat.lt_or_ge j (i-1) with g|g
 ·have:=List.pairwise_iff_getElem.1 ha j (i-1) (by simp;omega) (by simp;omega) g
  simp only[List.getElem_map,List.getElem_take] at this;omega
 ·have:j=i-1:=by omega
  subst this;exact h1
theorem Sy {l:PL}{i:Nat}(hi:i<l.length)(h0:0<i)(h:(l.getD i (0,0)).1≤(l.getD (i-1) (0,0)).1): ¬AJ (bd l):=λha=>by
 have:=List.pairwise_iff_getElem.1 ha (i-1) i (by simp;omega) (by simpa using hi) (by omega)
 rw[nX hi,nX (show i-1<l.length by omega)] at h
 simp only[List.getElem_map] at this;omega
section
variable {G:ae} {H:aa} {o:aj} {q:Int} {x:Value} {l:PL} {n p:Nat}
theorem Pb {L:mI}{b:Nat}{t:TypeId}{q lo hi:Int}(hR: ∀m y k w H,H.cT y=some (.loop L .ready)→run G (m+1) (Tryz.prog.funcs.size+y) [k,w] H=XW y (pv b) k w H)(h:eK H o p l)(hb:H.get b=some ⟨[.slice none 0 0],t,1,false⟩)(ob:o b=q)(hqp:(p:Int)≠q)(hq3:q≠ -3)(hn:4194304<n):
  ∃H' o' x,Cg Tryz.prog.funcs.size (run G (n+2)) (E4 (zC H hi)) L (qL H p l lo hi)=some (.ready,H')∧Fr H o H' o' [q]∧H'.get b=some ⟨[x],t,1,false⟩∧gu H' o' q x (FE lo hi l):=by
 have f:=IL (H:=H) (p:=p) (l:=l) o lo hi;have lC:=O7 (H:=H) (p:=p) (l:=l) lo hi;have TP:=h.TP;have A7:=an hb;have obC:AK H o hi b=q:=by rw[O8 A7];exact ob
 have bC:(qL H p l lo hi).get b=some ⟨[.slice none 0 0],t,1,false⟩:=by rw[f.same b A7 (by simp)];exact hb
 have rl:=Sv lo hi l;have ig:=h.fits;obtain⟨s,H',X0,kN⟩:=LK (G:=G) (n:=n) (L:=L) (lo:=lo) (hi:=hi) (ps:=[q])
  (J:=λi H'=>XX (qL H p l lo hi) (AK H o hi) L b t q (FE lo hi l) (i-cn l lo) H'∧∀t,cn l lo≤t→t<i→(l.getD t (0,0)).1≤hi) (R:=λ_ _=>False)
  h (by simpa using hqp) (by simp;omega) hn (λi H' ⟨⟨x,o',e1,e2,_⟩,_⟩=>⟨⟨o',e1⟩,e2⟩) (λ_ _ h=>h.elim)
  ⟨⟨.slice none 0 0,_,(Fr.refl _ _ _).gj _ 0,mN,by rw[cP (Bo (an bC))];exact bC,by rw[Nat.sub_self];exact .inl ⟨rfl,rfl⟩,by omega⟩,λt h1 h2=>by omega⟩
  (by
   rintro i H' Ms DQ hle ⟨hj,Jo⟩;obtain⟨w1,w2⟩:=Sw TP DQ Ms λt h1 h2=>by
    rcases Nat.lt_or_eq_of_le h2 with g|g
    ·exact Jo t h1 g
    ·subst g;exact hle
   obtain⟨kB,e1,e2⟩:=LJ (an bC) obC (by omega) w1 hj
   rw[w2] at e1;obtain⟨x,o',_,ot,_⟩:=hj;refine .inl ⟨kB,by rw[hR _ _ _ _ _ ot];exact e1,by rw[show i+1-cn l lo=i-cn l lo+1 by omega];exact e2,λt h1 h2=>?_⟩
   rcases Nat.lt_or_ge t i with g|g
   ·exact Jo t h1 g
   ·have:t=i:=by omega
    subst this;exact hle)
 rcases kN with⟨rfl,j,kc,jb,⟨⟨x,o',fr,ot,gb,hx,_⟩,Jo⟩,aaJ⟩|⟨_,_,_,h,_⟩
 case inr=>exact h.elim
 have e:=O6 TP kc jb Jo aaJ;rw[←e,List.take_length] at hx;refine⟨H'.kill (qL H p l lo hi).length,o',x,X0,((f.wk (by simp)).tr fr).kill (λh=>by omega),by rw[iq (by omega)];exact gb,?_⟩
 exact hx.mv λi n c e=>⟨mS (by rintro rfl;exact hx.xC ot _ _ e),rfl⟩
theorem LL (h:eK H o p l)(lo hi:Int)(hn:4194304<n):
  ∃x H',run G (n+6) 51 [pv p,cv lo,cv hi] H=some (x,H')∧(∀Q,gu H' (o.from H.length Q) Q x (FE lo hi l))∧Ext H H':=by
 rw[Xl];obtain⟨H1,e1⟩: ∃z,z=H.new ⟨[.slice none 0 0],43,1,false⟩:=⟨_,rfl⟩;have b1:Bx H1 ((Fun.oM o p).up H.length (-2)) H.length (-2) 43 (.slice none 0 0):=by rw[e1];exact Bx.made _ _ _ _ _
 have f1:Fr H (Fun.oM o p) H1 ((Fun.oM o p).up H.length (-2)) []:=by rw[e1];exact(Fr.refl _ _ _).new _ _
 have m1:=h.oM.fr f1 (by simp)
 have g1:=G5 (G:=G) (n:=n) m1 lo hi hn;obtain⟨H2,o2,x,rc,f2,gb,sx⟩:=Pb (G:=G) (n:=n+3) (lo:=lo) (hi:=hi) (L:=GX [pv p,cv lo,cv hi,.slice none 0 0,E4 (zC H1 hi),undef,undef,pv H.length,undef,undef]) (λm y k w H h=>by rw[K7 (h:=h)];kernel_rfl) m1 b1.1 b1.2 (by omega) (by omega) (by omega)
 have fA:=(f1.wk (qs:=[-2]) (by simp)).tr f2
 refine⟨x,H2,?_,λQ=>sx.relabel λi Ms DQ=>?_,Ext.of fA λi _ hi=>?_⟩
 ·simp -implicitDefEqProofs [F51,aO, ←e1,g1,rc,dK,dT,up,ON,Dj,ak _ _ _ gb]
 ·rcases Nat.lt_or_ge i H.length with g|g
  ·rw[fA.own i g] at DQ;exact absurd DQ (O9 (by omega))
  ·exact ie g
 ·simp at hi;exact absurd hi (O9 (q:= -2) (by omega))
theorem aaK (H:aa):cO 54 (.agg #[.slice none 0 0,.slice none 0 0]) H=some (pv H.length,H.new ⟨[.slice none 0 0,.slice none 0 0],54,1,false⟩):=acG _ _
theorem LM (hx:gE H o q x l)(hl:l.length≤4194303)(hn:4194304<n):
  ∃H',(if AJ (bd l) then run KG (n+5) 25 [x] H=some (.tuple #[pv H.length,.bool true],H')∧eK H' (o.from H.length H.length) H.length l else run KG (n+5) 25 [x] H=some (.tuple #[.pointer none,.bool false],H'))∧Ext H H':=by
 rw[Xy];have Mv:=hx.len;have x0:gE H o0 (-1) x l:=hx.relabel λi _ _=>rfl
 obtain⟨H1,e1⟩: ∃z,z=H.new ⟨[.slice none 0 0,.slice none 0 0],54,1,false⟩:=⟨_,rfl⟩;have b1:=aaK H;rw[←e1] at b1;have m1:eK H1 (aj.up o0 H.length H.length) H.length (l.take 0):=by rw[e1];exact eK.fresh H o0 _
 have f1:Fr H o0 H1 (aj.up o0 H.length H.length) [(H.length:Int)]:=by rw[e1];exact(Fr.refl _ _ _).new _ _
 have Jd:(-1:Int) ∉ [(H.length:Int)]:=by simp<;>omega
 obtain⟨r,oT,dX,o',fR,hr⟩:=qg (step:=GZ (run KG (n+4)) (n+4))
  (Q:=λm vs H'=>∃(i:Nat) (o':aj) (d12 d5 d6 d28:Value),i≤l.length∧m=l.length-i∧vs=[x,.pointer none,.bool false,cv i,cv l.length,d12,x,d5,d6,d28,pv H.length]∧eK H' o' H.length (l.take i)∧Fr H o0 H' o' [(H.length:Int)])
  (R:=λr=>∃o',Fr H o0 r.2.2 o' [(H.length:Int)]∧((r.1= .exit 0∧eK r.2.2 o' H.length l∧∃d9 d12 d5 d6 d28:Value,r.2.1=[x,.pointer none,.bool false,d9,cv l.length,d12,x,d5,d6,d28,pv H.length])∨
   (r.1= .ret∧¬AJ (bd l)∧∃d9 d12 d5 d6 d28:Value,r.2.1=[x,.pointer none,.bool false,d9,cv l.length,d12,x,d5,d6,d28,pv H.length])))
  (by
   rintro m vs H' ⟨i,o',d12,d5,d6,d28,hi,rfl,rfl,hm,hf⟩;by_cases eR:i<l.length
   ·have h1:(i:Int)<l.length:=by omega
    have xH:=x0.fr hf Jd;obtain⟨bi,bio,y0,qo,hy0,hbo,ZK⟩:=xH.idx eR;obtain⟨d1,d2,d3⟩:=ZK _ hy0;obtain⟨A,eA⟩: ∃z,z=(H'.new ⟨[cv 0,cv 0],42,1,false⟩).put H'.length ⟨[cv (l.getD i (0,0)).1,cv (l.getD i (0,0)).2],42,1,false⟩:=⟨_,rfl⟩;have tA:=acI H'.length (l.getD i (0,0)).1 (l.getD i (0,0)).2 (H'.new ⟨[cv 0,cv 0],42,1,false⟩) ay;rw[←eA] at tA;have gA:A.get H'.length=some ⟨[cv (l.getD i (0,0)).1,cv (l.getD i (0,0)).2],42,1,false⟩:=by rw[eA];exact aD ay
    have fA:Fr H' o' A (o'.up H'.length (-5)) []:=by rw[eA];exact((Fr.refl _ _ _).new _ _).put (λh=>by omega)
    have mA:=hm.fr fA (by simp)
    have xA:=xH.fr fA (by simp)
    have nA:=hf.size;have P0:=ak H'.length 0 A gA;have P1:=ak H'.length 1 A gA;have hw:IntKind.i64.wrap ((i:Int)+1)=((i+1:Nat):Int):=by rw[kr (by omega)];omega
    have aaL:(0<i→(l.getD (i-1) (0,0)).1<(l.getD i (0,0)).1)→∃w kB G9,run KG (n+4) 46 [pv H.length,cv (l.getD i (0,0)).1,cv (l.getD i (0,0)).2] A=some (w,kB)∧eK kB G9 H.length (l.take (i+1))∧Fr H o0 kB G9 [(H.length:Int)]:=λAf=>by
     obtain⟨kB,G9,r1,r2,r3⟩:=EZ (n:=n) mA (l.getD i (0,0)).1 (l.getD i (0,0)).2 (by simp;omega) hn
     rw[Pa (G8 hm.TP eR Af)] at r2;exact⟨_,kB,G9,r1,by rw[wo eR];exact r2,(hf.JA fA).tr r3⟩
    cases i with
    |zero=>
     obtain⟨w,kB,G9,r1,r2,r3⟩:=aaL (λh=>by omega)
     refine .inl ⟨_,kB,l.length-(0+1),by omega,?_,0+1,G9,.bool true,cv (0:Nat),pv H'.length,.bool false,by omega,rfl,rfl,r2,r3⟩
     simp only[Int.natCast_zero] at qo h1;simp -implicitDefEqProofs [-List.getD_eq_getElem?_getD, -Int.natCast_pos,tv,qn,bT,h1,qo,d3,aO,tA,gP,aL,aQ,P0,P1,r1,gS,kr,fin]
    |succ j=>
     have hj:j<l.length:=by omega
     obtain⟨bj,bjo,z0,LN,Mp,hco,hcd⟩:=xA.idx hj;obtain⟨c1,c2,c3⟩:=hcd _ Mp;have Ag:IntKind.i64.wrap (((j+1:Nat):Int)-1)=(j:Int):=by rw[kr (by omega)];omega
     have hg:((j+1:Nat):Int)>0:=by omega
     by_cases hk:(l.getD (j+1) (0,0)).1≤(l.getD j (0,0)).1
     ·refine .inr ⟨(.ret,[x,.pointer none,.bool false,cv (j+1:Nat),cv l.length,.bool true,x,cv (j+1:Nat),pv H'.length,.bool true,pv H.length],A),?_,by simp,_,hf.JA fA,.inr ⟨rfl,Sy eR (by omega) (by rw[Nat.add_sub_cancel];exact hk),_,_,_,_,_,rfl⟩⟩
      simp -implicitDefEqProofs [-List.getD_eq_getElem?_getD, -Int.natCast_add, -gt_iff_lt,tv,qn,bT,h1,qo,d3,aO,tA,gP,hg,aL,aQ,P0,P1,qc,Ag,LN,c1,kO,hk,fin]
     ·obtain⟨w,kB,G9,r1,r2,r3⟩:=aaL (λ_=>by rw[Nat.add_sub_cancel];omega)
      refine .inl ⟨_,kB,l.length-(j+1+1),by omega,?_,j+1+1,G9,.bool true,cv (j+1:Nat),pv H'.length,.bool false,by omega,rfl,rfl,r2,r3⟩
      simp -implicitDefEqProofs [-List.getD_eq_getElem?_getD, -Int.natCast_add, -gt_iff_lt,tv,qn,bT,h1,qo,d3,aO,tA,gP,hg,aL,aQ,P0,P1,qc,Ag,LN,c1,kO,hk,r1,gS,hw,fin]
   ·have h1: ¬(i:Int)<l.length:=by omega
    rw[List.take_of_length_le (by omega)] at hm
    refine .inr ⟨(.exit 0,[x,.pointer none,.bool false,cv i,cv l.length,.bool false,x,d5,d6,d28,pv H.length],H'),?_,by simp,o',hf,.inl ⟨rfl,hm,_,_,_,_,_,rfl⟩⟩
    simp -implicitDefEqProofs [tv,qn,bT,h1,fin])
  (l.length-0) [x,.pointer none,.bool false,cv (0:Nat),cv l.length,undef,x,undef,undef,undef,pv H.length] H1 ⟨0,_,_,_,_,_,Nat.zero_le _,rfl,rfl,m1,f1⟩ (n+4) (by omega)
 obtain⟨e,vs,H'⟩:=r;simp only at hr fR;simp only[Int.natCast_zero] at oT;have acJ:Ext H H':=Ext.of fR λi hi=>Jd
 refine⟨H',?_,acJ⟩;rcases hr with⟨rfl,hm,d9,d12,d5,d6,d28,rfl⟩|⟨rfl,hna,d9,d12,d5,d6,d28,rfl⟩
 ·rw[if_pos hm.TP];refine⟨?_,hm.relabel λi Ms DQ=>?_⟩
  ·simp -implicitDefEqProofs [F25,XV,b1,Mv,oT,OT,Dp]
  ·rcases Nat.lt_or_ge i H.length with g|g
   ·rw[fR.own i g] at DQ;exact absurd (show(-1:Int)=H.length from DQ) (by omega)
   ·exact ie g
 ·rw[if_neg hna];simp -implicitDefEqProofs [F25,XV,b1,Mv,oT,dK,dT,up,vj,vi,Gr];exact⟨rfl,rfl⟩
end
abbrev nw (n:Nat):aj:=aj.from (λ_=>0) n 1
theorem Dy {n i:Nat}:nw n i=1↔n≤i:=by
 rcases Nat.lt_or_ge i n with g|g
 ·rw[nw,nW g];constructor
  ·intro h;simp at h
  ·intro h;omega
 ·rw[nw,ie g];simp[g]
theorem u6 (o:aj): ∀m:Nat,∃Q:Int,∀i,i<m→o i<Q
 |0=>⟨0,λi h=>by omega⟩
 |m+1=>by
  obtain⟨Q,h⟩:=u6 o m;refine⟨max Q (o m+1),λi hi=>?_⟩
  rcases Nat.lt_or_ge i m with g|g
  ·have:=h i g;omega
  ·have:i=m:=by omega
   subst this;omega
theorem X1 {H':aa}{o:aj}{n:Nat}{x:Value}{l:PL}(h: ∀Q,gu H' (o.from n Q) Q x l):gu H' (nw n) 1 x l:=by
 obtain⟨Q,hQ⟩:=u6 o n;exact(h Q).relabel λi _ hi=>by
  rw[Dy];rcases Nat.lt_or_ge i n with g|g
  ·rw[nW g] at hi;have:=hQ i g;omega
  ·exact g
theorem X2 {H':aa}{o':aj}{n:Nat}{q:Int}{x:Value}{l:PL}(h:gu H' (nw n) 1 x l)(k: ∀i,n≤i→i<H'.length→o' i=q):gu H' o' q x l:=h.relabel λi hi DQ=>k i (Dy.1 DQ) hi
theorem X3 {H':aa}{n m:Nat}{x:Value}{l:PL}(h:gu H' (nw n) 1 x l)(k:m≤n):gu H' (nw m) 1 x l:=X2 h λi hi _=>Dy.2 (by omega)
theorem X4 {H':aa}{o':aj}{n:Nat}{q:Int}{x:Value}{l:PL}(h:gE H' (nw n) 1 x l)(k: ∀i,n≤i→i<H'.length→o' i=q):gE H' o' q x l:=h.relabel λi hi DQ=>k i (Dy.1 DQ) hi
structure kC where
 kind:Int
 key:Int
 value:Int
structure dA where
 qY:Int
 found:Bool
 key:Int
 value:Int
 n:Int
 list:PL
abbrev iO (op:kC):Value:=.agg #[cv op.kind,cv op.key,cv op.value]
abbrev dL (r:dA)(s:Value):Value:=.agg #[cv r.qY,.bool r.found,cv r.key,cv r.value,cv r.n,s]
def bM:dA:=⟨0,false,0,0,0,[]⟩
def nf (t:Int×Int×Bool):dA:=if t.2.2 then⟨0,true,t.1,t.2.1,0,[]⟩ else bM
def fN (w:Int):dA:=⟨w,false,0,0,0,[]⟩
def qZ (l:PL)(op:kC):dA:=
 if op.kind=1∨op.kind=2∨op.kind=3∨op.kind=4 then nf (op.key,uD l op.key,gZ l op.key)
 else if op.kind=5 then nf (nV l op.key)
 else if op.kind=6 then nf (u3 l op.key)
 else if op.kind=7 then nf (u3 l (-9223372036854775808))
 else if op.kind=8 then nf (nV l 9223372036854775807)
 else if op.kind=9 then⟨0,false,0,0,0,FE op.key op.value l⟩
 else if op.kind=10 then⟨0,false,0,0,(FE op.key op.value l).length,[]⟩
 else fN 5
def Dz (l:PL)(op:kC):Bool:=if op.kind=1 then !gZ l op.key else if op.kind=3 then gZ l op.key else decide (op.kind=2)
def My (l:PL)(op:kC):PL:=if Dz l op then(if op.kind=3 then mi l op.key else jS l op.key op.value) else l
def DA (H:aa)(o:aj)(q:Int)(x:Value)(r:dA):Prop:=∃s,x=dL r s∧gE H o q s r.list
theorem vA (op:kC)(H:aa):cO 39 (iO op) H=some (pv H.length,H.new ⟨[cv op.kind,cv op.key,cv op.value],39,1,false⟩):=by
 simp[cO,Value.cells,av,aO]
theorem Pc {H:aa}{b:Nat}{op:kC}{t:TypeId}(h:H.get b=some ⟨[cv op.kind,cv op.key,cv op.value],t,1,false⟩):cK 3 (pv b) H=some (iO op):=by
 simp[cK,aw,h]
theorem tD (b:Nat)(r:dA){s:Value}{a:Option Addr}{m c:Nat}(es:s= .slice a m c){cs:List Value}{t:TypeId}(H:aa)(h:H.get b=some ⟨cs,t,1,false⟩)(hl:cs.length=6):
  bS 6 (pv b) (dL r s) H=some (undef,H.put b ⟨[cv r.qY,.bool r.found,cv r.key,cv r.value,cv r.n,s],t,1,false⟩):=by
 subst es;obtain⟨c0,c1,c2,c3,c4,c5,rfl⟩: ∃c0 c1 c2 c3 c4 c5,cs=[c0,c1,c2,c3,c4,c5]:=by
  match cs,hl with
  | [c0,c1,c2,c3,c4,c5],_=>exact⟨c0,c1,c2,c3,c4,c5,rfl⟩
 simp[bS,bl,h,Value.cells,known,av,bB]
theorem jJ (b:Nat)(r:dA){s:Value}{t:TypeId}(H:aa)(h:H.get b=some ⟨[cv r.qY,.bool r.found,cv r.key,cv r.value,cv r.n,s],t,1,false⟩):cK 6 (pv b) H=some (dL r s):=by
 simp[cK,aw,h]
abbrev ax:Value:=.slice none 0 0
theorem AL:aE Tryz.prog 45 []=some (dL bM ax):=by kernel_rfl
theorem Sz (k v:Int):aE Tryz.prog 45 [(1,.bool true),(2,.agg #[cv k,cv v])]=some (dL (nf (k,v,true)) ax):=by kernel_rfl
theorem tF (w:Int):aE Tryz.prog 45 [(0,cv w)]=some (dL (fN w) ax):=by kernel_rfl
theorem X5 (a:Option Addr)(m c:Nat):aE Tryz.prog 45 [(4,.slice a m c)]=some (.agg #[cv 0,.bool false,cv 0,cv 0,cv 0,.slice a m c]):=by kernel_rfl
theorem aaM (w:Int):aE Tryz.prog 45 [(3,cv w)]=some (dL ⟨0,false,0,0,w,[]⟩ ax):=by kernel_rfl
theorem ng (t:Int×Int×Bool):(nf t).list=[]:=by unfold nf;split<;>rfl
theorem Pd (k v:Int):nf (k,v,false)=bM:=rfl
theorem acK (a b c d:Int):ai Tryz.prog .eql 42 (.agg #[cv a,cv b]) (.agg #[cv c,cv d])=Option.map Value.bool (match (some (a==c):Option Bool) with|some true=>(match (some (b==d):Option Bool) with|some true=>some true|x=>x)|x=>x):=by kernel_rfl
theorem acL (a b c d:Int):ai Tryz.prog .neq 42 (.agg #[cv a,cv b]) (.agg #[cv c,cv d])=Option.map (λx=>Value.bool (!x)) (match (some (a==c):Option Bool) with|some true=>(match (some (b==d):Option Bool) with|some true=>some true|x=>x)|x=>x):=by kernel_rfl
theorem eqP (a b c d:Int):ai Tryz.prog .eql 42 (.agg #[cv a,cv b]) (.agg #[cv c,cv d])=some (.bool (decide ((a,b)=(c,d)))):=by
 rw[acK];by_cases h1:a=c
 ·subst h1;by_cases h2:b=d
  ·subst h2;simp
  ·have e2:(b==d)=false:=by simpa using h2
   simp[e2,h2]
 ·have e1:(a==c)=false:=by simpa using h1
  simp[e1,h1]
theorem neP (a b c d:Int):ai Tryz.prog .neq 42 (.agg #[cv a,cv b]) (.agg #[cv c,cv d])=some (.bool (!decide ((a,b)=(c,d)))):=by
 rw[acL];by_cases h1:a=c
 ·subst h1;by_cases h2:b=d
  ·subst h2;simp
  ·have e2:(b==d)=false:=by simpa using h2
   simp[e2,h2]
 ·have e1:(a==c)=false:=by simpa using h1
  simp[e1,h1]
section
variable {G:ae} {H:aa} {o:aj} {q:Int} {x:Value} {l:PL} {n p:Nat}
theorem X6 (H:aa):aO H 45 1 [cv 0,.bool false,cv 0,cv 0,cv 0,ax]=(pv H.length,H.new ⟨[cv 0,.bool false,cv 0,cv 0,cv 0,ax],45,1,false⟩):=rfl
theorem tG {H0 H:aa}{b:Nat}(r:dA){s:Value}{a:Option Addr}{m c:Nat}(es:s= .slice a m c){cs:List Value}{t:TypeId}(h:H.get b=some ⟨cs,t,1,false⟩)(hl:cs.length=6)(e:Ext H0 H)(hb:H0.length≤b):
  ∃A,bS 6 (pv b) (dL r s) H=some (undef,A)∧cK 6 (pv b) A=some (dL r s)∧Ext H0 A∧∀j,j≠b→A[j]? =H[j]? :=
 ⟨_,tD b r es H h hl,jJ b r _ (aD h),e.put hb,λj hj=>db hj⟩
theorem E7 (k v:Int)(ok:Bool)(H:aa): ∃H',run G (n+1) 48 [cv k,cv v,.bool ok] H=some (dL (nf (k,v,ok)) ax,H')∧Ext H H':=by
 rw[Xi];obtain⟨A,h1,h2,h3,_⟩:=tG (nf (k,v,ok)) (s:=ax) rfl (ay (H:=H) (c:=⟨[cv 0,.bool false,cv 0,cv 0,cv 0,ax],45,1,false⟩)) rfl ((Ext.refl H).new _) (Nat.le_refl _);refine⟨A,?_,h3⟩;cases ok with
 |true=>simp -implicitDefEqProofs [F48,X6,da,abP,Sz,h1,h2]
 |false=>
  rw[Pd] at h1 h2;simp -implicitDefEqProofs [F48,X6,da,AL,Pd,h1,h2]
theorem E8 (h:eK H o p l)(op:kC)(hn:4194304<n):
  ∃x H',run G (n+8) 26 [pv p,iO op] H=some (x,H')∧DA H' (nw H.length) 1 x (qZ l op)∧Ext H H':=by
 rw[W0];have b1:=vA op H;obtain⟨H1,e1⟩: ∃z,z=H.new ⟨[cv op.kind,cv op.key,cv op.value],39,1,false⟩:=⟨_,rfl⟩;rw[←e1] at b1;have l1:H1.length=H.length+1:=by rw[e1,aW]
 obtain⟨H2,e2⟩: ∃z,z=H1.new ⟨[cv 0,.bool false,cv 0,cv 0,cv 0,ax],45,1,false⟩:=⟨_,rfl⟩;have l2:H2.length=H.length+2:=by rw[e2,aW,l1]
 have x2:Ext H H2:=by rw[e2,e1];exact((Ext.refl H).new _).new _
 have n2:aO H1 45 1 [cv 0,.bool false,cv 0,cv 0,cv 0,ax]=(pv (H.length+1),H2):=by rw[X6,e2,l1]
 have g1:H2.get H.length=some ⟨[cv op.kind,cv op.key,cv op.value],39,1,false⟩:=by rw[e2,cD (by omega),e1];exact ay
 have g2:H2.get (H.length+1)=some ⟨[cv 0,.bool false,cv 0,cv 0,cv 0,ax],45,1,false⟩:=by
  have:=ay (H:=H1) (c:=⟨[cv 0,.bool false,cv 0,cv 0,cv 0,ax],45,1,false⟩)
  rw[l1, ←e2] at this;exact this
 have P0:=ak H.length 0 H2 g1;have P1:=ak H.length 1 H2 g1;have P2:=ak H.length 2 H2 g1;have m2:=h.ext x2 0;have Pe:=λk=>EW (G:=G) (n:=n+2) m2 k (by omega)
 have aaN:=λk=>G4 (G:=G) (n:=n+2) m2 k (by omega)
 have aaO:=λk=>Dw (G:=G) (n:=n+2) m2 k (by omega)
 have fnd: ∀(t:Int×Int×Bool),∃H3,run G (n+7) 48 [cv t.1,cv t.2.1,.bool t.2.2] H2=some (dL (nf t) ax,H3)∧∃A,bS 6 (pv (H.length+1)) (dL (nf t) ax) H3=some (undef,A)∧cK 6 (pv (H.length+1)) A=some (dL (nf t) ax)∧Ext H A:=by
  intro t;obtain⟨H3,r3,x3⟩:=E7 (G:=G) (n:=n+6) t.1 t.2.1 t.2.2 H2;obtain⟨A,h1,h2,h3,_⟩:=tG (H0:=H) (nf t) (s:=ax) rfl (x3.get g2) rfl (x2.trans x3) (by omega)
  exact⟨H3,r3,A,h1,h2,h3⟩
 have done: ∀(t:Int×Int×Bool) (A:aa),DA A (nw H.length) 1 (dL (nf t) ax) (nf t):=λt A=>⟨ax,rfl,by rw[ng];exact .nil⟩
 have lst: ∃xs H3,run G (n+7) 51 [pv p,cv op.key,cv op.value] H2=some (xs,H3)∧gu H3 (nw H.length) 1 xs (FE op.key op.value l)∧Ext H2 H3:=by
  obtain⟨xs,H3,r3,s3,x3⟩:=LL (G:=G) (n:=n+1) m2 op.key op.value (by omega)
  exact⟨xs,H3,r3,X3 (X1 s3) (by omega),x3⟩
 by_cases k4:op.kind=1∨op.kind=2∨op.kind=3∨op.kind=4
 ·obtain⟨H3,r3,A,t1,t2,t3⟩:=fnd (op.key,uD l op.key,gZ l op.key);refine⟨_,A,?_,by have:=done (op.key,uD l op.key,gZ l op.key) A;unfold qZ;rw[if_pos k4];exact this,t3⟩
  simp only at r3 t1 t2;rcases k4 with k|k|k|k<;>
  ·simp -implicitDefEqProofs [RO,k,b1,n2,aQ,P0,P1,cW,kA,kf,Pe,iw,r3,t1,t2]
 have k1: ¬op.kind=1:=λh=>k4 (.inl h)
 have k2: ¬op.kind=2:=λh=>k4 (.inr (.inl h))
 have k3: ¬op.kind=3:=λh=>k4 (.inr (.inr (.inl h)))
 have k4': ¬op.kind=4:=λh=>k4 (.inr (.inr (.inr h)))
 by_cases k5:op.kind=5
 ·obtain⟨H3,r3,A,t1,t2,t3⟩:=fnd (nV l op.key);refine⟨_,A,?_,by have:=done (nV l op.key) A;unfold qZ;rw[if_neg k4,if_pos k5];exact this,t3⟩
  simp -implicitDefEqProofs [RO,k5,b1,n2,aQ,P0,P1,cW,kA,kf,aaN,iw,r3,t1,t2]
 by_cases k6:op.kind=6
 ·obtain⟨H3,r3,A,t1,t2,t3⟩:=fnd (u3 l op.key);refine⟨_,A,?_,by have:=done (u3 l op.key) A;unfold qZ;rw[if_neg k4,if_neg k5,if_pos k6];exact this,t3⟩
  simp -implicitDefEqProofs [RO,k6,b1,n2,aQ,P0,P1,cW,kA,kf,aaO,iw,r3,t1,t2]
 by_cases k7:op.kind=7
 ·obtain⟨H3,r3,A,t1,t2,t3⟩:=fnd (u3 l (-9223372036854775808));refine⟨_,A,?_,by have:=done (u3 l (-9223372036854775808)) A;unfold qZ;rw[if_neg k4,if_neg k5,if_neg k6,if_pos k7];exact this,t3⟩
  simp -implicitDefEqProofs [RO,k7,b1,n2,aQ,P0,P1,cW,kA,kf,aaO,iw,r3,t1,t2]
 by_cases k8:op.kind=8
 ·obtain⟨H3,r3,A,t1,t2,t3⟩:=fnd (nV l 9223372036854775807);refine⟨_,A,?_,by have:=done (nV l 9223372036854775807) A;unfold qZ;rw[if_neg k4,if_neg k5,if_neg k6,if_neg k7,if_pos k8];exact this,t3⟩
  simp -implicitDefEqProofs [RO,k8,b1,n2,aQ,P0,P1,cW,kA,kf,aaN,iw,r3,t1,t2]
 by_cases k9:op.kind=9
 ·obtain⟨xs,H3,r3,s3,x3⟩:=lst;obtain⟨a,c,es⟩:=s3.isSlice;obtain⟨A,t1,t2,t3,sA⟩:=tG (H0:=H) ⟨0,false,0,0,0,FE op.key op.value l⟩ (s:=xs) es (x3.get g2) rfl (x2.trans x3) (by omega)
  refine⟨_,A,?_,⟨xs,by unfold qZ;rw[if_neg k4,if_neg k5,if_neg k6,if_neg k7,if_neg k8,if_pos k9],?_⟩,t3⟩
  ·have ab:=X5 a (FE op.key op.value l).length c;rw[←es] at ab;simp -implicitDefEqProofs [RO,k9,b1,n2,aQ,P0,P1,P2,cW,kA,kf,r3,ab,t1,t2]
  ·unfold qZ;rw[if_neg k4,if_neg k5,if_neg k6,if_neg k7,if_neg k8,if_pos k9];refine(s3.mv (H':=A) (o':=nw H.length) λi n c e=>⟨sA i ?_,rfl⟩).r
   rintro rfl;exact s3.Cs (x3.get g2) _ _ e
 by_cases TS:op.kind=10
 ·obtain⟨xs,H3,r3,s3,x3⟩:=lst;obtain⟨A,t1,t2,t3,_⟩:=tG (H0:=H) ⟨0,false,0,0,(FE op.key op.value l).length,[]⟩ (s:=ax) rfl (x3.get g2) rfl (x2.trans x3) (by omega)
  refine⟨_,A,?_,⟨ax,by unfold qZ;rw[if_neg k4,if_neg k5,if_neg k6,if_neg k7,if_neg k8,if_neg k9,if_pos TS],by unfold qZ;rw[if_neg k4,if_neg k5,if_neg k6,if_neg k7,if_neg k8,if_neg k9,if_pos TS];exact .nil⟩,t3⟩
  simp -implicitDefEqProofs [RO,TS,b1,n2,aQ,P0,P1,P2,cW,kA,kf,r3,s3.len,aaM,t1,t2]
 ·obtain⟨A,t1,t2,t3,_⟩:=tG (H0:=H) (fN 5) (s:=ax) rfl g2 rfl x2 (by omega)
  refine⟨_,A,?_,⟨ax,by unfold qZ;rw[if_neg k4,if_neg k5,if_neg k6,if_neg k7,if_neg k8,if_neg k9,if_neg TS],by unfold qZ;rw[if_neg k4,if_neg k5,if_neg k6,if_neg k7,if_neg k8,if_neg k9,if_neg TS];exact .nil⟩,t3⟩
  simp -implicitDefEqProofs [RO,b1,n2,aQ,P0,P1,P2,cW,k1,k2,k3,k4',k5,k6,k7,k8,k9,TS,kA,kf,OH,Dd,tF,t1,t2]
end
theorem blT:Tryz.prog.underlying 4=some .bool:=by kernel_rfl
def hO (a b:dA):Bool:=decide (a.qY=b.qY)&&(a.found==b.found)&&decide ((a.key,a.value)=(b.key,b.value))&&decide (a.n=b.n)&&decide (a.list=b.list)
section
variable {G:ae} {H:aa} {o:aj} {q:Int} {x:Value} {l:PL} {n p:Nat}
theorem rK (h:eK H o p l)(op:kC)(hn:4194304<n): ∃H',run G (n+6) 54 [pv p,iO op] H=some (.bool (Dz l op),H')∧Ext H H':=by
 rw[Wl];have b1:=vA op H;obtain⟨H1,e1⟩: ∃z,z=H.new ⟨[cv op.kind,cv op.key,cv op.value],39,1,false⟩:=⟨_,rfl⟩;rw[←e1] at b1;have x1:Ext H H1:=by rw[e1];exact(Ext.refl H).new _
 have g1:H1.get H.length=some ⟨[cv op.kind,cv op.key,cv op.value],39,1,false⟩:=by rw[e1];exact ay
 have P0:=ak H.length 0 H1 g1;have P1:=ak H.length 1 H1 g1;have Pe:=EW (G:=G) (n:=n) (h.ext x1 0) op.key hn;refine⟨H1,?_,x1⟩;unfold Dz;by_cases k1:op.kind=1
 ·simp -implicitDefEqProofs [F54,b1,aQ,P0,P1,Pe,iw,cW,k1,da]
 by_cases k3:op.kind=3
 ·simp -implicitDefEqProofs [F54,b1,aQ,P0,P1,Pe,iw,cW,k3]
 ·simp -implicitDefEqProofs [F54,b1,aQ,P0,P1,Pe,iw,cW,k1,k3]
theorem Ha (h:eK H o p l)(hl:l.length<4194304)(op:kC)(hn:4194304<n):
  ∃p' H',run KG (n+8) 55 [pv p,iO op] H=some (pv p',H')∧Ext H H'∧(Dz l op=false→p'=p)∧(Dz l op=true→H.length≤p'∧eK H' (aj.from (λ_=> -1) H.length p') p' (My l op)):=by
 rw[Xz];have b1:=vA op H;obtain⟨H1,e1⟩: ∃z,z=H.new ⟨[cv op.kind,cv op.key,cv op.value],39,1,false⟩:=⟨_,rfl⟩;rw[←e1] at b1;have l1:H1.length=H.length+1:=by rw[e1,aW]
 have x1:Ext H H1:=by rw[e1];exact(Ext.refl H).new _
 have g1:H1.get H.length=some ⟨[cv op.kind,cv op.key,cv op.value],39,1,false⟩:=by rw[e1];exact ay
 have L1:=Pc g1;have BQ:=h.lt;have m1:eK H1 ((Fun.oM o p).from H.length (-1)) p l:=h.oM.ext x1 (-1)
 obtain⟨H2,r2,x2⟩:=rK (G:=KG) (n:=n+1) m1 op (by omega)
 cases ht:Dz l op with
 |false=>
  rw[ht] at r2;refine⟨p,H2,?_,x1.trans x2,λ_=>rfl,λh=>by cases h⟩
  simp -implicitDefEqProofs [F55,b1,L1,r2,da]
 |true=>
  rw[ht] at r2;have m2:=m1.ext x2 (-1);obtain⟨c,H3,o3,r3,m3,f3,hc⟩:=G6 (G:=KG) (n:=n+5) m2;have DO:=x2.size;have g3:H3.get H.length=some ⟨[cv op.kind,cv op.key,cv op.value],39,1,false⟩:=by rw[f3.same _ (by omega) (by simp)];exact x2.get g1
  have P0:=ak H.length 0 H3 g3;have P1:=ak H.length 1 H3 g3;have P2:=ak H.length 2 H3 g3;have old: ∀i,i<H2.length→o3 i=(c:Int)→False:=by
   intro i hi he;rw[f3.own i hi] at he;rcases Nat.lt_or_ge i H1.length with g|g
   ·rw[nW g] at he;rcases Nat.lt_or_ge i H.length with g'|g'
    ·rw[nW g'] at he;unfold Fun.oM at he;split at he<;>omega
    ·rw[ie g'] at he;omega
   ·rw[ie g] at he;omega
  have x3:Ext H2 H3:=Ext.of f3 λi _ h=>by simp at h
  by_cases k3:op.kind=3
  ·obtain⟨H4,r4,m4,f4⟩:=OZ (G:=KG) (n:=n+3) m3 op.key (by omega)
   have x4:Ext H2 H4:=x3.trans' f4 old;refine⟨c,H4,?_,(x1.trans x2).trans x4,(λh=>by cases h),λ_=>⟨by omega,?_⟩⟩
   ·simp -implicitDefEqProofs [F55,b1,L1,r2,da,r3,aQ,P0,P1,P2,cW,k3,r4,ET,wi]
   ·unfold My;rw[ht,if_pos rfl,if_pos k3];exact m4.relabel λi _ hi=>ie (by
     rcases Nat.lt_or_ge i H2.length with g|g
     ·exact absurd (old i g hi) id
     ·omega)
  ·obtain⟨H4,o4,r4,m4,f4⟩:=EZ (n:=n+3) m3 op.key op.value hl (by omega)
   have x4:Ext H2 H4:=x3.trans' f4 old;refine⟨c,H4,?_,(x1.trans x2).trans x4,(λh=>by cases h),λ_=>⟨by omega,?_⟩⟩
   ·simp -implicitDefEqProofs [F55,b1,L1,r2,da,r3,aQ,P0,P1,P2,cW,k3,r4,ET,wi]
   ·unfold My;rw[ht,if_pos rfl,if_neg k3];exact m4.relabel λi _ hi=>ie (by
     rcases Nat.lt_or_ge i H2.length with g|g
     ·rw[f4.own i (Nat.lt_of_lt_of_le g f3.size)] at hi;exact absurd (old i g hi) id
     ·omega)
end
section
variable {G:ae} {H:aa} {o:aj} {q:Int} {x:Value} {l:PL} {n p:Nat}
theorem Hc {o2:aj}{q2:Int}{y:Value}{m:PL}(hx:gE H o q x l)(hy:gE H o2 q2 y m)(hl:l.length≤4294967296)(hn:l.length<n):run G (n+1) 109 [x,y] H=some (.bool (decide (l=m)),H):=by
 rw[Rk];have Mv:=hx.len;have hyl:=hy.len;by_cases hlen:l.length=m.length
 ·obtain⟨r,oT,dX,hr⟩:=qg (step:=CR (run G n) n)
   (Q:=λk vs H'=>H'=H∧∃(i:Nat) (d14 d5 d24:Value),i≤l.length∧k=l.length-i∧vs=[x,y,.bool false,.bool false,cv i,cv l.length,d14,d5,d24]∧l.take i=m.take i)
   (R:=λr=>r.2.2=H∧∃(d13 d14 d5 d24:Value),r.2.1=[x,y,.bool false,.bool false,d13,cv l.length,d14,d5,d24]∧((r.1= .exit 0∧l=m)∨(r.1= .ret∧l≠m)))
   (by
    rintro k vs H' ⟨rfl,i,d14,d5,d24,hi,rfl,rfl,TV⟩;by_cases eR:i<l.length
    ·have h1:(i:Int)<l.length:=by omega
     have Qv:i<m.length:=by omega
     obtain⟨bi,bo,y0,qo,hy0,hbo,ZK⟩:=hx.idx eR;obtain⟨d1,d2,d3⟩:=ZK _ hy0;obtain⟨bj,bjo,z0,LN,Mp,hco,hcd⟩:=hy.idx Qv;obtain⟨c1,c2,c3⟩:=hcd _ Mp;have hw:IntKind.i64.wrap ((i:Int)+1)=((i+1:Nat):Int):=by rw[kr (by omega)];omega
     by_cases he:l.getD i (0,0)=m.getD i (0,0)
     ·have ZY:((l.getD i (0,0)).1,(l.getD i (0,0)).2)=((m.getD i (0,0)).1,(m.getD i (0,0)).2):=he;refine .inl ⟨_,_,l.length-(i+1),by omega,?_,rfl,i+1,.bool true,cv i,.bool false,by omega,rfl,rfl,by rw[wo eR,wo Qv,TV,he]⟩
      simp -implicitDefEqProofs [-List.getD_eq_getElem?_getD, -Int.natCast_add, -Prod.mk.injEq,uz,pI,bT,h1,qo,LN,d3,c3,neP,ZY,gS,hw,fin]
     ·have ZY: ¬((l.getD i (0,0)).1,(l.getD i (0,0)).2)=((m.getD i (0,0)).1,(m.getD i (0,0)).2):=he;refine .inr ⟨(.ret,[x,y,.bool false,.bool false,cv i,cv l.length,.bool true,cv i,.bool true],H'),?_,by simp,rfl,_,_,_,_,rfl,.inr ⟨rfl,λe=>he (by rw[e])⟩⟩
      simp -implicitDefEqProofs [-List.getD_eq_getElem?_getD, -Int.natCast_add, -Prod.mk.injEq,uz,pI,bT,h1,qo,LN,d3,c3,neP,ZY,fin]
    ·have h1: ¬(i:Int)<l.length:=by omega
     rw[List.take_of_length_le (by omega),List.take_of_length_le (by omega)] at TV
     refine .inr ⟨(.exit 0,[x,y,.bool false,.bool false,cv i,cv l.length,.bool false,d5,d24],H'),?_,by simp,rfl,_,_,_,_,rfl,.inl ⟨rfl,TV⟩⟩
     simp -implicitDefEqProofs [uz,pI,bT,h1,fin])
   (l.length-0) [x,y,.bool false,.bool false,cv (0:Nat),cv l.length,undef,undef,undef] H ⟨rfl,0,_,_,_,Nat.zero_le _,rfl,rfl,by simp⟩ n (by omega)
  obtain⟨e,vs,H'⟩:=r;simp only at hr;obtain⟨rfl,d13,d14,d5,d24,rfl,⟨rfl,h⟩|⟨rfl,h⟩⟩:=hr
  ·simp only[Int.natCast_zero] at oT;rw[hlen] at oT;rw[decide_eq_true h];simp -implicitDefEqProofs [Rj,Mv,hyl,hlen,gQ,oT,Kk,yg]
  ·simp only[Int.natCast_zero] at oT;rw[hlen] at oT;rw[decide_eq_false h];simp -implicitDefEqProofs [Rj,Mv,hyl,hlen,gQ,oT,dK,dT,up,vj,vi,Gr];rfl
 ·have h: ¬l=m:=λe=>hlen (by rw[e])
  have wF: ¬(l.length:Int)=m.length:=by omega
  rw[decide_eq_false h];simp -implicitDefEqProofs [Rj,Mv,hyl,wF,gQ]
theorem X7 (r:dA){s:Value}{a:Option Addr}{m c:Nat}(es:s= .slice a m c)(H:aa):cO 45 (dL r s) H=some (pv H.length,H.new ⟨[cv r.qY,.bool r.found,cv r.key,cv r.value,cv r.n,s],45,1,false⟩):=by
 subst es;simp[cO,Value.cells,av,aO]
theorem LO {H:aa}{b:Nat}{r:dA}{s:Value}{t:TypeId}(h:H.get b=some ⟨[cv r.qY,.bool r.found,cv r.key,cv r.value,cv r.n,s],t,1,false⟩):cK 2 (.pointer (some ⟨b,2,none⟩)) H=some (.agg #[cv r.key,cv r.value]):=by
 simp[cK,aw,h]
theorem qw {o2:aj}{q2:Int}{y:Value}{ra rb:dA}(hx:DA H o q x ra)(hy:DA H o2 q2 y rb)(hl:ra.list.length≤4294967296)(hn:ra.list.length<n):
  ∃H',run G (n+2) 82 [x,y] H=some (.bool (hO ra rb),H')∧Ext H H':=by
 rw[VU];obtain⟨s,rfl,hs⟩:=hx;obtain⟨t,rfl,ht⟩:=hy;obtain⟨a1,c1,es⟩:=hs.isSlice;obtain⟨a2,c2,et⟩:=ht.isSlice;have b1:=X7 ra es H;obtain⟨H1,e1⟩: ∃z,z=H.new ⟨[cv ra.qY,.bool ra.found,cv ra.key,cv ra.value,cv ra.n,s],45,1,false⟩:=⟨_,rfl⟩;rw[←e1] at b1;have l1:H1.length=H.length+1:=by rw[e1,aW]
 have b2:=X7 rb et H1;obtain⟨H2,e2⟩: ∃z,z=H1.new ⟨[cv rb.qY,.bool rb.found,cv rb.key,cv rb.value,cv rb.n,t],45,1,false⟩:=⟨_,rfl⟩;rw[←e2,l1] at b2;have x2:Ext H H2:=by rw[e2,e1];exact((Ext.refl H).new _).new _
 have g1:H2.get H.length=some ⟨[cv ra.qY,.bool ra.found,cv ra.key,cv ra.value,cv ra.n,s],45,1,false⟩:=by rw[e2,cD (by omega),e1];exact ay
 have g2:H2.get (H.length+1)=some ⟨[cv rb.qY,.bool rb.found,cv rb.key,cv rb.value,cv rb.n,t],45,1,false⟩:=by
  have:=ay (H:=H1) (c:=⟨[cv rb.qY,.bool rb.found,cv rb.key,cv rb.value,cv rb.n,t],45,1,false⟩)
  rw[l1, ←e2] at this;exact this
 have hp:=Hc (G:=G) (n:=n) (hs.fr (x2.fr o 0) (by simp)) (ht.fr (x2.fr o2 0) (by simp)) hl hn
 refine⟨H2,?_,x2⟩;have A0:=ak H.length 0 H2 g1;have A1:=ak H.length 1 H2 g1;have A4:=ak H.length 4 H2 g1;have A5:=ak H.length 5 H2 g1;have B0:=ak (H.length+1) 0 H2 g2;have B1:=ak (H.length+1) 1 H2 g2;have B4:=ak (H.length+1) 4 H2 g2;have B5:=ak (H.length+1) 5 H2 g2;unfold hO;by_cases h1:ra.qY=rb.qY
 case neg=>simp -implicitDefEqProofs [Zh,b1,b2,aQ,A0,B0,cW,h1,aL]
 by_cases h2:ra.found=rb.found
 case neg=>
  have ME:(ra.found==rb.found)=false:=by simpa using h2
  simp -implicitDefEqProofs [Zh,b1,b2,aQ,A0,B0,A1,B1,cW,sP _ _ blT,h1,ME,aL]
 by_cases h3:(ra.key,ra.value)=(rb.key,rb.value)
 case neg=>simp -implicitDefEqProofs [-Prod.mk.injEq,Zh,b1,b2,aQ,A0,B0,A1,B1,cW,sP _ _ blT,h1,h2,aL,LO g1,LO g2,eqP,h3]
 by_cases h4:ra.n=rb.n
 case neg=>simp -implicitDefEqProofs [-Prod.mk.injEq,Zh,b1,b2,aQ,A0,B0,A1,B1,A4,B4,cW,sP _ _ blT,h1,h2,aL,LO g1,LO g2,eqP,h3,h4]
 simp -implicitDefEqProofs [-Prod.mk.injEq,Zh,b1,b2,aQ,A0,B0,A1,B1,A4,B4,A5,B5,cW,sP _ _ blT,h1,h2,aL,LO g1,LO g2,eqP,h3,h4,hp]
end
end Go.Proofs.YtjgmnoaalbbonaaGreat.Fun
end
section
namespace Go.Proofs.YtjgmnoaalbbonaaGreat.Fun
open Go Go.RowKit Go.Proofs.YtjgmnoaalbbonaaGreatA.Am
set_option maxRecDepth 10000
theorem uI:Tryz.prog.underlying 3=some (.int .i64):=by kernel_rfl
theorem u64:Tryz.prog.underlying 2=some (.int .i64):=by kernel_rfl
theorem E9:sQ Tryz.prog 39 [3,2,2]=true:=by kernel_rfl
theorem Hd:sQ Tryz.prog 42 [2,2]=true:=by kernel_rfl
theorem LP:Tryz.prog.cellsOf 42=2:=by kernel_rfl
theorem slP:Tryz.prog.underlying 43=some (.slice 42):=by kernel_rfl
def X8 (op:kC):Prop:=Gv op.kind∧Gv op.key∧Gv op.value
theorem acM {H:aa}{f:Nat}{cs:List Value}(h:In Tryz.prog H (f+2) 39 cs): ∃op:kC,cs=[cv op.kind,cv op.key,cv op.value]∧X8 op:=by
 obtain⟨fs,he,ht⟩:=pD E9;have h:=In.struct (P:=Tryz.prog) (t:=39) (f:=f+1) he h;generalize fs.toList=l at h ht
 obtain⟨f0,l,rfl,h0,ht⟩:=List.map_eq_cons_iff.1 ht;obtain⟨f1,l,rfl,h1,ht⟩:=List.map_eq_cons_iff.1 ht;obtain⟨f2,l,rfl,h2,ht⟩:=List.map_eq_cons_iff.1 ht;have:l=[]:=by simpa using ht
 subst this;obtain⟨a0,_,rfl,_,i0,a1,_,rfl,_,i1,a2,_,rfl,_,i2,rfl⟩:=h;rw[h0] at i0;rw[h1] at i1;rw[h2] at i2;obtain⟨k,rfl,hk⟩:=In.int uI i0;obtain⟨a,rfl,ha⟩:=In.int u64 i1;obtain⟨b,rfl,hb⟩:=In.int u64 i2;exact⟨⟨k,a,b⟩,rfl,hk,ha,hb⟩
theorem lB.op {H:aa}{f:Nat}{v:Value}(h:lB Tryz.prog H (f+2) 39 v): ∃op:kC,v=iO op∧X8 op:=by
 obtain⟨cs,h1,h2⟩:=h;obtain⟨fs,he,ht⟩:=pD E9;rw[he] at h2;obtain⟨op,rfl,ho⟩:=acM h1;exact⟨op,h2,ho⟩
theorem X9 {H:aa}{f:Nat}{cs:List Value}(h:In Tryz.prog H (f+2) 42 cs): ∃z:Int×Int,cs=[cv z.1,cv z.2]∧Gv z.1∧Gv z.2:=by
 obtain⟨fs,he,ht⟩:=pD Hd;have h:=In.struct (P:=Tryz.prog) (t:=42) (f:=f+1) he h;generalize fs.toList=l at h ht
 obtain⟨f0,l,rfl,h0,ht⟩:=List.map_eq_cons_iff.1 ht;obtain⟨f1,l,rfl,h1,ht⟩:=List.map_eq_cons_iff.1 ht;have:l=[]:=by simpa using ht
 subst this;obtain⟨a0,_,rfl,_,i0,a1,_,rfl,_,i1,rfl⟩:=h;rw[h0] at i0;rw[h1] at i1;obtain⟨k,rfl,hk⟩:=In.int u64 i0;obtain⟨a,rfl,ha⟩:=In.int u64 i1;exact⟨(k,a),rfl,hk,ha⟩
def vB (l:PL):Prop:=∀z∈l,Gv z.1∧Gv z.2
theorem SA {H:aa}{f:Nat}{cs:List Value}(h:In Tryz.prog H (f+3) 43 cs): ∃v l,cs=[v]∧gE H o0 (-1) v l∧vB l:=by
 rcases In.slice slP h with rfl|⟨i,es,rfl,hm,hg,fC⟩
 ·exact⟨_,[],rfl,.nil,λz hz=>by cases hz⟩
 ·have: ∃l:PL,es=l.map (λz=>[cv z.1,cv z.2])∧vB l:=by
   clear h hm hg;induction es with
   |nil=>exact⟨[],rfl,λz hz=>by cases hz⟩
   |cons y es ih=>
    obtain⟨l,rfl,hl⟩:=ih (λx hx=>fC x (List.mem_cons_of_mem _ hx))
    obtain⟨z,rfl,hz⟩:=X9 (fC y (List.mem_cons_self ..)).2;exact⟨z::l,rfl,λx hx=>(List.mem_cons.1 hx).elim (λe=>e▸hz) (hl x)⟩
  obtain⟨l,rfl,hl⟩:=this;have FC:(l.map (λz=>[cv z.1,cv z.2])).flatten=kJ l:=by
   clear h hm hg fC hl;induction l with
   |nil=>rfl
   |cons a l ih=>simp[kJ,ih]
  rw[FC] at hg;simp only[List.length_map] at hg ⊢;refine⟨_,l,rfl,?_,hl⟩;cases l with
  |nil=>exact .inr (.inl ⟨i,0,rfl,rfl⟩)
  |cons a l=>
   have g:=hg (by simp)
   have:=nM (a::l)
   exact .inr (.inr ⟨i,0,_,_,rfl,g,LP,rfl,Nat.le_refl _,by simp only;omega,by simp only[List.drop_zero];exact List.take_of_length_le (by omega)⟩)
theorem lB.MV {H:aa}{f:Nat}{v:Value}(h:lB Tryz.prog H (f+3) 43 v): ∃l,gE H o0 (-1) v l∧vB l:=by
 obtain⟨v',l,h1,h2,h3⟩:=SA (h.one (by simp[slP]));cases h1;exact⟨l,h2,h3⟩
theorem vB.put {l:PL}{k v:Int}(h:vB l)(hk:Gv k)(hv:Gv v):vB (jS l k v):=λz hz=>by
 unfold jS at hz;rcases List.mem_append.1 hz with hz|hz
 ·exact h z (List.mem_of_mem_take hz)
 ·rcases List.mem_cons.1 hz with rfl|hz
  ·exact⟨hk,hv⟩
  ·exact h z (List.mem_of_mem_drop hz)
theorem vB.del {l:PL}{k:Int}(h:vB l):vB (mi l k):=λz hz=>by
 unfold mi at hz;rcases List.mem_append.1 hz with hz|hz
 ·exact h z (List.mem_of_mem_take hz)
 ·exact h z (List.mem_of_mem_drop hz)
theorem vB.My {l:PL}{op:kC}(h:vB l)(ho:X8 op):vB (My l op):=by
 unfold Fun.My;split
 ·split
  ·exact h.del
  ·exact h.put ho.2.1 ho.2.2
 ·exact h
theorem DA.ext {H H':aa}{o:aj}{q:Int}{x:Value}{r:dA}(h:DA H o q x r)(e:Ext H H'):DA H' (o.from H.length 0) q x r:=by
 obtain⟨s,h1,h2⟩:=h;exact⟨s,h1,h2.fr (e.fr o 0) (by simp)⟩
theorem _root_.Go.Proofs.YtjgmnoaalbbonaaGreatA.Am.gE.ext {H H':aa}{o:aj}{q:Int}{x:Value}{l:PL}(h:gE H o q x l)(e:Ext H H'):gE H' (o.from H.length 0) q x l:=h.fr (e.fr o 0) (by simp)
section
variable {G:ae} {H:aa} {o:aj} {q:Int} {x:Value} {l:PL} {n p:Nat}
end
end Go.Proofs.YtjgmnoaalbbonaaGreat.Fun
end
