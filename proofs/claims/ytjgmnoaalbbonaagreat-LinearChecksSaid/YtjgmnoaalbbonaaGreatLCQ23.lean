/- Texts of the proof of linearChecks_holds, put together by a small program of ours (names shortened, spaces taken out). No condition beyond the given statement. -/
import Derived.Test.YtjgmnoaalbbonaaGreatLCQ14
import Derived.Test.YtjgmnoaalbbonaaGreatLCQ11
import Derived.Test.YtjgmnoaalbbonaaGreatLCQ13
import Derived.Test.YtjgmnoaalbbonaaGreatLCQ15
import Derived.Test.YtjgmnoaalbbonaaGreatLCQ17
import Derived.Test.YtjgmnoaalbbonaaGreatLCQ18
import Derived.Test.YtjgmnoaalbbonaaGreatLCQ19
import Derived.Test.YtjgmnoaalbbonaaGreatLCQ20
import Derived.Test.YtjgmnoaalbbonaaGreatLCQ21
import Derived.Test.YtjgmnoaalbbonaaGreatLCQ22
import Derived.Test.YtjgmnoaalbbonaaGreatLCQ16
set_option linter.unusedVariables false
set_option linter.unusedSimpArgs false
set_option linter.unnecessarySimpa false
noncomputable section
section
namespace Go.Proofs.YtjgmnoaalbbonaaGreat.Fun
open Go.RowKit Go.Proofs.YtjgmnoaalbbonaaGreatA.Am
set_option maxRecDepth 10000
def F3 (C:ag)(n:Nat)(a0 a1 a2:Value)(H:ae):VH:= mv (Value.bool false) H λx0 H=>mv a0 H λx1 H=>mv a1 H λx2 H=>mv a2 H λx3 H=>af (C 5 [x1,x2,x3] H) λx4 H=>mv x4 H λx5 H=>af (C 6 [] H) λx6 H=>mv x6 H λx7 H=>af (gd (ai x7 true) (some (x5,H)) H) λx8 H=>af (gd (ai x7 true) (C 7 [x8] H) H) λx9 H=>af (gd (ai x7 true) (some (x5,H)) H) λaK H=>af (gd (ai x7 true) (C 8 [aK] H) H) λaU H=>af (gd (ai x7 true) (pS (aj Tryz.prog .eql 3 x9 aU) H) H) λaP H=>af (aL x7 aP (Value.bool false) H) λaR H=>mv aR H λaW H=>some (aW,H)
theorem aeI (G:ag)(n:Nat)(a0 a1 a2:Value)(H:ae):run G (n+1) 3 [a0,a1,a2] H=F3 (run G n) n a0 a1 a2 H:=by
 unfold run;rw[av (fn:=Tryz.f3) (keep:=[0,1,2,6,7]) (ay 3 rfl) (by kernel_rfl) (by kernel_rfl)]
 kernel_rfl
end Go.Proofs.YtjgmnoaalbbonaaGreat.Fun
end
section
namespace Go.Proofs.YtjgmnoaalbbonaaGreat.Fun
open Go Go.RowKit Go.Proofs.YtjgmnoaalbbonaaGreatA.Am
set_option maxRecDepth 10000
theorem acp:yz Tryz.prog 76 103 52 2 3 4 8 where
 mixed:=by kernel_rfl
 uS:=by kernel_rfl
 zE:=by kernel_rfl
 bE:=by kernel_rfl
 Zw:=by decide
 uI:=by kernel_rfl
 U9:=⟨⟨aec Tryz.prog 103,by kernel_rfl,by kernel_rfl,by kernel_rfl,by kernel_rfl,by kernel_rfl⟩⟩
 code:=⟨aec Tryz.prog 76,rid (pf [1,1,1,1,1,1,0,0] (jz Tryz.prog 76)),rid (pf [1,1,1,1,1,1,0,1,0,0] (jz Tryz.prog 76)),rid (pf [1,1,1,1,1,1,1,1,0,0] (jz Tryz.prog 76)),ZF (pf [1,1,1,1,1,1,0,0] (jz Tryz.prog 76)),ZF (pf [1,1,1,1,1,1,0,1,0,0] (jz Tryz.prog 76)),ZF (pf [1,1,1,1,1,1,1,1,0,0] (jz Tryz.prog 76)),
  (pf [0] (jz Tryz.prog 76)),(pf [1,0] (jz Tryz.prog 76)),(pf [1,1,0] (jz Tryz.prog 76)),(pf [1,1,1,0] (jz Tryz.prog 76)),(pf [1,1,1,1,0] (jz Tryz.prog 76)),(pf [1,1,1,1,1,0] (jz Tryz.prog 76)),(pf [1,1,1,1,1,1,0,1,0,1] (jz Tryz.prog 76)),(pf [1,1,1,1,1,1,1,0] (jz Tryz.prog 76)),(pf [1,1,1,1,1,1,1,1,0,1,0] (jz Tryz.prog 76)),(pf [1,1,1,1,1,1,1,1,1] (jz Tryz.prog 76)),zAt Tryz.prog 2,
  by kernel_rfl,by kernel_rfl,by kernel_rfl,by kernel_rfl,by kernel_rfl,by kernel_rfl,by kernel_rfl,
  rL (by kernel_rfl),rL (by kernel_rfl),rL (by kernel_rfl),
  λv0 v1 v2 v6 v7 cG v8 eU fS v9 fT H=>by rw[rI];kernel_rfl,
  λv0 v1 v2 v6 v7 cG v8 eU fS v9 fT H=>by rw[rI];kernel_rfl,
  λv0 v1 v2 v6 v7 cG v8 eU fS v9 fT H=>by rw[rI];kernel_rfl,
  λv0 v1 v2 v6 v7 cG v8 eU fS v9 fT H=>by rw[rI];kernel_rfl⟩
abbrev ins:List (FuncId×TypeId):=[(76,2)]
abbrev inb:List FuncId:=[76]
theorem acq:zS Tryz.prog ins:=by
 intro q hq;simp only[ins,List.mem_cons,List.not_mem_nil,or_false] at hq;rcases hq with rfl
 ·exact⟨_,_,_,_,_,acp⟩
theorem okP:oV Tryz.prog (inb++wV Tryz.prog)=true:=by kernel_rfl
abbrev kk:List FuncId:=[6]
theorem agw:oV Tryz.prog (kk++(inb++wV Tryz.prog))=true:=by kernel_rfl
theorem Ps:(kk.all λk=>(fW Tryz.prog (inb++wV Tryz.prog) (wm ins) 2000 k [] []).any λr=>jd r.1 (.bool true))=true:=by kernel_rfl
abbrev KG:ag:=EW kk ins
theorem acr {f:FuncId}{ts:List TypeId}(h: ∀H args,kE H→ph Tryz.prog H 9 ts args→∃n H',run KG n f args H=some (.bool true,H')):Ye Tryz.prog f ts:=
 Ye.ZE kk ins 2000 acq okP agw Ps h
end Go.Proofs.YtjgmnoaalbbonaaGreat.Fun
end
section
namespace Go.Proofs.YtjgmnoaalbbonaaGreat.Fun
open Go Go.RowKit Go.Proofs.YtjgmnoaalbbonaaGreatA.Am
abbrev rT:Int→Int→Bool:=λa b=>decide (a<b)
abbrev q8 (ks:List Int):Prop:=ks.Pairwise (· < ·)
abbrev iB (l:List Int):List Value:=l.map cv
def De (ks:List Int)(k:Int):Bool:=decide (ks[pQ rT ks k]? =some k)
section
variable {G:ag} {H:ae} {o:an} {p:Int} {b:Option Nat} {s:Value} {ks:List Int} {n:Nat}
theorem SN (a:Int):run G (n+1) 117 [cv a] H=some (.bool false,H):=by
 rw[VY];simp -implicitDefEqProofs [aeh,eu]
theorem Pt (a:Int):run G (n+1) 102 [cv a] H=some (.bool false,H):=by
 rw[Wk];simp -implicitDefEqProofs [aej,eu]
theorem DU (a c:Int):run G (n+2) 101 [cv a,cv c] H=some (.bool (decide (a<c)),H):=by
 rw[WH];simp -implicitDefEqProofs [aeG,SN,ar,aE,undef]
theorem MO {j:Nat}(h:j<ks.length):(iB ks)[j]? =some (cv ks[j]):=by simp[h]
theorem SO (x:Int)(H:ae):sK .u64 (cv x) H=some (.int .u64 (IntKind.u64.wrap x),H):=rfl
theorem SP (x:Int)(H:ae):sK .i64 (.int .u64 x) H=some (cv (IntKind.i64.wrap x),H):=rfl
theorem aeJ (t:TypeId)(a:Int):aj Tryz.prog .shr t (.int .u64 a) (.int .u64 1)=some (.int .u64 (a.fdiv 2)):=rfl
theorem mid {i j:Nat}(h:i+j<4294967296):IntKind.i64.wrap ((IntKind.u64.wrap (IntKind.i64.wrap ((i:Int)+j))).fdiv 2)=((i+j)/2:Nat):=by
 have e1:IntKind.i64.wrap ((i:Int)+j)=(i:Int)+j:=jE (by omega)
 have e2:IntKind.u64.wrap ((i:Int)+j)=(i:Int)+j:=by
  simp only[IntKind.wrap,IntKind.bits,IntKind.signed];simp;omega
 rw[e1,e2,Int.fdiv_eq_ediv_of_nonneg _ (by omega),jE (by omega)]
 omega
theorem BQ (hs:Sl H o p s (iB ks) b)(ha:q8 ks)(hl:ks.length≤4194304)(k:Int)(hn:4194304<n):
  run G (n+3) 75 [s,cv k] H=some (.tuple #[cv (pQ rT ks k),.bool (De ks k)],H):=by
 rw[abg];have nP:=hs.len;simp only[List.length_map] at nP;obtain⟨r,iL,eC,e1,e2⟩:=iy (step:=Kq (run G (n+2)) (n+2))
  (Q:=λm vs H'=>H'=H∧∃(i j:Nat) (d1 d2 d3:Value),i≤j∧j≤ks.length∧m=j-i∧vs=[s,cv k,cv 0,.bool false,cv ks.length,cv i,cv j,d1,d2,d3]∧
   (∀x (h:x<ks.length),x<i→ks[x]<k)∧(∀x (h:x<ks.length),j≤x→k≤ks[x]))
  (R:=λr=>r.1= .exit 0∧r.2.2=H∧∃(d0 d1 d2 d3:Value),r.2.1=[s,cv k,cv 0,.bool false,cv ks.length,cv (pQ rT ks k),d0,d1,d2,d3])
  (by
   rintro m vs H' ⟨rfl,i,j,d1,d2,d3,GF,hj,rfl,rfl,uj,Cw⟩;by_cases dH:i<j
   ·have h1:((i:Int)<j):=by omega
    have acu:=mid (i:=i) (j:=j) (by omega)
    obtain⟨h,he⟩: ∃h,h=(i+j)/2:=⟨_,rfl⟩;rw[←he] at acu;have hh:h<ks.length:=by omega
    obtain⟨q,_,fq,fN⟩:=hs.idx (MO hh);by_cases hc:ks[h]<k
    ·have hw:IntKind.i64.wrap ((h:Int)+1)=((h+1:Nat):Int):=by rw[jE (by omega)];omega
     refine .inl ⟨_,_,j-(h+1),by omega,?_,rfl,h+1,j,.bool true,cv h,.bool true,by omega,hj,rfl,rfl,λx hx hxi=>?_,Cw⟩
     ·simp -implicitDefEqProofs [-Int.natCast_add,AY,vg,aE,h1,de,SO,aeJ,SP,acu,fq,fN H' rfl,DU,hc,hw,fin]
     ·rcases Nat.lt_or_ge x h with g|g
      ·have:=List.pairwise_iff_getElem.1 ha x h hx hh g
       omega
      ·have:x=h:=by omega
       subst this;exact hc
    ·refine .inl ⟨_,_,h-i,by omega,?_,rfl,i,h,.bool true,cv h,.bool false,by omega,by omega,rfl,rfl,uj,λx hx hxi=>?_⟩
     ·simp -implicitDefEqProofs [-Int.natCast_add,AY,vg,aE,h1,de,SO,aeJ,SP,acu,fq,fN H' rfl,DU,hc,fin]
     ·rcases Nat.lt_or_ge h x with g|g
      ·have:=List.pairwise_iff_getElem.1 ha h x hh hx g
       omega
      ·have:x=h:=by omega
       subst this;omega
   ·have h1: ¬((i:Int)<j):=by omega
    have agx:i=j:=by omega
    subst agx;have hp:pQ rT ks k=i:=zV rT hj (λx hx hxi=>by simpa using uj x hx hxi) (λhx=>by simpa using Cw i hx (Nat.le_refl _))
    refine .inr ⟨(.exit 0,[s,cv k,cv 0,.bool false,cv ks.length,cv i,cv i,.bool false,d2,d3],H'),?_,by simp,rfl,rfl,cv i,.bool false,d2,d3,by rw[hp]⟩
    simp -implicitDefEqProofs [AY,vg,aE,fin])
  (ks.length-0) [s,cv k,cv 0,.bool false,cv ks.length,cv (0:Nat),cv ks.length,undef,undef,undef] H ⟨rfl,0,ks.length,_,_,_,Nat.zero_le _,Nat.le_refl _,rfl,rfl,λx _ h=>by omega,λx h h2=>by omega⟩ (n+2) (by omega)
 obtain⟨e,vs,H'⟩:=r;simp only at e1 e2;obtain⟨rfl,d0,d1,d2,d3,rfl⟩:=e2;subst e1;have WV:=iL;simp only[Int.natCast_zero] at WV;by_cases hp:pQ rT ks k<ks.length
 ·have h1:((pQ rT ks k:Nat):Int)<ks.length:=by omega
  obtain⟨q,_,fq,fN⟩:=hs.idx (MO hp);have hk:De ks k=decide (ks[pQ rT ks k]=k):=by
   unfold De;rw[List.getElem?_eq_getElem hp];simp
  by_cases hc:ks[pQ rT ks k]=k
  ·simp -implicitDefEqProofs [F75,nP,WV,AZ,vh,aE,h1,fq,fN H' rfl,aF,hc,ar,hk]
  ·simp -implicitDefEqProofs [F75,nP,WV,AZ,vh,aE,h1,fq,fN H' rfl,aF,hc,ar,hk,Pt]
 ·have h1: ¬((pQ rT ks k:Nat):Int)<ks.length:=by omega
  have hk:De ks k=false:=by
   unfold De;rw[List.getElem?_eq_none (by omega)];simp
  simp -implicitDefEqProofs [F75,nP,WV,AZ,vh,aE,h1,ar,hk]
end
abbrev aX (l:PL):List Int:=l.map (·.1)
abbrev dw (l:PL):List Int:=l.map (·.2)
def bg (l:PL)(k:Int):Nat:=pQ rT (aX l) k
def ef (l:PL)(k:Int):Bool:=De (aX l) k
def pF (l:PL)(k:Int):Int:=if ef l k then(l.getD (bg l k) (0,0)).2 else 0
def jM (l:PL)(k v:Int):PL:=l.take (bg l k)++(k,v)::l.drop (if ef l k then bg l k+1 else bg l k)
def lz (l:PL)(k:Int):PL:=l.take (bg l k)++l.drop (if ef l k then bg l k+1 else bg l k)
def nE (l:PL)(a:Int):Int×Int×Bool:=if 0≤a∧a<l.length then((l.getD a.toNat (0,0)).1,(l.getD a.toNat (0,0)).2,true) else(0,0,false)
abbrev acv (x:Int×Int×Bool):Value:=.tuple #[cv x.1,cv x.2.1,.bool x.2.2]
theorem mq (l:PL)(k:Int):bg l k≤l.length:=by
 have:=ZG rT (aX l) k
 simpa[bg] using this
theorem jL {l:PL}{k:Int}(h:ef l k=true):bg l k<l.length∧(l.getD (bg l k) (0,0)).1=k:=by
 unfold ef De at h;simp only[decide_eq_true_eq] at h
 change (aX l)[bg l k]? =some k at h
 rw[List.getElem?_map] at h;cases hx:l[bg l k]? with
 |none=>rw[hx] at h;cases h
 |some x=>
  rw[hx] at h;refine⟨(List.getElem?_eq_some_iff.1 hx).1,?_⟩;rw[List.getD_eq_getElem?_getD,hx];simpa using h
structure fm (H:ae) (o:an) (p:Nat) (l:PL):Prop where
 is: ∃sk sv bk bv ty,H.get p=some ⟨[sk,sv],ty,1,false⟩∧Sl H o p sk (iB (aX l)) bk∧Sl H o p sv (iB (dw l)) bv∧bk≠some p∧bv≠some p∧(∀q,bk=some q→bv≠some q)
 own:o p=(p:Int)
 MP:q8 (aX l)
 fits:l.length≤4194304
theorem fm.lt {H:ae}{o:an}{p:Nat}{l:PL}(h:fm H o p l):p<H.length:=by obtain⟨⟨_,_,_,_,_,h,_⟩,_⟩:=h;exact aq h
theorem fm.fr {H H':ae}{o o':an}{p:Nat}{l:PL}{ps:List Int}(h:fm H o p l)(f:Fr H o H' o' ps)(hp:(p:Int) ∉ ps):fm H' o' p l:=by
 have hl:=h.lt;obtain⟨⟨sk,sv,bk,bv,ty,h1,h2,h3,h4⟩,h5,h6,h7⟩:=h;exact⟨⟨sk,sv,bk,bv,ty,by rw[f.same p hl (by rw[h5];exact hp)];exact h1,h2.fr f hp,h3.fr f hp,h4⟩,by rw[f.own p hl];exact h5,h6,h7⟩
section
variable {G:ag} {H:ae} {o:an} {p:Nat} {l:PL} {n:Nat}
theorem re {j:Nat}(h:j<l.length):(iB (dw l))[j]? =some (cv (l.getD j (0,0)).2):=by
 simp[List.getElem?_eq_getElem h]
theorem BR {j:Nat}(h:j<l.length):(iB (aX l))[j]? =some (cv (l.getD j (0,0)).1):=by
 simp[List.getElem?_eq_getElem h]
theorem vz (h:fm H o p l)(k:Int)(hn:4194304<n):run G (n+4) 77 [pv p,cv k] H=some (.tuple #[cv (bg l k),cv (pF l k),.bool (ef l k)],H):=by
 obtain⟨⟨sk,sv,bk,bv,ty,hp,hk,hv,_⟩,_,ha,hf⟩:=h;rw[aay];have hb:=BQ (G:=G) hk ha (by simpa using hf) k hn
 change run G (n+3) _ _ _=some (.tuple #[cv (bg l k),.bool (ef l k)],H) at hb
 cases hc:ef l k with
 |false=>
  rw[hc] at hb;simp -implicitDefEqProofs [F77,bF,ax,ak _ _ _ hp,hb,eN,aS,pF,hc]
 |true=>
  rw[hc] at hb;obtain⟨h1,_⟩:=jL hc;obtain⟨q,_,fq,fN⟩:=hv.idx (re h1);simp -implicitDefEqProofs [-List.getD_eq_getElem?_getD,F77,bF,ax,ak _ _ _ hp,hb,eN,aS,pF,hc,fq,fN H rfl]
theorem HZ (h:fm H o p l)(k:Int)(hn:4194304<n):run G (n+5) 47 [pv p,cv k] H=some (.tuple #[cv (pF l k),.bool (ef l k)],H):=by
 rw[aaN];simp -implicitDefEqProofs [F47,vz h k hn,eN]
theorem SQ (h:fm H o p l):run G (n+1) 53 [pv p] H=some (cv l.length,H):=by
 obtain⟨⟨sk,sv,bk,bv,ty,hp,hk,hv,_⟩,_,ha,hf⟩:=h;rw[ZK];have:=hk.len
 simp only[List.length_map] at this;simp -implicitDefEqProofs [F53,bF,ax,ak _ _ _ hp,this]
theorem wH (h:fm H o p l)(a:Int):run G (n+1) 78 [pv p,cv a] H=some (acv (nE l a),H):=by
 obtain⟨⟨sk,sv,bk,bv,ty,hp,hk,hv,_⟩,_,ha,hf⟩:=h;rw[abA];have hl:=hk.len;simp only[List.length_map] at hl;by_cases h1:a<0
 ·have:nE l a=(0,0,false):=by unfold nE;rw[if_neg (by omega)]
  simp -implicitDefEqProofs [F78,aE,h1,ar,this]
 ·by_cases h2:a≥l.length
  ·have:nE l a=(0,0,false):=by unfold nE;rw[if_neg (by omega)]
   simp -implicitDefEqProofs [F78,aE,h1,ar,this,bF,ax,ak _ _ _ hp,hl,fp,h2]
  ·obtain⟨j,rfl⟩: ∃j:Nat,a=j:=⟨a.toNat,by omega⟩
   have hj:j<l.length:=by omega
   have:nE l j=((l.getD j (0,0)).1,(l.getD j (0,0)).2,true):=by unfold nE;rw[if_pos (by omega),Int.toNat_natCast]
   obtain⟨q1,_,agy,agz⟩:=hk.idx (BR hj);obtain⟨q2,_,agA,agB⟩:=hv.idx (re hj);simp -implicitDefEqProofs [-List.getD_eq_getElem?_getD,F78,aE,h1,ar,this,bF,ax,ak _ _ _ hp,hl,fp,h2,agy,agA,agz H rfl,agB H rfl]
def gN (l:PL)(k:Int):Int×Int×Bool:=nE l (if ef l k then bg l k else(bg l k:Int)-1)
def kM (l:PL)(k:Int):Int×Int×Bool:=nE l (bg l k)
theorem KK (h:fm H o p l)(k:Int)(hn:4194304<n):run G (n+5) 49 [pv p,cv k] H=some (acv (gN l k),H):=by
 rw[abT];have hle:=mq l k;have hf:=h.fits;have hw:IntKind.i64.wrap ((bg l k:Int)-1)=(bg l k:Int)-1:=jE (by omega)
 cases hc:ef l k with
 |false=>
  simp -implicitDefEqProofs [F49,HU,yL,vz h k hn,eN,hc,aS,ki,hw,wH h,gN]
 |true=>
  simp -implicitDefEqProofs [F49,HU,yL,vz h k hn,eN,hc,aS,wH h,gN]
theorem Gk (h:fm H o p l)(k:Int)(hn:4194304<n):run G (n+5) 50 [pv p,cv k] H=some (acv (kM l k),H):=by
 rw[ZJ];simp -implicitDefEqProofs [F50,vz h k hn,eN,wH h,kM]
end
theorem acw {ks:List Int}{k:Int}: ∀{j:Nat} (h:j<ks.length),j<pQ rT ks k→ks[j]<k:=by
 induction ks with
 |nil=>intro j h;simp at h
 |cons a ks ih=>
  intro j h hj;by_cases ha:a<k
  ·have e:pQ rT (a::ks) k=pQ rT ks k+1:=by simp[pQ,List.takeWhile_cons,ha]
   cases j with
   |zero=>exact ha
   |succ j=>exact ih (by simpa using h) (by omega)
  ·have e:pQ rT (a::ks) k=0:=by simp[pQ,List.takeWhile_cons,ha]
   omega
theorem acx {ks:List Int}{k:Int}(h:pQ rT ks k<ks.length):k≤ks[pQ rT ks k]:=by
 induction ks with
 |nil=>simp at h
 |cons a ks ih=>
  by_cases ha:a<k
  ·have e:pQ rT (a::ks) k=pQ rT ks k+1:=by simp[pQ,List.takeWhile_cons,ha]
   simp only[e] at h ⊢;simpa using ih (by simpa using h)
  ·have e:pQ rT (a::ks) k=0:=by simp[pQ,List.takeWhile_cons,ha]
   simp only[e];simpa using Int.not_lt.1 ha
theorem WW {ks:List Int}{k:Int}(ha:q8 ks)(hk:De ks k=false):q8 (ks.take (pQ rT ks k)++k::ks.drop (pQ rT ks k)):=by
 have uj: ∀x∈ks.take (pQ rT ks k),x<k:=by
  intro x hx;obtain⟨j,hj,rfl⟩:=List.getElem_of_mem hx;rw[List.length_take] at hj;rw[List.getElem_take];exact acw (by omega) (by omega)
 have Cw: ∀x∈ks.drop (pQ rT ks k),k<x:=by
  intro x hx;obtain⟨j,hj,rfl⟩:=List.getElem_of_mem hx;rw[List.length_drop] at hj;rw[List.getElem_drop];have hp:pQ rT ks k<ks.length:=by omega
  have h1:=acx hp;have h2:ks[pQ rT ks k]≠k:=by
   intro e;unfold De at hk;rw[List.getElem?_eq_getElem hp,e] at hk;simp at hk
  have h3:k<ks[pQ rT ks k]:=by omega
  cases j with
  |zero=>exact h3
  |succ j=>
   have:=List.pairwise_iff_getElem.1 ha (pQ rT ks k) (pQ rT ks k+(j+1)) hp (by omega) (by omega)
   omega
 refine List.pairwise_append.2 ⟨ha.sublist (List.take_sublist _ _),List.pairwise_cons.2 ⟨Cw,ha.sublist (List.drop_sublist _ _)⟩,λa h b hb=>?_⟩
 rcases List.mem_cons.1 hb with rfl|hb
 ·exact uj a h
 ·have:=uj a h
  have:=Cw b hb
  omega
theorem rU {l:PL}{k v:Int}:aX (jM l k v)=if ef l k then aX l else(aX l).take (bg l k)++k::(aX l).drop (bg l k):=by
 unfold jM;by_cases hc:ef l k=true
 ·obtain⟨h1,h2⟩:=jL hc;rw[hc];simp only[if_true,aX,List.map_append,List.map_take,List.map_cons,List.map_drop];have h3:bg l k<(l.map (·.1)).length:=by simpa using h1
  conv=>rhs;rw[←List.take_append_drop (bg l k) (l.map (·.1)),List.drop_eq_getElem_cons h3]
  congr 2
  rw[List.getD_eq_getElem?_getD,List.getElem?_eq_getElem h1] at h2;simpa using h2.symm
 ·have Nn:ef l k=false:=by simpa using hc
  rw[Nn];simp[aX]
theorem DV {l:PL}{k v:Int}:dw (jM l k v)=if ef l k then(dw l).set (bg l k) v else(dw l).take (bg l k)++v::(dw l).drop (bg l k):=by
 unfold jM;by_cases hc:ef l k=true
 ·obtain⟨h1,h2⟩:=jL hc;rw[hc];simp only[if_true,dw,List.map_append,List.map_take,List.map_cons,List.map_drop];rw[List.set_eq_take_append_cons_drop,if_pos (by simpa using h1)]
 ·have Nn:ef l k=false:=by simpa using hc
  rw[Nn];simp[dw]
theorem rh (l:PL)(k v:Int):(jM l k v).length=if ef l k then l.length else l.length+1:=by
 have h:(aX (jM l k v)).length=(jM l k v).length:=by simp
 rw[←h,rU];have hle:=mq l k;split
 ·simp
 ·simp;omega
theorem BS {l:PL}(h:q8 (aX l))(k v:Int):q8 (aX (jM l k v)):=by
 rw[rU];split
 ·exact h
 ·rename_i hc;exact WW h (by simpa[ef] using hc)
theorem rV {l:PL}{k:Int}:aX (lz l k)=if ef l k then(aX l).take (bg l k)++(aX l).drop (bg l k+1) else aX l:=by
 unfold lz;by_cases hc:ef l k=true
 ·rw[hc];simp[aX]
 ·have Nn:ef l k=false:=by simpa using hc
  rw[Nn];simp[aX]
theorem DW {l:PL}{k:Int}:dw (lz l k)=if ef l k then(dw l).take (bg l k)++(dw l).drop (bg l k+1) else dw l:=by
 unfold lz;by_cases hc:ef l k=true
 ·rw[hc];simp[dw]
 ·have Nn:ef l k=false:=by simpa using hc
  rw[Nn];simp[dw]
theorem BT {l:PL}(h:q8 (aX l))(k:Int):q8 (aX (lz l k)):=by
 rw[rV];split
 ·have:((aX l).take (bg l k)++(aX l).drop (bg l k+1)).Sublist (aX l):=by
   have e:=List.take_append_drop (bg l k) (aX l)
   conv=>rhs;rw[←e]
   exact(List.Sublist.refl _).append (by rw[←List.drop_drop];exact List.drop_sublist _ _)
  exact h.sublist this
 ·exact h
theorem WX:(ks++wV Tryz.prog).contains 76=true:=by rw[Rk];rfl
theorem WY (n:Nat)(args:List Value)(H:ae):run KG (n+1) 76 args H=CN 2 args H:=by
 unfold run;simp only[fW,WX,if_true];simp[EW,wm]
theorem bs1 (k:Int)(H:ae):aw Tryz.prog 52 1 [(0,cv k)] H=some (.slice (some ⟨H.length,0,none⟩) 1 1,H.new ⟨[cv k],2,1,false⟩):=by kernel_rfl
theorem agC (k:Int):bsB Tryz.prog 52 1 [(0,cv k)]=some (λi=>.slice (some ⟨i,0,none⟩) 1 1,⟨[cv k],2,1,false⟩):=by kernel_rfl
section
variable {H:ae} {o:an} {p:Nat} {l:PL} {n:Nat}
theorem Ia (h:fm H o p l)(k v:Int)(hl:l.length<4194304)(hn:4194304<n):
  ∃H' o',run KG (n+4) 46 [pv p,cv k,cv v] H=some (.tuple #[cv (pF l k),.bool (ef l k)],H')∧fm H' o' p (jM l k v)∧Fr H o H' o' [p]:=by
 obtain⟨⟨sk,sv,bk,bv,ty,hp,hk,hv,QC,yb,Je⟩,ho,ha,hf⟩:=h;have En:=aq hp;have hb:=BQ (G:=KG) hk ha (by simpa using hf) k hn
 change run KG (n+3) _ _ _=some (.tuple #[cv (bg l k),.bool (ef l k)],H) at hb
 rw[aah];cases hc:ef l k with
 |true=>
  rw[hc] at hb;obtain⟨h1,h2⟩:=jL hc;obtain⟨q,_,fq,fN⟩:=hv.idx (re h1);obtain⟨q',c,e,WZ,ky,xF⟩:=hv.put (j:=bg l k) (by simpa using h1) (cv v) rfl rfl rfl
  obtain rfl:q=q':=by
   have:=(fq H).symm.trans (WZ H)
   simpa using this
  have hqp:q≠p:=by rintro rfl;exact yb e
  have hqo:o q=p:=(hv.Rh e).2;refine⟨H.put q c,o,?_,⟨⟨sk,sv,bk,bv,ty,by rw[bt hqp.symm];exact hp,?_,?_,QC,yb,Je⟩,ho,BS ha k v,by rw[rh,hc];exact hf⟩,(Fr.refl _ _ _).put λ_=>by simp[hqo]⟩
  ·simp -implicitDefEqProofs [-List.getD_eq_getElem?_getD,F46,bF,ax,ak _ _ _ hp,hb,eN,fq,fN H rfl,ky,pF,hc]
  ·rw[rU,hc];exact hk.mv λq' e'=>⟨cU (by rintro rfl;exact Je _ e' e),rfl⟩
  ·rw[DV,hc];simpa using xF
 |false=>
  rw[hc] at hb;have hle:=mq l k;obtain⟨H1,e1⟩: ∃x,x=H.dy 1:=⟨_,rfl⟩;obtain⟨H2,e2⟩: ∃x,x=H1.new ⟨[cv k],2,1,false⟩:=⟨_,rfl⟩;have l1:H1.length=H.length+1:=by rw[e1,ou]
  have l2:H2.length=H.length+2:=by rw[e2,bh,l1]
  have lk: ∀q,bk=some q→q<H.length:=λq e=>(hk.Rh e).1
  have lv: ∀q,bv=some q→q<H.length:=λq e=>(hv.Rh e).1
  have s1: ∀q,q<H.length→H1[q]? =H[q]? :=λq hq=>by rw[e1,tw hq]
  have s2: ∀q,q<H.length→H2[q]? =H[q]? :=λq hq=>by rw[e2,dh (by omega),s1 q hq]
  have hk2:Sl H2 o p sk (iB (aX l)) bk:=hk.mv λq e=>⟨s2 q (lk q e),rfl⟩
  have jJ:H2.get (H.length+1)=some ⟨[cv k],2,1,false⟩:=by
   have:=az (H:=H1) (c:=⟨[cv k],2,1,false⟩)
   rw[l1, ←e2] at this;exact this
  have i3:=hk2.ins (tE:=2) jJ (λe=>by have:=lk _ e;omega) (i:=bg l k) (by simpa using hle) (by simp;omega)
  obtain⟨H3,e3⟩: ∃x,x=(uO bk H2).new ⟨(iB (aX l)).take (bg l k)++cv k::(iB (aX l)).drop (bg l k),2,1,false⟩:=⟨_,rfl⟩;rw[←e3] at i3;have l3:H3.length=H.length+3:=by rw[e3,bh,kS,l2]
  have s3: ∀q,q<H.length→bk≠some q→H3[q]? =H[q]? :=λq hq hn=>by rw[e3,dh (by rw[kS];omega),tx hn,s2 q hq]
  have h3:H3[H.length]? =some .hole:=by
   rw[e3,dh (by rw[kS];omega),tx (λe=>by have:=lk _ e;omega),e2,dh (by omega),e1];exact rM
  have g3:H3.get (H.length+2)=some ⟨(iB (aX l)).take (bg l k)++cv k::(iB (aX l)).drop (bg l k),2,1,false⟩:=by
   have:=az (H:=uO bk H2) (c:=⟨(iB (aX l)).take (bg l k)++cv k::(iB (aX l)).drop (bg l k),2,1,false⟩)
   rw[kS,l2, ←e3] at this;exact this
  obtain⟨H4,e4⟩: ∃x:ae,x=H3.set H.length (.hZ ⟨[cv v],2,1,false⟩):=⟨_,rfl⟩;have lay:CL (H.length+0) (bsB Tryz.prog 52 1 [(0,cv v)]) H3=some (.slice (some ⟨H.length,0,none⟩) 1 1,H4):=by
   rw[agC,e4];exact yw h3
  have l4:H4.length=H.length+3:=by rw[e4,List.length_set,l3]
  have s4: ∀q,q≠H.length→H4[q]? =H3[q]? :=λq hq=>by rw[e4,hX hq]
  have hv4:Sl H4 o p sv (iB (dw l)) bv:=hv.mv λq e=>by
   have:=lv q e
   exact⟨by rw[s4 q (by omega),s3 q this (λe'=>Je q e' e)],rfl⟩
  have sN:H4.get H.length=some ⟨[cv v],2,1,false⟩:=by rw[e4];exact mg (by omega)
  have i5:=hv4.ins (tE:=2) sN (λe=>by have:=lv _ e;omega) (i:=bg l k) (by simpa using hle) (by simp;omega)
  obtain⟨H5,e5⟩: ∃x,x=(uO bv H4).new ⟨(iB (dw l)).take (bg l k)++cv v::(iB (dw l)).drop (bg l k),2,1,false⟩:=⟨_,rfl⟩;rw[←e5] at i5;have l5:H5.length=H.length+4:=by rw[e5,bh,kS,l4]
  have s5: ∀q,q<H.length+3→bv≠some q→H5[q]? =H4[q]? :=λq hq hn=>by rw[e5,dh (by rw[kS];omega),tx hn]
  have g5:H5.get (H.length+3)=some ⟨(iB (dw l)).take (bg l k)++cv v::(iB (dw l)).drop (bg l k),2,1,false⟩:=by
   have:=az (H:=uO bv H4) (c:=⟨(iB (dw l)).take (bg l k)++cv v::(iB (dw l)).drop (bg l k),2,1,false⟩)
   rw[kS,l4, ←e5] at this;exact this
  have p3:H3[p]? =H[p]? :=s3 p En QC;have p4:H4[p]? =H[p]? :=by rw[s4 p (by omega),p3]
  have p5:H5.get p=some ⟨[sk,sv],ty,1,false⟩:=by rw[cT (s5 p (by omega) yb),cT p4];exact hp
  have P: ∀Hx:ae,Hx[p]? =H[p]? →∀o,au (.pointer (some ⟨p,o,none⟩)) Hx=[sk,sv][o]? :=λHx e o=>ak p o Hx (by rw[cT e];exact hp)
  rw[l2] at i3;rw[l4] at i5;have b1:=bs1 k H1;rw[←e2,l1] at b1;have t6:=zO p 0 (some ⟨H.length+2,0,none⟩) ((iB (aX l)).length+1) ((iB (aX l)).length+1) H5 p5 rfl (by simp)
  have t7:=zO p 1 (some ⟨H.length+3,0,none⟩) ((iB (dw l)).length+1) ((iB (dw l)).length+1) (H5.put p ⟨[.slice (some ⟨H.length+2,0,none⟩) ((iB (aX l)).length+1) ((iB (aX l)).length+1),sv],ty,1,false⟩) (aH p5) rfl (by simp)
  simp only[List.set_cons_zero,List.set_cons_succ] at t6 t7;obtain⟨H7,e7⟩: ∃x,x=(H5.put p ⟨[.slice (some ⟨H.length+2,0,none⟩) ((iB (aX l)).length+1) ((iB (aX l)).length+1),sv],ty,1,false⟩).put p ⟨[.slice (some ⟨H.length+2,0,none⟩) ((iB (aX l)).length+1) ((iB (aX l)).length+1),.slice (some ⟨H.length+3,0,none⟩) ((iB (dw l)).length+1) ((iB (dw l)).length+1)],ty,1,false⟩:=⟨_,rfl⟩;rw[←e7] at t7;have e7':H7=H5.put p ⟨[.slice (some ⟨H.length+2,0,none⟩) ((iB (aX l)).length+1) ((iB (aX l)).length+1),.slice (some ⟨H.length+3,0,none⟩) ((iB (dw l)).length+1) ((iB (dw l)).length+1)],ty,1,false⟩:=by rw[e7];exact yy
  have kk:iB (aX (jM l k v))=(iB (aX l)).take (bg l k)++cv k::(iB (aX l)).drop (bg l k):=by rw[rU,hc];simp[List.map_take,List.map_drop]
  have vv:iB (dw (jM l k v))=(iB (dw l)).take (bg l k)++cv v::(iB (dw l)).drop (bg l k):=by rw[DV,hc];simp[List.map_take,List.map_drop]
  have ck:(iB (aX (jM l k v))).length=(iB (aX l)).length+1:=by simp[rh,hc]
  have cv':(iB (dw (jM l k v))).length=(iB (dw l)).length+1:=by simp[rh,hc]
  refine⟨H7,(o.up (H.length+2) p).up (H.length+3) p,?_,⟨⟨_,_,some (H.length+2),some (H.length+3),ty,by rw[e7'];exact aH p5,?_,?_,by simp;omega,by simp;omega,by simp⟩,by rw[dc (by omega),dc (by omega)];exact ho,BS ha k v,by rw[rh,hc];simp;omega⟩,?_⟩
  ·simp only[List.length_map] at i3 i5 t6 t7;rw[Nat.add_zero] at lay;simp -implicitDefEqProofs [F46,bF,ax,ak _ _ _ hp,hb,eN,iZ, ←e1,P _ (s1 p En),P _ (s2 p En),P _ p3,P _ p4,b1,i3,i5,WY,lay,t6,t7,hk.jd,hv.jd,pF,hc]
  ·refine⟨_,[],2,by rw[ck],?_,by rw[ck];rfl,rfl,by rw[dc (by omega),aQ]⟩
   rw[kk,e7',bt (by omega),cT (s5 _ (by omega) (λe=>by have:=lv _ e;omega)),cT (s4 _ (by omega)),List.append_nil];exact g3
  ·refine⟨_,[],2,by rw[cv'],?_,by rw[cv'];rfl,rfl,aQ⟩
   rw[vv,e7',bt (by omega),List.append_nil];exact g5
  ·refine⟨λq hq hn=>?_,λq hq=>by rw[dc (by omega),dc (by omega)],by rw[e7',iw,l5];omega⟩
   have n1:q≠p:=by rintro rfl;exact hn (by simp[ho])
   have n2:bk≠some q:=λe=>hn (by simp[(hk.Rh e).2])
   have n3:bv≠some q:=λe=>hn (by simp[(hv.Rh e).2])
   rw[e7',cU n1,s5 q (by omega) n3,s4 q (by omega),s3 q hq n2]
theorem xu {G:ag}{s:Value}{cs:List Int}{b:Option Nat}{P:Int}(hs:Sl H o P s (iB cs) b){i:Nat}(hi:i<cs.length)(hl:cs.length≤4194304):
  ∃q c s',b=some q∧run G (n+1) 108 [s,cv i,cv ((i:Int)+1)] H=some (s',H.put q c)∧Sl (H.put q c) o P s' (iB (cs.take i++cs.drop (i+1))) b∧∃m k,s'= .slice (some ⟨q,0,none⟩) m k:=by
 cases b with
 |none=>obtain⟨_,h⟩:=hs;simp at h;subst h;simp at hi
 |some q=>
  obtain⟨cap,rest,ty,rfl,hb,hc,hp,hq⟩:=hs;simp only[List.length_map] at hc;have zh:=aq hb;rw[WI]
  let D:List Value:=iB (cs.take i++cs.drop (i+1))++((iB cs).drop (cs.length-1)++rest)
  have hlen:(cs.take i++cs.drop (i+1)).length=cs.length-1:=by simp;omega
  have hDl:D.length=cap:=by simp[D];omega
  have agD:cd 2 1 8 (.slice (some ⟨q,0,none⟩) i cap) (.slice (some ⟨q,i+1,none⟩) (cs.length-(i+1)) (cap-(i+1))) H=some (.slice (some ⟨q,0,none⟩) (cs.length-1) cap,H.put q ⟨D,ty,1,false⟩):=by
   by_cases hn:cs.length-(i+1)=0
   ·have wZ:i=cs.length-1:=by omega
    have hD:D=iB cs++rest:=by
     have e1:cs.drop (i+1)=[]:=List.drop_eq_nil_of_le (by omega)
     have e2:iB (cs.take i)++(iB cs).drop (cs.length-1)=iB cs:=by
      rw[wZ];simp only[iB,List.map_take];exact List.take_append_drop _ _
     simp only[D,e1,List.append_nil];rw[←List.append_assoc,e2]
    rw[hD,HG hb];simp only[cd,bp,hn,if_true,Option.map_some];rw[if_pos (by omega)]
    simp only[Nat.add_zero,wZ]
   ·have fN:aA H q (i+1) ((cs.length-(i+1))*1)=some ((iB cs).drop (i+1)):=by
     simp only[aA,hb,Nat.mul_one];rw[if_pos (by simp;omega),List.drop_append_of_le_length (by simp;omega),List.take_left' (by simp)]
    have kA:((iB cs).drop (i+1)).all aD=true:=by
     rw[List.all_eq_true];intro x hx;obtain⟨y,_,rfl⟩:=List.mem_map.1 (List.mem_of_mem_drop hx);rfl
    have hdl:((iB cs).drop (i+1)).length=cs.length-(i+1):=by simp
    have Qp:bO (iB cs++rest) i ((iB cs).drop (i+1))=D:=by
     rw[jk _ _ _ (by rw[hdl];simp;omega),hdl]
     simp only[D];rw[List.take_append_of_le_length (by simp;omega),show i+(cs.length-(i+1))=cs.length-1 by omega,List.drop_append_of_le_length (by simp)]
     simp[List.map_take,List.map_drop]
    have ky:bG H q (0+i*1) ((iB cs).drop (i+1))=some (H.put q ⟨D,ty,1,false⟩):=by
     simp only[bG,hb,kA];rw[if_pos (by simp;omega)]
     rw[show 0+i*1=i by omega,Qp]
    simp only[cd,bp,hn,if_false,fN,Option.map_some];rw[if_pos (by omega)]
    simp only[hb,if_true,ky,Option.map_some];rw[show i+(cs.length-(i+1))=cs.length-1 by omega]
  have yb:(H.put q ⟨D,ty,1,false⟩).get q=some ⟨D,ty,1,false⟩:=aH hb
  let E:List Value:=iB (cs.take i++cs.drop (i+1))++(cv 0::rest)
  have agE:bO D (cs.length-1) [cv 0]=E:=by
   rw[jk _ _ _ (by simp only[List.length_singleton,hDl];omega)]
   have e1:D.take (cs.length-1)=iB (cs.take i++cs.drop (i+1)):=by
    simp only[D];exact List.take_left' (by rw[List.length_map,hlen])
   have e2:D.drop (cs.length-1+1)=rest:=by
    have:D=(iB (cs.take i++cs.drop (i+1))++(iB cs).drop (cs.length-1))++rest:=by simp only[D,List.append_assoc]
    rw[this];exact List.drop_left' (by rw[List.length_append,List.length_map,hlen];simp;omega)
   rw[e1,List.length_singleton,e2];simp[E]
  have agF:Zp [cv 0] (.slice (some ⟨q,cs.length-1,none⟩) 1 (cap-(cs.length-1))) (H.put q ⟨D,ty,1,false⟩)=some (undef,H.put q ⟨E,ty,1,false⟩):=by
   have:bG (H.put q ⟨D,ty,1,false⟩) q (cs.length-1) [cv 0]=some (H.put q ⟨E,ty,1,false⟩):=by
    simp only[bG,yb];rw[if_pos (by simp[aD,hDl];omega),agE,yy]
   simp[Zp,ct,this]
  refine⟨q,⟨E,ty,1,false⟩,.slice (some ⟨q,0,none⟩) (cs.length-1) cap,rfl,?_,⟨cap,cv 0::rest,ty,by rw[List.length_map,hlen],aH hb,by rw[List.length_map,hlen];simp;omega,by simpa[cF] using hp,hq⟩,_,_,rfl⟩
  have k1:(i:Int)+1≤(cs.length:Int):=by omega
  have k2:cs.length≤cap:=by omega
  have k3: ¬((i:Int)=(i:Int)+1):=by omega
  have k4:(0:Int)≤(i:Int)+1:=by omega
  have k5:((i:Int)+1).toNat=i+1:=by omega
  have k6:(i:Int)≤cap:=by omega
  have k7:(i:Int)≤(i:Int)+1:=by omega
  have k8:((cs.length-1:Nat):Int)≤(cs.length:Int):=by omega
  have k9:cs.length-(cs.length-1)=1:=by omega
  have KM:i≤cap:=by omega
  simp -implicitDefEqProofs [aeH,Zt,Yb,dD,cK,iV,hb,yb,k1,k2,k3,k4,k5,k6,k7,k8,k9,KM,aF,agD,agF]
theorem BU (l:PL)(k:Int):(lz l k).length≤l.length:=by
 have h:(aX (lz l k)).length=(lz l k).length:=by simp
 rw[←h,rV];have hle:=mq l k;split
 ·simp;omega
 ·simp
theorem SR {G:ag}(h:fm H o p l)(k:Int)(hn:4194304<n):
  ∃H',run G (n+4) 81 [pv p,cv k] H=some (.tuple #[cv (pF l k),.bool (ef l k)],H')∧fm H' o p (lz l k)∧Fr H o H' o [p]:=by
 obtain⟨⟨sk,sv,bk,bv,ty,hp,hk,hv,QC,yb,Je⟩,ho,ha,hf⟩:=h;have En:=aq hp;have hb:=BQ (G:=G) hk ha (by simpa using hf) k hn
 change run G (n+3) _ _ _=some (.tuple #[cv (bg l k),.bool (ef l k)],H) at hb
 rw[aaA];cases hc:ef l k with
 |false=>
  rw[hc] at hb;refine⟨H,?_,⟨⟨sk,sv,bk,bv,ty,hp,?_,?_,QC,yb,Je⟩,ho,BT ha k,Nat.le_trans (BU l k) hf⟩,.refl _ _ _⟩
  ·simp -implicitDefEqProofs [F81,bF,ax,ak _ _ _ hp,hb,eN,aS,pF,hc]
  ·rw[rV,hc];exact hk
  ·rw[DW,hc];exact hv
 |true=>
  rw[hc] at hb;obtain⟨h1,h2⟩:=jL hc;obtain⟨q,_,fq,fN⟩:=hv.idx (re h1);have hw:IntKind.i64.wrap ((bg l k:Int)+1)=(bg l k:Int)+1:=jE (by omega)
  obtain⟨qk,ck,sk',ek,rk,Js,nk,mk,hsk⟩:=xu (G:=G) (n:=n+2) hk (i:=bg l k) (by simpa using h1) (by simpa using hf)
  have nkp:qk≠p:=by rintro rfl;exact QC ek
  have okp:o qk=p:=(hk.Rh ek).2;have Qs:Sl (H.put qk ck) o p sv (iB (dw l)) bv:=hv.mv λq' e'=>⟨cU (by rintro rfl;exact Je _ ek e'),rfl⟩
  obtain⟨qv,cv',sv',ev,rv,yr,nv,mv,hsv⟩:=xu (G:=G) (n:=n+2) Qs (i:=bg l k) (by simpa using h1) (by simpa using hf)
  have nvp:qv≠p:=by rintro rfl;exact yb ev
  have ovp:o qv=p:=(hv.Rh ev).2;have nkv:qk≠qv:=by rintro rfl;exact Je _ ek ev
  have p1:(H.put qk ck).get p=some ⟨[sk,sv],ty,1,false⟩:=by rw[bt nkp.symm];exact hp
  have p2:((H.put qk ck).put qv cv').get p=some ⟨[sk,sv],ty,1,false⟩:=by rw[bt nvp.symm];exact p1
  have t3:=zO p 0 (some ⟨qk,0,none⟩) nk mk _ p2 rfl (by simp)
  have t4:=zO p 1 (some ⟨qv,0,none⟩) nv mv _ (aH (c:=⟨[.slice (some ⟨qk,0,none⟩) nk mk,sv],ty,1,false⟩) p2) rfl (by simp)
  simp only[List.set_cons_zero,List.set_cons_succ,yy] at t3 t4;subst hsk hsv;refine⟨((H.put qk ck).put qv cv').put p ⟨[.slice (some ⟨qk,0,none⟩) nk mk,.slice (some ⟨qv,0,none⟩) nv mv],ty,1,false⟩,?_,
   ⟨⟨_,_,bk,bv,ty,aH p2,?_,?_,QC,yb,Je⟩,ho,BT ha k,Nat.le_trans (BU l k) hf⟩,(((Fr.refl _ _ _).put λ_=>by simp[okp]).put λ_=>by simp[ovp]).put λ_=>by simp[ho]⟩
  ·simp -implicitDefEqProofs [-List.getD_eq_getElem?_getD,F81,bF,ax,ak _ _ _ hp,ak _ _ _ p1,hb,eN,aS,pF,hc,fq,fN H rfl,de,hw,rk,rv,t3,t4,hv.jd]
  ·rw[rV,hc];exact Js.mv λq' e'=>by
    obtain rfl:qk=q':=by rw[ek] at e';exact Option.some.inj e'
    exact⟨by rw[cU nkp,cU nkv],rfl⟩
  ·rw[DW,hc];exact yr.mv λq' e'=>by
    obtain rfl:qv=q':=by rw[ev] at e';exact Option.some.inj e'
    exact⟨by rw[cU nvp],rfl⟩
end
end Go.Proofs.YtjgmnoaalbbonaaGreat.Fun
end
