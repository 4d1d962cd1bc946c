/- Texts of the proof of linearCut_holds, put together by a small program of ours (names shortened, spaces taken out). No condition beyond the given statement. -/
import Derived.Test.YtjgmnoaalbbonaaGreatLCT15
import Derived.Test.YtjgmnoaalbbonaaGreatLCT17
import Derived.Test.YtjgmnoaalbbonaaGreatLCT18
import Derived.Test.YtjgmnoaalbbonaaGreatLCT19
import Derived.Test.YtjgmnoaalbbonaaGreatLCT20
import Derived.Test.YtjgmnoaalbbonaaGreatLCT21
import Derived.Test.YtjgmnoaalbbonaaGreatLCT22
import Derived.Test.YtjgmnoaalbbonaaGreatLCT13
import Derived.Test.YtjgmnoaalbbonaaGreatLCT14
import Derived.Test.YtjgmnoaalbbonaaGreatLCT16
set_option linter.unusedVariables false
set_option linter.unusedSimpArgs false
set_option linter.unnecessarySimpa false
noncomputable section
section
namespace Go.Proofs.YtjgmnoaalbbonaaGreat.Fun
open Go Go.RowKit Go.Proofs.YtjgmnoaalbbonaaGreatA.Am
abbrev rJ:Int→Int→Bool:=λa b=>decide (a<b)
abbrev AJ (ks:List Int):Prop:=ks.Pairwise (· < ·)
abbrev gU (l:List Int):List Value:=l.map cv
def Dv (ks:List Int)(k:Int):Bool:=decide (ks[oa rJ ks k]? =some k)
section
variable {G:ae} {H:aa} {o:aj} {p:Int} {b:Option Nat} {s:Value} {ks:List Int} {n:Nat}
theorem OV (a:Int):run G (n+1) 117 [cv a] H=some (.bool false,H):=by
 rw[Rx];simp -implicitDefEqProofs [aay,gQ]
theorem LD (a:Int):run G (n+1) 102 [cv a] H=some (.bool false,H):=by
 rw[RR];simp -implicitDefEqProofs [aaz,gQ]
theorem Bu (a c:Int):run G (n+2) 101 [cv a,cv c] H=some (.bool (decide (a<c)),H):=by
 rw[Sb];simp -implicitDefEqProofs [aaB,OV,aL,bT,undef]
theorem IK {j:Nat}(h:j<ks.length):(gU ks)[j]? =some (cv ks[j]):=by simp[h]
theorem OW (x:Int)(H:aa):qS .u64 (cv x) H=some (.int .u64 (IntKind.u64.wrap x),H):=rfl
theorem OX (x:Int)(H:aa):qS .i64 (.int .u64 x) H=some (cv (IntKind.i64.wrap x),H):=rfl
theorem aaF (t:TypeId)(a:Int):ai Tryz.prog .shr t (.int .u64 a) (.int .u64 1)=some (.int .u64 (a.fdiv 2)):=rfl
theorem mid {i j:Nat}(h:i+j<4294967296):IntKind.i64.wrap ((IntKind.u64.wrap (IntKind.i64.wrap ((i:Int)+j))).fdiv 2)=((i+j)/2:Nat):=by
 have e1:IntKind.i64.wrap ((i:Int)+j)=(i:Int)+j:=kr (by omega)
 have e2:IntKind.u64.wrap ((i:Int)+j)=(i:Int)+j:=by
  simp only[IntKind.wrap,IntKind.bits,IntKind.signed];simp;omega
 rw[e1,e2,Int.fdiv_eq_ediv_of_nonneg _ (by omega),kr (by omega)]
 omega
theorem zz (hs:Sl H o p s (gU ks) b)(ha:AJ ks)(hl:ks.length≤4194304)(k:Int)(hn:4194304<n):
  run G (n+3) 75 [s,cv k] H=some (.tuple #[cv (oa rJ ks k),.bool (Dv ks k)],H):=by
 rw[WN];have oz:=hs.len;simp only[List.length_map] at oz;obtain⟨r,oT,dX,e1,e2⟩:=qg (step:=GR (run G (n+2)) (n+2))
  (Q:=λm vs H'=>H'=H∧∃(i j:Nat) (d1 d2 d3:Value),i≤j∧j≤ks.length∧m=j-i∧vs=[s,cv k,cv 0,.bool false,cv ks.length,cv i,cv j,d1,d2,d3]∧
   (∀x (h:x<ks.length),x<i→ks[x]<k)∧(∀x (h:x<ks.length),j≤x→k≤ks[x]))
  (R:=λr=>r.1= .exit 0∧r.2.2=H∧∃(d0 d1 d2 d3:Value),r.2.1=[s,cv k,cv 0,.bool false,cv ks.length,cv (oa rJ ks k),d0,d1,d2,d3])
  (by
   rintro m vs H' ⟨rfl,i,j,d1,d2,d3,DN,hj,rfl,rfl,z4,z5⟩;by_cases eR:i<j
   ·have h1:((i:Int)<j):=by omega
    have XO:=mid (i:=i) (j:=j) (by omega)
    obtain⟨h,he⟩: ∃h,h=(i+j)/2:=⟨_,rfl⟩;rw[←he] at XO;have hh:h<ks.length:=by omega
    obtain⟨q,_,qo,iX⟩:=hs.idx (IK hh);by_cases hc:ks[h]<k
    ·have hw:IntKind.i64.wrap ((h:Int)+1)=((h+1:Nat):Int):=by rw[kr (by omega)];omega
     refine .inl ⟨_,_,j-(h+1),by omega,?_,rfl,h+1,j,.bool true,cv h,.bool true,by omega,hj,rfl,rfl,λx hx hxi=>?_,z5⟩
     ·simp -implicitDefEqProofs [-Int.natCast_add,yE,te,bT,h1,gS,OW,aaF,OX,XO,qo,iX H' rfl,Bu,hc,hw,fin]
     ·rcases Nat.lt_or_ge x h with g|g
      ·have:=List.pairwise_iff_getElem.1 ha x h hx hh g
       omega
      ·have:x=h:=by omega
       subst this;exact hc
    ·refine .inl ⟨_,_,h-i,by omega,?_,rfl,i,h,.bool true,cv h,.bool false,by omega,by omega,rfl,rfl,z4,λx hx hxi=>?_⟩
     ·simp -implicitDefEqProofs [-Int.natCast_add,yE,te,bT,h1,gS,OW,aaF,OX,XO,qo,iX H' rfl,Bu,hc,fin]
     ·rcases Nat.lt_or_ge h x with g|g
      ·have:=List.pairwise_iff_getElem.1 ha h x hh hx g
       omega
      ·have:x=h:=by omega
       subst this;omega
   ·have h1: ¬((i:Int)<j):=by omega
    have acv:i=j:=by omega
    subst acv;have hp:oa rJ ks k=i:=GA rJ hj (λx hx hxi=>by simpa using z4 x hx hxi) (λhx=>by simpa using z5 i hx (Nat.le_refl _))
    refine .inr ⟨(.exit 0,[s,cv k,cv 0,.bool false,cv ks.length,cv i,cv i,.bool false,d2,d3],H'),?_,by simp,rfl,rfl,cv i,.bool false,d2,d3,by rw[hp]⟩
    simp -implicitDefEqProofs [yE,te,bT,fin])
  (ks.length-0) [s,cv k,cv 0,.bool false,cv ks.length,cv (0:Nat),cv ks.length,undef,undef,undef] H ⟨rfl,0,ks.length,_,_,_,Nat.zero_le _,Nat.le_refl _,rfl,rfl,λx _ h=>by omega,λx h h2=>by omega⟩ (n+2) (by omega)
 obtain⟨e,vs,H'⟩:=r;simp only at e1 e2;obtain⟨rfl,d0,d1,d2,d3,rfl⟩:=e2;subst e1;have Sn:=oT;simp only[Int.natCast_zero] at Sn;by_cases hp:oa rJ ks k<ks.length
 ·have h1:((oa rJ ks k:Nat):Int)<ks.length:=by omega
  obtain⟨q,_,qo,iX⟩:=hs.idx (IK hp);have hk:Dv ks k=decide (ks[oa rJ ks k]=k):=by
   unfold Dv;rw[List.getElem?_eq_getElem hp];simp
  by_cases hc:ks[oa rJ ks k]=k
  ·simp -implicitDefEqProofs [F75,oz,Sn,yF,tj,bT,h1,qo,iX H' rfl,cW,hc,aL,hk]
  ·simp -implicitDefEqProofs [F75,oz,Sn,yF,tj,bT,h1,qo,iX H' rfl,cW,hc,aL,hk,LD]
 ·have h1: ¬((oa rJ ks k:Nat):Int)<ks.length:=by omega
  have hk:Dv ks k=false:=by
   unfold Dv;rw[List.getElem?_eq_none (by omega)];simp
  simp -implicitDefEqProofs [F75,oz,Sn,yF,tj,bT,h1,aL,hk]
end
abbrev bd (l:PL):List Int:=l.map (·.1)
abbrev di (l:PL):List Int:=l.map (·.2)
def cn (l:PL)(k:Int):Nat:=oa rJ (bd l) k
def gZ (l:PL)(k:Int):Bool:=Dv (bd l) k
def uD (l:PL)(k:Int):Int:=if gZ l k then(l.getD (cn l k) (0,0)).2 else 0
def jS (l:PL)(k v:Int):PL:=l.take (cn l k)++(k,v)::l.drop (if gZ l k then cn l k+1 else cn l k)
def mi (l:PL)(k:Int):PL:=l.take (cn l k)++l.drop (if gZ l k then cn l k+1 else cn l k)
def tx (l:PL)(a:Int):Int×Int×Bool:=if 0≤a∧a<l.length then((l.getD a.toNat (0,0)).1,(l.getD a.toNat (0,0)).2,true) else(0,0,false)
abbrev XP (x:Int×Int×Bool):Value:=.tuple #[cv x.1,cv x.2.1,.bool x.2.2]
theorem tz (l:PL)(k:Int):cn l k≤l.length:=by
 have:=U8 rJ (bd l) k
 simpa[cn] using this
theorem qp {l:PL}{k:Int}(h:gZ l k=true):cn l k<l.length∧(l.getD (cn l k) (0,0)).1=k:=by
 unfold gZ Dv at h;simp only[decide_eq_true_eq] at h
 change (bd l)[cn l k]? =some k at h
 rw[List.getElem?_map] at h;cases hx:l[cn l k]? with
 |none=>rw[hx] at h;cases h
 |some x=>
  rw[hx] at h;refine⟨(List.getElem?_eq_some_iff.1 hx).1,?_⟩;rw[List.getD_eq_getElem?_getD,hx];simpa using h
structure eK (H:aa) (o:aj) (p:Nat) (l:PL):Prop where
 is: ∃sk sv bk bv ty,H.get p=some ⟨[sk,sv],ty,1,false⟩∧Sl H o p sk (gU (bd l)) bk∧Sl H o p sv (gU (di l)) bv∧bk≠some p∧bv≠some p∧(∀q,bk=some q→bv≠some q)
 own:o p=(p:Int)
 TP:AJ (bd l)
 fits:l.length≤4194304
theorem eK.lt {H:aa}{o:aj}{p:Nat}{l:PL}(h:eK H o p l):p<H.length:=by obtain⟨⟨_,_,_,_,_,h,_⟩,_⟩:=h;exact an h
theorem eK.fr {H H':aa}{o o':aj}{p:Nat}{l:PL}{ps:List Int}(h:eK H o p l)(f:Fr H o H' o' ps)(hp:(p:Int) ∉ ps):eK H' o' p l:=by
 have hl:=h.lt;obtain⟨⟨sk,sv,bk,bv,ty,h1,h2,h3,h4⟩,h5,h6,h7⟩:=h;exact⟨⟨sk,sv,bk,bv,ty,by rw[f.same p hl (by rw[h5];exact hp)];exact h1,h2.fr f hp,h3.fr f hp,h4⟩,by rw[f.own p hl];exact h5,h6,h7⟩
section
variable {G:ae} {H:aa} {o:aj} {p:Nat} {l:PL} {n:Nat}
theorem pK {j:Nat}(h:j<l.length):(gU (di l))[j]? =some (cv (l.getD j (0,0)).2):=by
 simp[List.getElem?_eq_getElem h]
theorem zA {j:Nat}(h:j<l.length):(gU (bd l))[j]? =some (cv (l.getD j (0,0)).1):=by
 simp[List.getElem?_eq_getElem h]
theorem tC (h:eK H o p l)(k:Int)(hn:4194304<n):run G (n+4) 77 [pv p,cv k] H=some (.tuple #[cv (cn l k),cv (uD l k),.bool (gZ l k)],H):=by
 obtain⟨⟨sk,sv,bk,bv,ty,hp,hk,hv,_⟩,_,ha,hf⟩:=h;rw[V5];have hb:=zz (G:=G) hk ha (by simpa using hf) k hn
 change run G (n+3) _ _ _=some (.tuple #[cv (cn l k),.bool (gZ l k)],H) at hb
 cases hc:gZ l k with
 |false=>
  rw[hc] at hb;simp -implicitDefEqProofs [F77,cR,aQ,ak _ _ _ hp,hb,iw,da,uD,hc]
 |true=>
  rw[hc] at hb;obtain⟨h1,_⟩:=qp hc;obtain⟨q,_,qo,iX⟩:=hv.idx (pK h1);simp -implicitDefEqProofs [-List.getD_eq_getElem?_getD,F77,cR,aQ,ak _ _ _ hp,hb,iw,da,uD,hc,qo,iX H rfl]
theorem EW (h:eK H o p l)(k:Int)(hn:4194304<n):run G (n+5) 47 [pv p,cv k] H=some (.tuple #[cv (uD l k),.bool (gZ l k)],H):=by
 rw[Wk];simp -implicitDefEqProofs [F47,tC h k hn,iw]
theorem OY (h:eK H o p l):run G (n+1) 53 [pv p] H=some (cv l.length,H):=by
 obtain⟨⟨sk,sv,bk,bv,ty,hp,hk,hv,_⟩,_,ha,hf⟩:=h;rw[Vd];have:=hk.len
 simp only[List.length_map] at this;simp -implicitDefEqProofs [F53,cR,aQ,ak _ _ _ hp,this]
theorem uE (h:eK H o p l)(a:Int):run G (n+1) 78 [pv p,cv a] H=some (XP (tx l a),H):=by
 obtain⟨⟨sk,sv,bk,bv,ty,hp,hk,hv,_⟩,_,ha,hf⟩:=h;rw[W8];have hl:=hk.len;simp only[List.length_map] at hl;by_cases h1:a<0
 ·have:tx l a=(0,0,false):=by unfold tx;rw[if_neg (by omega)]
  simp -implicitDefEqProofs [F78,bT,h1,aL,this]
 ·by_cases h2:a≥l.length
  ·have:tx l a=(0,0,false):=by unfold tx;rw[if_neg (by omega)]
   simp -implicitDefEqProofs [F78,bT,h1,aL,this,cR,aQ,ak _ _ _ hp,hl,qa,h2]
  ·obtain⟨j,rfl⟩: ∃j:Nat,a=j:=⟨a.toNat,by omega⟩
   have hj:j<l.length:=by omega
   have:tx l j=((l.getD j (0,0)).1,(l.getD j (0,0)).2,true):=by unfold tx;rw[if_pos (by omega),Int.toNat_natCast]
   obtain⟨q1,_,acw,acx⟩:=hk.idx (zA hj);obtain⟨q2,_,acy,acz⟩:=hv.idx (pK hj);simp -implicitDefEqProofs [-List.getD_eq_getElem?_getD,F78,bT,h1,aL,this,cR,aQ,ak _ _ _ hp,hl,qa,h2,acw,acy,acx H rfl,acz H rfl]
def nV (l:PL)(k:Int):Int×Int×Bool:=tx l (if gZ l k then cn l k else(cn l k:Int)-1)
def u3 (l:PL)(k:Int):Int×Int×Bool:=tx l (cn l k)
theorem G4 (h:eK H o p l)(k:Int)(hn:4194304<n):run G (n+5) 49 [pv p,cv k] H=some (XP (nV l k),H):=by
 rw[Xj];have hle:=tz l k;have hf:=h.fits;have hw:IntKind.i64.wrap ((cn l k:Int)-1)=(cn l k:Int)-1:=kr (by omega)
 cases hc:gZ l k with
 |false=>
  simp -implicitDefEqProofs [F49,ES,we,tC h k hn,iw,hc,da,qc,hw,uE h,nV]
 |true=>
  simp -implicitDefEqProofs [F49,ES,we,tC h k hn,iw,hc,da,uE h,nV]
theorem Dw (h:eK H o p l)(k:Int)(hn:4194304<n):run G (n+5) 50 [pv p,cv k] H=some (XP (u3 l k),H):=by
 rw[Vc];simp -implicitDefEqProofs [F50,tC h k hn,iw,uE h,u3]
end
theorem XQ {ks:List Int}{k:Int}: ∀{j:Nat} (h:j<ks.length),j<oa rJ ks k→ks[j]<k:=by
 induction ks with
 |nil=>intro j h;simp at h
 |cons a ks ih=>
  intro j h hj;by_cases ha:a<k
  ·have e:oa rJ (a::ks) k=oa rJ ks k+1:=by simp[oa,List.takeWhile_cons,ha]
   cases j with
   |zero=>exact ha
   |succ j=>exact ih (by simpa using h) (by omega)
  ·have e:oa rJ (a::ks) k=0:=by simp[oa,List.takeWhile_cons,ha]
   omega
theorem XR {ks:List Int}{k:Int}(h:oa rJ ks k<ks.length):k≤ks[oa rJ ks k]:=by
 induction ks with
 |nil=>simp at h
 |cons a ks ih=>
  by_cases ha:a<k
  ·have e:oa rJ (a::ks) k=oa rJ ks k+1:=by simp[oa,List.takeWhile_cons,ha]
   simp only[e] at h ⊢;simpa using ih (by simpa using h)
  ·have e:oa rJ (a::ks) k=0:=by simp[oa,List.takeWhile_cons,ha]
   simp only[e];simpa using Int.not_lt.1 ha
theorem So {ks:List Int}{k:Int}(ha:AJ ks)(hk:Dv ks k=false):AJ (ks.take (oa rJ ks k)++k::ks.drop (oa rJ ks k)):=by
 have z4: ∀x∈ks.take (oa rJ ks k),x<k:=by
  intro x hx;obtain⟨j,hj,rfl⟩:=List.getElem_of_mem hx;rw[List.length_take] at hj;rw[List.getElem_take];exact XQ (by omega) (by omega)
 have z5: ∀x∈ks.drop (oa rJ ks k),k<x:=by
  intro x hx;obtain⟨j,hj,rfl⟩:=List.getElem_of_mem hx;rw[List.length_drop] at hj;rw[List.getElem_drop];have hp:oa rJ ks k<ks.length:=by omega
  have h1:=XR hp;have h2:ks[oa rJ ks k]≠k:=by
   intro e;unfold Dv at hk;rw[List.getElem?_eq_getElem hp,e] at hk;simp at hk
  have h3:k<ks[oa rJ ks k]:=by omega
  cases j with
  |zero=>exact h3
  |succ j=>
   have:=List.pairwise_iff_getElem.1 ha (oa rJ ks k) (oa rJ ks k+(j+1)) hp (by omega) (by omega)
   omega
 refine List.pairwise_append.2 ⟨ha.sublist (List.take_sublist _ _),List.pairwise_cons.2 ⟨z5,ha.sublist (List.drop_sublist _ _)⟩,λa h b hb=>?_⟩
 rcases List.mem_cons.1 hb with rfl|hb
 ·exact z4 a h
 ·have:=z4 a h
  have:=z5 b hb
  omega
theorem qt {l:PL}{k v:Int}:bd (jS l k v)=if gZ l k then bd l else(bd l).take (cn l k)++k::(bd l).drop (cn l k):=by
 unfold jS;by_cases hc:gZ l k=true
 ·obtain⟨h1,h2⟩:=qp hc;rw[hc];simp only[if_true,bd,List.map_append,List.map_take,List.map_cons,List.map_drop];have h3:cn l k<(l.map (·.1)).length:=by simpa using h1
  conv=>rhs;rw[←List.take_append_drop (cn l k) (l.map (·.1)),List.drop_eq_getElem_cons h3]
  congr 2
  rw[List.getD_eq_getElem?_getD,List.getElem?_eq_getElem h1] at h2;simpa using h2.symm
 ·have Jb:gZ l k=false:=by simpa using hc
  rw[Jb];simp[bd]
theorem Bv {l:PL}{k v:Int}:di (jS l k v)=if gZ l k then(di l).set (cn l k) v else(di l).take (cn l k)++v::(di l).drop (cn l k):=by
 unfold jS;by_cases hc:gZ l k=true
 ·obtain⟨h1,h2⟩:=qp hc;rw[hc];simp only[if_true,di,List.map_append,List.map_take,List.map_cons,List.map_drop];rw[List.set_eq_take_append_cons_drop,if_pos (by simpa using h1)]
 ·have Jb:gZ l k=false:=by simpa using hc
  rw[Jb];simp[di]
theorem pL (l:PL)(k v:Int):(jS l k v).length=if gZ l k then l.length else l.length+1:=by
 have h:(bd (jS l k v)).length=(jS l k v).length:=by simp
 rw[←h,qt];have hle:=tz l k;split
 ·simp
 ·simp;omega
theorem EX {l:PL}(h:AJ (bd l))(k v:Int):AJ (bd (jS l k v)):=by
 rw[qt];split
 ·exact h
 ·rename_i hc;exact So h (by simpa[gZ] using hc)
theorem qu {l:PL}{k:Int}:bd (mi l k)=if gZ l k then(bd l).take (cn l k)++(bd l).drop (cn l k+1) else bd l:=by
 unfold mi;by_cases hc:gZ l k=true
 ·rw[hc];simp[bd]
 ·have Jb:gZ l k=false:=by simpa using hc
  rw[Jb];simp[bd]
theorem Bw {l:PL}{k:Int}:di (mi l k)=if gZ l k then(di l).take (cn l k)++(di l).drop (cn l k+1) else di l:=by
 unfold mi;by_cases hc:gZ l k=true
 ·rw[hc];simp[di]
 ·have Jb:gZ l k=false:=by simpa using hc
  rw[Jb];simp[di]
theorem EY {l:PL}(h:AJ (bd l))(k:Int):AJ (bd (mi l k)):=by
 rw[qu];split
 ·have:((bd l).take (cn l k)++(bd l).drop (cn l k+1)).Sublist (bd l):=by
   have e:=List.take_append_drop (cn l k) (bd l)
   conv=>rhs;rw[←e]
   exact(List.Sublist.refl _).append (by rw[←List.drop_drop];exact List.drop_sublist _ _)
  exact h.sublist this
 ·exact h
theorem Sp:(ks++uN Tryz.prog).contains 76=true:=by rw[NA];rfl
theorem Sq (n:Nat)(args:List Value)(H:aa):run KG (n+1) 76 args H=An 2 args H:=by
 unfold run;simp only[fh,Sp,if_true];simp[Cp,uj]
theorem bs1 (k:Int)(H:aa):au Tryz.prog 52 1 [(0,cv k)] H=some (.slice (some ⟨H.length,0,none⟩) 1 1,H.new ⟨[cv k],2,1,false⟩):=by kernel_rfl
theorem acA (k:Int):bsB Tryz.prog 52 1 [(0,cv k)]=some (λi=>.slice (some ⟨i,0,none⟩) 1 1,⟨[cv k],2,1,false⟩):=by kernel_rfl
section
variable {H:aa} {o:aj} {p:Nat} {l:PL} {n:Nat}
theorem EZ (h:eK H o p l)(k v:Int)(hl:l.length<4194304)(hn:4194304<n):
  ∃H' o',run KG (n+4) 46 [pv p,cv k,cv v] H=some (.tuple #[cv (uD l k),.bool (gZ l k)],H')∧eK H' o' p (jS l k v)∧Fr H o H' o' [p]:=by
 obtain⟨⟨sk,sv,bk,bv,ty,hp,hk,hv,MS,vz,FW⟩,ho,ha,hf⟩:=h;have BQ:=an hp;have hb:=zz (G:=KG) hk ha (by simpa using hf) k hn
 change run KG (n+3) _ _ _=some (.tuple #[cv (cn l k),.bool (gZ l k)],H) at hb
 rw[VS];cases hc:gZ l k with
 |true=>
  rw[hc] at hb;obtain⟨h1,h2⟩:=qp hc;obtain⟨q,_,qo,iX⟩:=hv.idx (pK h1);obtain⟨q',c,e,Sr,kW,u9⟩:=hv.put (j:=cn l k) (by simpa using h1) (cv v) rfl rfl rfl
  obtain rfl:q=q':=by
   have:=(qo H).symm.trans (Sr H)
   simpa using this
  have hqp:q≠p:=by rintro rfl;exact vz e
  have hqo:o q=p:=(hv.Qb e).2;refine⟨H.put q c,o,?_,⟨⟨sk,sv,bk,bv,ty,by rw[aS hqp.symm];exact hp,?_,?_,MS,vz,FW⟩,ho,EX ha k v,by rw[pL,hc];exact hf⟩,(Fr.refl _ _ _).put λ_=>by simp[hqo]⟩
  ·simp -implicitDefEqProofs [-List.getD_eq_getElem?_getD,F46,cR,aQ,ak _ _ _ hp,hb,iw,qo,iX H rfl,kW,uD,hc]
  ·rw[qt,hc];exact hk.mv λq' e'=>⟨db (by rintro rfl;exact FW _ e' e),rfl⟩
  ·rw[Bv,hc];simpa using u9
 |false=>
  rw[hc] at hb;have hle:=tz l k;obtain⟨H1,e1⟩: ∃x,x=H.dr 1:=⟨_,rfl⟩;obtain⟨H2,e2⟩: ∃x,x=H1.new ⟨[cv k],2,1,false⟩:=⟨_,rfl⟩;have l1:H1.length=H.length+1:=by rw[e1,uo]
  have l2:H2.length=H.length+2:=by rw[e2,aW,l1]
  have lk: ∀q,bk=some q→q<H.length:=λq e=>(hk.Qb e).1
  have lv: ∀q,bv=some q→q<H.length:=λq e=>(hv.Qb e).1
  have s1: ∀q,q<H.length→H1[q]? =H[q]? :=λq hq=>by rw[e1,xx hq]
  have s2: ∀q,q<H.length→H2[q]? =H[q]? :=λq hq=>by rw[e2,dC (by omega),s1 q hq]
  have hk2:Sl H2 o p sk (gU (bd l)) bk:=hk.mv λq e=>⟨s2 q (lk q e),rfl⟩
  have jb:H2.get (H.length+1)=some ⟨[cv k],2,1,false⟩:=by
   have:=ay (H:=H1) (c:=⟨[cv k],2,1,false⟩)
   rw[l1, ←e2] at this;exact this
  have i3:=hk2.ins (tE:=2) jb (λe=>by have:=lk _ e;omega) (i:=cn l k) (by simpa using hle) (by simp;omega)
  obtain⟨H3,e3⟩: ∃x,x=(sR bk H2).new ⟨(gU (bd l)).take (cn l k)++cv k::(gU (bd l)).drop (cn l k),2,1,false⟩:=⟨_,rfl⟩;rw[←e3] at i3;have l3:H3.length=H.length+3:=by rw[e3,aW,jZ,l2]
  have s3: ∀q,q<H.length→bk≠some q→H3[q]? =H[q]? :=λq hq hn=>by rw[e3,dC (by rw[jZ];omega),rG hn,s2 q hq]
  have h3:H3[H.length]? =some .hole:=by
   rw[e3,dC (by rw[jZ];omega),rG (λe=>by have:=lk _ e;omega),e2,dC (by omega),e1];exact um
  have g3:H3.get (H.length+2)=some ⟨(gU (bd l)).take (cn l k)++cv k::(gU (bd l)).drop (cn l k),2,1,false⟩:=by
   have:=ay (H:=sR bk H2) (c:=⟨(gU (bd l)).take (cn l k)++cv k::(gU (bd l)).drop (cn l k),2,1,false⟩)
   rw[jZ,l2, ←e3] at this;exact this
  obtain⟨H4,e4⟩: ∃x:aa,x=H3.set H.length (.jD ⟨[cv v],2,1,false⟩):=⟨_,rfl⟩;have lay:Et (H.length+0) (bsB Tryz.prog 52 1 [(0,cv v)]) H3=some (.slice (some ⟨H.length,0,none⟩) 1 1,H4):=by
   rw[acA,e4];exact Ci h3
  have l4:H4.length=H.length+3:=by rw[e4,List.length_set,l3]
  have s4: ∀q,q≠H.length→H4[q]? =H3[q]? :=λq hq=>by rw[e4,iy hq]
  have hv4:Sl H4 o p sv (gU (di l)) bv:=hv.mv λq e=>by
   have:=lv q e
   exact⟨by rw[s4 q (by omega),s3 q this (λe'=>FW q e' e)],rfl⟩
  have qX:H4.get H.length=some ⟨[cv v],2,1,false⟩:=by rw[e4];exact nL (by omega)
  have i5:=hv4.ins (tE:=2) qX (λe=>by have:=lv _ e;omega) (i:=cn l k) (by simpa using hle) (by simp;omega)
  obtain⟨H5,e5⟩: ∃x,x=(sR bv H4).new ⟨(gU (di l)).take (cn l k)++cv v::(gU (di l)).drop (cn l k),2,1,false⟩:=⟨_,rfl⟩;rw[←e5] at i5;have l5:H5.length=H.length+4:=by rw[e5,aW,jZ,l4]
  have s5: ∀q,q<H.length+3→bv≠some q→H5[q]? =H4[q]? :=λq hq hn=>by rw[e5,dC (by rw[jZ];omega),rG hn]
  have g5:H5.get (H.length+3)=some ⟨(gU (di l)).take (cn l k)++cv v::(gU (di l)).drop (cn l k),2,1,false⟩:=by
   have:=ay (H:=sR bv H4) (c:=⟨(gU (di l)).take (cn l k)++cv v::(gU (di l)).drop (cn l k),2,1,false⟩)
   rw[jZ,l4, ←e5] at this;exact this
  have p3:H3[p]? =H[p]? :=s3 p BQ MS;have p4:H4[p]? =H[p]? :=by rw[s4 p (by omega),p3]
  have p5:H5.get p=some ⟨[sk,sv],ty,1,false⟩:=by rw[cP (s5 p (by omega) vz),cP p4];exact hp
  have P: ∀Hx:aa,Hx[p]? =H[p]? →∀o,aq (.pointer (some ⟨p,o,none⟩)) Hx=[sk,sv][o]? :=λHx e o=>ak p o Hx (by rw[cP e];exact hp)
  rw[l2] at i3;rw[l4] at i5;have b1:=bs1 k H1;rw[←e2,l1] at b1;have t6:=xk p 0 (some ⟨H.length+2,0,none⟩) ((gU (bd l)).length+1) ((gU (bd l)).length+1) H5 p5 rfl (by simp)
  have t7:=xk p 1 (some ⟨H.length+3,0,none⟩) ((gU (di l)).length+1) ((gU (di l)).length+1) (H5.put p ⟨[.slice (some ⟨H.length+2,0,none⟩) ((gU (bd l)).length+1) ((gU (bd l)).length+1),sv],ty,1,false⟩) (aD p5) rfl (by simp)
  simp only[List.set_cons_zero,List.set_cons_succ] at t6 t7;obtain⟨H7,e7⟩: ∃x,x=(H5.put p ⟨[.slice (some ⟨H.length+2,0,none⟩) ((gU (bd l)).length+1) ((gU (bd l)).length+1),sv],ty,1,false⟩).put p ⟨[.slice (some ⟨H.length+2,0,none⟩) ((gU (bd l)).length+1) ((gU (bd l)).length+1),.slice (some ⟨H.length+3,0,none⟩) ((gU (di l)).length+1) ((gU (di l)).length+1)],ty,1,false⟩:=⟨_,rfl⟩;rw[←e7] at t7;have e7':H7=H5.put p ⟨[.slice (some ⟨H.length+2,0,none⟩) ((gU (bd l)).length+1) ((gU (bd l)).length+1),.slice (some ⟨H.length+3,0,none⟩) ((gU (di l)).length+1) ((gU (di l)).length+1)],ty,1,false⟩:=by rw[e7];exact vP
  have kk:gU (bd (jS l k v))=(gU (bd l)).take (cn l k)++cv k::(gU (bd l)).drop (cn l k):=by rw[qt,hc];simp[List.map_take,List.map_drop]
  have vv:gU (di (jS l k v))=(gU (di l)).take (cn l k)++cv v::(gU (di l)).drop (cn l k):=by rw[Bv,hc];simp[List.map_take,List.map_drop]
  have ck:(gU (bd (jS l k v))).length=(gU (bd l)).length+1:=by simp[pL,hc]
  have cv':(gU (di (jS l k v))).length=(gU (di l)).length+1:=by simp[pL,hc]
  refine⟨H7,(o.up (H.length+2) p).up (H.length+3) p,?_,⟨⟨_,_,some (H.length+2),some (H.length+3),ty,by rw[e7'];exact aD p5,?_,?_,by simp;omega,by simp;omega,by simp⟩,by rw[cZ (by omega),cZ (by omega)];exact ho,EX ha k v,by rw[pL,hc];simp;omega⟩,?_⟩
  ·simp only[List.length_map] at i3 i5 t6 t7;rw[Nat.add_zero] at lay;simp -implicitDefEqProofs [F46,cR,aQ,ak _ _ _ hp,hb,iw,pB, ←e1,P _ (s1 p BQ),P _ (s2 p BQ),P _ p3,P _ p4,b1,i3,i5,Sq,lay,t6,t7,hk.jE,hv.jE,uD,hc]
  ·refine⟨_,[],2,by rw[ck],?_,by rw[ck];rfl,rfl,by rw[cZ (by omega),aH]⟩
   rw[kk,e7',aS (by omega),cP (s5 _ (by omega) (λe=>by have:=lv _ e;omega)),cP (s4 _ (by omega)),List.append_nil];exact g3
  ·refine⟨_,[],2,by rw[cv'],?_,by rw[cv'];rfl,rfl,aH⟩
   rw[vv,e7',aS (by omega),List.append_nil];exact g5
  ·refine⟨λq hq hn=>?_,λq hq=>by rw[cZ (by omega),cZ (by omega)],by rw[e7',jd,l5];omega⟩
   have n1:q≠p:=by rintro rfl;exact hn (by simp[ho])
   have n2:bk≠some q:=λe=>hn (by simp[(hk.Qb e).2])
   have n3:bv≠some q:=λe=>hn (by simp[(hv.Qb e).2])
   rw[e7',db n1,s5 q (by omega) n3,s4 q (by omega),s3 q hq n2]
theorem u4 {G:ae}{s:Value}{cs:List Int}{b:Option Nat}{P:Int}(hs:Sl H o P s (gU cs) b){i:Nat}(hi:i<cs.length)(hl:cs.length≤4194304):
  ∃q c s',b=some q∧run G (n+1) 108 [s,cv i,cv ((i:Int)+1)] H=some (s',H.put q c)∧Sl (H.put q c) o P s' (gU (cs.take i++cs.drop (i+1))) b∧∃m k,s'= .slice (some ⟨q,0,none⟩) m k:=by
 cases b with
 |none=>obtain⟨_,h⟩:=hs;simp at h;subst h;simp at hi
 |some q=>
  obtain⟨cap,rest,ty,rfl,hb,hc,hp,hq⟩:=hs;simp only[List.length_map] at hc;have A7:=an hb;rw[Sc]
  let D:List Value:=gU (cs.take i++cs.drop (i+1))++((gU cs).drop (cs.length-1)++rest)
  have hlen:(cs.take i++cs.drop (i+1)).length=cs.length-1:=by simp;omega
  have hDl:D.length=cap:=by simp[D];omega
  have acB:cg 2 1 8 (.slice (some ⟨q,0,none⟩) i cap) (.slice (some ⟨q,i+1,none⟩) (cs.length-(i+1)) (cap-(i+1))) H=some (.slice (some ⟨q,0,none⟩) (cs.length-1) cap,H.put q ⟨D,ty,1,false⟩):=by
   by_cases hn:cs.length-(i+1)=0
   ·have vK:i=cs.length-1:=by omega
    have hD:D=gU cs++rest:=by
     have e1:cs.drop (i+1)=[]:=List.drop_eq_nil_of_le (by omega)
     have e2:gU (cs.take i)++(gU cs).drop (cs.length-1)=gU cs:=by
      rw[vK];simp only[gU,List.map_take];exact List.take_append_drop _ _
     simp only[D,e1,List.append_nil];rw[←List.append_assoc,e2]
    rw[hD,EE hb];simp only[cg,bq,hn,if_true,Option.map_some];rw[if_pos (by omega)]
    simp only[Nat.add_zero,vK]
   ·have iX:aw H q (i+1) ((cs.length-(i+1))*1)=some ((gU cs).drop (i+1)):=by
     simp only[aw,hb,Nat.mul_one];rw[if_pos (by simp;omega),List.drop_append_of_le_length (by simp;omega),List.take_left' (by simp)]
    have jF:((gU cs).drop (i+1)).all av=true:=by
     rw[List.all_eq_true];intro x hx;obtain⟨y,_,rfl⟩:=List.mem_map.1 (List.mem_of_mem_drop hx);rfl
    have hdl:((gU cs).drop (i+1)).length=cs.length-(i+1):=by simp
    have MD:bB (gU cs++rest) i ((gU cs).drop (i+1))=D:=by
     rw[iE _ _ _ (by rw[hdl];simp;omega),hdl]
     simp only[D];rw[List.take_append_of_le_length (by simp;omega),show i+(cs.length-(i+1))=cs.length-1 by omega,List.drop_append_of_le_length (by simp)]
     simp[List.map_take,List.map_drop]
    have kW:bl H q (0+i*1) ((gU cs).drop (i+1))=some (H.put q ⟨D,ty,1,false⟩):=by
     simp only[bl,hb,jF];rw[if_pos (by simp;omega)]
     rw[show 0+i*1=i by omega,MD]
    simp only[cg,bq,hn,if_false,iX,Option.map_some];rw[if_pos (by omega)]
    simp only[hb,if_true,kW,Option.map_some];rw[show i+(cs.length-(i+1))=cs.length-1 by omega]
  have vz:(H.put q ⟨D,ty,1,false⟩).get q=some ⟨D,ty,1,false⟩:=aD hb
  let E:List Value:=gU (cs.take i++cs.drop (i+1))++(cv 0::rest)
  have acC:bB D (cs.length-1) [cv 0]=E:=by
   rw[iE _ _ _ (by simp only[List.length_singleton,hDl];omega)]
   have e1:D.take (cs.length-1)=gU (cs.take i++cs.drop (i+1)):=by
    simp only[D];exact List.take_left' (by rw[List.length_map,hlen])
   have e2:D.drop (cs.length-1+1)=rest:=by
    have:D=(gU (cs.take i++cs.drop (i+1))++(gU cs).drop (cs.length-1))++rest:=by simp only[D,List.append_assoc]
    rw[this];exact List.drop_left' (by rw[List.length_append,List.length_map,hlen];simp;omega)
   rw[e1,List.length_singleton,e2];simp[E]
  have acD:UQ [cv 0] (.slice (some ⟨q,cs.length-1,none⟩) 1 (cap-(cs.length-1))) (H.put q ⟨D,ty,1,false⟩)=some (undef,H.put q ⟨E,ty,1,false⟩):=by
   have:bl (H.put q ⟨D,ty,1,false⟩) q (cs.length-1) [cv 0]=some (H.put q ⟨E,ty,1,false⟩):=by
    simp only[bl,vz];rw[if_pos (by simp[av,hDl];omega),acC,vP]
   simp[UQ,bR,this]
  refine⟨q,⟨E,ty,1,false⟩,.slice (some ⟨q,0,none⟩) (cs.length-1) cap,rfl,?_,⟨cap,cv 0::rest,ty,by rw[List.length_map,hlen],aD hb,by rw[List.length_map,hlen];simp;omega,by simpa[bY] using hp,hq⟩,_,_,rfl⟩
  have k1:(i:Int)+1≤(cs.length:Int):=by omega
  have k2:cs.length≤cap:=by omega
  have k3: ¬((i:Int)=(i:Int)+1):=by omega
  have k4:(0:Int)≤(i:Int)+1:=by omega
  have k5:((i:Int)+1).toNat=i+1:=by omega
  have k6:(i:Int)≤cap:=by omega
  have k7:(i:Int)≤(i:Int)+1:=by omega
  have k8:((cs.length-1:Nat):Int)≤(cs.length:Int):=by omega
  have k9:cs.length-(cs.length-1)=1:=by omega
  have TS:i≤cap:=by omega
  simp -implicitDefEqProofs [aaC,UU,Tz,eo,cV,kZ,hb,vz,k1,k2,k3,k4,k5,k6,k7,k8,k9,TS,cW,acB,acD]
theorem zB (l:PL)(k:Int):(mi l k).length≤l.length:=by
 have h:(bd (mi l k)).length=(mi l k).length:=by simp
 rw[←h,qu];have hle:=tz l k;split
 ·simp;omega
 ·simp
theorem OZ {G:ae}(h:eK H o p l)(k:Int)(hn:4194304<n):
  ∃H',run G (n+4) 81 [pv p,cv k] H=some (.tuple #[cv (uD l k),.bool (gZ l k)],H')∧eK H' o p (mi l k)∧Fr H o H' o [p]:=by
 obtain⟨⟨sk,sv,bk,bv,ty,hp,hk,hv,MS,vz,FW⟩,ho,ha,hf⟩:=h;have BQ:=an hp;have hb:=zz (G:=G) hk ha (by simpa using hf) k hn
 change run G (n+3) _ _ _=some (.tuple #[cv (cn l k),.bool (gZ l k)],H) at hb
 rw[V8];cases hc:gZ l k with
 |false=>
  rw[hc] at hb;refine⟨H,?_,⟨⟨sk,sv,bk,bv,ty,hp,?_,?_,MS,vz,FW⟩,ho,EY ha k,Nat.le_trans (zB l k) hf⟩,.refl _ _ _⟩
  ·simp -implicitDefEqProofs [F81,cR,aQ,ak _ _ _ hp,hb,iw,da,uD,hc]
  ·rw[qu,hc];exact hk
  ·rw[Bw,hc];exact hv
 |true=>
  rw[hc] at hb;obtain⟨h1,h2⟩:=qp hc;obtain⟨q,_,qo,iX⟩:=hv.idx (pK h1);have hw:IntKind.i64.wrap ((cn l k:Int)+1)=(cn l k:Int)+1:=kr (by omega)
  obtain⟨qk,ck,XS,ek,rk,ZW,nk,mk,hsk⟩:=u4 (G:=G) (n:=n+2) hk (i:=cn l k) (by simpa using h1) (by simpa using hf)
  have nkp:qk≠p:=by rintro rfl;exact MS ek
  have okp:o qk=p:=(hk.Qb ek).2;have MH:Sl (H.put qk ck) o p sv (gU (di l)) bv:=hv.mv λq' e'=>⟨db (by rintro rfl;exact FW _ ek e'),rfl⟩
  obtain⟨qv,cv',XT,ev,rv,vM,nv,mv,hsv⟩:=u4 (G:=G) (n:=n+2) MH (i:=cn l k) (by simpa using h1) (by simpa using hf)
  have nvp:qv≠p:=by rintro rfl;exact vz ev
  have ovp:o qv=p:=(hv.Qb ev).2;have nkv:qk≠qv:=by rintro rfl;exact FW _ ek ev
  have p1:(H.put qk ck).get p=some ⟨[sk,sv],ty,1,false⟩:=by rw[aS nkp.symm];exact hp
  have p2:((H.put qk ck).put qv cv').get p=some ⟨[sk,sv],ty,1,false⟩:=by rw[aS nvp.symm];exact p1
  have t3:=xk p 0 (some ⟨qk,0,none⟩) nk mk _ p2 rfl (by simp)
  have t4:=xk p 1 (some ⟨qv,0,none⟩) nv mv _ (aD (c:=⟨[.slice (some ⟨qk,0,none⟩) nk mk,sv],ty,1,false⟩) p2) rfl (by simp)
  simp only[List.set_cons_zero,List.set_cons_succ,vP] at t3 t4;subst hsk hsv;refine⟨((H.put qk ck).put qv cv').put p ⟨[.slice (some ⟨qk,0,none⟩) nk mk,.slice (some ⟨qv,0,none⟩) nv mv],ty,1,false⟩,?_,
   ⟨⟨_,_,bk,bv,ty,aD p2,?_,?_,MS,vz,FW⟩,ho,EY ha k,Nat.le_trans (zB l k) hf⟩,(((Fr.refl _ _ _).put λ_=>by simp[okp]).put λ_=>by simp[ovp]).put λ_=>by simp[ho]⟩
  ·simp -implicitDefEqProofs [-List.getD_eq_getElem?_getD,F81,cR,aQ,ak _ _ _ hp,ak _ _ _ p1,hb,iw,da,uD,hc,qo,iX H rfl,gS,hw,rk,rv,t3,t4,hv.jE]
  ·rw[qu,hc];exact ZW.mv λq' e'=>by
    obtain rfl:qk=q':=by rw[ek] at e';exact Option.some.inj e'
    exact⟨by rw[db nkp,db nkv],rfl⟩
  ·rw[Bw,hc];exact vM.mv λq' e'=>by
    obtain rfl:qv=q':=by rw[ev] at e';exact Option.some.inj e'
    exact⟨by rw[db nvp],rfl⟩
end
end Go.Proofs.YtjgmnoaalbbonaaGreat.Fun
end
