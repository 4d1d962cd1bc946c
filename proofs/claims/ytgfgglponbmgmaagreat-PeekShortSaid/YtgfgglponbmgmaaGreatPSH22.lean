/- Texts of the proof of peekShort_holds, put together by a small program of ours (names shortened, spaces taken out). No condition beyond the given statement. -/
import Derived.Test.YtgfgglponbmgmaaGreatPSH11
import Derived.Test.YtgfgglponbmgmaaGreatPSH12
import Derived.Test.YtgfgglponbmgmaaGreatPSH13
import Derived.Test.YtgfgglponbmgmaaGreatPSH18
import Derived.Test.YtgfgglponbmgmaaGreatPSH14
import Derived.Test.YtgfgglponbmgmaaGreatPSH15
import Derived.Test.YtgfgglponbmgmaaGreatPSH21
import Derived.Test.YtgfgglponbmgmaaGreatPSH16
import Derived.Test.YtgfgglponbmgmaaGreatPSH17
set_option linter.unusedVariables false
set_option linter.unusedSimpArgs false
set_option linter.unnecessarySimpa false
noncomputable section
section
namespace Go.Proofs.YtgfgglponbmgmaaGreat.Fun
open Go Go.RowKit Go.Proofs.YtgfgglponbmgmaaGreatA.Am
set_option maxRecDepth 10000
section
open Go.Proofs.YtgfgglponbmgmaaGreatA
variable {G:ae} {H H':aa} {o o':aj} {p:Nat} {K:aa→aj→Prop} {st LV:Y.St} {α β:Type}
theorem cI (x:Int):IntKind.i64.wrap x=Y.wr x:=by rw[IntKind.wrap_i64];unfold Y.wr;omega
abbrev Is (H:aa)(v:Value):Value→aa→Prop:=λv' H'=>v'=v∧H'=H
theorem Ev.is {k:Nat→Value→aa→Option β}{Q:β→Prop}{C:Nat→ae}{f:Nat}{args:List Value}{v:Value}(h:aE C f args H (Is H v))(hk:Ev (λn=>k n v H) Q):Ev (λn=>af (C n f args H) (k n)) Q:=
 Ev.call h λv' H' hq=>by obtain⟨rfl,rfl⟩:=hq;exact hk
theorem Ik (a:Int):aE (run G) 89 [cv a] H (Is H (.bool (Y.fM a))):=by
 refine Ev.up (t:=λn=>Yr (run G n) n (cv a) H) ?_ λn=>Nj ..
 by_cases h8:a>8
 ·have m:a.tmod 8=a%8:=Int.tmod_eq_emod_of_nonneg (by omega)
  have d:a.tdiv 8=a/8:=Int.tdiv_eq_ediv_of_nonneg (by omega)
  simp -implicitDefEqProofs only[Yr,sS,Nat.reduceAdd];repeat' (first| (refine Ev.ret ⟨?_,rfl⟩;refine congrArg Value.bool ?_;simp[Y.fM];simp only[←m, ←d, ←cI];omega)| ((with_reducible first|refine Ev.gtr (λhq=>?_) (λhq=>?_)|refine Ev.leq (λhq=>?_) (λhq=>?_)|refine Ev.geq (λhq=>?_) (λhq=>?_))<;>try simp -implicitDefEqProofs only[sS,Nat.reduceAdd]))
 ·simp -implicitDefEqProofs only[Yr,sS,Nat.reduceAdd];repeat' (first| (refine Ev.ret ⟨?_,rfl⟩;refine congrArg Value.bool ?_;simp[Y.fM];omega)| (exfalso;omega)| ((with_reducible first|refine Ev.gtr (λhq=>?_) (λhq=>?_)|refine Ev.leq (λhq=>?_) (λhq=>?_)|refine Ev.geq (λhq=>?_) (λhq=>?_))<;>try simp -implicitDefEqProofs only[sS,Nat.reduceAdd]))
theorem gV (a:Int):aE (run G) 57 [cv a] H (Is H (cv (Y.kd a))):=by
 refine Ev.up (t:=λn=>Zt (run G n) n (cv a) H) ?_ λn=>Nd ..
 simp -implicitDefEqProofs only[Zt,sS,Nat.reduceAdd];refine Ev.is (Ik a) ?_;cases hr:Y.fM a<;>simp -implicitDefEqProofs only[sS,Nat.reduceAdd]<;>refine Ev.ret ⟨?_,rfl⟩<;>refine congrArg cv ?_
 ·simp[Y.kd,hr]
 ·have h8:a>8:=by simp[Y.fM] at hr;omega
  have m:a.tmod 8=a%8:=Int.tmod_eq_emod_of_nonneg (by omega)
  simp[Y.kd,hr,m]
theorem nX (a:Int):aE (run G) 83 [cv a] H (Is H (cv (Y.aw a))):=by
 refine Ev.up (t:=λn=>ZA (run G n) n (cv a) H) ?_ λn=>N0 ..
 simp -implicitDefEqProofs only[ZA,sS,Nat.reduceAdd];refine Ev.is (Ik a) ?_;cases hr:Y.fM a<;>simp -implicitDefEqProofs only[sS,Nat.reduceAdd]<;>refine Ev.ret ⟨?_,rfl⟩<;>refine congrArg cv ?_
 ·simp[Y.aw,hr]
 ·have h8:a>8:=by simp[Y.fM] at hr;omega
  have d:a.tdiv 8=a/8:=Int.tdiv_eq_ediv_of_nonneg (by omega)
  simp[Y.aw,hr,d,cI]
theorem nY (k a:Int):aE (run G) 59 [cv k,cv a] H (Is H (cv (Y.fI k a))):=by
 refine Ev.up (t:=λn=>F59 (run G n) n (cv k) (cv a) H) ?_ λn=>U9 ..
 simp -implicitDefEqProofs only[F59,sS,Nat.reduceAdd];repeat' (first| (refine Ev.ret ⟨?_,rfl⟩;refine congrArg cv ?_;simp only[Y.fI];(try rw[cI,cI]);split<;>(try unfold Y.wr)<;>omega)| ((with_reducible first|refine Ev.lss (λhq=>?_) (λhq=>?_)|refine Ev.gtr (λhq=>?_) (λhq=>?_))<;>try simp -implicitDefEqProofs only[sS,Nat.reduceAdd]))
theorem oQ (a:Int):aE (run G) 130 [cv a] H (Is H (.bool (Y.D4 a))):=by
 refine Ev.up (t:=λn=>Nv (run G n) n (cv a) H) ?_ λn=>Hr ..
 simp -implicitDefEqProofs only[Nv,sS,Nat.reduceAdd];repeat' (first| (refine Ev.ret ⟨?_,rfl⟩;refine congrArg Value.bool ?_;simp[Y.D4];omega)| ((with_reducible first|refine Ev.geq (λhq=>?_) (λhq=>?_))<;>try simp -implicitDefEqProofs only[sS,Nat.reduceAdd]))
theorem pB (a i:Int):aE (run G) 142 [cv a,cv i] H (Is H (cv (Y.lC a i))):=by
 refine Ev.up (t:=λn=>NA (run G n) n (cv a) (cv i) H) ?_ λn=>HA ..
 simp -implicitDefEqProofs only[NA,sS,Nat.reduceAdd];refine Ev.is (oQ a) ?_;cases h1:Y.D4 a<;>simp -implicitDefEqProofs only[sS,Nat.reduceAdd]
 ·exact Ev.ret ⟨by simp[Y.lC,h1],rfl⟩
 refine Ev.is (oQ i) ?_;cases h2:Y.D4 i<;>simp -implicitDefEqProofs only[sS,Nat.reduceAdd]
 ·exact Ev.ret ⟨by simp[Y.lC,h1,h2],rfl⟩
 ·refine Ev.ret ⟨congrArg cv ?_,rfl⟩;simp[Y.lC,h1,h2,cI];simp[Y.D4] at h1 h2;unfold Y.wr;omega
theorem kK (a d i:Int):aE (run G) 103 [cv a,cv d,cv i] H (Is H (cv (Y.dh a d i))):=by
 refine Ev.up (t:=λn=>Nu (run G n) n (cv a) (cv d) (cv i) H) ?_ λn=>Hj ..
 simp -implicitDefEqProofs only[Nu,sS,Nat.reduceAdd];refine Ev.is (oQ a) ?_;cases h1:Y.D4 a<;>simp -implicitDefEqProofs only[sS,Nat.reduceAdd]
 ·exact Ev.ret ⟨by simp[Y.dh,h1],rfl⟩
 refine Ev.is (oQ d) ?_;cases h2:Y.D4 d<;>simp -implicitDefEqProofs only[sS,Nat.reduceAdd]
 ·exact Ev.ret ⟨by simp[Y.dh,h1,h2],rfl⟩
 refine Ev.is (oQ i) ?_;cases h3:Y.D4 i<;>simp -implicitDefEqProofs only[sS,Nat.reduceAdd]
 ·exact Ev.ret ⟨by simp[Y.dh,h1,h2,h3],rfl⟩
 ·refine Ev.ret ⟨congrArg cv ?_,rfl⟩;simp[Y.dh,h1,h2,h3,cI];simp[Y.D4] at h1 h2 h3;unfold Y.wr;omega
theorem RK (a:Int):aE (run G) 155 [cv a] H (Is H (cv (Y.Od a))):=by
 refine Ev.up (t:=λn=>Qr (run G n) n (cv a) H) ?_ λn=>Qs ..
 by_cases h0:0≤a
 ·have d:a.tdiv 4=a/4:=Int.tdiv_eq_ediv_of_nonneg h0;simp -implicitDefEqProofs only[Qr,sS,Nat.reduceAdd];repeat' (first| (refine Ev.ret ⟨?_,rfl⟩;refine congrArg cv ?_;simp only[Y.Od];(try rw[d,cI,cI]);split<;>(try simp only[Y.wr])<;>omega)| ((with_reducible first|refine Ev.lss (λhq=>?_) (λhq=>?_)|refine Ev.gtr (λhq=>?_) (λhq=>?_))<;>try simp -implicitDefEqProofs only[sS,Nat.reduceAdd]))
 ·simp -implicitDefEqProofs only[Qr,sS,Nat.reduceAdd];repeat' (first| (refine Ev.ret ⟨?_,rfl⟩;refine congrArg cv ?_;simp only[Y.Od];split<;>omega)| (exfalso;omega)| ((with_reducible first|refine Ev.lss (λhq=>?_) (λhq=>?_)|refine Ev.gtr (λhq=>?_) (λhq=>?_))<;>try simp -implicitDefEqProofs only[sS,Nat.reduceAdd]))
end
section
variable {G:ae} {H H':aa} {o o':aj} {p m:Nat} {K:aa→aj→Prop}
abbrev uv (x:Int):Value:=.int .u64 x
section
variable {α:Type} {k:Nat→Value→aa→Option α} {Q:α→Prop} {t:TypeId} {a b:Int} {P:Program}
theorem Ev.W6 {op:BinOp}(u4:op= .eql∨op= .geq)(h1:Ev (λn=>k n (.bool true) H) Q)(h2:Ev (λn=>k n (.bool false) H) Q):Ev (λn=>af (pS (ai P op t (uv a) (uv b)) H) (k n)) Q:=by
 have: ∃c:Bool,ai P op t (uv a) (uv b)=some (.bool c):=by
  rcases u4 with rfl|rfl
  ·exact⟨_,rfl⟩
  ·exact⟨_,rfl⟩
 obtain⟨c,e⟩:=this;rw[e];cases c with
 |true=>exact h1
 |false=>exact h2
end
theorem uU (t:TypeId)(a b:Int):ai Tryz.prog .sub t (uv a) (uv b)=some (uv (IntKind.u64.wrap (a-b))):=rfl
theorem RL (t:TypeId)(a b:Int):ai Tryz.prog .add t (uv a) (uv b)=some (uv (IntKind.u64.wrap (a+b))):=rfl
theorem RM (x:Int)(H:aa):Ar .u64 (cv x) H=some (uv (IntKind.u64.wrap x),H):=rfl
theorem ZO (a b:Int)(H:aa):Zp (uv a) (uv b) H=some (uv (if b<a then b else a),H):=rfl
theorem ZP (t:TypeId)(a:Int)(b:Nat):ai Tryz.prog .shr t (cv a) (.int .u64 b)=some (cv (a.fdiv (2^min ((b:Int)).toNat 64))):=by
 show qk .shr .i64 a b=_
 simp only[qk];rfl
theorem Tt (a b:Int):aE (run G) 162 [cv a,cv b] H λv H'=>(∃z,v=uv z)∧H'=H:=by
 refine Ev.up (t:=λn=>Nn (run G n) n (cv a) (cv b) H) ?_ λn=>Hg ..
 simp -implicitDefEqProofs only[Nn,sS,Nat.reduceAdd,RM,uU];refine Ev.lss (λh1=>?_) (λh1=>?_)<;>try simp -implicitDefEqProofs only[sS,Nat.reduceAdd,RM,uU]
 ·exact Ev.ret ⟨⟨_,rfl⟩,rfl⟩
 ·exact Ev.ret ⟨⟨_,rfl⟩,rfl⟩
theorem RN (a b c:Int):aE (run G) 161 [uv a,uv b,cv c] H (Cs H):=by
 refine Ev.up (t:=λn=>MX (run G n) n (uv a) (uv b) (cv c) H) ?_ λn=>GS ..
 simp -implicitDefEqProofs only[MX,sS,Nat.reduceAdd];refine Ev.W6 (.inl rfl) ?_ ?_ <;>try simp -implicitDefEqProofs only[sS,Nat.reduceAdd]
 ·exact Ev.ret ⟨⟨_,rfl⟩,rfl⟩
 refine Ev.lss (λh1=>?_) (λh1=>?_)<;>try simp -implicitDefEqProofs only[sS,Nat.reduceAdd]
 ·exact Ev.ret ⟨⟨_,rfl⟩,rfl⟩
 refine Ev.gtr (λh1=>?_) (λh1=>?_)<;>try simp -implicitDefEqProofs only[sS,Nat.reduceAdd,ZO]
 ·exact Ev.ret ⟨⟨_,rfl⟩,rfl⟩
 refine Ev.loop (k:=17) (λk vs Hx=>∃(a b d7 d8:Int) (d24 d33 d49 d54:Value),Hx=H∧k≤17∧vs=[uv a,uv b,cv c,cv 0,.bool false,cv ((k:Int)-1),d24,cv d7,uv d8,d33,d49,d54])
  (λr=>r.1= .exit 0∧r.2.2=H∧∃(a b d7:Int) (d8 d9 d24 d33 d49 d54:Value),r.2.1=[uv a,uv b,cv c,cv 0,.bool false,d9,d24,cv d7,d8,d33,d49,d54]) ⟨_,_,_,_,_,_,_,_,rfl,by omega,rfl⟩ ?_ ?_
 ·rintro k vs Hx ⟨a,b,d7,d8,d24,d33,d49,d54,rfl,hk,rfl⟩;simp -implicitDefEqProofs only[Ay,rQ,sS,Nat.reduceAdd];refine Ev.geq (λhq=>?_) (λhq=>?_)<;>try simp -implicitDefEqProofs only[sS,Nat.reduceAdd,uU]
  ·obtain⟨j,rfl⟩: ∃j,k=j+1:=⟨k-1,by omega⟩
   have eb:((j+1:Nat):Int)-1=(j:Int):=by omega
   have hw:IntKind.i64.wrap ((j:Int)-1)=(j:Int)-1:=fL (by omega)
   have iJ: ∀(d7 d8:Int) (d24 d33 d49 d54:Value),Ev (λn=>ph (run G n) n [uv a,uv b,cv c,cv 0,.bool false,cv ((j+1:Nat)-1),d24,cv d7,uv d8,d33,d49,d54] Hx) λr=>(r.1= .normal∧∃k',k'<j+1∧∃(a b d7 d8:Int) (d24 d33 d49 d54:Value),r.2.2=Hx∧k'≤17∧r.2.1=[uv a,uv b,cv c,cv 0,.bool false,cv ((k':Int)-1),d24,cv d7,uv d8,d33,d49,d54])∨(r.1≠ .normal∧r.1= .exit 0∧r.2.2=Hx∧∃(a b d7:Int) (d8 d9 d24 d33 d49 d54:Value),r.2.1=[uv a,uv b,cv c,cv 0,.bool false,d9,d24,cv d7,d8,d33,d49,d54]):=by
    intro d7 d8 d24 d33 d49 d54;simp -implicitDefEqProofs only[Aw,rN,sS,Nat.reduceAdd,eb,hw];exact Ev.ret (.inl ⟨rfl,j,by omega,_,_,_,_,_,_,_,_,rfl,by omega,rfl⟩)
   have h2: ∀(d7 d8:Int) (d24 d33 d49 d54:Value),Ev (λn=>rP (run G n) n [uv a,uv b,cv c,cv 0,.bool false,cv ((j+1:Nat)-1),d24,cv d7,uv d8,d33,d49,d54] Hx) λr=>(r.1= .normal∧∃k',k'<j+1∧∃(a b d7 d8:Int) (d24 d33 d49 d54:Value),r.2.2=Hx∧k'≤17∧r.2.1=[uv a,uv b,cv c,cv 0,.bool false,cv ((k':Int)-1),d24,cv d7,uv d8,d33,d49,d54])∨(r.1≠ .normal∧r.1= .exit 0∧r.2.2=Hx∧∃(a b d7:Int) (d8 d9 d24 d33 d49 d54:Value),r.2.1=[uv a,uv b,cv c,cv 0,.bool false,d9,d24,cv d7,d8,d33,d49,d54]):=by
    intro d7 d8 d24 d33 d49 d54;simp -implicitDefEqProofs only[Ax,rO,sS,Nat.reduceAdd,eb,Ob j (by omega),ZP,Cp]
    refine Ev.eql (λhq=>?_) (λhq=>?_)<;>try simp -implicitDefEqProofs only[sS,Nat.reduceAdd,uU]
    ·have:=iJ d7 d8 d24 d33 (.bool true) d54
     rw[eb] at this;exact this
    refine Ev.W6 (.inr rfl) ?_ ?_ <;>try simp -implicitDefEqProofs only[sS,Nat.reduceAdd,uU,RL]
    ·have:=iJ (IntKind.i64.wrap (d7+1)) (IntKind.u64.wrap (d8-IntKind.u64.wrap (b-a))) d24 d33 (.bool false) (.bool true)
     rw[eb] at this;exact this
    ·have:=iJ d7 (IntKind.u64.wrap (d8+a)) d24 d33 (.bool false) (.bool false)
     rw[eb] at this;exact this
   refine Ev.W6 (.inr rfl) ?_ ?_ <;>try simp -implicitDefEqProofs only[sS,Nat.reduceAdd,uU,RL]
   ·exact h2 _ _ _ _ _ _
   ·exact h2 _ _ _ _ _ _
  ·exact Ev.ret (.inr ⟨by simp,rfl,rfl,_,_,_,_,_,_,_,_,_,rfl⟩)
 ·rintro e vs Hx ⟨he,rfl,a,b,d7,d8,d9,d24,d33,d49,d54,rfl⟩;simp only at he;subst he;simp -implicitDefEqProofs only[Az,rR,sS,Nat.reduceAdd];exact Ev.ret ⟨⟨_,rfl⟩,rfl⟩
theorem sh (a b c d:Int):aE (run G) 143 [cv a,cv b,cv c,cv d] H (Cs H):=by
 refine Ev.up (t:=λn=>Nx (run G n) n (cv a) (cv b) (cv c) (cv d) H) ?_ λn=>Hw ..
 simp -implicitDefEqProofs only[Nx,sS,Nat.reduceAdd];repeat' (first|exact Ev.ret ⟨⟨_,rfl⟩,rfl⟩| ((with_reducible first|refine Ev.lss (λhq=>?_) (λhq=>?_)|refine Ev.gtr (λhq=>?_) (λhq=>?_)|refine Ev.geq (λhq=>?_) (λhq=>?_))<;>try simp -implicitDefEqProofs only[sS,Nat.reduceAdd]))
 all_goals
  refine Ev.call (Tt _ _) ?_;rintro v H' ⟨⟨z1,rfl⟩,rfl⟩;refine Ev.call (Tt _ _) ?_;rintro v H' ⟨⟨z2,rfl⟩,rfl⟩
  try simp -implicitDefEqProofs only[sS,Nat.reduceAdd]
  refine Ev.ke (RN _ _ _) λz=>?_
  try simp -implicitDefEqProofs only[sS,Nat.reduceAdd]
  exact Ev.ret ⟨⟨_,rfl⟩,rfl⟩
end
section
variable {G:ae} {H H':aa} {o o':aj} {p m:Nat} {K:aa→aj→Prop}
theorem gC (o:aj): ∀n:Nat,∃t:Int,t< -100∧∀i,i<n→t<o i
 |0=>⟨-101,by omega,λi h=>by omega⟩
 |n+1=>by
  obtain⟨t,h1,h2⟩:=gC o n;refine⟨min t (o n)-1,by omega,λi hi=>?_⟩
  rcases Nat.lt_or_ge i n with g|g
  ·have:=h2 i g;omega
  ·have:i=n:=by omega
   subst this;omega
theorem iD {t:Int}{ps:List Int}(f:Fr H o H' o' (t::ps))(h: ∀i,i<H.length→o i≠t):Fr H o H' o' ps:=
 ⟨λi hi hn=>f.slot i hi (by simp only[List.mem_cons,not_or];exact⟨h i hi,hn⟩),f.own,f.size⟩
theorem zP (a:Int)(H:aa):ay Tryz.prog 42 1 [(0,cv a)] H=some (.slice (some ⟨H.length,0,none⟩) 1 1,H.new ⟨[cv a],2,1,false⟩):=by kernel_rfl
theorem RO (a b:Int)(H:aa):ay Tryz.prog 42 2 [(0,cv a),(1,cv b)] H=some (.slice (some ⟨H.length,0,none⟩) 2 2,H.new ⟨[cv a,cv b],2,1,false⟩):=by kernel_rfl
theorem Og (a b c d e:Int)(H:aa):ay Tryz.prog 42 5 [(0,cv a),(1,cv b),(2,cv c),(3,cv d),(4,cv e)] H=some (.slice (some ⟨H.length,0,none⟩) 5 5,H.new ⟨[cv a,cv b,cv c,cv d,cv e],2,1,false⟩):=by kernel_rfl
section
variable {α:Type} {k:Nat→Value→aa→Option α} {Q:α→Prop} {z:Int}
end
end
section
open Go.Proofs.YtgfgglponbmgmaaGreatA
variable {G:ae} {H H':aa} {o o':aj} {p:Nat} {K:aa→aj→Prop} {st LV s1:Y.St} {α β:Type}
section
variable {k:Nat→Value→aa→Option β} {Q:β→Prop} {C:Nat→ae} {f:Nat} {args:List Value}
theorem Ev.Oh {a x y:Int}(h:aE C f args H λv H'=>v= .bool (decide ((Y.ah (Y.cs a x y) st).1=1))∧JX K p (Y.ah (Y.cs a x y) st).2 H')(hk: ∀z s1 H',Y.ah (Y.cs a x y) st=(z,s1)→JX K p s1 H'→Ev (λn=>k n (.bool (decide (z=1))) H') Q):Ev (λn=>af (C n f args H) (k n)) Q:=
 Ev.call h λv H' hq=>by obtain⟨rfl,hj⟩:=hq;exact hk _ _ H' rfl hj
theorem Ev.si {l:List Int}(h:aE C f args H λv H'=>v= .tuple #[cv (Y.ah (Y.mk l) st).1,.bool (decide ((Y.ah (Y.mk l) st).1>0))]∧JX K p (Y.ah (Y.mk l) st).2 H')(hk: ∀z s1 H',Y.ah (Y.mk l) st=(z,s1)→JX K p s1 H'→Ev (λn=>k n (.tuple #[cv z,.bool (decide (z>0))]) H') Q):Ev (λn=>af (C n f args H) (k n)) Q:=
 Ev.call h λv H' hq=>by obtain⟨rfl,hj⟩:=hq;exact hk _ _ H' rfl hj
theorem Ev.RP {l:List Int}(h:aE C f args H λw H'=>Oe K p st l H' w)(hk: ∀w H',Oe K p st l H' w→Ev (λn=>k n w H') Q):Ev (λn=>af (C n f args H) (k n)) Q:=Ev.call h hk
end
theorem Ev.brD {x y:Nat→Option α}{P:Prop}[Decidable P]{Q:α→Prop}(h:P→Ev x Q)(k: ¬P→Ev y Q):Ev (λn=>aV (.bool (decide P)) (x n) (y n)) Q:=
 Ev.br (λe=>h (of_decide_eq_true e)) λe=>k (of_decide_eq_false e)
theorem Ev.brN {x y:Nat→Option α}{P:Prop}[Decidable P]{Q:α→Prop}(h: ¬P→Ev x Q)(k:P→Ev y Q):Ev (λn=>aV (.bool (!decide P)) (x n) (y n)) Q:=
 Ev.br (λe=>h (by simpa using e)) λe=>k (by simpa using e)
theorem oP.of {t:Y.Tr Int}{z:Int}(hj:JX K p s1 H')(e:Y.ah t st=(z,s1)):oP K p st t (cv z) H':=by unfold oP;rw[e];exact⟨rfl,hj⟩
theorem Of.of {t:Y.Tr α}{z:α}{v:Value}(hj:JX K p s1 H')(e:Y.ah t st=(z,s1)):Of K p st t v H':=by unfold Of;rw[e];exact hj
theorem jH.of {t:Y.Tr Bool}{z:Bool}(hj:JX K p s1 H')(e:Y.ah t st=(z,s1)):jH K p st t (.bool z) H':=by unfold jH;rw[e];exact⟨rfl,hj⟩
theorem iw.of {t:Y.Tr (Int×Bool)}{z:Int}{b:Bool}(hj:JX K p s1 H')(e:Y.ah t st=((z,b),s1)):iw K p st t (.tuple #[cv z,.bool b]) H':=by unfold iw;rw[e];exact⟨rfl,hj⟩
theorem jW.of {t:Y.Tr (Int×Int)}{z b:Int}(hj:JX K p s1 H')(e:Y.ah t st=((z,b),s1)):jW K p st t (.tuple #[cv z,cv b]) H':=by unfold jW;rw[e];exact⟨rfl,hj⟩
theorem bk (a:α)(s:Y.St):Y.ah (pure a) s=(a,s):=rfl
theorem bH (a:α)(s:Y.St):Y.ah (Y.Tr.ret a) s=(a,s):=rfl
theorem bL (s:Y.St):Y.ah Y.gT s=(s.off,s):=rfl
theorem cR (r:Int)(t:Y.Tr α)(s:Y.St):Y.ah (Y.Tr.rc r t) s=Y.ah t {s with oL:=r}:=rfl
theorem cS (t:Y.Tr α)(s:Y.St):Y.ah (Y.Tr.ld t) s=Y.ah t {s with laid:=if s.oL>0 then s.oL else s.laid}:=rfl
theorem D9 (h:JX K p st H)(a b c d:Int):aE (run G) 58 [cv a,cv b,cv c,cv d] H λw H'=>Oe K p st (Y.fj a b c d) H' w:=by
 refine Ev.up (t:=λn=>Zy (run G n) n (cv a) (cv b) (cv c) (cv d) H) ?_ λn=>NH ..
 simp -implicitDefEqProofs only[Zy,Og,sS,Nat.reduceAdd];exact Ev.ret (h.words [a,b,c,d,0] _)
theorem yL (h:JX K p st H)(a b c:Int):aE (run G) 153 [cv a,cv b,cv c] H λw H'=>Oe K p st (Y.jg a b c) H' w:=by
 refine Ev.up (t:=λn=>V1 (run G n) n (cv a) (cv b) (cv c) H) ?_ λn=>QX ..
 simp -implicitDefEqProofs only[V1,Og,sS,Nat.reduceAdd];exact Ev.ret (h.words [a,b,c,0,0] _)
theorem sj (h:JX K p st H):aE (run G) 36 [] H λw H'=>Oe K p st [0] H' w:=by
 refine Ev.up (t:=λn=>Zz (run G n) n H) ?_ λn=>NS ..
 simp -implicitDefEqProofs only[Zz,zP,sS,Nat.reduceAdd];exact Ev.ret (h.words [0] _)
theorem uc (h:JX K p st H)(a b:Int):aE (run G) 147 [cv a,cv b] H λw H'=>Oe K p st [a,b] H' w:=by
 refine Ev.up (t:=λn=>NP (run G n) n (cv a) (cv b) H) ?_ λn=>HO ..
 simp -implicitDefEqProofs only[NP,RO,sS,Nat.reduceAdd];exact Ev.ret (h.words [a,b] _)
theorem LW (w:Int){j:Int}(h:0≤j∧j≤8):IntKind.i64.wrap (Y.aw w+j)=Y.aw w+j:=by
 rw[cI];have: -9223372036854775808≤Y.aw w∧Y.aw w≤65536:=by
  unfold Y.aw;split
  ·next hr=>simp[Y.fM] at hr;unfold Y.wr at *;omega
  ·omega
 unfold Y.wr;omega
theorem Oi (h:JX K p st H)(a:Int):aE (run G) 113 [pv p,cv a] H (oP K p st (Y.sd a)):=by
 refine Ev.up (t:=λn=>NJ (run G n) n (pv p) (cv a) H) ?_ λn=>HH ..
 simp -implicitDefEqProofs only[NJ,sS,Nat.reduceAdd];repeat' (first| (refine Ev.ret (oP.of ‹_› ?_);simp only[Y.sd,Y.ak,bk,bH,bL,cR,cS,ne_eq,not_true_eq_false,not_false_eq_true,if_true,if_false,Bool.not_true,Bool.not_false,true_and,and_true,false_and,and_false,true_or,or_true,false_or,or_false,Bool.false_eq_true,decide_true,decide_false, *])| (simp only[LW _ (j:=4) (by omega),LW _ (j:=3) (by omega),LW _ (j:=2) (by omega)];((with_reducible first|refine Ev.eql (λhq=>?_) (λhq=>?_)|refine Ev.neq (λhq=>?_) (λhq=>?_)|refine Ev.is (gV _) ?_ |refine Ev.is (nX _) ?_ |refine Ev.eS (cX ‹_› _) λz s1 Hz ez hj=>?_)<;>try simp -implicitDefEqProofs only[sS,Nat.reduceAdd]))| ((with_reducible first|refine Ev.eql (λhq=>?_) (λhq=>?_)|refine Ev.neq (λhq=>?_) (λhq=>?_)|refine Ev.is (gV _) ?_ |refine Ev.is (nX _) ?_ |refine Ev.eS (cX ‹_› _) λz s1 Hz ez hj=>?_)<;>try simp -implicitDefEqProofs only[sS,Nat.reduceAdd]))
theorem Oj (h:JX K p st H){a:Int}(ha: -9223372036854775808≤a∧a≤65536):aE (run G) 114 [pv p,cv a] H (Of K p st (Y.yI a)):=by
 have w4: ∀{j:Int},0≤j∧j≤8→IntKind.i64.wrap (a+j)=a+j:=λhj=>by rw[fL (by omega)]
 refine Ev.up (t:=λn=>Wd (run G n) n (pv p) (cv a) H) ?_ λn=>Q3 ..
 simp -implicitDefEqProofs only[Wd,Kg,xM,Kh,xN,sS,Nat.reduceAdd];repeat' (first| (refine Ev.ret (Of.of (z:=()) ‹_› ?_);simp only[Y.yI,Y.ak,bk,bH,bL,cR,cS,ne_eq,not_true_eq_false,not_false_eq_true,if_true,if_false,Bool.not_true,Bool.not_false,true_and,and_true,false_and,and_false,true_or,or_true,false_or,or_false,Bool.false_eq_true,decide_true,decide_false, *])| (simp only[w4 (j:=4) (by omega),w4 (j:=3) (by omega),w4 (j:=2) (by omega),w4 (j:=1) (by omega)];((with_reducible first|refine Ev.eql (λhq=>?_) (λhq=>?_)|refine Ev.neq (λhq=>?_) (λhq=>?_)|refine Ev.is (nY _ _) ?_ |refine Ev.eS (cX ‹_› _) λz s1 Hz ez hj=>?_ |refine Ev.Oh (D8 ‹_› _ _ _) λz s1 Hz ez hj=>?_)<;>try simp -implicitDefEqProofs only[sS,Nat.reduceAdd]))| ((with_reducible first|refine Ev.eql (λhq=>?_) (λhq=>?_)|refine Ev.neq (λhq=>?_) (λhq=>?_)|refine Ev.is (nY _ _) ?_ |refine Ev.eS (cX ‹_› _) λz s1 Hz ez hj=>?_ |refine Ev.Oh (D8 ‹_› _ _ _) λz s1 Hz ez hj=>?_)<;>try simp -implicitDefEqProofs only[sS,Nat.reduceAdd]))
theorem nM (w:Int): -9223372036854775808≤Y.aw w∧Y.aw w≤65536:=by
 unfold Y.aw;split
 ·next hr=>simp[Y.fM] at hr;unfold Y.wr at *;omega
 ·omega
theorem dj {a z:Int}{s s':Y.St}(e:Y.ah (Y.rd a) s=(z,s')):s'.left=s.left-1:=by
 have h:=Y.tz (.rd a) s;have e2:(Y.oM (.rd a) s).2=s':=congrArg Prod.snd e;rw[e2] at h;exact h
theorem dk {t:Y.Tr α}{z:α}{s s':Y.St}(e:Y.ah t s=(z,s')):s'.left≤s.left:=by
 have h:=Y.D3 t s;rw[e] at h;exact h
theorem iE {s:Y.St}(h:s.off=false):1≤s.left:=by unfold Y.St.left;rw[h];simp
theorem K6 {a w:Int}{f:Nat}{s:Y.St}(h:s.off=true∨Y.kd w≠5):Y.ah (Y.se a f w) s=(w,s):=by
 cases f with
 |zero=>rfl
 |succ f=>
  show Y.ah (if(!s.off)=true∧Y.kd w=5 then _ else pure w) s=_
  rw[if_neg (by rcases h with h|h<;>simp[h])];rfl
theorem Ok {a w:Int}{f:Nat}{s:Y.St}(h:s.off=false)(k:Y.kd w=5):Y.ah (Y.se a (f+1) w) s=Y.ah (Y.yI (Y.aw w) >>= λ_=>Y.rd a >>= λw'=>Y.se a f w') s:=by
 show Y.ah (if(!s.off)=true∧Y.kd w=5 then _ else pure w) s=_
 rw[if_pos (by simp[h,k])]
theorem FV (h:JX K p st H){f:Nat}(hf:st.left≤f+1)(a:Int):aE (run G) 115 [pv p,cv a] H (oP K p st (Y.kr f a)):=by
 refine Ev.up (t:=λn=>UZ (run G n) n (pv p) (cv a) H) ?_ λn=>Qk ..
 simp -implicitDefEqProofs only[UZ,sS,Nat.reduceAdd];refine Ev.eS (cX h a) λz0 s0 H0 e0 W7=>?_
 have l0:=dj e0;have E0:Y.ah (Y.kr f a) st=Y.ah (Y.se a f z0) s0:=by simp only[Y.kr,Y.ak,bk,bH,bL,cR,cS,ne_eq,not_true_eq_false,not_false_eq_true,if_true,if_false,Bool.not_true,Bool.not_false,true_and,and_true,false_and,and_false,true_or,or_true,false_or,or_false,Bool.false_eq_true,decide_true,decide_false,e0]
 refine Ev.loop (k:=s0.left) (λk vs Hx=>∃(z:Int) (d:Value) (sx:Y.St) (fx:Nat),vs=[pv p,cv a,cv 0,cv z,d]∧JX K p sx Hx∧k=sx.left∧sx.left≤fx∧Y.ah (Y.kr f a) st=Y.ah (Y.se a fx z) sx)
  (λr=>r.1= .exit 0∧∃(z:Int) (d:Value) (sx:Y.St),r.2.1=[pv p,cv a,cv 0,cv z,d]∧JX K p sx r.2.2∧Y.ah (Y.kr f a) st=(z,sx)) ⟨z0,_,s0,f,rfl,W7,rfl,by omega,E0⟩ ?_ ?_
 ·rintro k vs Hx ⟨z,d,sx,fx,rfl,hj,rfl,W8,E⟩;simp -implicitDefEqProofs only[Jk,wK,sS,Nat.reduceAdd];have out:(sx.off=true∨Y.kd z≠5)→Y.ah (Y.kr f a) st=(z,sx):=λhn=>by rw[E];exact K6 hn
  refine Ev.nW hj (λhq=>?_) (λhq=>?_)<;>try simp -implicitDefEqProofs only[sS,Nat.reduceAdd]
  ·exact Ev.ret (.inr ⟨by simp,rfl,z,_,sx,rfl,hj,out (.inl hq)⟩)
  refine Ev.is (gV _) ?_
  try simp -implicitDefEqProofs only[sS,Nat.reduceAdd]
  refine Ev.eql (λhk=>?_) (λhk=>?_)<;>try simp -implicitDefEqProofs only[sS,Nat.reduceAdd]
  ·refine Ev.is (nX _) ?_;refine Ev.Yu (Oj hj (nM _)) λv u s1 H1 e1 fv=>?_
   try simp -implicitDefEqProofs only[sS,Nat.reduceAdd]
   refine Ev.eS (cX fv a) λz2 s2 H2 e2 fH=>?_
   try simp -implicitDefEqProofs only[sS,Nat.reduceAdd]
   have l1:=dk e1;have l2:=dj e2;have l3:=iE hq;obtain⟨fy,rfl⟩: ∃fy,fx=fy+1:=⟨fx-1,by omega⟩
   refine Ev.ret (.inl ⟨rfl,s2.left,by omega,z2,_,s2,fy,rfl,fH,rfl,by omega,?_⟩)
   rw[E,Ok hq hk];simp only[Y.ak,bk,bH,bL,cR,cS,ne_eq,not_true_eq_false,not_false_eq_true,if_true,if_false,Bool.not_true,Bool.not_false,true_and,and_true,false_and,and_false,true_or,or_true,false_or,or_false,Bool.false_eq_true,decide_true,decide_false,e1,e2]
  ·exact Ev.ret (.inr ⟨by simp,rfl,z,_,sx,rfl,hj,out (.inr hk)⟩)
 ·rintro e vs H1 ⟨rfl,z,d,sx,rfl,hj,E⟩;simp -implicitDefEqProofs only[Jl,wL,sS,Nat.reduceAdd];exact Ev.ret (oP.of hj E)
theorem JX.acm (h:JX K p st H)(z:Int): ∃H',bD 1 (.pointer (some ⟨p,8,none⟩)) (cv z) H=some (undef,H')∧JX K p {st with oL:=z} H':=by
 obtain⟨hK,o,⟨tape,w,T,W,i,nk,na,nx,ny,ty,g,ho,ht,hT,hw,hr⟩,hk⟩:=h;have S:=gR p 8 z H g rfl (by simp)
 simp only[List.set_cons_succ,List.set_cons_zero] at S;have f2:Fr H o (H.put p ⟨[tape,cv i,.bool st.off,cv nk,cv na,cv nx,cv ny,w,cv z,cv st.laid],ty,1,false⟩) o [(p:Int)]:=(Fr.refl H o _).put λ_=>by simp[ho]
 exact⟨_,S,hK,o,⟨tape,w,T,W,i,nk,na,nx,ny,ty,aG g,ho,ht.fr f2 (by simp),hT,hw.fr f2 (by simp),hr⟩,hK _ _ _ _ hk f2⟩
theorem JX.acn (h:JX K p st H)(z:Int): ∃H',bD 1 (.pointer (some ⟨p,9,none⟩)) (cv z) H=some (undef,H')∧JX K p {st with laid:=z} H':=by
 obtain⟨hK,o,⟨tape,w,T,W,i,nk,na,nx,ny,ty,g,ho,ht,hT,hw,hr⟩,hk⟩:=h;have S:=gR p 9 z H g rfl (by simp)
 simp only[List.set_cons_succ,List.set_cons_zero] at S;have f2:Fr H o (H.put p ⟨[tape,cv i,.bool st.off,cv nk,cv na,cv nx,cv ny,w,cv st.oL,cv z],ty,1,false⟩) o [(p:Int)]:=(Fr.refl H o _).put λ_=>by simp[ho]
 exact⟨_,S,hK,o,⟨tape,w,T,W,i,nk,na,nx,ny,ty,aG g,ho,ht.fr f2 (by simp),hT,hw.fr f2 (by simp),hr⟩,hK _ _ _ _ hk f2⟩
theorem JX.aco (h:JX K p st H):aq (.pointer (some ⟨p,8,none⟩)) H=some (cv st.oL):=by
 obtain⟨hK,o,⟨tape,w,T,W,i,nk,na,nx,ny,ty,g,_⟩,_⟩:=h;exact ao p 8 H g
section
variable {k:Nat→Value→aa→Option β} {Q:β→Prop}
theorem Ev.Tu {z:Int}(h:JX K p st H)(hk: ∀H',JX K p {st with oL:=z} H'→Ev (λn=>k n undef H') Q):Ev (λn=>af (bD 1 (.pointer (some ⟨p,8,none⟩)) (cv z) H) (k n)) Q:=by
 obtain⟨H',e,hj⟩:=h.acm z;rw[e];exact hk H' hj
theorem Ev.ZQ {z:Int}(h:JX K p st H)(hk: ∀H',JX K p {st with laid:=z} H'→Ev (λn=>k n undef H') Q):Ev (λn=>af (bD 1 (.pointer (some ⟨p,9,none⟩)) (cv z) H) (k n)) Q:=by
 obtain⟨H',e,hj⟩:=h.acn z;rw[e];exact hk H' hj
theorem Ev.Tv (h:JX K p st H)(hk:Ev (λn=>k n (cv st.oL) H) Q):Ev (λn=>af (pS (aq (.pointer (some ⟨p,8,none⟩)) H) H) (k n)) Q:=by
 rw[h.aco];exact hk
end
theorem Cy (h:JX K p st H)(a b c d:Int):aE (run G) 116 [pv p,cv a,cv b,cv c,cv d] H (oP K p st (Y.sg a b c d)):=by
 refine Ev.up (t:=λn=>Wo (run G n) n (pv p) (cv a) (cv b) (cv c) (cv d) H) ?_ λn=>Rc ..
 simp -implicitDefEqProofs only[Wo,Kq,xZ,sS,Nat.reduceAdd];repeat' (first| (refine Ev.ret (oP.of ‹_› ?_);(try simp only[cI] at *);simp only[Y.sg,Y.ak,bk,bH,bL,cR,cS,ne_eq,not_true_eq_false,not_false_eq_true,if_true,if_false,Bool.not_true,Bool.not_false,true_and,and_true,false_and,and_false,true_or,or_true,false_or,or_false,Bool.false_eq_true,decide_true,decide_false, *];done)| ((with_reducible first|refine Ev.eql (λhq=>?_) (λhq=>?_)|refine Ev.neq (λhq=>?_) (λhq=>?_)|refine Ev.is (nY _ _) ?_ |refine Ev.eS (cX ‹_› _) λz s1 Hz ez hj=>?_ |refine Ev.Oh (D8 ‹_› _ _ _) λz s1 Hz ez hj=>?_ |refine Ev.si (nu ‹_›) λz s1 Hz ez hj=>?_ |refine Ev.RP (D9 ‹_› _ _ _ _) λw Hz hj=>?_ |refine Ev.Tu ‹_› λHz hj=>?_ |refine Ev.brN (λhq=>?_) (λhq=>?_))<;>try simp -implicitDefEqProofs only[sS,Nat.reduceAdd]))
end
end Go.Proofs.YtgfgglponbmgmaaGreat.Fun
end
section
namespace Go.Proofs.YtgfgglponbmgmaaGreatA.Y
structure Mm where
 cs:List Int
 max:Nat
def Mm.used (m:Mm)(a:Int):Prop:=1≤a∧a≤m.cs.length
instance (m:Mm) (a:Int):Decidable (m.used a):=by unfold Mm.used;infer_instance
def Mm.at (m:Mm)(a:Int):Int:=if m.used a then m.cs.getD (a-1).toNat 0 else 0
def Mm.set (m:Mm)(a x:Int):Mm:=if m.used a then⟨m.cs.set (a-1).toNat x,m.max⟩ else m
def eB (m:Mm):Ask→Int×Mm
 | .rd a=>(m.at a,m)
 | .wr a x=>(0,m.set a x)
 | .cs a o x=>if m.used a∧m.at a=o then(1,m.set a x) else(0,m)
 | .ad a d=>if m.used a then(m.at a,m.set a (wr (m.at a+d))) else(0,m)
 | .mk w=>if w=[]∨w.length+m.cs.length>m.max then(0,m) else(m.cs.length+1,⟨m.cs++w,m.max⟩)
@[simp] theorem vF (m:Mm)(a x:Int):(m.set a x).cs.length=m.cs.length:=by
 unfold Mm.set;split<;>simp
@[simp] theorem Il (m:Mm)(a x:Int):(m.set a x).max=m.max:=by
 unfold Mm.set;split<;>simp
theorem yM (m:Mm)(a x b:Int):(m.set a x).used b↔m.used b:=by simp[Mm.used]
theorem gD {m:Mm}{a x:Int}(h:m.used a):(m.set a x).at a=x:=by
 have h':=(yM m a x a).2 h;unfold Mm.at;rw[if_pos h'];unfold Mm.set;rw[if_pos h];unfold Mm.used at h;simp only[List.getD_eq_getElem?_getD];rw[List.getElem?_set_self (by omega)];rfl
theorem aH {m:Mm}{a x b:Int}(h:b≠a):(m.set a x).at b=m.at b:=by
 unfold Mm.at;by_cases hb:m.used b
 ·rw[if_pos ((yM m a x b).2 hb),if_pos hb];unfold Mm.set;split
  ·next ha=>
   unfold Mm.used at ha hb;simp only[List.getD_eq_getElem?_getD];rw[List.getElem?_set_ne (by omega)]
  ·rfl
 ·rw[if_neg (λh=>hb ((yM m a x b).1 h)),if_neg hb]
theorem FW {cs w:List Int}{mx:Nat}{b:Int}(h:b≤cs.length):(Mm.mk (cs++w) mx).at b=(Mm.mk cs mx).at b:=by
 unfold Mm.at;by_cases h1:1≤b
 ·have u1:(Mm.mk (cs++w) mx).used b:=⟨h1,by simp;omega⟩
  have u2:(Mm.mk cs mx).used b:=⟨h1,h⟩;rw[if_pos u1,if_pos u2];simp only[List.getD_eq_getElem?_getD];rw[List.getElem?_append_left (by omega)]
 ·have u1: ¬(Mm.mk (cs++w) mx).used b:=λk=>h1 k.1
  have u2: ¬(Mm.mk cs mx).used b:=λk=>h1 k.1
  rw[if_neg u1,if_neg u2]
theorem Ol {cs w:List Int}{mx:Nat}{j:Nat}(h:j<w.length):(Mm.mk (cs++w) mx).at (cs.length+1+j)=w.getD j 0:=by
 have u1:(Mm.mk (cs++w) mx).used (cs.length+1+j):=⟨by omega,by simp;omega⟩
 unfold Mm.at;rw[if_pos u1];simp only[List.getD_eq_getElem?_getD];rw[List.getElem?_append_right (by omega)]
 congr 2;omega
inductive Rec where
 |leaf
 |empty
 |inner (d:Nat) (path:List Nat)
 |bT (c s:Int)
 |ek (s old new:Int) (by':Nat)
def Rec.size:Rec→Nat
 | .leaf=>2
 | .empty=>1
 | .inner d _=>2*d+4
 | .bT .. =>5
 | .ek .. =>5
structure Ga where
 ty:Int→Option Rec
 nz:Int→Prop
 shut:Int→Prop
 dx:Int→Int→Prop
 inst:Int→Prop
 lS:Int→Prop
 pC:Int→Int→Prop
structure Ga.le (G G':Ga):Prop where
 ty: ∀a r,G.ty a=some r→G'.ty a=some r
 nz: ∀s,G.nz s→G'.nz s
 shut: ∀c,G.shut c→G'.shut c
 dx: ∀s w,G.dx s w→G'.dx s w
 inst: ∀e,G.inst e→G'.inst e
 lS: ∀e,G.lS e→G'.lS e
 pC: ∀e o,G.pC e o→G'.pC e o
theorem Ga.le.refl (G:Ga):G.le G:=⟨λ_ _ h=>h,λ_ h=>h,λ_ h=>h,λ_ _ h=>h,λ_ h=>h,λ_ h=>h,λ_ _ h=>h⟩
theorem Ga.le.trans {A B C:Ga}(h:A.le B)(k:B.le C):A.le C:=
 ⟨λa r x=>k.ty a r (h.ty a r x),λa x=>k.nz a (h.nz a x),λa x=>k.shut a (h.shut a x),λa b x=>k.dx a b (h.dx a b x),λa x=>k.inst a (h.inst a x),λa x=>k.lS a (h.lS a x),λa b x=>k.pC a b (h.pC a b x)⟩
def bV (c:Int)(d i:Nat):Int:=c+4+d+i
def aQ (G:Ga)(s o:Int)(p:List Nat):Prop:=∃d q i,G.ty o=some (.inner d q)∧i<d∧s=bV o d i∧p=q++[i]
def full (G:Ga)(c:Int)(d:Nat):Prop:=∀i,i<d→G.nz (bV c d i)
def nZ (G:Ga)(w:Int):Prop:=w≤524296∧∃r,G.ty (aw w)=some r
def da (G:Ga)(p:List Nat)(w:Int):Prop:=
 nZ G w∧(kd w=1∨kd w=2∨(kd w=3∧∃d,G.ty (aw w)=some (.inner d p)∧full G (aw w) d)∨
 (kd w=4∧∃c s o d,G.ty (aw w)=some (.bT c s)∧aQ G s o p∧G.ty c=some (.inner d p)∧full G c d))
def AO (G:Ga)(s:Int)(p:List Nat)(w:Int):Prop:=
 w≤524296∧((w=0∧¬G.nz s)∨(G.nz s∧(da G p w∨(kd w=5∧G.inst (aw w)∧∃old new b,G.ty (aw w)=some (.ek s old new b)))))
mutual
inductive sk (G:Ga):Int→Nat→Prop where
 |mk {c d p n} (h:G.ty c=some (.inner d p)) (hs:G.shut c) (k:gi G c d d n):sk G c n
inductive gi (G:Ga):Int→Nat→Nat→Nat→Prop where
 |zero {c d}:gi G c d 0 0
 |leaf {c d i n w} (h:gi G c d i n) (hf:G.dx (bV c d i) w) (hk:kd w=2):gi G c d (i+1) (n+1)
 |inner {c d i n w k} (h:gi G c d i n) (hf:G.dx (bV c d i) w) (hk:kd w=3) (hc:sk G (aw w) k):gi G c d (i+1) (n+k)
 |bT {c d i n w k c' s} (h:gi G c d i n) (hf:G.dx (bV c d i) w) (hk:kd w=4) (ht:G.ty (aw w)=some (.bT c' s)) (hc:sk G c' k):gi G c d (i+1) (n+k)
 |empty {c d i n w} (h:gi G c d i n) (hf:G.dx (bV c d i) w) (hk:kd w=1):gi G c d (i+1) n
end
def zQ (G:Ga)(c:Int)(p:List Nat)(x:Int):Prop:=
 x≤524296∧∃n,sk G c n∧(n≥2→kd x=3∧G.ty (aw x)=some (.inner (max (bo n) 1).toNat p))∧(n<2→da G p x)
def W9 (G:Ga)(f:Int→Int)(e s:Int):Prop:=
 (f (e+4)=0∧(G.inst e→f s=fI 5 e))∨(f (e+4)=1∧G.inst e∧G.lS e)∨(f (e+4)=2∧G.inst e)
def zR (G:Ga)(f:Int→Int)(c:Int):Rec→Prop
 | .leaf=>True
 | .empty=>True
 | .inner d p=>1≤d∧f c=d∧((f (c+2)=0∧¬G.shut c)∨(f (c+2)=1∧G.shut c))∧(f (c+4)=0∨∃n:Nat,f (c+4)=n+1∧sk G c n)∧
   ∀i,i<d→AO G (bV c d i) (p++[i]) (f (bV c d i))
 | .bT t s=>∃o p d,aQ G s o p∧G.ty t=some (.inner d p)∧full G t d∧kd (f c)=3∧aw (f c)=t∧f (c+1)=o+2∧f (c+2)=s∧((f (c+3)=0∧¬G.nz (c+3))∨(f (c+3)≠0∧G.nz (c+3)∧zQ G t p (f (c+3))))
 | .ek s old new _=>∃o p,aQ G s o p∧da G p old∧da G p new∧f c=o+2∧f (c+1)=s∧f (c+2)=old∧f (c+3)=new∧W9 G f c s∧∀o,G.pC c o↔(f (c+4)=o∧o≠0)
structure oR (G:Ga) (f:Int→Int) (s w:Int):Prop where
 fit: ∃o p,aQ G s o p∧G.shut o∧da G p w
 now:f s=w∨(kd (f s)=5∧∃new b,G.ty (aw (f s))=some (.ek s w new b)∧f (aw (f s)+4)≠1)
 old: ∀e old new b,G.ty e=some (.ek s old new b)→G.lS e→f (e+4)≠0
structure bs (G:Ga) (m:Mm):Prop where
 room: ∀a r,G.ty a=some r→1≤a∧a+r.size≤m.cs.length+1
 Om: ∀a r b q,G.ty a=some r→G.ty b=some q→a≠b→a+r.size≤b∨b+q.size≤a
 ij: ∀c r,G.ty c=some r→zR G m.at c r
 dx: ∀s w,G.dx s w→oR G m.at s w
 lS: ∀e,G.lS e→G.inst e
 inst: ∀e,G.inst e→∃s old new b,G.ty e=some (.ek s old new b)
 fresh:(∀s,G.nz s→s≤m.cs.length)∧(∀c,G.shut c→c≤m.cs.length)∧(∀e o,G.pC e o→e≤m.cs.length)
 top:m.cs.length≤m.max∧m.max≤16384
variable {G G':Ga} {m:Mm} {f f':Int→Int} {c s o:Int} {p:List Nat} {w:Int}
theorem yN {k a:Int}(hk:1≤k∧k≤5)(ha:1≤a∧a≤65536):fM (fI k a)=true:=by
 unfold fI fM wr;rw[if_neg (by omega)]
 simp;omega
theorem ik {k a:Int}(hk:1≤k∧k≤5)(ha:1≤a∧a≤65536):kd (fI k a)=k:=by
 unfold kd;rw[if_pos (yN hk ha)];unfold fI;rw[if_neg (by omega)];omega
theorem iO {k a:Int}(hk:1≤k∧k≤5)(ha:1≤a∧a≤65536):aw (fI k a)=a:=by
 unfold aw;rw[if_pos (yN hk ha)];unfold fI wr;rw[if_neg (by omega)];omega
theorem sq:kd 0=0:=by decide
theorem nM (w:Int): -9223372036854775808≤aw w∧aw w≤65536:=by
 unfold aw;split
 ·next hr=>simp[fM] at hr;unfold wr at *;omega
 ·omega
theorem da.kd (h:da G p w):kd w=1∨kd w=2∨kd w=3∨kd w=4:=by
 rcases h.2 with h|h|⟨h,_⟩|⟨h,_⟩<;>simp[h]
theorem FX (k a:Int):fI k a≤524296:=by unfold fI;split<;>omega
theorem da.PJ (h:da G p w):Y.kd w≠5:=by have:=h.kd;omega
theorem da.Tw (h:da G p w):w≠0:=by
 rintro rfl;have:=h.kd;rw[sq] at this;omega
theorem aQ.mono (g:G.le G')(h:aQ G s o p):aQ G' s o p:=by
 obtain⟨d,q,i,h1,h2⟩:=h;exact⟨d,q,i,g.ty _ _ h1,h2⟩
theorem full.mono {d:Nat}(g:G.le G')(h:full G c d):full G' c d:=λi hi=>g.nz _ (h i hi)
theorem nZ.mono (g:G.le G')(h:nZ G w):nZ G' w:=by
 obtain⟨h1,r,h2⟩:=h;exact⟨h1,r,g.ty _ _ h2⟩
theorem nZ.fI {k a:Int}{r:Rec}(hk:1≤k∧k≤5)(ha:1≤a∧a≤65536)(h:G.ty a=some r):nZ G (fI k a):=⟨FX _ _,r,by rw[iO hk ha];exact h⟩
theorem da.mono (g:G.le G')(h:da G p w):da G' p w:=by
 refine⟨h.1.mono g,?_⟩;rcases h.2 with h|h|⟨h,d,h1,h2⟩|⟨h,c,s,o,d,h1,h2,h3,h4⟩
 ·exact .inl h
 ·exact .inr (.inl h)
 ·exact .inr (.inr (.inl ⟨h,d,g.ty _ _ h1,full.mono g h2⟩))
 ·exact .inr (.inr (.inr ⟨h,c,s,o,d,g.ty _ _ h1,h2.mono g,g.ty _ _ h3,full.mono g h4⟩))
mutual
theorem sk.mono (g:G.le G'): ∀{c n},sk G c n→sk G' c n
 |_,_,.mk h hs k=>.mk (g.ty _ _ h) (g.shut _ hs) (gi.mono g k)
theorem gi.mono (g:G.le G'): ∀{c d i n},gi G c d i n→gi G' c d i n
 |_,_,_,_,.zero=>.zero
 |_,_,_,_,.leaf h hf hk=>.leaf (gi.mono g h) (g.dx _ _ hf) hk
 |_,_,_,_,.inner h hf hk hc=>.inner (gi.mono g h) (g.dx _ _ hf) hk (sk.mono g hc)
 |_,_,_,_,.bT h hf hk ht hc=>.bT (gi.mono g h) (g.dx _ _ hf) hk (g.ty _ _ ht) (sk.mono g hc)
 |_,_,_,_,.empty h hf hk=>.empty (gi.mono g h) (g.dx _ _ hf) hk
end
theorem zQ.mono (g:G.le G')(h:zQ G c p w):zQ G' c p w:=by
 obtain⟨h0,n,h1,h2,h3⟩:=h;exact⟨h0,n,h1.mono g,λk=>⟨(h2 k).1,g.ty _ _ (h2 k).2⟩,λk=>(h3 k).mono g⟩
theorem AO.mono (g:G.le G')(hn:G'.nz s→G.nz s)(h:AO G s p w):AO G' s p w:=by
 refine⟨h.1,?_⟩;rcases h.2 with⟨h1,h2⟩|⟨h1,h2|⟨h2,h3,old,new,b,h4⟩⟩
 ·exact .inl ⟨h1,λk=>h2 (hn k)⟩
 ·exact .inr ⟨g.nz _ h1,.inl (h2.mono g)⟩
 ·exact .inr ⟨g.nz _ h1,.inr ⟨h2,g.inst _ h3,old,new,b,g.ty _ _ h4⟩⟩
theorem bs.cell (h:bs G m){a b:Int}{r q:Rec}(ha:G.ty a=some r)(hb:G.ty b=some q){i j:Int}(hi:0≤i∧i<r.size)(hj:0≤j∧j<q.size)(e:a+i=b+j):a=b:=by
 refine Decidable.byContradiction λdy=>?_
 have:=h.Om a r b q ha hb dy
 omega
theorem aQ.lt (h:aQ G s o p): ∃d q j,G.ty o=some (.inner d q)∧s=o+j∧5≤j∧j<(Rec.inner d q).size:=by
 obtain⟨d,q,i,h1,h2,h3,h4⟩:=h;refine⟨d,q,4+d+i,h1,by rw[h3];unfold bV;omega,?_,?_⟩
 ·omega
 ·simp[Rec.size];omega
theorem aQ.uniq (h:bs G m){o':Int}{p':List Nat}(a:aQ G s o p)(b:aQ G s o' p'):o=o'∧p=p':=by
 obtain⟨d,q,j,h1,h2,h3,h4⟩:=a.lt;obtain⟨d',q',j',k1,k2,k3,k4⟩:=b.lt;have e:=h.cell h1 k1 (i:=j) (j:=j') ⟨by omega,h4⟩ ⟨by omega,k4⟩ (by omega)
 subst e;refine⟨rfl,?_⟩;obtain⟨d,q,i,g1,g2,g3,g4⟩:=a;obtain⟨d',q',i',l1,l2,l3,l4⟩:=b;rw[g1] at l1;cases l1;rw[g4,l4];unfold bV at g3 l3;have:i=i':=by omega
 rw[this]
theorem bs.ZR (h:bs G m)(a:aQ G s o p):AO G s p (m.at s):=by
 obtain⟨d,q,i,h1,h2,h3,h4⟩:=a;have:=(h.ij _ _ h1).2.2.2.2 i h2
 rw[h3,h4];exact this
theorem bs.slot (h:bs G m)(a:aQ G s o p):(m.at s=0∧¬G.nz s)∨(G.nz s∧(da G p (m.at s)∨(kd (m.at s)=5∧G.inst (aw (m.at s))∧∃old new b,G.ty (aw (m.at s))=some (.ek s old new b)))):=(h.ZR a).2
theorem zR.keep {r:Rec}(g:G.le G')(h:zR G f c r)(hf: ∀j:Int,0≤j→j<r.size→f' (c+j)=f (c+j))(LX: ∀d p i,r= .inner d p→i<d→G'.nz (bV c d i)→G.nz (bV c d i))(hnr: ∀t s,r= .bT t s→G'.nz (c+3)→G.nz (c+3))(RQ:G'.shut c→G.shut c)(mj: ∀o,G'.pC c o→G.pC c o)(pd:G'.inst c→G.inst c)(hs: ∀s old new b,r= .ek s old new b→G.inst c→f (c+4)=0→f' s=f s):zR G' f' c r:=by
 have h0: ∀{j:Int},j=0→0<r.size→f' c=f c:=λ_ k=>by have:=hf 0 (by omega) (by omega);simpa using this
 cases r with
 |leaf=>trivial
 |empty=>trivial
 |inner d p=>
  obtain⟨h1,h2,h3,h4,h5⟩:=h;have e2:=hf 2 (by omega) (by simp[Rec.size];omega)
  have e4:=hf 4 (by omega) (by simp[Rec.size];omega)
  refine⟨h1,by rw[h0 rfl (by simp[Rec.size])];exact h2,?_,?_,?_⟩
  ·rw[e2];rcases h3 with⟨a,b⟩|⟨a,b⟩
   ·exact .inl ⟨a,λk=>b (RQ k)⟩
   ·exact .inr ⟨a,g.shut _ b⟩
  ·rw[e4];rcases h4 with a|⟨n,a,b⟩
   ·exact .inl a
   ·exact .inr ⟨n,a,b.mono g⟩
  ·intro i hi;have e:f' (bV c d i)=f (bV c d i):=by
    have:=hf (4+d+i) (by omega) (by simp[Rec.size];omega)
    have e:bV c d i=c+(4+d+i):=by unfold bV;omega
    rw[e];exact this
   rw[e];exact(h5 i hi).mono g (LX d p i rfl hi)
 |bT t s=>
  obtain⟨o,p,d,h1,h2,h3,h4,h5,h6,h7,h8⟩:=h;have e1:=hf 1 (by omega) (by simp[Rec.size])
  have e2:=hf 2 (by omega) (by simp[Rec.size])
  have e3:=hf 3 (by omega) (by simp[Rec.size])
  have e0:=h0 rfl (by simp[Rec.size])
  refine⟨o,p,d,h1.mono g,g.ty _ _ h2,full.mono g h3,by rw[e0];exact h4,by rw[e0];exact h5,by rw[e1];exact h6,by rw[e2];exact h7,?_⟩
  rw[e3];rcases h8 with⟨a,b⟩|⟨a,b,d⟩
  ·exact .inl ⟨a,λk=>b (hnr t s rfl k)⟩
  ·exact .inr ⟨a,g.nz _ b,d.mono g⟩
 |ek s old new b=>
  obtain⟨o,p,h1,h2,h3,h4,h5,h6,h7,h8,h9⟩:=h;have e1:=hf 1 (by omega) (by simp[Rec.size])
  have e2:=hf 2 (by omega) (by simp[Rec.size])
  have e3:=hf 3 (by omega) (by simp[Rec.size])
  have e4:=hf 4 (by omega) (by simp[Rec.size])
  have e0:=h0 rfl (by simp[Rec.size])
  refine⟨o,p,h1.mono g,h2.mono g,h3.mono g,by rw[e0];exact h4,by rw[e1];exact h5,by rw[e2];exact h6,by rw[e3];exact h7,?_,?_⟩
  ·unfold W9;rw[e4];rcases h8 with⟨a,k⟩|⟨a,k,l⟩|⟨a,k⟩
   ·exact .inl ⟨a,λi=>by rw[hs s old new b rfl (pd i) a];exact k (pd i)⟩
   ·exact .inr (.inl ⟨a,g.inst _ k,g.lS _ l⟩)
   ·exact .inr (.inr ⟨a,g.inst _ k⟩)
  ·intro o;rw[e4, ←h9 o];exact⟨mj o,g.pC _ _⟩
theorem oR.keep (g:G.le G')(h:oR G f s w)(hs:f' s=f s)(he:kd (f s)=5→f' (aw (f s)+4)=f (aw (f s)+4))(ho: ∀e old new b,G'.ty e=some (.ek s old new b)→G'.lS e→G.lS e∧G.ty e=some (.ek s old new b)∧(f (e+4)≠0→f' (e+4)≠0)):oR G' f' s w:=by
 obtain⟨⟨o,p,h1,h2,h3⟩,h4,h5⟩:=h;refine⟨⟨o,p,h1.mono g,g.shut _ h2,h3.mono g⟩,?_,?_⟩
 ·rw[hs];rcases h4 with a|⟨a,new,b,k,l⟩
  ·exact .inl a
  ·exact .inr ⟨a,new,b,g.ty _ _ k,by rw[he a];exact l⟩
 ·intro e old new b k l;obtain⟨a1,a2,a3⟩:=ho e old new b k l;exact a3 (h5 e old new b a2 a1)
end Go.Proofs.YtgfgglponbmgmaaGreatA.Y
end
