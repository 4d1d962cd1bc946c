/- Texts of the proof of helpPlays_holds, put together by a small program of ours (names shortened, spaces taken out). No condition beyond the given statement. -/
import Derived.Test.YtgfgglponbmgmaaGreatHPL15
import Derived.Test.YtgfgglponbmgmaaGreatHPL12
import Derived.Test.YtgfgglponbmgmaaGreatHPL16
import Derived.Test.YtgfgglponbmgmaaGreatHPL13
import Derived.Test.YtgfgglponbmgmaaGreatHPL17
import Derived.Test.YtgfgglponbmgmaaGreatHPL18
import Derived.Test.YtgfgglponbmgmaaGreatHPL21
import Derived.Test.YtgfgglponbmgmaaGreatHPL11
import Derived.Test.YtgfgglponbmgmaaGreatHPL14
set_option linter.unusedVariables false
set_option linter.unusedSimpArgs false
set_option linter.unnecessarySimpa false
noncomputable section
section
namespace Go.Proofs.YtgfgglponbmgmaaGreat.Fun
open Go Go.RowKit Go.Proofs.YtgfgglponbmgmaaGreatA.Am
set_option maxRecDepth 10000
section
open Go.Proofs.YtgfgglponbmgmaaGreatA
variable {G:ae} {H H':aa} {o o':aj} {p:Nat} {K:aa→aj→Prop} {st Nz:Y.St} {α β:Type}
theorem cP (x:Int):IntKind.i64.wrap x=Y.wr x:=by rw[IntKind.wrap_i64];unfold Y.wr;omega
abbrev Is (H:aa)(v:Value):Value→aa→Prop:=λv' H'=>v'=v∧H'=H
theorem Ev.is {k:Nat→Value→aa→Option β}{Q:β→Prop}{C:Nat→ae}{f:Nat}{args:List Value}{v:Value}(h:aF C f args H (Is H v))(hk:Ev (λn=>k n v H) Q):Ev (λn=>af (C n f args H) (k n)) Q:=
 Ev.call h λv' H' hq=>by obtain⟨rfl,rfl⟩:=hq;exact hk
theorem JC (a:Int):aF (run G) 89 [cv a] H (Is H (.bool (Y.jS a))):=by
 refine Ev.up (t:=λn=>ZR (run G n) n (cv a) H) ?_ λn=>Pa ..
 by_cases h8:a>8
 ·have m:a.tmod 8=a%8:=Int.tmod_eq_emod_of_nonneg (by omega)
  have d:a.tdiv 8=a/8:=Int.tdiv_eq_ediv_of_nonneg (by omega)
  simp -implicitDefEqProofs only[ZR,sS,Nat.reduceAdd];repeat' (first| (refine Ev.ret ⟨?_,rfl⟩;refine congrArg Value.bool ?_;simp[Y.jS];simp only[←m, ←d, ←cP];omega)| ((with_reducible first|refine Ev.gtr (λhq=>?_) (λhq=>?_)|refine Ev.leq (λhq=>?_) (λhq=>?_)|refine Ev.geq (λhq=>?_) (λhq=>?_))<;>try simp -implicitDefEqProofs only[sS,Nat.reduceAdd]))
 ·simp -implicitDefEqProofs only[ZR,sS,Nat.reduceAdd];repeat' (first| (refine Ev.ret ⟨?_,rfl⟩;refine congrArg Value.bool ?_;simp[Y.jS];omega)| (exfalso;omega)| ((with_reducible first|refine Ev.gtr (λhq=>?_) (λhq=>?_)|refine Ev.leq (λhq=>?_) (λhq=>?_)|refine Ev.geq (λhq=>?_) (λhq=>?_))<;>try simp -implicitDefEqProofs only[sS,Nat.reduceAdd]))
theorem hX (a:Int):aF (run G) 57 [cv a] H (Is H (cv (Y.kd a))):=by
 refine Ev.up (t:=λn=>F57 (run G n) n (cv a) H) ?_ λn=>O5 ..
 simp -implicitDefEqProofs only[F57,sS,Nat.reduceAdd];refine Ev.is (JC a) ?_;cases hr:Y.jS a<;>simp -implicitDefEqProofs only[sS,Nat.reduceAdd]<;>refine Ev.ret ⟨?_,rfl⟩<;>refine congrArg cv ?_
 ·simp[Y.kd,hr]
 ·have h8:a>8:=by simp[Y.jS] at hr;omega
  have m:a.tmod 8=a%8:=Int.tmod_eq_emod_of_nonneg (by omega)
  simp[Y.kd,hr,m]
theorem n3 (a:Int):aF (run G) 83 [cv a] H (Is H (cv (Y.aw a))):=by
 refine Ev.up (t:=λn=>F83 (run G n) n (cv a) H) ?_ λn=>OQ ..
 simp -implicitDefEqProofs only[F83,sS,Nat.reduceAdd];refine Ev.is (JC a) ?_;cases hr:Y.jS a<;>simp -implicitDefEqProofs only[sS,Nat.reduceAdd]<;>refine Ev.ret ⟨?_,rfl⟩<;>refine congrArg cv ?_
 ·simp[Y.aw,hr]
 ·have h8:a>8:=by simp[Y.jS] at hr;omega
  have d:a.tdiv 8=a/8:=Int.tdiv_eq_ediv_of_nonneg (by omega)
  simp[Y.aw,hr,d,cP]
theorem n5 (k a:Int):aF (run G) 59 [cv k,cv a] H (Is H (cv (Y.fm k a))):=by
 refine Ev.up (t:=λn=>F59 (run G n) n (cv k) (cv a) H) ?_ λn=>WL ..
 simp -implicitDefEqProofs only[F59,sS,Nat.reduceAdd];repeat' (first| (refine Ev.ret ⟨?_,rfl⟩;refine congrArg cv ?_;simp only[Y.fm];(try rw[cP,cP]);split<;>(try unfold Y.wr)<;>omega)| ((with_reducible first|refine Ev.lss (λhq=>?_) (λhq=>?_)|refine Ev.gtr (λhq=>?_) (λhq=>?_))<;>try simp -implicitDefEqProofs only[sS,Nat.reduceAdd]))
theorem oX (a:Int):aF (run G) 130 [cv a] H (Is H (.bool (Y.E9 a))):=by
 refine Ev.up (t:=λn=>Pn (run G n) n (cv a) H) ?_ λn=>Jd ..
 simp -implicitDefEqProofs only[Pn,sS,Nat.reduceAdd];repeat' (first| (refine Ev.ret ⟨?_,rfl⟩;refine congrArg Value.bool ?_;simp[Y.E9];omega)| ((with_reducible first|refine Ev.geq (λhq=>?_) (λhq=>?_))<;>try simp -implicitDefEqProofs only[sS,Nat.reduceAdd]))
theorem pF (a i:Int):aF (run G) 142 [cv a,cv i] H (Is H (cv (Y.lM a i))):=by
 refine Ev.up (t:=λn=>Ps (run G n) n (cv a) (cv i) H) ?_ λn=>Jj ..
 simp -implicitDefEqProofs only[Ps,sS,Nat.reduceAdd];refine Ev.is (oX a) ?_;cases h1:Y.E9 a<;>simp -implicitDefEqProofs only[sS,Nat.reduceAdd]
 ·exact Ev.ret ⟨by simp[Y.lM,h1],rfl⟩
 refine Ev.is (oX i) ?_;cases h2:Y.E9 i<;>simp -implicitDefEqProofs only[sS,Nat.reduceAdd]
 ·exact Ev.ret ⟨by simp[Y.lM,h1,h2],rfl⟩
 ·refine Ev.ret ⟨congrArg cv ?_,rfl⟩;simp[Y.lM,h1,h2,cP];simp[Y.E9] at h1 h2;unfold Y.wr;omega
theorem kV (a d i:Int):aF (run G) 103 [cv a,cv d,cv i] H (Is H (cv (Y.dr a d i))):=by
 refine Ev.up (t:=λn=>Pm (run G n) n (cv a) (cv d) (cv i) H) ?_ λn=>I6 ..
 simp -implicitDefEqProofs only[Pm,sS,Nat.reduceAdd];refine Ev.is (oX a) ?_;cases h1:Y.E9 a<;>simp -implicitDefEqProofs only[sS,Nat.reduceAdd]
 ·exact Ev.ret ⟨by simp[Y.dr,h1],rfl⟩
 refine Ev.is (oX d) ?_;cases h2:Y.E9 d<;>simp -implicitDefEqProofs only[sS,Nat.reduceAdd]
 ·exact Ev.ret ⟨by simp[Y.dr,h1,h2],rfl⟩
 refine Ev.is (oX i) ?_;cases h3:Y.E9 i<;>simp -implicitDefEqProofs only[sS,Nat.reduceAdd]
 ·exact Ev.ret ⟨by simp[Y.dr,h1,h2,h3],rfl⟩
 ·refine Ev.ret ⟨congrArg cv ?_,rfl⟩;simp[Y.dr,h1,h2,h3,cP];simp[Y.E9] at h1 h2 h3;unfold Y.wr;omega
theorem Tg (a:Int):aF (run G) 155 [cv a] H (Is H (cv (Y.PG a))):=by
 refine Ev.up (t:=λn=>Sq (run G n) n (cv a) H) ?_ λn=>Sr ..
 by_cases h0:0≤a
 ·have d:a.tdiv 4=a/4:=Int.tdiv_eq_ediv_of_nonneg h0;simp -implicitDefEqProofs only[Sq,sS,Nat.reduceAdd];repeat' (first| (refine Ev.ret ⟨?_,rfl⟩;refine congrArg cv ?_;simp only[Y.PG];(try rw[d,cP,cP]);split<;>(try simp only[Y.wr])<;>omega)| ((with_reducible first|refine Ev.lss (λhq=>?_) (λhq=>?_)|refine Ev.gtr (λhq=>?_) (λhq=>?_))<;>try simp -implicitDefEqProofs only[sS,Nat.reduceAdd]))
 ·simp -implicitDefEqProofs only[Sq,sS,Nat.reduceAdd];repeat' (first| (refine Ev.ret ⟨?_,rfl⟩;refine congrArg cv ?_;simp only[Y.PG];split<;>omega)| (exfalso;omega)| ((with_reducible first|refine Ev.lss (λhq=>?_) (λhq=>?_)|refine Ev.gtr (λhq=>?_) (λhq=>?_))<;>try simp -implicitDefEqProofs only[sS,Nat.reduceAdd]))
end
section
variable {G:ae} {H H':aa} {o o':aj} {p m:Nat} {K:aa→aj→Prop}
abbrev uv (x:Int):Value:=.int .u64 x
section
variable {α:Type} {k:Nat→Value→aa→Option α} {Q:α→Prop} {t:TypeId} {a b:Int} {P:Program}
theorem Ev.Yz {op:BinOp}(vx:op= .eql∨op= .geq)(h1:Ev (λn=>k n (.bool true) H) Q)(h2:Ev (λn=>k n (.bool false) H) Q):Ev (λn=>af (pS (ai P op t (uv a) (uv b)) H) (k n)) Q:=by
 have: ∃c:Bool,ai P op t (uv a) (uv b)=some (.bool c):=by
  rcases vx with rfl|rfl
  ·exact⟨_,rfl⟩
  ·exact⟨_,rfl⟩
 obtain⟨c,e⟩:=this;rw[e];cases c with
 |true=>exact h1
 |false=>exact h2
end
theorem vm (t:TypeId)(a b:Int):ai Tryz.prog .sub t (uv a) (uv b)=some (uv (IntKind.u64.wrap (a-b))):=rfl
theorem Th (t:TypeId)(a b:Int):ai Tryz.prog .add t (uv a) (uv b)=some (uv (IntKind.u64.wrap (a+b))):=rfl
theorem Ti (x:Int)(H:aa):AV .u64 (cv x) H=some (uv (IntKind.u64.wrap x),H):=rfl
theorem aaT (a b:Int)(H:aa):aaB (uv a) (uv b) H=some (uv (if b<a then b else a),H):=rfl
theorem aaU (t:TypeId)(a:Int)(b:Nat):ai Tryz.prog .shr t (cv a) (.int .u64 b)=some (cv (a.fdiv (2^min ((b:Int)).toNat 64))):=by
 show qt .shr .i64 a b=_
 simp only[qt];rfl
theorem U0 (a b:Int):aF (run G) 162 [cv a,cv b] H λv H'=>(∃z,v=uv z)∧H'=H:=by
 refine Ev.up (t:=λn=>Pe (run G n) n (cv a) (cv b) H) ?_ λn=>I3 ..
 simp -implicitDefEqProofs only[Pe,sS,Nat.reduceAdd,Ti,vm];refine Ev.lss (λh1=>?_) (λh1=>?_)<;>try simp -implicitDefEqProofs only[sS,Nat.reduceAdd,Ti,vm]
 ·exact Ev.ret ⟨⟨_,rfl⟩,rfl⟩
 ·exact Ev.ret ⟨⟨_,rfl⟩,rfl⟩
theorem Tj (a b c:Int):aF (run G) 161 [uv a,uv b,cv c] H (C5 H):=by
 refine Ev.up (t:=λn=>O4 (run G n) n (uv a) (uv b) (cv c) H) ?_ λn=>IW ..
 simp -implicitDefEqProofs only[O4,sS,Nat.reduceAdd];refine Ev.Yz (.inl rfl) ?_ ?_ <;>try simp -implicitDefEqProofs only[sS,Nat.reduceAdd]
 ·exact Ev.ret ⟨⟨_,rfl⟩,rfl⟩
 refine Ev.lss (λh1=>?_) (λh1=>?_)<;>try simp -implicitDefEqProofs only[sS,Nat.reduceAdd]
 ·exact Ev.ret ⟨⟨_,rfl⟩,rfl⟩
 refine Ev.gtr (λh1=>?_) (λh1=>?_)<;>try simp -implicitDefEqProofs only[sS,Nat.reduceAdd,aaT]
 ·exact Ev.ret ⟨⟨_,rfl⟩,rfl⟩
 refine Ev.loop (k:=17) (λk vs Hx=>∃(a b d7 d8:Int) (d24 d33 d49 d54:Value),Hx=H∧k≤17∧vs=[uv a,uv b,cv c,cv 0,.bool false,cv ((k:Int)-1),d24,cv d7,uv d8,d33,d49,d54])
  (λr=>r.1= .exit 0∧r.2.2=H∧∃(a b d7:Int) (d8 d9 d24 d33 d49 d54:Value),r.2.1=[uv a,uv b,cv c,cv 0,.bool false,d9,d24,cv d7,d8,d33,d49,d54]) ⟨_,_,_,_,_,_,_,_,rfl,by omega,rfl⟩ ?_ ?_
 ·rintro k vs Hx ⟨a,b,d7,d8,d24,d33,d49,d54,rfl,hk,rfl⟩;simp -implicitDefEqProofs only[Be,sj,sS,Nat.reduceAdd];refine Ev.geq (λhq=>?_) (λhq=>?_)<;>try simp -implicitDefEqProofs only[sS,Nat.reduceAdd,vm]
  ·obtain⟨j,rfl⟩: ∃j,k=j+1:=⟨k-1,by omega⟩
   have eb:((j+1:Nat):Int)-1=(j:Int):=by omega
   have hw:IntKind.i64.wrap ((j:Int)-1)=(j:Int)-1:=ga (by omega)
   have iX: ∀(d7 d8:Int) (d24 d33 d49 d54:Value),Ev (λn=>pB (run G n) n [uv a,uv b,cv c,cv 0,.bool false,cv ((j+1:Nat)-1),d24,cv d7,uv d8,d33,d49,d54] Hx) λr=>(r.1= .normal∧∃k',k'<j+1∧∃(a b d7 d8:Int) (d24 d33 d49 d54:Value),r.2.2=Hx∧k'≤17∧r.2.1=[uv a,uv b,cv c,cv 0,.bool false,cv ((k':Int)-1),d24,cv d7,uv d8,d33,d49,d54])∨(r.1≠ .normal∧r.1= .exit 0∧r.2.2=Hx∧∃(a b d7:Int) (d8 d9 d24 d33 d49 d54:Value),r.2.1=[uv a,uv b,cv c,cv 0,.bool false,d9,d24,cv d7,d8,d33,d49,d54]):=by
    intro d7 d8 d24 d33 d49 d54;simp -implicitDefEqProofs only[Bc,sg,sS,Nat.reduceAdd,eb,hw];exact Ev.ret (.inl ⟨rfl,j,by omega,_,_,_,_,_,_,_,_,rfl,by omega,rfl⟩)
   have h2: ∀(d7 d8:Int) (d24 d33 d49 d54:Value),Ev (λn=>si (run G n) n [uv a,uv b,cv c,cv 0,.bool false,cv ((j+1:Nat)-1),d24,cv d7,uv d8,d33,d49,d54] Hx) λr=>(r.1= .normal∧∃k',k'<j+1∧∃(a b d7 d8:Int) (d24 d33 d49 d54:Value),r.2.2=Hx∧k'≤17∧r.2.1=[uv a,uv b,cv c,cv 0,.bool false,cv ((k':Int)-1),d24,cv d7,uv d8,d33,d49,d54])∨(r.1≠ .normal∧r.1= .exit 0∧r.2.2=Hx∧∃(a b d7:Int) (d8 d9 d24 d33 d49 d54:Value),r.2.1=[uv a,uv b,cv c,cv 0,.bool false,d9,d24,cv d7,d8,d33,d49,d54]):=by
    intro d7 d8 d24 d33 d49 d54;simp -implicitDefEqProofs only[Bd,sh,sS,Nat.reduceAdd,eb,PB j (by omega),aaU,Jw]
    refine Ev.eql (λhq=>?_) (λhq=>?_)<;>try simp -implicitDefEqProofs only[sS,Nat.reduceAdd,vm]
    ·have:=iX d7 d8 d24 d33 (.bool true) d54
     rw[eb] at this;exact this
    refine Ev.Yz (.inr rfl) ?_ ?_ <;>try simp -implicitDefEqProofs only[sS,Nat.reduceAdd,vm,Th]
    ·have:=iX (IntKind.i64.wrap (d7+1)) (IntKind.u64.wrap (d8-IntKind.u64.wrap (b-a))) d24 d33 (.bool false) (.bool true)
     rw[eb] at this;exact this
    ·have:=iX d7 (IntKind.u64.wrap (d8+a)) d24 d33 (.bool false) (.bool false)
     rw[eb] at this;exact this
   refine Ev.Yz (.inr rfl) ?_ ?_ <;>try simp -implicitDefEqProofs only[sS,Nat.reduceAdd,vm,Th]
   ·exact h2 _ _ _ _ _ _
   ·exact h2 _ _ _ _ _ _
  ·exact Ev.ret (.inr ⟨by simp,rfl,rfl,_,_,_,_,_,_,_,_,_,rfl⟩)
 ·rintro e vs Hx ⟨he,rfl,a,b,d7,d8,d9,d24,d33,d49,d54,rfl⟩;simp only at he;subst he;simp -implicitDefEqProofs only[Bf,sk,sS,Nat.reduceAdd];exact Ev.ret ⟨⟨_,rfl⟩,rfl⟩
theorem sG (a b c d:Int):aF (run G) 143 [cv a,cv b,cv c,cv d] H (C5 H):=by
 refine Ev.up (t:=λn=>Pp (run G n) n (cv a) (cv b) (cv c) (cv d) H) ?_ λn=>Ji ..
 simp -implicitDefEqProofs only[Pp,sS,Nat.reduceAdd];repeat' (first|exact Ev.ret ⟨⟨_,rfl⟩,rfl⟩| ((with_reducible first|refine Ev.lss (λhq=>?_) (λhq=>?_)|refine Ev.gtr (λhq=>?_) (λhq=>?_)|refine Ev.geq (λhq=>?_) (λhq=>?_))<;>try simp -implicitDefEqProofs only[sS,Nat.reduceAdd]))
 all_goals
  refine Ev.call (U0 _ _) ?_;rintro v H' ⟨⟨z1,rfl⟩,rfl⟩;refine Ev.call (U0 _ _) ?_;rintro v H' ⟨⟨z2,rfl⟩,rfl⟩
  try simp -implicitDefEqProofs only[sS,Nat.reduceAdd]
  refine Ev.kB (Tj _ _ _) λz=>?_
  try simp -implicitDefEqProofs only[sS,Nat.reduceAdd]
  exact Ev.ret ⟨⟨_,rfl⟩,rfl⟩
end
section
variable {G:ae} {H H':aa} {o o':aj} {p m:Nat} {K:aa→aj→Prop}
theorem gI (o:aj): ∀n:Nat,∃t:Int,t< -100∧∀i,i<n→t<o i
 |0=>⟨-101,by omega,λi h=>by omega⟩
 |n+1=>by
  obtain⟨t,h1,h2⟩:=gI o n;refine⟨min t (o n)-1,by omega,λi hi=>?_⟩
  rcases Nat.lt_or_ge i n with g|g
  ·have:=h2 i g;omega
  ·have:i=n:=by omega
   subst this;omega
theorem iS {t:Int}{ps:List Int}(f:Fr H o H' o' (t::ps))(h: ∀i,i<H.length→o i≠t):Fr H o H' o' ps:=
 ⟨λi hi hn=>f.slot i hi (by simp only[List.mem_cons,not_or];exact⟨h i hi,hn⟩),f.own,f.size⟩
theorem Ar (a:Int)(H:aa):ay Tryz.prog 42 1 [(0,cv a)] H=some (.slice (some ⟨H.length,0,none⟩) 1 1,H.new ⟨[cv a],2,1,false⟩):=by kernel_rfl
theorem Tk (a b:Int)(H:aa):ay Tryz.prog 42 2 [(0,cv a),(1,cv b)] H=some (.slice (some ⟨H.length,0,none⟩) 2 2,H.new ⟨[cv a,cv b],2,1,false⟩):=by kernel_rfl
theorem PJ (a b c d e:Int)(H:aa):ay Tryz.prog 42 5 [(0,cv a),(1,cv b),(2,cv c),(3,cv d),(4,cv e)] H=some (.slice (some ⟨H.length,0,none⟩) 5 5,H.new ⟨[cv a,cv b,cv c,cv d,cv e],2,1,false⟩):=by kernel_rfl
section
variable {α:Type} {k:Nat→Value→aa→Option α} {Q:α→Prop} {z:Int}
end
end
section
open Go.Proofs.YtgfgglponbmgmaaGreatA
variable {G:ae} {H H':aa} {o o':aj} {p:Nat} {K:aa→aj→Prop} {st Nz s1:Y.St} {α β:Type}
section
variable {k:Nat→Value→aa→Option β} {Q:β→Prop} {C:Nat→ae} {f:Nat} {args:List Value}
theorem Ev.PK {a x y:Int}(h:aF C f args H λv H'=>v= .bool (decide ((Y.ah (Y.cs a x y) st).1=1))∧JX K p (Y.ah (Y.cs a x y) st).2 H')(hk: ∀z s1 H',Y.ah (Y.cs a x y) st=(z,s1)→JX K p s1 H'→Ev (λn=>k n (.bool (decide (z=1))) H') Q):Ev (λn=>af (C n f args H) (k n)) Q:=
 Ev.call h λv H' hq=>by obtain⟨rfl,hj⟩:=hq;exact hk _ _ H' rfl hj
theorem Ev.sH {l:List Int}(h:aF C f args H λv H'=>v= .tuple #[cv (Y.ah (Y.mk l) st).1,.bool (decide ((Y.ah (Y.mk l) st).1>0))]∧JX K p (Y.ah (Y.mk l) st).2 H')(hk: ∀z s1 H',Y.ah (Y.mk l) st=(z,s1)→JX K p s1 H'→Ev (λn=>k n (.tuple #[cv z,.bool (decide (z>0))]) H') Q):Ev (λn=>af (C n f args H) (k n)) Q:=
 Ev.call h λv H' hq=>by obtain⟨rfl,hj⟩:=hq;exact hk _ _ H' rfl hj
theorem Ev.Tl {l:List Int}(h:aF C f args H λw H'=>PH K p st l H' w)(hk: ∀w H',PH K p st l H' w→Ev (λn=>k n w H') Q):Ev (λn=>af (C n f args H) (k n)) Q:=Ev.call h hk
end
theorem Ev.brD {x y:Nat→Option α}{P:Prop}[Decidable P]{Q:α→Prop}(h:P→Ev x Q)(k: ¬P→Ev y Q):Ev (λn=>aU (.bool (decide P)) (x n) (y n)) Q:=
 Ev.br (λe=>h (of_decide_eq_true e)) λe=>k (of_decide_eq_false e)
theorem Ev.brN {x y:Nat→Option α}{P:Prop}[Decidable P]{Q:α→Prop}(h: ¬P→Ev x Q)(k:P→Ev y Q):Ev (λn=>aU (.bool (!decide P)) (x n) (y n)) Q:=
 Ev.br (λe=>h (by simpa using e)) λe=>k (by simpa using e)
theorem oW.of {t:Y.Tr Int}{z:Int}(hj:JX K p s1 H')(e:Y.ah t st=(z,s1)):oW K p st t (cv z) H':=by unfold oW;rw[e];exact⟨rfl,hj⟩
theorem PI.of {t:Y.Tr α}{z:α}{v:Value}(hj:JX K p s1 H')(e:Y.ah t st=(z,s1)):PI K p st t v H':=by unfold PI;rw[e];exact hj
theorem jU.of {t:Y.Tr Bool}{z:Bool}(hj:JX K p s1 H')(e:Y.ah t st=(z,s1)):jU K p st t (.bool z) H':=by unfold jU;rw[e];exact⟨rfl,hj⟩
theorem iN.of {t:Y.Tr (Int×Bool)}{z:Int}{b:Bool}(hj:JX K p s1 H')(e:Y.ah t st=((z,b),s1)):iN K p st t (.tuple #[cv z,.bool b]) H':=by unfold iN;rw[e];exact⟨rfl,hj⟩
theorem kl.of {t:Y.Tr (Int×Int)}{z b:Int}(hj:JX K p s1 H')(e:Y.ah t st=((z,b),s1)):kl K p st t (.tuple #[cv z,cv b]) H':=by unfold kl;rw[e];exact⟨rfl,hj⟩
theorem bn (a:α)(s:Y.St):Y.ah (pure a) s=(a,s):=rfl
theorem bG (a:α)(s:Y.St):Y.ah (Y.Tr.ret a) s=(a,s):=rfl
theorem bM (s:Y.St):Y.ah Y.g9 s=(s.off,s):=rfl
theorem cW (r:Int)(t:Y.Tr α)(s:Y.St):Y.ah (Y.Tr.rc r t) s=Y.ah t {s with oS:=r}:=rfl
theorem cX (t:Y.Tr α)(s:Y.St):Y.ah (Y.Tr.ld t) s=Y.ah t {s with laid:=if s.oS>0 then s.oS else s.laid}:=rfl
theorem Ff (h:JX K p st H)(a b c d:Int):aF (run G) 58 [cv a,cv b,cv c,cv d] H λw H'=>PH K p st (Y.fG a b c d) H' w:=by
 refine Ev.up (t:=λn=>F58 (run G n) n (cv a) (cv b) (cv c) (cv d) H) ?_ λn=>Oy ..
 simp -implicitDefEqProofs only[F58,PJ,sS,Nat.reduceAdd];exact Ev.ret (h.words [a,b,c,d,0] _)
theorem zh (h:JX K p st H)(a b c:Int):aF (run G) 153 [cv a,cv b,cv c] H λw H'=>PH K p st (Y.ju a b c) H' w:=by
 refine Ev.up (t:=λn=>Ye (run G n) n (cv a) (cv b) (cv c) H) ?_ λn=>SP ..
 simp -implicitDefEqProofs only[Ye,PJ,sS,Nat.reduceAdd];exact Ev.ret (h.words [a,b,c,0,0] _)
theorem sI (h:JX K p st H):aF (run G) 36 [] H λw H'=>PH K p st [0] H' w:=by
 refine Ev.up (t:=λn=>F36 (run G n) n H) ?_ λn=>OU ..
 simp -implicitDefEqProofs only[F36,Ar,sS,Nat.reduceAdd];exact Ev.ret (h.words [0] _)
theorem uJ (h:JX K p st H)(a b:Int):aF (run G) 147 [cv a,cv b] H λw H'=>PH K p st [a,b] H' w:=by
 refine Ev.up (t:=λn=>OF (run G n) n (cv a) (cv b) H) ?_ λn=>Iv ..
 simp -implicitDefEqProofs only[OF,Tk,sS,Nat.reduceAdd];exact Ev.ret (h.words [a,b] _)
theorem NA (w:Int){j:Int}(h:0≤j∧j≤8):IntKind.i64.wrap (Y.aw w+j)=Y.aw w+j:=by
 rw[cP];have: -9223372036854775808≤Y.aw w∧Y.aw w≤65536:=by
  unfold Y.aw;split
  ·next hr=>simp[Y.jS] at hr;unfold Y.wr at *;omega
  ·omega
 unfold Y.wr;omega
theorem PM (h:JX K p st H)(a:Int):aF (run G) 113 [pv p,cv a] H (oW K p st (Y.sD a)):=by
 refine Ev.up (t:=λn=>Oz (run G n) n (pv p) (cv a) H) ?_ λn=>Im ..
 simp -implicitDefEqProofs only[Oz,sS,Nat.reduceAdd];repeat' (first| (refine Ev.ret (oW.of ‹_› ?_);simp only[Y.sD,Y.al,bn,bG,bM,cW,cX,ne_eq,not_true_eq_false,not_false_eq_true,if_true,if_false,Bool.not_true,Bool.not_false,true_and,and_true,false_and,and_false,true_or,or_true,false_or,or_false,Bool.false_eq_true,decide_true,decide_false, *])| (simp only[NA _ (j:=4) (by omega),NA _ (j:=3) (by omega),NA _ (j:=2) (by omega)];((with_reducible first|refine Ev.eql (λhq=>?_) (λhq=>?_)|refine Ev.neq (λhq=>?_) (λhq=>?_)|refine Ev.is (hX _) ?_ |refine Ev.is (n3 _) ?_ |refine Ev.fe (df ‹_› _) λz s1 Hz ez hj=>?_)<;>try simp -implicitDefEqProofs only[sS,Nat.reduceAdd]))| ((with_reducible first|refine Ev.eql (λhq=>?_) (λhq=>?_)|refine Ev.neq (λhq=>?_) (λhq=>?_)|refine Ev.is (hX _) ?_ |refine Ev.is (n3 _) ?_ |refine Ev.fe (df ‹_› _) λz s1 Hz ez hj=>?_)<;>try simp -implicitDefEqProofs only[sS,Nat.reduceAdd]))
theorem PN (h:JX K p st H){a:Int}(ha: -9223372036854775808≤a∧a≤65536):aF (run G) 114 [pv p,cv a] H (PI K p st (Y.uH a)):=by
 have w4: ∀{j:Int},0≤j∧j≤8→IntKind.i64.wrap (a+j)=a+j:=λhj=>by rw[ga (by omega)]
 refine Ev.up (t:=λn=>Yn (run G n) n (pv p) (cv a) H) ?_ λn=>SU ..
 simp -implicitDefEqProofs only[Yn,Mx,yP,My,yQ,sS,Nat.reduceAdd];repeat' (first| (refine Ev.ret (PI.of (z:=()) ‹_› ?_);simp only[Y.uH,Y.al,bn,bG,bM,cW,cX,ne_eq,not_true_eq_false,not_false_eq_true,if_true,if_false,Bool.not_true,Bool.not_false,true_and,and_true,false_and,and_false,true_or,or_true,false_or,or_false,Bool.false_eq_true,decide_true,decide_false, *])| (simp only[w4 (j:=4) (by omega),w4 (j:=3) (by omega),w4 (j:=2) (by omega),w4 (j:=1) (by omega)];((with_reducible first|refine Ev.eql (λhq=>?_) (λhq=>?_)|refine Ev.neq (λhq=>?_) (λhq=>?_)|refine Ev.is (n5 _ _) ?_ |refine Ev.fe (df ‹_› _) λz s1 Hz ez hj=>?_ |refine Ev.PK (Fe ‹_› _ _ _) λz s1 Hz ez hj=>?_)<;>try simp -implicitDefEqProofs only[sS,Nat.reduceAdd]))| ((with_reducible first|refine Ev.eql (λhq=>?_) (λhq=>?_)|refine Ev.neq (λhq=>?_) (λhq=>?_)|refine Ev.is (n5 _ _) ?_ |refine Ev.fe (df ‹_› _) λz s1 Hz ez hj=>?_ |refine Ev.PK (Fe ‹_› _ _ _) λz s1 Hz ez hj=>?_)<;>try simp -implicitDefEqProofs only[sS,Nat.reduceAdd]))
theorem qm (w:Int): -9223372036854775808≤Y.aw w∧Y.aw w≤65536:=by
 unfold Y.aw;split
 ·next hr=>simp[Y.jS] at hr;unfold Y.wr at *;omega
 ·omega
theorem du {a z:Int}{s s':Y.St}(e:Y.ah (Y.rd a) s=(z,s')):s'.left=s.left-1:=by
 have h:=Y.uc (.rd a) s;have e2:(Y.oT (.rd a) s).2=s':=congrArg Prod.snd e;rw[e2] at h;exact h
theorem dv {t:Y.Tr α}{z:α}{s s':Y.St}(e:Y.ah t s=(z,s')):s'.left≤s.left:=by
 have h:=Y.E8 t s;rw[e] at h;exact h
theorem iU {s:Y.St}(h:s.off=false):1≤s.left:=by unfold Y.St.left;rw[h];simp
theorem MN {a w:Int}{f:Nat}{s:Y.St}(h:s.off=true∨Y.kd w≠5):Y.ah (Y.sE a f w) s=(w,s):=by
 cases f with
 |zero=>rfl
 |succ f=>
  show Y.ah (if(!s.off)=true∧Y.kd w=5 then _ else pure w) s=_
  rw[if_neg (by rcases h with h|h<;>simp[h])];rfl
theorem PO {a w:Int}{f:Nat}{s:Y.St}(h:s.off=false)(k:Y.kd w=5):Y.ah (Y.sE a (f+1) w) s=Y.ah (Y.uH (Y.aw w) >>= λ_=>Y.rd a >>= λw'=>Y.sE a f w') s:=by
 show Y.ah (if(!s.off)=true∧Y.kd w=5 then _ else pure w) s=_
 rw[if_pos (by simp[h,k])]
theorem He (h:JX K p st H){f:Nat}(hf:st.left≤f+1)(a:Int):aF (run G) 115 [pv p,cv a] H (oW K p st (Y.kK f a)):=by
 refine Ev.up (t:=λn=>XD (run G n) n (pv p) (cv a) H) ?_ λn=>Sj ..
 simp -implicitDefEqProofs only[XD,sS,Nat.reduceAdd];refine Ev.fe (df h a) λz0 s0 H0 e0 YA=>?_
 have l0:=du e0;have E0:Y.ah (Y.kK f a) st=Y.ah (Y.sE a f z0) s0:=by simp only[Y.kK,Y.al,bn,bG,bM,cW,cX,ne_eq,not_true_eq_false,not_false_eq_true,if_true,if_false,Bool.not_true,Bool.not_false,true_and,and_true,false_and,and_false,true_or,or_true,false_or,or_false,Bool.false_eq_true,decide_true,decide_false,e0]
 refine Ev.loop (k:=s0.left) (λk vs Hx=>∃(z:Int) (d:Value) (sx:Y.St) (fx:Nat),vs=[pv p,cv a,cv 0,cv z,d]∧JX K p sx Hx∧k=sx.left∧sx.left≤fx∧Y.ah (Y.kK f a) st=Y.ah (Y.sE a fx z) sx)
  (λr=>r.1= .exit 0∧∃(z:Int) (d:Value) (sx:Y.St),r.2.1=[pv p,cv a,cv 0,cv z,d]∧JX K p sx r.2.2∧Y.ah (Y.kK f a) st=(z,sx)) ⟨z0,_,s0,f,rfl,YA,rfl,by omega,E0⟩ ?_ ?_
 ·rintro k vs Hx ⟨z,d,sx,fx,rfl,hj,rfl,hfx,E⟩;simp -implicitDefEqProofs only[LJ,yb,sS,Nat.reduceAdd];have out:(sx.off=true∨Y.kd z≠5)→Y.ah (Y.kK f a) st=(z,sx):=λhn=>by rw[E];exact MN hn
  refine Ev.nZ hj (λhq=>?_) (λhq=>?_)<;>try simp -implicitDefEqProofs only[sS,Nat.reduceAdd]
  ·exact Ev.ret (.inr ⟨by simp,rfl,z,_,sx,rfl,hj,out (.inl hq)⟩)
  refine Ev.is (hX _) ?_
  try simp -implicitDefEqProofs only[sS,Nat.reduceAdd]
  refine Ev.eql (λhk=>?_) (λhk=>?_)<;>try simp -implicitDefEqProofs only[sS,Nat.reduceAdd]
  ·refine Ev.is (n3 _) ?_;refine Ev.ZV (PN hj (qm _)) λv u s1 H1 e1 fK=>?_
   try simp -implicitDefEqProofs only[sS,Nat.reduceAdd]
   refine Ev.fe (df fK a) λz2 s2 H2 e2 fP=>?_
   try simp -implicitDefEqProofs only[sS,Nat.reduceAdd]
   have l1:=dv e1;have l2:=du e2;have l3:=iU hq;obtain⟨fy,rfl⟩: ∃fy,fx=fy+1:=⟨fx-1,by omega⟩
   refine Ev.ret (.inl ⟨rfl,s2.left,by omega,z2,_,s2,fy,rfl,fP,rfl,by omega,?_⟩)
   rw[E,PO hq hk];simp only[Y.al,bn,bG,bM,cW,cX,ne_eq,not_true_eq_false,not_false_eq_true,if_true,if_false,Bool.not_true,Bool.not_false,true_and,and_true,false_and,and_false,true_or,or_true,false_or,or_false,Bool.false_eq_true,decide_true,decide_false,e1,e2]
  ·exact Ev.ret (.inr ⟨by simp,rfl,z,_,sx,rfl,hj,out (.inr hk)⟩)
 ·rintro e vs H1 ⟨rfl,z,d,sx,rfl,hj,E⟩;simp -implicitDefEqProofs only[LK,yc,sS,Nat.reduceAdd];exact Ev.ret (oW.of hj E)
theorem JX.ac9 (h:JX K p st H)(z:Int): ∃H',bE 1 (.pointer (some ⟨p,8,none⟩)) (cv z) H=some (undef,H')∧JX K p {st with oS:=z} H':=by
 obtain⟨hK,o,⟨tape,w,T,W,i,nk,na,nx,ny,ty,g,ho,ht,hT,hw,hr⟩,hk⟩:=h;have S:=gY p 8 z H g rfl (by simp)
 simp only[List.set_cons_succ,List.set_cons_zero] at S;have f2:Fr H o (H.put p ⟨[tape,cv i,.bool st.off,cv nk,cv na,cv nx,cv ny,w,cv z,cv st.laid],ty,1,false⟩) o [(p:Int)]:=(Fr.refl H o _).put λ_=>by simp[ho]
 exact⟨_,S,hK,o,⟨tape,w,T,W,i,nk,na,nx,ny,ty,aG g,ho,ht.fr f2 (by simp),hT,hw.fr f2 (by simp),hr⟩,hK _ _ _ _ hk f2⟩
theorem JX.ada (h:JX K p st H)(z:Int): ∃H',bE 1 (.pointer (some ⟨p,9,none⟩)) (cv z) H=some (undef,H')∧JX K p {st with laid:=z} H':=by
 obtain⟨hK,o,⟨tape,w,T,W,i,nk,na,nx,ny,ty,g,ho,ht,hT,hw,hr⟩,hk⟩:=h;have S:=gY p 9 z H g rfl (by simp)
 simp only[List.set_cons_succ,List.set_cons_zero] at S;have f2:Fr H o (H.put p ⟨[tape,cv i,.bool st.off,cv nk,cv na,cv nx,cv ny,w,cv st.oS,cv z],ty,1,false⟩) o [(p:Int)]:=(Fr.refl H o _).put λ_=>by simp[ho]
 exact⟨_,S,hK,o,⟨tape,w,T,W,i,nk,na,nx,ny,ty,aG g,ho,ht.fr f2 (by simp),hT,hw.fr f2 (by simp),hr⟩,hK _ _ _ _ hk f2⟩
theorem JX.adb (h:JX K p st H):aq (.pointer (some ⟨p,8,none⟩)) H=some (cv st.oS):=by
 obtain⟨hK,o,⟨tape,w,T,W,i,nk,na,nx,ny,ty,g,_⟩,_⟩:=h;exact an p 8 H g
section
variable {k:Nat→Value→aa→Option β} {Q:β→Prop}
theorem Ev.U1 {z:Int}(h:JX K p st H)(hk: ∀H',JX K p {st with oS:=z} H'→Ev (λn=>k n undef H') Q):Ev (λn=>af (bE 1 (.pointer (some ⟨p,8,none⟩)) (cv z) H) (k n)) Q:=by
 obtain⟨H',e,hj⟩:=h.ac9 z;rw[e];exact hk H' hj
theorem Ev.aaV {z:Int}(h:JX K p st H)(hk: ∀H',JX K p {st with laid:=z} H'→Ev (λn=>k n undef H') Q):Ev (λn=>af (bE 1 (.pointer (some ⟨p,9,none⟩)) (cv z) H) (k n)) Q:=by
 obtain⟨H',e,hj⟩:=h.ada z;rw[e];exact hk H' hj
theorem Ev.U2 (h:JX K p st H)(hk:Ev (λn=>k n (cv st.oS) H) Q):Ev (λn=>af (pS (aq (.pointer (some ⟨p,8,none⟩)) H) H) (k n)) Q:=by
 rw[h.adb];exact hk
end
theorem Da (h:JX K p st H)(a b c d:Int):aF (run G) 116 [pv p,cv a,cv b,cv c,cv d] H (oW K p st (Y.sF a b c d)):=by
 refine Ev.up (t:=λn=>WC (run G n) n (pv p) (cv a) (cv b) (cv c) (cv d) H) ?_ λn=>RK ..
 simp -implicitDefEqProofs only[WC,KY,xu,sS,Nat.reduceAdd];repeat' (first| (refine Ev.ret (oW.of ‹_› ?_);(try simp only[cP] at *);simp only[Y.sF,Y.al,bn,bG,bM,cW,cX,ne_eq,not_true_eq_false,not_false_eq_true,if_true,if_false,Bool.not_true,Bool.not_false,true_and,and_true,false_and,and_false,true_or,or_true,false_or,or_false,Bool.false_eq_true,decide_true,decide_false, *];done)| ((with_reducible first|refine Ev.eql (λhq=>?_) (λhq=>?_)|refine Ev.neq (λhq=>?_) (λhq=>?_)|refine Ev.is (n5 _ _) ?_ |refine Ev.fe (df ‹_› _) λz s1 Hz ez hj=>?_ |refine Ev.PK (Fe ‹_› _ _ _) λz s1 Hz ez hj=>?_ |refine Ev.sH (nE ‹_›) λz s1 Hz ez hj=>?_ |refine Ev.Tl (Ff ‹_› _ _ _ _) λw Hz hj=>?_ |refine Ev.U1 ‹_› λHz hj=>?_ |refine Ev.brN (λhq=>?_) (λhq=>?_))<;>try simp -implicitDefEqProofs only[sS,Nat.reduceAdd]))
end
end Go.Proofs.YtgfgglponbmgmaaGreat.Fun
end
section
namespace Go.Proofs.YtgfgglponbmgmaaGreatA.Y
structure Mm where
 cs:List Int
 max:Nat
def Mm.used (m:Mm)(a:Int):Prop:=1≤a∧a≤m.cs.length
instance (m:Mm) (a:Int):Decidable (m.used a):=by unfold Mm.used;infer_instance
def Mm.at (m:Mm)(a:Int):Int:=if m.used a then m.cs.getD (a-1).toNat 0 else 0
def Mm.set (m:Mm)(a x:Int):Mm:=if m.used a then⟨m.cs.set (a-1).toNat x,m.max⟩ else m
def db (m:Mm):Ask→Int×Mm
 | .rd a=>(m.at a,m)
 | .wr a x=>(0,m.set a x)
 | .cs a o x=>if m.used a∧m.at a=o then(1,m.set a x) else(0,m)
 | .ad a d=>if m.used a then(m.at a,m.set a (wr (m.at a+d))) else(0,m)
 | .mk w=>if w=[]∨w.length+m.cs.length>m.max then(0,m) else(m.cs.length+1,⟨m.cs++w,m.max⟩)
@[simp] theorem wa (m:Mm)(a x:Int):(m.set a x).cs.length=m.cs.length:=by
 unfold Mm.set;split<;>simp
@[simp] theorem JD (m:Mm)(a x:Int):(m.set a x).max=m.max:=by
 unfold Mm.set;split<;>simp
theorem zi (m:Mm)(a x b:Int):(m.set a x).used b↔m.used b:=by simp[Mm.used]
theorem gJ {m:Mm}{a x:Int}(h:m.used a):(m.set a x).at a=x:=by
 have h':=(zi m a x a).2 h;unfold Mm.at;rw[if_pos h'];unfold Mm.set;rw[if_pos h];unfold Mm.used at h;simp only[List.getD_eq_getElem?_getD];rw[List.getElem?_set_self (by omega)];rfl
theorem aH {m:Mm}{a x b:Int}(h:b≠a):(m.set a x).at b=m.at b:=by
 unfold Mm.at;by_cases hb:m.used b
 ·rw[if_pos ((zi m a x b).2 hb),if_pos hb];unfold Mm.set;split
  ·next ha=>
   unfold Mm.used at ha hb;simp only[List.getD_eq_getElem?_getD];rw[List.getElem?_set_ne (by omega)]
  ·rfl
 ·rw[if_neg (λh=>hb ((zi m a x b).1 h)),if_neg hb]
theorem Hf {cs w:List Int}{mx:Nat}{b:Int}(h:b≤cs.length):(Mm.mk (cs++w) mx).at b=(Mm.mk cs mx).at b:=by
 unfold Mm.at;by_cases h1:1≤b
 ·have u1:(Mm.mk (cs++w) mx).used b:=⟨h1,by simp;omega⟩
  have u2:(Mm.mk cs mx).used b:=⟨h1,h⟩;rw[if_pos u1,if_pos u2];simp only[List.getD_eq_getElem?_getD];rw[List.getElem?_append_left (by omega)]
 ·have u1: ¬(Mm.mk (cs++w) mx).used b:=λk=>h1 k.1
  have u2: ¬(Mm.mk cs mx).used b:=λk=>h1 k.1
  rw[if_neg u1,if_neg u2]
theorem PQ {cs w:List Int}{mx:Nat}{j:Nat}(h:j<w.length):(Mm.mk (cs++w) mx).at (cs.length+1+j)=w.getD j 0:=by
 have u1:(Mm.mk (cs++w) mx).used (cs.length+1+j):=⟨by omega,by simp;omega⟩
 unfold Mm.at;rw[if_pos u1];simp only[List.getD_eq_getElem?_getD];rw[List.getElem?_append_right (by omega)]
 congr 2;omega
inductive Rec where
 |leaf
 |empty
 |inner (d:Nat) (path:List Nat)
 |bW (c s:Int)
 |eD (s old new:Int) (by':Nat)
def Rec.size:Rec→Nat
 | .leaf=>2
 | .empty=>1
 | .inner d _=>2*d+4
 | .bW .. =>5
 | .eD .. =>5
structure Ga where
 ty:Int→Option Rec
 nz:Int→Prop
 shut:Int→Prop
 dB:Int→Int→Prop
 inst:Int→Prop
 ml:Int→Prop
 pG:Int→Int→Prop
structure Ga.le (G G':Ga):Prop where
 ty: ∀a r,G.ty a=some r→G'.ty a=some r
 nz: ∀s,G.nz s→G'.nz s
 shut: ∀c,G.shut c→G'.shut c
 dB: ∀s w,G.dB s w→G'.dB s w
 inst: ∀e,G.inst e→G'.inst e
 ml: ∀e,G.ml e→G'.ml e
 pG: ∀e o,G.pG e o→G'.pG e o
theorem Ga.le.refl (G:Ga):G.le G:=⟨λ_ _ h=>h,λ_ h=>h,λ_ h=>h,λ_ _ h=>h,λ_ h=>h,λ_ h=>h,λ_ _ h=>h⟩
theorem Ga.le.trans {A B C:Ga}(h:A.le B)(k:B.le C):A.le C:=
 ⟨λa r x=>k.ty a r (h.ty a r x),λa x=>k.nz a (h.nz a x),λa x=>k.shut a (h.shut a x),λa b x=>k.dB a b (h.dB a b x),λa x=>k.inst a (h.inst a x),λa x=>k.ml a (h.ml a x),λa b x=>k.pG a b (h.pG a b x)⟩
def bY (c:Int)(d i:Nat):Int:=c+4+d+i
def aQ (G:Ga)(s o:Int)(p:List Nat):Prop:=∃d q i,G.ty o=some (.inner d q)∧i<d∧s=bY o d i∧p=q++[i]
def full (G:Ga)(c:Int)(d:Nat):Prop:=∀i,i<d→G.nz (bY c d i)
def n6 (G:Ga)(w:Int):Prop:=w≤524296∧∃r,G.ty (aw w)=some r
def di (G:Ga)(p:List Nat)(w:Int):Prop:=
 n6 G w∧(kd w=1∨kd w=2∨(kd w=3∧∃d,G.ty (aw w)=some (.inner d p)∧full G (aw w) d)∨
 (kd w=4∧∃c s o d,G.ty (aw w)=some (.bW c s)∧aQ G s o p∧G.ty c=some (.inner d p)∧full G c d))
def Bo (G:Ga)(s:Int)(p:List Nat)(w:Int):Prop:=
 w≤524296∧((w=0∧¬G.nz s)∨(G.nz s∧(di G p w∨(kd w=5∧G.inst (aw w)∧∃old new b,G.ty (aw w)=some (.eD s old new b)))))
mutual
inductive sJ (G:Ga):Int→Nat→Prop where
 |mk {c d p n} (h:G.ty c=some (.inner d p)) (hs:G.shut c) (k:gy G c d d n):sJ G c n
inductive gy (G:Ga):Int→Nat→Nat→Nat→Prop where
 |zero {c d}:gy G c d 0 0
 |leaf {c d i n w} (h:gy G c d i n) (hf:G.dB (bY c d i) w) (hk:kd w=2):gy G c d (i+1) (n+1)
 |inner {c d i n w k} (h:gy G c d i n) (hf:G.dB (bY c d i) w) (hk:kd w=3) (hc:sJ G (aw w) k):gy G c d (i+1) (n+k)
 |bW {c d i n w k c' s} (h:gy G c d i n) (hf:G.dB (bY c d i) w) (hk:kd w=4) (ht:G.ty (aw w)=some (.bW c' s)) (hc:sJ G c' k):gy G c d (i+1) (n+k)
 |empty {c d i n w} (h:gy G c d i n) (hf:G.dB (bY c d i) w) (hk:kd w=1):gy G c d (i+1) n
end
def As (G:Ga)(c:Int)(p:List Nat)(x:Int):Prop:=
 x≤524296∧∃n,sJ G c n∧(n≥2→kd x=3∧G.ty (aw x)=some (.inner (max (bq n) 1).toNat p))∧(n<2→di G p x)
def YB (G:Ga)(f:Int→Int)(e s:Int):Prop:=
 (f (e+4)=0∧(G.inst e→f s=fm 5 e))∨(f (e+4)=1∧G.inst e∧G.ml e)∨(f (e+4)=2∧G.inst e)
def At (G:Ga)(f:Int→Int)(c:Int):Rec→Prop
 | .leaf=>True
 | .empty=>True
 | .inner d p=>1≤d∧f c=d∧((f (c+2)=0∧¬G.shut c)∨(f (c+2)=1∧G.shut c))∧(f (c+4)=0∨∃n:Nat,f (c+4)=n+1∧sJ G c n)∧
   ∀i,i<d→Bo G (bY c d i) (p++[i]) (f (bY c d i))
 | .bW t s=>∃o p d,aQ G s o p∧G.ty t=some (.inner d p)∧full G t d∧kd (f c)=3∧aw (f c)=t∧f (c+1)=o+2∧f (c+2)=s∧((f (c+3)=0∧¬G.nz (c+3))∨(f (c+3)≠0∧G.nz (c+3)∧As G t p (f (c+3))))
 | .eD s old new _=>∃o p,aQ G s o p∧di G p old∧di G p new∧f c=o+2∧f (c+1)=s∧f (c+2)=old∧f (c+3)=new∧YB G f c s∧∀o,G.pG c o↔(f (c+4)=o∧o≠0)
structure oY (G:Ga) (f:Int→Int) (s w:Int):Prop where
 fit: ∃o p,aQ G s o p∧G.shut o∧di G p w
 now:f s=w∨(kd (f s)=5∧∃new b,G.ty (aw (f s))=some (.eD s w new b)∧f (aw (f s)+4)≠1)
 old: ∀e old new b,G.ty e=some (.eD s old new b)→G.ml e→f (e+4)≠0
structure bs (G:Ga) (m:Mm):Prop where
 room: ∀a r,G.ty a=some r→1≤a∧a+r.size≤m.cs.length+1
 PR: ∀a r b q,G.ty a=some r→G.ty b=some q→a≠b→a+r.size≤b∨b+q.size≤a
 iD: ∀c r,G.ty c=some r→At G m.at c r
 dB: ∀s w,G.dB s w→oY G m.at s w
 ml: ∀e,G.ml e→G.inst e
 inst: ∀e,G.inst e→∃s old new b,G.ty e=some (.eD s old new b)
 fresh:(∀s,G.nz s→s≤m.cs.length)∧(∀c,G.shut c→c≤m.cs.length)∧(∀e o,G.pG e o→e≤m.cs.length)
 top:m.cs.length≤m.max∧m.max≤16384
variable {G G':Ga} {m:Mm} {f f':Int→Int} {c s o:Int} {p:List Nat} {w:Int}
theorem zj {k a:Int}(hk:1≤k∧k≤5)(ha:1≤a∧a≤65536):jS (fm k a)=true:=by
 unfold fm jS wr;rw[if_neg (by omega)]
 simp;omega
theorem iE {k a:Int}(hk:1≤k∧k≤5)(ha:1≤a∧a≤65536):kd (fm k a)=k:=by
 unfold kd;rw[if_pos (zj hk ha)];unfold fm;rw[if_neg (by omega)];omega
theorem jb {k a:Int}(hk:1≤k∧k≤5)(ha:1≤a∧a≤65536):aw (fm k a)=a:=by
 unfold aw;rw[if_pos (zj hk ha)];unfold fm wr;rw[if_neg (by omega)];omega
theorem sK:kd 0=0:=by decide
theorem di.kd (h:di G p w):kd w=1∨kd w=2∨kd w=3∨kd w=4:=by
 rcases h.2 with h|h|⟨h,_⟩|⟨h,_⟩<;>simp[h]
theorem Hg (k a:Int):fm k a≤524296:=by unfold fm;split<;>omega
theorem di.Q9 (h:di G p w):Y.kd w≠5:=by have:=h.kd;omega
theorem di.U3 (h:di G p w):w≠0:=by
 rintro rfl;have:=h.kd;rw[sK] at this;omega
theorem aQ.mono (g:G.le G')(h:aQ G s o p):aQ G' s o p:=by
 obtain⟨d,q,i,h1,h2⟩:=h;exact⟨d,q,i,g.ty _ _ h1,h2⟩
theorem full.mono {d:Nat}(g:G.le G')(h:full G c d):full G' c d:=λi hi=>g.nz _ (h i hi)
theorem n6.mono (g:G.le G')(h:n6 G w):n6 G' w:=by
 obtain⟨h1,r,h2⟩:=h;exact⟨h1,r,g.ty _ _ h2⟩
theorem n6.fm {k a:Int}{r:Rec}(hk:1≤k∧k≤5)(ha:1≤a∧a≤65536)(h:G.ty a=some r):n6 G (fm k a):=⟨Hg _ _,r,by rw[jb hk ha];exact h⟩
theorem di.mono (g:G.le G')(h:di G p w):di G' p w:=by
 refine⟨h.1.mono g,?_⟩;rcases h.2 with h|h|⟨h,d,h1,h2⟩|⟨h,c,s,o,d,h1,h2,h3,h4⟩
 ·exact .inl h
 ·exact .inr (.inl h)
 ·exact .inr (.inr (.inl ⟨h,d,g.ty _ _ h1,full.mono g h2⟩))
 ·exact .inr (.inr (.inr ⟨h,c,s,o,d,g.ty _ _ h1,h2.mono g,g.ty _ _ h3,full.mono g h4⟩))
mutual
theorem sJ.mono (g:G.le G'): ∀{c n},sJ G c n→sJ G' c n
 |_,_,.mk h hs k=>.mk (g.ty _ _ h) (g.shut _ hs) (gy.mono g k)
theorem gy.mono (g:G.le G'): ∀{c d i n},gy G c d i n→gy G' c d i n
 |_,_,_,_,.zero=>.zero
 |_,_,_,_,.leaf h hf hk=>.leaf (gy.mono g h) (g.dB _ _ hf) hk
 |_,_,_,_,.inner h hf hk hc=>.inner (gy.mono g h) (g.dB _ _ hf) hk (sJ.mono g hc)
 |_,_,_,_,.bW h hf hk ht hc=>.bW (gy.mono g h) (g.dB _ _ hf) hk (g.ty _ _ ht) (sJ.mono g hc)
 |_,_,_,_,.empty h hf hk=>.empty (gy.mono g h) (g.dB _ _ hf) hk
end
theorem As.mono (g:G.le G')(h:As G c p w):As G' c p w:=by
 obtain⟨h0,n,h1,h2,h3⟩:=h;exact⟨h0,n,h1.mono g,λk=>⟨(h2 k).1,g.ty _ _ (h2 k).2⟩,λk=>(h3 k).mono g⟩
theorem Bo.mono (g:G.le G')(hn:G'.nz s→G.nz s)(h:Bo G s p w):Bo G' s p w:=by
 refine⟨h.1,?_⟩;rcases h.2 with⟨h1,h2⟩|⟨h1,h2|⟨h2,h3,old,new,b,h4⟩⟩
 ·exact .inl ⟨h1,λk=>h2 (hn k)⟩
 ·exact .inr ⟨g.nz _ h1,.inl (h2.mono g)⟩
 ·exact .inr ⟨g.nz _ h1,.inr ⟨h2,g.inst _ h3,old,new,b,g.ty _ _ h4⟩⟩
theorem bs.cell (h:bs G m){a b:Int}{r q:Rec}(ha:G.ty a=some r)(hb:G.ty b=some q){i j:Int}(hi:0≤i∧i<r.size)(hj:0≤j∧j<q.size)(e:a+i=b+j):a=b:=by
 refine Decidable.byContradiction λdC=>?_
 have:=h.PR a r b q ha hb dC
 omega
theorem aQ.lt (h:aQ G s o p): ∃d q j,G.ty o=some (.inner d q)∧s=o+j∧5≤j∧j<(Rec.inner d q).size:=by
 obtain⟨d,q,i,h1,h2,h3,h4⟩:=h;refine⟨d,q,4+d+i,h1,by rw[h3];unfold bY;omega,?_,?_⟩
 ·omega
 ·simp[Rec.size];omega
theorem aQ.uniq (h:bs G m){o':Int}{p':List Nat}(a:aQ G s o p)(b:aQ G s o' p'):o=o'∧p=p':=by
 obtain⟨d,q,j,h1,h2,h3,h4⟩:=a.lt;obtain⟨d',q',j',k1,k2,k3,k4⟩:=b.lt;have e:=h.cell h1 k1 (i:=j) (j:=j') ⟨by omega,h4⟩ ⟨by omega,k4⟩ (by omega)
 subst e;refine⟨rfl,?_⟩;obtain⟨d,q,i,g1,g2,g3,g4⟩:=a;obtain⟨d',q',i',l1,l2,l3,l4⟩:=b;rw[g1] at l1;cases l1;rw[g4,l4];unfold bY at g3 l3;have:i=i':=by omega
 rw[this]
theorem bs.aaW (h:bs G m)(a:aQ G s o p):Bo G s p (m.at s):=by
 obtain⟨d,q,i,h1,h2,h3,h4⟩:=a;have:=(h.iD _ _ h1).2.2.2.2 i h2
 rw[h3,h4];exact this
theorem bs.slot (h:bs G m)(a:aQ G s o p):(m.at s=0∧¬G.nz s)∨(G.nz s∧(di G p (m.at s)∨(kd (m.at s)=5∧G.inst (aw (m.at s))∧∃old new b,G.ty (aw (m.at s))=some (.eD s old new b)))):=(h.aaW a).2
theorem At.keep {r:Rec}(g:G.le G')(h:At G f c r)(hf: ∀j:Int,0≤j→j<r.size→f' (c+j)=f (c+j))(NB: ∀d p i,r= .inner d p→i<d→G'.nz (bY c d i)→G.nz (bY c d i))(hnr: ∀t s,r= .bW t s→G'.nz (c+3)→G.nz (c+3))(Tm:G'.shut c→G.shut c)(kY: ∀o,G'.pG c o→G.pG c o)(qU:G'.inst c→G.inst c)(hs: ∀s old new b,r= .eD s old new b→G.inst c→f (c+4)=0→f' s=f s):At G' f' c r:=by
 have h0: ∀{j:Int},j=0→0<r.size→f' c=f c:=λ_ k=>by have:=hf 0 (by omega) (by omega);simpa using this
 cases r with
 |leaf=>trivial
 |empty=>trivial
 |inner d p=>
  obtain⟨h1,h2,h3,h4,h5⟩:=h;have e2:=hf 2 (by omega) (by simp[Rec.size];omega)
  have e4:=hf 4 (by omega) (by simp[Rec.size];omega)
  refine⟨h1,by rw[h0 rfl (by simp[Rec.size])];exact h2,?_,?_,?_⟩
  ·rw[e2];rcases h3 with⟨a,b⟩|⟨a,b⟩
   ·exact .inl ⟨a,λk=>b (Tm k)⟩
   ·exact .inr ⟨a,g.shut _ b⟩
  ·rw[e4];rcases h4 with a|⟨n,a,b⟩
   ·exact .inl a
   ·exact .inr ⟨n,a,b.mono g⟩
  ·intro i hi;have e:f' (bY c d i)=f (bY c d i):=by
    have:=hf (4+d+i) (by omega) (by simp[Rec.size];omega)
    have e:bY c d i=c+(4+d+i):=by unfold bY;omega
    rw[e];exact this
   rw[e];exact(h5 i hi).mono g (NB d p i rfl hi)
 |bW t s=>
  obtain⟨o,p,d,h1,h2,h3,h4,h5,h6,h7,h8⟩:=h;have e1:=hf 1 (by omega) (by simp[Rec.size])
  have e2:=hf 2 (by omega) (by simp[Rec.size])
  have e3:=hf 3 (by omega) (by simp[Rec.size])
  have e0:=h0 rfl (by simp[Rec.size])
  refine⟨o,p,d,h1.mono g,g.ty _ _ h2,full.mono g h3,by rw[e0];exact h4,by rw[e0];exact h5,by rw[e1];exact h6,by rw[e2];exact h7,?_⟩
  rw[e3];rcases h8 with⟨a,b⟩|⟨a,b,d⟩
  ·exact .inl ⟨a,λk=>b (hnr t s rfl k)⟩
  ·exact .inr ⟨a,g.nz _ b,d.mono g⟩
 |eD s old new b=>
  obtain⟨o,p,h1,h2,h3,h4,h5,h6,h7,h8,h9⟩:=h;have e1:=hf 1 (by omega) (by simp[Rec.size])
  have e2:=hf 2 (by omega) (by simp[Rec.size])
  have e3:=hf 3 (by omega) (by simp[Rec.size])
  have e4:=hf 4 (by omega) (by simp[Rec.size])
  have e0:=h0 rfl (by simp[Rec.size])
  refine⟨o,p,h1.mono g,h2.mono g,h3.mono g,by rw[e0];exact h4,by rw[e1];exact h5,by rw[e2];exact h6,by rw[e3];exact h7,?_,?_⟩
  ·unfold YB;rw[e4];rcases h8 with⟨a,k⟩|⟨a,k,l⟩|⟨a,k⟩
   ·exact .inl ⟨a,λi=>by rw[hs s old new b rfl (qU i) a];exact k (qU i)⟩
   ·exact .inr (.inl ⟨a,g.inst _ k,g.ml _ l⟩)
   ·exact .inr (.inr ⟨a,g.inst _ k⟩)
  ·intro o;rw[e4, ←h9 o];exact⟨kY o,g.pG _ _⟩
theorem oY.keep (g:G.le G')(h:oY G f s w)(hs:f' s=f s)(he:kd (f s)=5→f' (aw (f s)+4)=f (aw (f s)+4))(ho: ∀e old new b,G'.ty e=some (.eD s old new b)→G'.ml e→G.ml e∧G.ty e=some (.eD s old new b)∧(f (e+4)≠0→f' (e+4)≠0)):oY G' f' s w:=by
 obtain⟨⟨o,p,h1,h2,h3⟩,h4,h5⟩:=h;refine⟨⟨o,p,h1.mono g,g.shut _ h2,h3.mono g⟩,?_,?_⟩
 ·rw[hs];rcases h4 with a|⟨a,new,b,k,l⟩
  ·exact .inl a
  ·exact .inr ⟨a,new,b,g.ty _ _ k,by rw[he a];exact l⟩
 ·intro e old new b k l;obtain⟨a1,a2,a3⟩:=ho e old new b k l;exact a3 (h5 e old new b a2 a1)
end Go.Proofs.YtgfgglponbmgmaaGreatA.Y
end
