/- Texts of the proof of linearCut_holds, put together by a small program of ours (names shortened, spaces taken out). No condition beyond the given statement. -/
import Derived.Test.YtjgmnoaalbbonaaGreatLCT15
import Derived.Test.YtjgmnoaalbbonaaGreatLCT16
import Derived.Test.YtjgmnoaalbbonaaGreatLCT17
import Derived.Test.YtjgmnoaalbbonaaGreatLCT18
import Derived.Test.YtjgmnoaalbbonaaGreatLCT19
import Derived.Test.YtjgmnoaalbbonaaGreatLCT21
import Derived.Test.YtjgmnoaalbbonaaGreatLCT22
import Derived.Test.YtjgmnoaalbbonaaGreatLCT28
import Derived.Test.YtjgmnoaalbbonaaGreatLCT20
set_option linter.unusedVariables false
set_option linter.unusedSimpArgs false
set_option linter.unnecessarySimpa false
noncomputable section
section
namespace Go.Proofs.YtjgmnoaalbbonaaGreat.Fun
open Go Go.RowKit Go.Proofs.YtjgmnoaalbbonaaGreatA.Am
set_option maxRecDepth 10000
section
variable {G:ae} {H H':aa} {o o':aj} {p m:Nat} {K:aa→aj→Prop}
theorem IU (a:Int):bA (run G) 112 [cv a] H (aa0 H):=by
 refine Ev.up (t:=λn=>OQ (run G n) n (cv a) H) ?_ λn=>Iy ..
 simp -implicitDefEqProofs only[OQ,sS,Nat.reduceAdd];repeat' (first| (refine Ev.ret ?_;exact⟨⟨_,rfl⟩,rfl⟩)| ((with_reducible first|refine Ev.lss (λhq=>?_) (λhq=>?_)|refine Ev.gtr (λhq=>?_) (λhq=>?_)|refine Ev.leq (λhq=>?_) (λhq=>?_)|refine Ev.geq (λhq=>?_) (λhq=>?_)|refine Ev.eql (λhq=>?_) (λhq=>?_)|refine Ev.neq (λhq=>?_) (λhq=>?_)|refine Ev.off ‹_› (λhq=>?_) (λhq=>?_)|refine Ev.num (cE ‹_› _) λz Hz mz hj hm=>?_ |refine Ev.num (eM ‹_› _ _) λz Hz mz hj hm=>?_ |refine Ev.bool (eN ‹_› _ _ _) λz Hz mz hj hm=>?_ |refine Ev.un (cz ‹_› _ _) λz Hz mz hj hm=>?_ |refine Ev.dq (dc ‹_›) λz zb Hz mz hj hm=>?_ |refine Ev.br (λhq=>?_) (λhq=>?_))<;>try simp -implicitDefEqProofs only[sS,Nat.reduceAdd]))
theorem dj (a:Int):bA (run G) 92 [cv a] H (zI H):=by
 refine Ev.up (t:=λn=>F92 (run G n) n (cv a) H) ?_ λn=>OU ..
 simp -implicitDefEqProofs only[F92,sS,Nat.reduceAdd];refine Ev.call (IU a) ?_;rintro v H' ⟨⟨b,rfl⟩,rfl⟩;cases b<;>simp -implicitDefEqProofs only[sS,Nat.reduceAdd]<;>exact Ev.ret ⟨⟨_,rfl⟩,rfl⟩
theorem gT (a:Int):bA (run G) 91 [cv a] H (zI H):=by
 refine Ev.up (t:=λn=>F91 (run G n) n (cv a) H) ?_ λn=>Oj ..
 simp -implicitDefEqProofs only[F91,sS,Nat.reduceAdd];refine Ev.call (IU a) ?_;rintro v H' ⟨⟨b,rfl⟩,rfl⟩;cases b<;>simp -implicitDefEqProofs only[sS,Nat.reduceAdd]<;>exact Ev.ret ⟨⟨_,rfl⟩,rfl⟩
theorem hX (k a:Int):bA (run G) 63 [cv k,cv a] H (zI H):=by
 refine Ev.up (t:=λn=>F63 (run G n) n (cv k) (cv a) H) ?_ λn=>Oy ..
 simp -implicitDefEqProofs only[F63,sS,Nat.reduceAdd];repeat' (first| (refine Ev.ret ?_;exact⟨⟨_,rfl⟩,rfl⟩)| ((with_reducible first|refine Ev.lss (λhq=>?_) (λhq=>?_)|refine Ev.gtr (λhq=>?_) (λhq=>?_)|refine Ev.leq (λhq=>?_) (λhq=>?_)|refine Ev.geq (λhq=>?_) (λhq=>?_)|refine Ev.eql (λhq=>?_) (λhq=>?_)|refine Ev.neq (λhq=>?_) (λhq=>?_)|refine Ev.off ‹_› (λhq=>?_) (λhq=>?_)|refine Ev.az (dj _) λz=>?_ |refine Ev.az (gT _) λz=>?_ |refine Ev.az (hX _ _) λz=>?_ |refine Ev.num (cE ‹_› _) λz Hz mz hj hm=>?_ |refine Ev.num (eM ‹_› _ _) λz Hz mz hj hm=>?_ |refine Ev.bool (eN ‹_› _ _ _) λz Hz mz hj hm=>?_ |refine Ev.un (cz ‹_› _ _) λz Hz mz hj hm=>?_ |refine Ev.dq (dc ‹_›) λz zb Hz mz hj hm=>?_ |refine Ev.br (λhq=>?_) (λhq=>?_))<;>try simp -implicitDefEqProofs only[sS,Nat.reduceAdd]))
theorem pO (a:Int):bA (run G) 113 [cv a] H (aa0 H):=by
 refine Ev.up (t:=λn=>Wa (run G n) n (cv a) H) ?_ λn=>Rl ..
 simp -implicitDefEqProofs only[Wa,sS,Nat.reduceAdd];repeat' (first| (refine Ev.ret ?_;exact⟨⟨_,rfl⟩,rfl⟩)| ((with_reducible first|refine Ev.lss (λhq=>?_) (λhq=>?_)|refine Ev.gtr (λhq=>?_) (λhq=>?_)|refine Ev.leq (λhq=>?_) (λhq=>?_)|refine Ev.geq (λhq=>?_) (λhq=>?_)|refine Ev.eql (λhq=>?_) (λhq=>?_)|refine Ev.neq (λhq=>?_) (λhq=>?_)|refine Ev.off ‹_› (λhq=>?_) (λhq=>?_)|refine Ev.az (dj _) λz=>?_ |refine Ev.az (gT _) λz=>?_ |refine Ev.az (hX _ _) λz=>?_ |refine Ev.num (cE ‹_› _) λz Hz mz hj hm=>?_ |refine Ev.num (eM ‹_› _ _) λz Hz mz hj hm=>?_ |refine Ev.bool (eN ‹_› _ _ _) λz Hz mz hj hm=>?_ |refine Ev.un (cz ‹_› _ _) λz Hz mz hj hm=>?_ |refine Ev.dq (dc ‹_›) λz zb Hz mz hj hm=>?_ |refine Ev.br (λhq=>?_) (λhq=>?_))<;>try simp -implicitDefEqProofs only[sS,Nat.reduceAdd]))
theorem cG (a i:Int):bA (run G) 129 [cv a,cv i] H (zI H):=by
 refine Ev.up (t:=λn=>WV (run G n) n (cv a) (cv i) H) ?_ λn=>RL ..
 simp -implicitDefEqProofs only[WV,sS,Nat.reduceAdd];refine Ev.call (pO a) ?_;rintro v H' ⟨⟨b,rfl⟩,rfl⟩;cases b<;>simp -implicitDefEqProofs only[sS,Nat.reduceAdd]
 ·(refine Ev.ret ?_;exact⟨⟨_,rfl⟩,rfl⟩)
 refine Ev.call (pO i) ?_;rintro v H' ⟨⟨b,rfl⟩,rfl⟩;cases b<;>simp -implicitDefEqProofs only[sS,Nat.reduceAdd]<;>exact Ev.ret ⟨⟨_,rfl⟩,rfl⟩
theorem bH (a d i:Int):bA (run G) 94 [cv a,cv d,cv i] H (zI H):=by
 refine Ev.up (t:=λn=>F94 (run G n) n (cv a) (cv d) (cv i) H) ?_ λn=>Ve ..
 simp -implicitDefEqProofs only[F94,sS,Nat.reduceAdd];refine Ev.call (pO a) ?_;rintro v H' ⟨⟨b,rfl⟩,rfl⟩;cases b<;>simp -implicitDefEqProofs only[sS,Nat.reduceAdd]
 ·(refine Ev.ret ?_;exact⟨⟨_,rfl⟩,rfl⟩)
 refine Ev.call (pO d) ?_;rintro v H' ⟨⟨b,rfl⟩,rfl⟩;cases b<;>simp -implicitDefEqProofs only[sS,Nat.reduceAdd]
 ·(refine Ev.ret ?_;exact⟨⟨_,rfl⟩,rfl⟩)
 refine Ev.call (pO i) ?_;rintro v H' ⟨⟨b,rfl⟩,rfl⟩;cases b<;>simp -implicitDefEqProofs only[sS,Nat.reduceAdd]<;>exact Ev.ret ⟨⟨_,rfl⟩,rfl⟩
theorem cX (a:Int):bA (run G) 159 [cv a] H (zI H):=by
 refine Ev.up (t:=λn=>V0 (run G n) n (cv a) H) ?_ λn=>Rh ..
 simp -implicitDefEqProofs only[V0,sS,Nat.reduceAdd];repeat' (first| (refine Ev.ret ?_;exact⟨⟨_,rfl⟩,rfl⟩)| ((with_reducible first|refine Ev.lss (λhq=>?_) (λhq=>?_)|refine Ev.gtr (λhq=>?_) (λhq=>?_)|refine Ev.leq (λhq=>?_) (λhq=>?_)|refine Ev.geq (λhq=>?_) (λhq=>?_)|refine Ev.eql (λhq=>?_) (λhq=>?_)|refine Ev.neq (λhq=>?_) (λhq=>?_)|refine Ev.off ‹_› (λhq=>?_) (λhq=>?_)|refine Ev.az (dj _) λz=>?_ |refine Ev.az (gT _) λz=>?_ |refine Ev.az (cG _ _) λz=>?_ |refine Ev.az (bH _ _ _) λz=>?_ |refine Ev.az (hX _ _) λz=>?_ |refine Ev.az (cX _) λz=>?_ |refine Ev.num (cE ‹_› _) λz Hz mz hj hm=>?_ |refine Ev.num (eM ‹_› _ _) λz Hz mz hj hm=>?_ |refine Ev.bool (eN ‹_› _ _ _) λz Hz mz hj hm=>?_ |refine Ev.un (cz ‹_› _ _) λz Hz mz hj hm=>?_ |refine Ev.dq (dc ‹_›) λz zb Hz mz hj hm=>?_ |refine Ev.br (λhq=>?_) (λhq=>?_))<;>try simp -implicitDefEqProofs only[sS,Nat.reduceAdd]))
end
section
variable {G:ae} {H H':aa} {o o':aj} {p m:Nat} {K:aa→aj→Prop}
def oq (n:Int):Nat→Int→Int
 |0,r=>r
 |b+1,r=>oq n b (if r+2^b≤n/(r+2^b) then r+2^b else r)
def mg (n:Int):Int:=if n<1 then 0 else oq n 32 0
theorem zJ {n:Int}: ∀(b:Nat) (r:Int),0≤r→r*r≤n→0≤oq n b r∧oq n b r*oq n b r≤n
 |0,r,h0,h1=>⟨h0,h1⟩
 |b+1,r,h0,h1=>by
  unfold oq;have hp:(0:Int)<2^b:=Int.pow_pos (by decide)
  split
  ·rename_i h;refine zJ b _ (by omega) ?_
   exact(Int.le_ediv_iff_mul_le (by omega)).1 h
  ·exact zJ b r h0 h1
theorem TZ {b:Nat}(hb:b≤31):(2:Int)^b≤2147483648:=by
 have h:2^b≤2^31:=Nat.pow_le_pow_right (by decide) hb
 have e:((2^b:Nat):Int)=2^b:=Int.natCast_pow 2 b;have h2:(2:Nat)^31=2147483648:=by decide
 rw[←e];rw[h2] at h;exact Int.ofNat_le.2 h
theorem ac0 (b:Nat)(hb:b≤31)(t:TypeId):ai Tryz.prog .shl t (cv 1) (.int .u64 b)=some (cv (2^b)):=by
 show re .shl .i64 1 b=_
 simp only[re];have h1:min ((b:Int).toNat) IntKind.i64.bits=b:=by
  show min ((b:Int).toNat) 64=b
  rw[Int.toNat_natCast];omega
 rw[h1];have h2:(2:Int)^b≤2147483648:=TZ hb;have h3:(0:Int)<2^b:=Int.pow_pos (by decide)
 rw[kr (by omega)];simp
theorem T0 (b:Nat)(hb:b≤31)(H:aa):qS .u64 (cv b) H=some (.int .u64 b,H):=by
 show some (Value.int .u64 (IntKind.u64.wrap b),H)=_
 have:IntKind.u64.wrap (b:Int)=b:=by
  simp[IntKind.wrap,IntKind.signed,IntKind.bits];omega
 rw[this]
theorem Ym (a:Int)(ha:a≤16384):bA (run G) 114 [cv a] H λv H'=>v=cv (mg a)∧H'=H:=by
 refine Ev.up (t:=λn=>Vg (run G n) n (cv a) H) ?_ λn=>QP ..
 simp -implicitDefEqProofs only[Vg,sS,Nat.reduceAdd];refine Ev.lss (λhq=>?_) (λhq=>?_)<;>simp -implicitDefEqProofs only[sS,Nat.reduceAdd]
 ·exact Ev.ret ⟨by rw[mg,if_pos hq],rfl⟩
 refine Ev.loop (k:=32) (λk vs H'=>∃(r:Int) (d9 d5 d21:Value),H'=H∧k≤32∧0≤r∧r≤(32-k)*2147483648∧vs=[cv a,cv 0,.bool false,cv ((k:Int)-1),d9,cv r,d5,d21]∧oq a k r=oq a 32 0)
  (λr=>r.1= .exit 0∧r.2.2=H∧∃(d9 d5 d21 d4:Value),r.2.1=[cv a,cv 0,.bool false,d4,d9,cv (oq a 32 0),d5,d21]) ⟨0,_,_,_,rfl,by omega,by omega,by omega,rfl,rfl⟩ ?_ ?_
 ·rintro k vs H' ⟨r,d9,d5,d21,rfl,hk,h0,h1,rfl,he⟩;simp -implicitDefEqProofs only[JP,xL,sS,Nat.reduceAdd];refine Ev.geq (λhq=>?_) (λhq=>?_)<;>simp -implicitDefEqProofs only[sS,Nat.reduceAdd]
  ·obtain⟨b,rfl⟩: ∃b,k=b+1:=⟨k-1,by omega⟩
   have eb:((b+1:Nat):Int)-1=(b:Int):=by omega
   have hb:b≤31:=by omega
   have hp:(0:Int)<2^b:=Int.pow_pos (by decide)
   have hp2:(2:Int)^b≤2147483648:=TZ hb;have hw:IntKind.i64.wrap (r+2^b)=r+2^b:=kr (by omega)
   have ht:(0:Int)<r+2^b:=by omega
   have hd:a.tdiv (r+2^b)=a/(r+2^b):=Int.tdiv_eq_ediv_of_nonneg (by omega)
   have Y3:a/(r+2^b)≤a:=Int.ediv_le_self _ (by omega)
   have hd0:0≤a/(r+2^b):=Int.ediv_nonneg (by omega) (by omega)
   have Yn:IntKind.i64.wrap (a/(r+2^b))=a/(r+2^b):=kr (by omega)
   have hw3:IntKind.i64.wrap ((b:Int)-1)=(b:Int)-1:=kr (by omega)
   simp -implicitDefEqProofs only[eb,T0 b hb,ac0 b hb,sS,Nat.reduceAdd,hw,kd _ _ _ (show r+2^b≠0 by omega),hd]
   rw[Yn];have he2:oq a b (if r+2^b≤a/(r+2^b) then r+2^b else r)=oq a 32 0:=he
   refine Ev.leq (λhq=>?_) (λhq=>?_)<;>simp -implicitDefEqProofs only[JO,xK,sS,Nat.reduceAdd,hw3]
   ·rw[if_pos hq] at he2;exact Ev.ret (.inl ⟨rfl,b,by omega,_,_,_,_,rfl,by omega,by omega,by omega,rfl,he2⟩)
   ·rw[if_neg hq] at he2;exact Ev.ret (.inl ⟨rfl,b,by omega,_,_,_,_,rfl,by omega,by omega,by omega,rfl,he2⟩)
  ·have:k=0:=by omega
   subst this;exact Ev.ret (.inr ⟨by simp,rfl,rfl,_,_,_,_,by rw[←he];rfl⟩)
 ·rintro e vs H' ⟨he,rfl,d9,d5,d21,d4,rfl⟩;simp only at he;subst he;simp -implicitDefEqProofs only[JQ,xM,sS,Nat.reduceAdd];exact Ev.ret ⟨by rw[mg,if_neg hq],rfl⟩
theorem T3 (a b:Int)(H:aa):Nd (cv a) (cv b) H=some (cv (if b>a then b else a),H):=rfl
def du (n:Int):Int:=if n<2∨n>16384 then 0 else if mg n>2 then mg n else 2
theorem qz {n:Int}(h:2≤n∧n≤16384):2≤du n∧du n≤128∧du n≤n:=by
 unfold du;rw[if_neg (by omega)]
 have hr:mg n=oq n 32 0:=by rw[mg,if_neg (by omega)]
 obtain⟨h0,h1⟩:=zJ (n:=n) 32 0 (by omega) (by omega)
 rw[←hr] at h0 h1;have h2:mg n≤128:=by
  rcases Int.lt_or_le 128 (mg n) with g|g
  ·have:(129:Int)*129≤mg n*mg n:=Int.mul_le_mul (by omega) (by omega) (by omega) h0
   omega
  ·exact g
 split
 ·rename_i g;have:mg n*1≤mg n*mg n:=Int.mul_le_mul_of_nonneg_left (by omega) h0
  omega
 ·omega
theorem pP {n:Int}(h:n<2∨n>16384):du n=0:=by unfold du;rw[if_pos h]
theorem tL (n:Int):0≤du n∧du n≤128:=by
 by_cases h:n<2∨n>16384
 ·rw[pP h];omega
 ·have:=qz (n:=n) (by omega);omega
theorem pQ (a:Int):bA (run G) 95 [cv a] H λv H'=>v=cv (du a)∧H'=H:=by
 refine Ev.up (t:=λn=>F95 (run G n) n (cv a) H) ?_ λn=>XB ..
 simp -implicitDefEqProofs only[F95,sS,Nat.reduceAdd];refine Ev.lss (λh1=>?_) (λh1=>?_)<;>simp -implicitDefEqProofs only[sS,Nat.reduceAdd]
 ·exact Ev.ret ⟨by rw[pP (.inl h1)],rfl⟩
 refine Ev.gtr (λh2=>?_) (λh2=>?_)<;>simp -implicitDefEqProofs only[sS,Nat.reduceAdd]
 ·exact Ev.ret ⟨by rw[pP (.inr h2)],rfl⟩
 refine Ev.call (Ym a (by omega)) ?_
 rintro v H' ⟨rfl,rfl⟩;simp -implicitDefEqProofs only[T3,sS,Nat.reduceAdd];exact Ev.ret ⟨by rw[du,if_neg (show ¬(a<2∨a>16384) by omega)],rfl⟩
def jA (n i:Int):Int:=if i<0∨i≥du n then 0 else if i<n%du n then n/du n+1 else n/du n
theorem zK {n i:Int}(h:2≤n∧n≤16384)(hi:0≤i∧i<du n):1≤jA n i∧jA n i<n:=by
 obtain⟨h1,h2,h3⟩:=qz h;have hq:1≤n/du n:=(Int.le_ediv_iff_mul_le (by omega)).2 (by omega)
 have he:=Int.mul_ediv_add_emod n (du n);have hm:=Int.emod_nonneg n (show du n≠0 by omega)
 have hx:2*(n/du n)≤du n*(n/du n):=Int.mul_le_mul_of_nonneg_right h1 (by omega)
 unfold jA;rw[if_neg (by omega)]
 split<;>omega
theorem DE {n i:Int}(h: ¬(0≤i∧i<du n)):jA n i=0:=by unfold jA;rw[if_pos (by omega)]
theorem Hi (a i:Int):bA (run G) 96 [cv a,cv i] H λv H'=>v=cv (jA a i)∧H'=H:=by
 refine Ev.up (t:=λn=>F96 (run G n) n (cv a) (cv i) H) ?_ λn=>W9 ..
 simp -implicitDefEqProofs only[F96,sS,Nat.reduceAdd];refine Ev.call (pQ a) ?_;rintro v H' ⟨rfl,rfl⟩
 try simp -implicitDefEqProofs only[sS,Nat.reduceAdd]
 refine Ev.lss (λh1=>?_) (λh1=>?_)<;>simp -implicitDefEqProofs only[sS,Nat.reduceAdd]
 ·exact Ev.ret ⟨by rw[DE (by omega)],rfl⟩
 refine Ev.geq (λh2=>?_) (λh2=>?_)<;>simp -implicitDefEqProofs only[sS,Nat.reduceAdd]
 ·exact Ev.ret ⟨by rw[DE (by omega)],rfl⟩
 have hr:2≤a∧a≤16384:=by
  rcases Int.lt_or_le a 2 with g|g
  ·have:=pP (n:=a) (.inl g);omega
  ·rcases Int.lt_or_le 16384 a with g2|g2
   ·have:=pP (n:=a) (.inr g2);omega
   ·exact⟨g,g2⟩
 have hd:=qz hr;have hs:=zK hr (i:=i) (by omega)
 have e1:a.tmod (du a)=a%du a:=Int.tmod_eq_emod_of_nonneg (by omega)
 have e2:a.tdiv (du a)=a/du a:=Int.tdiv_eq_ediv_of_nonneg (by omega)
 have HB:a/du a≤a:=Int.ediv_le_self _ (by omega)
 have hq0:0≤a/du a:=Int.ediv_nonneg (by omega) (by omega)
 have hw:IntKind.i64.wrap (a/du a)=a/du a:=kr (by omega)
 have Ag:IntKind.i64.wrap (a/du a+1)=a/du a+1:=kr (by omega)
 simp -implicitDefEqProofs only[sO _ _ _ (show du a≠0 by omega),kd _ _ _ (show du a≠0 by omega),e1,e2,hw,sS,Nat.reduceAdd]
 refine Ev.lss (λh3=>?_) (λh3=>?_)<;>simp -implicitDefEqProofs only[Ag,sS,Nat.reduceAdd]
 ·exact Ev.ret ⟨by rw[jA,if_neg (by omega),if_pos h3],rfl⟩
 ·exact Ev.ret ⟨by rw[jA,if_neg (by omega),if_neg h3],rfl⟩
def fy (n:Int):Nat→Int
 |0=>0
 |k+1=>fy n k+jA n k
theorem Fm {n:Int}(h:2≤n∧n≤16384): ∀k:Nat,(k:Int)≤du n→fy n k=k*(n/du n)+min (k:Int) (n%du n)
 |0,_=>by
  have:=Int.emod_nonneg n (show du n≠0 by have:=qz h;omega)
  simp only[fy,Int.natCast_zero,Int.zero_mul];omega
 |k+1,hk=>by
  have ih:=Fm h k (by omega)
  rw[fy,ih,jA,if_neg (by omega),Int.natCast_add,Int.add_mul,Int.natCast_one,Int.one_mul]
  split<;>omega
theorem LY {n:Int}(h:2≤n∧n≤16384){d:Nat}(hd:(d:Int)=du n):fy n d=n:=by
 obtain⟨h1,h2,h3⟩:=qz h;have hm:=Int.emod_lt_of_pos n (show 0<du n by omega)
 have he:=Int.mul_ediv_add_emod n (du n);rw[Fm h d (by omega),hd]
 have:min (du n) (n%du n)=n%du n:=by omega
 rw[this];exact he
theorem zL (n i:Int):0≤jA n i∧jA n i≤16384:=by
 by_cases g:0≤i∧i<du n
 ·have hr:2≤n∧n≤16384:=by
   rcases Int.lt_or_le n 2 with g1|g1
   ·have:=pP (n:=n) (.inl g1);omega
   ·rcases Int.lt_or_le 16384 n with g2|g2
    ·have:=pP (n:=n) (.inr g2);omega
    ·exact⟨g1,g2⟩
  have:=zK hr g;omega
 ·rw[DE g];omega
theorem zM (n:Int){i:Nat}: ∀j,i≤j→fy n i≤fy n j
 |0,h=>by
  have:i=0:=by omega
  subst this;omega
 |j+1,h=>by
  rcases Nat.lt_or_ge j i with g|g
  ·have:i=j+1:=by omega
   subst this;omega
  ·have:=zM n j g
   have:=zL n j
   rw[fy];omega
theorem Fo (n:Int)(i:Nat):0≤fy n i:=zM n (i:=0) i (by omega)
theorem SH {n:Int}(h:2≤n∧n≤16384){i:Nat}(hi:(i:Int)<du n):fy n i+jA n i≤n:=by
 obtain⟨d,hd⟩: ∃d:Nat,(d:Int)=du n:=⟨(du n).toNat,by have:=qz h;omega⟩
 have:=zM n (i:=i+1) d (by omega)
 rw[LY h hd,fy] at this;exact this
theorem BB (n:Int): ∀i:Nat,fy n i≤16384*i
 |0=>by simp[fy]
 |i+1=>by have:=BB n i;have:=zL n i;rw[fy];omega
def BC (n i:Int):Int:=if i<0∨i≥du n then 0 else fy n i.toNat
theorem Pt (a i:Int):bA (run G) 154 [cv a,cv i] H λv H'=>v=cv (BC a i)∧H'=H:=by
 refine Ev.up (t:=λn=>XI (run G n) n (cv a) (cv i) H) ?_ λn=>Sj ..
 simp -implicitDefEqProofs only[XI,sS,Nat.reduceAdd];refine Ev.lss (λh1=>?_) (λh1=>?_)<;>simp -implicitDefEqProofs only[sS,Nat.reduceAdd]
 ·exact Ev.ret ⟨by rw[BC,if_pos (.inl h1)],rfl⟩
 refine Ev.call (pQ a) ?_;rintro v H' ⟨rfl,rfl⟩
 try simp -implicitDefEqProofs only[sS,Nat.reduceAdd]
 refine Ev.geq (λh2=>?_) (λh2=>?_)<;>simp -implicitDefEqProofs only[sS,Nat.reduceAdd]
 ·exact Ev.ret ⟨by rw[BC,if_pos (.inr h2)],rfl⟩
 have hdn:=tL a;refine Ev.loop (k:=i.toNat) (λk vs Hx=>∃(j:Nat) (d17:Value),Hx=H'∧(j:Int)+k=i∧vs=[cv a,cv i,cv 0,.bool false,cv j,d17,cv (fy a j)])
  (λr=>r.1= .exit 0∧r.2.2=H'∧∃(d d17:Value),r.2.1=[cv a,cv i,cv 0,.bool false,d,d17,cv (fy a i.toNat)]) ⟨0,_,rfl,by omega,rfl⟩ ?_ ?_
 ·rintro k vs Hx ⟨j,d17,rfl,hj,rfl⟩;simp -implicitDefEqProofs only[Lv,zx,sS,Nat.reduceAdd];refine Ev.lss (λhq=>?_) (λhq=>?_)<;>simp -implicitDefEqProofs only[sS,Nat.reduceAdd]
  ·refine Ev.call (Hi a j) ?_;rintro v H' ⟨rfl,rfl⟩;have hb:=BB a j;have hs:=zL a j;have h0:=Fo a j;have hw:IntKind.i64.wrap (fy a j+jA a j)=fy a (j+1):=by rw[kr (by omega),fy]
   have Ag:IntKind.i64.wrap ((j:Int)+1)=((j+1:Nat):Int):=by rw[kr (by omega)];omega
   simp -implicitDefEqProofs only[sS,Nat.reduceAdd,hw,Ag];exact Ev.ret (.inl ⟨rfl,k-1,by omega,j+1,_,rfl,by omega,rfl⟩)
  ·have:j=i.toNat:=by omega
   subst this;exact Ev.ret (.inr ⟨by simp,rfl,rfl,_,_,rfl⟩)
 ·rintro e vs Hx ⟨he,rfl,d,d17,rfl⟩;simp only at he;subst he;simp -implicitDefEqProofs only[Lw,zy,sS,Nat.reduceAdd];exact Ev.ret ⟨by rw[BC,if_neg (by omega)],rfl⟩
end
end Go.Proofs.YtjgmnoaalbbonaaGreat.Fun
end
