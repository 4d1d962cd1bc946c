/- Texts of the proof of helpPlays_holds, put together by a small program of ours (names shortened, spaces taken out). No condition beyond the given statement. -/
import Derived.Test.YtgfgglponbmgmaaGreatHPL12
import Derived.Test.YtgfgglponbmgmaaGreatHPL16
import Derived.Test.YtgfgglponbmgmaaGreatHPL18
import Derived.Test.YtgfgglponbmgmaaGreatHPL20
import Derived.Test.YtgfgglponbmgmaaGreatHPL11
import Derived.Test.YtgfgglponbmgmaaGreatHPL15
import Derived.Test.YtgfgglponbmgmaaGreatHPL17
set_option linter.unusedVariables false
set_option linter.unusedSimpArgs false
set_option linter.unnecessarySimpa false
noncomputable section
section
namespace Go.Proofs.YtgfgglponbmgmaaGreat.Fun
open Go Go.RowKit Go.Proofs.YtgfgglponbmgmaaGreatA.Am
set_option maxRecDepth 10000
section
variable {G:ae} {H H':aa} {o o':aj} {p m:Nat} {K:aa→aj→Prop}
def js (n:Int):Nat→Int→Int
 |0,r=>r
 |b+1,r=>js n b (if r+2^b≤n/(r+2^b) then r+2^b else r)
def jt (n:Int):Int:=if n<1 then 0 else js n 32 0
theorem y6 {n:Int}: ∀(b:Nat) (r:Int),0≤r→r*r≤n→0≤js n b r∧js n b r*js n b r≤n
 |0,r,h0,h1=>⟨h0,h1⟩
 |b+1,r,h0,h1=>by
  unfold js;have hp:(0:Int)<2^b:=Int.pow_pos (by decide)
  split
  ·rename_i h;refine y6 b _ (by omega) ?_
   exact(Int.le_ediv_iff_mul_le (by omega)).1 h
  ·exact y6 b r h0 h1
theorem UW {b:Nat}(hb:b≤31):(2:Int)^b≤2147483648:=by
 have h:2^b≤2^31:=Nat.pow_le_pow_right (by decide) hb
 have e:((2^b:Nat):Int)=2^b:=Int.natCast_pow 2 b;have h2:(2:Nat)^31=2147483648:=by decide
 rw[←e];rw[h2] at h;exact Int.ofNat_le.2 h
theorem ac8 (b:Nat)(hb:b≤31)(t:TypeId):ai Tryz.prog .shl t (cv 1) (.int .u64 b)=some (cv (2^b)):=by
 show qt .shl .i64 1 b=_
 simp only[qt];have h1:min ((b:Int).toNat) IntKind.i64.bits=b:=by
  show min ((b:Int).toNat) 64=b
  rw[Int.toNat_natCast];omega
 rw[h1];have h2:(2:Int)^b≤2147483648:=UW hb;have h3:(0:Int)<2^b:=Int.pow_pos (by decide)
 rw[ga (by omega)];simp
theorem PB (b:Nat)(hb:b≤31)(H:aa):AV .u64 (cv b) H=some (.int .u64 b,H):=by
 show some (Value.int .u64 (IntKind.u64.wrap b),H)=_
 have:IntKind.u64.wrap (b:Int)=b:=by
  simp[IntKind.wrap,IntKind.signed,IntKind.bits];omega
 rw[this]
theorem Yy (a:Int)(ha:a≤16384):aF (run G) 164 [cv a] H λv H'=>v=cv (jt a)∧H'=H:=by
 refine Ev.up (t:=λn=>X2 (run G n) n (cv a) H) ?_ λn=>SH ..
 simp -implicitDefEqProofs only[X2,sS,Nat.reduceAdd];refine Ev.lss (λhq=>?_) (λhq=>?_)<;>simp -implicitDefEqProofs only[sS,Nat.reduceAdd]
 ·exact Ev.ret ⟨by rw[jt,if_pos hq],rfl⟩
 refine Ev.loop (k:=32) (λk vs H'=>∃(r:Int) (d9 d5 d21:Value),H'=H∧k≤32∧0≤r∧r≤(32-k)*2147483648∧vs=[cv a,cv 0,.bool false,cv ((k:Int)-1),d9,cv r,d5,d21]∧js a k r=js a 32 0)
  (λr=>r.1= .exit 0∧r.2.2=H∧∃(d9 d5 d21 d4:Value),r.2.1=[cv a,cv 0,.bool false,d4,d9,cv (js a 32 0),d5,d21]) ⟨0,_,_,_,rfl,by omega,by omega,by omega,rfl,rfl⟩ ?_ ?_
 ·rintro k vs H' ⟨r,d9,d5,d21,rfl,hk,h0,h1,rfl,he⟩;simp -implicitDefEqProofs only[Md,yx,sS,Nat.reduceAdd];refine Ev.geq (λhq=>?_) (λhq=>?_)<;>simp -implicitDefEqProofs only[sS,Nat.reduceAdd]
  ·obtain⟨b,rfl⟩: ∃b,k=b+1:=⟨k-1,by omega⟩
   have eb:((b+1:Nat):Int)-1=(b:Int):=by omega
   have hb:b≤31:=by omega
   have hp:(0:Int)<2^b:=Int.pow_pos (by decide)
   have FI:(2:Int)^b≤2147483648:=UW hb;have hw:IntKind.i64.wrap (r+2^b)=r+2^b:=ga (by omega)
   have ht:(0:Int)<r+2^b:=by omega
   have hd:a.tdiv (r+2^b)=a/(r+2^b):=Int.tdiv_eq_ediv_of_nonneg (by omega)
   have hd1:a/(r+2^b)≤a:=Int.ediv_le_self _ (by omega)
   have hd0:0≤a/(r+2^b):=Int.ediv_nonneg (by omega) (by omega)
   have Te:IntKind.i64.wrap (a/(r+2^b))=a/(r+2^b):=ga (by omega)
   have ZU:IntKind.i64.wrap ((b:Int)-1)=(b:Int)-1:=ga (by omega)
   simp -implicitDefEqProofs only[eb,PB b hb,ac8 b hb,sS,Nat.reduceAdd,hw,mi _ _ _ (show r+2^b≠0 by omega),hd]
   rw[Te];have he2:js a b (if r+2^b≤a/(r+2^b) then r+2^b else r)=js a 32 0:=he
   refine Ev.leq (λhq=>?_) (λhq=>?_)<;>simp -implicitDefEqProofs only[Mc,yw,sS,Nat.reduceAdd,ZU]
   ·rw[if_pos hq] at he2;exact Ev.ret (.inl ⟨rfl,b,by omega,_,_,_,_,rfl,by omega,by omega,by omega,rfl,he2⟩)
   ·rw[if_neg hq] at he2;exact Ev.ret (.inl ⟨rfl,b,by omega,_,_,_,_,rfl,by omega,by omega,by omega,rfl,he2⟩)
  ·have:k=0:=by omega
   subst this;exact Ev.ret (.inr ⟨by simp,rfl,rfl,_,_,_,_,by rw[←he];rfl⟩)
 ·rintro e vs H' ⟨he,rfl,d9,d5,d21,d4,rfl⟩;simp only at he;subst he;simp -implicitDefEqProofs only[Me,yy,sS,Nat.reduceAdd];exact Ev.ret ⟨by rw[jt,if_neg hq],rfl⟩
theorem UX (a b:Int)(H:aa):Oh (cv a) (cv b) H=some (cv (if b>a then b else a),H):=rfl
def bq (n:Int):Int:=if n<2∨n>16384 then 0 else if jt n>2 then jt n else 2
theorem pC {n:Int}(h:2≤n∧n≤16384):2≤bq n∧bq n≤128∧bq n≤n:=by
 unfold bq;rw[if_neg (by omega)]
 have hr:jt n=js n 32 0:=by rw[jt,if_neg (by omega)]
 obtain⟨h0,h1⟩:=y6 (n:=n) 32 0 (by omega) (by omega)
 rw[←hr] at h0 h1;have h2:jt n≤128:=by
  rcases Int.lt_or_le 128 (jt n) with g|g
  ·have:(129:Int)*129≤jt n*jt n:=Int.mul_le_mul (by omega) (by omega) (by omega) h0
   omega
  ·exact g
 split
 ·rename_i g;have:jt n*1≤jt n*jt n:=Int.mul_le_mul_of_nonneg_left (by omega) h0
  omega
 ·omega
theorem nC {n:Int}(h:n<2∨n>16384):bq n=0:=by unfold bq;rw[if_pos h]
theorem pD (n:Int):0≤bq n∧bq n≤128:=by
 by_cases h:n<2∨n>16384
 ·rw[nC h];omega
 ·have:=pC (n:=n) (by omega);omega
theorem kh (a:Int):aF (run G) 148 [cv a] H λv H'=>v=cv (bq a)∧H'=H:=by
 refine Ev.up (t:=λn=>Yo (run G n) n (cv a) H) ?_ λn=>SV ..
 simp -implicitDefEqProofs only[Yo,sS,Nat.reduceAdd];refine Ev.lss (λh1=>?_) (λh1=>?_)<;>simp -implicitDefEqProofs only[sS,Nat.reduceAdd]
 ·exact Ev.ret ⟨by rw[nC (.inl h1)],rfl⟩
 refine Ev.gtr (λh2=>?_) (λh2=>?_)<;>simp -implicitDefEqProofs only[sS,Nat.reduceAdd]
 ·exact Ev.ret ⟨by rw[nC (.inr h2)],rfl⟩
 refine Ev.call (Yy a (by omega)) ?_
 rintro v H' ⟨rfl,rfl⟩;simp -implicitDefEqProofs only[UX,sS,Nat.reduceAdd];exact Ev.ret ⟨by rw[bq,if_neg (show ¬(a<2∨a>16384) by omega)],rfl⟩
def cj (n i:Int):Int:=if i<0∨i≥bq n then 0 else if i<n%bq n then n/bq n+1 else n/bq n
theorem ki {n i:Int}(h:2≤n∧n≤16384)(hi:0≤i∧i<bq n):1≤cj n i∧cj n i<n:=by
 obtain⟨h1,h2,h3⟩:=pC h;have hq:1≤n/bq n:=(Int.le_ediv_iff_mul_le (by omega)).2 (by omega)
 have he:=Int.mul_ediv_add_emod n (bq n);have hm:=Int.emod_nonneg n (show bq n≠0 by omega)
 have hx:2*(n/bq n)≤bq n*(n/bq n):=Int.mul_le_mul_of_nonneg_right h1 (by omega)
 unfold cj;rw[if_neg (by omega)]
 split<;>omega
theorem C6 {n i:Int}(h: ¬(0≤i∧i<bq n)):cj n i=0:=by unfold cj;rw[if_pos (by omega)]
theorem y7 (a i:Int):aF (run G) 150 [cv a,cv i] H λv H'=>v=cv (cj a i)∧H'=H:=by
 refine Ev.up (t:=λn=>Yp (run G n) n (cv a) (cv i) H) ?_ λn=>SW ..
 simp -implicitDefEqProofs only[Yp,sS,Nat.reduceAdd];refine Ev.call (kh a) ?_;rintro v H' ⟨rfl,rfl⟩
 try simp -implicitDefEqProofs only[sS,Nat.reduceAdd]
 refine Ev.lss (λh1=>?_) (λh1=>?_)<;>simp -implicitDefEqProofs only[sS,Nat.reduceAdd]
 ·exact Ev.ret ⟨by rw[C6 (by omega)],rfl⟩
 refine Ev.geq (λh2=>?_) (λh2=>?_)<;>simp -implicitDefEqProofs only[sS,Nat.reduceAdd]
 ·exact Ev.ret ⟨by rw[C6 (by omega)],rfl⟩
 have hr:2≤a∧a≤16384:=by
  rcases Int.lt_or_le a 2 with g|g
  ·have:=nC (n:=a) (.inl g);omega
  ·rcases Int.lt_or_le 16384 a with g2|g2
   ·have:=nC (n:=a) (.inr g2);omega
   ·exact⟨g,g2⟩
 have hd:=pC hr;have hs:=ki hr (i:=i) (by omega)
 have e1:a.tmod (bq a)=a%bq a:=Int.tmod_eq_emod_of_nonneg (by omega)
 have e2:a.tdiv (bq a)=a/bq a:=Int.tdiv_eq_ediv_of_nonneg (by omega)
 have qA:a/bq a≤a:=Int.ediv_le_self _ (by omega)
 have hq0:0≤a/bq a:=Int.ediv_nonneg (by omega) (by omega)
 have hw:IntKind.i64.wrap (a/bq a)=a/bq a:=ga (by omega)
 have w7:IntKind.i64.wrap (a/bq a+1)=a/bq a+1:=ga (by omega)
 simp -implicitDefEqProofs only[C1 _ _ _ (show bq a≠0 by omega),mi _ _ _ (show bq a≠0 by omega),e1,e2,hw,sS,Nat.reduceAdd]
 refine Ev.lss (λh3=>?_) (λh3=>?_)<;>simp -implicitDefEqProofs only[w7,sS,Nat.reduceAdd]
 ·exact Ev.ret ⟨by rw[cj,if_neg (by omega),if_pos h3],rfl⟩
 ·exact Ev.ret ⟨by rw[cj,if_neg (by omega),if_neg h3],rfl⟩
def cG (n:Int):Nat→Int
 |0=>0
 |k+1=>cG n k+cj n k
theorem E6 {n:Int}(h:2≤n∧n≤16384): ∀k:Nat,(k:Int)≤bq n→cG n k=k*(n/bq n)+min (k:Int) (n%bq n)
 |0,_=>by
  have:=Int.emod_nonneg n (show bq n≠0 by have:=pC h;omega)
  simp only[cG,Int.natCast_zero,Int.zero_mul];omega
 |k+1,hk=>by
  have ih:=E6 h k (by omega)
  rw[cG,ih,cj,if_neg (by omega),Int.natCast_add,Int.add_mul,Int.natCast_one,Int.one_mul]
  split<;>omega
theorem Bl {n:Int}(h:2≤n∧n≤16384){d:Nat}(hd:(d:Int)=bq n):cG n d=n:=by
 obtain⟨h1,h2,h3⟩:=pC h;have hm:=Int.emod_lt_of_pos n (show 0<bq n by omega)
 have he:=Int.mul_ediv_add_emod n (bq n);rw[E6 h d (by omega),hd]
 have:min (bq n) (n%bq n)=n%bq n:=by omega
 rw[this];exact he
theorem y8 (n i:Int):0≤cj n i∧cj n i≤16384:=by
 by_cases g:0≤i∧i<bq n
 ·have hr:2≤n∧n≤16384:=by
   rcases Int.lt_or_le n 2 with g1|g1
   ·have:=nC (n:=n) (.inl g1);omega
   ·rcases Int.lt_or_le 16384 n with g2|g2
    ·have:=nC (n:=n) (.inr g2);omega
    ·exact⟨g1,g2⟩
  have:=ki hr g;omega
 ·rw[C6 g];omega
theorem y9 (n:Int){i:Nat}: ∀j,i≤j→cG n i≤cG n j
 |0,h=>by
  have:i=0:=by omega
  subst this;omega
 |j+1,h=>by
  rcases Nat.lt_or_ge j i with g|g
  ·have:i=j+1:=by omega
   subst this;omega
  ·have:=y9 n j g
   have:=y8 n j
   rw[cG];omega
theorem zd (n:Int)(i:Nat):0≤cG n i:=y9 n (i:=0) i (by omega)
theorem vZ {n:Int}(h:2≤n∧n≤16384){i:Nat}(hi:(i:Int)<bq n):cG n i+cj n i≤n:=by
 obtain⟨d,hd⟩: ∃d:Nat,(d:Int)=bq n:=⟨(bq n).toNat,by have:=pC h;omega⟩
 have:=y9 n (i:=i+1) d (by omega)
 rw[Bl h hd,cG] at this;exact this
theorem Bm (n:Int): ∀i:Nat,cG n i≤16384*i
 |0=>by simp[cG]
 |i+1=>by have:=Bm n i;have:=y8 n i;rw[cG];omega
def gN (n i:Int):Int:=if i<0∨i≥bq n then 0 else cG n i.toNat
theorem PC (a i:Int):aF (run G) 149 [cv a,cv i] H λv H'=>v=cv (gN a i)∧H'=H:=by
 refine Ev.up (t:=λn=>WV (run G n) n (cv a) (cv i) H) ?_ λn=>RU ..
 simp -implicitDefEqProofs only[WV,sS,Nat.reduceAdd];refine Ev.lss (λh1=>?_) (λh1=>?_)<;>simp -implicitDefEqProofs only[sS,Nat.reduceAdd]
 ·exact Ev.ret ⟨by rw[gN,if_pos (.inl h1)],rfl⟩
 refine Ev.call (kh a) ?_;rintro v H' ⟨rfl,rfl⟩
 try simp -implicitDefEqProofs only[sS,Nat.reduceAdd]
 refine Ev.geq (λh2=>?_) (λh2=>?_)<;>simp -implicitDefEqProofs only[sS,Nat.reduceAdd]
 ·exact Ev.ret ⟨by rw[gN,if_pos (.inr h2)],rfl⟩
 have hdn:=pD a;refine Ev.loop (k:=i.toNat) (λk vs Hx=>∃(j:Nat) (d17:Value),Hx=H'∧(j:Int)+k=i∧vs=[cv a,cv i,cv 0,.bool false,cv j,d17,cv (cG a j)])
  (λr=>r.1= .exit 0∧r.2.2=H'∧∃(d d17:Value),r.2.1=[cv a,cv i,cv 0,.bool false,d,d17,cv (cG a i.toNat)]) ⟨0,_,rfl,by omega,rfl⟩ ?_ ?_
 ·rintro k vs Hx ⟨j,d17,rfl,hj,rfl⟩;simp -implicitDefEqProofs only[Ld,xF,sS,Nat.reduceAdd];refine Ev.lss (λhq=>?_) (λhq=>?_)<;>simp -implicitDefEqProofs only[sS,Nat.reduceAdd]
  ·refine Ev.call (y7 a j) ?_;rintro v H' ⟨rfl,rfl⟩;have hb:=Bm a j;have hs:=y8 a j;have h0:=zd a j;have hw:IntKind.i64.wrap (cG a j+cj a j)=cG a (j+1):=by rw[ga (by omega),cG]
   have w7:IntKind.i64.wrap ((j:Int)+1)=((j+1:Nat):Int):=by rw[ga (by omega)];omega
   simp -implicitDefEqProofs only[sS,Nat.reduceAdd,hw,w7];exact Ev.ret (.inl ⟨rfl,k-1,by omega,j+1,_,rfl,by omega,rfl⟩)
  ·have:j=i.toNat:=by omega
   subst this;exact Ev.ret (.inr ⟨by simp,rfl,rfl,_,_,rfl⟩)
 ·rintro e vs Hx ⟨he,rfl,d,d17,rfl⟩;simp only at he;subst he;simp -implicitDefEqProofs only[Le,xG,sS,Nat.reduceAdd];exact Ev.ret ⟨by rw[gN,if_neg (by omega)],rfl⟩
end
end Go.Proofs.YtgfgglponbmgmaaGreat.Fun
end
section
namespace Go.Proofs.YtgfgglponbmgmaaGreatA.Y
inductive Ask where
 |rd (a:Int)
 |wr (a x:Int)
 |cs (a old x:Int)
 |ad (a d:Int)
 |mk (w:List Int)
deriving DecidableEq
inductive Tr (α:Type):Type where
 |ret (a:α)
 |ask (q:Ask) (k:Int→Tr α)
 |off (k:Bool→Tr α)
 |rc (r:Int) (t:Tr α)
 |ld (t:Tr α)
variable {α β γ:Type}
def Tr.bind:Tr α→(α→Tr β)→Tr β
 | .ret a,f=>f a
 | .ask q k,f=>.ask q λz=>(k z).bind f
 | .off k,f=>.off λb=>(k b).bind f
 | .rc r t,f=>.rc r (t.bind f)
 | .ld t,f=>.ld (t.bind f)
instance:Monad Tr where
 pure:=Tr.ret
 bind:=Tr.bind
@[simp] theorem PD (a:α)(f:α→Tr β):(Tr.ret a >>= f)=f a:=rfl
@[simp] theorem bind_pure (a:α)(f:α→Tr β):((pure a:Tr α) >>= f)=f a:=rfl
@[simp] theorem aaQ (a:α):(pure a:Tr α)= .ret a:=rfl
@[simp] theorem PE (q:Ask)(k:Int→Tr α)(f:α→Tr β):(Tr.ask q k >>= f)= .ask q λz=>k z >>= f:=rfl
@[simp] theorem aaR (k:Bool→Tr α)(f:α→Tr β):(Tr.off k >>= f)= .off λb=>k b >>= f:=rfl
@[simp] theorem aco (r:Int)(t:Tr α)(f:α→Tr β):(Tr.rc r t >>= f)= .rc r (t >>= f):=rfl
@[simp] theorem acp (t:Tr α)(f:α→Tr β):(Tr.ld t >>= f)= .ld (t >>= f):=rfl
theorem bind_assoc (t:Tr α)(f:α→Tr β)(g:β→Tr γ):((t >>= f) >>= g)=t >>= λa=>f a >>= g:=by
 induction t with
 |ret a=>rfl
 |ask q k ih=>simp[ih]
 |off k ih=>simp[ih]
 |rc r t ih=>simp[ih]
 |ld t ih=>simp[ih]
structure St where
 rest:List Int
 off:Bool
 next:Ask
 oS:Int
 laid:Int
def St.left (s:St):Nat:=if s.off then 0 else s.rest.length+1
def oT (q:Ask)(s:St):Int×St:=
 if s.off then(0,s) else
 match s.rest with
 |z::r=>(z,{s with rest:=r})
 | []=>(0,{s with off:=true,next:=q})
def ah:Tr α→St→α×St
 | .ret a,s=>(a,s)
 | .ask q k,s=>let r:=oT q s;ah (k r.1) r.2
 | .off k,s=>ah (k s.off) s
 | .rc r t,s=>ah t {s with oS:=r}
 | .ld t,s=>ah t {s with laid:=if s.oS>0 then s.oS else s.laid}
theorem al (t:Tr α)(f:α→Tr β)(s:St):ah (t >>= f) s=ah (f (ah t s).1) (ah t s).2:=by
 induction t generalizing s with
 |ret a=>rfl
 |ask q k ih=>simp[ah,ih]
 |off k ih=>simp[ah,ih]
 |rc r t ih=>simp[ah,ih]
 |ld t ih=>simp[ah,ih]
theorem aJ {t:Tr α}{f:α→Tr β}{s s':St}{a:α}(h:ah t s=(a,s')):ah (t >>= f) s=ah (f a) s':=by
 rw[al,h]
theorem uc (q:Ask)(s:St):(oT q s).2.left=s.left-1:=by
 unfold oT St.left;split
 ·simp_all
 ·split<;>simp_all
theorem E7 (q:Ask)(s:St)(h:s.off=true):oT q s=(0,s):=by simp[oT,h]
theorem E8 (t:Tr α)(s:St):(ah t s).2.left≤s.left:=by
 induction t generalizing s with
 |ret a=>exact Nat.le_refl _
 |ask q k ih=>exact Nat.le_trans (ih _ _) (by rw[uc];omega)
 |off k ih=>exact ih _ _
 |rc r t ih=>exact Nat.le_trans (ih _) (by simp[St.left])
 |ld t ih=>exact Nat.le_trans (ih _) (by simp[St.left])
theorem Hb (t:Tr α)(s:St)(h:s.off=true):(ah t s).2.off=true∧(ah t s).2.next=s.next:=by
 induction t generalizing s with
 |ret a=>exact⟨h,rfl⟩
 |ask q k ih=>simp only[ah,E7 q s h];exact ih _ s h
 |off k ih=>exact ih _ s h
 |rc r t ih=>exact ih {s with oS:=r} h
 |ld t ih=>exact ih {s with laid:=if s.oS>0 then s.oS else s.laid} h
def norm:Tr α→Tr α
 | .ret a=>.ret a
 | .ask q k=>.ask q k
 | .off k=>norm (k false)
 | .rc _ t=>norm t
 | .ld t=>norm t
def after (t:Tr α):List Int→Tr α
 | []=>norm t
 |z::r=>match norm t with
  | .ask _ k=>after (k z) r
  |u=>u
theorem pE (t:Tr α):norm (norm t)=norm t:=by
 induction t with
 |ret a=>rfl
 |ask q k ih=>rfl
 |off k ih=>exact ih false
 |rc r t ih=>exact ih
 |ld t ih=>exact ih
theorem sC (t:Tr α)(s:St)(h:s.off=false):
  match after t s.rest with
  | .ret a=>(ah t s).1=a∧(ah t s).2.off=false
  | .ask q _=>(ah t s).2.off=true∧(ah t s).2.next=q
  |_=>False:=by
 induction t generalizing s with
 |ret a=>cases hr:s.rest<;>simp[after,norm,ah,h]
 |ask q k ih=>
  cases hr:s.rest with
  |nil=>
   simp only[after,norm,ah,oT,h,hr];exact Hb _ _ rfl
  |cons z r=>
   have e:oT q s=(z,{s with rest:=r}):=by simp[oT,h,hr]
   have:=ih z {s with rest:=r} h
   simp only[after,norm,ah,e];exact this
 |off k ih=>
  have e:after (.off k) s.rest=after (k false) s.rest:=by cases s.rest<;>rfl
  rw[e];simp only[ah,h];exact ih false s h
 |rc r t ih=>
  have e:after (.rc r t) s.rest=after t s.rest:=by cases s.rest<;>rfl
  rw[e];exact ih {s with oS:=r} h
 |ld t ih=>
  have e:after (.ld t) s.rest=after t s.rest:=by cases s.rest<;>rfl
  rw[e];exact ih {s with laid:=if s.oS>0 then s.oS else s.laid} h
theorem ze (t:Tr α)(l:List Int)(z:Int):after t (l++[z])=match after t l with
  | .ask _ k=>norm (k z)
  |u=>u:=by
 induction l generalizing t with
 |nil=>simp only[List.nil_append,after]
 |cons y l ih=>
  simp only[List.cons_append,after];cases e:norm t with
  |ask q k=>exact ih (k y)
  |ret a=>rfl
  |off k=>simp
  |rc r t=>simp
  |ld t=>simp
def wr (x:Int):Int:=(x+9223372036854775808)%18446744073709551616-9223372036854775808
def jS (w:Int):Bool:=decide (w>8)&&decide (w%8≥1)&&decide (w%8≤5)&&decide (wr (w/8)≤65536)
def kd (w:Int):Int:=if jS w then w%8 else 0
def aw (w:Int):Int:=if jS w then wr (w/8) else 0
def fm (k a:Int):Int:=if k<1∨k>5∨a<1∨a>65536 then 0 else 8*a+k
def E9 (n:Int):Bool:=decide (n≥0)&&decide (n≤1099511627776)
def lM (n i:Int):Int:=if !E9 n|| !E9 i then 0 else n+4+i
def dr (n d i:Int):Int:=if !E9 n|| !E9 d|| !E9 i then 0 else n+4+d+i
def PG (n:Int):Int:=if n<0∨n>16384 then 0 else n/4+2
def js (n:Int):Nat→Int→Int
 |0,r=>r
 |b+1,r=>js n b (if r+2^b≤n/(r+2^b) then r+2^b else r)
def jt (n:Int):Int:=if n<1 then 0 else js n 32 0
def bq (n:Int):Int:=if n<2∨n>16384 then 0 else if jt n>2 then jt n else 2
def cj (n i:Int):Int:=if i<0∨i≥bq n then 0 else if i<n%bq n then n/bq n+1 else n/bq n
def cG (n:Int):Nat→Int
 |0=>0
 |i+1=>cG n i+cj n i
def gN (n i:Int):Int:=if i<0∨i≥bq n then 0 else cG n i.toNat
def ct (part whole:Int)(n:Int):Nat→Int→Int→Int
 |0,q,_=>q
 |b+1,q,r=>
  let q1:=if r≥whole-r then 2*q+1 else 2*q
  let r1:=if r≥whole-r then r-(whole-r) else r+r
  if n/2^b%2=0 then ct part whole n b q1 r1
  else if part≥whole-r1 then ct part whole n b (q1+1) (r1-(whole-part))
  else ct part whole n b q1 (r1+part)
def kC (part whole n:Int):Int:=if whole=0∨n<1∨n>65536 then 0 else ct (if part<whole then part else whole) whole n 17 0 0
def vl (a b:Int):Int:=if b<a then 0 else(b-a)%18446744073709551616
def iC (first last k n:Int):Int:=if n<2∨n>65536∨k<first∨k≥last then 0 else 1+kC (vl first k) (vl first last) (n-1)
abbrev rd (a:Int):Tr Int:=.ask (.rd a) .ret
abbrev wt (a x:Int):Tr Int:=.ask (.wr a x) .ret
abbrev cs (a old x:Int):Tr Int:=.ask (.cs a old x) .ret
abbrev ad (a d:Int):Tr Int:=.ask (.ad a d) .ret
abbrev mk (w:List Int):Tr Int:=.ask (.mk w) .ret
abbrev g9:Tr Bool:=.off .ret
def sD (s:Int):Tr Int:=do
 let w ←rd s
 if kd w≠5 then pure w else
 let o ←rd (aw w+4)
 if o=1 then rd (aw w+3) else rd (aw w+2)
def uH (cI:Int):Tr Unit:=do
 let p ←rd cI
 let g ←rd p
 let _ ←cs (cI+4) 0 (if g≠0 then 2 else 1)
 let o ←rd (cI+4)
 let s ←rd (cI+1)
 let v ←if o=1 then rd (cI+3) else rd (cI+2)
 let _ ←cs s (fm 5 cI) v
 pure ()
def sE (s:Int):Nat→Int→Tr Int
 |0,w=>pure w
 |f+1,w=>do
  let b ←g9
  if !b∧kd w=5 then
   uH (aw w)
   let w' ←rd s
   sE s f w'
  else pure w
def kK (f:Nat)(s:Int):Tr Int:=do
 let w ←rd s
 sE s f w
def fG (g p old x:Int):List Int:=[g,p,old,x,0]
def sF (g p old x:Int):Tr Int:=do
 let a ←mk (fG g p old x)
 if ¬a>0 then pure 3 else
 Tr.rc a do
 let b ←cs p old (fm 5 a)
 if b≠1 then pure 0 else
 let gv ←rd g
 let _ ←cs (wr (a+4)) 0 (if gv≠0 then 2 else 1)
 let o ←rd (wr (a+4))
 if o=1 then
  let _ ←cs p (fm 5 a) x
  pure 1
 else
  let _ ←cs p (fm 5 a) old
  pure 2
def mS (n k:Int):Nat→Int→Tr Int
 |0,_=>pure 1
 |f+1,i=>if i>1 then do
   let b ←g9
   if b then pure 1 else
   let z ←rd (lM n i)
   if z≤k then pure i else mS n k f (i-1)
  else pure 1
def MK (n k m:Int):Nat→Int→Tr Int
 |0,_=>pure (m-1)
 |f+1,i=>if i<m then do
   let b ←g9
   if b then pure (m-1) else
   let z ←rd (lM n i)
   if z>k then pure (i-1) else MK n k m f (i+1)
  else pure (m-1)
def lu (f:Nat)(n k:Int):Tr (Int×Int):=do
 let d ←rd n
 let m:=wr (d-1)
 if m<1 then pure (d,0) else
 let first ←rd (lM n 1)
 if k<first then pure (d,0) else
 if m=1 then pure (d,1) else
 let last ←rd (lM n m)
 if k≥last then pure (d,m) else
 let j:=iC first last k m
 let b ←g9
 if b∨j<1 then pure (d,0) else
 let down ←(if j>1 then do
   let z ←rd (lM n j)
   pure (decide (z>k))
  else pure false)
 if down then
  let i ←mS n k f (j-1)
  pure (d,i)
 else
  let i ←MK n k m f (j+1)
  pure (d,i)
def nD (f:Nat)(n k:Int):Tr Int:=do
 let dc ←lu f n k
 pure (dr n dc.1 dc.2)
mutual
def kj (f:Nat) (n:Int):Tr Int:=
 match f with
 |0=>pure 0
 |f+1=>do
  let s ←rd (n+4)
  if s≠0 then pure (wr (s-1)) else
  let _ ←wt (n+2) 1
  let d ←rd n
  let all ←iL f n d 0 0
  let _ ←wt (n+4) (wr (all+1))
  pure all
def iL (f:Nat) (n d i all:Int):Tr Int:=
 match f with
 |0=>pure all
 |f+1=>if ¬i<d then pure all else do
  let b ←g9
  if b then pure all else
  let w ←kK f (dr n d i)
  if kd w=2 then iL f n d (i+1) (wr (all+1)) else
  if kd w=3 then
   let z ←kj f (aw w)
   iL f n d (i+1) (wr (all+z))
  else if kd w=4 then
   let t ←rd (aw w)
   let z ←kj f (aw t)
   iL f n d (i+1) (wr (all+z))
  else iL f n d (i+1) all
end
abbrev PL:=List (Int×Int)
mutual
def gO (f:Nat) (n fr to:Int) (out:PL):Tr PL:=
 match f with
 |0=>pure out
 |f+1=>do
  let d ←rd n
  da f n d fr to 0 0 out
def da (f:Nat) (n d fr to i lv:Int) (out:PL):Tr PL:=
 match f with
 |0=>pure out
 |f+1=>if ¬i<d then pure out else if ¬lv<to then pure out else do
  let b ←g9
  if b then pure out else
  let w ←sD (dr n d i)
  if kd w=2 then
   if lv≥fr then
    let k ←rd (aw w)
    let v ←rd (aw w+1)
    da f n d fr to (i+1) (wr (lv+1)) (out++[(k,v)])
   else da f n d fr to (i+1) (wr (lv+1)) out
  else if kd w=3∨kd w=4 then
   let a ←(if kd w=4 then do
     let t ←rd (aw w)
     pure (aw t)
    else pure (aw w))
   let z ←rd (a+4)
   let s:=wr (z-1)
   let o ←(if wr (lv+s)>fr then gO f a (wr (fr-lv)) (wr (to-lv)) out else pure out)
   da f n d fr to (i+1) (wr (lv+s)) o
  else da f n d fr to (i+1) lv out
end
def cT (n:Int)(q c:List Int):List Int:=if c.length≠q.length+1 then[] else[(c.length:Int),n,0,0,0]++q++c
def ju (w g s:Int):List Int:=[w,g,s,0,0]
mutual
def iM (f:Nat) (l:PL):Tr (Int×Bool):=
 match f with
 |0=>pure (0,false)
 |f+1=>
  match l with
  | []=>do let a ←mk [0];pure (fm 1 a,decide (a>0))
  | [kv]=>do let a ←mk [kv.1,kv.2];pure (fm 2 a,decide (a>0))
  |l=>lz f l (bq l.length).toNat 0 [] []
def lz (f:Nat) (l:PL) (r i:Nat) (q c:List Int):Tr (Int×Bool):=
 match r with
 |0=>do let a ←mk (cT l.length q c);pure (fm 3 a,decide (a>0))
 |r+1=>do
  let cI:=(gN l.length i).toNat
  let s:=(cj l.length i).toNat
  let q':=if i>0 then q++[(l.getD cI (0,0)).1] else q
  let wo ←iM f ((l.drop cI).take s)
  if wo.2=false then pure (0,false) else
  lz f l r (i+1) q' (c++[wo.1])
end
def C7 (f:Nat)(t n:Int):Tr (Int×Bool):=
 if n≥2 then do
  let d:=max (bq n) 1
  let a ←mk (cT n (List.replicate (d-1).toNat 0) (List.replicate d.toNat 0))
  pure (fm 3 a,decide (a>0))
 else do
  let p ←(if n=1 then gO f t 0 1 [] else pure [])
  let b ←g9
  if b then pure (0,false) else iM (p.length+1) p
def ML (p:PL)(x d i w:Int):Tr Bool:=
 match p with
 | []=>do
  let _ ←cs (dr x d i) 0 w
  pure true
 |kv::_=>if i>0 then do
   let _ ←wt (lM x i) kv.1
   let _ ←cs (dr x d i) 0 w
   pure true
  else do
   let _ ←cs (dr x d i) 0 w
   pure true
def oU (f:Nat)(t n x d i:Int):Tr Bool:=do
 let p ←gO f t (gN n i) (gN n i+cj n i) []
 let b ←g9
 if b then pure true else
 let wo ←iM (p.length+1) p
 if wo.2=false then pure false else
 ML p x d i wo.1
def kD (g:Nat)(cI t n x:Int):Nat→Tr Bool
 |0=>pure true
 |f+1=>do
  let b ←g9
  if b then pure true else
  let i ←ad (wr (cI+4)) 1
  if i≥bq n then pure true else
  let b ←g9
  if b then pure true else
  let ok ←oU g t n x (bq n) i
  if ok=false then pure false else kD g cI t n x f
def gP (g:Nat)(t n x:Int):Nat→Int→Tr Bool
 |0,_=>pure true
 |f+1,j=>if ¬j<bq n then pure true else do
  let b ←g9
  if b then pure true else
  let c ←rd (dr x (bq n) j)
  if c≠0 then gP g t n x f (j+1) else
  let b ←g9
  if b then gP g t n x f (j+1) else
  let ok ←oU g t n x (bq n) j
  if ok=false then pure false else gP g t n x f (j+1)
def gr (f:Nat)(cI t n x:Int):Tr Bool:=do
 let ok ←kD f cI t n x f
 if ok=false then pure false else gP f t n x f 0
def ud (cI w:Int):Tr Bool:=do
 let g ←rd (wr (cI+1))
 let s ←rd (wr (cI+2))
 let r ←sF g s (fm 4 cI) w
 pure (decide (r≠3))
def Bn (f:Nat)(cI t n w:Int):Tr Bool:=
 if n≥2 then do
  let ok ←gr f cI t n (aw w)
  if ok=false then pure false else ud cI w
 else ud cI w
def hU (f:Nat)(cI:Int):Tr Bool:=do
 let tw ←rd cI
 let n ←kj f (aw tw)
 let w ←rd (wr (cI+3))
 let b ←g9
 if b then pure true else
 if w=0 then
  let xo ←C7 f (aw tw) n
  if xo.2=false then pure false else
  let _ ←cs (wr (cI+3)) 0 xo.1
  let w' ←rd (wr (cI+3))
  Bn f cI (aw tw) n w'
 else Bn f cI (aw tw) n w
structure En where
 node:Int
 slot:Int
 word:Int
def oV (f:Nat)(e:En):Tr Bool:=do
 let a ←mk (ju e.word (e.node+2) e.slot)
 if ¬a>0 then pure false else
 let r ←sF (e.node+2) e.slot e.word (fm 4 a)
 if r=1 then hU f a else
 pure (decide (r≠3))
def dt (f:Nat)(first:Option En):List En→Tr Unit
 | []=>match first with
  |none=>pure ()
  |some e=>do
   let b ←g9
   if b then pure () else
   let _ ←oV f e
   pure ()
 |e::l=>do
  let b ←g9
  if b then pure () else
  let c ←ad (aw e.word+3) 1
  let s ←rd (aw e.word+1)
  dt f (match first with
   |some x=>some x
   |none=>if wr (c+1)≥PG s then some e else none) l
structure Op where
 kind:Int
 key:Int
 value:Int
structure Rs where
 Fa:Int
 found:Bool
 key:Int
 value:Int
def Rs.nil:Rs:=⟨0,false,0,0⟩
def Rs.ql:Rs:=⟨8,false,0,0⟩
def mE (op:Op)(w q:Int)(leaf there:Bool):Tr (Int×Bool):=
 if op.kind=3 then do
  let a ←mk [0]
  pure (fm 1 a,decide (a>0))
 else do
  let a ←mk [op.key,op.value]
  if ¬a>0∨leaf=false∨there=true then pure (fm 2 a,decide (a>0)) else
  let b ←mk (cT 2 [max q op.key] (if op.key<q then[fm 2 a,w] else[w,fm 2 a]))
  pure (fm 3 b,decide (b>0))
def zf (f:Nat)(op:Op)(n s w q:Int)(leaf:Bool)(path:List En)(res:Rs):Tr (Rs×Bool):=do
 let b ←g9
 if b∨(op.kind=1∧res.found=true)∨(op.kind=3∧res.found=false) then pure (res,true) else
 let xo ←mE op w q leaf res.found
 if xo.2=false then pure (Rs.ql,true) else
 Tr.rc 0 do
 let o ←sF (n+2) s w xo.1
 Tr.ld do
 if o=3 then pure (Rs.ql,true) else
 if o=1∧(op.kind≠2∨res.found=false) then
  dt f none path
  pure (res,true)
 else pure (res,decide (o=1))
def lN (f:Nat)(op:Op)(n s w:Int)(path:List En):Tr (Rs×Bool):=
 if kd w=2 then do
  let q ←rd (aw w)
  if q=op.key then
   let v ←rd (aw w+1)
   zf f op n s w q true path ⟨0,true,q,v⟩
  else zf f op n s w q true path Rs.nil
 else zf f op n s w 0 false path Rs.nil
def dY (g:Nat)(op:Op):Nat→Int→List En→Tr (Rs×Bool)
 |0,_,_=>pure (Rs.nil,true)
 |f+1,n,path=>do
  let b ←g9
  if b then pure (Rs.nil,true) else
  let s ←nD g n op.key
  let w ←kK g s
  if kd w=4 then
   let ok ←hU g (aw w)
   if ok=false then pure (Rs.ql,true) else pure (Rs.nil,false)
  else if kd w=3 then dY g op f (aw w) (path++[⟨n,s,w⟩])
  else lN g op n s w path
def gu (g:Nat)(op:Op):Nat→Tr Rs
 |0=>pure Rs.nil
 |f+1=>do
  let b ←g9
  if b then pure Rs.nil else
  let re ←dY g op g 1 []
  if re.2=true then pure re.1 else gu g op f
end Go.Proofs.YtgfgglponbmgmaaGreatA.Y
end
section
namespace Go.Proofs.YtgfgglponbmgmaaGreat.Fun
open Go Go.RowKit Go.Proofs.YtgfgglponbmgmaaGreatA.Am
set_option maxRecDepth 10000
section
open Go.Proofs.YtgfgglponbmgmaaGreatA
variable {G:ae} {H H':aa} {o o':aj} {p:Nat} {K:aa→aj→Prop} {st Nz:Y.St} {α β:Type}
def JA:Y.Ask→Int→Int→Int→Int→List Int→Prop
 | .rd a',k,a,x,y,w=>k=1∧a=a'
 | .wr a' x',k,a,x,y,w=>k=2∧a=a'∧x=x'
 | .cs a' x' y',k,a,x,y,w=>k=3∧a=a'∧x=x'∧y=y'
 | .ad a' x',k,a,x,y,w=>k=4∧a=a'∧x=x'
 | .mk w',k,a,x,y,w=>k=5∧w=w'
def zg (H:aa)(o:aj)(p:Nat)(st:Y.St):Prop:=
 ∃(tape w:Value) (T W:List Int) (i:Nat) (nk na nx ny:Int) (ty:TypeId),
  H.get p=some ⟨[tape,cv i,.bool st.off,cv nk,cv na,cv nx,cv ny,w,cv st.oS,cv st.laid],ty,1,false⟩∧o p=p∧
  dH H o (-50) tape T∧T.length≤1048576∧dH H o (-51) w W∧i≤T.length∧st.rest=T.drop i∧(st.off=true→JA st.next nk na nx ny W)
theorem zg.fr {ps:List Int}(h:zg H o p st)(f:Fr H o H' o' ps)(h1:(p:Int) ∉ ps)(h2:(-50:Int) ∉ ps)(h3:(-51:Int) ∉ ps):zg H' o' p st:=by
 obtain⟨tape,w,T,W,i,nk,na,nx,ny,ty,g,ho,ht,hT,hw,hi⟩:=h;exact⟨tape,w,T,W,i,nk,na,nx,ny,ty,by rw[f.same p (ar g) (by rw[ho];exact h1)];exact g,by rw[f.own p (ar g)];exact ho,ht.fr f h2,hT,hw.fr f h3,hi⟩
def JX (K:aa→aj→Prop)(p:Nat)(st:Y.St)(H:aa):Prop:=bH [(p:Int)] K∧∃o,zg H o p st∧K H o
def PH (K:aa→aj→Prop)(p:Nat)(st:Y.St)(l:List Int)(H:aa)(w:Value):Prop:=bH [(p:Int)] K∧∃o,zg H o p st∧K H o∧dH H o (-51) w l
theorem JX.mono {L:aa→aj→Prop}(h:JX K p st H)(hL:bH [(p:Int)] L)(k: ∀o,K H o→L H o):JX L p st H:=by
 obtain⟨hK,o,h1,h2⟩:=h;exact⟨hL,o,h1,k o h2⟩
theorem JX.Hc (h:JX K p st H):PH K p st [] H (.slice none 0 0):=by
 obtain⟨hK,o,h1,h2⟩:=h;exact⟨hK,o,h1,h2,.nil⟩
theorem JX.off (h:JX K p st H):aq (.pointer (some ⟨p,2,none⟩)) H=some (.bool st.off):=by
 obtain⟨hK,o,⟨tape,w,T,W,i,nk,na,nx,ny,ty,g,_⟩,_⟩:=h;exact an p 2 H g
theorem JX.words (h:JX K p st H)(l:List Int)(t:TypeId):PH K p st l (H.new ⟨l.map cv,t,1,false⟩) (.slice (some ⟨H.length,0,none⟩) l.length l.length):=by
 obtain⟨hK,o,hr,hk⟩:=h;have f:Fr H o (H.new ⟨l.map cv,t,1,false⟩) (o.up H.length (-51)) []:=(Fr.refl H o []).new _ _;exact⟨hK,_,hr.fr f (by simp) (by simp) (by simp),hK _ _ _ _ hk (f.wk (by simp)),(oQ.new H o (-51) t l).ints⟩
theorem Fb {k a x y:Int}{w:Value}{l:List Int}{q:Y.Ask}(h:PH K p st l H w)(hq:JA q k a x y l):
  aF (run G) 160 [pv p,nA k a x y w] H λv H'=>v=cv (Y.oT q st).1∧JX K p (Y.oT q st).2 H':=by
 obtain⟨hK,o,⟨tape,w0,T,W,i,nk,na,nx,ny,ty,g,ho,ht,hT,Tf,hi,JB,UY⟩,hk,hw⟩:=h;obtain⟨wb,wc,ew⟩:=hw.1.isSlice;obtain⟨tb,tc,et⟩:=ht.1.isSlice;obtain⟨H1,e1⟩: ∃z,z=H.new ⟨[cv k,cv a,cv x,cv y,w],112,1,false⟩:=⟨_,rfl⟩;have bx:=C4 k a x y (b:=wb) (n:=l.length) (c:=wc) H;rw[←ew, ←e1] at bx;have hp:=ar g;obtain⟨o1,eo1⟩: ∃z,z=o.up H.length (-9):=⟨_,rfl⟩;have f1:Fr H o H1 o1 []:=by rw[e1,eo1];exact(Fr.refl H o []).new _ _
 have g1:H1.get p=some ⟨[tape,cv i,.bool st.off,cv nk,cv na,cv nx,cv ny,w0,cv st.oS,cv st.laid],ty,1,false⟩:=by rw[e1,dq hp];exact g
 have gb:H1.get H.length=some ⟨[cv k,cv a,cv x,cv y,w],112,1,false⟩:=by rw[e1];exact aL
 have Kr:o1 p=p:=by rw[f1.own p hp];exact ho
 have L2:=an p 2 H1 g1;have L1:=an p 1 H1 g1;have L0:=an p 0 H1 g1;simp only[List.getElem?_cons_succ,List.getElem?_cons_zero] at L2 L1 L0;have tl:=ht.1.len;cases m0:st.off with
 |true=>
  have ea:Y.oT q st=(0,st):=Y.E7 q st m0;rw[ea];rw[m0] at L2;refine aF.is (v:=cv 0) (H':=H1) (λn=>?_) ⟨rfl,hK,o1,⟨tape,w0,T,W,i,nk,na,nx,ny,ty,g1,Kr,ht.fr f1 (by simp),hT,Tf.fr f1 (by simp),hi,JB,UY⟩,hK _ _ _ _ hk (f1.wk (by simp))⟩
  rw[pA];simp -implicitDefEqProofs [GV,bx,Bj,gX,L2]
 |false=>
  rw[m0] at L2;by_cases gH:i<T.length
  ·have Hd:(i:Int)<T.length:=by omega
   have ed:T.drop i=T.getD i 0::T.drop (i+1):=by
    rw[List.drop_eq_getElem_cons gH];simp[List.getD_eq_getElem?_getD,gH]
   have ea:Y.oT q st=(T.getD i 0,{st with rest:=T.drop (i+1)}):=by
    unfold Y.oT;rw[m0,JB,ed];rfl
   rw[ea];obtain⟨H2,e2⟩: ∃z,z=H1.put p ⟨[tape,cv (i+1:Nat),.bool st.off,cv nk,cv na,cv nx,cv ny,w0,cv st.oS,cv st.laid],ty,1,false⟩:=⟨_,rfl⟩;have BU:IntKind.i64.wrap ((i:Int)+1)=((i+1:Nat):Int):=by rw[ga (by omega)];omega
   have w7:IntKind.i64.wrap (((i+1:Nat):Int)-1)=(i:Int):=by rw[ga (by omega)];omega
   have S1:=gY p 1 ((i+1:Nat):Int) H1 g1 rfl (by simp)
   simp only[List.set_cons_succ,List.set_cons_zero] at S1;rw[←e2] at S1;have g2:H2.get p=some ⟨[tape,cv (i+1:Nat),.bool st.off,cv nk,cv na,cv nx,cv ny,w0,cv st.oS,cv st.laid],ty,1,false⟩:=by rw[e2];exact aG g1
   have f2:Fr H o H2 o1 [(p:Int)]:=by rw[e2];exact(f1.wk (by simp)).put λ_=>by simp[ho]
   have C8:=ht.fr f2 (by simp)
   obtain⟨q',off,b,hix,hb,hbc⟩:=C8.1.idx gH;have L1':=an p 1 H2 g2;have L0':=an p 0 H2 g2;simp only[List.getElem?_cons_succ,List.getElem?_cons_zero] at L1' L0';have LT:=an q' off H2 hb;rw[hbc] at LT;refine aF.is (v:=cv (T.getD i 0)) (H':=H2) (λn=>?_) ⟨rfl,hK,o1,⟨tape,w0,T,W,i+1,nk,na,nx,ny,ty,g2,Kr,C8,hT,Tf.fr f2 (by simp),by omega,rfl,UY⟩,hK _ _ _ _ hk f2⟩
   rw[pA];simp -implicitDefEqProofs [-Int.natCast_add,GV,bx,Bj,gX,L2,L1,L0,tl,sv,Hd,Ju,Jv,BU,w7,S1,L1',L0',hix,LT]
  ·have Hd: ¬(i:Int)<T.length:=by omega
   have ed:T.drop i=[]:=List.drop_eq_nil_of_le (by omega)
   have ea:Y.oT q st=(0,{st with off:=true,next:=q}):=by
    unfold Y.oT;rw[m0,JB,ed];rfl
   rw[ea];obtain⟨H2,e2⟩: ∃z,z=H1.put p ⟨[tape,cv i,.bool true,cv nk,cv na,cv nx,cv ny,w0,cv st.oS,cv st.laid],ty,1,false⟩:=⟨_,rfl⟩;have S1:=sA p 2 (.bool true) H1 g1 rfl (by simp) rfl rfl rfl
   simp only[List.set_cons_succ,List.set_cons_zero] at S1;rw[←e2] at S1;have g2:H2.get p=some ⟨[tape,cv i,.bool true,cv nk,cv na,cv nx,cv ny,w0,cv st.oS,cv st.laid],ty,1,false⟩:=by rw[e2];exact aG g1
   have gb2:H2.get H.length=some ⟨[cv k,cv a,cv x,cv y,w],112,1,false⟩:=by rw[e2,bt (by omega)];exact gb
   have LB:dh 5 (pv H.length) H2=some (nA k a x y w):=by simp[dh,aR,gb2]
   obtain⟨H3,e3⟩: ∃z,z=H2.put p ⟨[tape,cv i,.bool true,cv k,cv a,cv x,cv y,w,cv st.oS,cv st.laid],ty,1,false⟩:=⟨_,rfl⟩;have S2:bE 5 (.pointer (some ⟨p,3,none⟩)) (nA k a x y w) H2=some (undef,H3):=by
    subst ew;simp[bE,bZ,g2,Value.cells,known,aD,dz,e3]
   have g3:H3.get p=some ⟨[tape,cv i,.bool true,cv k,cv a,cv x,cv y,w,cv st.oS,cv st.laid],ty,1,false⟩:=by rw[e3];exact aG g2
   have f3:Fr H o H3 o1 [(p:Int)]:=by rw[e3,e2];exact((f1.wk (by simp)).put λ_=>by simp[ho]).put λ_=>by simp[ho]
   refine aF.is (v:=cv 0) (H':=H3) (λn=>?_) ⟨rfl,hK,o1,⟨tape,w,T,l,i,k,a,x,y,ty,g3,Kr,ht.fr f3 (by simp),hT,hw.fr f3 (by simp),hi,JB,λ_=>hq⟩,hK _ _ _ _ hk f3⟩
   rw[pA];simp -implicitDefEqProofs [GV,bx,Bj,gX,L2,L1,L0,tl,sv,Hd,S1,LB,S2]
abbrev oW (K:aa→aj→Prop)(p:Nat)(st:Y.St)(t:Y.Tr Int):Value→aa→Prop:=λv H'=>v=cv (Y.ah t st).1∧JX K p (Y.ah t st).2 H'
abbrev jU (K:aa→aj→Prop)(p:Nat)(st:Y.St)(t:Y.Tr Bool):Value→aa→Prop:=λv H'=>v= .bool (Y.ah t st).1∧JX K p (Y.ah t st).2 H'
abbrev PI (K:aa→aj→Prop)(p:Nat)(st:Y.St)(t:Y.Tr α):Value→aa→Prop:=λv H'=>JX K p (Y.ah t st).2 H'
abbrev iN (K:aa→aj→Prop)(p:Nat)(st:Y.St)(t:Y.Tr (Int×Bool)):Value→aa→Prop:=λv H'=>v= .tuple #[cv (Y.ah t st).1.1,.bool (Y.ah t st).1.2]∧JX K p (Y.ah t st).2 H'
abbrev kl (K:aa→aj→Prop)(p:Nat)(st:Y.St)(t:Y.Tr (Int×Int)):Value→aa→Prop:=λv H'=>v= .tuple #[cv (Y.ah t st).1.1,cv (Y.ah t st).1.2]∧JX K p (Y.ah t st).2 H'
section
variable {k:Nat→Value→aa→Option β} {Q:β→Prop} {C:Nat→ae} {f:Nat} {args:List Value}
theorem Ev.fe {t:Y.Tr Int}(h:aF C f args H (oW K p st t))(hk: ∀z s1 H',Y.ah t st=(z,s1)→JX K p s1 H'→Ev (λn=>k n (cv z) H') Q):Ev (λn=>af (C n f args H) (k n)) Q:=
 Ev.call h λv H' hq=>by obtain⟨rfl,hj⟩:=hq;exact hk _ _ H' rfl hj
theorem Ev.MM {t:Y.Tr Bool}(h:aF C f args H (jU K p st t))(hk: ∀z s1 H',Y.ah t st=(z,s1)→JX K p s1 H'→Ev (λn=>k n (.bool z) H') Q):Ev (λn=>af (C n f args H) (k n)) Q:=
 Ev.call h λv H' hq=>by obtain⟨rfl,hj⟩:=hq;exact hk _ _ H' rfl hj
theorem Ev.ZV {t:Y.Tr α}(h:aF C f args H (PI K p st t))(hk: ∀v z s1 H',Y.ah t st=(z,s1)→JX K p s1 H'→Ev (λn=>k n v H') Q):Ev (λn=>af (C n f args H) (k n)) Q:=
 Ev.call h λv H' hq=>hk v _ _ H' rfl hq
theorem Ev.Fc {t:Y.Tr (Int×Bool)}(h:aF C f args H (iN K p st t))(hk: ∀z b s1 H',Y.ah t st=((z,b),s1)→JX K p s1 H'→Ev (λn=>k n (.tuple #[cv z,.bool b]) H') Q):Ev (λn=>af (C n f args H) (k n)) Q:=
 Ev.call h λv H' hq=>by obtain⟨rfl,hj⟩:=hq;exact hk _ _ _ H' rfl hj
theorem Ev.aaS {t:Y.Tr (Int×Int)}(h:aF C f args H (kl K p st t))(hk: ∀z b s1 H',Y.ah t st=((z,b),s1)→JX K p s1 H'→Ev (λn=>k n (.tuple #[cv z,cv b]) H') Q):Ev (λn=>af (C n f args H) (k n)) Q:=
 Ev.call h λv H' hq=>by obtain⟨rfl,hj⟩:=hq;exact hk _ _ _ H' rfl hj
theorem Ev.nZ (h:JX K p st H)(h1:st.off=true→Ev (λn=>k n (.bool true) H) Q)(h2:st.off=false→Ev (λn=>k n (.bool false) H) Q):Ev (λn=>af (pS (aq (.pointer (some ⟨p,2,none⟩)) H) H) (k n)) Q:=
 Ev.boo h.off h1 h2
end
theorem df (h:JX K p st H)(a:Int):aF (run G) 139 [pv p,cv a] H (oW K p st (Y.rd a)):=by
 refine Ev.up (t:=λn=>Po (run G n) n (pv p) (cv a) H) ?_ λn=>Jh ..
 simp -implicitDefEqProofs only[Po,Pz,kM,cS];refine Ev.call (Fb (q:=.rd a) h.Hc ⟨rfl,rfl⟩) ?_;rintro v H' ⟨rfl,hj⟩;exact Ev.ret ⟨rfl,hj⟩
theorem C9 (h:JX K p st H)(a x:Int):aF (run G) 146 [pv p,cv a,cv x] H (PI K p st (Y.wt a x)):=by
 refine Ev.up (t:=λn=>X1 (run G n) n (pv p) (cv a) (cv x) H) ?_ λn=>SE ..
 simp -implicitDefEqProofs only[X1,Yt,kM,cS];refine Ev.call (Fb (q:=.wr a x) h.Hc ⟨rfl,rfl,rfl⟩) ?_;rintro v H' ⟨rfl,hj⟩;exact Ev.ret hj
theorem UZ (h:JX K p st H)(a x:Int):aF (run G) 154 [pv p,cv a,cv x] H (oW K p st (Y.ad a x)):=by
 refine Ev.up (t:=λn=>XI (run G n) n (pv p) (cv a) (cv x) H) ?_ λn=>Sp ..
 simp -implicitDefEqProofs only[XI,Yv,kM,cS];refine Ev.call (Fb (q:=.ad a x) h.Hc ⟨rfl,rfl,rfl⟩) ?_;rintro v H' ⟨rfl,hj⟩;exact Ev.ret ⟨rfl,hj⟩
theorem Fe (h:JX K p st H)(a x y:Int):aF (run G) 140 [pv p,cv a,cv x,cv y] H λv H'=>v= .bool (decide ((Y.ah (Y.cs a x y) st).1=1))∧JX K p (Y.ah (Y.cs a x y) st).2 H':=by
 refine Ev.up (t:=λn=>XH (run G n) n (pv p) (cv a) (cv x) (cv y) H) ?_ λn=>So ..
 simp -implicitDefEqProofs only[XH,Yu,kM,cS];refine Ev.call (Fb (q:=.cs a x y) h.Hc ⟨rfl,rfl,rfl,rfl⟩) ?_;rintro v H' ⟨rfl,hj⟩;simp -implicitDefEqProofs only[C0,kM,cS];exact Ev.ret ⟨rfl,hj⟩
theorem nE {w:Value}{l:List Int}(h:PH K p st l H w):aF (run G) 141 [pv p,w] H λv H'=>v= .tuple #[cv (Y.ah (Y.mk l) st).1,.bool (decide ((Y.ah (Y.mk l) st).1>0))]∧JX K p (Y.ah (Y.mk l) st).2 H':=by
 refine Ev.up (t:=λn=>WH (run G n) n (pv p) w H) ?_ λn=>RQ ..
 obtain⟨b,n,c,ew⟩: ∃b n c,w= .slice b n c:=by
  obtain⟨_,o,_,_,hw⟩:=h;obtain⟨b,c,e⟩:=hw.1.isSlice;exact⟨b,_,c,e⟩
 subst ew;simp -implicitDefEqProofs only[WH,Yw,kM,cS];refine Ev.call (Fb (q:=.mk l) h ⟨rfl,rfl⟩) ?_;rintro v H' ⟨rfl,hj⟩;simp -implicitDefEqProofs only[Js,kM,cS];exact Ev.ret ⟨rfl,hj⟩
end
end Go.Proofs.YtgfgglponbmgmaaGreat.Fun
end
