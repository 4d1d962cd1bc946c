/- Texts of the proof of helpPlays_holds, put together by a small program of ours (names shortened, spaces taken out). No condition beyond the given statement. -/
import Derived.Test.YtgfgglponbmgmaaGreatHPL19
import Derived.Test.YtgfgglponbmgmaaGreatHPL11
import Derived.Test.YtgfgglponbmgmaaGreatHPL15
import Derived.Test.YtgfgglponbmgmaaGreatHPL16
import Derived.Test.YtgfgglponbmgmaaGreatHPL17
import Derived.Test.YtgfgglponbmgmaaGreatHPL9
import Derived.Test.YtgfgglponbmgmaaGreatHPL12
import Derived.Test.YtgfgglponbmgmaaGreatHPL13
import Derived.Test.YtgfgglponbmgmaaGreatHPL18
set_option linter.unusedVariables false
set_option linter.unusedSimpArgs false
set_option linter.unnecessarySimpa false
noncomputable section
section
namespace Go.Proofs.YtgfgglponbmgmaaGreatA.Am
variable {α β:Type}
def Ev (t:Nat→Option β)(Q:β→Prop):Prop:=∃N r,(∀n,N≤n→t n=some r)∧Q r
theorem Ev.ret {r:β}{Q:β→Prop}(h:Q r):Ev (λ_=>some r) Q:=⟨0,r,λ_ _=>rfl,h⟩
theorem Ev.mono {t:Nat→Option β}{Q R:β→Prop}(h:Ev t Q)(k: ∀r,Q r→R r):Ev t R:=by
 obtain⟨N,r,h1,h2⟩:=h;exact⟨N,r,h1,k r h2⟩
theorem Ev.up {t u:Nat→Option β}{Q:β→Prop}(h:Ev t Q)(k: ∀n,u (n+1)=t n):Ev u Q:=by
 obtain⟨N,r,h1,h2⟩:=h;refine⟨N+1,r,λn hn=>?_,h2⟩
 cases n with
 |zero=>omega
 |succ n=>rw[k,h1 n (by omega)]
theorem Ev.af {t:Nat→Option (Value×aa)}{k:Nat→Value→aa→Option α}{Q1:Value×aa→Prop}{Q:α→Prop}(h:Ev t Q1)(hk: ∀v H,Q1 (v,H)→Ev (λn=>k n v H) Q):Ev (λn=>af (t n) (k n)) Q:=by
 obtain⟨N,⟨v,H⟩,h1,h2⟩:=h;obtain⟨M,r,h3,h4⟩:=hk v H h2;refine⟨max N M,r,λn hn=>?_,h4⟩
 simp only[h1 n (by omega)]
 exact h3 n (by omega)
theorem Ev.cl {t:Nat→bd}{k:Nat→bA→List Value→aa→Option α}{Q1:bA×List Value×aa→Prop}{Q:α→Prop}(h:Ev t Q1)(hk: ∀e vs H,Q1 (e,vs,H)→Ev (λn=>k n e vs H) Q):Ev (λn=>cl (t n) (k n)) Q:=by
 obtain⟨N,⟨e,vs,H⟩,h1,h2⟩:=h;obtain⟨M,r,h3,h4⟩:=hk e vs H h2;refine⟨max N M,r,λn hn=>?_,h4⟩
 simp only[h1 n (by omega)]
 exact h3 n (by omega)
theorem Ev.br {x y:Nat→Option α}{b:Bool}{Q:α→Prop}(h:b=true→Ev x Q)(k:b=false→Ev y Q):Ev (λn=>aU (.bool b) (x n) (y n)) Q:=by
 cases b with
 |true=>exact h rfl
 |false=>exact k rfl
theorem Ev.iter {step:Nat→List Value→aa→bd}{I:Nat→List Value→aa→Prop}{R:bA×List Value×aa→Prop}(h: ∀k vs H,I k vs H→Ev (λn=>step n vs H) λr=>(r.1= .normal∧∃k',k'<k∧I k' r.2.1 r.2.2)∨(r.1≠ .normal∧R r)):
  ∀k vs H,I k vs H→Ev (λn=>Am.iter n (step n) vs H) λr=>r.1≠ .normal∧R r:=by
 have key: ∀k vs H,I k vs H→∃N r,(∀n m,N≤n→N≤m→Am.iter m (step n) vs H=some r)∧r.1≠ .normal∧R r:=by
  intro k;induction k using Nat.strongRecOn with
  |ind k ih=>
   intro vs H hi;obtain⟨N,⟨e,jf,H'⟩,h1,h2⟩:=h k vs H hi;rcases h2 with⟨he,k',hk,qT⟩|⟨he,hr⟩
   ·simp only at he;subst he;obtain⟨M,r,h3,h4⟩:=ih k' hk jf H' qT;refine⟨max N M+1,r,λn m hn hm=>?_,h4⟩
    cases m with
    |zero=>omega
    |succ m=>
     simp only[Am.iter,h1 n (by omega)]
     exact h3 n m (by omega) (by omega)
   ·refine⟨N+1,(e,jf,H'),λn m hn hm=>?_,he,hr⟩
    cases m with
    |zero=>omega
    |succ m=>
     simp only[Am.iter,h1 n (by omega)]
     cases e with
     |normal=>exact absurd rfl he
     |exit i=>rfl
     |ret=>rfl
 intro k vs H hi;obtain⟨N,r,h1,h2⟩:=key k vs H hi;exact⟨N,r,λn hn=>h1 n n hn hn,h2⟩
theorem Ev.loop {step:Nat→List Value→aa→bd}{kk:Nat→bA→List Value→aa→Option α}{Q:α→Prop}(I:Nat→List Value→aa→Prop)(R:bA×List Value×aa→Prop){k:Nat}{vs:List Value}{H:aa}(hi:I k vs H)(h: ∀k vs H,I k vs H→Ev (λn=>step n vs H) λr=>(r.1= .normal∧∃k',k'<k∧I k' r.2.1 r.2.2)∨(r.1≠ .normal∧R r))(hk: ∀e vs H,R (e,vs,H)→Ev (λn=>kk n e vs H) Q):Ev (λn=>Am.cl (Am.iter n (step n) vs H) (kk n)) Q:=
 Ev.cl (Ev.iter h k vs H hi) λe vs H hr=>hk e vs H hr.2
abbrev aF (C:Nat→ae)(f:Nat)(args:List Value)(H:aa)(Q:Value→aa→Prop):Prop:=Ev (λn=>C n f args H) λr=>Q r.1 r.2
theorem aF.is {C:Nat→ae}{f:Nat}{args:List Value}{H H':aa}{v:Value}{Q:Value→aa→Prop}(h: ∀n,C (n+1) f args H=some (v,H'))(hq:Q v H'):aF C f args H Q:=
 ⟨1,(v,H'),λn hn=>by
  cases n with
  |zero=>omega
  |succ n=>exact h n,hq⟩
theorem aF.mono {C:Nat→ae}{f:Nat}{args:List Value}{H:aa}{Q R:Value→aa→Prop}(h:aF C f args H Q)(k: ∀v H',Q v H'→R v H'):aF C f args H R:=Ev.mono h λr=>k r.1 r.2
theorem Ev.call {C:Nat→ae}{f:Nat}{args:List Value}{H:aa}{Q1:Value→aa→Prop}{k:Nat→Value→aa→Option α}{Q:α→Prop}(h:aF C f args H Q1)(hk: ∀v H',Q1 v H'→Ev (λn=>k n v H') Q):Ev (λn=>Am.af (C n f args H) (k n)) Q:=
 Ev.af h λv H' hq=>hk v H' hq
variable {H H':aa} {o o':aj} {q:Int}
abbrev PL:=List (Int×Int)
def kJ:PL→List Value
 | []=>[]
 |x::l=>cv x.1::cv x.2::kJ l
theorem sB: ∀l:PL,(kJ l).length=2*l.length
 | []=>rfl
 |x::l=>by simp only[kJ,List.length_cons,sB l];omega
theorem C3: ∀a b:PL,kJ (a++b)=kJ a++kJ b
 | [],b=>rfl
 |x::a,b=>by simp only[List.cons_append,kJ,C3 a b]
theorem Jx: ∀l:PL,(kJ l).all aD=true
 | []=>rfl
 |x::l=>by simp only[kJ,List.all_cons,Jx l,Bool.and_true];rfl
theorem EZ: ∀(l:PL) (n:Nat),(kJ l).drop (2*n)=kJ (l.drop n)
 |l,0=>rfl
 | [],n+1=>by simp[kJ]
 |x::l,n+1=>by
  rw[show 2*(n+1)=2*n+1+1 by omega]
  simp only[kJ,List.drop_succ_cons];exact EZ l n
theorem E5: ∀(l:PL) (n:Nat),(kJ l).take (2*n)=kJ (l.take n)
 |l,0=>rfl
 | [],n+1=>by simp[kJ]
 |x::l,n+1=>by
  rw[show 2*(n+1)=2*n+1+1 by omega]
  simp only[kJ,List.take_succ_cons,E5 l n]
theorem y3: ∀{l:PL} {j:Nat},j<l.length→(kJ l)[2*j]? =some (cv (l.getD j (0,0)).1)
 | [],j,h=>by simp at h
 |x::l,0,h=>rfl
 |x::l,j+1,h=>by
  rw[show 2*(j+1)=2*j+1+1 by omega]
  simp only[kJ,List.getElem?_cons_succ,List.getD_cons_succ];exact y3 (by simpa using h)
theorem y4: ∀{l:PL} {j:Nat},j<l.length→(kJ l)[2*j+1]? =some (cv (l.getD j (0,0)).2)
 | [],j,h=>by simp at h
 |x::l,0,h=>rfl
 |x::l,j+1,h=>by
  rw[show 2*(j+1)+1=2*j+1+1+1 by omega]
  simp only[kJ,List.getElem?_cons_succ,List.getD_cons_succ];exact y4 (by simpa using h)
def gZ (H:aa)(o:aj)(q:Int)(x:Value)(l:PL):Prop:=
 (x= .slice none 0 0∧l=[])∨∃i cap rest ty,x= .slice (some ⟨i,0,none⟩) l.length cap∧H.get i=some ⟨kJ l++rest,ty,2,false⟩∧2*l.length+rest.length=2*cap∧o i=q
theorem gZ.nil:gZ H o q (.slice none 0 0) []:=.inl ⟨rfl,rfl⟩
theorem gZ.fr {x:Value}{l:PL}{ps:List Int}(h:gZ H o q x l)(f:Fr H o H' o' ps)(hp:q ∉ ps):gZ H' o' q x l:=by
 rcases h with h|⟨i,cap,rest,ty,h1,h2,h3,h4⟩
 ·exact .inl h
 ·exact .inr ⟨i,cap,rest,ty,h1,by rw[f.same i (ar h2) (by rw[h4];exact hp)];exact h2,h3,by rw[f.own i (ar h2)];exact h4⟩
theorem gZ.isSlice {x:Value}{l:PL}(h:gZ H o q x l): ∃a c,x= .slice a l.length c:=by
 rcases h with⟨rfl,rfl⟩|⟨i,cap,rest,ty,rfl,_⟩
 ·exact⟨_,_,rfl⟩
 ·exact⟨_,_,rfl⟩
theorem gZ.len {x:Value}{l:PL}(h:gZ H o q x l):cE x=some (cv l.length):=by
 obtain⟨a,c,rfl⟩:=h.isSlice;rfl
theorem gZ.idx {x:Value}{l:PL}(h:gZ H o q x l){j:Nat}(hj:j<l.length):
  ∃i b,(∀H',cK 2 x (cv j) H'=some (.pointer (some ⟨i,2*j,none⟩),H'))∧H.get i=some b∧o i=q∧∀H':aa,H'.get i=some b→aq (.pointer (some ⟨i,2*j,none⟩)) H'=some (cv (l.getD j (0,0)).1)∧aq (.pointer (some ⟨i,2*j+1,none⟩)) H'=some (cv (l.getD j (0,0)).2)∧
   dh 2 (.pointer (some ⟨i,2*j,none⟩)) H'=some (.agg #[cv (l.getD j (0,0)).1,cv (l.getD j (0,0)).2]):=by
 rcases h with⟨rfl,rfl⟩|⟨i,cap,rest,ty,rfl,h2,h3,h4⟩
 ·simp at hj
 ·have g0:=y3 hj;have g1:=y4 hj;have l0:=sB l;refine⟨i,_,λH'=>?_,h2,h4,λH' e=>?_⟩
  ·simp only[cK];rw[if_pos (by constructor<;>omega)];simp<;>omega
  ·have c0:(kJ l++rest)[2*j]? =some (cv (l.getD j (0,0)).1):=by rw[List.getElem?_append_left (by omega)];exact g0
   have c1:(kJ l++rest)[2*j+1]? =some (cv (l.getD j (0,0)).2):=by rw[List.getElem?_append_left (by omega)];exact g1
   refine⟨by rw[an i _ H' e];exact c0,by rw[an i _ H' e];exact c1,?_⟩
   have uW:aR H' i (2*j) 2=some [cv (l.getD j (0,0)).1,cv (l.getD j (0,0)).2]:=by
    simp only[aR,e];rw[if_pos (by rw[List.length_append];omega)]
    have hd:(kJ l++rest).drop (2*j)=cv (l.getD j (0,0)).1::cv (l.getD j (0,0)).2::(kJ l++rest).drop (2*j+2):=by
     rw[List.drop_eq_getElem_cons (by rw[List.length_append];omega),List.drop_eq_getElem_cons (by rw[List.length_append];omega)]
     rw[List.getElem?_eq_getElem (by rw[List.length_append];omega)] at c0 c1
     simp only[Option.some.injEq] at c0 c1;rw[c0,c1]
    rw[hd];rfl
   simp only[dh,uW]
def Src (H:aa)(x:Value)(l:PL):Prop:=∃a c,x= .slice a l.length c∧cJ H 2 l.length x=some (kJ l)
theorem Src.one {i:Nat}{k v:Int}{t:TypeId}(h:H.get i=some ⟨[cv k,cv v],t,2,false⟩):Src H (.slice (some ⟨i,0,none⟩) 1 1) [(k,v)]:=
 ⟨_,_,rfl,by simp[cJ,aR,h,kJ]⟩
theorem gZ.app {x y:Value}{l m:PL}(t:TypeId)(h:gZ H o q x l)(hy:Src H y m)(hb:l.length+m.length≤4294967296):
  ∃x' H' o',dk t 2 16 x y H=some (x',H')∧gZ H' o' q x' (l++m)∧Fr H o H' o' [q]∧(∀i,(∀n k,x≠ .slice (some ⟨i,0,none⟩) n k)→i<H.length→H'[i]? =H[i]? ∧∀n k,x'≠ .slice (some ⟨i,0,none⟩) n k):=by
 obtain⟨b,c,rfl,hc⟩:=hy;by_cases hm:m=[]
 ·subst hm;refine⟨x,H,o,?_,by simpa using h,.refl _ _ _,λi hi _=>⟨rfl,hi⟩⟩
  rcases h with⟨rfl,rfl⟩|⟨i,cap,rest,ty,rfl,h2,h3,h4⟩
  ·simp only[dk,hc,Option.map_some];simp
  ·simp only[dk,hc,Option.map_some];rw[if_pos (by simp;omega)];simp
 have Rr:m.length≠0:=by simpa using hm
 have lm:=sB m;rcases h with⟨rfl,rfl⟩|⟨i,cap,rest,ty,rfl,h2,h3,h4⟩
 ·refine⟨.slice (some ⟨H.length,0,none⟩) m.length m.length,H.new ⟨kJ m,t,2,false⟩,o.up H.length q,?_,?_,(Fr.refl _ _ _).new _ _,λi _ hi=>⟨mR hi,λn k e=>by cases e;omega⟩⟩
  ·simp only[dk,hc,Option.map_some];rw[if_neg (by omega),if_pos (by simp;simp at hb;omega)]
   simp
  ·exact .inr ⟨H.length,m.length,[],t,by simp,by simpa using aL,by simp,aP⟩
 ·have hql:=ar h2;have ll:=sB l;by_cases jn:l.length+m.length≤cap
  ·refine⟨.slice (some ⟨i,0,none⟩) (l++m).length cap,H.put i ⟨kJ (l++m)++rest.drop (2*m.length),ty,2,false⟩,o,?_,?_,(Fr.refl _ _ _).put (λ_=>by simp[h4]),λj hj _=>⟨fF (by rintro rfl;exact hj _ _ rfl),λn k e=>by cases e;exact hj _ _ rfl⟩⟩
   ·simp only[dk,hc,Option.map_some];rw[if_pos jn,if_neg Rr];simp only[h2,if_true,bZ];rw[if_pos (by simp only[Jx,List.length_append,lm,ll,Bool.not_false,Bool.true_and,Bool.and_true,decide_eq_true_eq];omega)]
    have e:=qL (kJ m) (kJ l) rest (by rw[lm];omega)
    rw[ll,lm] at e;simp only[Nat.zero_add,show l.length*2=2*l.length by omega,e,Option.map_some,C3,List.length_append]
   ·exact .inr ⟨i,cap,rest.drop (2*m.length),ty,rfl,aG h2,by simp;omega,h4⟩
  ·refine⟨.slice (some ⟨H.length,0,none⟩) (l++m).length (l++m).length,(H.kill i).new ⟨kJ (l++m),t,2,false⟩,o.up H.length q,?_,?_,?_,?_⟩
   ·simp only[dk,hc,Option.map_some];rw[if_neg jn,if_pos (by simp;omega)]
    simp only[h2];rw[if_pos (by simp[ll];omega)]
    have e:aR H i 0 (l.length*2)=some (kJ l):=by
     simp only[aR,h2];rw[if_pos (by rw[List.length_append];omega),List.drop_zero,List.take_left' (by omega)]
    simp only[e,C3,List.length_append]
   ·have:=aL (H:=H.kill i) (c:=⟨kJ (l++m),t,2,false⟩)
    rw[gF] at this;exact .inr ⟨H.length,(l++m).length,[],t,rfl,by simpa using this,by simp,aP⟩
   ·have:=((Fr.refl H o [q]).kill (i:=i) (λ_=>by simp[h4])).new ⟨kJ (l++m),t,2,false⟩ q
    rw[gF] at this;exact this
   ·intro j hj AK;exact⟨by rw[mR (by rw[gF];exact AK),MJ (by rintro rfl;exact hj _ _ rfl)],λn k e=>by cases e;omega⟩
theorem gZ.relabel {x:Value}{l:PL}{q':Int}(h:gZ H o q x l)(k: ∀i,i<H.length→o i=q→o' i=q'):gZ H o' q' x l:=by
 rcases h with h|⟨i,cap,rest,ty,h1,h2,h3,h4⟩
 ·exact .inl h
 ·exact .inr ⟨i,cap,rest,ty,h1,h2,h3,k i (ar h2) h4⟩
variable {H H':aa} {o o':aj} {q:Int}
def gT (H:aa)(o:aj)(q:Int)(x:Value)(l:PL):Prop:=
 (x= .slice none 0 0∧l=[])∨(∃i off,x= .slice (some ⟨i,off,none⟩) 0 0∧l=[])∨
 ∃i off c b,x= .slice (some ⟨i,off,none⟩) l.length c∧H.get i=some b∧b.es=2∧o i=q∧l.length≤c∧off+2*l.length≤b.cells.length∧(b.cells.drop off).take (2*l.length)=kJ l
theorem gZ.r {x:Value}{l:PL}(h:gZ H o q x l):gT H o q x l:=by
 rcases h with h|⟨i,cap,rest,ty,h1,h2,h3,h4⟩
 ·exact .inl h
 ·have:=sB l
  exact .inr (.inr ⟨i,0,cap,_,h1,h2,rfl,h4,by omega,by simp;omega,by simp only[List.drop_zero];exact List.take_left' (by omega)⟩)
theorem gT.nil:gT H o q (.slice none 0 0) []:=.inl ⟨rfl,rfl⟩
theorem gT.mv {x:Value}{l:PL}(h:gT H o q x l)(k: ∀i,i<H.length→o i=q→H'.get i=H.get i∧o' i=q):gT H' o' q x l:=by
 rcases h with h|h|⟨i,off,c,b,h1,h2,h3,h4,h5⟩
 ·exact .inl h
 ·exact .inr (.inl h)
 ·obtain⟨k1,k2⟩:=k i (ar h2) h4;exact .inr (.inr ⟨i,off,c,b,h1,by rw[k1];exact h2,h3,k2,h5⟩)
theorem gT.fr {x:Value}{l:PL}{ps:List Int}(h:gT H o q x l)(f:Fr H o H' o' ps)(hp:q ∉ ps):gT H' o' q x l:=
 h.mv λi hi ho=>⟨f.same i hi (by rw[ho];exact hp),by rw[f.own i hi];exact ho⟩
theorem gT.relabel {x:Value}{l:PL}{q':Int}(h:gT H o q x l)(k: ∀i,i<H.length→o i=q→o' i=q'):gT H o' q' x l:=by
 rcases h with h|h|⟨i,off,c,b,h1,h2,h3,h4,h5⟩
 ·exact .inl h
 ·exact .inr (.inl h)
 ·exact .inr (.inr ⟨i,off,c,b,h1,h2,h3,k i (ar h2) h4,h5⟩)
theorem gT.isSlice {x:Value}{l:PL}(h:gT H o q x l): ∃a c,x= .slice a l.length c:=by
 rcases h with⟨rfl,rfl⟩|⟨i,off,rfl,rfl⟩|⟨i,off,c,b,rfl,_⟩
 ·exact⟨_,_,rfl⟩
 ·exact⟨_,_,rfl⟩
 ·exact⟨_,_,rfl⟩
theorem gT.len {x:Value}{l:PL}(h:gT H o q x l):cE x=some (cv l.length):=by
 obtain⟨a,c,rfl⟩:=h.isSlice;rfl
theorem Jy {cells:List Value}{off j:Nat}{l:PL}(h:(cells.drop off).take (2*l.length)=kJ l){k:Nat}{v:Value}(hk:k<2*l.length)(hv:(kJ l)[k]? =some v):cells[off+k]? =some v:=by
 rw[←h,List.getElem?_take,if_pos hk,List.getElem?_drop] at hv;exact hv
theorem gT.idx {x:Value}{l:PL}(h:gT H o q x l){j:Nat}(hj:j<l.length):
  ∃i off b,(∀H',cK 2 x (cv j) H'=some (.pointer (some ⟨i,off,none⟩),H'))∧H.get i=some b∧o i=q∧∀H':aa,H'.get i=some b→aq (.pointer (some ⟨i,off,none⟩)) H'=some (cv (l.getD j (0,0)).1)∧aq (.pointer (some ⟨i,off+1,none⟩)) H'=some (cv (l.getD j (0,0)).2)∧
   dh 2 (.pointer (some ⟨i,off,none⟩)) H'=some (.agg #[cv (l.getD j (0,0)).1,cv (l.getD j (0,0)).2]):=by
 rcases h with⟨rfl,rfl⟩|⟨i,off,rfl,rfl⟩|⟨i,off,c,b,rfl,h2,h3,h4,h5,h6,h7⟩
 ·simp at hj
 ·simp at hj
 ·have c0:=Jy (j:=j) h7 (k:=2*j) (by omega) (y3 hj)
  have c1:=Jy (j:=j) h7 (k:=2*j+1) (by omega) (y4 hj)
  refine⟨i,off+2*j,b,λH'=>?_,h2,h4,λH' e=>?_⟩
  ·simp only[cK];rw[if_pos (by constructor<;>omega)];simp<;>omega
  ·refine⟨by rw[an i _ H' e];exact c0,by rw[an i _ H' e,Nat.add_assoc];exact c1,?_⟩
   have uW:aR H' i (off+2*j) 2=some [cv (l.getD j (0,0)).1,cv (l.getD j (0,0)).2]:=by
    simp only[aR,e];rw[if_pos (by omega)]
    have hd:b.cells.drop (off+2*j)=cv (l.getD j (0,0)).1::cv (l.getD j (0,0)).2::b.cells.drop (off+2*j+2):=by
     rw[List.drop_eq_getElem_cons (by omega),List.drop_eq_getElem_cons (by omega)]
     rw[List.getElem?_eq_getElem (by omega)] at c0 c1
     simp only[Option.some.injEq] at c0 c1;rw[c0];have:b.cells[off+2*j+1]'(by omega)=cv (l.getD j (0,0)).2:=c1
     rw[this]
    rw[hd];rfl
   simp only[dh,uW]
theorem gT.src {x:Value}{l:PL}(h:gT H o q x l):Src H x l:=by
 rcases h with⟨rfl,rfl⟩|⟨i,off,rfl,rfl⟩|⟨i,off,c,b,rfl,h2,h3,h4,h5,h6,h7⟩
 ·exact⟨_,_,rfl,rfl⟩
 ·exact⟨_,_,rfl,rfl⟩
 ·refine⟨_,_,rfl,?_⟩;by_cases e:l.length=0
  ·have:l=[]:=by simpa using e
   subst this;rfl
  ·simp only[cJ,e,if_false,aR,h2];rw[if_pos (by omega),Nat.mul_comm,h7]
theorem gT.cut {x:Value}{l:PL}(h:gT H o q x l){m n:Nat}(hm:m≤n)(hn:n≤l.length){lo hi:Option Value}(Kk:dj 0 lo=some (m:Int))(Kl:dj l.length hi=some (n:Int)):
  ∃y,pM 2 H x lo hi=some y∧gT H o q y ((l.take n).drop m):=by
 rcases h with⟨rfl,rfl⟩|⟨i,off,rfl,rfl⟩|⟨i,off,c,b,rfl,h2,h3,h4,h5,h6,h7⟩
 ·have e1:n=0:=by simpa using hn
  subst e1;have e2:m=0:=by omega
  subst e2;refine⟨.slice none 0 0,?_,.inl ⟨rfl,rfl⟩⟩;have Ta:dj 0 hi=some 0:=Kl;have Tb:dj 0 lo=some 0:=Kk;simp[pM,Tb,Ta]
 ·have e1:n=0:=by simpa using hn
  subst e1;have e2:m=0:=by omega
  subst e2;refine⟨.slice (some ⟨i,off,none⟩) 0 0,?_,.inr (.inl ⟨i,off,rfl,rfl⟩)⟩;have Ta:dj 0 hi=some 0:=Kl;have Tb:dj 0 lo=some 0:=Kk;cases hb:H.get i with
  |none=>simp[pM,hb,Tb,Ta]
  |some b=>simp[pM,hb,Tb,Ta]
 ·refine⟨.slice (some ⟨i,off+m*2,none⟩) (n-m) (c-m),?_,.inr (.inr ⟨i,off+m*2,c-m,b,?_,h2,h3,h4,?_,?_,?_⟩)⟩
  ·simp only[pM,Kk,Kl];rw[if_pos (by omega)]
   simp only[h2,h3,if_true,Int.toNat_natCast]
  ·simp;omega
  ·simp;omega
  ·simp;omega
  ·have e:((l.take n).drop m).length=n-m:=by simp;omega
   rw[e, ←EZ, ←E5, ←h7,List.take_take,List.drop_take,List.drop_drop]
   congr 1
   ·omega
   ·congr 1;omega
theorem gT.aaP {x:Value}{l:PL}(h:gT H o q x l){n:Nat}(hn:n≤l.length): ∃y,pM 2 H x none (some (cv n))=some y∧Src H y (l.take n):=by
 obtain⟨y,h1,h2⟩:=h.cut (m:=0) (n:=n) (lo:=none) (hi:=some (cv n)) (Nat.zero_le _) hn rfl (by simp[dj,qu])
 exact⟨y,h1,by simpa using h2.src⟩
theorem gT.Tc {x:Value}{l:PL}(h:gT H o q x l){n:Nat}(hn:n≤l.length): ∃y,pM 2 H x (some (cv n)) none=some y∧Src H y (l.drop n):=by
 obtain⟨y,h1,h2⟩:=h.cut (m:=n) (n:=l.length) (lo:=some (cv n)) (hi:=none) hn (Nat.le_refl _) (by simp[dj,qu]) rfl
 exact⟨y,h1,by simpa using h2.src⟩
end Go.Proofs.YtgfgglponbmgmaaGreatA.Am
end
section
namespace Go.Proofs.YtgfgglponbmgmaaGreat.Fun
open Go Go.RowKit Go.Proofs.YtgfgglponbmgmaaGreatA.Am
set_option maxRecDepth 10000
section
variable {G:ae} {H H':aa} {o o':aj} {p m:Nat} {K:aa→aj→Prop}
def bH (ps:List Int)(K:aa→aj→Prop):Prop:=∀H o H' o',K H o→Fr H o H' o' ps→K H' o'
theorem bH.of {ps qs:List Int}(h:bH qs K)(k: ∀i∈ps,i∈qs):bH ps K:=λH o H' o' a f=>h H o H' o' a (f.wk k)
theorem bH.and {ps:List Int}{L:aa→aj→Prop}(h:bH ps K)(k:bH ps L):bH ps λH o=>K H o∧L H o:=λH o H' o' a f=>⟨h H o H' o' a.1 f,k H o H' o' a.2 f⟩
theorem bH.base {ps qs:List Int}{B:aa}{b:aj}(k: ∀i∈ps,i∈qs):bH ps λH o=>Fr B b H o qs:=λH o H' o' a f=>a.trans f (λ_ h=>h) k
theorem bH.kJ {ps:List Int}{q:Int}{x:Value}{l:PL}(h:q ∉ ps):bH ps λH o=>gT H o q x l:=λH o H' o' a f=>a.fr f h
theorem Bj:au (pv p) H=some (pv p,H):=rfl
abbrev nA (k a x y:Int)(w:Value):Value:=.agg #[cv k,cv a,cv x,cv y,w]
theorem C4 (k a x y:Int){b:Option Addr}{n c:Nat}(H:aa):dL 112 (nA k a x y (.slice b n c)) H=some (pv H.length,H.new ⟨[cv k,cv a,cv x,cv y,.slice b n c],112,1,false⟩):=by
 simp[dL,Value.cells,aD,aV]
theorem Pz (a:Int):aE Tryz.prog 112 [(0,cv 1),(1,cv a)]=some (nA 1 a 0 0 (.slice none 0 0)):=by kernel_rfl
theorem Yt (a x:Int):aE Tryz.prog 112 [(0,cv 2),(1,cv a),(2,cv x)]=some (nA 2 a x 0 (.slice none 0 0)):=by kernel_rfl
theorem Yu (a x y:Int):aE Tryz.prog 112 [(0,cv 3),(1,cv a),(2,cv x),(3,cv y)]=some (nA 3 a x y (.slice none 0 0)):=by kernel_rfl
theorem Yv (a x:Int):aE Tryz.prog 112 [(0,cv 4),(1,cv a),(2,cv x)]=some (nA 4 a x 0 (.slice none 0 0)):=by kernel_rfl
theorem Yw (b:Option Addr)(n c:Nat):aE Tryz.prog 112 [(0,cv 5),(4,.slice b n c)]=some (nA 5 0 0 0 (.slice b n c)):=by kernel_rfl
abbrev C5 (H:aa):Value→aa→Prop:=λv H'=>(∃z,v=cv z)∧H'=H
abbrev PA (H:aa):Value→aa→Prop:=λv H'=>(∃z,v= .bool z)∧H'=H
section
variable {α:Type} {k:Nat→Value→aa→Option α} {Q:α→Prop} {t:TypeId} {a b:Int} {P:Program} {c:Nat} {C:Nat→ae} {f:Nat} {args:List Value}
theorem Ev.lss (h1:a<b→Ev (λn=>k n (.bool true) H) Q)(h2: ¬a<b→Ev (λn=>k n (.bool false) H) Q):Ev (λn=>af (pS (ai P .lss t (cv a) (cv b)) H) (k n)) Q:=by
 rw[sv];by_cases h:a<b
 ·simpa[h] using h1 h
 ·simpa[h] using h2 h
theorem Ev.gtr (h1:a>b→Ev (λn=>k n (.bool true) H) Q)(h2: ¬a>b→Ev (λn=>k n (.bool false) H) Q):Ev (λn=>af (pS (ai P .gtr t (cv a) (cv b)) H) (k n)) Q:=by
 rw[Js];by_cases h:a>b
 ·have h':b<a:=h;simpa[h'] using h1 h
 ·have h': ¬b<a:=h;simpa[h'] using h2 h
theorem Ev.leq (h1:a≤b→Ev (λn=>k n (.bool true) H) Q)(h2: ¬a≤b→Ev (λn=>k n (.bool false) H) Q):Ev (λn=>af (pS (ai P .leq t (cv a) (cv b)) H) (k n)) Q:=by
 rw[S0];by_cases h:a≤b
 ·simpa[h] using h1 h
 ·simpa[h] using h2 h
theorem Ev.geq (h1:a≥b→Ev (λn=>k n (.bool true) H) Q)(h2: ¬a≥b→Ev (λn=>k n (.bool false) H) Q):Ev (λn=>af (pS (ai P .geq t (cv a) (cv b)) H) (k n)) Q:=by
 rw[S9];by_cases h:a≥b
 ·have h':b≤a:=h;simpa[h'] using h1 h
 ·have h': ¬b≤a:=h;simpa[h'] using h2 h
theorem Ev.eql (h1:a=b→Ev (λn=>k n (.bool true) H) Q)(h2: ¬a=b→Ev (λn=>k n (.bool false) H) Q):Ev (λn=>af (pS (ai P .eql t (cv a) (cv b)) H) (k n)) Q:=by
 rw[C0];by_cases h:a=b
 ·have e:decide (a=b)=true:=by simpa using h
  rw[e];exact h1 h
 ·have e:decide (a=b)=false:=by simpa using h
  rw[e];exact h2 h
theorem Ev.neq (h1: ¬a=b→Ev (λn=>k n (.bool true) H) Q)(h2:a=b→Ev (λn=>k n (.bool false) H) Q):Ev (λn=>af (pS (ai P .neq t (cv a) (cv b)) H) (k n)) Q:=by
 rw[Jt];by_cases h:a=b
 ·have e:decide (a=b)=true:=by simpa using h
  rw[e];exact h2 h
 ·have e:decide (a=b)=false:=by simpa using h
  rw[e];exact h1 h
theorem Ev.boo {x:Option Value}{d:Bool}(hx:x=some (.bool d))(h1:d=true→Ev (λn=>k n (.bool true) H) Q)(h2:d=false→Ev (λn=>k n (.bool false) H) Q):Ev (λn=>af (pS x H) (k n)) Q:=by
 subst hx;cases d with
 |true=>exact h1 rfl
 |false=>exact h2 rfl
theorem Ev.kB (h:aF C f args H (C5 H))(hk: ∀z,Ev (λn=>k n (cv z) H) Q):Ev (λn=>af (C n f args H) (k n)) Q:=
 Ev.call h λv H' hq=>by obtain⟨⟨z,rfl⟩,rfl⟩:=hq;exact hk z
theorem Ev.Yx (h:aF C f args H (PA H))(hk: ∀z,Ev (λn=>k n (.bool z) H) Q):Ev (λn=>af (C n f args H) (k n)) Q:=
 Ev.call h λv H' hq=>by obtain⟨⟨z,rfl⟩,rfl⟩:=hq;exact hk z
end
theorem ac5 (t:TypeId)(a:Int):ai Tryz.prog .rem t (cv a) (cv 8)=some (cv (a.tmod 8)):=C1 _ a 8 (by decide)
theorem ac6 (t:TypeId)(a:Int):ai Tryz.prog .quo t (cv a) (cv 8)=some (cv (IntKind.i64.wrap (a.tdiv 8))):=mi _ a 8 (by decide)
theorem ac7 (t:TypeId)(a:Int):ai Tryz.prog .quo t (cv a) (cv 4)=some (cv (IntKind.i64.wrap (a.tdiv 4))):=mi _ a 4 (by decide)
end
theorem sS:(∀(α:Type) (v:Value) (H:aa) (k:Value→aa→Option α),af (some (v,H)) k=k v H)∧(∀(v:Value) (H:aa),pS (some v) H=some (v,H))∧
  (∀(x:Option (Value×aa)) (H:aa),gd (some true) x H=x)∧(∀(x:Option (Value×aa)) (H:aa),gd (some false) x H=some (undef,H))∧
  (∀b w:Bool,ag (.bool b) w=some (b==w))∧(∀w:Bool,ag undef w=some false)∧
  (∀(α:Type) (x y:Option α),aU (.bool true) x y=x)∧(∀(α:Type) (x y:Option α),aU (.bool false) x y=y)∧
  (∀(b:Bool) (x y:Value) (H:aa),aK (.bool b) x y H=some (if b then x else y,H))∧(∀b:Bool,iG .not (.bool b)=some (.bool !b))∧
  (∀(u u1 u2:Value) (H H1 H2:aa),kS (some true) (some true) (some (u,H)) (some (u1,H1)) (some (u2,H2))=(ot u u1&&ot u u2))∧
  (∀(w:Bool) (u u1 u2:Option (Value×aa)),kS (some false) (some w) u u1 u2=true)∧(∀(w:Bool) (u u1 u2:Option (Value×aa)),kS (some w) (some false) u u1 u2=true)∧(∀(k:IntKind) (a:Int),ot (.int k a) (.int k a)=true)∧
  (∀(t:TypeId) (a b:Int),ai Tryz.prog .add t (cv a) (cv b)=some (cv (IntKind.i64.wrap (a+b))))∧(∀(t:TypeId) (a b:Int),ai Tryz.prog .sub t (cv a) (cv b)=some (cv (IntKind.i64.wrap (a-b))))∧(∀(t:TypeId) (a b:Int),ai Tryz.prog .mul t (cv a) (cv b)=some (cv (IntKind.i64.wrap (a*b))))∧
  (∀(t:TypeId) (a:Int),ai Tryz.prog .rem t (cv a) (cv 8)=some (cv (a.tmod 8)))∧(∀(t:TypeId) (a:Int),ai Tryz.prog .quo t (cv a) (cv 8)=some (cv (IntKind.i64.wrap (a.tdiv 8))))∧(∀(t:TypeId) (a:Int),ai Tryz.prog .quo t (cv a) (cv 4)=some (cv (IntKind.i64.wrap (a.tdiv 4))))∧
  (∀(off p o:Nat) (H:aa),ak off (.pointer (some ⟨p,o,none⟩)) H=some (.pointer (some ⟨p,o+off,none⟩),H))∧(∀(p:Nat) (H:aa),au (pv p) H=some (pv p,H))∧
  (∀(vs:Array Value) (i:Nat) (H:aa),cx i (.tuple vs) H=(vs[i]?).map (·,H))∧(∀(α:Type) (n:Nat) (H:aa) (k:Nat→aa→Option α),tD n H k=k H.length (H.cF n))∧
  (∀(α:Type) (kb:List Value→aa→Option α) (k:bA→List Value→aa→Option α) (vs:List Value) (H:aa),dS kb k .normal vs H=kb vs H)∧
  (∀(α:Type) (kb:List Value→aa→Option α) (k:bA→List Value→aa→Option α) (i:Nat) (vs:List Value) (H:aa),dS kb k (.exit i) vs H=k (.exit i) vs H)∧
  (∀(α:Type) (kb:List Value→aa→Option α) (k:bA→List Value→aa→Option α) (vs:List Value) (H:aa),dS kb k .ret vs H=k .ret vs H)∧
  (∀(α:Type) (id:Nat) (k:bA→List Value→aa→Option α) (vs:List Value) (H:aa),dK id k .normal vs H=k .normal vs H)∧(∀(α:Type) (id:Nat) (k:bA→List Value→aa→Option α) (vs:List Value) (H:aa),dK id k .ret vs H=k .ret vs H)∧
  (∀(α:Type) (id i:Nat) (k:bA→List Value→aa→Option α) (vs:List Value) (H:aa),dK id k (.exit i) vs H=if i=id then k .normal vs H else k (.exit i) vs H)∧
  (∀(e:bA) (vs:List Value) (H:aa),fin e vs H=some (e,vs,H))∧(∀(α:Type) (e:bA) (vs:List Value) (H:aa) (k:bA→List Value→aa→Option α),cl (some (e,vs,H)) k=k e vs H)∧
  (∀(P:Program) (rs:List ResultVar) (keep:List Nat) (e:bA) (vs:List Value) (H:aa),eh P rs keep e vs H=match e with| .normal| .ret=>KF P rs (keep.zip vs) H| .exit _=>none)∧
  (∀(α:Type) [BEq α] [ReflBEq α] (a:α),(a==a)=true)∧(∀(α:Type) (i:Decidable True) (t e:α),@ite α True i t e=t)∧(∀(α:Type) (i:Decidable False) (t e:α),@ite α False i t e=e)∧
  ((!true)=false)∧((!false)=true)∧(∀b:Bool,(b&&b)=b)∧(∀b:Bool,(true&&b)=b)∧(∀b:Bool,(b&&true)=b)∧((false=true)=False)∧((true=false)=False)∧((true==false)=false)∧((false==true)=false)∧
  (∀(α β:Type) (a:α) (f:α→β),Option.map f (some a)=some (f a))∧(∀(α:Type) (xs:List α) (i:Nat),xs.toArray[i]? =xs[i]?)∧(∀(α:Type) (a:α) (l:List α),(a::l)[0]? =some a)∧(∀(α:Type) (a:α) (i:Nat) (l:List α),(a::l)[i+1]? =l[i]?)∧(∀n:Nat,0+n=n):=by
 refine⟨λ_ _ _ _=>rfl,λ_ _=>rfl,λ_ _=>rfl,λ_ _=>rfl,λ_ _=>rfl,λ_=>rfl,λ_ _ _=>rfl,λ_ _ _=>rfl,λ_ _ _ _=>rfl,λ_=>rfl,λ_ _ _ _ _ _=>rfl,λw _ _ _=>by cases w<;>rfl,λw _ _ _=>by cases w<;>rfl,lW,λ_ _ _=>rfl,λ_ _ _=>rfl,λ_ _ _=>rfl,ac5,ac6,ac7,λ_ _ _ _=>rfl,λ_ _=>rfl,λ_ _ _=>rfl,λ_ _ _ _=>rfl,λ_ _ _ _ _=>rfl,λ_ _ _ _ _ _=>rfl,λ_ _ _ _ _=>rfl,λ_ _ _ _ _=>rfl,λ_ _ _ _ _=>rfl,λ_ _ _ _ _ _=>rfl,λ_ _ _=>rfl,λ_ _ _ _ _=>rfl,λ_ _ _ e _ _=>by cases e<;>rfl,λ_ _ _ a=>beq_self_eq_true a,λ_ i _ _=>@if_true _ i _ _,λ_ i _ _=>@if_false _ i _ _,rfl,rfl,λb=>by cases b<;>rfl,λb=>by cases b<;>rfl,λb=>by cases b<;>rfl,by simp,by simp,rfl,rfl,λ_ _ _ _=>rfl,λ_ _ _=>by simp,λ_ _ _=>rfl,λ_ _ _ _=>by simp,λn=>Nat.zero_add n⟩
section
variable {G:ae} {H H':aa} {o o':aj} {p m:Nat} {K:aa→aj→Prop}
theorem Jz (a:Int):aF (run G) 89 [cv a] H (PA H):=by
 refine Ev.up (t:=λn=>ZR (run G n) n (cv a) H) ?_ λn=>Pa ..
 simp -implicitDefEqProofs only[ZR,sS,Nat.reduceAdd];repeat' (first| (refine Ev.ret ?_;exact⟨⟨_,rfl⟩,rfl⟩)| ((with_reducible first|refine Ev.gtr (λhq=>?_) (λhq=>?_)|refine Ev.leq (λhq=>?_) (λhq=>?_)|refine Ev.geq (λhq=>?_) (λhq=>?_))<;>try simp -implicitDefEqProofs only[sS,Nat.reduceAdd]))
theorem Ha (a:Int):aF (run G) 57 [cv a] H (C5 H):=by
 refine Ev.up (t:=λn=>F57 (run G n) n (cv a) H) ?_ λn=>O5 ..
 simp -implicitDefEqProofs only[F57,sS,Nat.reduceAdd];refine Ev.call (Jz a) ?_;rintro v H' ⟨⟨b,rfl⟩,rfl⟩;cases b<;>simp -implicitDefEqProofs only[sS,Nat.reduceAdd]<;>exact Ev.ret ⟨⟨_,rfl⟩,rfl⟩
theorem Td (a:Int):aF (run G) 83 [cv a] H (C5 H):=by
 refine Ev.up (t:=λn=>F83 (run G n) n (cv a) H) ?_ λn=>OQ ..
 simp -implicitDefEqProofs only[F83,sS,Nat.reduceAdd];refine Ev.call (Jz a) ?_;rintro v H' ⟨⟨b,rfl⟩,rfl⟩;cases b<;>simp -implicitDefEqProofs only[sS,Nat.reduceAdd]<;>exact Ev.ret ⟨⟨_,rfl⟩,rfl⟩
theorem oR (a:Int):aF (run G) 130 [cv a] H (PA H):=by
 refine Ev.up (t:=λn=>Pn (run G n) n (cv a) H) ?_ λn=>Jd ..
 simp -implicitDefEqProofs only[Pn,sS,Nat.reduceAdd];repeat' (first| (refine Ev.ret ?_;exact⟨⟨_,rfl⟩,rfl⟩)| ((with_reducible first|refine Ev.geq (λhq=>?_) (λhq=>?_))<;>try simp -implicitDefEqProofs only[sS,Nat.reduceAdd]))
theorem nB (a i:Int):aF (run G) 142 [cv a,cv i] H (C5 H):=by
 refine Ev.up (t:=λn=>Ps (run G n) n (cv a) (cv i) H) ?_ λn=>Jj ..
 simp -implicitDefEqProofs only[Ps,sS,Nat.reduceAdd];refine Ev.call (oR a) ?_;rintro v H' ⟨⟨b,rfl⟩,rfl⟩;cases b<;>simp -implicitDefEqProofs only[sS,Nat.reduceAdd]
 ·(refine Ev.ret ?_;exact⟨⟨_,rfl⟩,rfl⟩)
 refine Ev.call (oR i) ?_;rintro v H' ⟨⟨b,rfl⟩,rfl⟩;cases b<;>simp -implicitDefEqProofs only[sS,Nat.reduceAdd]<;>exact Ev.ret ⟨⟨_,rfl⟩,rfl⟩
theorem Bk (a d i:Int):aF (run G) 103 [cv a,cv d,cv i] H (C5 H):=by
 refine Ev.up (t:=λn=>Pm (run G n) n (cv a) (cv d) (cv i) H) ?_ λn=>I6 ..
 simp -implicitDefEqProofs only[Pm,sS,Nat.reduceAdd];refine Ev.call (oR a) ?_;rintro v H' ⟨⟨b,rfl⟩,rfl⟩;cases b<;>simp -implicitDefEqProofs only[sS,Nat.reduceAdd]
 ·(refine Ev.ret ?_;exact⟨⟨_,rfl⟩,rfl⟩)
 refine Ev.call (oR d) ?_;rintro v H' ⟨⟨b,rfl⟩,rfl⟩;cases b<;>simp -implicitDefEqProofs only[sS,Nat.reduceAdd]
 ·(refine Ev.ret ?_;exact⟨⟨_,rfl⟩,rfl⟩)
 refine Ev.call (oR i) ?_;rintro v H' ⟨⟨b,rfl⟩,rfl⟩;cases b<;>simp -implicitDefEqProofs only[sS,Nat.reduceAdd]<;>exact Ev.ret ⟨⟨_,rfl⟩,rfl⟩
end
end Go.Proofs.YtgfgglponbmgmaaGreat.Fun
end
