/- Texts of the proof of linearCut_holds, put together by a small program of ours (names shortened, spaces taken out). No condition beyond the given statement. -/
import Derived.Test.YtjgmnoaalbbonaaGreatLCT13
import Derived.Test.YtjgmnoaalbbonaaGreatProg
import Derived.Test.YtjgmnoaalbbonaaGreatLCT9
import Derived.KernelRfl
set_option linter.unusedVariables false
set_option linter.unusedSimpArgs false
set_option linter.unnecessarySimpa false
noncomputable section
section
namespace Go.Proofs.YtjgmnoaalbbonaaGreatA.Am
variable {H H':aa} {o o':aj} {q:Int}
abbrev PL:=List (Int×Int)
def kJ:PL→List Value
 | []=>[]
 |x::l=>cv x.1::cv x.2::kJ l
theorem nM: ∀l:PL,(kJ l).length=2*l.length
 | []=>rfl
 |x::l=>by simp only[kJ,List.length_cons,nM l];omega
theorem Cr: ∀a b:PL,kJ (a++b)=kJ a++kJ b
 | [],b=>rfl
 |x::a,b=>by simp only[List.cons_append,kJ,Cr a b]
theorem HT: ∀l:PL,(kJ l).all av=true
 | []=>rfl
 |x::l=>by simp only[kJ,List.all_cons,HT l,Bool.and_true];rfl
theorem EF: ∀(l:PL) (n:Nat),(kJ l).drop (2*n)=kJ (l.drop n)
 |l,0=>rfl
 | [],n+1=>by simp[kJ]
 |x::l,n+1=>by
  rw[show 2*(n+1)=2*n+1+1 by omega]
  simp only[kJ,List.drop_succ_cons];exact EF l n
theorem EG: ∀(l:PL) (n:Nat),(kJ l).take (2*n)=kJ (l.take n)
 |l,0=>rfl
 | [],n+1=>by simp[kJ]
 |x::l,n+1=>by
  rw[show 2*(n+1)=2*n+1+1 by omega]
  simp only[kJ,List.take_succ_cons,EG l n]
theorem xy: ∀{l:PL} {j:Nat},j<l.length→(kJ l)[2*j]? =some (cv (l.getD j (0,0)).1)
 | [],j,h=>by simp at h
 |x::l,0,h=>rfl
 |x::l,j+1,h=>by
  rw[show 2*(j+1)=2*j+1+1 by omega]
  simp only[kJ,List.getElem?_cons_succ,List.getD_cons_succ];exact xy (by simpa using h)
theorem xz: ∀{l:PL} {j:Nat},j<l.length→(kJ l)[2*j+1]? =some (cv (l.getD j (0,0)).2)
 | [],j,h=>by simp at h
 |x::l,0,h=>rfl
 |x::l,j+1,h=>by
  rw[show 2*(j+1)+1=2*j+1+1+1 by omega]
  simp only[kJ,List.getElem?_cons_succ,List.getD_cons_succ];exact xz (by simpa using h)
def gu (H:aa)(o:aj)(q:Int)(x:Value)(l:PL):Prop:=
 (x= .slice none 0 0∧l=[])∨∃i cap rest ty,x= .slice (some ⟨i,0,none⟩) l.length cap∧H.get i=some ⟨kJ l++rest,ty,2,false⟩∧2*l.length+rest.length=2*cap∧o i=q
theorem gu.nil:gu H o q (.slice none 0 0) []:=.inl ⟨rfl,rfl⟩
theorem gu.fr {x:Value}{l:PL}{ps:List Int}(h:gu H o q x l)(f:Fr H o H' o' ps)(hp:q ∉ ps):gu H' o' q x l:=by
 rcases h with h|⟨i,cap,rest,ty,h1,h2,h3,h4⟩
 ·exact .inl h
 ·exact .inr ⟨i,cap,rest,ty,h1,by rw[f.same i (an h2) (by rw[h4];exact hp)];exact h2,h3,by rw[f.own i (an h2)];exact h4⟩
theorem gu.isSlice {x:Value}{l:PL}(h:gu H o q x l): ∃a c,x= .slice a l.length c:=by
 rcases h with⟨rfl,rfl⟩|⟨i,cap,rest,ty,rfl,_⟩
 ·exact⟨_,_,rfl⟩
 ·exact⟨_,_,rfl⟩
theorem gu.len {x:Value}{l:PL}(h:gu H o q x l):cw x=some (cv l.length):=by
 obtain⟨a,c,rfl⟩:=h.isSlice;rfl
theorem gu.jE {x:Value}{l:PL}(h:gu H o q x l):jE x x=true:=by
 rcases h with⟨rfl,rfl⟩|⟨i,cap,rest,ty,rfl,_⟩
 ·rfl
 ·simp[Am.jE,pa]
theorem gu.idx {x:Value}{l:PL}(h:gu H o q x l){j:Nat}(hj:j<l.length):
  ∃i b,(∀H',cq 2 x (cv j) H'=some (.pointer (some ⟨i,2*j,none⟩),H'))∧H.get i=some b∧o i=q∧∀H':aa,H'.get i=some b→aq (.pointer (some ⟨i,2*j,none⟩)) H'=some (cv (l.getD j (0,0)).1)∧aq (.pointer (some ⟨i,2*j+1,none⟩)) H'=some (cv (l.getD j (0,0)).2)∧
   cK 2 (.pointer (some ⟨i,2*j,none⟩)) H'=some (.agg #[cv (l.getD j (0,0)).1,cv (l.getD j (0,0)).2]):=by
 rcases h with⟨rfl,rfl⟩|⟨i,cap,rest,ty,rfl,h2,h3,h4⟩
 ·simp at hj
 ·have g0:=xy hj;have g1:=xz hj;have l0:=nM l;refine⟨i,_,λH'=>?_,h2,h4,λH' e=>?_⟩
  ·simp only[cq];rw[if_pos (by constructor<;>omega)];simp<;>omega
  ·have c0:(kJ l++rest)[2*j]? =some (cv (l.getD j (0,0)).1):=by rw[List.getElem?_append_left (by omega)];exact g0
   have c1:(kJ l++rest)[2*j+1]? =some (cv (l.getD j (0,0)).2):=by rw[List.getElem?_append_left (by omega)];exact g1
   refine⟨by rw[ak i _ H' e];exact c0,by rw[ak i _ H' e];exact c1,?_⟩
   have iX:aw H' i (2*j) 2=some [cv (l.getD j (0,0)).1,cv (l.getD j (0,0)).2]:=by
    simp only[aw,e];rw[if_pos (by rw[List.length_append];omega)]
    have hd:(kJ l++rest).drop (2*j)=cv (l.getD j (0,0)).1::cv (l.getD j (0,0)).2::(kJ l++rest).drop (2*j+2):=by
     rw[List.drop_eq_getElem_cons (by rw[List.length_append];omega),List.drop_eq_getElem_cons (by rw[List.length_append];omega)]
     rw[List.getElem?_eq_getElem (by rw[List.length_append];omega)] at c0 c1
     simp only[Option.some.injEq] at c0 c1;rw[c0,c1]
    rw[hd];rfl
   simp only[cK,iX]
def Src (H:aa)(x:Value)(l:PL):Prop:=∃a c,x= .slice a l.length c∧bq H 2 l.length x=some (kJ l)
theorem gu.src {x:Value}{l:PL}(h:gu H o q x l):Src H x l:=by
 rcases h with⟨rfl,rfl⟩|⟨i,cap,rest,ty,rfl,h2,h3,h4⟩
 ·exact⟨_,_,rfl,rfl⟩
 ·refine⟨_,_,rfl,?_⟩;by_cases e:l.length=0
  ·have:l=[]:=by simpa using e
   subst this;rfl
  ·have l0:=nM l;simp only[bq,e,if_false,aw,h2];rw[if_pos (by rw[List.length_append];omega),List.drop_zero,List.take_left' (by omega)]
theorem Src.one {i:Nat}{k v:Int}{t:TypeId}(h:H.get i=some ⟨[cv k,cv v],t,2,false⟩):Src H (.slice (some ⟨i,0,none⟩) 1 1) [(k,v)]:=
 ⟨_,_,rfl,by simp[bq,aw,h,kJ]⟩
theorem gu.app {x y:Value}{l m:PL}(t:TypeId)(h:gu H o q x l)(hy:Src H y m)(hb:l.length+m.length≤4294967296):
  ∃x' H' o',cg t 2 16 x y H=some (x',H')∧gu H' o' q x' (l++m)∧Fr H o H' o' [q]∧(∀i,(∀n k,x≠ .slice (some ⟨i,0,none⟩) n k)→i<H.length→H'[i]? =H[i]? ∧∀n k,x'≠ .slice (some ⟨i,0,none⟩) n k):=by
 obtain⟨b,c,rfl,hc⟩:=hy;by_cases hm:m=[]
 ·subst hm;refine⟨x,H,o,?_,by simpa using h,.refl _ _ _,λi hi _=>⟨rfl,hi⟩⟩
  rcases h with⟨rfl,rfl⟩|⟨i,cap,rest,ty,rfl,h2,h3,h4⟩
  ·simp only[cg,hc,Option.map_some];simp
  ·simp only[cg,hc,Option.map_some];rw[if_pos (by simp;omega)];simp
 have D6:m.length≠0:=by simpa using hm
 have lm:=nM m;rcases h with⟨rfl,rfl⟩|⟨i,cap,rest,ty,rfl,h2,h3,h4⟩
 ·refine⟨.slice (some ⟨H.length,0,none⟩) m.length m.length,H.new ⟨kJ m,t,2,false⟩,o.up H.length q,?_,?_,(Fr.refl _ _ _).new _ _,λi _ hi=>⟨dC hi,λn k e=>by cases e;omega⟩⟩
  ·simp only[cg,hc,Option.map_some];rw[if_neg (by omega),if_pos (by simp;simp at hb;omega)]
   simp
  ·exact .inr ⟨H.length,m.length,[],t,by simp,by simpa using ay,by simp,aH⟩
 ·have hql:=an h2;have ll:=nM l;by_cases ig:l.length+m.length≤cap
  ·refine⟨.slice (some ⟨i,0,none⟩) (l++m).length cap,H.put i ⟨kJ (l++m)++rest.drop (2*m.length),ty,2,false⟩,o,?_,?_,(Fr.refl _ _ _).put (λ_=>by simp[h4]),λj hj _=>⟨db (by rintro rfl;exact hj _ _ rfl),λn k e=>by cases e;exact hj _ _ rfl⟩⟩
   ·simp only[cg,hc,Option.map_some];rw[if_pos ig,if_neg D6];simp only[h2,if_true,bl];rw[if_pos (by simp only[HT,List.length_append,lm,ll,Bool.not_false,Bool.true_and,Bool.and_true,decide_eq_true_eq];omega)]
    have e:=jf (kJ m) (kJ l) rest (by rw[lm];omega)
    rw[ll,lm] at e;simp only[Nat.zero_add,show l.length*2=2*l.length by omega,e,Option.map_some,Cr,List.length_append]
   ·exact .inr ⟨i,cap,rest.drop (2*m.length),ty,rfl,aD h2,by simp;omega,h4⟩
  ·refine⟨.slice (some ⟨H.length,0,none⟩) (l++m).length (l++m).length,(H.kill i).new ⟨kJ (l++m),t,2,false⟩,o.up H.length q,?_,?_,?_,?_⟩
   ·simp only[cg,hc,Option.map_some];rw[if_neg ig,if_pos (by simp;omega)]
    simp only[h2];rw[if_pos (by simp[ll];omega)]
    have e:aw H i 0 (l.length*2)=some (kJ l):=by
     simp only[aw,h2];rw[if_pos (by rw[List.length_append];omega),List.drop_zero,List.take_left' (by omega)]
    simp only[e,Cr,List.length_append]
   ·have:=ay (H:=H.kill i) (c:=⟨kJ (l++m),t,2,false⟩)
    rw[dh] at this;exact .inr ⟨H.length,(l++m).length,[],t,rfl,by simpa using this,by simp,aH⟩
   ·have:=((Fr.refl H o [q]).kill (i:=i) (λ_=>by simp[h4])).new ⟨kJ (l++m),t,2,false⟩ q
    rw[dh] at this;exact this
   ·intro j hj z9;exact⟨by rw[dC (by rw[dh];exact z9),mS (by rintro rfl;exact hj _ _ rfl)],λn k e=>by cases e;omega⟩
theorem gu.Cs {x:Value}{l:PL}{b:Nat}{cs:List Value}{t:TypeId}{r:Bool}(h:gu H o q x l)(hb:H.get b=some ⟨cs,t,1,r⟩): ∀n k,x≠ .slice (some ⟨b,0,none⟩) n k:=by
 rcases h with⟨rfl,_⟩|⟨i,cap,rest,ty,rfl,h2,h3,h4⟩
 ·intro n k e;cases e
 ·intro n k e;cases e;rw[h2] at hb;cases hb
theorem gu.xC {x:Value}{l:PL}{y:Nat}{c:dg}(h:gu H o q x l)(hy:H.cT y=some c): ∀n k,x≠ .slice (some ⟨y,0,none⟩) n k:=by
 rcases h with⟨rfl,_⟩|⟨i,cap,rest,ty,rfl,h2,h3,h4⟩
 ·intro n k e;cases e
 ·intro n k e;cases e;exact Ny hy h2 rfl
theorem gu.mv {x:Value}{l:PL}(h:gu H o q x l)(k: ∀i n c,x= .slice (some ⟨i,0,none⟩) n c→H'[i]? =H[i]? ∧o' i=o i):gu H' o' q x l:=by
 rcases h with h|⟨i,cap,rest,ty,h1,h2,h3,h4⟩
 ·exact .inl h
 ·obtain⟨k1,k2⟩:=k i _ _ h1;exact .inr ⟨i,cap,rest,ty,h1,by rw[cP k1];exact h2,h3,by rw[k2];exact h4⟩
theorem gu.GB {x:Value}{l:PL}{b:Nat}{cs:List Value}{t:TypeId}{r:Bool}{c:eu}(h:gu H o q x l)(hb:H.get b=some ⟨cs,t,1,r⟩):gu (H.put b c) o q x l:=
 h.mv λi n k e=>⟨db (by rintro rfl;exact h.Cs hb _ _ e),rfl⟩
theorem gu.eQ {x:Value}{l:PL}{y:Nat}{c d:dg}(h:gu H o q x l)(hy:H.cT y=some c):gu (H.eQ y d) o q x l:=
 h.mv λi n k e=>⟨Bp (by rintro rfl;exact h.xC hy _ _ e),rfl⟩
theorem gu.relabel {x:Value}{l:PL}{q':Int}(h:gu H o q x l)(k: ∀i,i<H.length→o i=q→o' i=q'):gu H o' q' x l:=by
 rcases h with h|⟨i,cap,rest,ty,h1,h2,h3,h4⟩
 ·exact .inl h
 ·exact .inr ⟨i,cap,rest,ty,h1,h2,h3,k i (an h2) h4⟩
variable {H H':aa} {o o':aj} {q:Int}
def gE (H:aa)(o:aj)(q:Int)(x:Value)(l:PL):Prop:=
 (x= .slice none 0 0∧l=[])∨(∃i off,x= .slice (some ⟨i,off,none⟩) 0 0∧l=[])∨
 ∃i off c b,x= .slice (some ⟨i,off,none⟩) l.length c∧H.get i=some b∧b.es=2∧o i=q∧l.length≤c∧off+2*l.length≤b.cells.length∧(b.cells.drop off).take (2*l.length)=kJ l
theorem gu.r {x:Value}{l:PL}(h:gu H o q x l):gE H o q x l:=by
 rcases h with h|⟨i,cap,rest,ty,h1,h2,h3,h4⟩
 ·exact .inl h
 ·have:=nM l
  exact .inr (.inr ⟨i,0,cap,_,h1,h2,rfl,h4,by omega,by simp;omega,by simp only[List.drop_zero];exact List.take_left' (by omega)⟩)
theorem gE.nil:gE H o q (.slice none 0 0) []:=.inl ⟨rfl,rfl⟩
theorem gE.mv {x:Value}{l:PL}(h:gE H o q x l)(k: ∀i,i<H.length→o i=q→H'.get i=H.get i∧o' i=q):gE H' o' q x l:=by
 rcases h with h|h|⟨i,off,c,b,h1,h2,h3,h4,h5⟩
 ·exact .inl h
 ·exact .inr (.inl h)
 ·obtain⟨k1,k2⟩:=k i (an h2) h4;exact .inr (.inr ⟨i,off,c,b,h1,by rw[k1];exact h2,h3,k2,h5⟩)
theorem gE.fr {x:Value}{l:PL}{ps:List Int}(h:gE H o q x l)(f:Fr H o H' o' ps)(hp:q ∉ ps):gE H' o' q x l:=
 h.mv λi hi ho=>⟨f.same i hi (by rw[ho];exact hp),by rw[f.own i hi];exact ho⟩
theorem gE.relabel {x:Value}{l:PL}{q':Int}(h:gE H o q x l)(k: ∀i,i<H.length→o i=q→o' i=q'):gE H o' q' x l:=by
 rcases h with h|h|⟨i,off,c,b,h1,h2,h3,h4,h5⟩
 ·exact .inl h
 ·exact .inr (.inl h)
 ·exact .inr (.inr ⟨i,off,c,b,h1,h2,h3,k i (an h2) h4,h5⟩)
theorem gE.isSlice {x:Value}{l:PL}(h:gE H o q x l): ∃a c,x= .slice a l.length c:=by
 rcases h with⟨rfl,rfl⟩|⟨i,off,rfl,rfl⟩|⟨i,off,c,b,rfl,_⟩
 ·exact⟨_,_,rfl⟩
 ·exact⟨_,_,rfl⟩
 ·exact⟨_,_,rfl⟩
theorem gE.len {x:Value}{l:PL}(h:gE H o q x l):cw x=some (cv l.length):=by
 obtain⟨a,c,rfl⟩:=h.isSlice;rfl
theorem gE.jE {x:Value}{l:PL}(h:gE H o q x l):jE x x=true:=by
 obtain⟨a,c,rfl⟩:=h.isSlice;simp[Am.jE,pa]
theorem HU {cells:List Value}{off j:Nat}{l:PL}(h:(cells.drop off).take (2*l.length)=kJ l){k:Nat}{v:Value}(hk:k<2*l.length)(hv:(kJ l)[k]? =some v):cells[off+k]? =some v:=by
 rw[←h,List.getElem?_take,if_pos hk,List.getElem?_drop] at hv;exact hv
theorem gE.idx {x:Value}{l:PL}(h:gE H o q x l){j:Nat}(hj:j<l.length):
  ∃i off b,(∀H',cq 2 x (cv j) H'=some (.pointer (some ⟨i,off,none⟩),H'))∧H.get i=some b∧o i=q∧∀H':aa,H'.get i=some b→aq (.pointer (some ⟨i,off,none⟩)) H'=some (cv (l.getD j (0,0)).1)∧aq (.pointer (some ⟨i,off+1,none⟩)) H'=some (cv (l.getD j (0,0)).2)∧
   cK 2 (.pointer (some ⟨i,off,none⟩)) H'=some (.agg #[cv (l.getD j (0,0)).1,cv (l.getD j (0,0)).2]):=by
 rcases h with⟨rfl,rfl⟩|⟨i,off,rfl,rfl⟩|⟨i,off,c,b,rfl,h2,h3,h4,h5,h6,h7⟩
 ·simp at hj
 ·simp at hj
 ·have c0:=HU (j:=j) h7 (k:=2*j) (by omega) (xy hj)
  have c1:=HU (j:=j) h7 (k:=2*j+1) (by omega) (xz hj)
  refine⟨i,off+2*j,b,λH'=>?_,h2,h4,λH' e=>?_⟩
  ·simp only[cq];rw[if_pos (by constructor<;>omega)];simp<;>omega
  ·refine⟨by rw[ak i _ H' e];exact c0,by rw[ak i _ H' e,Nat.add_assoc];exact c1,?_⟩
   have iX:aw H' i (off+2*j) 2=some [cv (l.getD j (0,0)).1,cv (l.getD j (0,0)).2]:=by
    simp only[aw,e];rw[if_pos (by omega)]
    have hd:b.cells.drop (off+2*j)=cv (l.getD j (0,0)).1::cv (l.getD j (0,0)).2::b.cells.drop (off+2*j+2):=by
     rw[List.drop_eq_getElem_cons (by omega),List.drop_eq_getElem_cons (by omega)]
     rw[List.getElem?_eq_getElem (by omega)] at c0 c1
     simp only[Option.some.injEq] at c0 c1;rw[c0];have:b.cells[off+2*j+1]'(by omega)=cv (l.getD j (0,0)).2:=c1
     rw[this]
    rw[hd];rfl
   simp only[cK,iX]
theorem gE.src {x:Value}{l:PL}(h:gE H o q x l):Src H x l:=by
 rcases h with⟨rfl,rfl⟩|⟨i,off,rfl,rfl⟩|⟨i,off,c,b,rfl,h2,h3,h4,h5,h6,h7⟩
 ·exact⟨_,_,rfl,rfl⟩
 ·exact⟨_,_,rfl,rfl⟩
 ·refine⟨_,_,rfl,?_⟩;by_cases e:l.length=0
  ·have:l=[]:=by simpa using e
   subst this;rfl
  ·simp only[bq,e,if_false,aw,h2];rw[if_pos (by omega),Nat.mul_comm,h7]
theorem gE.cut {x:Value}{l:PL}(h:gE H o q x l){m n:Nat}(hm:m≤n)(hn:n≤l.length){lo hi:Option Value}(z4:cV 0 lo=some (m:Int))(z5:cV l.length hi=some (n:Int)):
  ∃y,eo 2 H x lo hi=some y∧gE H o q y ((l.take n).drop m):=by
 rcases h with⟨rfl,rfl⟩|⟨i,off,rfl,rfl⟩|⟨i,off,c,b,rfl,h2,h3,h4,h5,h6,h7⟩
 ·have e1:n=0:=by simpa using hn
  subst e1;have e2:m=0:=by omega
  subst e2;refine⟨.slice none 0 0,?_,.inl ⟨rfl,rfl⟩⟩;have Ct:cV 0 hi=some 0:=z5;have Cu:cV 0 lo=some 0:=z4;simp[eo,Cu,Ct]
 ·have e1:n=0:=by simpa using hn
  subst e1;have e2:m=0:=by omega
  subst e2;refine⟨.slice (some ⟨i,off,none⟩) 0 0,?_,.inr (.inl ⟨i,off,rfl,rfl⟩)⟩;have Ct:cV 0 hi=some 0:=z5;have Cu:cV 0 lo=some 0:=z4;cases hb:H.get i with
  |none=>simp[eo,hb,Cu,Ct]
  |some b=>simp[eo,hb,Cu,Ct]
 ·refine⟨.slice (some ⟨i,off+m*2,none⟩) (n-m) (c-m),?_,.inr (.inr ⟨i,off+m*2,c-m,b,?_,h2,h3,h4,?_,?_,?_⟩)⟩
  ·simp only[eo,z4,z5];rw[if_pos (by omega)]
   simp only[h2,h3,if_true,Int.toNat_natCast]
  ·simp;omega
  ·simp;omega
  ·simp;omega
  ·have e:((l.take n).drop m).length=n-m:=by simp;omega
   rw[e, ←EF, ←EG, ←h7,List.take_take,List.drop_take,List.drop_drop]
   congr 1
   ·omega
   ·congr 1;omega
variable {α β:Type}
def Ev (t:Nat→Option β)(Q:β→Prop):Prop:=∃N r,(∀n,N≤n→t n=some r)∧Q r
theorem Ev.ret {r:β}{Q:β→Prop}(h:Q r):Ev (λ_=>some r) Q:=⟨0,r,λ_ _=>rfl,h⟩
theorem Ev.mono {t:Nat→Option β}{Q R:β→Prop}(h:Ev t Q)(k: ∀r,Q r→R r):Ev t R:=by
 obtain⟨N,r,h1,h2⟩:=h;exact⟨N,r,h1,k r h2⟩
theorem Ev.up {t u:Nat→Option β}{Q:β→Prop}(h:Ev t Q)(k: ∀n,u (n+1)=t n):Ev u Q:=by
 obtain⟨N,r,h1,h2⟩:=h;refine⟨N+1,r,λn hn=>?_,h2⟩
 cases n with
 |zero=>omega
 |succ n=>rw[k,h1 n (by omega)]
theorem Ev.af {t:Nat→Option (Value×aa)}{k:Nat→Value→aa→Option α}{Q1:Value×aa→Prop}{Q:α→Prop}(h:Ev t Q1)(hk: ∀v H,Q1 (v,H)→Ev (λn=>k n v H) Q):Ev (λn=>af (t n) (k n)) Q:=by
 obtain⟨N,⟨v,H⟩,h1,h2⟩:=h;obtain⟨M,r,h3,h4⟩:=hk v H h2;refine⟨max N M,r,λn hn=>?_,h4⟩
 simp only[h1 n (by omega)]
 exact h3 n (by omega)
theorem Ev.cN {t:Nat→aV}{k:Nat→bJ→List Value→aa→Option α}{Q1:bJ×List Value×aa→Prop}{Q:α→Prop}(h:Ev t Q1)(hk: ∀e vs H,Q1 (e,vs,H)→Ev (λn=>k n e vs H) Q):Ev (λn=>cN (t n) (k n)) Q:=by
 obtain⟨N,⟨e,vs,H⟩,h1,h2⟩:=h;obtain⟨M,r,h3,h4⟩:=hk e vs H h2;refine⟨max N M,r,λn hn=>?_,h4⟩
 simp only[h1 n (by omega)]
 exact h3 n (by omega)
theorem Ev.br {x y:Nat→Option α}{b:Bool}{Q:α→Prop}(h:b=true→Ev x Q)(k:b=false→Ev y Q):Ev (λn=>aR (.bool b) (x n) (y n)) Q:=by
 cases b with
 |true=>exact h rfl
 |false=>exact k rfl
theorem Ev.iter {step:Nat→List Value→aa→aV}{I:Nat→List Value→aa→Prop}{R:bJ×List Value×aa→Prop}(h: ∀k vs H,I k vs H→Ev (λn=>step n vs H) λr=>(r.1= .normal∧∃k',k'<k∧I k' r.2.1 r.2.2)∨(r.1≠ .normal∧R r)):
  ∀k vs H,I k vs H→Ev (λn=>Am.iter n (step n) vs H) λr=>r.1≠ .normal∧R r:=by
 have key: ∀k vs H,I k vs H→∃N r,(∀n m,N≤n→N≤m→Am.iter m (step n) vs H=some r)∧r.1≠ .normal∧R r:=by
  intro k;induction k using Nat.strongRecOn with
  |ind k ih=>
   intro vs H hi;obtain⟨N,⟨e,iM,H'⟩,h1,h2⟩:=h k vs H hi;rcases h2 with⟨he,k',hk,vK⟩|⟨he,hr⟩
   ·simp only at he;subst he;obtain⟨M,r,h3,h4⟩:=ih k' hk iM H' vK;refine⟨max N M+1,r,λn m hn hm=>?_,h4⟩
    cases m with
    |zero=>omega
    |succ m=>
     simp only[Am.iter,h1 n (by omega)]
     exact h3 n m (by omega) (by omega)
   ·refine⟨N+1,(e,iM,H'),λn m hn hm=>?_,he,hr⟩
    cases m with
    |zero=>omega
    |succ m=>
     simp only[Am.iter,h1 n (by omega)]
     cases e with
     |normal=>exact absurd rfl he
     |exit i=>rfl
     |ret=>rfl
 intro k vs H hi;obtain⟨N,r,h1,h2⟩:=key k vs H hi;exact⟨N,r,λn hn=>h1 n n hn hn,h2⟩
theorem Ev.loop {step:Nat→List Value→aa→aV}{kk:Nat→bJ→List Value→aa→Option α}{Q:α→Prop}(I:Nat→List Value→aa→Prop)(R:bJ×List Value×aa→Prop){k:Nat}{vs:List Value}{H:aa}(hi:I k vs H)(h: ∀k vs H,I k vs H→Ev (λn=>step n vs H) λr=>(r.1= .normal∧∃k',k'<k∧I k' r.2.1 r.2.2)∨(r.1≠ .normal∧R r))(hk: ∀e vs H,R (e,vs,H)→Ev (λn=>kk n e vs H) Q):Ev (λn=>Am.cN (Am.iter n (step n) vs H) (kk n)) Q:=
 Ev.cN (Ev.iter h k vs H hi) λe vs H hr=>hk e vs H hr.2
abbrev bA (C:Nat→ae)(f:Nat)(args:List Value)(H:aa)(Q:Value→aa→Prop):Prop:=Ev (λn=>C n f args H) λr=>Q r.1 r.2
theorem bA.is {C:Nat→ae}{f:Nat}{args:List Value}{H H':aa}{v:Value}{Q:Value→aa→Prop}(h: ∀n,C (n+1) f args H=some (v,H'))(hq:Q v H'):bA C f args H Q:=
 ⟨1,(v,H'),λn hn=>by
  cases n with
  |zero=>omega
  |succ n=>exact h n,hq⟩
theorem bA.mono {C:Nat→ae}{f:Nat}{args:List Value}{H:aa}{Q R:Value→aa→Prop}(h:bA C f args H Q)(k: ∀v H',Q v H'→R v H'):bA C f args H R:=Ev.mono h λr=>k r.1 r.2
theorem Ev.call {C:Nat→ae}{f:Nat}{args:List Value}{H:aa}{Q1:Value→aa→Prop}{k:Nat→Value→aa→Option α}{Q:α→Prop}(h:bA C f args H Q1)(hk: ∀v H',Q1 v H'→Ev (λn=>k n v H') Q):Ev (λn=>Am.af (C n f args H) (k n)) Q:=
 Ev.af h λv H' hq=>hk v H' hq
end Go.Proofs.YtjgmnoaalbbonaaGreatA.Am
end
section
namespace Go.Proofs.YtjgmnoaalbbonaaGreat.Fun
open Go.RowKit Go.Proofs.YtjgmnoaalbbonaaGreatA.Am
set_option maxRecDepth 10000
abbrev ks:List FuncId:=[6,76]
theorem NA:uN Tryz.prog=[]:=by kernel_rfl
theorem ar (f:FuncId)(h:(ks++[]:List FuncId).contains f=false):(ks++uN Tryz.prog).contains f=false:=by rw[NA];exact h
def run (G:ae)(n:Nat):ae:=fh Tryz.prog (ks++uN Tryz.prog) G n
end Go.Proofs.YtjgmnoaalbbonaaGreat.Fun
end
