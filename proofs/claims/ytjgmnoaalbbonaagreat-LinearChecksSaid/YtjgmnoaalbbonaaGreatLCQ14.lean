/- Texts of the proof of linearChecks_holds, put together by a small program of ours (names shortened, spaces taken out). No condition beyond the given statement. -/
import Derived.Test.YtjgmnoaalbbonaaGreatLCQ13
import Derived.Test.YtjgmnoaalbbonaaGreatProg
import Derived.Test.YtjgmnoaalbbonaaGreatLCQ9
import Derived.KernelRfl
set_option linter.unusedVariables false
set_option linter.unusedSimpArgs false
set_option linter.unnecessarySimpa false
noncomputable section
section
namespace Go.Proofs.YtjgmnoaalbbonaaGreatA.Am
variable {H H':ae} {o o':an} {q:Int}
abbrev PL:=List (Int×Int)
def lZ:PL→List Value
 | []=>[]
 |x::l=>cv x.1::cv x.2::lZ l
theorem la: ∀l:PL,(lZ l).length=2*l.length
 | []=>rfl
 |x::l=>by simp only[lZ,List.length_cons,la l];omega
theorem EY: ∀a b:PL,lZ (a++b)=lZ a++lZ b
 | [],b=>rfl
 |x::a,b=>by simp only[List.cons_append,lZ,EY a b]
theorem LV: ∀l:PL,(lZ l).all aD=true
 | []=>rfl
 |x::l=>by simp only[lZ,List.all_cons,LV l,Bool.and_true];rfl
theorem zW: ∀(l:PL) (n:Nat),(lZ l).drop (2*n)=lZ (l.drop n)
 |l,0=>rfl
 | [],n+1=>by simp[lZ]
 |x::l,n+1=>by
  rw[show 2*(n+1)=2*n+1+1 by omega]
  simp only[lZ,List.drop_succ_cons];exact zW l n
theorem zX: ∀(l:PL) (n:Nat),(lZ l).take (2*n)=lZ (l.take n)
 |l,0=>rfl
 | [],n+1=>by simp[lZ]
 |x::l,n+1=>by
  rw[show 2*(n+1)=2*n+1+1 by omega]
  simp only[lZ,List.take_succ_cons,zX l n]
theorem zY: ∀{l:PL} {j:Nat},j<l.length→(lZ l)[2*j]? =some (cv (l.getD j (0,0)).1)
 | [],j,h=>by simp at h
 |x::l,0,h=>rfl
 |x::l,j+1,h=>by
  rw[show 2*(j+1)=2*j+1+1 by omega]
  simp only[lZ,List.getElem?_cons_succ,List.getD_cons_succ];exact zY (by simpa using h)
theorem zZ: ∀{l:PL} {j:Nat},j<l.length→(lZ l)[2*j+1]? =some (cv (l.getD j (0,0)).2)
 | [],j,h=>by simp at h
 |x::l,0,h=>rfl
 |x::l,j+1,h=>by
  rw[show 2*(j+1)+1=2*j+1+1+1 by omega]
  simp only[lZ,List.getElem?_cons_succ,List.getD_cons_succ];exact zZ (by simpa using h)
def fF (H:ae)(o:an)(q:Int)(x:Value)(l:PL):Prop:=
 (x= .slice none 0 0∧l=[])∨∃i cap rest ty,x= .slice (some ⟨i,0,none⟩) l.length cap∧H.get i=some ⟨lZ l++rest,ty,2,false⟩∧2*l.length+rest.length=2*cap∧o i=q
theorem fF.nil:fF H o q (.slice none 0 0) []:=.inl ⟨rfl,rfl⟩
theorem fF.fr {x:Value}{l:PL}{ps:List Int}(h:fF H o q x l)(f:Fr H o H' o' ps)(hp:q ∉ ps):fF H' o' q x l:=by
 rcases h with h|⟨i,cap,rest,ty,h1,h2,h3,h4⟩
 ·exact .inl h
 ·exact .inr ⟨i,cap,rest,ty,h1,by rw[f.same i (aq h2) (by rw[h4];exact hp)];exact h2,h3,by rw[f.own i (aq h2)];exact h4⟩
theorem fF.isSlice {x:Value}{l:PL}(h:fF H o q x l): ∃a c,x= .slice a l.length c:=by
 rcases h with⟨rfl,rfl⟩|⟨i,cap,rest,ty,rfl,_⟩
 ·exact⟨_,_,rfl⟩
 ·exact⟨_,_,rfl⟩
theorem fF.len {x:Value}{l:PL}(h:fF H o q x l):cq x=some (cv l.length):=by
 obtain⟨a,c,rfl⟩:=h.isSlice;rfl
theorem fF.jd {x:Value}{l:PL}(h:fF H o q x l):jd x x=true:=by
 rcases h with⟨rfl,rfl⟩|⟨i,cap,rest,ty,rfl,_⟩
 ·rfl
 ·simp[Am.jd,n8]
theorem fF.idx {x:Value}{l:PL}(h:fF H o q x l){j:Nat}(hj:j<l.length):
  ∃i b,(∀H',bP 2 x (cv j) H'=some (.pointer (some ⟨i,2*j,none⟩),H'))∧H.get i=some b∧o i=q∧∀H':ae,H'.get i=some b→au (.pointer (some ⟨i,2*j,none⟩)) H'=some (cv (l.getD j (0,0)).1)∧au (.pointer (some ⟨i,2*j+1,none⟩)) H'=some (cv (l.getD j (0,0)).2)∧
   bV 2 (.pointer (some ⟨i,2*j,none⟩)) H'=some (.agg #[cv (l.getD j (0,0)).1,cv (l.getD j (0,0)).2]):=by
 rcases h with⟨rfl,rfl⟩|⟨i,cap,rest,ty,rfl,h2,h3,h4⟩
 ·simp at hj
 ·have g0:=zY hj;have g1:=zZ hj;have l0:=la l;refine⟨i,_,λH'=>?_,h2,h4,λH' e=>?_⟩
  ·simp only[bP];rw[if_pos (by constructor<;>omega)];simp<;>omega
  ·have c0:(lZ l++rest)[2*j]? =some (cv (l.getD j (0,0)).1):=by rw[List.getElem?_append_left (by omega)];exact g0
   have c1:(lZ l++rest)[2*j+1]? =some (cv (l.getD j (0,0)).2):=by rw[List.getElem?_append_left (by omega)];exact g1
   refine⟨by rw[ak i _ H' e];exact c0,by rw[ak i _ H' e];exact c1,?_⟩
   have fN:aA H' i (2*j) 2=some [cv (l.getD j (0,0)).1,cv (l.getD j (0,0)).2]:=by
    simp only[aA,e];rw[if_pos (by rw[List.length_append];omega)]
    have hd:(lZ l++rest).drop (2*j)=cv (l.getD j (0,0)).1::cv (l.getD j (0,0)).2::(lZ l++rest).drop (2*j+2):=by
     rw[List.drop_eq_getElem_cons (by rw[List.length_append];omega),List.drop_eq_getElem_cons (by rw[List.length_append];omega)]
     rw[List.getElem?_eq_getElem (by rw[List.length_append];omega)] at c0 c1
     simp only[Option.some.injEq] at c0 c1;rw[c0,c1]
    rw[hd];rfl
   simp only[bV,fN]
def Src (H:ae)(x:Value)(l:PL):Prop:=∃a c,x= .slice a l.length c∧bp H 2 l.length x=some (lZ l)
theorem fF.src {x:Value}{l:PL}(h:fF H o q x l):Src H x l:=by
 rcases h with⟨rfl,rfl⟩|⟨i,cap,rest,ty,rfl,h2,h3,h4⟩
 ·exact⟨_,_,rfl,rfl⟩
 ·refine⟨_,_,rfl,?_⟩;by_cases e:l.length=0
  ·have:l=[]:=by simpa using e
   subst this;rfl
  ·have l0:=la l;simp only[bp,e,if_false,aA,h2];rw[if_pos (by rw[List.length_append];omega),List.drop_zero,List.take_left' (by omega)]
theorem fF.LW {x:Value}{l:PL}(h:fF H o q x l){n:Nat}(hn:n≤l.length): ∃y,dD 2 H x none (some (cv n))=some y∧Src H y (l.take n):=by
 rcases h with⟨rfl,rfl⟩|⟨i,cap,rest,ty,rfl,h2,h3,h4⟩
 ·have:n=0:=by simpa using hn
  subst this;exact⟨_,rfl,_,_,rfl,rfl⟩
 ·have l0:=la l;refine⟨.slice (some ⟨i,0,none⟩) n cap,?_,⟨some ⟨i,0,none⟩,cap,by simp;omega,?_⟩⟩
  ·simp[dD,cK,iV,h2];omega
  ·have e:(l.take n).length=n:=by simp;omega
   rw[e];by_cases e0:n=0
   ·subst e0;rfl
   ·simp only[bp,e0,if_false,aA,h2];rw[if_pos (by rw[List.length_append];omega),List.drop_zero,show n*2=2*n by omega,List.take_append_of_le_length (by omega),zX]
theorem fF.uQ {x:Value}{l:PL}(h:fF H o q x l){n:Nat}(hn:n≤l.length): ∃y,dD 2 H x (some (cv n)) none=some y∧Src H y (l.drop n):=by
 rcases h with⟨rfl,rfl⟩|⟨i,cap,rest,ty,rfl,h2,h3,h4⟩
 ·have:n=0:=by simpa using hn
  subst this;exact⟨_,rfl,_,_,rfl,rfl⟩
 ·have l0:=la l;refine⟨.slice (some ⟨i,n*2,none⟩) (l.length-n) (cap-n),?_,⟨some ⟨i,n*2,none⟩,cap-n,by simp,?_⟩⟩
  ·have:(n:Int)≤(l.length:Int):=by omega
   have:l.length≤cap:=by omega
   simp[dD,cK,iV,h2, *]
  ·have e:(l.drop n).length=l.length-n:=by simp
   rw[e];by_cases e0:l.length-n=0
   ·have:l.drop n=[]:=List.drop_eq_nil_of_le (by omega)
    simp only[bp,e0,if_true,this];rfl
   ·simp only[bp,e0,if_false,aA,h2];rw[if_pos (by rw[List.length_append];omega),List.drop_append_of_le_length (by omega),show n*2=2*n by omega,zW,List.take_left' (by rw[la];simp;omega)]
theorem Src.one {i:Nat}{k v:Int}{t:TypeId}(h:H.get i=some ⟨[cv k,cv v],t,2,false⟩):Src H (.slice (some ⟨i,0,none⟩) 1 1) [(k,v)]:=
 ⟨_,_,rfl,by simp[bp,aA,h,lZ]⟩
theorem fF.app {x y:Value}{l m:PL}(t:TypeId)(h:fF H o q x l)(hy:Src H y m)(hb:l.length+m.length≤4294967296):
  ∃x' H' o',cd t 2 16 x y H=some (x',H')∧fF H' o' q x' (l++m)∧Fr H o H' o' [q]∧(∀i,(∀n k,x≠ .slice (some ⟨i,0,none⟩) n k)→i<H.length→H'[i]? =H[i]? ∧∀n k,x'≠ .slice (some ⟨i,0,none⟩) n k):=by
 obtain⟨b,c,rfl,hc⟩:=hy;by_cases hm:m=[]
 ·subst hm;refine⟨x,H,o,?_,by simpa using h,.refl _ _ _,λi hi _=>⟨rfl,hi⟩⟩
  rcases h with⟨rfl,rfl⟩|⟨i,cap,rest,ty,rfl,h2,h3,h4⟩
  ·simp only[cd,hc,Option.map_some];simp
  ·simp only[cd,hc,Option.map_some];rw[if_pos (by simp;omega)];simp
 have Ey:m.length≠0:=by simpa using hm
 have lm:=la m;rcases h with⟨rfl,rfl⟩|⟨i,cap,rest,ty,rfl,h2,h3,h4⟩
 ·refine⟨.slice (some ⟨H.length,0,none⟩) m.length m.length,H.new ⟨lZ m,t,2,false⟩,o.up H.length q,?_,?_,(Fr.refl _ _ _).new _ _,λi _ hi=>⟨dh hi,λn k e=>by cases e;omega⟩⟩
  ·simp only[cd,hc,Option.map_some];rw[if_neg (by omega),if_pos (by simp;simp at hb;omega)]
   simp
  ·exact .inr ⟨H.length,m.length,[],t,by simp,by simpa using az,by simp,aQ⟩
 ·have hql:=aq h2;have ll:=la l;by_cases iN:l.length+m.length≤cap
  ·refine⟨.slice (some ⟨i,0,none⟩) (l++m).length cap,H.put i ⟨lZ (l++m)++rest.drop (2*m.length),ty,2,false⟩,o,?_,?_,(Fr.refl _ _ _).put (λ_=>by simp[h4]),λj hj _=>⟨cU (by rintro rfl;exact hj _ _ rfl),λn k e=>by cases e;exact hj _ _ rfl⟩⟩
   ·simp only[cd,hc,Option.map_some];rw[if_pos iN,if_neg Ey];simp only[h2,if_true,bG];rw[if_pos (by simp only[LV,List.length_append,lm,ll,Bool.not_false,Bool.true_and,Bool.and_true,decide_eq_true_eq];omega)]
    have e:=jO (lZ m) (lZ l) rest (by rw[lm];omega)
    rw[ll,lm] at e;simp only[Nat.zero_add,show l.length*2=2*l.length by omega,e,Option.map_some,EY,List.length_append]
   ·exact .inr ⟨i,cap,rest.drop (2*m.length),ty,rfl,aH h2,by simp;omega,h4⟩
  ·refine⟨.slice (some ⟨H.length,0,none⟩) (l++m).length (l++m).length,(H.kill i).new ⟨lZ (l++m),t,2,false⟩,o.up H.length q,?_,?_,?_,?_⟩
   ·simp only[cd,hc,Option.map_some];rw[if_neg iN,if_pos (by simp;omega)]
    simp only[h2];rw[if_pos (by simp[ll];omega)]
    have e:aA H i 0 (l.length*2)=some (lZ l):=by
     simp only[aA,h2];rw[if_pos (by rw[List.length_append];omega),List.drop_zero,List.take_left' (by omega)]
    simp only[e,EY,List.length_append]
   ·have:=az (H:=H.kill i) (c:=⟨lZ (l++m),t,2,false⟩)
    rw[dt] at this;exact .inr ⟨H.length,(l++m).length,[],t,rfl,by simpa using this,by simp,aQ⟩
   ·have:=((Fr.refl H o [q]).kill (i:=i) (λ_=>by simp[h4])).new ⟨lZ (l++m),t,2,false⟩ q
    rw[dt] at this;exact this
   ·intro j hj Cz;exact⟨by rw[dh (by rw[dt];exact Cz),oq (by rintro rfl;exact hj _ _ rfl)],λn k e=>by cases e;omega⟩
theorem fF.yA {x:Value}{l:PL}{b:Nat}{cs:List Value}{t:TypeId}{r:Bool}(h:fF H o q x l)(hb:H.get b=some ⟨cs,t,1,r⟩): ∀n k,x≠ .slice (some ⟨b,0,none⟩) n k:=by
 rcases h with⟨rfl,_⟩|⟨i,cap,rest,ty,rfl,h2,h3,h4⟩
 ·intro n k e;cases e
 ·intro n k e;cases e;rw[h2] at hb;cases hb
theorem fF.z4 {x:Value}{l:PL}{y:Nat}{c:dq}(h:fF H o q x l)(hy:H.db y=some c): ∀n k,x≠ .slice (some ⟨y,0,none⟩) n k:=by
 rcases h with⟨rfl,_⟩|⟨i,cap,rest,ty,rfl,h2,h3,h4⟩
 ·intro n k e;cases e
 ·intro n k e;cases e;exact Ri hy h2 rfl
theorem fF.mv {x:Value}{l:PL}(h:fF H o q x l)(k: ∀i n c,x= .slice (some ⟨i,0,none⟩) n c→H'[i]? =H[i]? ∧o' i=o i):fF H' o' q x l:=by
 rcases h with h|⟨i,cap,rest,ty,h1,h2,h3,h4⟩
 ·exact .inl h
 ·obtain⟨k1,k2⟩:=k i _ _ h1;exact .inr ⟨i,cap,rest,ty,h1,by rw[cT k1];exact h2,h3,by rw[k2];exact h4⟩
theorem fF.JO {x:Value}{l:PL}{b:Nat}{cs:List Value}{t:TypeId}{r:Bool}{c:eY}(h:fF H o q x l)(hb:H.get b=some ⟨cs,t,1,r⟩):fF (H.put b c) o q x l:=
 h.mv λi n k e=>⟨cU (by rintro rfl;exact h.yA hb _ _ e),rfl⟩
theorem fF.fC {x:Value}{l:PL}{y:Nat}{c d:dq}(h:fF H o q x l)(hy:H.db y=some c):fF (H.fC y d) o q x l:=
 h.mv λi n k e=>⟨DO (by rintro rfl;exact h.z4 hy _ _ e),rfl⟩
theorem fF.relabel {x:Value}{l:PL}{q':Int}(h:fF H o q x l)(k: ∀i,i<H.length→o i=q→o' i=q'):fF H o' q' x l:=by
 rcases h with h|⟨i,cap,rest,ty,h1,h2,h3,h4⟩
 ·exact .inl h
 ·exact .inr ⟨i,cap,rest,ty,h1,h2,h3,k i (aq h2) h4⟩
variable {H H':ae} {o o':an} {q:Int}
def ee (H:ae)(o:an)(q:Int)(x:Value)(l:PL):Prop:=
 (x= .slice none 0 0∧l=[])∨(∃i off,x= .slice (some ⟨i,off,none⟩) 0 0∧l=[])∨
 ∃i off c b,x= .slice (some ⟨i,off,none⟩) l.length c∧H.get i=some b∧b.es=2∧o i=q∧l.length≤c∧off+2*l.length≤b.cells.length∧(b.cells.drop off).take (2*l.length)=lZ l
theorem fF.r {x:Value}{l:PL}(h:fF H o q x l):ee H o q x l:=by
 rcases h with h|⟨i,cap,rest,ty,h1,h2,h3,h4⟩
 ·exact .inl h
 ·have:=la l
  exact .inr (.inr ⟨i,0,cap,_,h1,h2,rfl,h4,by omega,by simp;omega,by simp only[List.drop_zero];exact List.take_left' (by omega)⟩)
theorem ee.nil:ee H o q (.slice none 0 0) []:=.inl ⟨rfl,rfl⟩
theorem ee.mv {x:Value}{l:PL}(h:ee H o q x l)(k: ∀i,i<H.length→o i=q→H'.get i=H.get i∧o' i=q):ee H' o' q x l:=by
 rcases h with h|h|⟨i,off,c,b,h1,h2,h3,h4,h5⟩
 ·exact .inl h
 ·exact .inr (.inl h)
 ·obtain⟨k1,k2⟩:=k i (aq h2) h4;exact .inr (.inr ⟨i,off,c,b,h1,by rw[k1];exact h2,h3,k2,h5⟩)
theorem ee.fr {x:Value}{l:PL}{ps:List Int}(h:ee H o q x l)(f:Fr H o H' o' ps)(hp:q ∉ ps):ee H' o' q x l:=
 h.mv λi hi ho=>⟨f.same i hi (by rw[ho];exact hp),by rw[f.own i hi];exact ho⟩
theorem ee.relabel {x:Value}{l:PL}{q':Int}(h:ee H o q x l)(k: ∀i,i<H.length→o i=q→o' i=q'):ee H o' q' x l:=by
 rcases h with h|h|⟨i,off,c,b,h1,h2,h3,h4,h5⟩
 ·exact .inl h
 ·exact .inr (.inl h)
 ·exact .inr (.inr ⟨i,off,c,b,h1,h2,h3,k i (aq h2) h4,h5⟩)
theorem ee.isSlice {x:Value}{l:PL}(h:ee H o q x l): ∃a c,x= .slice a l.length c:=by
 rcases h with⟨rfl,rfl⟩|⟨i,off,rfl,rfl⟩|⟨i,off,c,b,rfl,_⟩
 ·exact⟨_,_,rfl⟩
 ·exact⟨_,_,rfl⟩
 ·exact⟨_,_,rfl⟩
theorem ee.len {x:Value}{l:PL}(h:ee H o q x l):cq x=some (cv l.length):=by
 obtain⟨a,c,rfl⟩:=h.isSlice;rfl
theorem ee.jd {x:Value}{l:PL}(h:ee H o q x l):jd x x=true:=by
 obtain⟨a,c,rfl⟩:=h.isSlice;simp[Am.jd,n8]
theorem LX {cells:List Value}{off j:Nat}{l:PL}(h:(cells.drop off).take (2*l.length)=lZ l){k:Nat}{v:Value}(hk:k<2*l.length)(hv:(lZ l)[k]? =some v):cells[off+k]? =some v:=by
 rw[←h,List.getElem?_take,if_pos hk,List.getElem?_drop] at hv;exact hv
theorem ee.idx {x:Value}{l:PL}(h:ee H o q x l){j:Nat}(hj:j<l.length):
  ∃i off b,(∀H',bP 2 x (cv j) H'=some (.pointer (some ⟨i,off,none⟩),H'))∧H.get i=some b∧o i=q∧∀H':ae,H'.get i=some b→au (.pointer (some ⟨i,off,none⟩)) H'=some (cv (l.getD j (0,0)).1)∧au (.pointer (some ⟨i,off+1,none⟩)) H'=some (cv (l.getD j (0,0)).2)∧
   bV 2 (.pointer (some ⟨i,off,none⟩)) H'=some (.agg #[cv (l.getD j (0,0)).1,cv (l.getD j (0,0)).2]):=by
 rcases h with⟨rfl,rfl⟩|⟨i,off,rfl,rfl⟩|⟨i,off,c,b,rfl,h2,h3,h4,h5,h6,h7⟩
 ·simp at hj
 ·simp at hj
 ·have c0:=LX (j:=j) h7 (k:=2*j) (by omega) (zY hj)
  have c1:=LX (j:=j) h7 (k:=2*j+1) (by omega) (zZ hj)
  refine⟨i,off+2*j,b,λH'=>?_,h2,h4,λH' e=>?_⟩
  ·simp only[bP];rw[if_pos (by constructor<;>omega)];simp<;>omega
  ·refine⟨by rw[ak i _ H' e];exact c0,by rw[ak i _ H' e,Nat.add_assoc];exact c1,?_⟩
   have fN:aA H' i (off+2*j) 2=some [cv (l.getD j (0,0)).1,cv (l.getD j (0,0)).2]:=by
    simp only[aA,e];rw[if_pos (by omega)]
    have hd:b.cells.drop (off+2*j)=cv (l.getD j (0,0)).1::cv (l.getD j (0,0)).2::b.cells.drop (off+2*j+2):=by
     rw[List.drop_eq_getElem_cons (by omega),List.drop_eq_getElem_cons (by omega)]
     rw[List.getElem?_eq_getElem (by omega)] at c0 c1
     simp only[Option.some.injEq] at c0 c1;rw[c0];have:b.cells[off+2*j+1]'(by omega)=cv (l.getD j (0,0)).2:=c1
     rw[this]
    rw[hd];rfl
   simp only[bV,fN]
theorem ee.src {x:Value}{l:PL}(h:ee H o q x l):Src H x l:=by
 rcases h with⟨rfl,rfl⟩|⟨i,off,rfl,rfl⟩|⟨i,off,c,b,rfl,h2,h3,h4,h5,h6,h7⟩
 ·exact⟨_,_,rfl,rfl⟩
 ·exact⟨_,_,rfl,rfl⟩
 ·refine⟨_,_,rfl,?_⟩;by_cases e:l.length=0
  ·have:l=[]:=by simpa using e
   subst this;rfl
  ·simp only[bp,e,if_false,aA,h2];rw[if_pos (by omega),Nat.mul_comm,h7]
theorem ee.cut {x:Value}{l:PL}(h:ee H o q x l){m n:Nat}(hm:m≤n)(hn:n≤l.length){lo hi:Option Value}(uj:cK 0 lo=some (m:Int))(Cw:cK l.length hi=some (n:Int)):
  ∃y,dD 2 H x lo hi=some y∧ee H o q y ((l.take n).drop m):=by
 rcases h with⟨rfl,rfl⟩|⟨i,off,rfl,rfl⟩|⟨i,off,c,b,rfl,h2,h3,h4,h5,h6,h7⟩
 ·have e1:n=0:=by simpa using hn
  subst e1;have e2:m=0:=by omega
  subst e2;refine⟨.slice none 0 0,?_,.inl ⟨rfl,rfl⟩⟩;have EZ:cK 0 hi=some 0:=Cw;have E4:cK 0 lo=some 0:=uj;simp[dD,E4,EZ]
 ·have e1:n=0:=by simpa using hn
  subst e1;have e2:m=0:=by omega
  subst e2;refine⟨.slice (some ⟨i,off,none⟩) 0 0,?_,.inr (.inl ⟨i,off,rfl,rfl⟩)⟩;have EZ:cK 0 hi=some 0:=Cw;have E4:cK 0 lo=some 0:=uj;cases hb:H.get i with
  |none=>simp[dD,hb,E4,EZ]
  |some b=>simp[dD,hb,E4,EZ]
 ·refine⟨.slice (some ⟨i,off+m*2,none⟩) (n-m) (c-m),?_,.inr (.inr ⟨i,off+m*2,c-m,b,?_,h2,h3,h4,?_,?_,?_⟩)⟩
  ·simp only[dD,uj,Cw];rw[if_pos (by omega)]
   simp only[h2,h3,if_true,Int.toNat_natCast]
  ·simp;omega
  ·simp;omega
  ·simp;omega
  ·have e:((l.take n).drop m).length=n-m:=by simp;omega
   rw[e, ←zW, ←zX, ←h7,List.take_take,List.drop_take,List.drop_drop]
   congr 1
   ·omega
   ·congr 1;omega
theorem ee.LW {x:Value}{l:PL}(h:ee H o q x l){n:Nat}(hn:n≤l.length): ∃y,dD 2 H x none (some (cv n))=some y∧Src H y (l.take n):=by
 obtain⟨y,h1,h2⟩:=h.cut (m:=0) (n:=n) (lo:=none) (hi:=some (cv n)) (Nat.zero_le _) hn rfl (by simp[cK,iV])
 exact⟨y,h1,by simpa using h2.src⟩
theorem ee.uQ {x:Value}{l:PL}(h:ee H o q x l){n:Nat}(hn:n≤l.length): ∃y,dD 2 H x (some (cv n)) none=some y∧Src H y (l.drop n):=by
 obtain⟨y,h1,h2⟩:=h.cut (m:=n) (n:=l.length) (lo:=some (cv n)) (hi:=none) hn (Nat.le_refl _) (by simp[cK,iV]) rfl
 exact⟨y,h1,by simpa using h2.src⟩
variable {α β:Type}
def Ev (t:Nat→Option β)(Q:β→Prop):Prop:=∃N r,(∀n,N≤n→t n=some r)∧Q r
theorem Ev.ret {r:β}{Q:β→Prop}(h:Q r):Ev (λ_=>some r) Q:=⟨0,r,λ_ _=>rfl,h⟩
theorem Ev.mono {t:Nat→Option β}{Q R:β→Prop}(h:Ev t Q)(k: ∀r,Q r→R r):Ev t R:=by
 obtain⟨N,r,h1,h2⟩:=h;exact⟨N,r,h1,k r h2⟩
theorem Ev.up {t u:Nat→Option β}{Q:β→Prop}(h:Ev t Q)(k: ∀n,u (n+1)=t n):Ev u Q:=by
 obtain⟨N,r,h1,h2⟩:=h;refine⟨N+1,r,λn hn=>?_,h2⟩
 cases n with
 |zero=>omega
 |succ n=>rw[k,h1 n (by omega)]
theorem Ev.af {t:Nat→Option (Value×ae)}{k:Nat→Value→ae→Option α}{Q1:Value×ae→Prop}{Q:α→Prop}(h:Ev t Q1)(hk: ∀v H,Q1 (v,H)→Ev (λn=>k n v H) Q):Ev (λn=>af (t n) (k n)) Q:=by
 obtain⟨N,⟨v,H⟩,h1,h2⟩:=h;obtain⟨M,r,h3,h4⟩:=hk v H h2;refine⟨max N M,r,λn hn=>?_,h4⟩
 simp only[h1 n (by omega)]
 exact h3 n (by omega)
theorem Ev.cI {t:Nat→bl}{k:Nat→cg→List Value→ae→Option α}{Q1:cg×List Value×ae→Prop}{Q:α→Prop}(h:Ev t Q1)(hk: ∀e vs H,Q1 (e,vs,H)→Ev (λn=>k n e vs H) Q):Ev (λn=>cI (t n) (k n)) Q:=by
 obtain⟨N,⟨e,vs,H⟩,h1,h2⟩:=h;obtain⟨M,r,h3,h4⟩:=hk e vs H h2;refine⟨max N M,r,λn hn=>?_,h4⟩
 simp only[h1 n (by omega)]
 exact h3 n (by omega)
theorem Ev.br {x y:Nat→Option α}{b:Bool}{Q:α→Prop}(h:b=true→Ev x Q)(k:b=false→Ev y Q):Ev (λn=>aY (.bool b) (x n) (y n)) Q:=by
 cases b with
 |true=>exact h rfl
 |false=>exact k rfl
theorem Ev.iter {step:Nat→List Value→ae→bl}{I:Nat→List Value→ae→Prop}{R:cg×List Value×ae→Prop}(h: ∀k vs H,I k vs H→Ev (λn=>step n vs H) λr=>(r.1= .normal∧∃k',k'<k∧I k' r.2.1 r.2.2)∨(r.1≠ .normal∧R r)):
  ∀k vs H,I k vs H→Ev (λn=>Am.iter n (step n) vs H) λr=>r.1≠ .normal∧R r:=by
 have key: ∀k vs H,I k vs H→∃N r,(∀n m,N≤n→N≤m→Am.iter m (step n) vs H=some r)∧r.1≠ .normal∧R r:=by
  intro k;induction k using Nat.strongRecOn with
  |ind k ih=>
   intro vs H hi;obtain⟨N,⟨e,ju,H'⟩,h1,h2⟩:=h k vs H hi;rcases h2 with⟨he,k',hk,wZ⟩|⟨he,hr⟩
   ·simp only at he;subst he;obtain⟨M,r,h3,h4⟩:=ih k' hk ju H' wZ;refine⟨max N M+1,r,λn m hn hm=>?_,h4⟩
    cases m with
    |zero=>omega
    |succ m=>
     simp only[Am.iter,h1 n (by omega)]
     exact h3 n m (by omega) (by omega)
   ·refine⟨N+1,(e,ju,H'),λn m hn hm=>?_,he,hr⟩
    cases m with
    |zero=>omega
    |succ m=>
     simp only[Am.iter,h1 n (by omega)]
     cases e with
     |normal=>exact absurd rfl he
     |exit i=>rfl
     |ret=>rfl
 intro k vs H hi;obtain⟨N,r,h1,h2⟩:=key k vs H hi;exact⟨N,r,λn hn=>h1 n n hn hn,h2⟩
theorem Ev.loop {step:Nat→List Value→ae→bl}{kk:Nat→cg→List Value→ae→Option α}{Q:α→Prop}(I:Nat→List Value→ae→Prop)(R:cg×List Value×ae→Prop){k:Nat}{vs:List Value}{H:ae}(hi:I k vs H)(h: ∀k vs H,I k vs H→Ev (λn=>step n vs H) λr=>(r.1= .normal∧∃k',k'<k∧I k' r.2.1 r.2.2)∨(r.1≠ .normal∧R r))(hk: ∀e vs H,R (e,vs,H)→Ev (λn=>kk n e vs H) Q):Ev (λn=>Am.cI (Am.iter n (step n) vs H) (kk n)) Q:=
 Ev.cI (Ev.iter h k vs H hi) λe vs H hr=>hk e vs H hr.2
abbrev bN (C:Nat→ag)(f:Nat)(args:List Value)(H:ae)(Q:Value→ae→Prop):Prop:=Ev (λn=>C n f args H) λr=>Q r.1 r.2
theorem bN.is {C:Nat→ag}{f:Nat}{args:List Value}{H H':ae}{v:Value}{Q:Value→ae→Prop}(h: ∀n,C (n+1) f args H=some (v,H'))(hq:Q v H'):bN C f args H Q:=
 ⟨1,(v,H'),λn hn=>by
  cases n with
  |zero=>omega
  |succ n=>exact h n,hq⟩
theorem bN.mono {C:Nat→ag}{f:Nat}{args:List Value}{H:ae}{Q R:Value→ae→Prop}(h:bN C f args H Q)(k: ∀v H',Q v H'→R v H'):bN C f args H R:=Ev.mono h λr=>k r.1 r.2
theorem Ev.call {C:Nat→ag}{f:Nat}{args:List Value}{H:ae}{Q1:Value→ae→Prop}{k:Nat→Value→ae→Option α}{Q:α→Prop}(h:bN C f args H Q1)(hk: ∀v H',Q1 v H'→Ev (λn=>k n v H') Q):Ev (λn=>Am.af (C n f args H) (k n)) Q:=
 Ev.af h λv H' hq=>hk v H' hq
end Go.Proofs.YtjgmnoaalbbonaaGreatA.Am
end
section
namespace Go.Proofs.YtjgmnoaalbbonaaGreat.Fun
open Go.RowKit Go.Proofs.YtjgmnoaalbbonaaGreatA.Am
set_option maxRecDepth 10000
abbrev ks:List FuncId:=[6,76]
theorem Rk:wV Tryz.prog=[]:=by kernel_rfl
theorem ay (f:FuncId)(h:(ks++[]:List FuncId).contains f=false):(ks++wV Tryz.prog).contains f=false:=by rw[Rk];exact h
def run (G:ag)(n:Nat):ag:=fW Tryz.prog (ks++wV Tryz.prog) G n
end Go.Proofs.YtjgmnoaalbbonaaGreat.Fun
end
