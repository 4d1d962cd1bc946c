/- Texts of the proof of linearChecks_holds, put together by a small program of ours (names shortened, spaces taken out). No condition beyond the given statement. -/
import Derived.Test.YtjgmnoaalbbonaaGreatLCQ28
set_option linter.unusedVariables false
set_option linter.unusedSimpArgs false
set_option linter.unnecessarySimpa false
noncomputable section
section
namespace Go.Proofs.YtjgmnoaalbbonaaGreat.Fun
open Go Go.RowKit Go.Proofs.YtjgmnoaalbbonaaGreatA.Am
set_option maxRecDepth 10000
def jg:List (iH×Value)→List Value
 | []=>[]
 |x::l=>aT x.1 x.2++jg l
theorem pJ: ∀l:List (iH×Value),(jg l).length=13*l.length
 | []=>rfl
 |x::l=>by simp only[jg,List.length_append,List.length_cons,pJ l];simp;omega
theorem pK: ∀a b:List (iH×Value),jg (a++b)=jg a++jg b
 | [],b=>rfl
 |x::a,b=>by simp only[List.cons_append,jg,pK a b,List.append_assoc]
theorem Tq: ∀{l:List (iH×Value)} {j:Nat} {x:iH×Value},l[j]? =some x→∀rest,((jg l++rest).drop (13*j)).take 13=aT x.1 x.2
 | [],j,x,h,_=>by simp at h
 |y::l,0,x,h,rest=>by
  have:y=x:=by simpa using h
  subst this;rfl
 |y::l,j+1,x,h,rest=>by
  have e:(jg (y::l)++rest).drop (13*(j+1))=(jg l++rest).drop (13*j):=by
   rw[show 13*(j+1)=13+13*j by omega, ←List.drop_drop]
   rfl
  rw[e];exact Tq (by simpa using h) rest
def jD (H:ae)(o:an)(q q2:Int)(x:Value)(L:List iH):Prop:=
 (x= .slice none 0 0∧L=[])∨∃i cap rest ty es,x= .slice (some ⟨i,0,none⟩) L.length cap∧H.get i=some ⟨jg es++rest,ty,13,false⟩∧L=es.map (λz=>z.1)∧13*L.length+rest.length=13*cap∧o i=q∧∀z∈es,ee H o q2 z.2 z.1.res.list
section
variable {H H':ae} {o o':an} {q q2:Int} {x:Value} {L:List iH}
theorem jD.jg (h:jD H o q q2 x L):oO H o q q2 x L:=by
 rcases h with h|⟨i,cap,rest,ty,es,rfl,h2,rfl,h4,h5,h6⟩
 ·exact .inl h
 ·have hl:=pJ es;simp only[List.length_map] at h4 ⊢;refine .inr (.inr ⟨i,0,cap,_,by simp,by simp;omega,h2,rfl,h5,by simp[hl],λj e he=>?_⟩)
  rw[List.getElem?_map] at he;cases hx:es[j]? with
  |none=>rw[hx] at he;cases he
  |some z=>
   rw[hx] at he;cases he;exact⟨z.2,by rw[Nat.zero_add];exact Tq hx rest,h6 z (List.mem_of_getElem? hx)⟩
theorem jD.fr {ps:List Int}(h:jD H o q q2 x L)(f:Fr H o H' o' ps)(h1:q ∉ ps)(h2:q2 ∉ ps):jD H' o' q q2 x L:=by
 rcases h with h|⟨i,cap,rest,ty,es,e1,e2,e3,e4,e5,e6⟩
 ·exact .inl h
 ·exact .inr ⟨i,cap,rest,ty,es,e1,by rw[f.same i (aq e2) (by rw[e5];exact h1)];exact e2,e3,e4,by rw[f.own i (aq e2)];exact e5,λz hz=>(e6 z hz).fr f h2⟩
theorem jD.len (h:jD H o q q2 x L):cq x=some (cv L.length):=h.jg.len
theorem Gq (x:iH×Value)(a:Option Addr)(m c:Nat)(es:x.2= .slice a m c):(aT x.1 x.2).all aD=true:=by
 rw[es];rfl
theorem jD.app {j:Nat}{e:iH}{s:Value}{t tE:TypeId}(h:jD H o q q2 x L)(hj:H.get j=some ⟨aT e s,t,13,false⟩)(hs:ee H o q2 s e.res.list)(hq:q2≠q)(hl:L.length<4294967295):
  ∃x' H' o',cd tE 13 120 x (.slice (some ⟨j,0,none⟩) 1 1) H=some (x',H')∧jD H' o' q q2 x' (L++[e])∧Fr H o H' o' [q]:=by
 have fN:aA H j 0 13=some (aT e s):=by simp[aA,hj]
 obtain⟨sa,sm,esl⟩:=hs.isSlice;have kA:=Gq (e,s) _ _ _ esl;rcases h with⟨rfl,rfl⟩|⟨i,cap,rest,ty,es,rfl,h2,rfl,h4,h5,h6⟩
 ·have f:Fr H o (H.new ⟨aT e s,tE,13,false⟩) (o.up H.length q) [q]:=(Fr.refl _ _ _).new _ _;refine⟨.slice (some ⟨H.length,0,none⟩) 1 1,H.new ⟨aT e s,tE,13,false⟩,o.up H.length q,?_,.inr ⟨H.length,1,[],tE,[(e,s)],rfl,by rw[az];simp[Fun.jg],rfl,rfl,aQ,λz hz=>?_⟩,f⟩
  ·simp[cd,bp,fN]
  ·have:z=(e,s):=by simpa using hz
   subst this;exact hs.fr f (by simpa using hq)
 ·have JI:=aq h2;have GJ:=pJ es;simp only[List.length_map] at h4 hl ⊢;by_cases iN:es.length+1≤cap
  ·have Qp:bO (Fun.jg es++rest) (13*es.length) (aT e s)=Fun.jg (es++[(e,s)])++rest.drop 13:=by
    have h9:=jO (aT e s) (Fun.jg es) rest (by simp;omega)
    rw[GJ] at h9;rw[h9,pK];simp[Fun.jg]
   have ky:bG H i (0+es.length*13) (aT e s)=some (H.put i ⟨Fun.jg (es++[(e,s)])++rest.drop 13,ty,13,false⟩):=by
    simp only[bG,h2,kA];rw[if_pos (by simp[GJ];omega),show 0+es.length*13=13*es.length by omega,Qp]
   have f:Fr H o (H.put i ⟨Fun.jg (es++[(e,s)])++rest.drop 13,ty,13,false⟩) o [q]:=(Fr.refl _ _ _).put λ_=>by simp[h5]
   refine⟨.slice (some ⟨i,0,none⟩) (es.length+1) cap,_,o,?_,.inr ⟨i,cap,rest.drop 13,ty,es++[(e,s)],by simp,aH h2,by simp,by simp;omega,h5,λz hz=>?_⟩,f⟩
   ·simp only[cd,bp,Nat.one_mul];rw[if_neg (by omega)]
    simp only[fN,Option.map_some];rw[if_pos iN,if_neg (by omega)]
    simp only[h2,if_true,ky,Option.map_some]
   ·rcases List.mem_append.1 hz with hz|hz
    ·exact(h6 z hz).fr f (by simpa using hq)
    ·have:z=(e,s):=by simpa using hz
     subst this;exact hs.fr f (by simpa using hq)
  ·have hold:aA H i 0 (es.length*13)=some (Fun.jg es):=by
    simp only[aA,h2];rw[if_pos (by simp[GJ];omega),List.drop_zero,List.take_left' (by omega)]
   have f:Fr H o ((H.kill i).new ⟨Fun.jg es++aT e s,tE,13,false⟩) (o.up H.length q) [q]:=by
    have:=((Fr.refl H o [q]).kill (i:=i) (λ_=>by simp[h5])).new ⟨Fun.jg es++aT e s,tE,13,false⟩ q
    rw[dt] at this;exact this
   refine⟨.slice (some ⟨H.length,0,none⟩) (es.length+1) (es.length+1),_,o.up H.length q,?_,.inr ⟨H.length,es.length+1,[],tE,es++[(e,s)],by simp,?_,by simp,by simp,aQ,λz hz=>?_⟩,f⟩
   ·simp only[cd,bp,Nat.one_mul];rw[if_neg (by omega)]
    simp only[fN,Option.map_some];rw[if_neg iN,if_pos (by simp;omega)]
    simp only[h2];rw[if_pos (by simp[GJ];omega)]
    simp only[hold]
   ·have:=az (H:=H.kill i) (c:=⟨Fun.jg es++aT e s,tE,13,false⟩)
    rw[dt] at this;rw[pK];simpa[Fun.jg] using this
   ·rcases List.mem_append.1 hz with hz|hz
    ·exact(h6 z hz).fr f (by simpa using hq)
    ·have:z=(e,s):=by simpa using hz
     subst this;exact hs.fr f (by simpa using hq)
end
end Go.Proofs.YtjgmnoaalbbonaaGreat.Fun
end
