/- Texts of the proof of linearCut_holds, put together by a small program of ours (names shortened, spaces taken out). No condition beyond the given statement. -/
import Derived.Test.YtjgmnoaalbbonaaGreatLCT27
import Derived.Test.YtjgmnoaalbbonaaGreatLCT17
import Derived.Test.YtjgmnoaalbbonaaGreatLCT18
import Derived.Test.YtjgmnoaalbbonaaGreatLCT19
import Derived.Test.YtjgmnoaalbbonaaGreatLCT21
import Derived.Test.YtjgmnoaalbbonaaGreatLCT22
import Derived.Test.YtjgmnoaalbbonaaGreatLCT16
import Derived.Test.YtjgmnoaalbbonaaGreatLCT20
import Derived.Test.YtjgmnoaalbbonaaGreatLCT14
set_option linter.unusedVariables false
set_option linter.unusedSimpArgs false
set_option linter.unnecessarySimpa false
noncomputable section
section
namespace Go.Proofs.YtjgmnoaalbbonaaGreat.Fun
open Go Go.RowKit Go.Proofs.YtjgmnoaalbbonaaGreatA.Am
set_option maxRecDepth 10000
def iP:List (hP×Value)→List Value
 | []=>[]
 |x::l=>aM x.1 x.2++iP l
theorem nY: ∀l:List (hP×Value),(iP l).length=13*l.length
 | []=>rfl
 |x::l=>by simp only[iP,List.length_append,List.length_cons,nY l];simp;omega
theorem nZ: ∀a b:List (hP×Value),iP (a++b)=iP a++iP b
 | [],b=>rfl
 |x::a,b=>by simp only[List.cons_append,iP,nZ a b,List.append_assoc]
theorem Po: ∀{l:List (hP×Value)} {j:Nat} {x:hP×Value},l[j]? =some x→∀rest,((iP l++rest).drop (13*j)).take 13=aM x.1 x.2
 | [],j,x,h,_=>by simp at h
 |y::l,0,x,h,rest=>by
  have:y=x:=by simpa using h
  subst this;rfl
 |y::l,j+1,x,h,rest=>by
  have e:(iP (y::l)++rest).drop (13*(j+1))=(iP l++rest).drop (13*j):=by
   rw[show 13*(j+1)=13+13*j by omega, ←List.drop_drop]
   rfl
  rw[e];exact Po (by simpa using h) rest
def iW (H:aa)(o:aj)(q q2:Int)(x:Value)(L:List hP):Prop:=
 (x= .slice none 0 0∧L=[])∨∃i cap rest ty es,x= .slice (some ⟨i,0,none⟩) L.length cap∧H.get i=some ⟨iP es++rest,ty,13,false⟩∧L=es.map (λz=>z.1)∧13*L.length+rest.length=13*cap∧o i=q∧∀z∈es,gE H o q2 z.2 z.1.res.list
section
variable {H H':aa} {o o':aj} {q q2:Int} {x:Value} {L:List hP}
theorem iW.iP (h:iW H o q q2 x L):oP H o q q2 x L:=by
 rcases h with h|⟨i,cap,rest,ty,es,rfl,h2,rfl,h4,h5,h6⟩
 ·exact .inl h
 ·have hl:=nY es;simp only[List.length_map] at h4 ⊢;refine .inr (.inr ⟨i,0,cap,_,by simp,by simp;omega,h2,rfl,h5,by simp[hl],λj e he=>?_⟩)
  rw[List.getElem?_map] at he;cases hx:es[j]? with
  |none=>rw[hx] at he;cases he
  |some z=>
   rw[hx] at he;cases he;exact⟨z.2,by rw[Nat.zero_add];exact Po hx rest,h6 z (List.mem_of_getElem? hx)⟩
theorem iW.fr {ps:List Int}(h:iW H o q q2 x L)(f:Fr H o H' o' ps)(h1:q ∉ ps)(h2:q2 ∉ ps):iW H' o' q q2 x L:=by
 rcases h with h|⟨i,cap,rest,ty,es,e1,e2,e3,e4,e5,e6⟩
 ·exact .inl h
 ·exact .inr ⟨i,cap,rest,ty,es,e1,by rw[f.same i (an e2) (by rw[e5];exact h1)];exact e2,e3,e4,by rw[f.own i (an e2)];exact e5,λz hz=>(e6 z hz).fr f h2⟩
theorem iW.len (h:iW H o q q2 x L):cw x=some (cv L.length):=h.iP.len
theorem DC (x:hP×Value)(a:Option Addr)(m c:Nat)(es:x.2= .slice a m c):(aM x.1 x.2).all av=true:=by
 rw[es];rfl
theorem iW.app {j:Nat}{e:hP}{s:Value}{t tE:TypeId}(h:iW H o q q2 x L)(hj:H.get j=some ⟨aM e s,t,13,false⟩)(hs:gE H o q2 s e.res.list)(hq:q2≠q)(hl:L.length<4294967295):
  ∃x' H' o',cg tE 13 120 x (.slice (some ⟨j,0,none⟩) 1 1) H=some (x',H')∧iW H' o' q q2 x' (L++[e])∧Fr H o H' o' [q]:=by
 have iX:aw H j 0 13=some (aM e s):=by simp[aw,hj]
 obtain⟨sa,sm,esl⟩:=hs.isSlice;have jF:=DC (e,s) _ _ _ esl;rcases h with⟨rfl,rfl⟩|⟨i,cap,rest,ty,es,rfl,h2,rfl,h4,h5,h6⟩
 ·have f:Fr H o (H.new ⟨aM e s,tE,13,false⟩) (o.up H.length q) [q]:=(Fr.refl _ _ _).new _ _;refine⟨.slice (some ⟨H.length,0,none⟩) 1 1,H.new ⟨aM e s,tE,13,false⟩,o.up H.length q,?_,.inr ⟨H.length,1,[],tE,[(e,s)],rfl,by rw[ay];simp[Fun.iP],rfl,rfl,aH,λz hz=>?_⟩,f⟩
  ·simp[cg,bq,iX]
  ·have:z=(e,s):=by simpa using hz
   subst this;exact hs.fr f (by simpa using hq)
 ·have JB:=an h2;have Mw:=nY es;simp only[List.length_map] at h4 hl ⊢;by_cases ig:es.length+1≤cap
  ·have MD:bB (Fun.iP es++rest) (13*es.length) (aM e s)=Fun.iP (es++[(e,s)])++rest.drop 13:=by
    have h9:=jf (aM e s) (Fun.iP es) rest (by simp;omega)
    rw[Mw] at h9;rw[h9,nZ];simp[Fun.iP]
   have kW:bl H i (0+es.length*13) (aM e s)=some (H.put i ⟨Fun.iP (es++[(e,s)])++rest.drop 13,ty,13,false⟩):=by
    simp only[bl,h2,jF];rw[if_pos (by simp[Mw];omega),show 0+es.length*13=13*es.length by omega,MD]
   have f:Fr H o (H.put i ⟨Fun.iP (es++[(e,s)])++rest.drop 13,ty,13,false⟩) o [q]:=(Fr.refl _ _ _).put λ_=>by simp[h5]
   refine⟨.slice (some ⟨i,0,none⟩) (es.length+1) cap,_,o,?_,.inr ⟨i,cap,rest.drop 13,ty,es++[(e,s)],by simp,aD h2,by simp,by simp;omega,h5,λz hz=>?_⟩,f⟩
   ·simp only[cg,bq,Nat.one_mul];rw[if_neg (by omega)]
    simp only[iX,Option.map_some];rw[if_pos ig,if_neg (by omega)]
    simp only[h2,if_true,kW,Option.map_some]
   ·rcases List.mem_append.1 hz with hz|hz
    ·exact(h6 z hz).fr f (by simpa using hq)
    ·have:z=(e,s):=by simpa using hz
     subst this;exact hs.fr f (by simpa using hq)
  ·have hold:aw H i 0 (es.length*13)=some (Fun.iP es):=by
    simp only[aw,h2];rw[if_pos (by simp[Mw];omega),List.drop_zero,List.take_left' (by omega)]
   have f:Fr H o ((H.kill i).new ⟨Fun.iP es++aM e s,tE,13,false⟩) (o.up H.length q) [q]:=by
    have:=((Fr.refl H o [q]).kill (i:=i) (λ_=>by simp[h5])).new ⟨Fun.iP es++aM e s,tE,13,false⟩ q
    rw[dh] at this;exact this
   refine⟨.slice (some ⟨H.length,0,none⟩) (es.length+1) (es.length+1),_,o.up H.length q,?_,.inr ⟨H.length,es.length+1,[],tE,es++[(e,s)],by simp,?_,by simp,by simp,aH,λz hz=>?_⟩,f⟩
   ·simp only[cg,bq,Nat.one_mul];rw[if_neg (by omega)]
    simp only[iX,Option.map_some];rw[if_neg ig,if_pos (by simp;omega)]
    simp only[h2];rw[if_pos (by simp[Mw];omega)]
    simp only[hold]
   ·have:=ay (H:=H.kill i) (c:=⟨Fun.iP es++aM e s,tE,13,false⟩)
    rw[dh] at this;rw[nZ];simpa[Fun.iP] using this
   ·rcases List.mem_append.1 hz with hz|hz
    ·exact(h6 z hz).fr f (by simpa using hq)
    ·have:z=(e,s):=by simpa using hz
     subst this;exact hs.fr f (by simpa using hq)
end
section
variable {H H':aa} {o o':aj} {q:Int}
structure SV where
 a:Option Addr
 n:Nat
 c:Nat
abbrev SV.v (s:SV):Value:=.slice s.a s.n s.c
structure OC where
 bO:Int
 uid:Nat
 call:jn
 ah:SV
 ws:SV
abbrev pN (z:OC):List Value:=[cv z.bO,cv z.call.no,cv z.call.op.kind,cv z.call.op.key,cv z.call.op.value,.bool z.call.fO.isSome,z.ah.v,z.ws.v]
def rP:List OC→List Value
 | []=>[]
 |x::l=>pN x++rP l
theorem qy: ∀l:List OC,(rP l).length=8*l.length
 | []=>rfl
 |x::l=>by simp only[rP,List.length_append,List.length_cons,qy l];simp;omega
theorem DD: ∀a b:List OC,rP (a++b)=rP a++rP b
 | [],b=>rfl
 |x::a,b=>by simp only[List.cons_append,rP,DD a b,List.append_assoc]
theorem IS: ∀l:List OC,(rP l).all av=true
 | []=>rfl
 |x::l=>by simp only[rP,List.all_append,IS l,Bool.and_true];rfl
theorem Fj: ∀(l:List OC) (n:Nat),(rP l).drop (8*n)=rP (l.drop n)
 |l,0=>rfl
 | [],n+1=>by simp[rP]
 |x::l,n+1=>by
  rw[show 8*(n+1)=8+8*n by omega, ←List.drop_drop]
  show((rP l)).drop (8*n)=_
  rw[Fj l n];rfl
theorem Yf {l:List OC}{j:Nat}{x:OC}(h:l[j]? =some x)(rest:List Value):((rP l++rest).drop (8*j)).take 8=pN x:=by
 have hj:=(List.getElem?_eq_some_iff.1 h).1;rw[List.drop_append_of_le_length (by rw[qy];omega),Fj]
 have e:l.drop j=x::l.drop (j+1):=by
  rw[List.drop_eq_getElem_cons hj];rw[List.getElem?_eq_getElem hj] at h;cases h;rfl
 rw[e];rfl
theorem IT: ∀{l:List OC} {j:Nat} {x:OC} (y:OC) (k:Nat) (v:Value),l[j]? =some x→k<8→(pN x).set k v=pN y→(rP l).set (8*j+k) v=rP (l.set j y)
 | [],j,x,y,k,v,h,_,_=>by simp at h
 |z::l,0,x,y,k,v,h,hk,he=>by
  have:z=x:=by simpa using h
  subst this;simp only[rP,List.set_cons_zero,Nat.mul_zero,Nat.zero_add];rw[List.set_append,if_pos (by simpa using hk),he]
 |z::l,j+1,x,y,k,v,h,hk,he=>by
  simp only[rP,List.set_cons_succ];rw[List.set_append,if_neg (by simp;omega),show 8*(j+1)+k-(pN z).length=8*j+k by simp;omega,IT y k v (by simpa using h) hk he]
def zG (H:aa)(o:aj)(q:Int)(x:Value)(l:List OC):Prop:=
 (x= .slice none 0 0∧l=[])∨∃i cap rest ty,x= .slice (some ⟨i,0,none⟩) l.length cap∧H.get i=some ⟨rP l++rest,ty,8,false⟩∧8*l.length+rest.length=8*cap∧o i=q
theorem zG.nil:zG H o q (.slice none 0 0) []:=.inl ⟨rfl,rfl⟩
theorem zG.fr {x:Value}{l:List OC}{ps:List Int}(h:zG H o q x l)(f:Fr H o H' o' ps)(hp:q ∉ ps):zG H' o' q x l:=by
 rcases h with h|⟨i,cap,rest,ty,h1,h2,h3,h4⟩
 ·exact .inl h
 ·exact .inr ⟨i,cap,rest,ty,h1,by rw[f.same i (an h2) (by rw[h4];exact hp)];exact h2,h3,by rw[f.own i (an h2)];exact h4⟩
theorem zG.isSlice {x:Value}{l:List OC}(h:zG H o q x l): ∃a c,x= .slice a l.length c:=by
 rcases h with⟨rfl,rfl⟩|⟨i,cap,rest,ty,rfl,_⟩
 ·exact⟨_,_,rfl⟩
 ·exact⟨_,_,rfl⟩
theorem zG.len {x:Value}{l:List OC}(h:zG H o q x l):cw x=some (cv l.length):=by
 obtain⟨a,c,rfl⟩:=h.isSlice;rfl
theorem zG.jE {x:Value}{l:List OC}(h:zG H o q x l):jE x x=true:=by
 rcases h with⟨rfl,rfl⟩|⟨i,cap,rest,ty,rfl,_⟩
 ·rfl
 ·simp[Go.Proofs.YtjgmnoaalbbonaaGreatA.Am.jE,pa]
def aaZ (H:aa)(x:Value)(l:List OC):Prop:=∃a c,x= .slice a l.length c∧bq H 8 l.length x=some (rP l)
theorem zG.src {x:Value}{l:List OC}(h:zG H o q x l):aaZ H x l:=by
 rcases h with⟨rfl,rfl⟩|⟨i,cap,rest,ty,rfl,h2,h3,h4⟩
 ·exact⟨_,_,rfl,rfl⟩
 ·refine⟨_,_,rfl,?_⟩;by_cases e:l.length=0
  ·have:l=[]:=by simpa using e
   subst this;rfl
  ·have l0:=qy l;simp only[bq,e,if_false,aw,h2];rw[if_pos (by rw[List.length_append];omega),List.drop_zero,List.take_left' (by omega)]
theorem zG.app {x y:Value}{l m:List OC}(t:TypeId)(h:zG H o q x l)(hy:aaZ H y m)(hb:l.length+m.length≤4294967296):
  ∃x' H' o',cg t 8 96 x y H=some (x',H')∧zG H' o' q x' (l++m)∧Fr H o H' o' [q]∧(∀i,(∀n k,x≠ .slice (some ⟨i,0,none⟩) n k)→i<H.length→H'[i]? =H[i]? ∧∀n k,x'≠ .slice (some ⟨i,0,none⟩) n k):=by
 obtain⟨b,c,rfl,hc⟩:=hy;by_cases hm:m=[]
 ·subst hm;refine⟨x,H,o,?_,by simpa using h,.refl _ _ _,λi hi _=>⟨rfl,hi⟩⟩
  rcases h with⟨rfl,rfl⟩|⟨i,cap,rest,ty,rfl,h2,h3,h4⟩
  ·simp only[cg,hc,Option.map_some];simp
  ·simp only[cg,hc,Option.map_some];rw[if_pos (by simp;omega)];simp
 have D6:m.length≠0:=by simpa using hm
 have lm:=qy m;rcases h with⟨rfl,rfl⟩|⟨i,cap,rest,ty,rfl,h2,h3,h4⟩
 ·refine⟨.slice (some ⟨H.length,0,none⟩) m.length m.length,H.new ⟨rP m,t,8,false⟩,o.up H.length q,?_,?_,(Fr.refl _ _ _).new _ _,λi _ hi=>⟨dC hi,λn k e=>by cases e;omega⟩⟩
  ·simp only[cg,hc,Option.map_some];rw[if_neg (by omega),if_pos (by simp;simp at hb;omega)]
   simp
  ·exact .inr ⟨H.length,m.length,[],t,by simp,by simpa using ay,by simp,aH⟩
 ·have hql:=an h2;have ll:=qy l;by_cases ig:l.length+m.length≤cap
  ·refine⟨.slice (some ⟨i,0,none⟩) (l++m).length cap,H.put i ⟨rP (l++m)++rest.drop (8*m.length),ty,8,false⟩,o,?_,?_,(Fr.refl _ _ _).put (λ_=>by simp[h4]),λj hj _=>⟨db (by rintro rfl;exact hj _ _ rfl),λn k e=>by cases e;exact hj _ _ rfl⟩⟩
   ·simp only[cg,hc,Option.map_some];rw[if_pos ig,if_neg D6];simp only[h2,if_true,bl];rw[if_pos (by simp only[IS,List.length_append,lm,ll,Bool.not_false,Bool.true_and,Bool.and_true,decide_eq_true_eq];omega)]
    have e:=jf (rP m) (rP l) rest (by rw[lm];omega)
    rw[ll,lm] at e;simp only[Nat.zero_add,show l.length*8=8*l.length by omega,e,Option.map_some,DD,List.length_append]
   ·exact .inr ⟨i,cap,rest.drop (8*m.length),ty,rfl,aD h2,by simp;omega,h4⟩
  ·refine⟨.slice (some ⟨H.length,0,none⟩) (l++m).length (l++m).length,(H.kill i).new ⟨rP (l++m),t,8,false⟩,o.up H.length q,?_,?_,?_,?_⟩
   ·simp only[cg,hc,Option.map_some];rw[if_neg ig,if_pos (by simp;omega)]
    simp only[h2];rw[if_pos (by simp[ll];omega)]
    have e:aw H i 0 (l.length*8)=some (rP l):=by
     simp only[aw,h2];rw[if_pos (by rw[List.length_append];omega),List.drop_zero,List.take_left' (by omega)]
    simp only[e,DD,List.length_append]
   ·have:=ay (H:=H.kill i) (c:=⟨rP (l++m),t,8,false⟩)
    rw[dh] at this;exact .inr ⟨H.length,(l++m).length,[],t,rfl,by simpa using this,by simp,aH⟩
   ·have:=((Fr.refl H o [q]).kill (i:=i) (λ_=>by simp[h4])).new ⟨rP (l++m),t,8,false⟩ q
    rw[dh] at this;exact this
   ·intro j hj z9;exact⟨by rw[dC (by rw[dh];exact z9),mS (by rintro rfl;exact hj _ _ rfl)],λn k e=>by cases e;omega⟩
theorem zG.idx {x:Value}{l:List OC}(h:zG H o q x l){j:Nat}{z:OC}(hj:l[j]? =some z):
  ∃i b,(∀H',cq 8 x (cv j) H'=some (.pointer (some ⟨i,8*j,none⟩),H'))∧H.get i=some b∧o i=q∧(∀k,k<8→b.cells[8*j+k]? =(pN z)[k]?)∧b.ro=false∧8*j+8≤b.cells.length∧
   ∀(k:Nat) (v:Value) (z':OC),k<8→(pN z).set k v=pN z'→zG (H.put i {b with cells:=b.cells.set (8*j+k) v}) o q x (l.set j z'):=by
 have z9:j<l.length:=(List.getElem?_eq_some_iff.1 hj).1;rcases h with⟨rfl,rfl⟩|⟨i,cap,rest,ty,rfl,h2,h3,h4⟩
 ·simp at z9
 ·have hl:=qy l;have TV:=Yf hj rest;refine⟨i,_,λH'=>?_,h2,h4,λk hk=>?_,rfl,by simp;omega,λk v z' hk he=>.inr ⟨i,cap,rest,ty,by simp,?_,by simpa using h3,h4⟩⟩
  ·simp only[cq];rw[if_pos (by constructor<;>omega)];simp<;>omega
  ·rw[←TV,List.getElem?_take,if_pos hk,List.getElem?_drop]
  ·have:(rP l++rest).set (8*j+k) v=rP (l.set j z')++rest:=by
    rw[List.set_append,if_pos (by rw[hl];omega),IT z' k v hj hk he]
   simp only[this];exact aD h2
end
end Go.Proofs.YtjgmnoaalbbonaaGreat.Fun
namespace Go.Proofs.YtjgmnoaalbbonaaGreat.Fun
open Go Go.RowKit Go.Proofs.YtjgmnoaalbbonaaGreatA.Am
set_option maxRecDepth 10000
def SE (H:aa)(o:aj)(u:Nat)(ws:Value)(ms:List PL):Prop:=
 ∃wl b,Sl H o (-1000-u) ws wl b∧wl.length=ms.length∧∀(i:Nat) (v:Value) (m:PL),wl[i]? =some v→ms[i]? =some m→gE H o (-44) v m
theorem SE.fr {H H':aa}{o o':aj}{u:Nat}{ws:Value}{ms:List PL}{ps:List Int}(h:SE H o u ws ms)(f:Fr H o H' o' ps)(h1:(-1000-(u:Int)) ∉ ps)(h2:(-44:Int) ∉ ps):SE H' o' u ws ms:=by
 obtain⟨wl,b,g1,g2,g3⟩:=h;exact⟨wl,b,g1.fr f h1,g2,λi v m e1 e2=>(g3 i v m e1 e2).fr f h2⟩
structure OpR (H:aa) (o:aj) (ms:List PL) (z:OC):Prop where
 was:SE H o z.uid z.ws.v (ms.drop z.call.Fa)
 fO: ∀a,z.call.fO=some a→gE H o (-44) z.ah.v a∧AJ (bd a)∧a.length≤4194303
 kind:1≤z.call.op.kind∧z.call.op.kind≤10
theorem OpR.fr {H H':aa}{o o':aj}{ms:List PL}{z:OC}{ps:List Int}(h:OpR H o ms z)(f:Fr H o H' o' ps)(h1:(-1000-(z.uid:Int)) ∉ ps)(h2:(-44:Int) ∉ ps):OpR H' o' ms z:=
 ⟨h.was.fr f h1 h2,λa ha=>⟨(h.fO a ha).1.fr f h2,(h.fO a ha).2⟩,h.kind⟩
section
variable {G:ae} {H:aa} {o:aj} {q:Int} {n:Nat}
end
end Go.Proofs.YtjgmnoaalbbonaaGreat.Fun
namespace Go.Proofs.YtjgmnoaalbbonaaGreat.Fun
open Go Go.RowKit Go.Proofs.YtjgmnoaalbbonaaGreatA.Am
set_option maxRecDepth 10000
section
variable {G:ae} {H:aa} {o:aj} {q:Int} {n w:Nat}
end
end Go.Proofs.YtjgmnoaalbbonaaGreat.Fun
namespace Go.Proofs.YtjgmnoaalbbonaaGreat.Fun
open Go Go.RowKit Go.Proofs.YtjgmnoaalbbonaaGreatA.Am
set_option maxRecDepth 10000
structure Yg (H:aa) (o:aj) (w:Nat) (sm:SV) (ox:Value) (l:List OC) (ty:TypeId) (S:AM):Prop where
 jD:H.get w=some ⟨[sm.v,ox,cv S.inv],ty,1,false⟩
 ow:o w= -40
 map:gE H o (-44) sm.v S.now
 ops:zG H o (-41) ox l
 each: ∀z∈l,OpR H o S.maps z
 calls:S.calls=l.map λz=>(z.bO,z.call)
 nd:(l.map λz=>z.uid).Nodup
 ne:S.maps≠[]
 TP: ∀m∈S.maps,AJ (bd m)
 Fa: ∀z∈l,z.call.Fa≤S.maps.length
theorem Yg.fr {H H':aa}{o o':aj}{w:Nat}{sm:SV}{ox:Value}{l:List OC}{ty:TypeId}{S:AM}(h:Yg H o w sm ox l ty S)(f:Fr H o H' o' []):Yg H' o' w sm ox l ty S:=
 ⟨by rw[f.same w (an h.jD) (by simp)];exact h.jD,by rw[f.own w (an h.jD)];exact h.ow,h.map.fr f (by simp),h.ops.fr f (by simp),λz hz=>(h.each z hz).fr f (by simp) (by simp),h.calls,h.nd,h.ne,h.TP,h.Fa⟩
section
variable {G:ae} {H:aa} {o:aj} {q:Int} {n w:Nat} {S:AM} {e:hP} {x:Value}
end
end Go.Proofs.YtjgmnoaalbbonaaGreat.Fun
namespace Go.Proofs.YtjgmnoaalbbonaaGreat.Fun
open Go Go.RowKit Go.Proofs.YtjgmnoaalbbonaaGreatA.Am
set_option maxRecDepth 10000
theorem zG.relabel {H:aa}{o o':aj}{q q':Int}{x:Value}{l:List OC}(h:zG H o q x l)(k: ∀i,i<H.length→o i=q→o' i=q'):zG H o' q' x l:=by
 rcases h with h|⟨i,cap,rest,ty,h1,h2,h3,h4⟩
 ·exact .inl h
 ·exact .inr ⟨i,cap,rest,ty,h1,h2,h3,k i (an h2) h4⟩
section
variable {G:ae} {H:aa} {o:aj} {q:Int} {n w:Nat} {S:AM} {e:hP} {x:Value}
end
end Go.Proofs.YtjgmnoaalbbonaaGreat.Fun
namespace Go.Proofs.YtjgmnoaalbbonaaGreat.Fun
open Go Go.RowKit Go.Proofs.YtjgmnoaalbbonaaGreatA.Am
set_option maxRecDepth 10000
section
variable {G:ae} {H:aa} {o:aj} {q q2:Int} {n:Nat} {x:Value} {L:List hP} {B:Nat}
end
section
variable {G:ae} {H H':aa} {o o':aj} {p m:Nat} {K:aa→aj→Prop}
def cI (ps:List Int)(K:aa→aj→Prop):Prop:=∀H o H' o',K H o→Fr H o H' o' ps→K H' o'
theorem cI.of {ps qs:List Int}(h:cI qs K)(k: ∀i∈ps,i∈qs):cI ps K:=λH o H' o' a f=>h H o H' o' a (f.wk k)
theorem cI.and {ps:List Int}{L:aa→aj→Prop}(h:cI ps K)(k:cI ps L):cI ps λH o=>K H o∧L H o:=λH o H' o' a f=>⟨h H o H' o' a.1 f,k H o H' o' a.2 f⟩
theorem cI.base {ps qs:List Int}{B:aa}{b:aj}(k: ∀i∈ps,i∈qs):cI ps λH o=>Fr B b H o qs:=λH o H' o' a f=>a.trans f (λ_ h=>h) k
theorem cI.ints {ps:List Int}{q:Int}{x:Value}{l:List Int}(h:q ∉ ps):cI ps λH o=>fp H o q x l:=λH o H' o' a f=>a.fr f h
theorem cI.kJ {ps:List Int}{q:Int}{x:Value}{l:PL}(h:q ∉ ps):cI ps λH o=>gE H o q x l:=λH o H' o' a f=>a.fr f h
theorem cI.true {ps:List Int}:cI ps λ_ _=>True:=λ_ _ _ _ _ _=>trivial
def zH (H:aa)(o:aj)(p m:Nat):Prop:=
 ∃(tape w:Value) (T W:List Int) (i:Nat) (nk na nx ny rec laid:Int) (ty:TypeId),
  H.get p=some ⟨[tape,cv i,.bool (decide (m=0)),cv nk,cv na,cv nx,cv ny,w,cv rec,cv laid],ty,1,false⟩∧o p=p∧
  fp H o (-50) tape T∧T.length≤1048576∧fp H o (-51) w W∧(m≠0→i≤T.length∧m=T.length-i+1)
theorem zH.fr {ps:List Int}(h:zH H o p m)(f:Fr H o H' o' ps)(h1:(p:Int) ∉ ps)(h2:(-50:Int) ∉ ps)(h3:(-51:Int) ∉ ps):zH H' o' p m:=by
 obtain⟨tape,w,T,W,i,nk,na,nx,ny,rec,laid,ty,g,ho,ht,hT,hw,hi⟩:=h;exact⟨tape,w,T,W,i,nk,na,nx,ny,rec,laid,ty,by rw[f.same p (an g) (by rw[ho];exact h1)];exact g,by rw[f.own p (an g)];exact ho,ht.fr f h2,hT,hw.fr f h3,hi⟩
def J (K:aa→aj→Prop)(p m:Nat)(H:aa):Prop:=cI [(p:Int)] K∧∃o,zH H o p m∧K H o
def JW (K:aa→aj→Prop)(p m:Nat)(H:aa)(w:Value):Prop:=cI [(p:Int)] K∧∃o,zH H o p m∧K H o∧∃l,fp H o (-51) w l
theorem J.mono {L:aa→aj→Prop}(h:J K p m H)(hL:cI [(p:Int)] L)(k: ∀o,K H o→L H o):J L p m H:=by
 obtain⟨hK,o,h1,h2⟩:=h;exact⟨hL,o,h1,k o h2⟩
theorem J.Pp (h:J K p m H):JW K p m H (.slice none 0 0):=by
 obtain⟨hK,o,h1,h2⟩:=h;exact⟨hK,o,h1,h2,[],.nil⟩
theorem J.off (h:J K p m H):aq (.pointer (some ⟨p,2,none⟩)) H=some (.bool (decide (m=0))):=by
 obtain⟨hK,o,⟨tape,w,T,W,i,nk,na,nx,ny,rec,laid,ty,g,_⟩,_⟩:=h;exact ak p 2 H g
theorem Pq:aA (pv p) H=some (pv p,H):=rfl
abbrev uH (k a x y:Int)(w:Value):Value:=.agg #[cv k,cv a,cv x,cv y,w]
theorem Pr (k a x y:Int){b:Option Addr}{n c:Nat}(H:aa):cO 180 (uH k a x y (.slice b n c)) H=some (pv H.length,H.new ⟨[cv k,cv a,cv x,cv y,.slice b n c],180,1,false⟩):=by
 simp[cO,Value.cells,av,aO]
theorem Fk {k a x y:Int}{w:Value}(h:JW K p m H w):
  bA (run G) 163 [pv p,uH k a x y w] H λv H'=>∃z,v=cv z∧J K p (m-1) H':=by
 obtain⟨hK,o,⟨tape,w0,T,W,i,nk,na,nx,ny,rec,laid,ty,g,ho,ht,hT,hw0,hi⟩,hk,l,hw⟩:=h;obtain⟨wb,wc,ew⟩:=hw.1.isSlice;obtain⟨tb,tc,et⟩:=ht.1.isSlice;obtain⟨H1,e1⟩: ∃z,z=H.new ⟨[cv k,cv a,cv x,cv y,w],180,1,false⟩:=⟨_,rfl⟩;have bx:=Pr k a x y (b:=wb) (n:=l.length) (c:=wc) H;rw[←ew, ←e1] at bx;have hp:=an g;obtain⟨o1,eo1⟩: ∃z,z=o.up H.length (-9):=⟨_,rfl⟩;have f1:Fr H o H1 o1 []:=by rw[e1,eo1];exact(Fr.refl H o []).new _ _
 have g1:H1.get p=some ⟨[tape,cv i,.bool (decide (m=0)),cv nk,cv na,cv nx,cv ny,w0,cv rec,cv laid],ty,1,false⟩:=by rw[e1,cD hp];exact g
 have gb:H1.get H.length=some ⟨[cv k,cv a,cv x,cv y,w],180,1,false⟩:=by rw[e1];exact ay
 have Qt:o1 p=p:=by rw[f1.own p hp];exact ho
 have L2:=ak p 2 H1 g1;have L1:=ak p 1 H1 g1;have L0:=ak p 0 H1 g1;simp only[List.getElem?_cons_succ,List.getElem?_cons_zero] at L2 L1 L0;have tl:=ht.1.len;by_cases m0:m=0
 ·subst m0;refine bA.is (v:=cv 0) (H':=H1) (λn=>?_) ⟨0,rfl,hK,o1,⟨tape,w0,T,W,i,nk,na,nx,ny,rec,laid,ty,g1,Qt,ht.fr f1 (by simp),hT,hw0.fr f1 (by simp),by simp⟩,hK _ _ _ _ hk (f1.wk (by simp))⟩
  rw[Dl];simp -implicitDefEqProofs [R8,bx,Pq,aQ,L2]
 ·obtain⟨Ms,hm⟩:=hi m0;have dm:decide (m=0)=false:=by simp[m0]
  rw[dm] at L2;by_cases eR:i<T.length
  ·have Dx:(i:Int)<T.length:=by omega
   obtain⟨H2,e2⟩: ∃z,z=H1.put p ⟨[tape,cv (i+1:Nat),.bool (decide (m=0)),cv nk,cv na,cv nx,cv ny,w0,cv rec,cv laid],ty,1,false⟩:=⟨_,rfl⟩;have FY:IntKind.i64.wrap ((i:Int)+1)=((i+1:Nat):Int):=by rw[kr (by omega)];omega
   have Ag:IntKind.i64.wrap (((i+1:Nat):Int)-1)=(i:Int):=by rw[kr (by omega)];omega
   have S1:=jM p 1 ((i+1:Nat):Int) H1 g1 rfl (by simp)
   simp only[List.set_cons_succ,List.set_cons_zero] at S1;rw[←e2] at S1;have g2:H2.get p=some ⟨[tape,cv (i+1:Nat),.bool (decide (m=0)),cv nk,cv na,cv nx,cv ny,w0,cv rec,cv laid],ty,1,false⟩:=by rw[e2];exact aD g1
   have f2:Fr H o H2 o1 [(p:Int)]:=by rw[e2];exact(f1.wk (by simp)).put λ_=>by simp[ho]
   have Ps:=ht.fr f2 (by simp)
   obtain⟨q,off,b,qo,hb,hbc⟩:=Ps.1.idx eR;have L1':=ak p 1 H2 g2;have L0':=ak p 0 H2 g2;simp only[List.getElem?_cons_succ,List.getElem?_cons_zero] at L1' L0';have LT:=ak q off H2 hb;rw[hbc] at LT;refine bA.is (v:=cv (T.getD i 0)) (H':=H2) (λn=>?_) ⟨_,rfl,hK,o1,⟨tape,w0,T,W,i+1,nk,na,nx,ny,rec,laid,ty,by rw[g2];congr 3;simp;omega,Qt,Ps,hT,hw0.fr f2 (by simp),λ_=>by omega⟩,hK _ _ _ _ hk f2⟩
   rw[Dl];simp -implicitDefEqProofs [-Int.natCast_add,R8,bx,Pq,aQ,L2,L1,L0,tl,bT,Dx,gS,qc,FY,Ag,S1,L1',L0',qo,LT]
  ·have Dx: ¬(i:Int)<T.length:=by omega
   obtain⟨H2,e2⟩: ∃z,z=H1.put p ⟨[tape,cv i,.bool true,cv nk,cv na,cv nx,cv ny,w0,cv rec,cv laid],ty,1,false⟩:=⟨_,rfl⟩;have S1:=kE p 2 (.bool true) H1 g1 rfl (by simp) rfl rfl rfl
   simp only[List.set_cons_succ,List.set_cons_zero] at S1;rw[←e2] at S1;have g2:H2.get p=some ⟨[tape,cv i,.bool true,cv nk,cv na,cv nx,cv ny,w0,cv rec,cv laid],ty,1,false⟩:=by rw[e2];exact aD g1
   have gb2:H2.get H.length=some ⟨[cv k,cv a,cv x,cv y,w],180,1,false⟩:=by rw[e2,aS (by omega)];exact gb
   have LB:cK 5 (pv H.length) H2=some (uH k a x y w):=by simp[cK,aw,gb2]
   obtain⟨H3,e3⟩: ∃z,z=H2.put p ⟨[tape,cv i,.bool true,cv k,cv a,cv x,cv y,w,cv rec,cv laid],ty,1,false⟩:=⟨_,rfl⟩;have S2:bS 5 (.pointer (some ⟨p,3,none⟩)) (uH k a x y w) H2=some (undef,H3):=by
    subst ew;simp[bS,bl,g2,Value.cells,known,av,bB,e3]
   have g3:H3.get p=some ⟨[tape,cv i,.bool true,cv k,cv a,cv x,cv y,w,cv rec,cv laid],ty,1,false⟩:=by rw[e3];exact aD g2
   have f3:Fr H o H3 o1 [(p:Int)]:=by rw[e3,e2];exact((f1.wk (by simp)).put λ_=>by simp[ho]).put λ_=>by simp[ho]
   refine bA.is (v:=cv 0) (H':=H3) (λn=>?_) ⟨_,rfl,hK,o1,⟨tape,w,T,l,i,k,a,x,y,rec,laid,ty,by rw[g3];congr 3;simp;omega,Qt,ht.fr f3 (by simp),hT,hw.fr f3 (by simp),λ_=>by omega⟩,hK _ _ _ _ hk f3⟩
   rw[Dl];simp -implicitDefEqProofs [R8,bx,Pq,aQ,L2,L1,L0,tl,bT,Dx,S1,LB,S2]
theorem Yh (a:Int):aE Tryz.prog 180 [(0,cv 1),(1,cv a)]=some (uH 1 a 0 0 (.slice none 0 0)):=by kernel_rfl
theorem Yi (a x:Int):aE Tryz.prog 180 [(0,cv 2),(1,cv a),(2,cv x)]=some (uH 2 a x 0 (.slice none 0 0)):=by kernel_rfl
theorem Yj (a x y:Int):aE Tryz.prog 180 [(0,cv 3),(1,cv a),(2,cv x),(3,cv y)]=some (uH 3 a x y (.slice none 0 0)):=by kernel_rfl
theorem Yk (a x:Int):aE Tryz.prog 180 [(0,cv 4),(1,cv a),(2,cv x)]=some (uH 4 a x 0 (.slice none 0 0)):=by kernel_rfl
theorem Yl (b:Option Addr)(n c:Nat):aE Tryz.prog 180 [(0,cv 5),(4,.slice b n c)]=some (uH 5 0 0 0 (.slice b n c)):=by kernel_rfl
abbrev zI (H:aa):Value→aa→Prop:=λv H'=>(∃z,v=cv z)∧H'=H
abbrev aa0 (H:aa):Value→aa→Prop:=λv H'=>(∃z,v= .bool z)∧H'=H
abbrev Un (K:aa→aj→Prop)(p c:Nat):Value→aa→Prop:=λv H'=>∃m',J K p m' H'∧m'≤c
abbrev Qf (K:aa→aj→Prop)(p c:Nat):Value→aa→Prop:=λv H'=>∃z,v=cv z∧∃m',J K p m' H'∧m'≤c
abbrev SF (K:aa→aj→Prop)(p c:Nat):Value→aa→Prop:=λv H'=>∃z,v= .bool z∧∃m',J K p m' H'∧m'≤c
abbrev Fl (K:aa→aj→Prop)(p c:Nat):Value→aa→Prop:=λv H'=>∃z b,v= .tuple #[cv z,.bool b]∧∃m',J K p m' H'∧m'≤c
abbrev SG (K:aa→aj→Prop)(p c:Nat):Value→aa→Prop:=λv H'=>∃z b,v= .tuple #[cv z,cv b]∧∃m',J K p m' H'∧m'≤c
section
variable {α:Type} {k:Nat→Value→aa→Option α} {Q:α→Prop} {t:TypeId} {a b:Int} {P:Program} {c:Nat} {C:Nat→ae} {f:Nat} {args:List Value}
theorem Ev.lss (h1:a<b→Ev (λn=>k n (.bool true) H) Q)(h2: ¬a<b→Ev (λn=>k n (.bool false) H) Q):Ev (λn=>af (pS (ai P .lss t (cv a) (cv b)) H) (k n)) Q:=by
 rw[bT];by_cases h:a<b
 ·simpa[h] using h1 h
 ·simpa[h] using h2 h
theorem Ev.gtr (h1:a>b→Ev (λn=>k n (.bool true) H) Q)(h2: ¬a>b→Ev (λn=>k n (.bool false) H) Q):Ev (λn=>af (pS (ai P .gtr t (cv a) (cv b)) H) (k n)) Q:=by
 rw[gP];by_cases h:a>b
 ·have h':b<a:=h;simpa[h'] using h1 h
 ·have h': ¬b<a:=h;simpa[h'] using h2 h
theorem Ev.leq (h1:a≤b→Ev (λn=>k n (.bool true) H) Q)(h2: ¬a≤b→Ev (λn=>k n (.bool false) H) Q):Ev (λn=>af (pS (ai P .leq t (cv a) (cv b)) H) (k n)) Q:=by
 rw[kO];by_cases h:a≤b
 ·simpa[h] using h1 h
 ·simpa[h] using h2 h
theorem Ev.geq (h1:a≥b→Ev (λn=>k n (.bool true) H) Q)(h2: ¬a≥b→Ev (λn=>k n (.bool false) H) Q):Ev (λn=>af (pS (ai P .geq t (cv a) (cv b)) H) (k n)) Q:=by
 rw[qa];by_cases h:a≥b
 ·have h':b≤a:=h;simpa[h'] using h1 h
 ·have h': ¬b≤a:=h;simpa[h'] using h2 h
theorem Ev.eql (h1:a=b→Ev (λn=>k n (.bool true) H) Q)(h2: ¬a=b→Ev (λn=>k n (.bool false) H) Q):Ev (λn=>af (pS (ai P .eql t (cv a) (cv b)) H) (k n)) Q:=by
 rw[cW];by_cases h:a=b
 ·have e:decide (a=b)=true:=by simpa using h
  rw[e];exact h1 h
 ·have e:decide (a=b)=false:=by simpa using h
  rw[e];exact h2 h
theorem Ev.neq (h1: ¬a=b→Ev (λn=>k n (.bool true) H) Q)(h2:a=b→Ev (λn=>k n (.bool false) H) Q):Ev (λn=>af (pS (ai P .neq t (cv a) (cv b)) H) (k n)) Q:=by
 rw[gQ];by_cases h:a=b
 ·have e:decide (a=b)=true:=by simpa using h
  rw[e];exact h2 h
 ·have e:decide (a=b)=false:=by simpa using h
  rw[e];exact h1 h
theorem Ev.boo {x:Option Value}{d:Bool}(hx:x=some (.bool d))(h1:d=true→Ev (λn=>k n (.bool true) H) Q)(h2:d=false→Ev (λn=>k n (.bool false) H) Q):Ev (λn=>af (pS x H) (k n)) Q:=by
 subst hx;cases d with
 |true=>exact h1 rfl
 |false=>exact h2 rfl
theorem Ev.off (h:J K p m H)(h1:m=0→Ev (λn=>k n (.bool true) H) Q)(h2:m≠0→Ev (λn=>k n (.bool false) H) Q):Ev (λn=>af (pS (aq (.pointer (some ⟨p,2,none⟩)) H) H) (k n)) Q:=
 Ev.boo h.off (λe=>h1 (by simpa using e)) (λe=>h2 (by simpa using e))
theorem Ev.wd (h:bA C f args H λw H'=>JW K p m H' w)(hk: ∀w H',JW K p m H' w→Ev (λn=>k n w H') Q):Ev (λn=>af (C n f args H) (k n)) Q:=Ev.call h hk
theorem Ev.az (h:bA C f args H (zI H))(hk: ∀z,Ev (λn=>k n (cv z) H) Q):Ev (λn=>af (C n f args H) (k n)) Q:=
 Ev.call h λv H' hq=>by obtain⟨⟨z,rfl⟩,rfl⟩:=hq;exact hk z
theorem Ev.num (h:bA C f args H (Qf K p c))(hk: ∀z H' m',J K p m' H'→m'≤c→Ev (λn=>k n (cv z) H') Q):Ev (λn=>af (C n f args H) (k n)) Q:=
 Ev.call h λv H' hq=>by obtain⟨z,rfl,m',h1,h2⟩:=hq;exact hk z H' m' h1 h2
theorem Ev.bool (h:bA C f args H (SF K p c))(hk: ∀z H' m',J K p m' H'→m'≤c→Ev (λn=>k n (.bool z) H') Q):Ev (λn=>af (C n f args H) (k n)) Q:=
 Ev.call h λv H' hq=>by obtain⟨z,rfl,m',h1,h2⟩:=hq;exact hk z H' m' h1 h2
theorem Ev.un (h:bA C f args H (Un K p c))(hk: ∀v H' m',J K p m' H'→m'≤c→Ev (λn=>k n v H') Q):Ev (λn=>af (C n f args H) (k n)) Q:=
 Ev.call h λv H' hq=>by obtain⟨m',h1,h2⟩:=hq;exact hk v H' m' h1 h2
theorem Ev.dq (h:bA C f args H (Fl K p c))(hk: ∀z b H' m',J K p m' H'→m'≤c→Ev (λn=>k n (.tuple #[cv z,.bool b]) H') Q):Ev (λn=>af (C n f args H) (k n)) Q:=
 Ev.call h λv H' hq=>by obtain⟨z,b,rfl,m',h1,h2⟩:=hq;exact hk z b H' m' h1 h2
theorem Ev.jt (h:bA C f args H (SG K p c))(hk: ∀z b H' m',J K p m' H'→m'≤c→Ev (λn=>k n (.tuple #[cv z,cv b]) H') Q):Ev (λn=>af (C n f args H) (k n)) Q:=
 Ev.call h λv H' hq=>by obtain⟨z,b,rfl,m',h1,h2⟩:=hq;exact hk z b H' m' h1 h2
end
theorem Ev.BA {α:Type}{step:Nat→List Value→aa→aV}{kk:Nat→bJ→List Value→aa→Option α}{Q:α→Prop}(I:List Value→Prop)(R:bJ→List Value→Prop){m:Nat}{vs:List Value}(hj:J K p m H)(hi:I vs)(h: ∀m1 vs H1,J K p m1 H1→m1≤m→I vs→Ev (λn=>step n vs H1) λr=>(r.1= .normal∧(∃m2,J K p m2 r.2.2∧m2<m1)∧I r.2.1)∨(r.1≠ .normal∧(∃m2,J K p m2 r.2.2∧m2≤m1)∧R r.1 r.2.1))(hk: ∀e vs m1 H1,J K p m1 H1→m1≤m→R e vs→Ev (λn=>kk n e vs H1) Q):Ev (λn=>cN (iter n (step n) vs H) (kk n)) Q:=by
 refine Ev.loop (k:=m) (λk vs H1=>J K p k H1∧k≤m∧I vs) (λr=>(∃m2,J K p m2 r.2.2∧m2≤m)∧R r.1 r.2.1) ⟨hj,Nat.le_refl _,hi⟩ ?_ ?_
 ·rintro k vs H1 ⟨h1,h2,h3⟩;refine Ev.mono (h k vs H1 h1 h2 h3) ?_;rintro⟨e,iM,H2⟩ (⟨g1,⟨m2,g2,g3⟩,g4⟩|⟨g1,⟨m2,g2,g3⟩,g4⟩)
  ·exact .inl ⟨g1,m2,g3,g2,by omega,g4⟩
  ·exact .inr ⟨g1,⟨m2,g2,by omega⟩,g4⟩
 ·rintro e vs H1 ⟨⟨m2,g2,g3⟩,g4⟩;exact hk e vs m2 H1 g2 g3 g4
theorem acX (t:TypeId)(a:Int):ai Tryz.prog .rem t (cv a) (cv 8)=some (cv (a.tmod 8)):=sO _ a 8 (by decide)
theorem acY (t:TypeId)(a:Int):ai Tryz.prog .quo t (cv a) (cv 8)=some (cv (IntKind.i64.wrap (a.tdiv 8))):=kd _ a 8 (by decide)
theorem acZ (t:TypeId)(a:Int):ai Tryz.prog .quo t (cv a) (cv 4)=some (cv (IntKind.i64.wrap (a.tdiv 4))):=kd _ a 4 (by decide)
theorem cE (h:J K p m H)(a:Int):bA (run G) 146 [pv p,cv a] H (Qf K p (m-1)):=by
 refine Ev.up (t:=λn=>Xr (run G n) n (pv p) (cv a) H) ?_ λn=>R3 ..
 simp -implicitDefEqProofs only[Xr,Yh,l6,dH];refine Ev.call (Fk h.Pp) ?_;rintro v H' ⟨z,rfl,hj⟩;exact Ev.ret ⟨_,rfl,_,hj,Nat.le_refl _⟩
theorem cz (h:J K p m H)(a x:Int):bA (run G) 153 [pv p,cv a,cv x] H (Un K p (m-1)):=by
 refine Ev.up (t:=λn=>Xf (run G n) n (pv p) (cv a) (cv x) H) ?_ λn=>RY ..
 simp -implicitDefEqProofs only[Xf,Yi,l6,dH];refine Ev.call (Fk h.Pp) ?_;rintro v H' ⟨z,rfl,hj⟩;exact Ev.ret ⟨_,hj,Nat.le_refl _⟩
theorem eM (h:J K p m H)(a x:Int):bA (run G) 158 [pv p,cv a,cv x] H (Qf K p (m-1)):=by
 refine Ev.up (t:=λn=>VZ (run G n) n (pv p) (cv a) (cv x) H) ?_ λn=>Rg ..
 simp -implicitDefEqProofs only[VZ,Yk,l6,dH];refine Ev.call (Fk h.Pp) ?_;rintro v H' ⟨z,rfl,hj⟩;exact Ev.ret ⟨_,rfl,_,hj,Nat.le_refl _⟩
theorem eN (h:J K p m H)(a x y:Int):bA (run G) 147 [pv p,cv a,cv x,cv y] H (SF K p (m-1)):=by
 refine Ev.up (t:=λn=>Xe (run G n) n (pv p) (cv a) (cv x) (cv y) H) ?_ λn=>RX ..
 simp -implicitDefEqProofs only[Xe,Yj,l6,dH];refine Ev.call (Fk h.Pp) ?_;rintro v H' ⟨z,rfl,hj⟩;simp -implicitDefEqProofs only[cW,l6,dH];exact Ev.ret ⟨_,rfl,_,hj,Nat.le_refl _⟩
theorem dc {w:Value}(h:JW K p m H w):bA (run G) 148 [pv p,w] H (Fl K p (m-1)):=by
 refine Ev.up (t:=λn=>Wd (run G n) n (pv p) w H) ?_ λn=>Rp ..
 obtain⟨b,n,c,ew⟩: ∃b n c,w= .slice b n c:=by
  obtain⟨_,o,_,_,l,hw⟩:=h;obtain⟨b,c,e⟩:=hw.1.isSlice;exact⟨b,_,c,e⟩
 subst ew;simp -implicitDefEqProofs only[Wd,Yl,l6,dH];refine Ev.call (Fk h) ?_;rintro v H' ⟨z,rfl,hj⟩;simp -implicitDefEqProofs only[gP,l6,dH];exact Ev.ret ⟨_,_,rfl,_,hj,Nat.le_refl _⟩
end
theorem sS:(∀(α:Type) (v:Value) (H:aa) (k:Value→aa→Option α),af (some (v,H)) k=k v H)∧(∀(v:Value) (H:aa),pS (some v) H=some (v,H))∧
  (∀(x:Option (Value×aa)) (H:aa),gd (some true) x H=x)∧(∀(x:Option (Value×aa)) (H:aa),gd (some false) x H=some (undef,H))∧
  (∀b w:Bool,ag (.bool b) w=some (b==w))∧(∀w:Bool,ag undef w=some false)∧
  (∀(α:Type) (x y:Option α),aR (.bool true) x y=x)∧(∀(α:Type) (x y:Option α),aR (.bool false) x y=y)∧
  (∀(b:Bool) (x y:Value) (H:aa),aI (.bool b) x y H=some (if b then x else y,H))∧(∀b:Bool,hZ .not (.bool b)=some (.bool !b))∧
  (∀(u u1 u2:Value) (H H1 H2:aa),kD (some true) (some true) (some (u,H)) (some (u1,H1)) (some (u2,H2))=(jE u u1&&jE u u2))∧
  (∀(w:Bool) (u u1 u2:Option (Value×aa)),kD (some false) (some w) u u1 u2=true)∧(∀(w:Bool) (u u1 u2:Option (Value×aa)),kD (some w) (some false) u u1 u2=true)∧(∀(k:IntKind) (a:Int),jE (.int k a) (.int k a)=true)∧
  (∀(t:TypeId) (a b:Int),ai Tryz.prog .add t (cv a) (cv b)=some (cv (IntKind.i64.wrap (a+b))))∧(∀(t:TypeId) (a b:Int),ai Tryz.prog .sub t (cv a) (cv b)=some (cv (IntKind.i64.wrap (a-b))))∧(∀(t:TypeId) (a b:Int),ai Tryz.prog .mul t (cv a) (cv b)=some (cv (IntKind.i64.wrap (a*b))))∧
  (∀(t:TypeId) (a:Int),ai Tryz.prog .rem t (cv a) (cv 8)=some (cv (a.tmod 8)))∧(∀(t:TypeId) (a:Int),ai Tryz.prog .quo t (cv a) (cv 8)=some (cv (IntKind.i64.wrap (a.tdiv 8))))∧(∀(t:TypeId) (a:Int),ai Tryz.prog .quo t (cv a) (cv 4)=some (cv (IntKind.i64.wrap (a.tdiv 4))))∧
  (∀(off p o:Nat) (H:aa),al off (.pointer (some ⟨p,o,none⟩)) H=some (.pointer (some ⟨p,o+off,none⟩),H))∧(∀(p:Nat) (H:aa),aA (pv p) H=some (pv p,H))∧
  (∀(vs:Array Value) (i:Nat) (H:aa),bP i (.tuple vs) H=(vs[i]?).map (·,H))∧(∀(α:Type) (n:Nat) (H:aa) (k:Nat→aa→Option α),pB n H k=k H.length (H.dr n))∧
  (∀(α:Type) (kb:List Value→aa→Option α) (k:bJ→List Value→aa→Option α) (vs:List Value) (H:aa),dT kb k .normal vs H=kb vs H)∧
  (∀(α:Type) (kb:List Value→aa→Option α) (k:bJ→List Value→aa→Option α) (i:Nat) (vs:List Value) (H:aa),dT kb k (.exit i) vs H=k (.exit i) vs H)∧
  (∀(α:Type) (kb:List Value→aa→Option α) (k:bJ→List Value→aa→Option α) (vs:List Value) (H:aa),dT kb k .ret vs H=k .ret vs H)∧
  (∀(α:Type) (id:Nat) (k:bJ→List Value→aa→Option α) (vs:List Value) (H:aa),dK id k .normal vs H=k .normal vs H)∧(∀(α:Type) (id:Nat) (k:bJ→List Value→aa→Option α) (vs:List Value) (H:aa),dK id k .ret vs H=k .ret vs H)∧
  (∀(α:Type) (id i:Nat) (k:bJ→List Value→aa→Option α) (vs:List Value) (H:aa),dK id k (.exit i) vs H=if i=id then k .normal vs H else k (.exit i) vs H)∧
  (∀(e:bJ) (vs:List Value) (H:aa),fin e vs H=some (e,vs,H))∧(∀(α:Type) (e:bJ) (vs:List Value) (H:aa) (k:bJ→List Value→aa→Option α),cN (some (e,vs,H)) k=k e vs H)∧
  (∀(P:Program) (rs:List ResultVar) (keep:List Nat) (e:bJ) (vs:List Value) (H:aa),eG P rs keep e vs H=match e with| .normal| .ret=>vj P rs (keep.zip vs) H| .exit _=>none)∧
  (∀(α:Type) [BEq α] [ReflBEq α] (a:α),(a==a)=true)∧(∀(α:Type) (i:Decidable True) (t e:α),@ite α True i t e=t)∧(∀(α:Type) (i:Decidable False) (t e:α),@ite α False i t e=e)∧
  ((!true)=false)∧((!false)=true)∧(∀b:Bool,(b&&b)=b)∧(∀b:Bool,(true&&b)=b)∧(∀b:Bool,(b&&true)=b)∧((false=true)=False)∧((true=false)=False)∧((true==false)=false)∧((false==true)=false)∧
  (∀(α β:Type) (a:α) (f:α→β),Option.map f (some a)=some (f a))∧(∀(α:Type) (xs:List α) (i:Nat),xs.toArray[i]? =xs[i]?)∧(∀(α:Type) (a:α) (l:List α),(a::l)[0]? =some a)∧(∀(α:Type) (a:α) (i:Nat) (l:List α),(a::l)[i+1]? =l[i]?)∧(∀n:Nat,0+n=n):=by
 refine⟨λ_ _ _ _=>rfl,λ_ _=>rfl,λ_ _=>rfl,λ_ _=>rfl,λ_ _=>rfl,λ_=>rfl,λ_ _ _=>rfl,λ_ _ _=>rfl,λ_ _ _ _=>rfl,λ_=>rfl,λ_ _ _ _ _ _=>rfl,λw _ _ _=>by cases w<;>rfl,λw _ _ _=>by cases w<;>rfl,HJ,λ_ _ _=>rfl,λ_ _ _=>rfl,λ_ _ _=>rfl,acX,acY,acZ,λ_ _ _ _=>rfl,λ_ _=>rfl,λ_ _ _=>rfl,λ_ _ _ _=>rfl,λ_ _ _ _ _=>rfl,λ_ _ _ _ _ _=>rfl,λ_ _ _ _ _=>rfl,λ_ _ _ _ _=>rfl,λ_ _ _ _ _=>rfl,λ_ _ _ _ _ _=>rfl,λ_ _ _=>rfl,λ_ _ _ _ _=>rfl,λ_ _ _ e _ _=>by cases e<;>rfl,λ_ _ _ a=>beq_self_eq_true a,λ_ i _ _=>@if_true _ i _ _,λ_ i _ _=>@if_false _ i _ _,rfl,rfl,λb=>by cases b<;>rfl,λb=>by cases b<;>rfl,λb=>by cases b<;>rfl,by simp,by simp,rfl,rfl,λ_ _ _ _=>rfl,λ_ _ _=>by simp,λ_ _ _=>rfl,λ_ _ _ _=>by simp,λn=>Nat.zero_add n⟩
end Go.Proofs.YtjgmnoaalbbonaaGreat.Fun
end
