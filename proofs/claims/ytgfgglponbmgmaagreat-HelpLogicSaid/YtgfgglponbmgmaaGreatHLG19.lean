/- Texts of the proof of helpLogic_holds, put together by a small program of ours (names shortened, spaces taken out). No condition beyond the given statement. -/
import Derived.Test.YtgfgglponbmgmaaGreatHLG18
import Derived.Test.YtgfgglponbmgmaaGreatHLG9
import Derived.Lib.Overlaps
import Derived.RangeFuncLeaves
set_option linter.unusedVariables false
set_option linter.unusedSimpArgs false
set_option linter.unnecessarySimpa false
noncomputable section
section
namespace Go.Proofs.YtgfgglponbmgmaaGreatA.Am
abbrev pv (p:Nat):Value:=.pointer (some ⟨p,0,none⟩)
variable {H H':aa}
theorem ar {p:Nat}{b:eM}(h:H.get p=some b):p<H.length:=aa.ar h
theorem aG {p:Nat}{b c:eM}(h:H.get p=some b):(H.put p c).get p=some c:=aa.iZ (ar h)
theorem bt {p q:Nat}{c:eM}(h:q≠p):(H.put p c).get q=H.get q:=aa.bt h
theorem iC (H:aa)(p:Nat)(c:eM):(H.put p c).length=H.length:=by simp[aa.put]
theorem J3 (H:aa)(q:Nat):(H.kill q).length=H.length:=by simp[aa.kill]
theorem cA (H:aa)(c:eM):(H.new c).length=H.length+1:=by simp[aa.new]
theorem df {i:Nat}{c:eM}(h:i<H.length):(H.new c).get i=H.get i:=aa.tN h
theorem aL {c:eM}:(H.new c).get H.length=some c:=aa.kB
theorem iP {q i:Nat}(h:i≠q):(H.kill q).get i=H.get i:=aa.iP h
section
variable {P:Program}
theorem r7 (t:TypeId)(a b:Int):ai P .lss t (cv a) (cv b)=some (.bool (decide (a<b))):=rfl
theorem HZ (t:TypeId)(a b:Int):ai P .gtr t (cv a) (cv b)=some (.bool (decide (a>b))):=rfl
theorem RC (t:TypeId)(a b:Int):ai P .leq t (cv a) (cv b)=some (.bool (decide (a≤b))):=rfl
theorem RD (t:TypeId)(a b:Int):ai P .geq t (cv a) (cv b)=some (.bool (decide (a≥b))):=rfl
theorem vC (t:TypeId)(a b:Int):ai P .eql t (cv a) (cv b)=some (.bool (decide (a=b))):=by
 have h:(a==b)=decide (a=b):=by by_cases e:a=b<;>simp[e]
 rw[←h];rfl
theorem Ia (t:TypeId)(a b:Int):ai P .neq t (cv a) (cv b)=some (.bool (!decide (a=b))):=by
 have h:(a==b)=decide (a=b):=by by_cases e:a=b<;>simp[e]
 rw[←h];rfl
theorem Ib (t:TypeId)(a b:Int):ai P .add t (cv a) (cv b)=some (cv (IntKind.i64.wrap (a+b))):=rfl
theorem Ic (t:TypeId)(a b:Int):ai P .sub t (cv a) (cv b)=some (cv (IntKind.i64.wrap (a-b))):=rfl
theorem Cp (t:TypeId)(a b:Int):ai P .and t (cv a) (cv b)=some (cv (bits .and .i64 a b)):=rfl
theorem aeN (t:TypeId)(a b:Int):ai P .or t (cv a) (cv b)=some (cv (bits .or .i64 a b)):=rfl
theorem vD (t:TypeId)(a b:Int)(h:b≠0):ai P .rem t (cv a) (cv b)=some (cv (a.tmod b)):=by
 show(if b=0 then none else _)=_;rw[if_neg h]
theorem nj (t:TypeId)(a b:Int)(h:b≠0):ai P .quo t (cv a) (cv b)=some (cv (IntKind.i64.wrap (a.tdiv b))):=by
 show(if b=0 then none else _)=_;rw[if_neg h]
theorem gQ (off:Nat)(p o:Nat)(H:aa):al off (.pointer (some ⟨p,o,none⟩)) H=some (.pointer (some ⟨p,o+off,none⟩),H):=rfl
theorem N8 (p o:Nat)(H:aa):au (.pointer (some ⟨p,o,none⟩)) H=some (.pointer (some ⟨p,o,none⟩),H):=rfl
theorem ao (p o:Nat)(H:aa){b:eM}(h:H.get p=some b):aq (.pointer (some ⟨p,o,none⟩)) H=b.cells[o]? :=by
 simp only[aq,h]
theorem gR (p o:Nat)(x:Int)(H:aa){b:eM}(h:H.get p=some b)(hr:b.ro=false)(ho:o<b.cells.length):
  bD 1 (.pointer (some ⟨p,o,none⟩)) (cv x) H=some (undef,H.put p {b with cells:=b.cells.set o (cv x)}):=by
 simp only[bD,bW,h];rw[if_pos ⟨rfl,rfl⟩];have:(!b.ro&&decide (o+(cv x).cells.toList.length≤b.cells.length)&&(cv x).cells.toList.all aD)=true:=by
  rw[hr];simp[Value.cells,aD];omega
 rw[this];rfl
theorem FL (p o:Nat)(b0:Option Addr)(n c:Nat)(H:aa){b:eM}(h:H.get p=some b)(hr:b.ro=false)(ho:o<b.cells.length):
  bD 1 (.pointer (some ⟨p,o,none⟩)) (.slice b0 n c) H=some (undef,H.put p {b with cells:=b.cells.set o (.slice b0 n c)}):=by
 simp only[bD,bW,h];rw[if_pos ⟨rfl,rfl⟩];have:(!b.ro&&decide (o+(Value.slice b0 n c).cells.toList.length≤b.cells.length)&&(Value.slice b0 n c).cells.toList.all aD)=true:=by
  rw[hr];simp[Value.cells,aD];omega
 rw[this];rfl
theorem acf (p o:Nat)(x:Option Addr)(H:aa){b:eM}(h:H.get p=some b)(hr:b.ro=false)(ho:o<b.cells.length):
  bD 1 (.pointer (some ⟨p,o,none⟩)) (.pointer x) H=some (undef,H.put p {b with cells:=b.cells.set o (.pointer x)}):=by
 simp only[bD,bW,h];rw[if_pos ⟨rfl,rfl⟩];have:(!b.ro&&decide (o+(Value.pointer x).cells.toList.length≤b.cells.length)&&(Value.pointer x).cells.toList.all aD)=true:=by
  rw[hr];simp[Value.cells,aD];omega
 rw[this];rfl
theorem tZ {t e:TypeId}(o:Option Addr)(h:P.underlying t=some (.pointer e)):ai P .eql t (.pointer o) (.pointer none)=some (.bool o.isNone):=by
 cases o<;>simp[ai,iF,h,Op.maxDepth]
theorem ub {t e:TypeId}(o:Option Addr)(h:P.underlying t=some (.pointer e)):ai P .neq t (.pointer o) (.pointer none)=some (.bool (!o.isNone)):=by
 cases o<;>simp[ai,iF,h,Op.maxDepth]
end
theorem fL {x:Int}(h: -9223372036854775808≤x∧x≤9223372036854775807):IntKind.i64.wrap x=x:=by rw[IntKind.wrap_i64];omega
theorem acg {x:Int}(h:(Lit.int .i64 x).wf=true): -9223372036854775808≤x∧x≤9223372036854775807:=by
 simpa[Lit.wf,IntKind.min,IntKind.max,IntKind.signed,IntKind.bits] using h
abbrev aj:=Nat→Int
structure Fr (H:aa) (o:aj) (H':aa) (o':aj) (ps:List Int):Prop where
 slot: ∀i,i<H.length→o i ∉ ps→H'[i]? =H[i]?
 own: ∀i,i<H.length→o' i=o i
 size:H.length≤H'.length
theorem Fr.same {o o':aj}{ps:List Int}(f:Fr H o H' o' ps)(i:Nat)(h:i<H.length)(hp:o i ∉ ps):H'.get i=H.get i:=by
 unfold aa.get;rw[f.slot i h hp]
theorem Fr.refl (H:aa)(o:aj)(ps:List Int):Fr H o H o ps:=⟨λ_ _ _=>rfl,λ_ _=>rfl,Nat.le_refl _⟩
theorem Fr.trans {H1 H2:aa}{o o1 o2:aj}{ps qs rs:List Int}(h:Fr H o H1 o1 ps)(k:Fr H1 o1 H2 o2 qs)(hp: ∀i∈ps,i∈rs)(hq: ∀i∈qs,i∈rs):Fr H o H2 o2 rs:=
 ⟨λi hi hn=>by
  rw[k.slot i (Nat.lt_of_lt_of_le hi h.size) (λe=>hn (by rw[h.own i hi] at e;exact hq _ e)),h.slot i hi (λe=>hn (hp _ e))],
  λi hi=>by rw[k.own i (Nat.lt_of_lt_of_le hi h.size),h.own i hi],Nat.le_trans h.size k.size⟩
theorem Fr.tr {H1 H2:aa}{o o1 o2:aj}{ps:List Int}(h:Fr H o H1 o1 ps)(k:Fr H1 o1 H2 o2 ps):Fr H o H2 o2 ps:=h.trans k (λ_ h=>h) (λ_ h=>h)
theorem Fr.wk {o o':aj}{ps qs:List Int}(h:Fr H o H' o' ps)(hp: ∀i∈ps,i∈qs):Fr H o H' o' qs:=⟨λi hi hn=>h.slot i hi λe=>hn (hp _ e),h.own,h.size⟩
theorem adL {i j:Nat}{x:Slot}(h:j≠i):(H.set i x)[j]? =H[j]? :=List.getElem?_set_ne (Ne.symm h)
theorem Fr.set {o o':aj}{ps:List Int}(h:Fr H o H' o' ps){i:Nat}(x:Slot)(hi:i<H.length→o i∈ps):Fr H o (H'.set i x) o' ps:=by
 refine⟨λj hj hn=>?_,h.own,by rw[List.length_set];exact h.size⟩
 rw[adL,h.slot j hj hn];rintro rfl;exact hn (hi hj)
theorem Fr.put {o o':aj}{ps:List Int}(h:Fr H o H' o' ps){i:Nat}{c:eM}(hi:i<H.length→o i∈ps):Fr H o (H'.put i c) o' ps:=h.set _ hi
theorem Fr.kill {o o':aj}{ps:List Int}(h:Fr H o H' o' ps){i:Nat}(hi:i<H.length→o i∈ps):Fr H o (H'.kill i) o' ps:=h.set _ hi
def aj.up (o:aj)(i:Nat)(p:Int):aj:=λj=>if j=i then p else o j
theorem aP {o:aj}{i:Nat}{p:Int}:o.up i p i=p:=by simp[aj.up]
theorem dL {o:aj}{i j:Nat}{p:Int}(h:j≠i):o.up i p j=o j:=by simp[aj.up,h]
theorem Fr.new {o o':aj}{ps:List Int}(h:Fr H o H' o' ps)(c:eM)(p:Int):Fr H o (H'.new c) (o'.up H'.length p) ps:=by
 have:=h.size
 refine⟨λj hj hn=>?_,λj hj=>?_,by rw[cA];omega⟩
 ·unfold aa.new;rw[List.getElem?_append_left (by omega),h.slot j hj hn]
 ·rw[dL (by omega),h.own j hj]
theorem Fr.cB {o o':aj}{ps:List Int}(h:Fr H o H' o' ps)(n:Nat):Fr H o (H'.cB n) o' ps:=by
 have:=h.size
 refine⟨λj hj hn=>?_,h.own,by unfold aa.cB;rw[List.length_append];omega⟩
 unfold aa.cB;rw[List.getElem?_append_left (by omega),h.slot j hj hn]
theorem qD (vs:List Value): ∀(A R:List Value),vs.length≤R.length→dt (A++R) A.length vs=A++vs++R.drop vs.length:=by
 induction vs with
 |nil=>intro A R _;simp[dt]
 |cons v vs ih=>
  intro A R h;cases R with
  |nil=>simp at h
  |cons r R=>
   have e:(A++r::R).set A.length v=(A++[v])++R:=by simp
   have e2:A.length+1=(A++[v]).length:=by simp
   rw[dt,e,e2,ih _ _ (by simpa using h)]
   simp
def eG (H:aa)(x:Value)(l:List Int):Prop:=
 (x= .slice none 0 0∧l=[])∨∃i off c,x= .slice (some ⟨i,off,none⟩) l.length c∧(l≠[]→∃b,H.get i=some b∧b.es=1∧off+l.length≤b.cells.length∧(b.cells.drop off).take l.length=l.map cv)
theorem eG.src {x:Value}{l:List Int}(h:eG H x l): ∃b c,x= .slice b l.length c∧cF H 1 l.length x=some (l.map cv):=by
 rcases h with⟨rfl,rfl⟩|⟨i,off,c,rfl,hb⟩
 ·exact⟨none,0,rfl,rfl⟩
 ·refine⟨_,_,rfl,?_⟩;by_cases e:l=[]
  ·subst e;simp[cF]
  ·obtain⟨b,h1,_,h2,h3⟩:=hb e;have:l.length≠0:=by simpa using e
   simp only[cF,this,if_false,aR,h1,Nat.mul_one];rw[if_pos h2,h3]
theorem eG.len {x:Value}{l:List Int}(h:eG H x l):cG x=some (cv l.length):=by
 obtain⟨b,c,rfl,_⟩:=h.src;rfl
theorem eG.isSlice {x:Value}{l:List Int}(h:eG H x l): ∃b c,x= .slice b l.length c:=by
 obtain⟨b,c,e,_⟩:=h.src;exact⟨b,c,e⟩
theorem eG.idx {x:Value}{l:List Int}(h:eG H x l){j:Nat}(hj:j<l.length):
  ∃i off b,(∀H',cK 1 x (cv j) H'=some (.pointer (some ⟨i,off,none⟩),H'))∧H.get i=some b∧b.cells[off]? =some (cv (l.getD j 0)):=by
 rcases h with⟨rfl,rfl⟩|⟨i,off,c,rfl,hb⟩
 ·simp at hj
 ·obtain⟨b,h1,_,h2,h3⟩:=hb (by rintro rfl;simp at hj)
  refine⟨i,off+j,b,λH'=>?_,h1,?_⟩
  ·simp only[cK];rw[if_pos (by constructor<;>omega)];simp
  ·have:=congrArg (·[j]?) h3
   simp only[List.getElem?_take,hj,if_true,List.getElem?_drop,List.getElem?_map] at this;rw[this,List.getElem?_eq_getElem hj];simp[List.getD_eq_getElem?_getD,List.getElem?_eq_getElem hj]
theorem eG.keep {x:Value}{l:List Int}(h:eG H x l)(hk: ∀i b,x= .slice (some b) l.length i→l≠[]→H'.get b.block=H.get b.block):eG H' x l:=by
 rcases h with h|⟨i,off,c,rfl,hb⟩
 ·exact .inl h
 ·refine .inr ⟨i,off,c,rfl,λe=>?_⟩
  obtain⟨b,h1,h2⟩:=hb e;exact⟨b,by rw[hk c ⟨i,off,none⟩ rfl e];exact h1,h2⟩
def dV (H:aa)(o:aj)(q:Int)(x:Value)(l:List Int):Prop:=eG H x l∧∀b n c,x= .slice (some b) n c→l≠[]→b.block<H.length∧o b.block=q
theorem dV.fr {o o':aj}{ps:List Int}{q:Int}{x:Value}{l:List Int}(h:dV H o q x l)(f:Fr H o H' o' ps)(hp:q ∉ ps):dV H' o' q x l:=by
 obtain⟨h1,h2⟩:=h;refine⟨h1.keep λi b e dy=>?_,λb n c e dy=>?_⟩
 ·obtain⟨k1,k2⟩:=h2 b _ _ e dy;exact f.same _ k1 (by rw[k2];exact hp)
 ·obtain⟨k1,k2⟩:=h2 b _ _ e dy;exact⟨Nat.lt_of_lt_of_le k1 f.size,by rw[f.own _ k1];exact k2⟩
theorem dV.nil {o:aj}{q:Int}:dV H o q (.slice none 0 0) []:=⟨.inl ⟨rfl,rfl⟩,λb n c e _=>by cases e⟩
def oJ (H:aa)(o:aj)(p:Int)(s:Value)(cs:List Int):Prop:=
 (s= .slice none 0 0∧cs=[])∨∃q cap rest ty,s= .slice (some ⟨q,0,none⟩) cs.length cap∧H.get q=some ⟨cs.map cv++rest,ty,1,false⟩∧cs.length+rest.length=cap∧o q=p
theorem oJ.ints {o:aj}{p:Int}{s:Value}{cs:List Int}(h:oJ H o p s cs):dV H o p s cs:=by
 rcases h with⟨rfl,rfl⟩|⟨q,cap,rest,ty,rfl,hb,hc,ho⟩
 ·exact .nil
 ·refine⟨.inr ⟨q,0,cap,rfl,λ_=>⟨_,hb,rfl,by simp,by simp⟩⟩,λb n c e _=>?_⟩
  cases e;exact⟨ar hb,ho⟩
theorem oJ.fr {o o':aj}{ps:List Int}{p:Int}{s:Value}{cs:List Int}(h:oJ H o p s cs)(f:Fr H o H' o' ps)(hp:p ∉ ps):oJ H' o' p s cs:=by
 rcases h with h|⟨q,cap,rest,ty,hs,hb,hc,ho⟩
 ·exact .inl h
 ·exact .inr ⟨q,cap,rest,ty,hs,by rw[f.same q (ar hb) (by rw[ho];exact hp)];exact hb,hc,by rw[f.own q (ar hb)];exact ho⟩
theorem oJ.isSlice {o:aj}{p:Int}{s:Value}{cs:List Int}(h:oJ H o p s cs): ∃b c,s= .slice b cs.length c:=by
 rcases h with⟨rfl,rfl⟩|⟨q,cap,rest,ty,rfl,_⟩
 ·exact⟨_,_,rfl⟩
 ·exact⟨_,_,rfl⟩
theorem oJ.set {o:aj}{p:Int}{s:Value}{cs:List Int}(h:oJ H o p s cs){j:Nat}(hj:j<cs.length)(x:Int):
  ∃q b c,(∀H',cK 1 s (cv j) H'=some (.pointer (some ⟨q,j,none⟩),H'))∧H.get q=some b∧b.ro=false∧o q=p∧b.cells[j]? =some (cv (cs.getD j 0))∧(∃n k,s= .slice (some ⟨q,0,none⟩) n k)∧
   bD 1 (.pointer (some ⟨q,j,none⟩)) (cv x) H=some (undef,H.put q c)∧oJ (H.put q c) o p s (cs.set j x):=by
 rcases h with⟨rfl,rfl⟩|⟨q,cap,rest,ty,rfl,hb,hc,ho⟩
 ·simp at hj
 ·refine⟨q,_,⟨(cs.set j x).map cv++rest,ty,1,false⟩,λH'=>?_,hb,rfl,ho,?_,⟨_,_,rfl⟩,?_,.inr ⟨q,cap,rest,ty,by simp,aG hb,by simpa using hc,ho⟩⟩
  ·simp only[cK];rw[if_pos (by constructor<;>omega)];simp
  ·show(List.map cv cs++rest)[j]? =_
   rw[List.getElem?_append_left (by simpa using hj),List.getElem?_map,List.getElem?_eq_getElem hj];simp[List.getD_eq_getElem?_getD,List.getElem?_eq_getElem hj]
  ·rw[gR _ _ _ _ hb rfl (by simp;omega)]
   simp only[List.set_append,List.length_map,hj,if_true,List.map_set]
theorem jR {o:aj}{p:Int}{s x:Value}{cs l:List Int}(t:TypeId)(hs:oJ H o p s cs)(hx:eG H x l)(hb:cs.length+l.length≤4294967296):
  ∃s' H' o',de t 1 8 s x H=some (s',H')∧oJ H' o' p s' (cs++l)∧Fr H o H' o' [p]∧(∀i,(∀n k,s≠ .slice (some ⟨i,0,none⟩) n k)→i<H.length→H'.get i=H.get i∧o' i=o i∧∀n k,s'≠ .slice (some ⟨i,0,none⟩) n k):=by
 obtain⟨b,c,rfl,hc⟩:=hx.src;by_cases hl:l=[]
 ·subst hl;refine⟨s,H,o,?_,by simpa using hs,.refl _ _ _,λi hi _=>⟨rfl,rfl,hi⟩⟩
  rcases hs with⟨rfl,rfl⟩|⟨q,cap,rest,ty,rfl,Ys,zm,ho⟩
  ·simp only[de,hc,Option.map_some];simp
  ·simp only[de,hc,Option.map_some];rw[if_pos (by simp;omega)];simp
 have hlen:l.length≠0:=by simpa using hl
 rcases hs with⟨rfl,rfl⟩|⟨q,cap,rest,ty,rfl,Ys,zm,ho⟩
 ·refine⟨.slice (some ⟨H.length,0,none⟩) l.length l.length,H.new ⟨l.map cv,t,1,false⟩,o.up H.length p,?_,?_,(Fr.refl _ _ _).new _ _,λi _ hi=>⟨df hi,dL (by omega),λn k e=>by cases e;omega⟩⟩
  ·simp only[de,hc,Option.map_some];rw[if_neg (by omega),if_pos (by simp;simp at hb;omega)]
   simp
  ·exact .inr ⟨H.length,l.length,[],t,by simp,by simpa using aL,by simp,aP⟩
 ·have hql:=ar Ys;by_cases jb:cs.length+l.length≤cap
  ·refine⟨.slice (some ⟨q,0,none⟩) (cs++l).length cap,H.put q ⟨(cs++l).map cv++rest.drop l.length,ty,1,false⟩,o,?_,?_,(Fr.refl _ _ _).put (λ_=>by simp[ho]),λi hi _=>⟨bt (by rintro rfl;exact hi _ _ rfl),rfl,λn k e=>by cases e;exact hi _ _ rfl⟩⟩
   ·simp only[de,hc,Option.map_some];rw[if_pos jb,if_neg hlen];simp only[Ys,if_true,bW];rw[if_pos (by simp[aD];omega)]
    have e:=qD (l.map cv) (cs.map cv) rest (by simp;omega)
    simp only[List.length_map] at e;simp only[Nat.mul_one,Nat.zero_add,e,Option.map_some,List.map_append,List.length_append]
   ·exact .inr ⟨q,cap,rest.drop l.length,ty,rfl,aG Ys,by simp;omega,ho⟩
  ·refine⟨.slice (some ⟨H.length,0,none⟩) (cs++l).length (cs++l).length,(H.kill q).new ⟨(cs++l).map cv,t,1,false⟩,o.up H.length p,?_,?_,?_,?_⟩
   ·simp only[de,hc,Option.map_some];rw[if_neg jb,if_pos (by simp;omega)]
    simp only[Ys];rw[if_pos (by simp;omega)]
    have e:aR H q 0 (cs.length*1)=some (cs.map cv):=by
     simp only[aR,Ys];rw[if_pos (by simp)]
     simp
    simp only[e,List.map_append,List.length_append]
   ·have:=aL (H:=H.kill q) (c:=⟨(cs++l).map cv,t,1,false⟩)
    rw[J3] at this;exact .inr ⟨H.length,(cs++l).length,[],t,rfl,by simpa using this,by simp,aP⟩
   ·have:=((Fr.refl H o [p]).kill (i:=q) (λ_=>by simp[ho])).new ⟨(cs++l).map cv,t,1,false⟩ p
    rw[J3] at this;exact this
   ·intro i hi Yt;refine⟨?_,dL (by omega),λn k e=>by cases e;omega⟩
    rw[df (by rw[J3];exact Yt),iP (by rintro rfl;exact hi _ _ rfl)]
theorem oJ.new (H:aa)(o:aj)(r:Int)(t:TypeId)(l:List Int):oJ (H.new ⟨l.map cv,t,1,false⟩) (o.up H.length r) r (.slice (some ⟨H.length,0,none⟩) l.length l.length) l:=
 .inr ⟨H.length,l.length,[],t,rfl,by simpa using aL,by simp,aP⟩
section
variable {P:Program} {f:Nat} {t e:TypeId}
def WZ (x:Int):Prop:= -9223372036854775808≤x∧x≤9223372036854775807
abbrev o0:aj:=λ_=> -1
theorem In.int (ht:P.underlying t=some (.int .i64)){cs:List Value}(h:In P H (f+1) t cs): ∃a,cs=[cv a]∧WZ a:=by
 simp only[In,ht] at h;obtain⟨n,rfl,h⟩:=h;exact⟨n,rfl,acg h⟩
theorem In.bool (ht:P.underlying t=some .bool){cs:List Value}(h:In P H (f+1) t cs): ∃a,cs=[.bool a]:=by
 simp only[In,ht] at h;exact h
theorem In.slice (ht:P.underlying t=some (.slice e)){cs:List Value}(h:In P H (f+1) t cs):cs=[.slice none 0 0]∨∃(i:Nat) (es:List (List Value)),cs=[.slice (some ⟨i,0,none⟩) es.length es.length]∧es.length≤maxLen∧
  (0<es.length→H.get i=some ⟨es.flatten,e,P.cellsOf e,true⟩)∧∀x,x∈es→x.length=P.cellsOf e∧In P H f e x:=by
 simp only[In,ht] at h;exact h
theorem In.ints (ht:P.underlying t=some (.slice e))(he:P.underlying e=some (.int .i64))(hc:P.cellsOf e=1){cs:List Value}(h:In P H (f+2) t cs):
  ∃v l,cs=[v]∧dV H o0 (-1) v l∧(∀x∈l,WZ x)∧l.length≤maxLen:=by
 unfold In at h;rw[ht] at h;simp only at h;rcases h with rfl|⟨i,es,rfl,hm,hg,jk⟩
 ·exact⟨_,[],rfl,.nil,(λx hx=>by cases hx),by simp⟩
 ·have: ∃l:List Int,es=l.map (λx=>[cv x])∧∀x∈l,WZ x:=by
   clear hm hg;induction es with
   |nil=>exact⟨[],rfl,λx hx=>by cases hx⟩
   |cons y es ih=>
    obtain⟨l,rfl,hl⟩:=ih (λx hx=>jk x (List.mem_cons_of_mem _ hx))
    obtain⟨a,rfl,ha⟩:=In.int he (jk y (List.mem_cons_self ..)).2;exact⟨a::l,rfl,λx hx=>(List.mem_cons.1 hx).elim (λe=>e▸ha) (hl x)⟩
  obtain⟨l,rfl,hl⟩:=this;have EG:(l.map (λx=>[cv x])).flatten=l.map cv:=by
   clear hm hg jk hl;induction l with
   |nil=>rfl
   |cons a l ih=>simp[ih]
  rw[EG] at hg;simp only[List.length_map] at hg hm;refine⟨_,l,rfl,⟨.inr ⟨i,0,l.length,by simp,λdy=>⟨_,hg (List.length_pos_iff.2 dy),hc,by simp,by show(List.drop 0 (l.map cv)).take l.length=_;rw[List.drop_zero,List.take_of_length_le (by simp)]⟩⟩,λb n c eq dy=>?_⟩,hl,hm⟩
  cases eq;exact⟨ar (hg (List.length_pos_iff.2 dy)),rfl⟩
theorem lR.one (hs: ∀fs,P.underlying t≠some (.struct fs)){v:Value}(h:lR P H f t v):In P H f t [v]:=by
 obtain⟨cs,h1,h2⟩:=h;split at h2
 ·rename_i fs e;exact absurd e (hs fs)
 ·subst h2;exact h1
theorem lR.int (ht:P.underlying t=some (.int .i64)){v:Value}(h:lR P H (f+1) t v): ∃a,v=cv a∧WZ a:=by
 obtain⟨a,h1,h2⟩:=In.int ht (h.one (by simp[ht]));cases h1;exact⟨a,rfl,h2⟩
theorem lR.bool (ht:P.underlying t=some .bool){v:Value}(h:lR P H (f+1) t v): ∃a,v= .bool a:=by
 obtain⟨a,h1⟩:=In.bool ht (h.one (by simp[ht]));cases h1;exact⟨a,rfl⟩
theorem lR.ints (ht:P.underlying t=some (.slice e))(he:P.underlying e=some (.int .i64))(hc:P.cellsOf e=1){v:Value}(h:lR P H (f+2) t v):
  ∃l,dV H o0 (-1) v l∧(∀x∈l,WZ x)∧l.length≤maxLen:=by
 obtain⟨v',l,h1,h2⟩:=In.ints ht he hc (h.one (by simp[ht]));cases h1;exact⟨l,h2⟩
end
variable {H H':aa} {o o':aj} {p:Int}
theorem dZ {i:Nat}(h:H'[i]? =H[i]?):H'.get i=H.get i:=by unfold aa.get;rw[h]
theorem fi {i j:Nat}{c:eM}(h:j≠i):(H.put i c)[j]? =H[j]? :=adL h
theorem KX {i j:Nat}(h:j≠i):(H.kill i)[j]? =H[j]? :=adL h
theorem mE {j:Nat}{c:eM}(h:j<H.length):(H.new c)[j]? =H[j]? :=by unfold aa.new;rw[List.getElem?_append_left h]
theorem FM {j n:Nat}(h:j<H.length):(H.cB n)[j]? =H[j]? :=by unfold aa.cB;rw[List.getElem?_append_left h]
theorem AH:(H.cB 1)[H.length]? =some .hole:=by
 unfold aa.cB;rw[List.getElem?_append_right (Nat.le_refl _)];simp
theorem AI (n:Nat):(H.cB n).length=H.length+n:=by unfold aa.cB;simp
theorem r8 {i:Nat}{b:eM}(h:i<H.length):aa.get (H.set i (.y7 b)) i=some b:=by
 unfold aa.get;rw[List.getElem?_set_self h]
section
variable {α:Type} (lt:α→α→Bool)
end
theorem r9 (p o:Nat)(x:Value)(H:aa){b:eM}(h:H.get p=some b)(hr:b.ro=false)(ho:o<b.cells.length)(hx:x.cells= #[x])(hk:known x=true)(h1:aD x=true):
  bD 1 (.pointer (some ⟨p,o,none⟩)) x H=some (undef,H.put p {b with cells:=b.cells.set o x}):=by
 simp only[bD,bW,h,hx,hk];rw[if_pos ⟨rfl,trivial⟩];have:(!b.ro&&decide (o+ #[x].toList.length≤b.cells.length)&& #[x].toList.all aD)=true:=by
  rw[hr];simp[h1];omega
 rw[this];rfl
variable {α β:Type}
def Ev (t:Nat→Option β)(Q:β→Prop):Prop:=∃N r,(∀n,N≤n→t n=some r)∧Q r
theorem Ev.ret {r:β}{Q:β→Prop}(h:Q r):Ev (λ_=>some r) Q:=⟨0,r,λ_ _=>rfl,h⟩
theorem Ev.mono {t:Nat→Option β}{Q R:β→Prop}(h:Ev t Q)(k: ∀r,Q r→R r):Ev t R:=by
 obtain⟨N,r,h1,h2⟩:=h;exact⟨N,r,h1,k r h2⟩
theorem Ev.up {t u:Nat→Option β}{Q:β→Prop}(h:Ev t Q)(k: ∀n,u (n+1)=t n):Ev u Q:=by
 obtain⟨N,r,h1,h2⟩:=h;refine⟨N+1,r,λn hn=>?_,h2⟩
 cases n with
 |zero=>omega
 |succ n=>rw[k,h1 n (by omega)]
theorem Ev.af {t:Nat→Option (Value×aa)}{k:Nat→Value→aa→Option α}{Q1:Value×aa→Prop}{Q:α→Prop}(h:Ev t Q1)(hk: ∀v H,Q1 (v,H)→Ev (λn=>k n v H) Q):Ev (λn=>af (t n) (k n)) Q:=by
 obtain⟨N,⟨v,H⟩,h1,h2⟩:=h;obtain⟨M,r,h3,h4⟩:=hk v H h2;refine⟨max N M,r,λn hn=>?_,h4⟩
 simp only[h1 n (by omega)]
 exact h3 n (by omega)
theorem Ev.cd {t:Nat→bn}{k:Nat→bE→List Value→aa→Option α}{Q1:bE×List Value×aa→Prop}{Q:α→Prop}(h:Ev t Q1)(hk: ∀e vs H,Q1 (e,vs,H)→Ev (λn=>k n e vs H) Q):Ev (λn=>cd (t n) (k n)) Q:=by
 obtain⟨N,⟨e,vs,H⟩,h1,h2⟩:=h;obtain⟨M,r,h3,h4⟩:=hk e vs H h2;refine⟨max N M,r,λn hn=>?_,h4⟩
 simp only[h1 n (by omega)]
 exact h3 n (by omega)
theorem Ev.br {x y:Nat→Option α}{b:Bool}{Q:α→Prop}(h:b=true→Ev x Q)(k:b=false→Ev y Q):Ev (λn=>aV (.bool b) (x n) (y n)) Q:=by
 cases b with
 |true=>exact h rfl
 |false=>exact k rfl
theorem Ev.iter {step:Nat→List Value→aa→bn}{I:Nat→List Value→aa→Prop}{R:bE×List Value×aa→Prop}(h: ∀k vs H,I k vs H→Ev (λn=>step n vs H) λr=>(r.1= .normal∧∃k',k'<k∧I k' r.2.1 r.2.2)∨(r.1≠ .normal∧R r)):
  ∀k vs H,I k vs H→Ev (λn=>Am.iter n (step n) vs H) λr=>r.1≠ .normal∧R r:=by
 have key: ∀k vs H,I k vs H→∃N r,(∀n m,N≤n→N≤m→Am.iter m (step n) vs H=some r)∧r.1≠ .normal∧R r:=by
  intro k;induction k using Nat.strongRecOn with
  |ind k ih=>
   intro vs H hi;obtain⟨N,⟨e,iU,H'⟩,h1,h2⟩:=h k vs H hi;rcases h2 with⟨he,k',hk,sO⟩|⟨he,hr⟩
   ·simp only at he;subst he;obtain⟨M,r,h3,h4⟩:=ih k' hk iU H' sO;refine⟨max N M+1,r,λn m hn hm=>?_,h4⟩
    cases m with
    |zero=>omega
    |succ m=>
     simp only[Am.iter,h1 n (by omega)]
     exact h3 n m (by omega) (by omega)
   ·refine⟨N+1,(e,iU,H'),λn m hn hm=>?_,he,hr⟩
    cases m with
    |zero=>omega
    |succ m=>
     simp only[Am.iter,h1 n (by omega)]
     cases e with
     |normal=>exact absurd rfl he
     |exit i=>rfl
     |ret=>rfl
 intro k vs H hi;obtain⟨N,r,h1,h2⟩:=key k vs H hi;exact⟨N,r,λn hn=>h1 n n hn hn,h2⟩
theorem Ev.loop {step:Nat→List Value→aa→bn}{kk:Nat→bE→List Value→aa→Option α}{Q:α→Prop}(I:Nat→List Value→aa→Prop)(R:bE×List Value×aa→Prop){k:Nat}{vs:List Value}{H:aa}(hi:I k vs H)(h: ∀k vs H,I k vs H→Ev (λn=>step n vs H) λr=>(r.1= .normal∧∃k',k'<k∧I k' r.2.1 r.2.2)∨(r.1≠ .normal∧R r))(hk: ∀e vs H,R (e,vs,H)→Ev (λn=>kk n e vs H) Q):Ev (λn=>Am.cd (Am.iter n (step n) vs H) (kk n)) Q:=
 Ev.cd (Ev.iter h k vs H hi) λe vs H hr=>hk e vs H hr.2
abbrev aE (C:Nat→ae)(f:Nat)(args:List Value)(H:aa)(Q:Value→aa→Prop):Prop:=Ev (λn=>C n f args H) λr=>Q r.1 r.2
theorem aE.is {C:Nat→ae}{f:Nat}{args:List Value}{H H':aa}{v:Value}{Q:Value→aa→Prop}(h: ∀n,C (n+1) f args H=some (v,H'))(hq:Q v H'):aE C f args H Q:=
 ⟨1,(v,H'),λn hn=>by
  cases n with
  |zero=>omega
  |succ n=>exact h n,hq⟩
theorem aE.mono {C:Nat→ae}{f:Nat}{args:List Value}{H:aa}{Q R:Value→aa→Prop}(h:aE C f args H Q)(k: ∀v H',Q v H'→R v H'):aE C f args H R:=Ev.mono h λr=>k r.1 r.2
theorem Ev.call {C:Nat→ae}{f:Nat}{args:List Value}{H:aa}{Q1:Value→aa→Prop}{k:Nat→Value→aa→Option α}{Q:α→Prop}(h:aE C f args H Q1)(hk: ∀v H',Q1 v H'→Ev (λn=>k n v H') Q):Ev (λn=>Am.af (C n f args H) (k n)) Q:=
 Ev.af h λv H' hq=>hk v H' hq
variable {H H':aa} {o o':aj} {q:Int}
abbrev PL:=List (Int×Int)
def kq:PL→List Value
 | []=>[]
 |x::l=>cv x.1::cv x.2::kq l
theorem sb: ∀l:PL,(kq l).length=2*l.length
 | []=>rfl
 |x::l=>by simp only[kq,List.length_cons,sb l];omega
theorem Cq: ∀a b:PL,kq (a++b)=kq a++kq b
 | [],b=>rfl
 |x::a,b=>by simp only[List.cons_append,kq,Cq a b]
theorem Ie: ∀l:PL,(kq l).all aD=true
 | []=>rfl
 |x::l=>by simp only[kq,List.all_cons,Ie l,Bool.and_true];rfl
theorem DZ: ∀(l:PL) (n:Nat),(kq l).drop (2*n)=kq (l.drop n)
 |l,0=>rfl
 | [],n+1=>by simp[kq]
 |x::l,n+1=>by
  rw[show 2*(n+1)=2*n+1+1 by omega]
  simp only[kq,List.drop_succ_cons];exact DZ l n
theorem D0: ∀(l:PL) (n:Nat),(kq l).take (2*n)=kq (l.take n)
 |l,0=>rfl
 | [],n+1=>by simp[kq]
 |x::l,n+1=>by
  rw[show 2*(n+1)=2*n+1+1 by omega]
  simp only[kq,List.take_succ_cons,D0 l n]
theorem yB: ∀{l:PL} {j:Nat},j<l.length→(kq l)[2*j]? =some (cv (l.getD j (0,0)).1)
 | [],j,h=>by simp at h
 |x::l,0,h=>rfl
 |x::l,j+1,h=>by
  rw[show 2*(j+1)=2*j+1+1 by omega]
  simp only[kq,List.getElem?_cons_succ,List.getD_cons_succ];exact yB (by simpa using h)
theorem yC: ∀{l:PL} {j:Nat},j<l.length→(kq l)[2*j+1]? =some (cv (l.getD j (0,0)).2)
 | [],j,h=>by simp at h
 |x::l,0,h=>rfl
 |x::l,j+1,h=>by
  rw[show 2*(j+1)+1=2*j+1+1+1 by omega]
  simp only[kq,List.getElem?_cons_succ,List.getD_cons_succ];exact yC (by simpa using h)
def gS (H:aa)(o:aj)(q:Int)(x:Value)(l:PL):Prop:=
 (x= .slice none 0 0∧l=[])∨∃i cap rest ty,x= .slice (some ⟨i,0,none⟩) l.length cap∧H.get i=some ⟨kq l++rest,ty,2,false⟩∧2*l.length+rest.length=2*cap∧o i=q
theorem gS.nil:gS H o q (.slice none 0 0) []:=.inl ⟨rfl,rfl⟩
theorem gS.fr {x:Value}{l:PL}{ps:List Int}(h:gS H o q x l)(f:Fr H o H' o' ps)(hp:q ∉ ps):gS H' o' q x l:=by
 rcases h with h|⟨i,cap,rest,ty,h1,h2,h3,h4⟩
 ·exact .inl h
 ·exact .inr ⟨i,cap,rest,ty,h1,by rw[f.same i (ar h2) (by rw[h4];exact hp)];exact h2,h3,by rw[f.own i (ar h2)];exact h4⟩
theorem gS.isSlice {x:Value}{l:PL}(h:gS H o q x l): ∃a c,x= .slice a l.length c:=by
 rcases h with⟨rfl,rfl⟩|⟨i,cap,rest,ty,rfl,_⟩
 ·exact⟨_,_,rfl⟩
 ·exact⟨_,_,rfl⟩
theorem gS.len {x:Value}{l:PL}(h:gS H o q x l):cG x=some (cv l.length):=by
 obtain⟨a,c,rfl⟩:=h.isSlice;rfl
theorem gS.idx {x:Value}{l:PL}(h:gS H o q x l){j:Nat}(hj:j<l.length):
  ∃i b,(∀H',cK 2 x (cv j) H'=some (.pointer (some ⟨i,2*j,none⟩),H'))∧H.get i=some b∧o i=q∧∀H':aa,H'.get i=some b→aq (.pointer (some ⟨i,2*j,none⟩)) H'=some (cv (l.getD j (0,0)).1)∧aq (.pointer (some ⟨i,2*j+1,none⟩)) H'=some (cv (l.getD j (0,0)).2)∧
   cZ 2 (.pointer (some ⟨i,2*j,none⟩)) H'=some (.agg #[cv (l.getD j (0,0)).1,cv (l.getD j (0,0)).2]):=by
 rcases h with⟨rfl,rfl⟩|⟨i,cap,rest,ty,rfl,h2,h3,h4⟩
 ·simp at hj
 ·have g0:=yB hj;have g1:=yC hj;have l0:=sb l;refine⟨i,_,λH'=>?_,h2,h4,λH' e=>?_⟩
  ·simp only[cK];rw[if_pos (by constructor<;>omega)];simp<;>omega
  ·have c0:(kq l++rest)[2*j]? =some (cv (l.getD j (0,0)).1):=by rw[List.getElem?_append_left (by omega)];exact g0
   have c1:(kq l++rest)[2*j+1]? =some (cv (l.getD j (0,0)).2):=by rw[List.getElem?_append_left (by omega)];exact g1
   refine⟨by rw[ao i _ H' e];exact c0,by rw[ao i _ H' e];exact c1,?_⟩
   have uu:aR H' i (2*j) 2=some [cv (l.getD j (0,0)).1,cv (l.getD j (0,0)).2]:=by
    simp only[aR,e];rw[if_pos (by rw[List.length_append];omega)]
    have hd:(kq l++rest).drop (2*j)=cv (l.getD j (0,0)).1::cv (l.getD j (0,0)).2::(kq l++rest).drop (2*j+2):=by
     rw[List.drop_eq_getElem_cons (by rw[List.length_append];omega),List.drop_eq_getElem_cons (by rw[List.length_append];omega)]
     rw[List.getElem?_eq_getElem (by rw[List.length_append];omega)] at c0 c1
     simp only[Option.some.injEq] at c0 c1;rw[c0,c1]
    rw[hd];rfl
   simp only[cZ,uu]
def Src (H:aa)(x:Value)(l:PL):Prop:=∃a c,x= .slice a l.length c∧cF H 2 l.length x=some (kq l)
theorem Src.one {i:Nat}{k v:Int}{t:TypeId}(h:H.get i=some ⟨[cv k,cv v],t,2,false⟩):Src H (.slice (some ⟨i,0,none⟩) 1 1) [(k,v)]:=
 ⟨_,_,rfl,by simp[cF,aR,h,kq]⟩
theorem gS.app {x y:Value}{l m:PL}(t:TypeId)(h:gS H o q x l)(hy:Src H y m)(hb:l.length+m.length≤4294967296):
  ∃x' H' o',de t 2 16 x y H=some (x',H')∧gS H' o' q x' (l++m)∧Fr H o H' o' [q]∧(∀i,(∀n k,x≠ .slice (some ⟨i,0,none⟩) n k)→i<H.length→H'[i]? =H[i]? ∧∀n k,x'≠ .slice (some ⟨i,0,none⟩) n k):=by
 obtain⟨b,c,rfl,hc⟩:=hy;by_cases hm:m=[]
 ·subst hm;refine⟨x,H,o,?_,by simpa using h,.refl _ _ _,λi hi _=>⟨rfl,hi⟩⟩
  rcases h with⟨rfl,rfl⟩|⟨i,cap,rest,ty,rfl,h2,h3,h4⟩
  ·simp only[de,hc,Option.map_some];simp
  ·simp only[de,hc,Option.map_some];rw[if_pos (by simp;omega)];simp
 have P3:m.length≠0:=by simpa using hm
 have lm:=sb m;rcases h with⟨rfl,rfl⟩|⟨i,cap,rest,ty,rfl,h2,h3,h4⟩
 ·refine⟨.slice (some ⟨H.length,0,none⟩) m.length m.length,H.new ⟨kq m,t,2,false⟩,o.up H.length q,?_,?_,(Fr.refl _ _ _).new _ _,λi _ hi=>⟨mE hi,λn k e=>by cases e;omega⟩⟩
  ·simp only[de,hc,Option.map_some];rw[if_neg (by omega),if_pos (by simp;simp at hb;omega)]
   simp
  ·exact .inr ⟨H.length,m.length,[],t,by simp,by simpa using aL,by simp,aP⟩
 ·have hql:=ar h2;have ll:=sb l;by_cases jb:l.length+m.length≤cap
  ·refine⟨.slice (some ⟨i,0,none⟩) (l++m).length cap,H.put i ⟨kq (l++m)++rest.drop (2*m.length),ty,2,false⟩,o,?_,?_,(Fr.refl _ _ _).put (λ_=>by simp[h4]),λj hj _=>⟨fi (by rintro rfl;exact hj _ _ rfl),λn k e=>by cases e;exact hj _ _ rfl⟩⟩
   ·simp only[de,hc,Option.map_some];rw[if_pos jb,if_neg P3];simp only[h2,if_true,bW];rw[if_pos (by simp only[Ie,List.length_append,lm,ll,Bool.not_false,Bool.true_and,Bool.and_true,decide_eq_true_eq];omega)]
    have e:=qD (kq m) (kq l) rest (by rw[lm];omega)
    rw[ll,lm] at e;simp only[Nat.zero_add,show l.length*2=2*l.length by omega,e,Option.map_some,Cq,List.length_append]
   ·exact .inr ⟨i,cap,rest.drop (2*m.length),ty,rfl,aG h2,by simp;omega,h4⟩
  ·refine⟨.slice (some ⟨H.length,0,none⟩) (l++m).length (l++m).length,(H.kill i).new ⟨kq (l++m),t,2,false⟩,o.up H.length q,?_,?_,?_,?_⟩
   ·simp only[de,hc,Option.map_some];rw[if_neg jb,if_pos (by simp;omega)]
    simp only[h2];rw[if_pos (by simp[ll];omega)]
    have e:aR H i 0 (l.length*2)=some (kq l):=by
     simp only[aR,h2];rw[if_pos (by rw[List.length_append];omega),List.drop_zero,List.take_left' (by omega)]
    simp only[e,Cq,List.length_append]
   ·have:=aL (H:=H.kill i) (c:=⟨kq (l++m),t,2,false⟩)
    rw[J3] at this;exact .inr ⟨H.length,(l++m).length,[],t,rfl,by simpa using this,by simp,aP⟩
   ·have:=((Fr.refl H o [q]).kill (i:=i) (λ_=>by simp[h4])).new ⟨kq (l++m),t,2,false⟩ q
    rw[J3] at this;exact this
   ·intro j hj Af;exact⟨by rw[mE (by rw[J3];exact Af),KX (by rintro rfl;exact hj _ _ rfl)],λn k e=>by cases e;omega⟩
theorem gS.relabel {x:Value}{l:PL}{q':Int}(h:gS H o q x l)(k: ∀i,i<H.length→o i=q→o' i=q'):gS H o' q' x l:=by
 rcases h with h|⟨i,cap,rest,ty,h1,h2,h3,h4⟩
 ·exact .inl h
 ·exact .inr ⟨i,cap,rest,ty,h1,h2,h3,k i (ar h2) h4⟩
variable {H H':aa} {o o':aj} {q:Int}
def gN (H:aa)(o:aj)(q:Int)(x:Value)(l:PL):Prop:=
 (x= .slice none 0 0∧l=[])∨(∃i off,x= .slice (some ⟨i,off,none⟩) 0 0∧l=[])∨
 ∃i off c b,x= .slice (some ⟨i,off,none⟩) l.length c∧H.get i=some b∧b.es=2∧o i=q∧l.length≤c∧off+2*l.length≤b.cells.length∧(b.cells.drop off).take (2*l.length)=kq l
theorem gS.r {x:Value}{l:PL}(h:gS H o q x l):gN H o q x l:=by
 rcases h with h|⟨i,cap,rest,ty,h1,h2,h3,h4⟩
 ·exact .inl h
 ·have:=sb l
  exact .inr (.inr ⟨i,0,cap,_,h1,h2,rfl,h4,by omega,by simp;omega,by simp only[List.drop_zero];exact List.take_left' (by omega)⟩)
theorem gN.nil:gN H o q (.slice none 0 0) []:=.inl ⟨rfl,rfl⟩
theorem gN.mv {x:Value}{l:PL}(h:gN H o q x l)(k: ∀i,i<H.length→o i=q→H'.get i=H.get i∧o' i=q):gN H' o' q x l:=by
 rcases h with h|h|⟨i,off,c,b,h1,h2,h3,h4,h5⟩
 ·exact .inl h
 ·exact .inr (.inl h)
 ·obtain⟨k1,k2⟩:=k i (ar h2) h4;exact .inr (.inr ⟨i,off,c,b,h1,by rw[k1];exact h2,h3,k2,h5⟩)
theorem gN.fr {x:Value}{l:PL}{ps:List Int}(h:gN H o q x l)(f:Fr H o H' o' ps)(hp:q ∉ ps):gN H' o' q x l:=
 h.mv λi hi ho=>⟨f.same i hi (by rw[ho];exact hp),by rw[f.own i hi];exact ho⟩
theorem gN.relabel {x:Value}{l:PL}{q':Int}(h:gN H o q x l)(k: ∀i,i<H.length→o i=q→o' i=q'):gN H o' q' x l:=by
 rcases h with h|h|⟨i,off,c,b,h1,h2,h3,h4,h5⟩
 ·exact .inl h
 ·exact .inr (.inl h)
 ·exact .inr (.inr ⟨i,off,c,b,h1,h2,h3,k i (ar h2) h4,h5⟩)
theorem gN.isSlice {x:Value}{l:PL}(h:gN H o q x l): ∃a c,x= .slice a l.length c:=by
 rcases h with⟨rfl,rfl⟩|⟨i,off,rfl,rfl⟩|⟨i,off,c,b,rfl,_⟩
 ·exact⟨_,_,rfl⟩
 ·exact⟨_,_,rfl⟩
 ·exact⟨_,_,rfl⟩
theorem gN.len {x:Value}{l:PL}(h:gN H o q x l):cG x=some (cv l.length):=by
 obtain⟨a,c,rfl⟩:=h.isSlice;rfl
theorem Ig {cells:List Value}{off j:Nat}{l:PL}(h:(cells.drop off).take (2*l.length)=kq l){k:Nat}{v:Value}(hk:k<2*l.length)(hv:(kq l)[k]? =some v):cells[off+k]? =some v:=by
 rw[←h,List.getElem?_take,if_pos hk,List.getElem?_drop] at hv;exact hv
theorem gN.idx {x:Value}{l:PL}(h:gN H o q x l){j:Nat}(hj:j<l.length):
  ∃i off b,(∀H',cK 2 x (cv j) H'=some (.pointer (some ⟨i,off,none⟩),H'))∧H.get i=some b∧o i=q∧∀H':aa,H'.get i=some b→aq (.pointer (some ⟨i,off,none⟩)) H'=some (cv (l.getD j (0,0)).1)∧aq (.pointer (some ⟨i,off+1,none⟩)) H'=some (cv (l.getD j (0,0)).2)∧
   cZ 2 (.pointer (some ⟨i,off,none⟩)) H'=some (.agg #[cv (l.getD j (0,0)).1,cv (l.getD j (0,0)).2]):=by
 rcases h with⟨rfl,rfl⟩|⟨i,off,rfl,rfl⟩|⟨i,off,c,b,rfl,h2,h3,h4,h5,h6,h7⟩
 ·simp at hj
 ·simp at hj
 ·have c0:=Ig (j:=j) h7 (k:=2*j) (by omega) (yB hj)
  have c1:=Ig (j:=j) h7 (k:=2*j+1) (by omega) (yC hj)
  refine⟨i,off+2*j,b,λH'=>?_,h2,h4,λH' e=>?_⟩
  ·simp only[cK];rw[if_pos (by constructor<;>omega)];simp<;>omega
  ·refine⟨by rw[ao i _ H' e];exact c0,by rw[ao i _ H' e,Nat.add_assoc];exact c1,?_⟩
   have uu:aR H' i (off+2*j) 2=some [cv (l.getD j (0,0)).1,cv (l.getD j (0,0)).2]:=by
    simp only[aR,e];rw[if_pos (by omega)]
    have hd:b.cells.drop (off+2*j)=cv (l.getD j (0,0)).1::cv (l.getD j (0,0)).2::b.cells.drop (off+2*j+2):=by
     rw[List.drop_eq_getElem_cons (by omega),List.drop_eq_getElem_cons (by omega)]
     rw[List.getElem?_eq_getElem (by omega)] at c0 c1
     simp only[Option.some.injEq] at c0 c1;rw[c0];have:b.cells[off+2*j+1]'(by omega)=cv (l.getD j (0,0)).2:=c1
     rw[this]
    rw[hd];rfl
   simp only[cZ,uu]
theorem gN.src {x:Value}{l:PL}(h:gN H o q x l):Src H x l:=by
 rcases h with⟨rfl,rfl⟩|⟨i,off,rfl,rfl⟩|⟨i,off,c,b,rfl,h2,h3,h4,h5,h6,h7⟩
 ·exact⟨_,_,rfl,rfl⟩
 ·exact⟨_,_,rfl,rfl⟩
 ·refine⟨_,_,rfl,?_⟩;by_cases e:l.length=0
  ·have:l=[]:=by simpa using e
   subst this;rfl
  ·simp only[cF,e,if_false,aR,h2];rw[if_pos (by omega),Nat.mul_comm,h7]
theorem gN.cut {x:Value}{l:PL}(h:gN H o q x l){m n:Nat}(hm:m≤n)(hn:n≤l.length){lo hi:Option Value}(IS:db 0 lo=some (m:Int))(IT:db l.length hi=some (n:Int)):
  ∃y,pJ 2 H x lo hi=some y∧gN H o q y ((l.take n).drop m):=by
 rcases h with⟨rfl,rfl⟩|⟨i,off,rfl,rfl⟩|⟨i,off,c,b,rfl,h2,h3,h4,h5,h6,h7⟩
 ·have e1:n=0:=by simpa using hn
  subst e1;have e2:m=0:=by omega
  subst e2;refine⟨.slice none 0 0,?_,.inl ⟨rfl,rfl⟩⟩;have RE:db 0 hi=some 0:=IT;have RF:db 0 lo=some 0:=IS;simp[pJ,RF,RE]
 ·have e1:n=0:=by simpa using hn
  subst e1;have e2:m=0:=by omega
  subst e2;refine⟨.slice (some ⟨i,off,none⟩) 0 0,?_,.inr (.inl ⟨i,off,rfl,rfl⟩)⟩;have RE:db 0 hi=some 0:=IT;have RF:db 0 lo=some 0:=IS;cases hb:H.get i with
  |none=>simp[pJ,hb,RF,RE]
  |some b=>simp[pJ,hb,RF,RE]
 ·refine⟨.slice (some ⟨i,off+m*2,none⟩) (n-m) (c-m),?_,.inr (.inr ⟨i,off+m*2,c-m,b,?_,h2,h3,h4,?_,?_,?_⟩)⟩
  ·simp only[pJ,IS,IT];rw[if_pos (by omega)]
   simp only[h2,h3,if_true,Int.toNat_natCast]
  ·simp;omega
  ·simp;omega
  ·simp;omega
  ·have e:((l.take n).drop m).length=n-m:=by simp;omega
   rw[e, ←DZ, ←D0, ←h7,List.take_take,List.drop_take,List.drop_drop]
   congr 1
   ·omega
   ·congr 1;omega
theorem gN.ZE {x:Value}{l:PL}(h:gN H o q x l){n:Nat}(hn:n≤l.length): ∃y,pJ 2 H x none (some (cv n))=some y∧Src H y (l.take n):=by
 obtain⟨y,h1,h2⟩:=h.cut (m:=0) (n:=n) (lo:=none) (hi:=some (cv n)) (Nat.zero_le _) hn rfl (by simp[db,ql])
 exact⟨y,h1,by simpa using h2.src⟩
theorem gN.RG {x:Value}{l:PL}(h:gN H o q x l){n:Nat}(hn:n≤l.length): ∃y,pJ 2 H x (some (cv n)) none=some y∧Src H y (l.drop n):=by
 obtain⟨y,h1,h2⟩:=h.cut (m:=n) (n:=l.length) (lo:=some (cv n)) (hi:=none) hn (Nat.le_refl _) (by simp[db,ql]) rfl
 exact⟨y,h1,by simpa using h2.src⟩
end Go.Proofs.YtgfgglponbmgmaaGreatA.Am
end
