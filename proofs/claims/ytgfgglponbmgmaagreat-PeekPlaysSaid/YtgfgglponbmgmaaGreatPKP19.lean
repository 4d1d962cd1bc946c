/- Texts of the proof of peekPlays_holds, put together by a small program of ours (names shortened, spaces taken out). No condition beyond the given statement. -/
import Derived.Test.YtgfgglponbmgmaaGreatPKP18
import Derived.Test.YtgfgglponbmgmaaGreatPKP9
import Derived.Lib.Overlaps
import Derived.RangeFuncLeaves
set_option linter.unusedVariables false
set_option linter.unusedSimpArgs false
set_option linter.unnecessarySimpa false
noncomputable section
section
namespace Go.Proofs.YtgfgglponbmgmaaGreatA.Am
abbrev pv (p:Nat):Value:=.pointer (some ⟨p,0,none⟩)
variable {H H':aa}
theorem ar {p:Nat}{b:eU}(h:H.get p=some b):p<H.length:=aa.ar h
theorem aG {p:Nat}{b c:eU}(h:H.get p=some b):(H.put p c).get p=some c:=aa.je (ar h)
theorem bz {p q:Nat}{c:eU}(h:q≠p):(H.put p c).get q=H.get q:=aa.bz h
theorem iL (H:aa)(p:Nat)(c:eU):(H.put p c).length=H.length:=by simp[aa.put]
theorem gE (H:aa)(q:Nat):(H.kill q).length=H.length:=by simp[aa.kill]
theorem cB (H:aa)(c:eU):(H.new c).length=H.length+1:=by simp[aa.new]
theorem dh {i:Nat}{c:eU}(h:i<H.length):(H.new c).get i=H.get i:=aa.ue h
theorem aL {c:eU}:(H.new c).get H.length=some c:=aa.kC
theorem iW {q i:Nat}(h:i≠q):(H.kill q).get i=H.get i:=aa.iW h
section
variable {P:Program}
theorem se (t:TypeId)(a b:Int):ai P .lss t (cv a) (cv b)=some (.bool (decide (a<b))):=rfl
theorem IK (t:TypeId)(a b:Int):ai P .gtr t (cv a) (cv b)=some (.bool (decide (a>b))):=rfl
theorem Sl (t:TypeId)(a b:Int):ai P .leq t (cv a) (cv b)=some (.bool (decide (a≤b))):=rfl
theorem Sm (t:TypeId)(a b:Int):ai P .geq t (cv a) (cv b)=some (.bool (decide (a≥b))):=rfl
theorem sg (t:TypeId)(a b:Int):ai P .eql t (cv a) (cv b)=some (.bool (decide (a=b))):=by
 have h:(a==b)=decide (a=b):=by by_cases e:a=b<;>simp[e]
 rw[←h];rfl
theorem IL (t:TypeId)(a b:Int):ai P .neq t (cv a) (cv b)=some (.bool (!decide (a=b))):=by
 have h:(a==b)=decide (a=b):=by by_cases e:a=b<;>simp[e]
 rw[←h];rfl
theorem IM (t:TypeId)(a b:Int):ai P .add t (cv a) (cv b)=some (cv (IntKind.i64.wrap (a+b))):=rfl
theorem IN (t:TypeId)(a b:Int):ai P .sub t (cv a) (cv b)=some (cv (IntKind.i64.wrap (a-b))):=rfl
theorem CM (t:TypeId)(a b:Int):ai P .and t (cv a) (cv b)=some (cv (bits .and .i64 a b)):=rfl
theorem sh (t:TypeId)(a b:Int)(h:b≠0):ai P .rem t (cv a) (cv b)=some (cv (a.tmod b)):=by
 show(if b=0 then none else _)=_;rw[if_neg h]
theorem nu (t:TypeId)(a b:Int)(h:b≠0):ai P .quo t (cv a) (cv b)=some (cv (IntKind.i64.wrap (a.tdiv b))):=by
 show(if b=0 then none else _)=_;rw[if_neg h]
theorem gW (off:Nat)(p o:Nat)(H:aa):ak off (.pointer (some ⟨p,o,none⟩)) H=some (.pointer (some ⟨p,o+off,none⟩),H):=rfl
theorem ON (p o:Nat)(H:aa):au (.pointer (some ⟨p,o,none⟩)) H=some (.pointer (some ⟨p,o,none⟩),H):=rfl
theorem an (p o:Nat)(H:aa){b:eU}(h:H.get p=some b):aq (.pointer (some ⟨p,o,none⟩)) H=b.cells[o]? :=by
 simp only[aq,h]
theorem gX (p o:Nat)(x:Int)(H:aa){b:eU}(h:H.get p=some b)(hr:b.ro=false)(ho:o<b.cells.length):
  bE 1 (.pointer (some ⟨p,o,none⟩)) (cv x) H=some (undef,H.put p {b with cells:=b.cells.set o (cv x)}):=by
 simp only[bE,bX,h];rw[if_pos ⟨rfl,rfl⟩];have:(!b.ro&&decide (o+(cv x).cells.toList.length≤b.cells.length)&&(cv x).cells.toList.all aD)=true:=by
  rw[hr];simp[Value.cells,aD];omega
 rw[this];rfl
theorem Gm (p o:Nat)(b0:Option Addr)(n c:Nat)(H:aa){b:eU}(h:H.get p=some b)(hr:b.ro=false)(ho:o<b.cells.length):
  bE 1 (.pointer (some ⟨p,o,none⟩)) (.slice b0 n c) H=some (undef,H.put p {b with cells:=b.cells.set o (.slice b0 n c)}):=by
 simp only[bE,bX,h];rw[if_pos ⟨rfl,rfl⟩];have:(!b.ro&&decide (o+(Value.slice b0 n c).cells.toList.length≤b.cells.length)&&(Value.slice b0 n c).cells.toList.all aD)=true:=by
  rw[hr];simp[Value.cells,aD];omega
 rw[this];rfl
theorem ac4 (p o:Nat)(x:Option Addr)(H:aa){b:eU}(h:H.get p=some b)(hr:b.ro=false)(ho:o<b.cells.length):
  bE 1 (.pointer (some ⟨p,o,none⟩)) (.pointer x) H=some (undef,H.put p {b with cells:=b.cells.set o (.pointer x)}):=by
 simp only[bE,bX,h];rw[if_pos ⟨rfl,rfl⟩];have:(!b.ro&&decide (o+(Value.pointer x).cells.toList.length≤b.cells.length)&&(Value.pointer x).cells.toList.all aD)=true:=by
  rw[hr];simp[Value.cells,aD];omega
 rw[this];rfl
theorem uu {t e:TypeId}(o:Option Addr)(h:P.underlying t=some (.pointer e)):ai P .eql t (.pointer o) (.pointer none)=some (.bool o.isNone):=by
 cases o<;>simp[ai,il,h,Op.maxDepth]
theorem uw {t e:TypeId}(o:Option Addr)(h:P.underlying t=some (.pointer e)):ai P .neq t (.pointer o) (.pointer none)=some (.bool (!o.isNone)):=by
 cases o<;>simp[ai,il,h,Op.maxDepth]
theorem OO {t:TypeId}(a b:Bool)(h:P.underlying t=some .bool):ai P .neq t (.bool a) (.bool b)=some (.bool (!(a==b))):=by
 simp[ai,il,h,Op.maxDepth]
theorem Af {t e:TypeId}(b:Option Addr)(m c:Nat)(h:P.underlying t=some (.slice e)):ai P .eql t (.slice b m c) (.slice none 0 0)=some (.bool b.isNone):=by
 cases b<;>simp[ai,il,h,Op.maxDepth]
end
theorem fZ {x:Int}(h: -9223372036854775808≤x∧x≤9223372036854775807):IntKind.i64.wrap x=x:=by rw[IntKind.wrap_i64];omega
theorem ac5 {x:Int}(h:(Lit.int .i64 x).wf=true): -9223372036854775808≤x∧x≤9223372036854775807:=by
 simpa[Lit.wf,IntKind.min,IntKind.max,IntKind.signed,IntKind.bits] using h
abbrev aj:=Nat→Int
structure Fr (H:aa) (o:aj) (H':aa) (o':aj) (ps:List Int):Prop where
 slot: ∀i,i<H.length→o i ∉ ps→H'[i]? =H[i]?
 own: ∀i,i<H.length→o' i=o i
 size:H.length≤H'.length
theorem Fr.same {o o':aj}{ps:List Int}(f:Fr H o H' o' ps)(i:Nat)(h:i<H.length)(hp:o i ∉ ps):H'.get i=H.get i:=by
 unfold aa.get;rw[f.slot i h hp]
theorem Fr.refl (H:aa)(o:aj)(ps:List Int):Fr H o H o ps:=⟨λ_ _ _=>rfl,λ_ _=>rfl,Nat.le_refl _⟩
theorem Fr.trans {H1 H2:aa}{o o1 o2:aj}{ps qs rs:List Int}(h:Fr H o H1 o1 ps)(k:Fr H1 o1 H2 o2 qs)(hp: ∀i∈ps,i∈rs)(hq: ∀i∈qs,i∈rs):Fr H o H2 o2 rs:=
 ⟨λi hi hn=>by
  rw[k.slot i (Nat.lt_of_lt_of_le hi h.size) (λe=>hn (by rw[h.own i hi] at e;exact hq _ e)),h.slot i hi (λe=>hn (hp _ e))],
  λi hi=>by rw[k.own i (Nat.lt_of_lt_of_le hi h.size),h.own i hi],Nat.le_trans h.size k.size⟩
theorem Fr.tr {H1 H2:aa}{o o1 o2:aj}{ps:List Int}(h:Fr H o H1 o1 ps)(k:Fr H1 o1 H2 o2 ps):Fr H o H2 o2 ps:=h.trans k (λ_ h=>h) (λ_ h=>h)
theorem Fr.wk {o o':aj}{ps qs:List Int}(h:Fr H o H' o' ps)(hp: ∀i∈ps,i∈qs):Fr H o H' o' qs:=⟨λi hi hn=>h.slot i hi λe=>hn (hp _ e),h.own,h.size⟩
theorem ji {i j:Nat}{x:Slot}(h:j≠i):(H.set i x)[j]? =H[j]? :=List.getElem?_set_ne (Ne.symm h)
theorem Fr.set {o o':aj}{ps:List Int}(h:Fr H o H' o' ps){i:Nat}(x:Slot)(hi:i<H.length→o i∈ps):Fr H o (H'.set i x) o' ps:=by
 refine⟨λj hj hn=>?_,h.own,by rw[List.length_set];exact h.size⟩
 rw[ji,h.slot j hj hn];rintro rfl;exact hn (hi hj)
theorem Fr.put {o o':aj}{ps:List Int}(h:Fr H o H' o' ps){i:Nat}{c:eU}(hi:i<H.length→o i∈ps):Fr H o (H'.put i c) o' ps:=h.set _ hi
theorem Fr.kill {o o':aj}{ps:List Int}(h:Fr H o H' o' ps){i:Nat}(hi:i<H.length→o i∈ps):Fr H o (H'.kill i) o' ps:=h.set _ hi
def aj.up (o:aj)(i:Nat)(p:Int):aj:=λj=>if j=i then p else o j
theorem aP {o:aj}{i:Nat}{p:Int}:o.up i p i=p:=by simp[aj.up]
theorem dO {o:aj}{i j:Nat}{p:Int}(h:j≠i):o.up i p j=o j:=by simp[aj.up,h]
theorem Fr.new {o o':aj}{ps:List Int}(h:Fr H o H' o' ps)(c:eU)(p:Int):Fr H o (H'.new c) (o'.up H'.length p) ps:=by
 have:=h.size
 refine⟨λj hj hn=>?_,λj hj=>?_,by rw[cB];omega⟩
 ·unfold aa.new;rw[List.getElem?_append_left (by omega),h.slot j hj hn]
 ·rw[dO (by omega),h.own j hj]
theorem Fr.cE {o o':aj}{ps:List Int}(h:Fr H o H' o' ps)(n:Nat):Fr H o (H'.cE n) o' ps:=by
 have:=h.size
 refine⟨λj hj hn=>?_,h.own,by unfold aa.cE;rw[List.length_append];omega⟩
 unfold aa.cE;rw[List.getElem?_append_left (by omega),h.slot j hj hn]
theorem qI (vs:List Value): ∀(A R:List Value),vs.length≤R.length→dv (A++R) A.length vs=A++vs++R.drop vs.length:=by
 induction vs with
 |nil=>intro A R _;simp[dv]
 |cons v vs ih=>
  intro A R h;cases R with
  |nil=>simp at h
  |cons r R=>
   have e:(A++r::R).set A.length v=(A++[v])++R:=by simp
   have e2:A.length+1=(A++[v]).length:=by simp
   rw[dv,e,e2,ih _ _ (by simpa using h)]
   simp
def eM (H:aa)(x:Value)(l:List Int):Prop:=
 (x= .slice none 0 0∧l=[])∨∃i off c,x= .slice (some ⟨i,off,none⟩) l.length c∧(l≠[]→∃b,H.get i=some b∧b.es=1∧off+l.length≤b.cells.length∧(b.cells.drop off).take l.length=l.map cv)
theorem eM.src {x:Value}{l:List Int}(h:eM H x l): ∃b c,x= .slice b l.length c∧cI H 1 l.length x=some (l.map cv):=by
 rcases h with⟨rfl,rfl⟩|⟨i,off,c,rfl,hb⟩
 ·exact⟨none,0,rfl,rfl⟩
 ·refine⟨_,_,rfl,?_⟩;by_cases e:l=[]
  ·subst e;simp[cI]
  ·obtain⟨b,h1,_,h2,h3⟩:=hb e;have:l.length≠0:=by simpa using e
   simp only[cI,this,if_false,aR,h1,Nat.mul_one];rw[if_pos h2,h3]
theorem eM.len {x:Value}{l:List Int}(h:eM H x l):cC x=some (cv l.length):=by
 obtain⟨b,c,rfl,_⟩:=h.src;rfl
theorem eM.isSlice {x:Value}{l:List Int}(h:eM H x l): ∃b c,x= .slice b l.length c:=by
 obtain⟨b,c,e,_⟩:=h.src;exact⟨b,c,e⟩
theorem eM.idx {x:Value}{l:List Int}(h:eM H x l){j:Nat}(hj:j<l.length):
  ∃i off b,(∀H',cG 1 x (cv j) H'=some (.pointer (some ⟨i,off,none⟩),H'))∧H.get i=some b∧b.cells[off]? =some (cv (l.getD j 0)):=by
 rcases h with⟨rfl,rfl⟩|⟨i,off,c,rfl,hb⟩
 ·simp at hj
 ·obtain⟨b,h1,_,h2,h3⟩:=hb (by rintro rfl;simp at hj)
  refine⟨i,off+j,b,λH'=>?_,h1,?_⟩
  ·simp only[cG];rw[if_pos (by constructor<;>omega)];simp
  ·have:=congrArg (·[j]?) h3
   simp only[List.getElem?_take,hj,if_true,List.getElem?_drop,List.getElem?_map] at this;rw[this,List.getElem?_eq_getElem hj];simp[List.getD_eq_getElem?_getD,List.getElem?_eq_getElem hj]
theorem eM.keep {x:Value}{l:List Int}(h:eM H x l)(hk: ∀i b,x= .slice (some b) l.length i→l≠[]→H'.get b.block=H.get b.block):eM H' x l:=by
 rcases h with h|⟨i,off,c,rfl,hb⟩
 ·exact .inl h
 ·refine .inr ⟨i,off,c,rfl,λe=>?_⟩
  obtain⟨b,h1,h2⟩:=hb e;exact⟨b,by rw[hk c ⟨i,off,none⟩ rfl e];exact h1,h2⟩
def du (H:aa)(o:aj)(q:Int)(x:Value)(l:List Int):Prop:=eM H x l∧∀b n c,x= .slice (some b) n c→l≠[]→b.block<H.length∧o b.block=q
theorem du.fr {o o':aj}{ps:List Int}{q:Int}{x:Value}{l:List Int}(h:du H o q x l)(f:Fr H o H' o' ps)(hp:q ∉ ps):du H' o' q x l:=by
 obtain⟨h1,h2⟩:=h;refine⟨h1.keep λi b e dz=>?_,λb n c e dz=>?_⟩
 ·obtain⟨k1,k2⟩:=h2 b _ _ e dz;exact f.same _ k1 (by rw[k2];exact hp)
 ·obtain⟨k1,k2⟩:=h2 b _ _ e dz;exact⟨Nat.lt_of_lt_of_le k1 f.size,by rw[f.own _ k1];exact k2⟩
theorem du.nil {o:aj}{q:Int}:du H o q (.slice none 0 0) []:=⟨.inl ⟨rfl,rfl⟩,λb n c e _=>by cases e⟩
def oM (H:aa)(o:aj)(p:Int)(s:Value)(cs:List Int):Prop:=
 (s= .slice none 0 0∧cs=[])∨∃q cap rest ty,s= .slice (some ⟨q,0,none⟩) cs.length cap∧H.get q=some ⟨cs.map cv++rest,ty,1,false⟩∧cs.length+rest.length=cap∧o q=p
theorem oM.ints {o:aj}{p:Int}{s:Value}{cs:List Int}(h:oM H o p s cs):du H o p s cs:=by
 rcases h with⟨rfl,rfl⟩|⟨q,cap,rest,ty,rfl,hb,hc,ho⟩
 ·exact .nil
 ·refine⟨.inr ⟨q,0,cap,rfl,λ_=>⟨_,hb,rfl,by simp,by simp⟩⟩,λb n c e _=>?_⟩
  cases e;exact⟨ar hb,ho⟩
theorem oM.fr {o o':aj}{ps:List Int}{p:Int}{s:Value}{cs:List Int}(h:oM H o p s cs)(f:Fr H o H' o' ps)(hp:p ∉ ps):oM H' o' p s cs:=by
 rcases h with h|⟨q,cap,rest,ty,hs,hb,hc,ho⟩
 ·exact .inl h
 ·exact .inr ⟨q,cap,rest,ty,hs,by rw[f.same q (ar hb) (by rw[ho];exact hp)];exact hb,hc,by rw[f.own q (ar hb)];exact ho⟩
theorem oM.isSlice {o:aj}{p:Int}{s:Value}{cs:List Int}(h:oM H o p s cs): ∃b c,s= .slice b cs.length c:=by
 rcases h with⟨rfl,rfl⟩|⟨q,cap,rest,ty,rfl,_⟩
 ·exact⟨_,_,rfl⟩
 ·exact⟨_,_,rfl⟩
theorem oM.set {o:aj}{p:Int}{s:Value}{cs:List Int}(h:oM H o p s cs){j:Nat}(hj:j<cs.length)(x:Int):
  ∃q b c,(∀H',cG 1 s (cv j) H'=some (.pointer (some ⟨q,j,none⟩),H'))∧H.get q=some b∧b.ro=false∧o q=p∧b.cells[j]? =some (cv (cs.getD j 0))∧(∃n k,s= .slice (some ⟨q,0,none⟩) n k)∧
   bE 1 (.pointer (some ⟨q,j,none⟩)) (cv x) H=some (undef,H.put q c)∧oM (H.put q c) o p s (cs.set j x):=by
 rcases h with⟨rfl,rfl⟩|⟨q,cap,rest,ty,rfl,hb,hc,ho⟩
 ·simp at hj
 ·refine⟨q,_,⟨(cs.set j x).map cv++rest,ty,1,false⟩,λH'=>?_,hb,rfl,ho,?_,⟨_,_,rfl⟩,?_,.inr ⟨q,cap,rest,ty,by simp,aG hb,by simpa using hc,ho⟩⟩
  ·simp only[cG];rw[if_pos (by constructor<;>omega)];simp
  ·show(List.map cv cs++rest)[j]? =_
   rw[List.getElem?_append_left (by simpa using hj),List.getElem?_map,List.getElem?_eq_getElem hj];simp[List.getD_eq_getElem?_getD,List.getElem?_eq_getElem hj]
  ·rw[gX _ _ _ _ hb rfl (by simp;omega)]
   simp only[List.set_append,List.length_map,hj,if_true,List.map_set]
theorem jY {o:aj}{p:Int}{s x:Value}{cs l:List Int}(t:TypeId)(hs:oM H o p s cs)(hx:eM H x l)(hb:cs.length+l.length≤4294967296):
  ∃s' H' o',df t 1 8 s x H=some (s',H')∧oM H' o' p s' (cs++l)∧Fr H o H' o' [p]∧(∀i,(∀n k,s≠ .slice (some ⟨i,0,none⟩) n k)→i<H.length→H'.get i=H.get i∧o' i=o i∧∀n k,s'≠ .slice (some ⟨i,0,none⟩) n k):=by
 obtain⟨b,c,rfl,hc⟩:=hx.src;by_cases hl:l=[]
 ·subst hl;refine⟨s,H,o,?_,by simpa using hs,.refl _ _ _,λi hi _=>⟨rfl,rfl,hi⟩⟩
  rcases hs with⟨rfl,rfl⟩|⟨q,cap,rest,ty,rfl,Zi,zM,ho⟩
  ·simp only[df,hc,Option.map_some];simp
  ·simp only[df,hc,Option.map_some];rw[if_pos (by simp;omega)];simp
 have hlen:l.length≠0:=by simpa using hl
 rcases hs with⟨rfl,rfl⟩|⟨q,cap,rest,ty,rfl,Zi,zM,ho⟩
 ·refine⟨.slice (some ⟨H.length,0,none⟩) l.length l.length,H.new ⟨l.map cv,t,1,false⟩,o.up H.length p,?_,?_,(Fr.refl _ _ _).new _ _,λi _ hi=>⟨dh hi,dO (by omega),λn k e=>by cases e;omega⟩⟩
  ·simp only[df,hc,Option.map_some];rw[if_neg (by omega),if_pos (by simp;simp at hb;omega)]
   simp
  ·exact .inr ⟨H.length,l.length,[],t,by simp,by simpa using aL,by simp,aP⟩
 ·have hql:=ar Zi;by_cases jg:cs.length+l.length≤cap
  ·refine⟨.slice (some ⟨q,0,none⟩) (cs++l).length cap,H.put q ⟨(cs++l).map cv++rest.drop l.length,ty,1,false⟩,o,?_,?_,(Fr.refl _ _ _).put (λ_=>by simp[ho]),λi hi _=>⟨bz (by rintro rfl;exact hi _ _ rfl),rfl,λn k e=>by cases e;exact hi _ _ rfl⟩⟩
   ·simp only[df,hc,Option.map_some];rw[if_pos jg,if_neg hlen];simp only[Zi,if_true,bX];rw[if_pos (by simp[aD];omega)]
    have e:=qI (l.map cv) (cs.map cv) rest (by simp;omega)
    simp only[List.length_map] at e;simp only[Nat.mul_one,Nat.zero_add,e,Option.map_some,List.map_append,List.length_append]
   ·exact .inr ⟨q,cap,rest.drop l.length,ty,rfl,aG Zi,by simp;omega,ho⟩
  ·refine⟨.slice (some ⟨H.length,0,none⟩) (cs++l).length (cs++l).length,(H.kill q).new ⟨(cs++l).map cv,t,1,false⟩,o.up H.length p,?_,?_,?_,?_⟩
   ·simp only[df,hc,Option.map_some];rw[if_neg jg,if_pos (by simp;omega)]
    simp only[Zi];rw[if_pos (by simp;omega)]
    have e:aR H q 0 (cs.length*1)=some (cs.map cv):=by
     simp only[aR,Zi];rw[if_pos (by simp)]
     simp
    simp only[e,List.map_append,List.length_append]
   ·have:=aL (H:=H.kill q) (c:=⟨(cs++l).map cv,t,1,false⟩)
    rw[gE] at this;exact .inr ⟨H.length,(cs++l).length,[],t,rfl,by simpa using this,by simp,aP⟩
   ·have:=((Fr.refl H o [p]).kill (i:=q) (λ_=>by simp[ho])).new ⟨(cs++l).map cv,t,1,false⟩ p
    rw[gE] at this;exact this
   ·intro i hi Zj;refine⟨?_,dO (by omega),λn k e=>by cases e;omega⟩
    rw[dh (by rw[gE];exact Zj),iW (by rintro rfl;exact hi _ _ rfl)]
theorem oM.new (H:aa)(o:aj)(r:Int)(t:TypeId)(l:List Int):oM (H.new ⟨l.map cv,t,1,false⟩) (o.up H.length r) r (.slice (some ⟨H.length,0,none⟩) l.length l.length) l:=
 .inr ⟨H.length,l.length,[],t,rfl,by simpa using aL,by simp,aP⟩
section
variable {P:Program} {f:Nat} {t e:TypeId}
def XW (x:Int):Prop:= -9223372036854775808≤x∧x≤9223372036854775807
abbrev o0:aj:=λ_=> -1
theorem In.int (ht:P.underlying t=some (.int .i64)){cs:List Value}(h:In P H (f+1) t cs): ∃a,cs=[cv a]∧XW a:=by
 simp only[In,ht] at h;obtain⟨n,rfl,h⟩:=h;exact⟨n,rfl,ac5 h⟩
theorem In.bool (ht:P.underlying t=some .bool){cs:List Value}(h:In P H (f+1) t cs): ∃a,cs=[.bool a]:=by
 simp only[In,ht] at h;exact h
theorem In.slice (ht:P.underlying t=some (.slice e)){cs:List Value}(h:In P H (f+1) t cs):cs=[.slice none 0 0]∨∃(i:Nat) (es:List (List Value)),cs=[.slice (some ⟨i,0,none⟩) es.length es.length]∧es.length≤maxLen∧
  (0<es.length→H.get i=some ⟨es.flatten,e,P.cellsOf e,true⟩)∧∀x,x∈es→x.length=P.cellsOf e∧In P H f e x:=by
 simp only[In,ht] at h;exact h
theorem In.ints (ht:P.underlying t=some (.slice e))(he:P.underlying e=some (.int .i64))(hc:P.cellsOf e=1){cs:List Value}(h:In P H (f+2) t cs):
  ∃v l,cs=[v]∧du H o0 (-1) v l∧(∀x∈l,XW x)∧l.length≤maxLen:=by
 unfold In at h;rw[ht] at h;simp only at h;rcases h with rfl|⟨i,es,rfl,hm,hg,jt⟩
 ·exact⟨_,[],rfl,.nil,(λx hx=>by cases hx),by simp⟩
 ·have: ∃l:List Int,es=l.map (λx=>[cv x])∧∀x∈l,XW x:=by
   clear hm hg;induction es with
   |nil=>exact⟨[],rfl,λx hx=>by cases hx⟩
   |cons y es ih=>
    obtain⟨l,rfl,hl⟩:=ih (λx hx=>jt x (List.mem_cons_of_mem _ hx))
    obtain⟨a,rfl,ha⟩:=In.int he (jt y (List.mem_cons_self ..)).2;exact⟨a::l,rfl,λx hx=>(List.mem_cons.1 hx).elim (λe=>e▸ha) (hl x)⟩
  obtain⟨l,rfl,hl⟩:=this;have Fa:(l.map (λx=>[cv x])).flatten=l.map cv:=by
   clear hm hg jt hl;induction l with
   |nil=>rfl
   |cons a l ih=>simp[ih]
  rw[Fa] at hg;simp only[List.length_map] at hg hm;refine⟨_,l,rfl,⟨.inr ⟨i,0,l.length,by simp,λdz=>⟨_,hg (List.length_pos_iff.2 dz),hc,by simp,by show(List.drop 0 (l.map cv)).take l.length=_;rw[List.drop_zero,List.take_of_length_le (by simp)]⟩⟩,λb n c eq dz=>?_⟩,hl,hm⟩
  cases eq;exact⟨ar (hg (List.length_pos_iff.2 dz)),rfl⟩
theorem lW.one (hs: ∀fs,P.underlying t≠some (.struct fs)){v:Value}(h:lW P H f t v):In P H f t [v]:=by
 obtain⟨cs,h1,h2⟩:=h;split at h2
 ·rename_i fs e;exact absurd e (hs fs)
 ·subst h2;exact h1
theorem lW.int (ht:P.underlying t=some (.int .i64)){v:Value}(h:lW P H (f+1) t v): ∃a,v=cv a∧XW a:=by
 obtain⟨a,h1,h2⟩:=In.int ht (h.one (by simp[ht]));cases h1;exact⟨a,rfl,h2⟩
theorem lW.bool (ht:P.underlying t=some .bool){v:Value}(h:lW P H (f+1) t v): ∃a,v= .bool a:=by
 obtain⟨a,h1⟩:=In.bool ht (h.one (by simp[ht]));cases h1;exact⟨a,rfl⟩
theorem lW.ints (ht:P.underlying t=some (.slice e))(he:P.underlying e=some (.int .i64))(hc:P.cellsOf e=1){v:Value}(h:lW P H (f+2) t v):
  ∃l,du H o0 (-1) v l∧(∀x∈l,XW x)∧l.length≤maxLen:=by
 obtain⟨v',l,h1,h2⟩:=In.ints ht he hc (h.one (by simp[ht]));cases h1;exact⟨l,h2⟩
end
variable {H H':aa} {o o':aj} {p:Int}
theorem ek {i:Nat}(h:H'[i]? =H[i]?):H'.get i=H.get i:=by unfold aa.get;rw[h]
theorem fv {i j:Nat}{c:eU}(h:j≠i):(H.put i c)[j]? =H[j]? :=ji h
theorem LJ {i j:Nat}(h:j≠i):(H.kill i)[j]? =H[j]? :=ji h
theorem mL {j:Nat}{c:eU}(h:j<H.length):(H.new c)[j]? =H[j]? :=by unfold aa.new;rw[List.getElem?_append_left h]
theorem Gn {j n:Nat}(h:j<H.length):(H.cE n)[j]? =H[j]? :=by unfold aa.cE;rw[List.getElem?_append_left h]
theorem A9:(H.cE 1)[H.length]? =some .hole:=by
 unfold aa.cE;rw[List.getElem?_append_right (Nat.le_refl _)];simp
theorem Ba (n:Nat):(H.cE n).length=H.length+n:=by unfold aa.cE;simp
theorem si {i:Nat}{b:eU}(h:i<H.length):aa.get (H.set i (.zA b)) i=some b:=by
 unfold aa.get;rw[List.getElem?_set_self h]
section
variable {α:Type} (lt:α→α→Bool)
end
theorem sj (p o:Nat)(x:Value)(H:aa){b:eU}(h:H.get p=some b)(hr:b.ro=false)(ho:o<b.cells.length)(hx:x.cells= #[x])(hk:known x=true)(h1:aD x=true):
  bE 1 (.pointer (some ⟨p,o,none⟩)) x H=some (undef,H.put p {b with cells:=b.cells.set o x}):=by
 simp only[bE,bX,h,hx,hk];rw[if_pos ⟨rfl,trivial⟩];have:(!b.ro&&decide (o+ #[x].toList.length≤b.cells.length)&& #[x].toList.all aD)=true:=by
  rw[hr];simp[h1];omega
 rw[this];rfl
variable {α β:Type}
def Ev (t:Nat→Option β)(Q:β→Prop):Prop:=∃N r,(∀n,N≤n→t n=some r)∧Q r
theorem Ev.ret {r:β}{Q:β→Prop}(h:Q r):Ev (λ_=>some r) Q:=⟨0,r,λ_ _=>rfl,h⟩
theorem Ev.mono {t:Nat→Option β}{Q R:β→Prop}(h:Ev t Q)(k: ∀r,Q r→R r):Ev t R:=by
 obtain⟨N,r,h1,h2⟩:=h;exact⟨N,r,h1,k r h2⟩
theorem Ev.up {t u:Nat→Option β}{Q:β→Prop}(h:Ev t Q)(k: ∀n,u (n+1)=t n):Ev u Q:=by
 obtain⟨N,r,h1,h2⟩:=h;refine⟨N+1,r,λn hn=>?_,h2⟩
 cases n with
 |zero=>omega
 |succ n=>rw[k,h1 n (by omega)]
theorem Ev.af {t:Nat→Option (Value×aa)}{k:Nat→Value→aa→Option α}{Q1:Value×aa→Prop}{Q:α→Prop}(h:Ev t Q1)(hk: ∀v H,Q1 (v,H)→Ev (λn=>k n v H) Q):Ev (λn=>af (t n) (k n)) Q:=by
 obtain⟨N,⟨v,H⟩,h1,h2⟩:=h;obtain⟨M,r,h3,h4⟩:=hk v H h2;refine⟨max N M,r,λn hn=>?_,h4⟩
 simp only[h1 n (by omega)]
 exact h3 n (by omega)
theorem Ev.cl {t:Nat→bh}{k:Nat→bD→List Value→aa→Option α}{Q1:bD×List Value×aa→Prop}{Q:α→Prop}(h:Ev t Q1)(hk: ∀e vs H,Q1 (e,vs,H)→Ev (λn=>k n e vs H) Q):Ev (λn=>cl (t n) (k n)) Q:=by
 obtain⟨N,⟨e,vs,H⟩,h1,h2⟩:=h;obtain⟨M,r,h3,h4⟩:=hk e vs H h2;refine⟨max N M,r,λn hn=>?_,h4⟩
 simp only[h1 n (by omega)]
 exact h3 n (by omega)
theorem Ev.br {x y:Nat→Option α}{b:Bool}{Q:α→Prop}(h:b=true→Ev x Q)(k:b=false→Ev y Q):Ev (λn=>aX (.bool b) (x n) (y n)) Q:=by
 cases b with
 |true=>exact h rfl
 |false=>exact k rfl
theorem Ev.iter {step:Nat→List Value→aa→bh}{I:Nat→List Value→aa→Prop}{R:bD×List Value×aa→Prop}(h: ∀k vs H,I k vs H→Ev (λn=>step n vs H) λr=>(r.1= .normal∧∃k',k'<k∧I k' r.2.1 r.2.2)∨(r.1≠ .normal∧R r)):
  ∀k vs H,I k vs H→Ev (λn=>Am.iter n (step n) vs H) λr=>r.1≠ .normal∧R r:=by
 have key: ∀k vs H,I k vs H→∃N r,(∀n m,N≤n→N≤m→Am.iter m (step n) vs H=some r)∧r.1≠ .normal∧R r:=by
  intro k;induction k using Nat.strongRecOn with
  |ind k ih=>
   intro vs H hi;obtain⟨N,⟨e,ja,H'⟩,h1,h2⟩:=h k vs H hi;rcases h2 with⟨he,k',hk,qv⟩|⟨he,hr⟩
   ·simp only at he;subst he;obtain⟨M,r,h3,h4⟩:=ih k' hk ja H' qv;refine⟨max N M+1,r,λn m hn hm=>?_,h4⟩
    cases m with
    |zero=>omega
    |succ m=>
     simp only[Am.iter,h1 n (by omega)]
     exact h3 n m (by omega) (by omega)
   ·refine⟨N+1,(e,ja,H'),λn m hn hm=>?_,he,hr⟩
    cases m with
    |zero=>omega
    |succ m=>
     simp only[Am.iter,h1 n (by omega)]
     cases e with
     |normal=>exact absurd rfl he
     |exit i=>rfl
     |ret=>rfl
 intro k vs H hi;obtain⟨N,r,h1,h2⟩:=key k vs H hi;exact⟨N,r,λn hn=>h1 n n hn hn,h2⟩
theorem Ev.loop {step:Nat→List Value→aa→bh}{kk:Nat→bD→List Value→aa→Option α}{Q:α→Prop}(I:Nat→List Value→aa→Prop)(R:bD×List Value×aa→Prop){k:Nat}{vs:List Value}{H:aa}(hi:I k vs H)(h: ∀k vs H,I k vs H→Ev (λn=>step n vs H) λr=>(r.1= .normal∧∃k',k'<k∧I k' r.2.1 r.2.2)∨(r.1≠ .normal∧R r))(hk: ∀e vs H,R (e,vs,H)→Ev (λn=>kk n e vs H) Q):Ev (λn=>Am.cl (Am.iter n (step n) vs H) (kk n)) Q:=
 Ev.cl (Ev.iter h k vs H hi) λe vs H hr=>hk e vs H hr.2
abbrev aF (C:Nat→ae)(f:Nat)(args:List Value)(H:aa)(Q:Value→aa→Prop):Prop:=Ev (λn=>C n f args H) λr=>Q r.1 r.2
theorem aF.is {C:Nat→ae}{f:Nat}{args:List Value}{H H':aa}{v:Value}{Q:Value→aa→Prop}(h: ∀n,C (n+1) f args H=some (v,H'))(hq:Q v H'):aF C f args H Q:=
 ⟨1,(v,H'),λn hn=>by
  cases n with
  |zero=>omega
  |succ n=>exact h n,hq⟩
theorem aF.mono {C:Nat→ae}{f:Nat}{args:List Value}{H:aa}{Q R:Value→aa→Prop}(h:aF C f args H Q)(k: ∀v H',Q v H'→R v H'):aF C f args H R:=Ev.mono h λr=>k r.1 r.2
theorem Ev.call {C:Nat→ae}{f:Nat}{args:List Value}{H:aa}{Q1:Value→aa→Prop}{k:Nat→Value→aa→Option α}{Q:α→Prop}(h:aF C f args H Q1)(hk: ∀v H',Q1 v H'→Ev (λn=>k n v H') Q):Ev (λn=>Am.af (C n f args H) (k n)) Q:=
 Ev.af h λv H' hq=>hk v H' hq
variable {H H':aa} {o o':aj} {q:Int}
abbrev PL:=List (Int×Int)
def ku:PL→List Value
 | []=>[]
 |x::l=>cv x.1::cv x.2::ku l
theorem sk: ∀l:PL,(ku l).length=2*l.length
 | []=>rfl
 |x::l=>by simp only[ku,List.length_cons,sk l];omega
theorem CN: ∀a b:PL,ku (a++b)=ku a++ku b
 | [],b=>rfl
 |x::a,b=>by simp only[List.cons_append,ku,CN a b]
theorem IP: ∀l:PL,(ku l).all aD=true
 | []=>rfl
 |x::l=>by simp only[ku,List.all_cons,IP l,Bool.and_true];rfl
theorem El: ∀(l:PL) (n:Nat),(ku l).drop (2*n)=ku (l.drop n)
 |l,0=>rfl
 | [],n+1=>by simp[ku]
 |x::l,n+1=>by
  rw[show 2*(n+1)=2*n+1+1 by omega]
  simp only[ku,List.drop_succ_cons];exact El l n
theorem Em: ∀(l:PL) (n:Nat),(ku l).take (2*n)=ku (l.take n)
 |l,0=>rfl
 | [],n+1=>by simp[ku]
 |x::l,n+1=>by
  rw[show 2*(n+1)=2*n+1+1 by omega]
  simp only[ku,List.take_succ_cons,Em l n]
theorem yR: ∀{l:PL} {j:Nat},j<l.length→(ku l)[2*j]? =some (cv (l.getD j (0,0)).1)
 | [],j,h=>by simp at h
 |x::l,0,h=>rfl
 |x::l,j+1,h=>by
  rw[show 2*(j+1)=2*j+1+1 by omega]
  simp only[ku,List.getElem?_cons_succ,List.getD_cons_succ];exact yR (by simpa using h)
theorem yS: ∀{l:PL} {j:Nat},j<l.length→(ku l)[2*j+1]? =some (cv (l.getD j (0,0)).2)
 | [],j,h=>by simp at h
 |x::l,0,h=>rfl
 |x::l,j+1,h=>by
  rw[show 2*(j+1)+1=2*j+1+1+1 by omega]
  simp only[ku,List.getElem?_cons_succ,List.getD_cons_succ];exact yS (by simpa using h)
def gY (H:aa)(o:aj)(q:Int)(x:Value)(l:PL):Prop:=
 (x= .slice none 0 0∧l=[])∨∃i cap rest ty,x= .slice (some ⟨i,0,none⟩) l.length cap∧H.get i=some ⟨ku l++rest,ty,2,false⟩∧2*l.length+rest.length=2*cap∧o i=q
theorem gY.nil:gY H o q (.slice none 0 0) []:=.inl ⟨rfl,rfl⟩
theorem gY.fr {x:Value}{l:PL}{ps:List Int}(h:gY H o q x l)(f:Fr H o H' o' ps)(hp:q ∉ ps):gY H' o' q x l:=by
 rcases h with h|⟨i,cap,rest,ty,h1,h2,h3,h4⟩
 ·exact .inl h
 ·exact .inr ⟨i,cap,rest,ty,h1,by rw[f.same i (ar h2) (by rw[h4];exact hp)];exact h2,h3,by rw[f.own i (ar h2)];exact h4⟩
theorem gY.isSlice {x:Value}{l:PL}(h:gY H o q x l): ∃a c,x= .slice a l.length c:=by
 rcases h with⟨rfl,rfl⟩|⟨i,cap,rest,ty,rfl,_⟩
 ·exact⟨_,_,rfl⟩
 ·exact⟨_,_,rfl⟩
theorem gY.len {x:Value}{l:PL}(h:gY H o q x l):cC x=some (cv l.length):=by
 obtain⟨a,c,rfl⟩:=h.isSlice;rfl
theorem gY.idx {x:Value}{l:PL}(h:gY H o q x l){j:Nat}(hj:j<l.length):
  ∃i b,(∀H',cG 2 x (cv j) H'=some (.pointer (some ⟨i,2*j,none⟩),H'))∧H.get i=some b∧o i=q∧∀H':aa,H'.get i=some b→aq (.pointer (some ⟨i,2*j,none⟩)) H'=some (cv (l.getD j (0,0)).1)∧aq (.pointer (some ⟨i,2*j+1,none⟩)) H'=some (cv (l.getD j (0,0)).2)∧
   c8 2 (.pointer (some ⟨i,2*j,none⟩)) H'=some (.agg #[cv (l.getD j (0,0)).1,cv (l.getD j (0,0)).2]):=by
 rcases h with⟨rfl,rfl⟩|⟨i,cap,rest,ty,rfl,h2,h3,h4⟩
 ·simp at hj
 ·have g0:=yR hj;have g1:=yS hj;have l0:=sk l;refine⟨i,_,λH'=>?_,h2,h4,λH' e=>?_⟩
  ·simp only[cG];rw[if_pos (by constructor<;>omega)];simp<;>omega
  ·have c0:(ku l++rest)[2*j]? =some (cv (l.getD j (0,0)).1):=by rw[List.getElem?_append_left (by omega)];exact g0
   have c1:(ku l++rest)[2*j+1]? =some (cv (l.getD j (0,0)).2):=by rw[List.getElem?_append_left (by omega)];exact g1
   refine⟨by rw[an i _ H' e];exact c0,by rw[an i _ H' e];exact c1,?_⟩
   have uL:aR H' i (2*j) 2=some [cv (l.getD j (0,0)).1,cv (l.getD j (0,0)).2]:=by
    simp only[aR,e];rw[if_pos (by rw[List.length_append];omega)]
    have hd:(ku l++rest).drop (2*j)=cv (l.getD j (0,0)).1::cv (l.getD j (0,0)).2::(ku l++rest).drop (2*j+2):=by
     rw[List.drop_eq_getElem_cons (by rw[List.length_append];omega),List.drop_eq_getElem_cons (by rw[List.length_append];omega)]
     rw[List.getElem?_eq_getElem (by rw[List.length_append];omega)] at c0 c1
     simp only[Option.some.injEq] at c0 c1;rw[c0,c1]
    rw[hd];rfl
   simp only[c8,uL]
def Src (H:aa)(x:Value)(l:PL):Prop:=∃a c,x= .slice a l.length c∧cI H 2 l.length x=some (ku l)
theorem Src.one {i:Nat}{k v:Int}{t:TypeId}(h:H.get i=some ⟨[cv k,cv v],t,2,false⟩):Src H (.slice (some ⟨i,0,none⟩) 1 1) [(k,v)]:=
 ⟨_,_,rfl,by simp[cI,aR,h,ku]⟩
theorem gY.app {x y:Value}{l m:PL}(t:TypeId)(h:gY H o q x l)(hy:Src H y m)(hb:l.length+m.length≤4294967296):
  ∃x' H' o',df t 2 16 x y H=some (x',H')∧gY H' o' q x' (l++m)∧Fr H o H' o' [q]∧(∀i,(∀n k,x≠ .slice (some ⟨i,0,none⟩) n k)→i<H.length→H'[i]? =H[i]? ∧∀n k,x'≠ .slice (some ⟨i,0,none⟩) n k):=by
 obtain⟨b,c,rfl,hc⟩:=hy;by_cases hm:m=[]
 ·subst hm;refine⟨x,H,o,?_,by simpa using h,.refl _ _ _,λi hi _=>⟨rfl,hi⟩⟩
  rcases h with⟨rfl,rfl⟩|⟨i,cap,rest,ty,rfl,h2,h3,h4⟩
  ·simp only[df,hc,Option.map_some];simp
  ·simp only[df,hc,Option.map_some];rw[if_pos (by simp;omega)];simp
 have QK:m.length≠0:=by simpa using hm
 have lm:=sk m;rcases h with⟨rfl,rfl⟩|⟨i,cap,rest,ty,rfl,h2,h3,h4⟩
 ·refine⟨.slice (some ⟨H.length,0,none⟩) m.length m.length,H.new ⟨ku m,t,2,false⟩,o.up H.length q,?_,?_,(Fr.refl _ _ _).new _ _,λi _ hi=>⟨mL hi,λn k e=>by cases e;omega⟩⟩
  ·simp only[df,hc,Option.map_some];rw[if_neg (by omega),if_pos (by simp;simp at hb;omega)]
   simp
  ·exact .inr ⟨H.length,m.length,[],t,by simp,by simpa using aL,by simp,aP⟩
 ·have hql:=ar h2;have ll:=sk l;by_cases jg:l.length+m.length≤cap
  ·refine⟨.slice (some ⟨i,0,none⟩) (l++m).length cap,H.put i ⟨ku (l++m)++rest.drop (2*m.length),ty,2,false⟩,o,?_,?_,(Fr.refl _ _ _).put (λ_=>by simp[h4]),λj hj _=>⟨fv (by rintro rfl;exact hj _ _ rfl),λn k e=>by cases e;exact hj _ _ rfl⟩⟩
   ·simp only[df,hc,Option.map_some];rw[if_pos jg,if_neg QK];simp only[h2,if_true,bX];rw[if_pos (by simp only[IP,List.length_append,lm,ll,Bool.not_false,Bool.true_and,Bool.and_true,decide_eq_true_eq];omega)]
    have e:=qI (ku m) (ku l) rest (by rw[lm];omega)
    rw[ll,lm] at e;simp only[Nat.zero_add,show l.length*2=2*l.length by omega,e,Option.map_some,CN,List.length_append]
   ·exact .inr ⟨i,cap,rest.drop (2*m.length),ty,rfl,aG h2,by simp;omega,h4⟩
  ·refine⟨.slice (some ⟨H.length,0,none⟩) (l++m).length (l++m).length,(H.kill i).new ⟨ku (l++m),t,2,false⟩,o.up H.length q,?_,?_,?_,?_⟩
   ·simp only[df,hc,Option.map_some];rw[if_neg jg,if_pos (by simp;omega)]
    simp only[h2];rw[if_pos (by simp[ll];omega)]
    have e:aR H i 0 (l.length*2)=some (ku l):=by
     simp only[aR,h2];rw[if_pos (by rw[List.length_append];omega),List.drop_zero,List.take_left' (by omega)]
    simp only[e,CN,List.length_append]
   ·have:=aL (H:=H.kill i) (c:=⟨ku (l++m),t,2,false⟩)
    rw[gE] at this;exact .inr ⟨H.length,(l++m).length,[],t,rfl,by simpa using this,by simp,aP⟩
   ·have:=((Fr.refl H o [q]).kill (i:=i) (λ_=>by simp[h4])).new ⟨ku (l++m),t,2,false⟩ q
    rw[gE] at this;exact this
   ·intro j hj AB;exact⟨by rw[mL (by rw[gE];exact AB),LJ (by rintro rfl;exact hj _ _ rfl)],λn k e=>by cases e;omega⟩
theorem gY.relabel {x:Value}{l:PL}{q':Int}(h:gY H o q x l)(k: ∀i,i<H.length→o i=q→o' i=q'):gY H o' q' x l:=by
 rcases h with h|⟨i,cap,rest,ty,h1,h2,h3,h4⟩
 ·exact .inl h
 ·exact .inr ⟨i,cap,rest,ty,h1,h2,h3,k i (ar h2) h4⟩
variable {H H':aa} {o o':aj} {q:Int}
def gT (H:aa)(o:aj)(q:Int)(x:Value)(l:PL):Prop:=
 (x= .slice none 0 0∧l=[])∨(∃i off,x= .slice (some ⟨i,off,none⟩) 0 0∧l=[])∨
 ∃i off c b,x= .slice (some ⟨i,off,none⟩) l.length c∧H.get i=some b∧b.es=2∧o i=q∧l.length≤c∧off+2*l.length≤b.cells.length∧(b.cells.drop off).take (2*l.length)=ku l
theorem gY.r {x:Value}{l:PL}(h:gY H o q x l):gT H o q x l:=by
 rcases h with h|⟨i,cap,rest,ty,h1,h2,h3,h4⟩
 ·exact .inl h
 ·have:=sk l
  exact .inr (.inr ⟨i,0,cap,_,h1,h2,rfl,h4,by omega,by simp;omega,by simp only[List.drop_zero];exact List.take_left' (by omega)⟩)
theorem gT.nil:gT H o q (.slice none 0 0) []:=.inl ⟨rfl,rfl⟩
theorem gT.mv {x:Value}{l:PL}(h:gT H o q x l)(k: ∀i,i<H.length→o i=q→H'.get i=H.get i∧o' i=q):gT H' o' q x l:=by
 rcases h with h|h|⟨i,off,c,b,h1,h2,h3,h4,h5⟩
 ·exact .inl h
 ·exact .inr (.inl h)
 ·obtain⟨k1,k2⟩:=k i (ar h2) h4;exact .inr (.inr ⟨i,off,c,b,h1,by rw[k1];exact h2,h3,k2,h5⟩)
theorem gT.fr {x:Value}{l:PL}{ps:List Int}(h:gT H o q x l)(f:Fr H o H' o' ps)(hp:q ∉ ps):gT H' o' q x l:=
 h.mv λi hi ho=>⟨f.same i hi (by rw[ho];exact hp),by rw[f.own i hi];exact ho⟩
theorem gT.relabel {x:Value}{l:PL}{q':Int}(h:gT H o q x l)(k: ∀i,i<H.length→o i=q→o' i=q'):gT H o' q' x l:=by
 rcases h with h|h|⟨i,off,c,b,h1,h2,h3,h4,h5⟩
 ·exact .inl h
 ·exact .inr (.inl h)
 ·exact .inr (.inr ⟨i,off,c,b,h1,h2,h3,k i (ar h2) h4,h5⟩)
theorem gT.isSlice {x:Value}{l:PL}(h:gT H o q x l): ∃a c,x= .slice a l.length c:=by
 rcases h with⟨rfl,rfl⟩|⟨i,off,rfl,rfl⟩|⟨i,off,c,b,rfl,_⟩
 ·exact⟨_,_,rfl⟩
 ·exact⟨_,_,rfl⟩
 ·exact⟨_,_,rfl⟩
theorem gT.len {x:Value}{l:PL}(h:gT H o q x l):cC x=some (cv l.length):=by
 obtain⟨a,c,rfl⟩:=h.isSlice;rfl
theorem IQ {cells:List Value}{off j:Nat}{l:PL}(h:(cells.drop off).take (2*l.length)=ku l){k:Nat}{v:Value}(hk:k<2*l.length)(hv:(ku l)[k]? =some v):cells[off+k]? =some v:=by
 rw[←h,List.getElem?_take,if_pos hk,List.getElem?_drop] at hv;exact hv
theorem gT.idx {x:Value}{l:PL}(h:gT H o q x l){j:Nat}(hj:j<l.length):
  ∃i off b,(∀H',cG 2 x (cv j) H'=some (.pointer (some ⟨i,off,none⟩),H'))∧H.get i=some b∧o i=q∧∀H':aa,H'.get i=some b→aq (.pointer (some ⟨i,off,none⟩)) H'=some (cv (l.getD j (0,0)).1)∧aq (.pointer (some ⟨i,off+1,none⟩)) H'=some (cv (l.getD j (0,0)).2)∧
   c8 2 (.pointer (some ⟨i,off,none⟩)) H'=some (.agg #[cv (l.getD j (0,0)).1,cv (l.getD j (0,0)).2]):=by
 rcases h with⟨rfl,rfl⟩|⟨i,off,rfl,rfl⟩|⟨i,off,c,b,rfl,h2,h3,h4,h5,h6,h7⟩
 ·simp at hj
 ·simp at hj
 ·have c0:=IQ (j:=j) h7 (k:=2*j) (by omega) (yR hj)
  have c1:=IQ (j:=j) h7 (k:=2*j+1) (by omega) (yS hj)
  refine⟨i,off+2*j,b,λH'=>?_,h2,h4,λH' e=>?_⟩
  ·simp only[cG];rw[if_pos (by constructor<;>omega)];simp<;>omega
  ·refine⟨by rw[an i _ H' e];exact c0,by rw[an i _ H' e,Nat.add_assoc];exact c1,?_⟩
   have uL:aR H' i (off+2*j) 2=some [cv (l.getD j (0,0)).1,cv (l.getD j (0,0)).2]:=by
    simp only[aR,e];rw[if_pos (by omega)]
    have hd:b.cells.drop (off+2*j)=cv (l.getD j (0,0)).1::cv (l.getD j (0,0)).2::b.cells.drop (off+2*j+2):=by
     rw[List.drop_eq_getElem_cons (by omega),List.drop_eq_getElem_cons (by omega)]
     rw[List.getElem?_eq_getElem (by omega)] at c0 c1
     simp only[Option.some.injEq] at c0 c1;rw[c0];have:b.cells[off+2*j+1]'(by omega)=cv (l.getD j (0,0)).2:=c1
     rw[this]
    rw[hd];rfl
   simp only[c8,uL]
theorem gT.src {x:Value}{l:PL}(h:gT H o q x l):Src H x l:=by
 rcases h with⟨rfl,rfl⟩|⟨i,off,rfl,rfl⟩|⟨i,off,c,b,rfl,h2,h3,h4,h5,h6,h7⟩
 ·exact⟨_,_,rfl,rfl⟩
 ·exact⟨_,_,rfl,rfl⟩
 ·refine⟨_,_,rfl,?_⟩;by_cases e:l.length=0
  ·have:l=[]:=by simpa using e
   subst this;rfl
  ·simp only[cI,e,if_false,aR,h2];rw[if_pos (by omega),Nat.mul_comm,h7]
theorem gT.cut {x:Value}{l:PL}(h:gT H o q x l){m n:Nat}(hm:m≤n)(hn:n≤l.length){lo hi:Option Value}(Jp:de 0 lo=some (m:Int))(Jq:de l.length hi=some (n:Int)):
  ∃y,pI 2 H x lo hi=some y∧gT H o q y ((l.take n).drop m):=by
 rcases h with⟨rfl,rfl⟩|⟨i,off,rfl,rfl⟩|⟨i,off,c,b,rfl,h2,h3,h4,h5,h6,h7⟩
 ·have e1:n=0:=by simpa using hn
  subst e1;have e2:m=0:=by omega
  subst e2;refine⟨.slice none 0 0,?_,.inl ⟨rfl,rfl⟩⟩;have Sn:de 0 hi=some 0:=Jq;have So:de 0 lo=some 0:=Jp;simp[pI,So,Sn]
 ·have e1:n=0:=by simpa using hn
  subst e1;have e2:m=0:=by omega
  subst e2;refine⟨.slice (some ⟨i,off,none⟩) 0 0,?_,.inr (.inl ⟨i,off,rfl,rfl⟩)⟩;have Sn:de 0 hi=some 0:=Jq;have So:de 0 lo=some 0:=Jp;cases hb:H.get i with
  |none=>simp[pI,hb,So,Sn]
  |some b=>simp[pI,hb,So,Sn]
 ·refine⟨.slice (some ⟨i,off+m*2,none⟩) (n-m) (c-m),?_,.inr (.inr ⟨i,off+m*2,c-m,b,?_,h2,h3,h4,?_,?_,?_⟩)⟩
  ·simp only[pI,Jp,Jq];rw[if_pos (by omega)]
   simp only[h2,h3,if_true,Int.toNat_natCast]
  ·simp;omega
  ·simp;omega
  ·simp;omega
  ·have e:((l.take n).drop m).length=n-m:=by simp;omega
   rw[e, ←El, ←Em, ←h7,List.take_take,List.drop_take,List.drop_drop]
   congr 1
   ·omega
   ·congr 1;omega
theorem gT.aay {x:Value}{l:PL}(h:gT H o q x l){n:Nat}(hn:n≤l.length): ∃y,pI 2 H x none (some (cv n))=some y∧Src H y (l.take n):=by
 obtain⟨y,h1,h2⟩:=h.cut (m:=0) (n:=n) (lo:=none) (hi:=some (cv n)) (Nat.zero_le _) hn rfl (by simp[de,qm])
 exact⟨y,h1,by simpa using h2.src⟩
theorem gT.Sp {x:Value}{l:PL}(h:gT H o q x l){n:Nat}(hn:n≤l.length): ∃y,pI 2 H x (some (cv n)) none=some y∧Src H y (l.drop n):=by
 obtain⟨y,h1,h2⟩:=h.cut (m:=n) (n:=l.length) (lo:=some (cv n)) (hi:=none) hn (Nat.le_refl _) (by simp[de,qm]) rfl
 exact⟨y,h1,by simpa using h2.src⟩
end Go.Proofs.YtgfgglponbmgmaaGreatA.Am
end
