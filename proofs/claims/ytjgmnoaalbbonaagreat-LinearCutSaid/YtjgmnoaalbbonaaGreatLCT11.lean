/- Texts of the proof of linearCut_holds, put together by a small program of ours (names shortened, spaces taken out). No condition beyond the given statement. -/
import Derived.Test.YtjgmnoaalbbonaaGreatLCT10
import Derived.Test.YtjgmnoaalbbonaaGreatLCT9
set_option linter.unusedVariables false
set_option linter.unusedSimpArgs false
set_option linter.unnecessarySimpa false
noncomputable section
section
namespace Go.Proofs.YtjgmnoaalbbonaaGreatA.Am
abbrev pv (p:Nat):Value:=.pointer (some ⟨p,0,none⟩)
variable {H H':aa}
theorem an {p:Nat}{b:eu}(h:H.get p=some b):p<H.length:=aa.an h
theorem aD {p:Nat}{b c:eu}(h:H.get p=some b):(H.put p c).get p=some c:=aa.eC (an h)
theorem aS {p q:Nat}{c:eu}(h:q≠p):(H.put p c).get q=H.get q:=aa.aS h
theorem vP {p:Nat}{b c:eu}:(H.put p b).put p c=H.put p c:=by simp[aa.put]
theorem jd (H:aa)(p:Nat)(c:eu):(H.put p c).length=H.length:=by simp[aa.put]
theorem dh (H:aa)(q:Nat):(H.kill q).length=H.length:=by simp[aa.kill]
theorem aW (H:aa)(c:eu):(H.new c).length=H.length+1:=by simp[aa.new]
theorem cD {i:Nat}{c:eu}(h:i<H.length):(H.new c).get i=H.get i:=aa.ki h
theorem ay {c:eu}:(H.new c).get H.length=some c:=aa.iD
theorem iq {q i:Nat}(h:i≠q):(H.kill q).get i=H.get i:=aa.iq h
section
variable {P:Program}
theorem bT (t:TypeId)(a b:Int):ai P .lss t (cv a) (cv b)=some (.bool (decide (a<b))):=rfl
theorem gP (t:TypeId)(a b:Int):ai P .gtr t (cv a) (cv b)=some (.bool (decide (a>b))):=rfl
theorem kO (t:TypeId)(a b:Int):ai P .leq t (cv a) (cv b)=some (.bool (decide (a≤b))):=rfl
theorem qa (t:TypeId)(a b:Int):ai P .geq t (cv a) (cv b)=some (.bool (decide (a≥b))):=rfl
theorem cW (t:TypeId)(a b:Int):ai P .eql t (cv a) (cv b)=some (.bool (decide (a=b))):=by
 have h:(a==b)=decide (a=b):=by by_cases e:a=b<;>simp[e]
 rw[←h];rfl
theorem gQ (t:TypeId)(a b:Int):ai P .neq t (cv a) (cv b)=some (.bool (!decide (a=b))):=by
 have h:(a==b)=decide (a=b):=by by_cases e:a=b<;>simp[e]
 rw[←h];rfl
theorem gS (t:TypeId)(a b:Int):ai P .add t (cv a) (cv b)=some (cv (IntKind.i64.wrap (a+b))):=rfl
theorem qc (t:TypeId)(a b:Int):ai P .sub t (cv a) (cv b)=some (cv (IntKind.i64.wrap (a-b))):=rfl
theorem QF (t:TypeId)(a b:Int):ai P .and t (cv a) (cv b)=some (cv (bits .and .i64 a b)):=rfl
theorem sO (t:TypeId)(a b:Int)(h:b≠0):ai P .rem t (cv a) (cv b)=some (cv (a.tmod b)):=by
 show(if b=0 then none else _)=_;rw[if_neg h]
theorem kd (t:TypeId)(a b:Int)(h:b≠0):ai P .quo t (cv a) (cv b)=some (cv (IntKind.i64.wrap (a.tdiv b))):=by
 show(if b=0 then none else _)=_;rw[if_neg h]
theorem da (b:Bool):hZ .not (.bool b)=some (.bool !b):=rfl
theorem aL (b:Bool)(x y:Value)(H:aa):aI (.bool b) x y H=some (if b then x else y,H):=rfl
theorem aQ (off:Nat)(p o:Nat)(H:aa):al off (.pointer (some ⟨p,o,none⟩)) H=some (.pointer (some ⟨p,o+off,none⟩),H):=rfl
theorem cR (p o:Nat)(H:aa):aA (.pointer (some ⟨p,o,none⟩)) H=some (.pointer (some ⟨p,o,none⟩),H):=rfl
theorem ak (p o:Nat)(H:aa){b:eu}(h:H.get p=some b):aq (.pointer (some ⟨p,o,none⟩)) H=b.cells[o]? :=by
 simp only[aq,h]
theorem iw (vs:Array Value)(i:Nat)(H:aa):bP i (.tuple vs) H=(vs[i]?).map (·,H):=rfl
theorem UU (b:Option Addr)(n c:Nat):cw (.slice b n c)=some (cv n):=rfl
theorem jM (p o:Nat)(x:Int)(H:aa){b:eu}(h:H.get p=some b)(hr:b.ro=false)(ho:o<b.cells.length):
  bS 1 (.pointer (some ⟨p,o,none⟩)) (cv x) H=some (undef,H.put p {b with cells:=b.cells.set o (cv x)}):=by
 simp only[bS,bl,h];rw[if_pos ⟨rfl,rfl⟩];have:(!b.ro&&decide (o+(cv x).cells.toList.length≤b.cells.length)&&(cv x).cells.toList.all av)=true:=by
  rw[hr];simp[Value.cells,av];omega
 rw[this];rfl
theorem xk (p o:Nat)(b0:Option Addr)(n c:Nat)(H:aa){b:eu}(h:H.get p=some b)(hr:b.ro=false)(ho:o<b.cells.length):
  bS 1 (.pointer (some ⟨p,o,none⟩)) (.slice b0 n c) H=some (undef,H.put p {b with cells:=b.cells.set o (.slice b0 n c)}):=by
 simp only[bS,bl,h];rw[if_pos ⟨rfl,rfl⟩];have:(!b.ro&&decide (o+(Value.slice b0 n c).cells.toList.length≤b.cells.length)&&(Value.slice b0 n c).cells.toList.all av)=true:=by
  rw[hr];simp[Value.cells,av];omega
 rw[this];rfl
theorem acb (p o:Nat)(x:Option Addr)(H:aa){b:eu}(h:H.get p=some b)(hr:b.ro=false)(ho:o<b.cells.length):
  bS 1 (.pointer (some ⟨p,o,none⟩)) (.pointer x) H=some (undef,H.put p {b with cells:=b.cells.set o (.pointer x)}):=by
 simp only[bS,bl,h];rw[if_pos ⟨rfl,rfl⟩];have:(!b.ro&&decide (o+(Value.pointer x).cells.toList.length≤b.cells.length)&&(Value.pointer x).cells.toList.all av)=true:=by
  rw[hr];simp[Value.cells,av];omega
 rw[this];rfl
theorem fK {t e:TypeId}(o:Option Addr)(h:P.underlying t=some (.pointer e)):ai P .eql t (.pointer o) (.pointer none)=some (.bool o.isNone):=by
 cases o<;>simp[ai,iQ,h,Op.maxDepth]
theorem kq {t e:TypeId}(o:Option Addr)(h:P.underlying t=some (.pointer e)):ai P .neq t (.pointer o) (.pointer none)=some (.bool (!o.isNone)):=by
 cases o<;>simp[ai,iQ,h,Op.maxDepth]
theorem sP {t:TypeId}(a b:Bool)(h:P.underlying t=some .bool):ai P .eql t (.bool a) (.bool b)=some (.bool (a==b)):=by
 simp[ai,iQ,h,Op.maxDepth]
theorem qT {t e:TypeId}(b:Option Addr)(m c:Nat)(h:P.underlying t=some (.slice e)):ai P .eql t (.slice b m c) (.slice none 0 0)=some (.bool b.isNone):=by
 cases b<;>simp[ai,iQ,h,Op.maxDepth]
end
theorem kr {x:Int}(h: -9223372036854775808≤x∧x≤9223372036854775807):IntKind.i64.wrap x=x:=by rw[IntKind.wrap_i64];omega
theorem acd {x:Int}(h:(Lit.int .i64 x).wf=true): -9223372036854775808≤x∧x≤9223372036854775807:=by
 simpa[Lit.wf,IntKind.min,IntKind.max,IntKind.signed,IntKind.bits] using h
abbrev aj:=Nat→Int
structure Fr (H:aa) (o:aj) (H':aa) (o':aj) (ps:List Int):Prop where
 slot: ∀i,i<H.length→o i ∉ ps→H'[i]? =H[i]?
 own: ∀i,i<H.length→o' i=o i
 size:H.length≤H'.length
theorem Fr.same {o o':aj}{ps:List Int}(f:Fr H o H' o' ps)(i:Nat)(h:i<H.length)(hp:o i ∉ ps):H'.get i=H.get i:=by
 unfold aa.get;rw[f.slot i h hp]
theorem Fr.cT {o o':aj}{ps:List Int}(f:Fr H o H' o' ps)(i:Nat)(h:i<H.length)(hp:o i ∉ ps):H'.cT i=H.cT i:=by
 unfold aa.cT;rw[f.slot i h hp]
theorem Fr.refl (H:aa)(o:aj)(ps:List Int):Fr H o H o ps:=⟨λ_ _ _=>rfl,λ_ _=>rfl,Nat.le_refl _⟩
theorem Fr.trans {H1 H2:aa}{o o1 o2:aj}{ps qs rs:List Int}(h:Fr H o H1 o1 ps)(k:Fr H1 o1 H2 o2 qs)(hp: ∀i∈ps,i∈rs)(hq: ∀i∈qs,i∈rs):Fr H o H2 o2 rs:=
 ⟨λi hi hn=>by
  rw[k.slot i (Nat.lt_of_lt_of_le hi h.size) (λe=>hn (by rw[h.own i hi] at e;exact hq _ e)),h.slot i hi (λe=>hn (hp _ e))],
  λi hi=>by rw[k.own i (Nat.lt_of_lt_of_le hi h.size),h.own i hi],Nat.le_trans h.size k.size⟩
theorem Fr.tr {H1 H2:aa}{o o1 o2:aj}{ps:List Int}(h:Fr H o H1 o1 ps)(k:Fr H1 o1 H2 o2 ps):Fr H o H2 o2 ps:=h.trans k (λ_ h=>h) (λ_ h=>h)
theorem Fr.JA {H1 H2:aa}{o o1 o2:aj}{ps:List Int}(h:Fr H o H1 o1 ps)(k:Fr H1 o1 H2 o2 []):Fr H o H2 o2 ps:=h.trans k (λ_ h=>h) (λ_ h=>by cases h)
theorem Fr.wk {o o':aj}{ps qs:List Int}(h:Fr H o H' o' ps)(hp: ∀i∈ps,i∈qs):Fr H o H' o' qs:=⟨λi hi hn=>h.slot i hi λe=>hn (hp _ e),h.own,h.size⟩
theorem iy {i j:Nat}{x:Slot}(h:j≠i):(H.set i x)[j]? =H[j]? :=List.getElem?_set_ne (Ne.symm h)
theorem Fr.set {o o':aj}{ps:List Int}(h:Fr H o H' o' ps){i:Nat}(x:Slot)(hi:i<H.length→o i∈ps):Fr H o (H'.set i x) o' ps:=by
 refine⟨λj hj hn=>?_,h.own,by rw[List.length_set];exact h.size⟩
 rw[iy,h.slot j hj hn];rintro rfl;exact hn (hi hj)
theorem Fr.put {o o':aj}{ps:List Int}(h:Fr H o H' o' ps){i:Nat}{c:eu}(hi:i<H.length→o i∈ps):Fr H o (H'.put i c) o' ps:=h.set _ hi
theorem Fr.eQ {o o':aj}{ps:List Int}(h:Fr H o H' o' ps){i:Nat}{c:dg}(hi:i<H.length→o i∈ps):Fr H o (H'.eQ i c) o' ps:=h.set _ hi
theorem Fr.kill {o o':aj}{ps:List Int}(h:Fr H o H' o' ps){i:Nat}(hi:i<H.length→o i∈ps):Fr H o (H'.kill i) o' ps:=h.set _ hi
def aj.up (o:aj)(i:Nat)(p:Int):aj:=λj=>if j=i then p else o j
theorem aH {o:aj}{i:Nat}{p:Int}:o.up i p i=p:=by simp[aj.up]
theorem cZ {o:aj}{i j:Nat}{p:Int}(h:j≠i):o.up i p j=o j:=by simp[aj.up,h]
theorem Fr.new {o o':aj}{ps:List Int}(h:Fr H o H' o' ps)(c:eu)(p:Int):Fr H o (H'.new c) (o'.up H'.length p) ps:=by
 have:=h.size
 refine⟨λj hj hn=>?_,λj hj=>?_,by rw[aW];omega⟩
 ·unfold aa.new;rw[List.getElem?_append_left (by omega),h.slot j hj hn]
 ·rw[cZ (by omega),h.own j hj]
theorem Fr.gj {o o':aj}{ps:List Int}(h:Fr H o H' o' ps)(c:dg)(p:Int):Fr H o (H'.gj c) (o'.up H'.length p) ps:=by
 have:=h.size
 refine⟨λj hj hn=>?_,λj hj=>?_,by unfold aa.gj;rw[List.length_append];omega⟩
 ·unfold aa.gj;rw[List.getElem?_append_left (by omega),h.slot j hj hn]
 ·rw[cZ (by omega),h.own j hj]
theorem Fr.dr {o o':aj}{ps:List Int}(h:Fr H o H' o' ps)(n:Nat):Fr H o (H'.dr n) o' ps:=by
 have:=h.size
 refine⟨λj hj hn=>?_,h.own,by unfold aa.dr;rw[List.length_append];omega⟩
 unfold aa.dr;rw[List.getElem?_append_left (by omega),h.slot j hj hn]
def B1 (H:aa)(o:aj)(p:Nat)(b:eu):Prop:=H.get p=some b∧o p=(p:Int)
theorem B1.fr {o o':aj}{ps:List Int}{p:Nat}{b:eu}(h:B1 H o p b)(f:Fr H o H' o' ps)(hp:(p:Int) ∉ ps):B1 H' o' p b:=
 ⟨by rw[f.same p (an h.1) (by rw[h.2];exact hp)];exact h.1,by rw[f.own p (an h.1)];exact h.2⟩
theorem B1.lt {o:aj}{p:Nat}{b:eu}(h:B1 H o p b):p<H.length:=an h.1
theorem B1.put {o:aj}{p:Nat}{b c:eu}(h:B1 H o p b):B1 (H.put p c) o p c:=⟨aD h.1,h.2⟩
theorem B1.new (H:aa)(o:aj)(b:eu):B1 (H.new b) (o.up H.length H.length) H.length b:=⟨ay,aH⟩
theorem jf (vs:List Value): ∀(A R:List Value),vs.length≤R.length→bB (A++R) A.length vs=A++vs++R.drop vs.length:=by
 induction vs with
 |nil=>intro A R _;simp[bB]
 |cons v vs ih=>
  intro A R h;cases R with
  |nil=>simp at h
  |cons r R=>
   have e:(A++r::R).set A.length v=(A++[v])++R:=by simp
   have e2:A.length+1=(A++[v]).length:=by simp
   rw[bB,e,e2,ih _ _ (by simpa using h)]
   simp
def iz (H:aa)(x:Value)(l:List Int):Prop:=
 (x= .slice none 0 0∧l=[])∨∃i off c,x= .slice (some ⟨i,off,none⟩) l.length c∧(l≠[]→∃b,H.get i=some b∧b.es=1∧off+l.length≤b.cells.length∧(b.cells.drop off).take l.length=l.map cv)
theorem iz.src {x:Value}{l:List Int}(h:iz H x l): ∃b c,x= .slice b l.length c∧bq H 1 l.length x=some (l.map cv):=by
 rcases h with⟨rfl,rfl⟩|⟨i,off,c,rfl,hb⟩
 ·exact⟨none,0,rfl,rfl⟩
 ·refine⟨_,_,rfl,?_⟩;by_cases e:l=[]
  ·subst e;simp[bq]
  ·obtain⟨b,h1,_,h2,h3⟩:=hb e;have:l.length≠0:=by simpa using e
   simp only[bq,this,if_false,aw,h1,Nat.mul_one];rw[if_pos h2,h3]
theorem iz.len {x:Value}{l:List Int}(h:iz H x l):cw x=some (cv l.length):=by
 obtain⟨b,c,rfl,_⟩:=h.src;rfl
theorem iz.isSlice {x:Value}{l:List Int}(h:iz H x l): ∃b c,x= .slice b l.length c:=by
 obtain⟨b,c,e,_⟩:=h.src;exact⟨b,c,e⟩
theorem iz.idx {x:Value}{l:List Int}(h:iz H x l){j:Nat}(hj:j<l.length):
  ∃i off b,(∀H',cq 1 x (cv j) H'=some (.pointer (some ⟨i,off,none⟩),H'))∧H.get i=some b∧b.cells[off]? =some (cv (l.getD j 0)):=by
 rcases h with⟨rfl,rfl⟩|⟨i,off,c,rfl,hb⟩
 ·simp at hj
 ·obtain⟨b,h1,_,h2,h3⟩:=hb (by rintro rfl;simp at hj)
  refine⟨i,off+j,b,λH'=>?_,h1,?_⟩
  ·simp only[cq];rw[if_pos (by constructor<;>omega)];simp
  ·have:=congrArg (·[j]?) h3
   simp only[List.getElem?_take,hj,if_true,List.getElem?_drop,List.getElem?_map] at this;rw[this,List.getElem?_eq_getElem hj];simp[List.getD_eq_getElem?_getD,List.getElem?_eq_getElem hj]
theorem iz.keep {x:Value}{l:List Int}(h:iz H x l)(hk: ∀i b,x= .slice (some b) l.length i→l≠[]→H'.get b.block=H.get b.block):iz H' x l:=by
 rcases h with h|⟨i,off,c,rfl,hb⟩
 ·exact .inl h
 ·refine .inr ⟨i,off,c,rfl,λe=>?_⟩
  obtain⟨b,h1,h2⟩:=hb e;exact⟨b,by rw[hk c ⟨i,off,none⟩ rfl e];exact h1,h2⟩
def fp (H:aa)(o:aj)(q:Int)(x:Value)(l:List Int):Prop:=iz H x l∧∀b n c,x= .slice (some b) n c→l≠[]→b.block<H.length∧o b.block=q
theorem fp.fr {o o':aj}{ps:List Int}{q:Int}{x:Value}{l:List Int}(h:fp H o q x l)(f:Fr H o H' o' ps)(hp:q ∉ ps):fp H' o' q x l:=by
 obtain⟨h1,h2⟩:=h;refine⟨h1.keep λi b e dX=>?_,λb n c e dX=>?_⟩
 ·obtain⟨k1,k2⟩:=h2 b _ _ e dX;exact f.same _ k1 (by rw[k2];exact hp)
 ·obtain⟨k1,k2⟩:=h2 b _ _ e dX;exact⟨Nat.lt_of_lt_of_le k1 f.size,by rw[f.own _ k1];exact k2⟩
theorem fp.nil {o:aj}{q:Int}:fp H o q (.slice none 0 0) []:=⟨.inl ⟨rfl,rfl⟩,λb n c e _=>by cases e⟩
def qd (H:aa)(o:aj)(p:Int)(s:Value)(cs:List Int):Prop:=
 (s= .slice none 0 0∧cs=[])∨∃q cap rest ty,s= .slice (some ⟨q,0,none⟩) cs.length cap∧H.get q=some ⟨cs.map cv++rest,ty,1,false⟩∧cs.length+rest.length=cap∧o q=p
theorem qd.ints {o:aj}{p:Int}{s:Value}{cs:List Int}(h:qd H o p s cs):fp H o p s cs:=by
 rcases h with⟨rfl,rfl⟩|⟨q,cap,rest,ty,rfl,hb,hc,ho⟩
 ·exact .nil
 ·refine⟨.inr ⟨q,0,cap,rfl,λ_=>⟨_,hb,rfl,by simp,by simp⟩⟩,λb n c e _=>?_⟩
  cases e;exact⟨an hb,ho⟩
theorem qd.fr {o o':aj}{ps:List Int}{p:Int}{s:Value}{cs:List Int}(h:qd H o p s cs)(f:Fr H o H' o' ps)(hp:p ∉ ps):qd H' o' p s cs:=by
 rcases h with h|⟨q,cap,rest,ty,hs,hb,hc,ho⟩
 ·exact .inl h
 ·exact .inr ⟨q,cap,rest,ty,hs,by rw[f.same q (an hb) (by rw[ho];exact hp)];exact hb,hc,by rw[f.own q (an hb)];exact ho⟩
theorem qd.isSlice {o:aj}{p:Int}{s:Value}{cs:List Int}(h:qd H o p s cs): ∃b c,s= .slice b cs.length c:=by
 rcases h with⟨rfl,rfl⟩|⟨q,cap,rest,ty,rfl,_⟩
 ·exact⟨_,_,rfl⟩
 ·exact⟨_,_,rfl⟩
theorem qd.put {o:aj}{p:Int}{i:Nat}{s:Value}{cs:List Int}{c:eu}(h:qd H o p s cs)(hi: ∀n k,s≠ .slice (some ⟨i,0,none⟩) n k):qd (H.put i c) o p s cs:=by
 rcases h with h|⟨q,cap,rest,ty,rfl,hb,hc,ho⟩
 ·exact .inl h
 ·exact .inr ⟨q,cap,rest,ty,rfl,by rw[aS (by rintro rfl;exact hi _ _ rfl)];exact hb,hc,ho⟩
theorem qd.set {o:aj}{p:Int}{s:Value}{cs:List Int}(h:qd H o p s cs){j:Nat}(hj:j<cs.length)(x:Int):
  ∃q b c,(∀H',cq 1 s (cv j) H'=some (.pointer (some ⟨q,j,none⟩),H'))∧H.get q=some b∧b.ro=false∧o q=p∧b.cells[j]? =some (cv (cs.getD j 0))∧(∃n k,s= .slice (some ⟨q,0,none⟩) n k)∧
   bS 1 (.pointer (some ⟨q,j,none⟩)) (cv x) H=some (undef,H.put q c)∧qd (H.put q c) o p s (cs.set j x):=by
 rcases h with⟨rfl,rfl⟩|⟨q,cap,rest,ty,rfl,hb,hc,ho⟩
 ·simp at hj
 ·refine⟨q,_,⟨(cs.set j x).map cv++rest,ty,1,false⟩,λH'=>?_,hb,rfl,ho,?_,⟨_,_,rfl⟩,?_,.inr ⟨q,cap,rest,ty,by simp,aD hb,by simpa using hc,ho⟩⟩
  ·simp only[cq];rw[if_pos (by constructor<;>omega)];simp
  ·show(List.map cv cs++rest)[j]? =_
   rw[List.getElem?_append_left (by simpa using hj),List.getElem?_map,List.getElem?_eq_getElem hj];simp[List.getD_eq_getElem?_getD,List.getElem?_eq_getElem hj]
  ·rw[jM _ _ _ _ hb rfl (by simp;omega)]
   simp only[List.set_append,List.length_map,hj,if_true,List.map_set]
theorem lD {o:aj}{p:Int}{s x:Value}{cs l:List Int}(t:TypeId)(hs:qd H o p s cs)(hx:iz H x l)(hb:cs.length+l.length≤4294967296):
  ∃s' H' o',cg t 1 8 s x H=some (s',H')∧qd H' o' p s' (cs++l)∧Fr H o H' o' [p]∧(∀i,(∀n k,s≠ .slice (some ⟨i,0,none⟩) n k)→i<H.length→H'.get i=H.get i∧o' i=o i∧∀n k,s'≠ .slice (some ⟨i,0,none⟩) n k):=by
 obtain⟨b,c,rfl,hc⟩:=hx.src;by_cases hl:l=[]
 ·subst hl;refine⟨s,H,o,?_,by simpa using hs,.refl _ _ _,λi hi _=>⟨rfl,rfl,hi⟩⟩
  rcases hs with⟨rfl,rfl⟩|⟨q,cap,rest,ty,rfl,Ze,rp,ho⟩
  ·simp only[cg,hc,Option.map_some];simp
  ·simp only[cg,hc,Option.map_some];rw[if_pos (by simp;omega)];simp
 have hlen:l.length≠0:=by simpa using hl
 rcases hs with⟨rfl,rfl⟩|⟨q,cap,rest,ty,rfl,Ze,rp,ho⟩
 ·refine⟨.slice (some ⟨H.length,0,none⟩) l.length l.length,H.new ⟨l.map cv,t,1,false⟩,o.up H.length p,?_,?_,(Fr.refl _ _ _).new _ _,λi _ hi=>⟨cD hi,cZ (by omega),λn k e=>by cases e;omega⟩⟩
  ·simp only[cg,hc,Option.map_some];rw[if_neg (by omega),if_pos (by simp;simp at hb;omega)]
   simp
  ·exact .inr ⟨H.length,l.length,[],t,by simp,by simpa using ay,by simp,aH⟩
 ·have hql:=an Ze;by_cases ig:cs.length+l.length≤cap
  ·refine⟨.slice (some ⟨q,0,none⟩) (cs++l).length cap,H.put q ⟨(cs++l).map cv++rest.drop l.length,ty,1,false⟩,o,?_,?_,(Fr.refl _ _ _).put (λ_=>by simp[ho]),λi hi _=>⟨aS (by rintro rfl;exact hi _ _ rfl),rfl,λn k e=>by cases e;exact hi _ _ rfl⟩⟩
   ·simp only[cg,hc,Option.map_some];rw[if_pos ig,if_neg hlen];simp only[Ze,if_true,bl];rw[if_pos (by simp[av];omega)]
    have e:=jf (l.map cv) (cs.map cv) rest (by simp;omega)
    simp only[List.length_map] at e;simp only[Nat.mul_one,Nat.zero_add,e,Option.map_some,List.map_append,List.length_append]
   ·exact .inr ⟨q,cap,rest.drop l.length,ty,rfl,aD Ze,by simp;omega,ho⟩
  ·refine⟨.slice (some ⟨H.length,0,none⟩) (cs++l).length (cs++l).length,(H.kill q).new ⟨(cs++l).map cv,t,1,false⟩,o.up H.length p,?_,?_,?_,?_⟩
   ·simp only[cg,hc,Option.map_some];rw[if_neg ig,if_pos (by simp;omega)]
    simp only[Ze];rw[if_pos (by simp;omega)]
    have e:aw H q 0 (cs.length*1)=some (cs.map cv):=by
     simp only[aw,Ze];rw[if_pos (by simp)]
     simp
    simp only[e,List.map_append,List.length_append]
   ·have:=ay (H:=H.kill q) (c:=⟨(cs++l).map cv,t,1,false⟩)
    rw[dh] at this;exact .inr ⟨H.length,(cs++l).length,[],t,rfl,by simpa using this,by simp,aH⟩
   ·have:=((Fr.refl H o [p]).kill (i:=q) (λ_=>by simp[ho])).new ⟨(cs++l).map cv,t,1,false⟩ p
    rw[dh] at this;exact this
   ·intro i hi JB;refine⟨?_,cZ (by omega),λn k e=>by cases e;omega⟩
    rw[cD (by rw[dh];exact JB),iq (by rintro rfl;exact hi _ _ rfl)]
theorem qd.new (H:aa)(o:aj)(r:Int)(t:TypeId)(l:List Int):qd (H.new ⟨l.map cv,t,1,false⟩) (o.up H.length r) r (.slice (some ⟨H.length,0,none⟩) l.length l.length) l:=
 .inr ⟨H.length,l.length,[],t,rfl,by simpa using ay,by simp,aH⟩
section
variable {P:Program} {f:Nat} {t e:TypeId}
def Gv (x:Int):Prop:= -9223372036854775808≤x∧x≤9223372036854775807
abbrev o0:aj:=λ_=> -1
theorem In.int (ht:P.underlying t=some (.int .i64)){cs:List Value}(h:In P H (f+1) t cs): ∃a,cs=[cv a]∧Gv a:=by
 simp only[In,ht] at h;obtain⟨n,rfl,h⟩:=h;exact⟨n,rfl,acd h⟩
theorem In.bool (ht:P.underlying t=some .bool){cs:List Value}(h:In P H (f+1) t cs): ∃a,cs=[.bool a]:=by
 simp only[In,ht] at h;exact h
theorem In.slice (ht:P.underlying t=some (.slice e)){cs:List Value}(h:In P H (f+1) t cs):cs=[.slice none 0 0]∨∃(i:Nat) (es:List (List Value)),cs=[.slice (some ⟨i,0,none⟩) es.length es.length]∧es.length≤maxLen∧
  (0<es.length→H.get i=some ⟨es.flatten,e,P.cellsOf e,true⟩)∧∀x,x∈es→x.length=P.cellsOf e∧In P H f e x:=by
 simp only[In,ht] at h;exact h
theorem In.struct {fs:Array Field}(ht:P.underlying t=some (.struct fs)){cs:List Value}(h:In P H (f+1) t cs):jx P (In P H f) fs.toList cs:=by
 simp only[In,ht] at h;exact h
theorem In.ints (ht:P.underlying t=some (.slice e))(he:P.underlying e=some (.int .i64))(hc:P.cellsOf e=1){cs:List Value}(h:In P H (f+2) t cs):
  ∃v l,cs=[v]∧fp H o0 (-1) v l∧(∀x∈l,Gv x)∧l.length≤maxLen:=by
 unfold In at h;rw[ht] at h;simp only at h;rcases h with rfl|⟨i,es,rfl,hm,hg,fC⟩
 ·exact⟨_,[],rfl,.nil,(λx hx=>by cases hx),by simp⟩
 ·have: ∃l:List Int,es=l.map (λx=>[cv x])∧∀x∈l,Gv x:=by
   clear hm hg;induction es with
   |nil=>exact⟨[],rfl,λx hx=>by cases hx⟩
   |cons y es ih=>
    obtain⟨l,rfl,hl⟩:=ih (λx hx=>fC x (List.mem_cons_of_mem _ hx))
    obtain⟨a,rfl,ha⟩:=In.int he (fC y (List.mem_cons_self ..)).2;exact⟨a::l,rfl,λx hx=>(List.mem_cons.1 hx).elim (λe=>e▸ha) (hl x)⟩
  obtain⟨l,rfl,hl⟩:=this;have FC:(l.map (λx=>[cv x])).flatten=l.map cv:=by
   clear hm hg fC hl;induction l with
   |nil=>rfl
   |cons a l ih=>simp[ih]
  rw[FC] at hg;simp only[List.length_map] at hg hm;refine⟨_,l,rfl,⟨.inr ⟨i,0,l.length,by simp,λdX=>⟨_,hg (List.length_pos_iff.2 dX),hc,by simp,by show(List.drop 0 (l.map cv)).take l.length=_;rw[List.drop_zero,List.take_of_length_le (by simp)]⟩⟩,λb n c eq dX=>?_⟩,hl,hm⟩
  cases eq;exact⟨an (hg (List.length_pos_iff.2 dX)),rfl⟩
def sQ (P:Program)(t:TypeId)(ts:List TypeId):Bool:=match P.underlying t with|some (.struct fs)=>fs.toList.map (·.type)==ts|_=>false
theorem pD {ts:List TypeId}(h:sQ P t ts=true): ∃fs,P.underlying t=some (.struct fs)∧fs.toList.map (·.type)=ts:=by
 unfold sQ at h;split at h
 ·rename_i fs e;exact⟨fs,e,by simpa using h⟩
 ·cases h
theorem lB.one (hs: ∀fs,P.underlying t≠some (.struct fs)){v:Value}(h:lB P H f t v):In P H f t [v]:=by
 obtain⟨cs,h1,h2⟩:=h;split at h2
 ·rename_i fs e;exact absurd e (hs fs)
 ·subst h2;exact h1
theorem lB.int (ht:P.underlying t=some (.int .i64)){v:Value}(h:lB P H (f+1) t v): ∃a,v=cv a∧Gv a:=by
 obtain⟨a,h1,h2⟩:=In.int ht (h.one (by simp[ht]));cases h1;exact⟨a,rfl,h2⟩
theorem lB.bool (ht:P.underlying t=some .bool){v:Value}(h:lB P H (f+1) t v): ∃a,v= .bool a:=by
 obtain⟨a,h1⟩:=In.bool ht (h.one (by simp[ht]));cases h1;exact⟨a,rfl⟩
theorem lB.ints (ht:P.underlying t=some (.slice e))(he:P.underlying e=some (.int .i64))(hc:P.cellsOf e=1){v:Value}(h:lB P H (f+2) t v):
  ∃l,fp H o0 (-1) v l∧(∀x∈l,Gv x)∧l.length≤maxLen:=by
 obtain⟨v',l,h1,h2⟩:=In.ints ht he hc (h.one (by simp[ht]));cases h1;exact⟨l,h2⟩
end
end Go.Proofs.YtjgmnoaalbbonaaGreatA.Am
end
