/- Texts of the proof of linearChecks_holds, put together by a small program of ours (names shortened, spaces taken out). No condition beyond the given statement. -/
import Derived.Test.YtjgmnoaalbbonaaGreatLCQ20
import Derived.Test.YtjgmnoaalbbonaaGreatLCQ26
set_option linter.unusedVariables false
set_option linter.unusedSimpArgs false
set_option linter.unnecessarySimpa false
noncomputable section
section
namespace Go.Proofs.YtjgmnoaalbbonaaGreat.Fun
open Go Go.RowKit Go.Proofs.YtjgmnoaalbbonaaGreatA.Am
set_option maxRecDepth 10000
theorem uI:Tryz.prog.underlying 3=some (.int .i64):=by kernel_rfl
theorem u64:Tryz.prog.underlying 2=some (.int .i64):=by kernel_rfl
theorem Is:uN Tryz.prog 39 [3,2,2]=true:=by kernel_rfl
theorem KY:uN Tryz.prog 42 [2,2]=true:=by kernel_rfl
theorem PI:Tryz.prog.cellsOf 42=2:=by kernel_rfl
theorem slP:Tryz.prog.underlying 43=some (.slice 42):=by kernel_rfl
def acI (op:jZ):Prop:=LP op.kind∧LP op.key∧LP op.value
theorem agM {H:ae}{f:Nat}{cs:List Value}(h:In Tryz.prog H (f+2) 39 cs): ∃op:jZ,cs=[cv op.kind,cv op.key,cv op.value]∧acI op:=by
 obtain⟨fs,he,ht⟩:=qQ Is;have h:=In.struct (P:=Tryz.prog) (t:=39) (f:=f+1) he h;generalize fs.toList=l at h ht
 obtain⟨f0,l,rfl,h0,ht⟩:=List.map_eq_cons_iff.1 ht;obtain⟨f1,l,rfl,h1,ht⟩:=List.map_eq_cons_iff.1 ht;obtain⟨f2,l,rfl,h2,ht⟩:=List.map_eq_cons_iff.1 ht;have:l=[]:=by simpa using ht
 subst this;obtain⟨a0,_,rfl,_,i0,a1,_,rfl,_,i1,a2,_,rfl,_,i2,rfl⟩:=h;rw[h0] at i0;rw[h1] at i1;rw[h2] at i2;obtain⟨k,rfl,hk⟩:=In.int uI i0;obtain⟨a,rfl,ha⟩:=In.int u64 i1;obtain⟨b,rfl,hb⟩:=In.int u64 i2;exact⟨⟨k,a,b⟩,rfl,hk,ha,hb⟩
theorem mK.op {H:ae}{f:Nat}{v:Value}(h:mK Tryz.prog H (f+2) 39 v): ∃op:jZ,v=iG op∧acI op:=by
 obtain⟨cs,h1,h2⟩:=h;obtain⟨fs,he,ht⟩:=qQ Is;rw[he] at h2;obtain⟨op,rfl,ho⟩:=agM h1;exact⟨op,h2,ho⟩
theorem acJ {H:ae}{f:Nat}{cs:List Value}(h:In Tryz.prog H (f+2) 42 cs): ∃z:Int×Int,cs=[cv z.1,cv z.2]∧LP z.1∧LP z.2:=by
 obtain⟨fs,he,ht⟩:=qQ KY;have h:=In.struct (P:=Tryz.prog) (t:=42) (f:=f+1) he h;generalize fs.toList=l at h ht
 obtain⟨f0,l,rfl,h0,ht⟩:=List.map_eq_cons_iff.1 ht;obtain⟨f1,l,rfl,h1,ht⟩:=List.map_eq_cons_iff.1 ht;have:l=[]:=by simpa using ht
 subst this;obtain⟨a0,_,rfl,_,i0,a1,_,rfl,_,i1,rfl⟩:=h;rw[h0] at i0;rw[h1] at i1;obtain⟨k,rfl,hk⟩:=In.int u64 i0;obtain⟨a,rfl,ha⟩:=In.int u64 i1;exact⟨(k,a),rfl,hk,ha⟩
def ye (l:PL):Prop:=∀z∈l,LP z.1∧LP z.2
theorem Xh {H:ae}{f:Nat}{cs:List Value}(h:In Tryz.prog H (f+3) 43 cs): ∃v l,cs=[v]∧ee H o0 (-1) v l∧ye l:=by
 rcases In.slice slP h with rfl|⟨i,es,rfl,hm,hg,fE⟩
 ·exact⟨_,[],rfl,.nil,λz hz=>by cases hz⟩
 ·have: ∃l:PL,es=l.map (λz=>[cv z.1,cv z.2])∧ye l:=by
   clear h hm hg;induction es with
   |nil=>exact⟨[],rfl,λz hz=>by cases hz⟩
   |cons y es ih=>
    obtain⟨l,rfl,hl⟩:=ih (λx hx=>fE x (List.mem_cons_of_mem _ hx))
    obtain⟨z,rfl,hz⟩:=acJ (fE y (List.mem_cons_self ..)).2;exact⟨z::l,rfl,λx hx=>(List.mem_cons.1 hx).elim (λe=>e▸hz) (hl x)⟩
  obtain⟨l,rfl,hl⟩:=this;have IV:(l.map (λz=>[cv z.1,cv z.2])).flatten=lZ l:=by
   clear h hm hg fE hl;induction l with
   |nil=>rfl
   |cons a l ih=>simp[lZ,ih]
  rw[IV] at hg;simp only[List.length_map] at hg ⊢;refine⟨_,l,rfl,?_,hl⟩;cases l with
  |nil=>exact .inr (.inl ⟨i,0,rfl,rfl⟩)
  |cons a l=>
   have g:=hg (by simp)
   have:=la (a::l)
   exact .inr (.inr ⟨i,0,_,_,rfl,g,PI,rfl,Nat.le_refl _,by simp only;omega,by simp only[List.drop_zero];exact List.take_of_length_le (by omega)⟩)
theorem mK.QF {H:ae}{f:Nat}{v:Value}(h:mK Tryz.prog H (f+3) 43 v): ∃l,ee H o0 (-1) v l∧ye l:=by
 obtain⟨v',l,h1,h2,h3⟩:=Xh (h.one (by simp[slP]));cases h1;exact⟨l,h2,h3⟩
theorem ye.put {l:PL}{k v:Int}(h:ye l)(hk:LP k)(hv:LP v):ye (jM l k v):=λz hz=>by
 unfold jM at hz;rcases List.mem_append.1 hz with hz|hz
 ·exact h z (List.mem_of_mem_take hz)
 ·rcases List.mem_cons.1 hz with rfl|hz
  ·exact⟨hk,hv⟩
  ·exact h z (List.mem_of_mem_drop hz)
theorem ye.del {l:PL}{k:Int}(h:ye l):ye (lz l k):=λz hz=>by
 unfold lz at hz;rcases List.mem_append.1 hz with hz|hz
 ·exact h z (List.mem_of_mem_take hz)
 ·exact h z (List.mem_of_mem_drop hz)
theorem ye.Im {l:PL}{op:jZ}(h:ye l)(ho:acI op):ye (Im l op):=by
 unfold Fun.Im;split
 ·split
  ·exact h.del
  ·exact h.put ho.2.1 ho.2.2
 ·exact h
theorem wK.ext {H H':ae}{o:an}{q:Int}{x:Value}{r:dF}(h:wK H o q x r)(e:Ext H H'):wK H' (o.from H.length 0) q x r:=by
 obtain⟨s,h1,h2⟩:=h;exact⟨s,h1,h2.fr (e.fr o 0) (by simp)⟩
theorem _root_.Go.Proofs.YtjgmnoaalbbonaaGreatA.Am.ee.ext {H H':ae}{o:an}{q:Int}{x:Value}{l:PL}(h:ee H o q x l)(e:Ext H H'):ee H' (o.from H.length 0) q x l:=h.fr (e.fr o 0) (by simp)
section
variable {G:ag} {H:ae} {o:an} {q:Int} {x:Value} {l:PL} {n p:Nat}
end
structure jw where
 op:jZ
 no:Int
 sO:Nat
 fh:Option PL
structure tR where
 maps:List PL
 calls:List (Int×jw)
 inv:Int
structure iH where
 kind:Int
 aV:Int
 no:Int
 op:jZ
 res:dF
 pick:Int
def tR.now (S:tR):PL:=S.maps.getD (S.maps.length-1) []
def may (maps:List PL)(c:jw)(r:dF):Bool:=
 match c.fh with
 |some a=>du r (jf a c.op)
 |none=>if decide (c.op.kind≤3)&&du r (eJ 8) then true else if decide (c.op.kind>4)&&du r (eJ 9) then true else(maps.drop c.sO).any λm=> !nU m c.op&&du r (jf m c.op)
def ku {α:Type}(cs:List (Int×α))(t:Int):Option Nat:=cs.findIdx? λe=>e.1==t
def step (S:tR)(e:iH):Option tR:=
 if e.kind=4 then
  if q8 (aX e.res.list)∧S.calls=[]∧S.now=[] then some {S with maps:=S.maps++[e.res.list]} else none
 else if e.kind=1 then
  if e.aV<0∨(ku S.calls e.aV).isSome=true∨e.op.kind<1∨e.op.kind>10∨e.no≠S.inv then none
  else some {S with calls:=S.calls++[(e.aV,⟨e.op,e.no,S.maps.length-1,none⟩)],inv:=IntKind.i64.wrap (S.inv+1)}
 else if e.kind=2 then
  match ku S.calls e.aV with
  |none=>none
  |some j=>match S.calls[j]? with
   |none=>none
   |some x=>if x.2.no≠e.no∨x.2.fh.isSome=true∨nU S.now x.2.op=false then none
    else some {S with maps:=S.maps++[Im S.now x.2.op],calls:=S.calls.set j (x.1,{x.2 with fh:=some S.now})}
 else if e.kind=3 then
  match ku S.calls e.aV with
  |none=>none
  |some j=>match S.calls[j]? with
   |none=>none
   |some x=>if x.2.no≠e.no∨may S.maps x.2 e.res=false then none else some {S with calls:=S.calls.eraseIdx j}
 else none
def check:List iH→tR→Nat→Int
 | [],_,_=> -1
 |e::L,S,i=>match step S e with
  |none=>i
  |some S'=>check L S' (i+1)
def Di:tR:=⟨[[]],[],0⟩
theorem Ti {α β:Type}(f:α→β)(cs:List (Int×α))(t:Int):ku (cs.map λe=>(e.1,f e.2)) t=ku cs t:=by
 unfold ku;rw[List.findIdx?_map];rfl
theorem wL {α:Type}{cs:List (Int×α)}{t:Int}{j:Nat}(h:ku cs t=some j): ∃x,cs[j]? =some x∧x.1=t∧cs.find? (λe=>e.1==t)=some x:=by
 unfold ku at h;obtain⟨hj,h1,h2⟩:=List.findIdx?_eq_some_iff_getElem.1 h;refine⟨cs[j],List.getElem?_eq_getElem hj,by simpa using h1,?_⟩
 rw[List.find?_eq_some_iff_getElem];exact⟨h1,j,hj,rfl,λk hk=>by simpa using h2 k hk⟩
theorem rY {α:Type}{cs:List (Int×α)}{t:Int}(h:ku cs t=none):cs.find? (λe=>e.1==t)=none:=by
 unfold ku at h;rw[List.findIdx?_eq_none_iff] at h;rw[List.find?_eq_none];intro x hx;simpa using h x hx
section
variable {H:ae} {o:an} {p:Int} {s:Value} {cs:List Value} {b:Option Nat}
theorem _root_.Go.Proofs.YtjgmnoaalbbonaaGreatA.Am.Sl.KZ {j:Nat}{x:Value}{t tE:TypeId}{by_:Nat}(h:Sl H o p s cs b)(hj:H.get j=some ⟨[x],t,1,false⟩)(h1:aD x=true)(hb:by_≤4096)(hl:cs.length<4294967296):
  ∃s' H' o' b',cd tE 1 by_ s (.slice (some ⟨j,0,none⟩) 1 1) H=some (s',H')∧Sl H' o' p s' (cs++[x]) b'∧Fr H o H' o' [p]∧∀i,i<H.length→o' i=o i:=by
 have fN:aA H j 0 1=some [x]:=by simp[aA,hj]
 cases b with
 |none=>
  obtain⟨rfl,rfl⟩:=h;refine⟨.slice (some ⟨H.length,0,none⟩) 1 1,H.new ⟨[x],tE,1,false⟩,o.up H.length p,some H.length,?_,⟨1,[],tE,rfl,az,rfl,rfl,aQ⟩,(Fr.refl _ _ _).new _ _,λi hi=>dc (by omega)⟩
  simp[cd,bp,fN,hb]
 |some q=>
  obtain⟨cap,rest,ty,rfl,h2,h3,h5,h6⟩:=h;have hql:=aq h2;by_cases iN:cs.length+1≤cap
  ·refine⟨.slice (some ⟨q,0,none⟩) (cs.length+1) cap,H.put q ⟨(cs++[x])++rest.drop 1,ty,1,false⟩,o,some q,?_,⟨cap,rest.drop 1,ty,by simp,aH h2,by simp;omega,?_,h6⟩,(Fr.refl _ _ _).put λ_=>by simp[h6],λi hi=>rfl⟩
   ·have ky:bG H q (0+cs.length*1) [x]=some (H.put q ⟨(cs++[x])++rest.drop 1,ty,1,false⟩):=by
     have e:=jO [x] cs rest (by simp;omega)
     simp only[List.length_singleton] at e;simp only[bG,h2];rw[if_pos (by simp[h1];omega)]
     rw[show 0+cs.length*1=cs.length by omega,e]
    simp only[cd,bp,fN,Nat.one_mul,Option.map_some];rw[if_neg (by omega)]
    simp only[fN,Option.map_some];rw[if_pos iN,if_neg (by omega)]
    simp only[h2,if_true,ky,Option.map_some]
   ·rw[List.all_eq_true] at h5 ⊢;exact λy hy=>h5 y (List.mem_of_mem_drop hy)
  ·refine⟨.slice (some ⟨H.length,0,none⟩) (cs.length+1) (cs.length+1),(H.kill q).new ⟨cs++[x],tE,1,false⟩,o.up H.length p,some H.length,?_,⟨cs.length+1,[],tE,by simp,?_,by simp,rfl,aQ⟩,?_,λi hi=>dc (by omega)⟩
   ·have hold:aA H q 0 (cs.length*1)=some cs:=by
     simp only[aA,h2];rw[if_pos (by simp)]
     simp
    simp only[cd,bp,Nat.one_mul];rw[if_neg (by omega)]
    simp only[fN,Option.map_some];rw[if_neg iN,if_pos (by simp;omega)]
    simp only[h2];rw[if_pos (by simp;omega)]
    simp only[hold]
   ·have:=az (H:=H.kill q) (c:=⟨cs++[x],tE,1,false⟩)
    rw[dt] at this;simpa using this
   ·have:=((Fr.refl H o [p]).kill (i:=q) (λ_=>by simp[h6])).new ⟨cs++[x],tE,1,false⟩ p
    rw[dt] at this;exact this
end
end Go.Proofs.YtjgmnoaalbbonaaGreat.Fun
end
