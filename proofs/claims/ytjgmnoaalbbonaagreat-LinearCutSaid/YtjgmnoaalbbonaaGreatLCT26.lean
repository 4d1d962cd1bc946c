/- Texts of the proof of linearCut_holds, put together by a small program of ours (names shortened, spaces taken out). No condition beyond the given statement. -/
import Derived.Test.YtjgmnoaalbbonaaGreatLCT25
set_option linter.unusedVariables false
set_option linter.unusedSimpArgs false
set_option linter.unnecessarySimpa false
noncomputable section
section
namespace Go.Proofs.YtjgmnoaalbbonaaGreat.Fun
open Go Go.RowKit Go.Proofs.YtjgmnoaalbbonaaGreatA.Am
set_option maxRecDepth 10000
structure jn where
 op:kC
 no:Int
 Fa:Nat
 fO:Option PL
structure AM where
 maps:List PL
 calls:List (Int×jn)
 inv:Int
structure hP where
 kind:Int
 bO:Int
 no:Int
 op:kC
 res:dA
 pick:Int
def AM.now (S:AM):PL:=S.maps.getD (S.maps.length-1) []
def may (maps:List PL)(c:jn)(r:dA):Bool:=
 match c.fO with
 |some a=>hO r (qZ a c.op)
 |none=>if decide (c.op.kind≤3)&&hO r (fN 8) then true else if decide (c.op.kind>4)&&hO r (fN 9) then true else(maps.drop c.Fa).any λm=> !Dz m c.op&&hO r (qZ m c.op)
def j9 {α:Type}(cs:List (Int×α))(t:Int):Option Nat:=cs.findIdx? λe=>e.1==t
def step (S:AM)(e:hP):Option AM:=
 if e.kind=4 then
  if AJ (bd e.res.list)∧S.calls=[]∧S.now=[] then some {S with maps:=S.maps++[e.res.list]} else none
 else if e.kind=1 then
  if e.bO<0∨(j9 S.calls e.bO).isSome=true∨e.op.kind<1∨e.op.kind>10∨e.no≠S.inv then none
  else some {S with calls:=S.calls++[(e.bO,⟨e.op,e.no,S.maps.length-1,none⟩)],inv:=IntKind.i64.wrap (S.inv+1)}
 else if e.kind=2 then
  match j9 S.calls e.bO with
  |none=>none
  |some j=>match S.calls[j]? with
   |none=>none
   |some x=>if x.2.no≠e.no∨x.2.fO.isSome=true∨Dz S.now x.2.op=false then none
    else some {S with maps:=S.maps++[My S.now x.2.op],calls:=S.calls.set j (x.1,{x.2 with fO:=some S.now})}
 else if e.kind=3 then
  match j9 S.calls e.bO with
  |none=>none
  |some j=>match S.calls[j]? with
   |none=>none
   |some x=>if x.2.no≠e.no∨may S.maps x.2 e.res=false then none else some {S with calls:=S.calls.eraseIdx j}
 else none
def check:List hP→AM→Nat→Int
 | [],_,_=> -1
 |e::L,S,i=>match step S e with
  |none=>i
  |some S'=>check L S' (i+1)
def Fb:AM:=⟨[[]],[],0⟩
theorem Pf {α β:Type}(f:α→β)(cs:List (Int×α))(t:Int):j9 (cs.map λe=>(e.1,f e.2)) t=j9 cs t:=by
 unfold j9;rw[List.findIdx?_map];rfl
theorem uF {α:Type}{cs:List (Int×α)}{t:Int}{j:Nat}(h:j9 cs t=some j): ∃x,cs[j]? =some x∧x.1=t∧cs.find? (λe=>e.1==t)=some x:=by
 unfold j9 at h;obtain⟨hj,h1,h2⟩:=List.findIdx?_eq_some_iff_getElem.1 h;refine⟨cs[j],List.getElem?_eq_getElem hj,by simpa using h1,?_⟩
 rw[List.find?_eq_some_iff_getElem];exact⟨h1,j,hj,rfl,λk hk=>by simpa using h2 k hk⟩
theorem qx {α:Type}{cs:List (Int×α)}{t:Int}(h:j9 cs t=none):cs.find? (λe=>e.1==t)=none:=by
 unfold j9 at h;rw[List.findIdx?_eq_none_iff] at h;rw[List.find?_eq_none];intro x hx;simpa using h x hx
section
variable {H:aa} {o:aj} {p:Int} {s:Value} {cs:List Value} {b:Option Nat}
theorem _root_.Go.Proofs.YtjgmnoaalbbonaaGreatA.Am.Sl.LQ {j:Nat}{x:Value}{t tE:TypeId}{by_:Nat}(h:Sl H o p s cs b)(hj:H.get j=some ⟨[x],t,1,false⟩)(h1:av x=true)(hb:by_≤4096)(hl:cs.length<4294967296):
  ∃s' H' o' b',cg tE 1 by_ s (.slice (some ⟨j,0,none⟩) 1 1) H=some (s',H')∧Sl H' o' p s' (cs++[x]) b'∧Fr H o H' o' [p]∧∀i,i<H.length→o' i=o i:=by
 have iX:aw H j 0 1=some [x]:=by simp[aw,hj]
 cases b with
 |none=>
  obtain⟨rfl,rfl⟩:=h;refine⟨.slice (some ⟨H.length,0,none⟩) 1 1,H.new ⟨[x],tE,1,false⟩,o.up H.length p,some H.length,?_,⟨1,[],tE,rfl,ay,rfl,rfl,aH⟩,(Fr.refl _ _ _).new _ _,λi hi=>cZ (by omega)⟩
  simp[cg,bq,iX,hb]
 |some q=>
  obtain⟨cap,rest,ty,rfl,h2,h3,h5,h6⟩:=h;have hql:=an h2;by_cases ig:cs.length+1≤cap
  ·refine⟨.slice (some ⟨q,0,none⟩) (cs.length+1) cap,H.put q ⟨(cs++[x])++rest.drop 1,ty,1,false⟩,o,some q,?_,⟨cap,rest.drop 1,ty,by simp,aD h2,by simp;omega,?_,h6⟩,(Fr.refl _ _ _).put λ_=>by simp[h6],λi hi=>rfl⟩
   ·have kW:bl H q (0+cs.length*1) [x]=some (H.put q ⟨(cs++[x])++rest.drop 1,ty,1,false⟩):=by
     have e:=jf [x] cs rest (by simp;omega)
     simp only[List.length_singleton] at e;simp only[bl,h2];rw[if_pos (by simp[h1];omega)]
     rw[show 0+cs.length*1=cs.length by omega,e]
    simp only[cg,bq,iX,Nat.one_mul,Option.map_some];rw[if_neg (by omega)]
    simp only[iX,Option.map_some];rw[if_pos ig,if_neg (by omega)]
    simp only[h2,if_true,kW,Option.map_some]
   ·rw[List.all_eq_true] at h5 ⊢;exact λy hy=>h5 y (List.mem_of_mem_drop hy)
  ·refine⟨.slice (some ⟨H.length,0,none⟩) (cs.length+1) (cs.length+1),(H.kill q).new ⟨cs++[x],tE,1,false⟩,o.up H.length p,some H.length,?_,⟨cs.length+1,[],tE,by simp,?_,by simp,rfl,aH⟩,?_,λi hi=>cZ (by omega)⟩
   ·have hold:aw H q 0 (cs.length*1)=some cs:=by
     simp only[aw,h2];rw[if_pos (by simp)]
     simp
    simp only[cg,bq,Nat.one_mul];rw[if_neg (by omega)]
    simp only[iX,Option.map_some];rw[if_neg ig,if_pos (by simp;omega)]
    simp only[h2];rw[if_pos (by simp;omega)]
    simp only[hold]
   ·have:=ay (H:=H.kill q) (c:=⟨cs++[x],tE,1,false⟩)
    rw[dh] at this;simpa using this
   ·have:=((Fr.refl H o [p]).kill (i:=q) (λ_=>by simp[h6])).new ⟨cs++[x],tE,1,false⟩ p
    rw[dh] at this;exact this
end
end Go.Proofs.YtjgmnoaalbbonaaGreat.Fun
end
