/- Texts of the proof of helpPlays_holds, put together by a small program of ours (names shortened, spaces taken out). No condition beyond the given statement. -/
import Derived.Test.YtgfgglponbmgmaaGreatHPL17
import Derived.Test.YtgfgglponbmgmaaGreatHPL27
import Derived.Test.YtgfgglponbmgmaaGreatHPL26
import Derived.Test.YtgfgglponbmgmaaGreatHPL13
import Derived.Test.YtgfgglponbmgmaaGreatHPL11
import Derived.Test.YtgfgglponbmgmaaGreatHPL12
import Derived.Test.YtgfgglponbmgmaaGreatHPL18
set_option linter.unusedVariables false
set_option linter.unusedSimpArgs false
set_option linter.unnecessarySimpa false
noncomputable section
section
namespace Go.Proofs.YtgfgglponbmgmaaGreat.Fun
open Go Go.RowKit Go.Proofs.YtgfgglponbmgmaaGreatA.Am
set_option maxRecDepth 10000
section
open Go.Proofs.YtgfgglponbmgmaaGreatA
variable {G:ae} {H H':aa} {o o':aj} {p c:Nat} {K:aa→aj→Prop} {t q:Int} {x:Value} {l:List Y.En} {st Nz s1:Y.St} {α β:Type}
def ui:List Y.En→List Value
 | []=>[]
 |e::l=>cv e.node::cv e.slot::cv e.word::ui l
theorem mn: ∀l:List Y.En,(ui l).length=3*l.length
 | []=>rfl
 |e::l=>by simp only[ui,List.length_cons,mn l];omega
theorem Dl: ∀a b:List Y.En,ui (a++b)=ui a++ui b
 | [],b=>rfl
 |e::a,b=>by simp only[List.cons_append,ui,Dl a b]
theorem M8 {l:List Y.En}{j:Nat}(hj:j<l.length): ∃a b,ui l=a++cv l[j].node::cv l[j].slot::cv l[j].word::b∧a.length=3*j:=by
 refine⟨ui (l.take j),ui (l.drop (j+1)),?_,by rw[mn];simp;omega⟩
 conv=>lhs;rw[←List.take_append_drop j l,Dl,List.drop_eq_getElem_cons hj]
 rfl
def FL (H:aa)(o:aj)(q:Int)(x:Value)(l:List Y.En):Prop:=
 (x= .slice none 0 0∧l=[])∨∃(i cap:Nat) (rest:List Value) (ty:TypeId),x= .slice (some ⟨i,0,none⟩) l.length cap∧H.get i=some ⟨ui l++rest,ty,3,false⟩∧3*l.length+rest.length=3*cap∧o i=q
theorem FL.fr {ps:List Int}(h:FL H o q x l)(f:Fr H o H' o' ps)(hp:q ∉ ps):FL H' o' q x l:=by
 rcases h with h|⟨i,cap,rest,ty,h1,h2,h3,h5⟩
 ·exact .inl h
 ·exact .inr ⟨i,cap,rest,ty,h1,by rw[f.same i (ar h2) (by rw[h5];exact hp)];exact h2,h3,by rw[f.own i (ar h2)];exact h5⟩
theorem FL.len (h:FL H o q x l):cE x=some (cv l.length):=by
 rcases h with⟨rfl,rfl⟩|⟨i,cap,rest,ty,rfl,_⟩<;>rfl
theorem FL.idx (h:FL H o q x l){j:Nat}(hj:j<l.length): ∃(i off:Nat) (b:eW),(∀H',cK 3 x (cv j) H'=some (.pointer (some ⟨i,off,none⟩),H'))∧H.get i=some b∧o i=q∧
  ∀H':aa,H'.get i=some b→aq (.pointer (some ⟨i,off+2,none⟩)) H'=some (cv l[j].word)∧dh 3 (.pointer (some ⟨i,off,none⟩)) H'=some (.agg #[cv l[j].node,cv l[j].slot,cv l[j].word]):=by
 rcases h with⟨rfl,rfl⟩|⟨i,cap,rest,ty,rfl,h2,h3,h5⟩
 ·simp at hj
 ·obtain⟨a,b,eab,la⟩:=M8 hj;have ec:ui l++rest=a++cv l[j].node::cv l[j].slot::cv l[j].word::(b++rest):=by rw[eab];simp
  refine⟨i,3*j,_,λH'=>?_,h2,h5,λH' g=>⟨?_,?_⟩⟩
  ·simp only[cK];rw[if_pos (by constructor<;>omega)];simp<;>omega
  ·rw[an i _ H' g,ec,List.getElem?_append_right (by omega),la]
   have:3*j+2-3*j=2:=by omega
   rw[this];rfl
  ·have uW:aR H' i (3*j) 3=some [cv l[j].node,cv l[j].slot,cv l[j].word]:=by
    simp only[aR,g];rw[if_pos (by simp[mn];omega),ec,List.drop_append_of_le_length (by omega),List.drop_eq_nil_of_le (by omega)]
    rfl
   simp only[dh,uW]
theorem FL.app (T ty:TypeId)(h:FL H o q x l)(e:Y.En)(hb:l.length+1≤4294967296):
  ∃x' H2 o2,dk T 3 24 x (.slice (some ⟨H.length,0,none⟩) 1 1) (H.new ⟨[cv e.node,cv e.slot,cv e.word],ty,3,false⟩)=some (x',H2)∧FL H2 o2 q x' (l++[e])∧Fr H o H2 o2 [q]:=by
 obtain⟨H1,e1⟩: ∃z,z=H.new ⟨[cv e.node,cv e.slot,cv e.word],ty,3,false⟩:=⟨_,rfl⟩;have l1:H1.length=H.length+1:=by rw[e1,cD]
 have g1:H1.get H.length=some ⟨[cv e.node,cv e.slot,cv e.word],ty,3,false⟩:=by rw[e1];exact aL
 have f1:Fr H o H1 (o.up H.length (-9)) [q]:=by rw[e1];exact(Fr.refl H o [q]).new _ _
 have M9:cJ H1 3 1 (.slice (some ⟨H.length,0,none⟩) 1 1)=some [cv e.node,cv e.slot,cv e.word]:=by simp[cJ,aR,g1]
 have ee:ui (l++[e])=ui l++[cv e.node,cv e.slot,cv e.word]:=by rw[Dl];rfl
 rw[←e1];rcases h with⟨rfl,rfl⟩|⟨i,cap,rest,Bg,rfl,h2,h3,h5⟩
 ·refine⟨.slice (some ⟨H1.length,0,none⟩) 1 1,H1.new ⟨[cv e.node,cv e.slot,cv e.word],T,3,false⟩,(o.up H.length (-9)).up H1.length q,?_,.inr ⟨H1.length,1,[],T,rfl,?_,by simp,aP⟩,f1.new _ _⟩
  ·simp[dk,M9]
  ·simpa[ui] using aL
 ·have ZT:=ar h2;have g2:H1.get i=some ⟨ui l++rest,Bg,3,false⟩:=by rw[e1,dq ZT];exact h2
  by_cases jn:l.length+1≤cap
  ·obtain⟨r0,r1,r2,Bz,rfl⟩: ∃r0 r1 r2 Bz,rest=r0::r1::r2::Bz:=by
    match rest,h3 with
    | [],h=>simp at h;omega
    | [_],h=>simp at h;omega
    | [_,_],h=>simp at h;omega
    |a::b::c::r,_=>exact⟨a,b,c,r,rfl⟩
   have hc:dz (ui l++r0::r1::r2::Bz) (l.length*3) [cv e.node,cv e.slot,cv e.word]=ui (l++[e])++Bz:=by
    simp only[dz];have le:(ui l).length=l.length*3:=by rw[mn];omega
    rw[List.set_append_right _ _ (by omega),List.set_append_right _ _ (by omega),List.set_append_right _ _ (by omega),le,ee]
    have a0:l.length*3-l.length*3=0:=by omega
    have a1:l.length*3+1-l.length*3=1:=by omega
    have a2:l.length*3+1+1-l.length*3=2:=by omega
    rw[a0,a1,a2];simp
   refine⟨.slice (some ⟨i,0,none⟩) (l.length+1) cap,H1.put i ⟨ui (l++[e])++Bz,Bg,3,false⟩,o.up H.length (-9),?_,.inr ⟨i,cap,Bz,Bg,by simp,aG g2,by simp at h3 ⊢;omega,by rw[dP (by omega)];exact h5⟩,f1.put λ_=>by simp[h5]⟩
   simp only[dk,M9,Option.map_some];rw[if_pos jn,if_neg (by omega)]
   simp only[g2,if_true,bZ];rw[if_pos (by simp[aD,mn] at h3 ⊢;omega)]
   simp only[Option.map_some,Nat.zero_add,hc]
  ·have tk:(ui l++rest).take (l.length*3)=ui l:=by
    have le:(ui l).length=l.length*3:=by rw[mn];omega
    rw[←le,List.take_left'];rfl
   refine⟨.slice (some ⟨H1.length,0,none⟩) (l.length+1) (l.length+1),(H1.kill i).new ⟨ui (l++[e]),T,3,false⟩,(o.up H.length (-9)).up H1.length q,?_,.inr ⟨H1.length,l.length+1,[],T,by simp,?_,by simp,aP⟩,?_⟩
   ·simp only[dk,M9,Option.map_some];rw[if_neg jn,if_pos (by simp;omega)]
    simp only[g2];rw[if_pos (by simp[mn];omega)]
    have e:aR H1 i 0 (l.length*3)=some (ui l):=by
     simp only[aR,g2];rw[if_pos (by simp[mn];omega),List.drop_zero,tk]
    simp only[e,ee]
   ·have:=aL (H:=H1.kill i) (c:=⟨ui (l++[e]),T,3,false⟩)
    rw[gF] at this;rw[List.append_nil];exact this
   ·have f2:=(f1.kill (i:=i) (λ_=>by simp[h5])).new ⟨ui (l++[e]),T,3,false⟩ q
    rw[gF] at f2;exact f2
theorem Na {f:Nat}{first:Option Y.En}{l:List Y.En}{s:Y.St}(h:s.off=true):Y.ah (Y.dt f first l) s=Y.ah (Y.dt f first []) s:=by
 have e:Y.ah (Y.dt f first []) s=((),s):=by
  cases first with
  |none=>rfl
  |some e=>unfold Y.dt;simp only[Y.al,bn,bG,bM,cW,cX,ne_eq,not_true_eq_false,not_false_eq_true,if_true,if_false,Bool.not_true,Bool.not_false,true_and,and_true,false_and,and_false,true_or,or_true,false_or,or_false,Bool.false_eq_true,decide_true,decide_false,h]
 rw[e];cases l with
 |nil=>exact e
 |cons x l=>unfold Y.dt;simp only[Y.al,bn,bG,bM,cW,cX,ne_eq,not_true_eq_false,not_false_eq_true,if_true,if_false,Bool.not_true,Bool.not_false,true_and,and_true,false_and,and_false,true_or,or_true,false_or,or_false,Bool.false_eq_true,decide_true,decide_false,h]
theorem TA (h:JX K p st H){ff:Nat}(YJ:st.left≤ff){path:List Y.En}(hx: ∀H o,K H o→FL H o q x path)(hp: ∀e∈path, -9223372036854775808≤e.node∧e.node≤65536)(hn:path.length≤2147483648):aF (run G) 126 [pv p,x] H (PI K p st (Y.dt (ff+1) none path)):=by
 refine Ev.up (t:=λk=>Yb (run G k) k (pv p) x H) ?_ λk=>SM ..
 simp -implicitDefEqProofs only[Yb,sS,Nat.reduceAdd];have hen: ∀{s':Y.St} {H':aa},JX K p s' H'→∃o,FL H' o q x path:=λhj=>by obtain⟨_,o,_,hk⟩:=hj;exact⟨o,hx _ _ hk⟩
 refine Ev.loop (k:=path.length) (λk vs Hx=>∃(i:Nat) (f:Int) (first:Option Y.En) (sx:Y.St) (bz x6 x7 x8 eu eI:Value),JX K p sx Hx∧sx.left≤ff∧i+k=path.length∧((f= -1∧first=none)∨∃(j:Nat) (hj:j<path.length),f=j∧first=some path[j])∧Y.ah (Y.dt (ff+1) none path) st=Y.ah (Y.dt (ff+1) first (path.drop i)) sx∧vs=[pv p,x,cv i,bz,x6,cv f,x7,x8,eu,eI])
  (λr=>∃(f:Int) (first:Option Y.En) (sx:Y.St),JX K p sx r.2.2∧sx.left≤ff∧r.1= .exit 0∧((f= -1∧first=none)∨∃(j:Nat) (hj:j<path.length),f=j∧first=some path[j])∧(Y.ah (Y.dt (ff+1) none path) st=Y.ah (Y.dt (ff+1) first []) sx)∧∃(x5 bz x6 x7 x8 eu eI:Value),r.2.1=[pv p,x,x5,bz,x6,cv f,x7,x8,eu,eI]) ⟨0, -1,none,st,_,_,_,_,_,_,h,YJ,by omega,.inl ⟨rfl,rfl⟩,rfl,rfl⟩ ?_ ?_
 ·rintro k vs Hx ⟨i,f,first,sx,bz,x6,x7,x8,eu,eI,hj,hl,hik,hf,E,rfl⟩
  obtain⟨o1,he⟩:=hen hj;have hw:IntKind.i64.wrap ((i:Int)+1)=((i+1:Nat):Int):=by rw[ga (by omega)];omega
  have iX: ∀{s2:Y.St} {H2:aa} {f:Int} {first:Option Y.En} (bz x6 x7 x8 eu eI:Value),JX K p s2 H2→s2.left≤ff→i<path.length→((f= -1∧first=none)∨∃(j:Nat) (hj:j<path.length),f=j∧first=some path[j])→Y.ah (Y.dt (ff+1) none path) st=Y.ah (Y.dt (ff+1) first (path.drop (i+1))) s2→Ev (λk=>vU (run G k) k [pv p,x,cv i,bz,x6,cv f,x7,x8,eu,eI] H2) λr=>(r.1= .normal∧∃k',k'<k∧∃(i:Nat) (f:Int) (first:Option Y.En) (sx:Y.St) (bz x6 x7 x8 eu eI:Value),JX K p sx r.2.2∧sx.left≤ff∧i+k'=path.length∧((f= -1∧first=none)∨∃(j:Nat) (hj:j<path.length),f=j∧first=some path[j])∧Y.ah (Y.dt (ff+1) none path) st=Y.ah (Y.dt (ff+1) first (path.drop i)) sx∧r.2.1=[pv p,x,cv i,bz,x6,cv f,x7,x8,eu,eI])∨(r.1≠ .normal∧∃(f:Int) (first:Option Y.En) (sx:Y.St),JX K p sx r.2.2∧sx.left≤ff∧r.1= .exit 0∧((f= -1∧first=none)∨∃(j:Nat) (hj:j<path.length),f=j∧first=some path[j])∧(Y.ah (Y.dt (ff+1) none path) st=Y.ah (Y.dt (ff+1) first []) sx)∧∃(x5 bz x6 x7 x8 eu eI:Value),r.2.1=[pv p,x,x5,bz,x6,cv f,x7,x8,eu,eI]):=by
   intro s2 H2 f first bz x6 x7 x8 eu eI hj hl hi hf E
   simp -implicitDefEqProofs only[Mj,yE,hw,sS,Nat.reduceAdd];exact Ev.ret (.inl ⟨rfl,k-1,by omega,i+1,f,first,s2,_,_,_,_,_,_,hj,hl,by omega,hf,E,rfl⟩)
  simp -implicitDefEqProofs only[Ml,yF,he.len,sS,Nat.reduceAdd];refine Ev.lss (λhq=>?_) (λhq=>?_)<;>try simp -implicitDefEqProofs only[sS,Nat.reduceAdd]
  ·have ZY:i<path.length:=by omega
   obtain⟨ib,off,b,e1,e2,e3,e4⟩:=he.idx (j:=i) ZY;obtain⟨e5,e6⟩:=e4 _ e2;refine Ev.nZ hj (λhq=>?_) (λhq=>?_)<;>try simp -implicitDefEqProofs only[e1,gX,e5,sS,Nat.reduceAdd]
   ·rw[Na hq] at E;exact Ev.ret (.inr ⟨by simp,f,first,sx,hj,hl,rfl,hf,E,_,_,_,_,_,_,_,rfl⟩)
   rw[List.drop_eq_getElem_cons ZY] at E;have E1:Y.ah (Y.dt (ff+1) none path) st=Y.ah (Y.ad (Y.aw path[i].word+3) 1 >>= λc=>Y.rd (Y.aw path[i].word+1) >>= λs=>Y.dt (ff+1) (match first with|some x=>some x|none=>if Y.wr (c+1)≥Y.PG s then some path[i] else none) (path.drop (i+1))) sx:=by
    rw[E];conv=>lhs;unfold Y.dt
    simp only[Y.al,bn,bG,bM,cW,cX,ne_eq,not_true_eq_false,not_false_eq_true,if_true,if_false,Bool.not_true,Bool.not_false,true_and,and_true,false_and,and_false,true_or,or_true,false_or,or_false,Bool.false_eq_true,decide_true,decide_false,hq];cases first<;>rfl
   refine Ev.is (n3 _) ?_;simp -implicitDefEqProofs only[sS,Nat.reduceAdd,NA _ (j:=3) (by omega)]
   refine Ev.fe (UZ hj _ _) λc s1 H1 f1 k1=>?_
   have m1:=dv f1;rw[Y.aJ f1] at E1;simp -implicitDefEqProofs only[sS,Nat.reduceAdd,NA _ (j:=1) (by omega)]
   refine Ev.fe (df k1 _) λs s2 H2 f2 k2=>?_
   have m2:=dv f2;rw[Y.aJ f2] at E1
   try simp -implicitDefEqProofs only[sS,Nat.reduceAdd]
   refine Ev.lss (λh3=>?_) (λh3=>?_)<;>try simp -implicitDefEqProofs only[sS,Nat.reduceAdd,cP]
   ·have zP:f= -1∧first=none:=by
     rcases hf with h|⟨j,hj,h,_⟩
     ·exact h
     ·omega
    obtain⟨rfl,rfl⟩:=zP;refine Ev.is (Tg _) ?_
    try simp -implicitDefEqProofs only[sS,Nat.reduceAdd,cP]
    refine Ev.geq (λh4=>?_) (λh4=>?_)<;>try simp -implicitDefEqProofs only[sS,Nat.reduceAdd,cP]
    ·simp only[if_pos h4] at E1;exact iX _ _ _ _ _ _ k2 (by omega) ZY (.inr ⟨i,ZY,rfl,rfl⟩) E1
    ·simp only[if_neg h4] at E1;exact iX _ _ _ _ _ _ k2 (by omega) ZY (.inl ⟨rfl,rfl⟩) E1
   ·rcases hf with⟨h,_⟩|⟨j,zN,rfl,rfl⟩
    ·omega
    ·exact iX _ _ _ _ _ _ k2 (by omega) ZY (.inr ⟨j,zN,rfl,rfl⟩) E1
  ·have:path.drop i=[]:=List.drop_eq_nil_of_le (by omega)
   rw[this] at E;exact Ev.ret (.inr ⟨by simp,f,first,sx,hj,hl,rfl,hf,E,_,_,_,_,_,_,_,rfl⟩)
 ·rintro e vs Hx ⟨f,first,sx,hj,hl,he,hf,E,x5,bz,x6,x7,x8,eu,eI,hv⟩
  simp only at he hv hj;subst he hv;simp -implicitDefEqProofs only[Mn,yG,sS,Nat.reduceAdd];refine Ev.geq (λhq=>?_) (λhq=>?_)<;>try simp -implicitDefEqProofs only[sS,Nat.reduceAdd]
  ·rcases hf with⟨h,_⟩|⟨j,hjp,rfl,rfl⟩
   ·omega
   refine Ev.nZ hj (λhq=>?_) (λhq=>?_)<;>try simp -implicitDefEqProofs only[sS,Nat.reduceAdd]
   ·refine Ev.ret (PI.of (z:=()) hj ?_);rw[E];unfold Y.dt;simp only[Y.al,bn,bG,bM,cW,cX,ne_eq,not_true_eq_false,not_false_eq_true,if_true,if_false,Bool.not_true,Bool.not_false,true_and,and_true,false_and,and_false,true_or,or_true,false_or,or_false,Bool.false_eq_true,decide_true,decide_false,hq]
   ·obtain⟨o1,he⟩:=hen hj;obtain⟨ib,off,b,e1,e2,e3,e4⟩:=he.idx (j:=j) hjp;obtain⟨e5,e6⟩:=e4 _ e2;simp -implicitDefEqProofs only[e1,e6,sS,Nat.reduceAdd];refine Ev.MM (Tz hj (f:=ff) hl (hp _ (List.getElem_mem hjp)) _ _) λz s3 H3 e3 gG=>?_
    try simp -implicitDefEqProofs only[sS,Nat.reduceAdd]
    refine Ev.ret (PI.of (z:=()) gG ?_);rw[E];unfold Y.dt;simp only[Y.al,bn,bG,bM,cW,cX,ne_eq,not_true_eq_false,not_false_eq_true,if_true,if_false,Bool.not_true,Bool.not_false,true_and,and_true,false_and,and_false,true_or,or_true,false_or,or_false,Bool.false_eq_true,decide_true,decide_false,hq];have e3':Y.ah (Y.oV (ff+1) path[j]) sx=(z,s3):=e3;rw[e3']
  ·rcases hf with⟨rfl,rfl⟩|⟨j,hjp,rfl,rfl⟩
   ·exact Ev.ret (PI.of (z:=()) hj (by rw[E];rfl))
   ·omega
end
section
variable {G:ae} {H H':aa} {o o':aj} {p m c:Nat} {K K':aa→aj→Prop} {t q:Int} {x:Value} {l:PL} {n i:Nat} {cs:List Value} {T:TypeId}
def Cl (i:Nat)(cs:List Value)(T:TypeId)(H:aa)(o:aj):Prop:=H.get i=some ⟨cs,T,1,false⟩∧o i= -9
theorem Cl.fr {ps:List Int}(h:Cl i cs T H o)(f:Fr H o H' o' ps)(hp:(-9:Int) ∉ ps):Cl i cs T H' o':=
 ⟨by rw[f.same i (ar h.1) (by rw[h.2];exact hp)];exact h.1,by rw[f.own i (ar h.1)];exact h.2⟩
theorem Cl.new {c:eW}(h:Cl i cs T H o):Cl i cs T (H.new c) (o.up H.length (-9)):=h.fr ((Fr.refl H o []).new _ _) (by simp)
theorem Cl.put {j:Nat}{c:eW}(h:Cl i cs T H o)(dC:i≠j):Cl i cs T (H.put j c) o:=⟨by rw[bt dC];exact h.1,h.2⟩
theorem Cl.self (h:Cl i cs T H o){ds:List Value}:Cl i ds T (H.put i ⟨ds,T,1,false⟩) o:=⟨aG h.1,h.2⟩
theorem Cl.made:Cl H.length cs T (H.new ⟨cs,T,1,false⟩) (o.up H.length (-9)):=⟨aL,aP⟩
theorem lA (l:List Int)(T:TypeId):eO (H.new ⟨l.map cv,T,1,false⟩) (.slice (some ⟨H.length,0,none⟩) l.length l.length) l:=(oQ.new H o0 (-9) T l).ints.1
theorem Dm {l:List Int}(h:eO H x l)(c:eW):eO (H.new c) x l:=h.keep λi b e dC=>by
 rcases h with⟨e1,e2⟩|⟨j,off,cc,e1,hb⟩
 ·exact absurd e2 dC
 ·obtain⟨bb,g1,_⟩:=hb dC;rw[e1] at e;cases e;exact dq (ar g1)
abbrev rc (r:eQ):List Value:=[cv r.Fa,.bool r.found,cv r.key,cv r.value,cv r.n,aA]
abbrev n8 (op:kp):List Value:=[cv op.kind,cv op.key,cv op.value]
theorem abm (a b:Int)(H:aa):Oh (cv a) (cv b) H=some (cv (if b>a then b else a),H):=rfl
end
section
variable {G:ae} {H H':aa} {o o':aj} {p m c:Nat} {K K':aa→aj→Prop} {t q:Int} {x:Value} {l:PL} {n i:Nat} {cs:List Value} {T:TypeId}
structure KL (B:aa) (b:aj) (p i0 i1 i2:Nat) (op:kp) (c1:List Value) (r2:eQ) (H:aa) (o:aj):Prop where
 fr:Fr B b H o [(p:Int)]
 k0:Cl i0 (n8 op) 39 H o
 k1:Cl i1 c1 47 H o
 k2:Cl i2 (rc r2) 47 H o
structure KLd (B:aa) (i0 i1 i2:Nat):Prop where
 a:i0=B.length
 b:i1=B.length+1
 c:i2=B.length+2
section
variable {B:aa} {b:aj} {i0 i1 i2:Nat} {op:kp} {c1:List Value} {r2:eQ}
theorem KL.fg:bH [(p:Int)] (KL B b p i0 i1 i2 op c1 r2):=λH o H' o' h f=>⟨h.fr.tr f,h.k0.fr f (by simp),h.k1.fr f (by simp),h.k2.fr f (by simp)⟩
end
theorem adl (a b:Int):aE Tryz.prog 45 [(0,cv a),(1,cv b)]=some (.agg #[cv a,cv b]):=zt a b
end
section
open Go.Proofs.YtgfgglponbmgmaaGreatA
variable {G:ae} {H H':aa} {o o':aj} {p c n i:Nat} {K K':aa→aj→Prop} {t q:Int} {x:Value} {l:List Y.En} {st Nz s1:Y.St} {α β:Type} {cs:List Value} {T:TypeId}
theorem JX.nI (h:JX K p st H)(cs:List Value)(T:TypeId)(es:Nat)(TB:bH [(p:Int)] K')(k: ∀o,K H o→Fr H o (H.new ⟨cs,T,es,false⟩) (o.up H.length (-9)) []→K' (H.new ⟨cs,T,es,false⟩) (o.up H.length (-9))):JX K' p st (H.new ⟨cs,T,es,false⟩):=by
 obtain⟨hK,o,hr,hk⟩:=h;have f:Fr H o (H.new ⟨cs,T,es,false⟩) (o.up H.length (-9)) []:=(Fr.refl H o []).new _ _;exact⟨TB,_,hr.fr f (by simp) (by simp) (by simp),k o hk f⟩
theorem JX.uj (h:JX K p st H){c:eW}(hc: ∀o,K H o→Cl i cs T H o)(TB:bH [(p:Int)] K')(k: ∀o,K H o→K' (H.put i c) o):JX K' p st (H.put i c):=by
 obtain⟨hK,o,hr,hk⟩:=h;have f:Fr H o (H.put i c) o [-9]:=(Fr.refl H o [-9]).put λ_=>by simp[(hc o hk).2]
 exact⟨TB,_,hr.fr f (by simp) (by simp) (by simp),k o hk⟩
theorem JX.new (h:JX K p st H)(c:eW):JX K p st (H.new c):=h.uL λo=>⟨o.up H.length (-9),(Fr.refl H o []).new _ _⟩
abbrev om (op:kp):Y.Op:=⟨op.kind,op.key,op.value⟩
theorem JJ (h:JX K p st H):aF (run G) 166 [] H λv H'=>v=gz (lO 8) aA∧JX K p st H':=by
 refine Ev.up (t:=λk=>Xh (run G k) k H) ?_ λk=>R7 ..
 simp -implicitDefEqProofs only[Xh,aV,sS,Nat.reduceAdd];have g:(H.new ⟨[cv 0,.bool false,cv 0,cv 0,cv 0,aA],47,1,false⟩).get H.length=some ⟨[cv 0,.bool false,cv 0,cv 0,cv 0,aA],47,1,false⟩:=aL;have kY:=ug H.length (lO 8) (s:=aA) rfl _ g rfl;have uW:=pV H.length (lO 8) (s:=aA) (t:=47) _ (aG g);simp -implicitDefEqProofs only[M7,kY,uW,sS,Nat.reduceAdd];refine Ev.ret ⟨rfl,?_⟩;obtain⟨hK,o,hr,hk⟩:=h;have f:Fr H o ((H.new ⟨[cv 0,.bool false,cv 0,cv 0,cv 0,aA],47,1,false⟩).put H.length ⟨[cv (lO 8).Fa,.bool (lO 8).found,cv (lO 8).key,cv (lO 8).value,cv (lO 8).n,aA],47,1,false⟩) (o.up H.length (-9)) []:=((Fr.refl H o []).new _ _).put λhh=>absurd hh (by omega)
 exact⟨hK,_,hr.fr f (by simp) (by simp) (by simp),hK _ _ _ _ hk (f.wk (by simp))⟩
theorem TC (h:JX K p st H)(op:kp)(w q:Int)(leaf there:Bool):aF (run G) 169 [pv p,jx op,cv w,cv q,.bool leaf,.bool there] H (iN K p st (Y.mE (om op) w q leaf there)):=by
 refine Ev.up (t:=λk=>Xi (run G k) k (pv p) (jx op) (cv w) (cv q) (.bool leaf) (.bool there) H) ?_ λk=>R8 ..
 have hK:=h.1;obtain⟨i0,ei⟩: ∃i,i=H.length:=⟨_,rfl⟩;obtain⟨H1,e1⟩: ∃z,z=H.new ⟨n8 op,39,1,false⟩:=⟨_,rfl⟩;have fK:JX (λH o=>K H o∧Cl i0 (n8 op) 39 H o) p st H1:=by
  rw[e1];refine h.nI _ _ 1 (hK.and λH o H' o' a f=>a.fr f (by simp)) λo hk f=>⟨hK _ _ _ _ hk (f.wk (by simp)),?_⟩
  rw[ei];exact Cl.made
 have iq: ∀{s':Y.St} {H':aa},JX (λH o=>K H o∧Cl i0 (n8 op) 39 H o) p s' H'→JX K p s' H':=λhj=>hj.mono hK λo a=>a.1
 have L0: ∀{s':Y.St} {H':aa},JX (λH o=>K H o∧Cl i0 (n8 op) 39 H o) p s' H'→aq (.pointer (some ⟨i0,0,none⟩)) H'=some (cv op.kind)∧aq (.pointer (some ⟨i0,1,none⟩)) H'=some (cv op.key)∧aq (.pointer (some ⟨i0,2,none⟩)) H'=some (cv op.value):=λhj=>by
  obtain⟨_,o,_,_,g,_⟩:=hj;exact⟨an i0 0 _ g,an i0 1 _ g,an i0 2 _ g⟩
 obtain⟨a0,a1,a2⟩:=L0 fK;have bx:=Dj op H;rw[←ei, ←e1] at bx;simp -implicitDefEqProofs only[Xi,bx,a0,a1,a2,sS,Nat.reduceAdd];refine Ev.eql (λhq=>?_) (λhq=>?_)<;>try simp -implicitDefEqProofs only[a0,a1,a2,sS,Nat.reduceAdd]
 ·refine Ev.Tl (sI fK) λw Hz hj=>?_
  refine Ev.sH (nE hj) λz s2 Hz ez hj=>?_
  have zN:=iq hj
  try simp -implicitDefEqProofs only[sS,Nat.reduceAdd]
  refine Ev.is (n5 _ _) ?_
  try simp -implicitDefEqProofs only[sS,Nat.reduceAdd]
  refine Ev.ret (iN.of zN ?_);unfold Y.mE;rw[if_pos hq];simp only[Y.al,bn,bG,bM,cW,cX,ne_eq,not_true_eq_false,not_false_eq_true,if_true,if_false,Bool.not_true,Bool.not_false,true_and,and_true,false_and,and_false,true_or,or_true,false_or,or_false,Bool.false_eq_true,decide_true,decide_false,ez]
 refine Ev.Tl (uJ fK _ _) λw1 Hz hj=>?_
 refine Ev.sH (nE hj) λz s2 Hz ez hj=>?_
 try simp -implicitDefEqProofs only[sS,Nat.reduceAdd]
 refine Ev.is (n5 _ _) ?_;have zN:=iq hj;have E:Y.ah (Y.mE (om op) w q leaf there) st=Y.ah (if ¬z>0∨leaf=false∨there=true then pure (Y.fm 2 z,decide (z>0)) else Y.mk (Y.cT 2 [max q op.key] (if op.key<q then[Y.fm 2 z,w] else[w,Y.fm 2 z])) >>= λb=>pure (Y.fm 3 b,decide (b>0))) s2:=by
  unfold Y.mE;rw[if_neg hq];simp only[Y.al,bn,bG,bM,cW,cX,ne_eq,not_true_eq_false,not_false_eq_true,if_true,if_false,Bool.not_true,Bool.not_false,true_and,and_true,false_and,and_false,true_or,or_true,false_or,or_false,Bool.false_eq_true,decide_true,decide_false,ez]
 try simp -implicitDefEqProofs only[sS,Nat.reduceAdd]
 by_cases hz:z>0
 ·simp -implicitDefEqProofs only[hz,decide_true,sS,Nat.reduceAdd];cases leaf<;>simp -implicitDefEqProofs only[sS,Nat.reduceAdd]
  ·exact Ev.ret (iN.of zN (by rw[E,if_pos (by simp)];simp only[hz,decide_true];rfl))
  cases there<;>simp -implicitDefEqProofs only[sS,Nat.reduceAdd]
  ·rw[if_neg (by simp;omega)] at E
   have J0: ∀{H1:aa} {y:Value} (l:List Int) (aN aI bB aM aS bf aZ dZ aX gD:Value),JX (λH o=>K H o∧Cl i0 (n8 op) 39 H o) p s2 H1→eO H1 y l→l.length≤10→Y.ah (Y.mE (om op) w q true false) st=Y.ah (Y.mk (Y.cT 2 [max q op.key] l) >>= λb=>pure (Y.fm 3 b,decide (b>0))) s2→Ev (λk=>vJ (run G k) k [pv p,jx op,cv w,cv q,.bool true,.bool false,aN,aI,pv i0,bB,aM,aS,bf,aZ,dZ,aX,gD,y] H1) λr=>iN K p st (Y.mE (om op) w q true false) r.1 r.2:=by
    intro H1 y l aN aI bB aM aS bf aZ dZ aX gD hj hy hl E;obtain⟨a0,a1,a2⟩:=L0 hj;simp -implicitDefEqProofs only[Lw,xT,a1,abm,Ar,sS,Nat.reduceAdd];refine Ev.Tl (nH (hj.new _) _ (lA [_] _) (Dm hy _) (by simp;omega)) λw1 Hz hj=>?_
    refine Ev.sH (nE hj) λz s3 Hz ez hj=>?_
    have zN:=iq hj
    try simp -implicitDefEqProofs only[sS,Nat.reduceAdd]
    refine Ev.is (n5 _ _) ?_
    try simp -implicitDefEqProofs only[sS,Nat.reduceAdd]
    refine Ev.ret (iN.of zN ?_);have em:max q op.key=if op.key>q then op.key else q:=by split<;>omega
    rw[E,em,Y.aJ ez];rfl
   obtain⟨b0,b1,b2⟩:=L0 (hj.new ⟨[cv w,cv (Y.fm 2 z)],2,1,false⟩);simp -implicitDefEqProofs only[Tk,b0,b1,sS,Nat.reduceAdd];refine Ev.lss (λhq=>?_) (λhq=>?_)<;>try simp -implicitDefEqProofs only[Tk,sS,Nat.reduceAdd]
   ·rw[if_pos hq] at E;exact J0 [Y.fm 2 z,w] _ _ _ _ _ _ _ _ _ _ ((hj.new _).new _) (lA [Y.fm 2 z,w] _) (by simp) E
   ·rw[if_neg hq] at E;exact J0 [w,Y.fm 2 z] _ _ _ _ _ _ _ _ _ _ (hj.new _) (lA [w,Y.fm 2 z] _) (by simp) E
  ·exact Ev.ret (iN.of zN (by rw[E,if_pos (by simp)];simp only[hz,decide_true];rfl))
 ·simp -implicitDefEqProofs only[hz,decide_false,sS,Nat.reduceAdd];exact Ev.ret (iN.of zN (by rw[E,if_pos (.inl hz)];simp only[hz,decide_false];rfl))
end
section
open Go.Proofs.YtgfgglponbmgmaaGreatA
variable {G:ae} {H H':aa} {o o':aj} {p c n i:Nat} {K K':aa→aj→Prop} {t q:Int} {x:Value} {path:List Y.En} {st Nz s1:Y.St} {α β:Type} {cs:List Value} {T:TypeId}
abbrev zx (r:Y.Rs):eQ:=⟨r.Fa,r.found,r.key,r.value,0,[]⟩
abbrev jH (K:aa→aj→Prop)(p:Nat)(st:Y.St)(t:Y.Tr (Y.Rs×Bool)):Value→aa→Prop:=λv H'=>v= .tuple #[gz (zx (Y.ah t st).1.1) aA,.bool (Y.ah t st).1.2]∧JX K p (Y.ah t st).2 H'
theorem jH.of {t:Y.Tr (Y.Rs×Bool)}{z:Y.Rs}{b:Bool}(hj:JX K p s1 H')(e:Y.ah t st=((z,b),s1)):jH K p st t (.tuple #[gz (zx z) aA,.bool b]) H':=by unfold jH;rw[e];exact⟨rfl,hj⟩
section
variable {B:aa} {b:aj} {i0 i1 i2:Nat} {op:kp} {c1:List Value} {r2:eQ}
theorem KL.P8 (h:JX (KL B b p i0 i1 i2 op c1 r2) p st H):aq (.pointer (some ⟨i0,0,none⟩)) H=some (cv op.kind)∧aq (.pointer (some ⟨i0,1,none⟩)) H=some (cv op.key)∧dh 3 (pv i0) H=some (jx op)∧aq (.pointer (some ⟨i2,1,none⟩)) H=some (.bool r2.found)∧dh 6 (pv i2) H=some (gz r2 aA):=by
 obtain⟨_,o,_,hg⟩:=h;exact⟨an i0 0 _ hg.k0.1,an i0 1 _ hg.k0.1,Rf hg.k0.1,an i2 1 _ hg.k2.1,pV _ _ _ hg.k2.1⟩
theorem KL.YK (hd:KLd B i0 i1 i2)(h:JX (KL B b p i0 i1 i2 op c1 r2) p st H)(hl:c1.length=6)(r:eQ): ∃H2,bE 6 (pv i1) (gz r aA) H=some (undef,H2)∧dh 6 (pv i1) H2=some (gz r aA)∧JX (KL B b p i0 i1 i2 op (rc r) r2) p st H2:=by
 obtain⟨_,o,hr,hg⟩:=id h;obtain⟨e0,e1,e2⟩:=hd;refine⟨_,ug i1 r (s:=aA) rfl H hg.k1.1 hl,pV _ _ _ (aG hg.k1.1),h.uj (λo hg=>hg.k1) KL.fg λo hg=>⟨hg.fr.put λhh=>by omega,hg.k0.put (by omega),hg.k1.self,hg.k2.put (by omega)⟩⟩
theorem KL.Vh (hd:KLd B i0 i1 i2)(h:JX (KL B b p i0 i1 i2 op c1 r2) p st H)(r:eQ): ∃H2,bE 6 (pv i2) (gz r aA) H=some (undef,H2)∧JX (KL B b p i0 i1 i2 op c1 r) p st H2:=by
 obtain⟨_,o,hr,hg⟩:=id h;obtain⟨e0,e1,e2⟩:=hd;refine⟨_,ug i2 r (s:=aA) rfl H hg.k2.1 rfl,h.uj (λo hg=>hg.k2) KL.fg λo hg=>⟨hg.fr.put λhh=>by omega,hg.k0.put (by omega),hg.k1.put (by omega),hg.k2.self⟩⟩
end
theorem abn (h:JX K p st H){ff:Nat}(YJ:st.left≤ff)(hx: ∀H o,K H o→FL H o q x path)(hq:q≠(p:Int))(hp: ∀e∈path, -9223372036854775808≤e.node∧e.node≤65536)(hn:path.length≤2147483648)(op:kp){nn:Int}(hnn: -9223372036854775808≤nn∧nn≤65536)(s w:Int):
  aF (run G) 167 [pv p,jx op,cv nn,cv s,cv w,x] H (jH K p st (Y.lN (ff+1) (om op) nn s w path)):=by
 have wnn:IntKind.i64.wrap (nn+2)=nn+2:=ga (by omega)
 refine Ev.up (t:=λk=>WX (run G k) k (pv p) (jx op) (cv nn) (cv s) (cv w) x H) ?_ λk=>RX ..
 obtain⟨hK,b,hr,hk⟩:=id h;have hxB:=hx _ _ hk;have hxs: ∀{H':aa} {o':aj},Fr H b H' o' [(p:Int)]→FL H' o' q x path:=λf=>hxB.fr f (by simpa using hq)
 obtain⟨i0,e0⟩: ∃i,i=H.length:=⟨_,rfl⟩;obtain⟨i1,e1⟩: ∃i,i=H.length+1:=⟨_,rfl⟩;obtain⟨i2,e2⟩: ∃i,i=H.length+2:=⟨_,rfl⟩;have hd:KLd H i0 i1 i2:=⟨e0,e1,e2⟩;obtain⟨H1,gg⟩: ∃z,z=H.new ⟨n8 op,39,1,false⟩:=⟨_,rfl⟩;have l1:H1.length=H.length+1:=by rw[gg,cD]
 obtain⟨H2,iJ⟩: ∃z,z=H1.new ⟨rc bS,47,1,false⟩:=⟨_,rfl⟩;have l2:H2.length=H.length+2:=by rw[iJ,cD,l1]
 obtain⟨H3,mH⟩: ∃z,z=H2.new ⟨rc bS,47,1,false⟩:=⟨_,rfl⟩;have fK:JX (λH' o=>Fr H b H' o [(p:Int)]∧Cl i0 (n8 op) 39 H' o) p st H1:=by
  rw[gg];have P9:JX (λH' o=>Fr H b H' o [(p:Int)]) p st H:=⟨bH.base (by simp),b,hr,Fr.refl _ _ _⟩
  refine P9.nI _ _ 1 ((bH.base (by simp)).and λH o H' o' a f=>a.fr f (by simp)) λo hk f=>⟨hk.new _ _,?_⟩
  rw[e0];exact Cl.made
 have fP:JX (λH' o=>(Fr H b H' o [(p:Int)]∧Cl i0 (n8 op) 39 H' o)∧Cl i1 (rc bS) 47 H' o) p st H2:=by
  rw[iJ];refine fK.nI _ _ 1 (fK.1.and λH o H' o' a f=>a.fr f (by simp)) λo hk f=>⟨⟨hk.1.new _ _,hk.2.new⟩,?_⟩
  rw[e1, ←l1];exact Cl.made
 have gG:JX (KL H b p i0 i1 i2 op (rc bS) bS) p st H3:=by
  rw[mH];refine fP.nI _ _ 1 KL.fg λo hk f=>⟨hk.1.1.new _ _,hk.1.2.new,hk.2.new,?_⟩
  rw[e2, ←l2];exact Cl.made
 obtain⟨H4,g4,jh⟩:=KL.Vh hd gG bS;have bx:=Dj op H;rw[←e0, ←gg] at bx;have n1:aV H1 47 1 [cv 0,.bool false,cv 0,cv 0,cv 0,aA]=(pv i1,H2):=by rw[iJ,e1, ←l1];rfl
 have n2:aV H2 47 1 [cv 0,.bool false,cv 0,cv 0,cv 0,aA]=(pv i2,H3):=by rw[mH,e2, ←l2];rfl
 have iq: ∀{c1:List Value} {r2:eQ} {s':Y.St} {H':aa},JX (KL H b p i0 i1 i2 op c1 r2) p s' H'→JX K p s' H':=λhj=>hj.mono hK λo' hg=>hK _ _ _ _ hk hg.fr
 have J2: ∀{s2:Y.St} {H1:aa} {res:Y.Rs} (leaf:Bool) (q z19:Int) (aI bR bN iZ aX ln aZ tF lH lI:Value),JX (KL H b p i0 i1 i2 op (rc bS) (zx res)) p s2 H1→Y.ah (Y.lN (ff+1) (om op) nn s w path) st=((res,decide (z19=1)),s2)→Ev (λk=>pw (run G k) k [pv p,jx op,cv nn,cv s,cv w,x,pv i1,aI,.bool leaf,bR,cv q,pv i0,bN,pv i2,iZ,aX,ln,aZ,tF,cv z19,lH,lI] H1) λr=>jH K p st (Y.lN (ff+1) (om op) nn s w path) r.1 r.2:=by
  intro s2 H1 res leaf q z19 aI bR bN iZ aX ln aZ tF lH lI hj E;obtain⟨a0,a1,a2,a3,a4⟩:=KL.P8 hj;obtain⟨H5,g5,g6,lG⟩:=KL.YK hd hj rfl (zx res);simp -implicitDefEqProofs only[Lj,xI,a4,sS,Nat.reduceAdd];refine Ev.eql (λhq=>?_) (λhq=>?_)<;>try simp -implicitDefEqProofs only[g5,g6,sS,Nat.reduceAdd]
  ·exact Ev.ret (jH.of (iq lG) (by rw[E];simp[hq]))
  ·exact Ev.ret (jH.of (iq lG) (by rw[E];simp[hq]))
 have ZJ: ∀{s2:Y.St} {H1:aa} {r2:eQ},JX (KL H b p i0 i1 i2 op (rc bS) r2) p s2 H1→Y.ah (Y.lN (ff+1) (om op) nn s w path) st=((Y.Rs.ql,true),s2)→Ev (λk=>af (run G k 166 [] H1) λy Hy=>af (bE 6 (pv i1) y Hy) λ_ Hy=>af (pS (dh 6 (pv i1) Hy) Hy) λr0 _=>some (Value.tuple #[r0,.bool true],Hy)) λr=>jH K p st (Y.lN (ff+1) (om op) nn s w path) r.1 r.2:=by
  intro s2 H1 r2 hj E;refine Ev.call (JJ hj) ?_;rintro v H5 ⟨rfl,hj⟩;obtain⟨H6,g5,g6,lG⟩:=KL.YK hd hj rfl (lO 8);simp -implicitDefEqProofs only[g5,g6,sS,Nat.reduceAdd];exact Ev.ret (jH.of (z:=Y.Rs.ql) (iq lG) E)
 have J1: ∀{s2:Y.St} {H1:aa} {res:Y.Rs} (leaf:Bool) (q o:Int) (aI bR bN iZ aX ln aZ tF lH lI:Value),JX (KL H b p i0 i1 i2 op (rc bS) (zx res)) p s2 H1→s2.left≤ff→Y.ah (Y.lN (ff+1) (om op) nn s w path) st=Y.ah (if o=3 then pure (Y.Rs.ql,true) else if o=1∧((om op).kind≠2∨res.found=false) then Y.dt (ff+1) none path >>= λ_=>pure (res,true) else pure (res,decide (o=1))) s2→Ev (λk=>nt (run G k) k [pv p,jx op,cv nn,cv s,cv w,x,pv i1,aI,.bool leaf,bR,cv q,pv i0,bN,pv i2,iZ,aX,ln,aZ,tF,cv o,lH,lI] H1) λr=>jH K p st (Y.lN (ff+1) (om op) nn s w path) r.1 r.2:=by
  intro s2 H1 res leaf q o aI bR bN iZ aX ln aZ tF lH lI hj hl E;obtain⟨a0,a1,a2,a3,a4⟩:=KL.P8 hj;simp -implicitDefEqProofs only[Lk,xJ,sS,Nat.reduceAdd];have YL:o=1→Y.ah (Y.lN (ff+1) (om op) nn s w path) st=Y.ah (Y.dt (ff+1) none path >>= λ_=>pure (res,true)) s2→∀(lH lI:Value),Ev (λk=>af (run G k 126 [pv p,x] H1) λ_ Hy=>pw (run G k) k [pv p,jx op,cv nn,cv s,cv w,x,pv i1,aI,.bool leaf,bR,cv q,pv i0,bN,pv i2,iZ,aX,ln,aZ,tF,cv o,lH,lI] Hy) λr=>jH K p st (Y.lN (ff+1) (om op) nn s w path) r.1 r.2:=by
   intro ho E lH lI;refine Ev.ZV (TA hj (ff:=ff) hl (λH o hg=>hxs hg.fr) hp hn) λv u s3 H3 e3 gG=>?_
   rw[Y.aJ e3] at E;refine J2 _ _ _ _ _ _ _ _ _ _ _ _ _ gG ?_;rw[E];simp[ho,bG]
  refine Ev.eql (λh3=>?_) (λh3=>?_)<;>try simp -implicitDefEqProofs only[sS,Nat.reduceAdd]
  ·exact ZJ hj (by rw[E,if_pos h3];rfl)
  rw[if_neg h3] at E;refine Ev.eql (λh1=>?_) (λh1=>?_)<;>try simp -implicitDefEqProofs only[a0,sS,Nat.reduceAdd]
  ·refine Ev.neq (λhk=>?_) (λhk=>?_)<;>try simp -implicitDefEqProofs only[a3,sS,Nat.reduceAdd]
   ·rw[if_pos ⟨h1,.inl hk⟩] at E;exact YL h1 E _ _
   ·cases hf:res.found<;>simp -implicitDefEqProofs only[sS,Nat.reduceAdd]
    ·rw[if_pos ⟨h1,.inr hf⟩] at E;exact YL h1 E _ _
    ·rw[if_neg (by simp[hk,hf])] at E
     exact J2 _ _ _ _ _ _ _ _ _ _ _ _ _ hj (by rw[E];rfl)
  ·rw[if_neg (by simp[h1])] at E
   exact J2 _ _ _ _ _ _ _ _ _ _ _ _ _ hj (by rw[E];rfl)
 have J0: ∀{s2:Y.St} {H1:aa} {res:Y.Rs} (leaf:Bool) (q:Int) (aI bR bN iZ aX ln aZ tF bz lH lI:Value),JX (KL H b p i0 i1 i2 op (rc bS) (zx res)) p s2 H1→s2.left≤ff→Y.ah (Y.lN (ff+1) (om op) nn s w path) st=Y.ah (Y.zf (ff+1) (om op) nn s w q leaf path res) s2→Ev (λk=>px (run G k) k [pv p,jx op,cv nn,cv s,cv w,x,pv i1,aI,.bool leaf,bR,cv q,pv i0,bN,pv i2,iZ,aX,ln,aZ,tF,bz,lH,lI] H1) λr=>jH K p st (Y.lN (ff+1) (om op) nn s w path) r.1 r.2:=by
  intro s2 H1 res leaf q aI bR bN iZ aX ln aZ tF bz lH lI hj hl E;obtain⟨a0,a1,a2,a3,a4⟩:=KL.P8 hj;obtain⟨H5,g5,g6,lG⟩:=KL.YK hd hj rfl (zx res);have E2:Y.ah (Y.lN (ff+1) (om op) nn s w path) st=Y.ah (if s2.off=true∨(op.kind=1∧res.found=true)∨(op.kind=3∧res.found=false) then pure (res,true) else Y.mE (om op) w q leaf res.found >>= λxo=>if xo.2=false then pure (Y.Rs.ql,true) else Y.Tr.rc 0 (Y.sF (nn+2) s w xo.1 >>= λo=>Y.Tr.ld (if o=3 then pure (Y.Rs.ql,true) else if o=1∧((om op).kind≠2∨res.found=false) then Y.dt (ff+1) none path >>= λ_=>pure (res,true) else pure (res,decide (o=1))))) s2:=by
   rw[E];unfold Y.zf;simp only[Y.al,bn,bG,bM,cW,cX,ne_eq,not_true_eq_false,not_false_eq_true,if_true,if_false,Bool.not_true,Bool.not_false,true_and,and_true,false_and,and_false,true_or,or_true,false_or,or_false,Bool.false_eq_true,decide_true,decide_false];rfl
  have u4:(s2.off=true∨(op.kind=1∧res.found=true)∨(op.kind=3∧res.found=false))→Ev (λk=>af (some (gz (zx res) aA,H1)) λy Hy=>af (bE 6 (pv i1) y Hy) λ_ Hy=>af (pS (dh 6 (pv i1) Hy) Hy) λr0 _=>some (Value.tuple #[r0,.bool true],Hy)) λr=>jH K p st (Y.lN (ff+1) (om op) nn s w path) r.1 r.2:=by
   intro hc;simp -implicitDefEqProofs only[g5,g6,sS,Nat.reduceAdd];exact Ev.ret (jH.of (iq lG) (by rw[E2,if_pos hc];rfl))
  simp -implicitDefEqProofs only[g5,g6,sS,Nat.reduceAdd] at u4;have Qa: ¬(s2.off=true∨(op.kind=1∧res.found=true)∨(op.kind=3∧res.found=false))→∀(iZ:Value),Ev (λk=>af (run G k 169 [pv p,jx op,cv w,cv q,.bool leaf,.bool res.found] H1) λy Hy=>af (cx 0 y Hy) λdy Hy=>af (cx 1 y Hy) λde Hy=>af (pS (iG .not de) Hy) λeo Hy=>aU eo (af (run G k 166 [] Hy) λy Hy=>af (bE 6 (pv i1) y Hy) λ_ Hy=>af (pS (dh 6 (pv i1) Hy) Hy) λr0 _=>some (Value.tuple #[r0,.bool true],Hy))
    (af (bE 1 (.pointer (some ⟨p,8,none⟩)) (cv 0) Hy) λ_ Hy=>af (run G k 116 [pv p,cv (IntKind.i64.wrap (nn+2)),cv s,cv w,dy] Hy) λjg Hy=>af (pS (aq (.pointer (some ⟨p,8,none⟩)) Hy) Hy) λCf Hy=>af (pS (ai Tryz.prog .gtr 3 Cf (cv 0)) Hy) λxf Hy=>aU xf (af (pS (aq (.pointer (some ⟨p,8,none⟩)) Hy) Hy) λtG Hy=>af (bE 1 (.pointer (some ⟨p,9,none⟩)) tG Hy) λ_ Hy=>nt (run G k) k [pv p,jx op,cv nn,cv s,cv w,x,pv i1,aI,.bool leaf,bR,cv q,pv i0,bN,pv i2,iZ,de,eo,dy,xf,jg,lH,lI] Hy)
     (nt (run G k) k [pv p,jx op,cv nn,cv s,cv w,x,pv i1,aI,.bool leaf,bR,cv q,pv i0,bN,pv i2,iZ,de,eo,dy,xf,jg,lH,lI] Hy))) λr=>jH K p st (Y.lN (ff+1) (om op) nn s w path) r.1 r.2:=by
   intro hc iZ;rw[if_neg hc] at E2;refine Ev.Fc (TC hj _ _ _ _ _) λz zb s3 H3 e3 hj=>?_
   have m3:=dv e3;rw[Y.aJ e3] at E2;cases zb<;>simp -implicitDefEqProofs only[sS,Nat.reduceAdd]
   ·exact ZJ hj (by rw[E2];rfl)
   rw[if_neg (by simp),cW] at E2
   refine Ev.U1 hj λH4 hj=>?_
   rw[wnn];refine Ev.fe (Da hj _ _ _ _) λo s5 H5 e5 hj=>?_
   have m5:=dv e5;have m6:({s3 with oS:=0}:Y.St).left=s3.left:=rfl
   rw[Y.aJ e5,cX] at E2;refine Ev.U2 hj ?_;refine Ev.gtr (λhq=>?_) (λhq=>?_)<;>try simp -implicitDefEqProofs only[sS,Nat.reduceAdd]
   ·rw[if_pos hq] at E2;refine Ev.U2 hj ?_;refine Ev.aaV hj λH6 hj=>?_
    exact J1 _ _ _ _ _ _ _ _ _ _ _ _ _ hj (by show s5.left≤ff;omega) E2
   ·rw[if_neg hq] at E2;exact J1 _ _ _ _ _ _ _ _ _ _ _ _ _ hj (by omega) E2
  simp -implicitDefEqProofs only[Ll,xK,sS,Nat.reduceAdd];refine Ev.nZ hj (λhq=>?_) (λhq=>?_)<;>try simp -implicitDefEqProofs only[a0,sS,Nat.reduceAdd]
  ·(try simp -implicitDefEqProofs only[a4,g5,g6,sS,Nat.reduceAdd]);exact u4 (.inl hq)
  refine Ev.eql (λqA=>?_) (λqA=>?_)<;>try simp -implicitDefEqProofs only[a0,a3,sS,Nat.reduceAdd]
  ·cases hf:res.found<;>simp -implicitDefEqProofs only[a0,sS,Nat.reduceAdd]
   ·refine Ev.eql (λkn=>?_) (λkn=>?_)<;>try simp -implicitDefEqProofs only[a0,a2,a3,a4,hf,g5,g6,sS,Nat.reduceAdd]
    ·exact u4 (.inr (.inr ⟨kn,hf⟩))
    ·have:=Qa (by simp[hq,qA,hf,kn])
     rw[hf] at this;exact this _
   ·(try simp -implicitDefEqProofs only[a4,g5,g6,sS,Nat.reduceAdd]);exact u4 (.inr (.inl ⟨qA,hf⟩))
  ·refine Ev.eql (λkn=>?_) (λkn=>?_)<;>try simp -implicitDefEqProofs only[a0,a2,a3,a4,sS,Nat.reduceAdd]
   ·cases hf:res.found<;>simp -implicitDefEqProofs only[a2,a3,a4,hf,g5,g6,sS,Nat.reduceAdd]
    ·exact u4 (.inr (.inr ⟨kn,hf⟩))
    ·have:=Qa (by simp[hq,qA,hf])
     rw[hf] at this;exact this _
   ·exact Qa (by simp[hq,qA,kn]) _
 have a0:=KL.P8 jh;simp -implicitDefEqProofs only[WX,bx,n1,Dk,n2,g4,sS,Nat.reduceAdd];refine Ev.is (hX _) ?_
 try simp -implicitDefEqProofs only[sS,Nat.reduceAdd]
 refine Ev.eql (λqA=>?_) (λqA=>?_)<;>try simp -implicitDefEqProofs only[sS,Nat.reduceAdd]
 ·refine Ev.is (n3 _) ?_;refine Ev.fe (df jh _) λzq s2 Hz e2 hj=>?_
  have m2:=dv e2;obtain⟨a0,a1,a2,a3,a4⟩:=KL.P8 hj;simp -implicitDefEqProofs only[a1,sS,Nat.reduceAdd];refine Ev.eql (λkn=>?_) (λkn=>?_)<;>try simp -implicitDefEqProofs only[sS,Nat.reduceAdd]
  ·refine Ev.is (n3 _) ?_;simp -implicitDefEqProofs only[sS,Nat.reduceAdd,NA _ (j:=1) (by omega)]
   refine Ev.fe (df hj _) λzv s3 Hz e3 hj=>?_
   have m3:=dv e3;obtain⟨H6,g6,oj⟩:=KL.Vh hd hj (M6 (zq,zv,true));simp -implicitDefEqProofs only[adl,YI,g6,sS,Nat.reduceAdd];refine J0 (res:=⟨0,true,zq,zv⟩) _ _ _ _ _ _ _ _ _ _ _ _ _ oj (by omega) ?_
   unfold Y.lN;rw[if_pos qA,Y.aJ e2,if_pos kn,Y.aJ e3]
  ·refine J0 (res:=Y.Rs.nil) _ _ _ _ _ _ _ _ _ _ _ _ _ hj (by omega) ?_
   unfold Y.lN;rw[if_pos qA,Y.aJ e2,if_neg kn]
 ·refine J0 (res:=Y.Rs.nil) _ _ _ _ _ _ _ _ _ _ _ _ _ jh YJ ?_;unfold Y.lN;rw[if_neg qA]
end
section
variable {G:ae} {H H':aa} {o o':aj} {p m c:Nat} {K K':aa→aj→Prop} {t q:Int} {x:Value} {l:PL} {n i:Nat} {cs:List Value} {T:TypeId}
structure YM (B:aa) (b:aj) (p i0 i1:Nat) (t:Int):Prop where
 e0:i0=B.length
 e1:i1=B.length+1
 lt:t< -100
 ft: ∀i,i<B.length→b i≠t
section
variable {B:aa} {b:aj} {i0 i1:Nat} {op:kp} {c1:List Value}
theorem YM.ap (h:YM B b p i0 i1 t):oZ t p:=⟨by have:=h.lt;omega,by have:=h.lt;omega,by have:=h.lt;omega⟩
variable {α:Type} {k:Nat→Value→aa→Option α} {Q:α→Prop} {a1 a2 a3:Int} {ty:TypeId}
end
theorem adm (a b c:Int):aE Tryz.prog 37 [(0,cv a),(1,cv b),(2,cv c)]=some (.agg #[cv a,cv b,cv c]):=by kernel_rfl
theorem adn (a b c:Int)(H:aa):ay Tryz.prog 35 1 [(0,.agg #[cv a,cv b,cv c])] H=some (.slice (some ⟨H.length,0,none⟩) 1 1,H.new ⟨[cv a,cv b,cv c],37,3,false⟩):=by kernel_rfl
theorem YN (i:Nat)(H:aa):jj Tryz.prog 47 (pv i) H=dh 6 (pv i) H:=by kernel_rfl
end
end Go.Proofs.YtgfgglponbmgmaaGreat.Fun
end
