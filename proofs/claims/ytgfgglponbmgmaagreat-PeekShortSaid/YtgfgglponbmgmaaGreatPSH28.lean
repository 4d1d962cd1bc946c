/- Texts of the proof of peekShort_holds, put together by a small program of ours (names shortened, spaces taken out). No condition beyond the given statement. -/
import Derived.Test.YtgfgglponbmgmaaGreatPSH14
import Derived.Test.YtgfgglponbmgmaaGreatPSH27
import Derived.Test.YtgfgglponbmgmaaGreatPSH26
import Derived.Test.YtgfgglponbmgmaaGreatPSH18
import Derived.Test.YtgfgglponbmgmaaGreatPSH16
import Derived.Test.YtgfgglponbmgmaaGreatPSH12
import Derived.Test.YtgfgglponbmgmaaGreatPSH15
set_option linter.unusedVariables false
set_option linter.unusedSimpArgs false
set_option linter.unnecessarySimpa false
noncomputable section
section
namespace Go.Proofs.YtgfgglponbmgmaaGreat.Fun
open Go Go.RowKit Go.Proofs.YtgfgglponbmgmaaGreatA.Am
set_option maxRecDepth 10000
section
open Go.Proofs.YtgfgglponbmgmaaGreatA
variable {G:ae} {H H':aa} {o o':aj} {p c:Nat} {K:aa→aj→Prop} {t q:Int} {x:Value} {l:List Y.En} {st LV s1:Y.St} {α β:Type}
def tG:List Y.En→List Value
 | []=>[]
 |e::l=>cv e.node::cv e.slot::cv e.word::tG l
theorem lT: ∀l:List Y.En,(tG l).length=3*l.length
 | []=>rfl
 |e::l=>by simp only[tG,List.length_cons,lT l];omega
theorem CJ: ∀a b:List Y.En,tG (a++b)=tG a++tG b
 | [],b=>rfl
 |e::a,b=>by simp only[List.cons_append,tG,CJ a b]
theorem Lk {l:List Y.En}{j:Nat}(hj:j<l.length): ∃a b,tG l=a++cv l[j].node::cv l[j].slot::cv l[j].word::b∧a.length=3*j:=by
 refine⟨tG (l.take j),tG (l.drop (j+1)),?_,by rw[lT];simp;omega⟩
 conv=>lhs;rw[←List.take_append_drop j l,CJ,List.drop_eq_getElem_cons hj]
 rfl
def EH (H:aa)(o:aj)(q:Int)(x:Value)(l:List Y.En):Prop:=
 (x= .slice none 0 0∧l=[])∨∃(i cap:Nat) (rest:List Value) (ty:TypeId),x= .slice (some ⟨i,0,none⟩) l.length cap∧H.get i=some ⟨tG l++rest,ty,3,false⟩∧3*l.length+rest.length=3*cap∧o i=q
theorem EH.fr {ps:List Int}(h:EH H o q x l)(f:Fr H o H' o' ps)(hp:q ∉ ps):EH H' o' q x l:=by
 rcases h with h|⟨i,cap,rest,ty,h1,h2,h3,h5⟩
 ·exact .inl h
 ·exact .inr ⟨i,cap,rest,ty,h1,by rw[f.same i (ar h2) (by rw[h5];exact hp)];exact h2,h3,by rw[f.own i (ar h2)];exact h5⟩
theorem EH.len (h:EH H o q x l):cG x=some (cv l.length):=by
 rcases h with⟨rfl,rfl⟩|⟨i,cap,rest,ty,rfl,_⟩<;>rfl
theorem EH.idx (h:EH H o q x l){j:Nat}(hj:j<l.length): ∃(i off:Nat) (b:eM),(∀H',cK 3 x (cv j) H'=some (.pointer (some ⟨i,off,none⟩),H'))∧H.get i=some b∧o i=q∧
  ∀H':aa,H'.get i=some b→aq (.pointer (some ⟨i,off+2,none⟩)) H'=some (cv l[j].word)∧cZ 3 (.pointer (some ⟨i,off,none⟩)) H'=some (.agg #[cv l[j].node,cv l[j].slot,cv l[j].word]):=by
 rcases h with⟨rfl,rfl⟩|⟨i,cap,rest,ty,rfl,h2,h3,h5⟩
 ·simp at hj
 ·obtain⟨a,b,eab,la⟩:=Lk hj;have ec:tG l++rest=a++cv l[j].node::cv l[j].slot::cv l[j].word::(b++rest):=by rw[eab];simp
  refine⟨i,3*j,_,λH'=>?_,h2,h5,λH' g=>⟨?_,?_⟩⟩
  ·simp only[cK];rw[if_pos (by constructor<;>omega)];simp<;>omega
  ·rw[ao i _ H' g,ec,List.getElem?_append_right (by omega),la]
   have:3*j+2-3*j=2:=by omega
   rw[this];rfl
  ·have uu:aR H' i (3*j) 3=some [cv l[j].node,cv l[j].slot,cv l[j].word]:=by
    simp only[aR,g];rw[if_pos (by simp[lT];omega),ec,List.drop_append_of_le_length (by omega),List.drop_eq_nil_of_le (by omega)]
    rfl
   simp only[cZ,uu]
theorem EH.app (T ty:TypeId)(h:EH H o q x l)(e:Y.En)(hb:l.length+1≤4294967296):
  ∃x' H2 o2,de T 3 24 x (.slice (some ⟨H.length,0,none⟩) 1 1) (H.new ⟨[cv e.node,cv e.slot,cv e.word],ty,3,false⟩)=some (x',H2)∧EH H2 o2 q x' (l++[e])∧Fr H o H2 o2 [q]:=by
 obtain⟨H1,e1⟩: ∃z,z=H.new ⟨[cv e.node,cv e.slot,cv e.word],ty,3,false⟩:=⟨_,rfl⟩;have l1:H1.length=H.length+1:=by rw[e1,cA]
 have g1:H1.get H.length=some ⟨[cv e.node,cv e.slot,cv e.word],ty,3,false⟩:=by rw[e1];exact aL
 have f1:Fr H o H1 (o.up H.length (-9)) [q]:=by rw[e1];exact(Fr.refl H o [q]).new _ _
 have Ll:cF H1 3 1 (.slice (some ⟨H.length,0,none⟩) 1 1)=some [cv e.node,cv e.slot,cv e.word]:=by simp[cF,aR,g1]
 have ee:tG (l++[e])=tG l++[cv e.node,cv e.slot,cv e.word]:=by rw[CJ];rfl
 rw[←e1];rcases h with⟨rfl,rfl⟩|⟨i,cap,rest,AG,rfl,h2,h3,h5⟩
 ·refine⟨.slice (some ⟨H1.length,0,none⟩) 1 1,H1.new ⟨[cv e.node,cv e.slot,cv e.word],T,3,false⟩,(o.up H.length (-9)).up H1.length q,?_,.inr ⟨H1.length,1,[],T,rfl,?_,by simp,aP⟩,f1.new _ _⟩
  ·simp[de,Ll]
  ·simpa[tG] using aL
 ·have Yt:=ar h2;have g2:H1.get i=some ⟨tG l++rest,AG,3,false⟩:=by rw[e1,df Yt];exact h2
  by_cases jb:l.length+1≤cap
  ·obtain⟨r0,r1,r2,AY,rfl⟩: ∃r0 r1 r2 AY,rest=r0::r1::r2::AY:=by
    match rest,h3 with
    | [],h=>simp at h;omega
    | [_],h=>simp at h;omega
    | [_,_],h=>simp at h;omega
    |a::b::c::r,_=>exact⟨a,b,c,r,rfl⟩
   have hc:dt (tG l++r0::r1::r2::AY) (l.length*3) [cv e.node,cv e.slot,cv e.word]=tG (l++[e])++AY:=by
    simp only[dt];have le:(tG l).length=l.length*3:=by rw[lT];omega
    rw[List.set_append_right _ _ (by omega),List.set_append_right _ _ (by omega),List.set_append_right _ _ (by omega),le,ee]
    have a0:l.length*3-l.length*3=0:=by omega
    have a1:l.length*3+1-l.length*3=1:=by omega
    have a2:l.length*3+1+1-l.length*3=2:=by omega
    rw[a0,a1,a2];simp
   refine⟨.slice (some ⟨i,0,none⟩) (l.length+1) cap,H1.put i ⟨tG (l++[e])++AY,AG,3,false⟩,o.up H.length (-9),?_,.inr ⟨i,cap,AY,AG,by simp,aG g2,by simp at h3 ⊢;omega,by rw[dL (by omega)];exact h5⟩,f1.put λ_=>by simp[h5]⟩
   simp only[de,Ll,Option.map_some];rw[if_pos jb,if_neg (by omega)]
   simp only[g2,if_true,bW];rw[if_pos (by simp[aD,lT] at h3 ⊢;omega)]
   simp only[Option.map_some,Nat.zero_add,hc]
  ·have tk:(tG l++rest).take (l.length*3)=tG l:=by
    have le:(tG l).length=l.length*3:=by rw[lT];omega
    rw[←le,List.take_left'];rfl
   refine⟨.slice (some ⟨H1.length,0,none⟩) (l.length+1) (l.length+1),(H1.kill i).new ⟨tG (l++[e]),T,3,false⟩,(o.up H.length (-9)).up H1.length q,?_,.inr ⟨H1.length,l.length+1,[],T,by simp,?_,by simp,aP⟩,?_⟩
   ·simp only[de,Ll,Option.map_some];rw[if_neg jb,if_pos (by simp;omega)]
    simp only[g2];rw[if_pos (by simp[lT];omega)]
    have e:aR H1 i 0 (l.length*3)=some (tG l):=by
     simp only[aR,g2];rw[if_pos (by simp[lT];omega),List.drop_zero,tk]
    simp only[e,ee]
   ·have:=aL (H:=H1.kill i) (c:=⟨tG (l++[e]),T,3,false⟩)
    rw[gz] at this;rw[List.append_nil];exact this
   ·have f2:=(f1.kill (i:=i) (λ_=>by simp[h5])).new ⟨tG (l++[e]),T,3,false⟩ q
    rw[gz] at f2;exact f2
theorem Lm {f:Nat}{first:Option Y.En}{l:List Y.En}{s:Y.St}(h:s.off=true):Y.ah (Y.di f first l) s=Y.ah (Y.di f first []) s:=by
 have e:Y.ah (Y.di f first []) s=((),s):=by
  cases first with
  |none=>rfl
  |some e=>unfold Y.di;simp only[Y.ak,bk,bH,bL,cR,cS,ne_eq,not_true_eq_false,not_false_eq_true,if_true,if_false,Bool.not_true,Bool.not_false,true_and,and_true,false_and,and_false,true_or,or_true,false_or,or_false,Bool.false_eq_true,decide_true,decide_false,h]
 rw[e];cases l with
 |nil=>exact e
 |cons x l=>unfold Y.di;simp only[Y.ak,bk,bH,bL,cR,cS,ne_eq,not_true_eq_false,not_false_eq_true,if_true,if_false,Bool.not_true,Bool.not_false,true_and,and_true,false_and,and_false,true_or,or_true,false_or,or_false,Bool.false_eq_true,decide_true,decide_false,h]
theorem R2 (h:JX K p st H){ff:Nat}(Xi:st.left≤ff){path:List Y.En}(hx: ∀H o,K H o→EH H o q x path)(hp: ∀e∈path, -9223372036854775808≤e.node∧e.node≤65536)(hn:path.length≤2147483648):aE (run G) 126 [pv p,x] H (Of K p st (Y.di (ff+1) none path)):=by
 refine Ev.up (t:=λk=>VY (run G k) k (pv p) x H) ?_ λk=>QU ..
 simp -implicitDefEqProofs only[VY,sS,Nat.reduceAdd];have hen: ∀{s':Y.St} {H':aa},JX K p s' H'→∃o,EH H' o q x path:=λhj=>by obtain⟨_,o,_,hk⟩:=hj;exact⟨o,hx _ _ hk⟩
 refine Ev.loop (k:=path.length) (λk vs Hx=>∃(i:Nat) (f:Int) (first:Option Y.En) (sx:Y.St) (bz x6 x7 x8 dY eF:Value),JX K p sx Hx∧sx.left≤ff∧i+k=path.length∧((f= -1∧first=none)∨∃(j:Nat) (hj:j<path.length),f=j∧first=some path[j])∧Y.ah (Y.di (ff+1) none path) st=Y.ah (Y.di (ff+1) first (path.drop i)) sx∧vs=[pv p,x,cv i,bz,x6,cv f,x7,x8,dY,eF])
  (λr=>∃(f:Int) (first:Option Y.En) (sx:Y.St),JX K p sx r.2.2∧sx.left≤ff∧r.1= .exit 0∧((f= -1∧first=none)∨∃(j:Nat) (hj:j<path.length),f=j∧first=some path[j])∧(Y.ah (Y.di (ff+1) none path) st=Y.ah (Y.di (ff+1) first []) sx)∧∃(x5 bz x6 x7 x8 dY eF:Value),r.2.1=[pv p,x,x5,bz,x6,cv f,x7,x8,dY,eF]) ⟨0, -1,none,st,_,_,_,_,_,_,h,Xi,by omega,.inl ⟨rfl,rfl⟩,rfl,rfl⟩ ?_ ?_
 ·rintro k vs Hx ⟨i,f,first,sx,bz,x6,x7,x8,dY,eF,hj,hl,hik,hf,E,rfl⟩
  obtain⟨o1,he⟩:=hen hj;have hw:IntKind.i64.wrap ((i:Int)+1)=((i+1:Nat):Int):=by rw[fL (by omega)];omega
  have iJ: ∀{s2:Y.St} {H2:aa} {f:Int} {first:Option Y.En} (bz x6 x7 x8 dY eF:Value),JX K p s2 H2→s2.left≤ff→i<path.length→((f= -1∧first=none)∨∃(j:Nat) (hj:j<path.length),f=j∧first=some path[j])→Y.ah (Y.di (ff+1) none path) st=Y.ah (Y.di (ff+1) first (path.drop (i+1))) s2→Ev (λk=>vj (run G k) k [pv p,x,cv i,bz,x6,cv f,x7,x8,dY,eF] H2) λr=>(r.1= .normal∧∃k',k'<k∧∃(i:Nat) (f:Int) (first:Option Y.En) (sx:Y.St) (bz x6 x7 x8 dY eF:Value),JX K p sx r.2.2∧sx.left≤ff∧i+k'=path.length∧((f= -1∧first=none)∨∃(j:Nat) (hj:j<path.length),f=j∧first=some path[j])∧Y.ah (Y.di (ff+1) none path) st=Y.ah (Y.di (ff+1) first (path.drop i)) sx∧r.2.1=[pv p,x,cv i,bz,x6,cv f,x7,x8,dY,eF])∨(r.1≠ .normal∧∃(f:Int) (first:Option Y.En) (sx:Y.St),JX K p sx r.2.2∧sx.left≤ff∧r.1= .exit 0∧((f= -1∧first=none)∨∃(j:Nat) (hj:j<path.length),f=j∧first=some path[j])∧(Y.ah (Y.di (ff+1) none path) st=Y.ah (Y.di (ff+1) first []) sx)∧∃(x5 bz x6 x7 x8 dY eF:Value),r.2.1=[pv p,x,x5,bz,x6,cv f,x7,x8,dY,eF]):=by
   intro s2 H2 f first bz x6 x7 x8 dY eF hj hl hi hf E
   simp -implicitDefEqProofs only[J5,xB,hw,sS,Nat.reduceAdd];exact Ev.ret (.inl ⟨rfl,k-1,by omega,i+1,f,first,s2,_,_,_,_,_,_,hj,hl,by omega,hf,E,rfl⟩)
  simp -implicitDefEqProofs only[J6,xC,he.len,sS,Nat.reduceAdd];refine Ev.lss (λhq=>?_) (λhq=>?_)<;>try simp -implicitDefEqProofs only[sS,Nat.reduceAdd]
  ·have Yy:i<path.length:=by omega
   obtain⟨ib,off,b,e1,e2,e3,e4⟩:=he.idx (j:=i) Yy;obtain⟨e5,e6⟩:=e4 _ e2;refine Ev.nW hj (λhq=>?_) (λhq=>?_)<;>try simp -implicitDefEqProofs only[e1,gQ,e5,sS,Nat.reduceAdd]
   ·rw[Lm hq] at E;exact Ev.ret (.inr ⟨by simp,f,first,sx,hj,hl,rfl,hf,E,_,_,_,_,_,_,_,rfl⟩)
   rw[List.drop_eq_getElem_cons Yy] at E;have E1:Y.ah (Y.di (ff+1) none path) st=Y.ah (Y.ad (Y.aw path[i].word+3) 1 >>= λc=>Y.rd (Y.aw path[i].word+1) >>= λs=>Y.di (ff+1) (match first with|some x=>some x|none=>if Y.wr (c+1)≥Y.Od s then some path[i] else none) (path.drop (i+1))) sx:=by
    rw[E];conv=>lhs;unfold Y.di
    simp only[Y.ak,bk,bH,bL,cR,cS,ne_eq,not_true_eq_false,not_false_eq_true,if_true,if_false,Bool.not_true,Bool.not_false,true_and,and_true,false_and,and_false,true_or,or_true,false_or,or_false,Bool.false_eq_true,decide_true,decide_false,hq];cases first<;>rfl
   refine Ev.is (nX _) ?_;simp -implicitDefEqProofs only[sS,Nat.reduceAdd,LW _ (j:=3) (by omega)]
   refine Ev.eS (Tq hj _ _) λc s1 H1 f1 k1=>?_
   have m1:=dk f1;rw[Y.aJ f1] at E1;simp -implicitDefEqProofs only[sS,Nat.reduceAdd,LW _ (j:=1) (by omega)]
   refine Ev.eS (cX k1 _) λs s2 H2 f2 k2=>?_
   have m2:=dk f2;rw[Y.aJ f2] at E1
   try simp -implicitDefEqProofs only[sS,Nat.reduceAdd]
   refine Ev.lss (λh3=>?_) (λh3=>?_)<;>try simp -implicitDefEqProofs only[sS,Nat.reduceAdd,cI]
   ·have ze:f= -1∧first=none:=by
     rcases hf with h|⟨j,hj,h,_⟩
     ·exact h
     ·omega
    obtain⟨rfl,rfl⟩:=ze;refine Ev.is (RK _) ?_
    try simp -implicitDefEqProofs only[sS,Nat.reduceAdd,cI]
    refine Ev.geq (λh4=>?_) (λh4=>?_)<;>try simp -implicitDefEqProofs only[sS,Nat.reduceAdd,cI]
    ·simp only[if_pos h4] at E1;exact iJ _ _ _ _ _ _ k2 (by omega) Yy (.inr ⟨i,Yy,rfl,rfl⟩) E1
    ·simp only[if_neg h4] at E1;exact iJ _ _ _ _ _ _ k2 (by omega) Yy (.inl ⟨rfl,rfl⟩) E1
   ·rcases hf with⟨h,_⟩|⟨j,y9,rfl,rfl⟩
    ·omega
    ·exact iJ _ _ _ _ _ _ k2 (by omega) Yy (.inr ⟨j,y9,rfl,rfl⟩) E1
  ·have:path.drop i=[]:=List.drop_eq_nil_of_le (by omega)
   rw[this] at E;exact Ev.ret (.inr ⟨by simp,f,first,sx,hj,hl,rfl,hf,E,_,_,_,_,_,_,_,rfl⟩)
 ·rintro e vs Hx ⟨f,first,sx,hj,hl,he,hf,E,x5,bz,x6,x7,x8,dY,eF,hv⟩
  simp only at he hv hj;subst he hv;simp -implicitDefEqProofs only[J7,xD,sS,Nat.reduceAdd];refine Ev.geq (λhq=>?_) (λhq=>?_)<;>try simp -implicitDefEqProofs only[sS,Nat.reduceAdd]
  ·rcases hf with⟨h,_⟩|⟨j,hjp,rfl,rfl⟩
   ·omega
   refine Ev.nW hj (λhq=>?_) (λhq=>?_)<;>try simp -implicitDefEqProofs only[sS,Nat.reduceAdd]
   ·refine Ev.ret (Of.of (z:=()) hj ?_);rw[E];unfold Y.di;simp only[Y.ak,bk,bH,bL,cR,cS,ne_eq,not_true_eq_false,not_false_eq_true,if_true,if_false,Bool.not_true,Bool.not_false,true_and,and_true,false_and,and_false,true_or,or_true,false_or,or_false,Bool.false_eq_true,decide_true,decide_false,hq]
   ·obtain⟨o1,he⟩:=hen hj;obtain⟨ib,off,b,e1,e2,e3,e4⟩:=he.idx (j:=j) hjp;obtain⟨e5,e6⟩:=e4 _ e2;simp -implicitDefEqProofs only[e1,e6,sS,Nat.reduceAdd];refine Ev.K4 (R1 hj (f:=ff) hl (hp _ (List.getElem_mem hjp)) _ _) λz s3 H3 e3 gA=>?_
    try simp -implicitDefEqProofs only[sS,Nat.reduceAdd]
    refine Ev.ret (Of.of (z:=()) gA ?_);rw[E];unfold Y.di;simp only[Y.ak,bk,bH,bL,cR,cS,ne_eq,not_true_eq_false,not_false_eq_true,if_true,if_false,Bool.not_true,Bool.not_false,true_and,and_true,false_and,and_false,true_or,or_true,false_or,or_false,Bool.false_eq_true,decide_true,decide_false,hq];have e3':Y.ah (Y.oO (ff+1) path[j]) sx=(z,s3):=e3;rw[e3']
  ·rcases hf with⟨rfl,rfl⟩|⟨j,hjp,rfl,rfl⟩
   ·exact Ev.ret (Of.of (z:=()) hj (by rw[E];rfl))
   ·omega
end
section
variable {G:ae} {H H':aa} {o o':aj} {p m c:Nat} {K K':aa→aj→Prop} {t q:Int} {x:Value} {l:PL} {n i:Nat} {cs:List Value} {T:TypeId}
def Cl (i:Nat)(cs:List Value)(T:TypeId)(H:aa)(o:aj):Prop:=H.get i=some ⟨cs,T,1,false⟩∧o i= -9
theorem Cl.fr {ps:List Int}(h:Cl i cs T H o)(f:Fr H o H' o' ps)(hp:(-9:Int) ∉ ps):Cl i cs T H' o':=
 ⟨by rw[f.same i (ar h.1) (by rw[h.2];exact hp)];exact h.1,by rw[f.own i (ar h.1)];exact h.2⟩
theorem Cl.new {c:eM}(h:Cl i cs T H o):Cl i cs T (H.new c) (o.up H.length (-9)):=h.fr ((Fr.refl H o []).new _ _) (by simp)
theorem Cl.put {j:Nat}{c:eM}(h:Cl i cs T H o)(dy:i≠j):Cl i cs T (H.put j c) o:=⟨by rw[bt dy];exact h.1,h.2⟩
theorem Cl.self (h:Cl i cs T H o){ds:List Value}:Cl i ds T (H.put i ⟨ds,T,1,false⟩) o:=⟨aG h.1,h.2⟩
theorem Cl.made:Cl H.length cs T (H.new ⟨cs,T,1,false⟩) (o.up H.length (-9)):=⟨aL,aP⟩
theorem kZ (l:List Int)(T:TypeId):eG (H.new ⟨l.map cv,T,1,false⟩) (.slice (some ⟨H.length,0,none⟩) l.length l.length) l:=(oJ.new H o0 (-9) T l).ints.1
theorem CK {l:List Int}(h:eG H x l)(c:eM):eG (H.new c) x l:=h.keep λi b e dy=>by
 rcases h with⟨e1,e2⟩|⟨j,off,cc,e1,hb⟩
 ·exact absurd e2 dy
 ·obtain⟨bb,g1,_⟩:=hb dy;rw[e1] at e;cases e;exact df (ar g1)
abbrev rc (r:eI):List Value:=[cv r.D5,.bool r.found,cv r.key,cv r.value,cv r.n,aA]
abbrev n5 (op:jY):List Value:=[cv op.kind,cv op.key,cv op.value]
theorem aaj (a b:Int)(H:aa):MN (cv a) (cv b) H=some (cv (if b>a then b else a),H):=rfl
end
section
variable {G:ae} {H H':aa} {o o':aj} {p m c:Nat} {K K':aa→aj→Prop} {t q:Int} {x:Value} {l:PL} {n i:Nat} {cs:List Value} {T:TypeId}
structure KL (B:aa) (b:aj) (p i0 i1 i2:Nat) (op:jY) (c1:List Value) (r2:eI) (H:aa) (o:aj):Prop where
 fr:Fr B b H o [(p:Int)]
 k0:Cl i0 (n5 op) 39 H o
 k1:Cl i1 c1 47 H o
 k2:Cl i2 (rc r2) 47 H o
structure KLd (B:aa) (i0 i1 i2:Nat):Prop where
 a:i0=B.length
 b:i1=B.length+1
 c:i2=B.length+2
section
variable {B:aa} {b:aj} {i0 i1 i2:Nat} {op:jY} {c1:List Value} {r2:eI}
theorem KL.eU:bJ [(p:Int)] (KL B b p i0 i1 i2 op c1 r2):=λH o H' o' h f=>⟨h.fr.tr f,h.k0.fr f (by simp),h.k1.fr f (by simp),h.k2.fr f (by simp)⟩
end
theorem acy (a b:Int):aF Tryz.prog 45 [(0,cv a),(1,cv b)]=some (.agg #[cv a,cv b]):=yS a b
end
section
open Go.Proofs.YtgfgglponbmgmaaGreatA
variable {G:ae} {H H':aa} {o o':aj} {p c n i:Nat} {K K':aa→aj→Prop} {t q:Int} {x:Value} {l:List Y.En} {st LV s1:Y.St} {α β:Type} {cs:List Value} {T:TypeId}
theorem JX.nB (h:JX K p st H)(cs:List Value)(T:TypeId)(es:Nat)(R3:bJ [(p:Int)] K')(k: ∀o,K H o→Fr H o (H.new ⟨cs,T,es,false⟩) (o.up H.length (-9)) []→K' (H.new ⟨cs,T,es,false⟩) (o.up H.length (-9))):JX K' p st (H.new ⟨cs,T,es,false⟩):=by
 obtain⟨hK,o,hr,hk⟩:=h;have f:Fr H o (H.new ⟨cs,T,es,false⟩) (o.up H.length (-9)) []:=(Fr.refl H o []).new _ _;exact⟨R3,_,hr.fr f (by simp) (by simp) (by simp),k o hk f⟩
theorem JX.tH (h:JX K p st H){c:eM}(hc: ∀o,K H o→Cl i cs T H o)(R3:bJ [(p:Int)] K')(k: ∀o,K H o→K' (H.put i c) o):JX K' p st (H.put i c):=by
 obtain⟨hK,o,hr,hk⟩:=h;have f:Fr H o (H.put i c) o [-9]:=(Fr.refl H o [-9]).put λ_=>by simp[(hc o hk).2]
 exact⟨R3,_,hr.fr f (by simp) (by simp) (by simp),k o hk⟩
theorem JX.new (h:JX K p st H)(c:eM):JX K p st (H.new c):=h.ue λo=>⟨o.up H.length (-9),(Fr.refl H o []).new _ _⟩
abbrev n9 (op:jY):Y.Op:=⟨op.kind,op.key,op.value⟩
theorem It (h:JX K p st H):aE (run G) 166 [] H λv H'=>v=gj (lE 8) aA∧JX K p st H':=by
 refine Ev.up (t:=λk=>WX (run G k) k H) ?_ λk=>Rz ..
 simp -implicitDefEqProofs only[WX,aS,sS,Nat.reduceAdd];have g:(H.new ⟨[cv 0,.bool false,cv 0,cv 0,cv 0,aA],47,1,false⟩).get H.length=some ⟨[cv 0,.bool false,cv 0,cv 0,cv 0,aA],47,1,false⟩:=aL;have mj:=tD H.length (lE 8) (s:=aA) rfl _ g rfl;have uu:=pQ H.length (lE 8) (s:=aA) (t:=47) _ (aG g);simp -implicitDefEqProofs only[Lj,mj,uu,sS,Nat.reduceAdd];refine Ev.ret ⟨rfl,?_⟩;obtain⟨hK,o,hr,hk⟩:=h;have f:Fr H o ((H.new ⟨[cv 0,.bool false,cv 0,cv 0,cv 0,aA],47,1,false⟩).put H.length ⟨[cv (lE 8).D5,.bool (lE 8).found,cv (lE 8).key,cv (lE 8).value,cv (lE 8).n,aA],47,1,false⟩) (o.up H.length (-9)) []:=((Fr.refl H o []).new _ _).put λhh=>absurd hh (by omega)
 exact⟨hK,_,hr.fr f (by simp) (by simp) (by simp),hK _ _ _ _ hk (f.wk (by simp))⟩
theorem R4 (h:JX K p st H)(op:jY)(w q:Int)(leaf there:Bool):aE (run G) 169 [pv p,jj op,cv w,cv q,.bool leaf,.bool there] H (iw K p st (Y.mf (n9 op) w q leaf there)):=by
 refine Ev.up (t:=λk=>WY (run G k) k (pv p) (jj op) (cv w) (cv q) (.bool leaf) (.bool there) H) ?_ λk=>RA ..
 have hK:=h.1;obtain⟨i0,ei⟩: ∃i,i=H.length:=⟨_,rfl⟩;obtain⟨H1,e1⟩: ∃z,z=H.new ⟨n5 op,39,1,false⟩:=⟨_,rfl⟩;have fv:JX (λH o=>K H o∧Cl i0 (n5 op) 39 H o) p st H1:=by
  rw[e1];refine h.nB _ _ 1 (hK.and λH o H' o' a f=>a.fr f (by simp)) λo hk f=>⟨hK _ _ _ _ hk (f.wk (by simp)),?_⟩
  rw[ei];exact Cl.made
 have hU: ∀{s':Y.St} {H':aa},JX (λH o=>K H o∧Cl i0 (n5 op) 39 H o) p s' H'→JX K p s' H':=λhj=>hj.mono hK λo a=>a.1
 have L0: ∀{s':Y.St} {H':aa},JX (λH o=>K H o∧Cl i0 (n5 op) 39 H o) p s' H'→aq (.pointer (some ⟨i0,0,none⟩)) H'=some (cv op.kind)∧aq (.pointer (some ⟨i0,1,none⟩)) H'=some (cv op.key)∧aq (.pointer (some ⟨i0,2,none⟩)) H'=some (cv op.value):=λhj=>by
  obtain⟨_,o,_,_,g,_⟩:=hj;exact⟨ao i0 0 _ g,ao i0 1 _ g,ao i0 2 _ g⟩
 obtain⟨a0,a1,a2⟩:=L0 fv;have bx:=CH op H;rw[←ei, ←e1] at bx;simp -implicitDefEqProofs only[WY,bx,a0,a1,a2,sS,Nat.reduceAdd];refine Ev.eql (λhq=>?_) (λhq=>?_)<;>try simp -implicitDefEqProofs only[a0,a1,a2,sS,Nat.reduceAdd]
 ·refine Ev.RP (sj fv) λw Hz hj=>?_
  refine Ev.si (nu hj) λz s2 Hz ez hj=>?_
  have y9:=hU hj
  try simp -implicitDefEqProofs only[sS,Nat.reduceAdd]
  refine Ev.is (nY _ _) ?_
  try simp -implicitDefEqProofs only[sS,Nat.reduceAdd]
  refine Ev.ret (iw.of y9 ?_);unfold Y.mf;rw[if_pos hq];simp only[Y.ak,bk,bH,bL,cR,cS,ne_eq,not_true_eq_false,not_false_eq_true,if_true,if_false,Bool.not_true,Bool.not_false,true_and,and_true,false_and,and_false,true_or,or_true,false_or,or_false,Bool.false_eq_true,decide_true,decide_false,ez]
 refine Ev.RP (uc fv _ _) λw1 Hz hj=>?_
 refine Ev.si (nu hj) λz s2 Hz ez hj=>?_
 try simp -implicitDefEqProofs only[sS,Nat.reduceAdd]
 refine Ev.is (nY _ _) ?_;have y9:=hU hj;have E:Y.ah (Y.mf (n9 op) w q leaf there) st=Y.ah (if ¬z>0∨leaf=false∨there=true then pure (Y.fI 2 z,decide (z>0)) else Y.mk (Y.cP 2 [max q op.key] (if op.key<q then[Y.fI 2 z,w] else[w,Y.fI 2 z])) >>= λb=>pure (Y.fI 3 b,decide (b>0))) s2:=by
  unfold Y.mf;rw[if_neg hq];simp only[Y.ak,bk,bH,bL,cR,cS,ne_eq,not_true_eq_false,not_false_eq_true,if_true,if_false,Bool.not_true,Bool.not_false,true_and,and_true,false_and,and_false,true_or,or_true,false_or,or_false,Bool.false_eq_true,decide_true,decide_false,ez]
 try simp -implicitDefEqProofs only[sS,Nat.reduceAdd]
 by_cases hz:z>0
 ·simp -implicitDefEqProofs only[hz,decide_true,sS,Nat.reduceAdd];cases leaf<;>simp -implicitDefEqProofs only[sS,Nat.reduceAdd]
  ·exact Ev.ret (iw.of y9 (by rw[E,if_pos (by simp)];simp only[hz,decide_true];rfl))
  cases there<;>simp -implicitDefEqProofs only[sS,Nat.reduceAdd]
  ·rw[if_neg (by simp;omega)] at E
   have J0: ∀{H1:aa} {y:Value} (l:List Int) (aN aI bA aM aT aW bf dR aU fN:Value),JX (λH o=>K H o∧Cl i0 (n5 op) 39 H o) p s2 H1→eG H1 y l→l.length≤10→Y.ah (Y.mf (n9 op) w q true false) st=Y.ah (Y.mk (Y.cP 2 [max q op.key] l) >>= λb=>pure (Y.fI 3 b,decide (b>0))) s2→Ev (λk=>vB (run G k) k [pv p,jj op,cv w,cv q,.bool true,.bool false,aN,aI,pv i0,bA,aM,aT,aW,bf,dR,aU,fN,y] H1) λr=>iw K p st (Y.mf (n9 op) w q true false) r.1 r.2:=by
    intro H1 y l aN aI bA aM aT aW bf dR aU fN hj hy hl E;obtain⟨a0,a1,a2⟩:=L0 hj;simp -implicitDefEqProofs only[KT,yx,a1,aaj,zP,sS,Nat.reduceAdd];refine Ev.RP (nA (hj.new _) _ (kZ [_] _) (CK hy _) (by simp;omega)) λw1 Hz hj=>?_
    refine Ev.si (nu hj) λz s3 Hz ez hj=>?_
    have y9:=hU hj
    try simp -implicitDefEqProofs only[sS,Nat.reduceAdd]
    refine Ev.is (nY _ _) ?_
    try simp -implicitDefEqProofs only[sS,Nat.reduceAdd]
    refine Ev.ret (iw.of y9 ?_);have em:max q op.key=if op.key>q then op.key else q:=by split<;>omega
    rw[E,em,Y.aJ ez];rfl
   obtain⟨b0,b1,b2⟩:=L0 (hj.new ⟨[cv w,cv (Y.fI 2 z)],2,1,false⟩);simp -implicitDefEqProofs only[RO,b0,b1,sS,Nat.reduceAdd];refine Ev.lss (λhq=>?_) (λhq=>?_)<;>try simp -implicitDefEqProofs only[RO,sS,Nat.reduceAdd]
   ·rw[if_pos hq] at E;exact J0 [Y.fI 2 z,w] _ _ _ _ _ _ _ _ _ _ ((hj.new _).new _) (kZ [Y.fI 2 z,w] _) (by simp) E
   ·rw[if_neg hq] at E;exact J0 [w,Y.fI 2 z] _ _ _ _ _ _ _ _ _ _ (hj.new _) (kZ [w,Y.fI 2 z] _) (by simp) E
  ·exact Ev.ret (iw.of y9 (by rw[E,if_pos (by simp)];simp only[hz,decide_true];rfl))
 ·simp -implicitDefEqProofs only[hz,decide_false,sS,Nat.reduceAdd];exact Ev.ret (iw.of y9 (by rw[E,if_pos (.inl hz)];simp only[hz,decide_false];rfl))
end
section
open Go.Proofs.YtgfgglponbmgmaaGreatA
variable {G:ae} {H H':aa} {o o':aj} {p c n i:Nat} {K K':aa→aj→Prop} {t q:Int} {x:Value} {path:List Y.En} {st LV s1:Y.St} {α β:Type} {cs:List Value} {T:TypeId}
abbrev yU (r:Y.Rs):eI:=⟨r.D5,r.found,r.key,r.value,0,[]⟩
abbrev jx (K:aa→aj→Prop)(p:Nat)(st:Y.St)(t:Y.Tr (Y.Rs×Bool)):Value→aa→Prop:=λv H'=>v= .tuple #[gj (yU (Y.ah t st).1.1) aA,.bool (Y.ah t st).1.2]∧JX K p (Y.ah t st).2 H'
theorem jx.of {t:Y.Tr (Y.Rs×Bool)}{z:Y.Rs}{b:Bool}(hj:JX K p s1 H')(e:Y.ah t st=((z,b),s1)):jx K p st t (.tuple #[gj (yU z) aA,.bool b]) H':=by unfold jx;rw[e];exact⟨rfl,hj⟩
section
variable {B:aa} {b:aj} {i0 i1 i2:Nat} {op:jY} {c1:List Value} {r2:eI}
theorem KL.OG (h:JX (KL B b p i0 i1 i2 op c1 r2) p st H):aq (.pointer (some ⟨i0,0,none⟩)) H=some (cv op.kind)∧aq (.pointer (some ⟨i0,1,none⟩)) H=some (cv op.key)∧cZ 3 (pv i0) H=some (jj op)∧aq (.pointer (some ⟨i2,1,none⟩)) H=some (.bool r2.found)∧cZ 6 (pv i2) H=some (gj r2 aA):=by
 obtain⟨_,o,_,hg⟩:=h;exact⟨ao i0 0 _ hg.k0.1,ao i0 1 _ hg.k0.1,PO hg.k0.1,ao i2 1 _ hg.k2.1,pQ _ _ _ hg.k2.1⟩
theorem KL.Xj (hd:KLd B i0 i1 i2)(h:JX (KL B b p i0 i1 i2 op c1 r2) p st H)(hl:c1.length=6)(r:eI): ∃H2,bD 6 (pv i1) (gj r aA) H=some (undef,H2)∧cZ 6 (pv i1) H2=some (gj r aA)∧JX (KL B b p i0 i1 i2 op (rc r) r2) p st H2:=by
 obtain⟨_,o,hr,hg⟩:=id h;obtain⟨e0,e1,e2⟩:=hd;refine⟨_,tD i1 r (s:=aA) rfl H hg.k1.1 hl,pQ _ _ _ (aG hg.k1.1),h.tH (λo hg=>hg.k1) KL.eU λo hg=>⟨hg.fr.put λhh=>by omega,hg.k0.put (by omega),hg.k1.self,hg.k2.put (by omega)⟩⟩
theorem KL.TM (hd:KLd B i0 i1 i2)(h:JX (KL B b p i0 i1 i2 op c1 r2) p st H)(r:eI): ∃H2,bD 6 (pv i2) (gj r aA) H=some (undef,H2)∧JX (KL B b p i0 i1 i2 op c1 r) p st H2:=by
 obtain⟨_,o,hr,hg⟩:=id h;obtain⟨e0,e1,e2⟩:=hd;refine⟨_,tD i2 r (s:=aA) rfl H hg.k2.1 rfl,h.tH (λo hg=>hg.k2) KL.eU λo hg=>⟨hg.fr.put λhh=>by omega,hg.k0.put (by omega),hg.k1.put (by omega),hg.k2.self⟩⟩
end
theorem aak (h:JX K p st H){ff:Nat}(Xi:st.left≤ff)(hx: ∀H o,K H o→EH H o q x path)(hq:q≠(p:Int))(hp: ∀e∈path, -9223372036854775808≤e.node∧e.node≤65536)(hn:path.length≤2147483648)(op:jY){nn:Int}(hnn: -9223372036854775808≤nn∧nn≤65536)(s w:Int):
  aE (run G) 167 [pv p,jj op,cv nn,cv s,cv w,x] H (jx K p st (Y.lD (ff+1) (n9 op) nn s w path)):=by
 have wnn:IntKind.i64.wrap (nn+2)=nn+2:=fL (by omega)
 refine Ev.up (t:=λk=>Vh (run G k) k (pv p) (jj op) (cv nn) (cv s) (cv w) x H) ?_ λk=>QA ..
 obtain⟨hK,b,hr,hk⟩:=id h;have hxB:=hx _ _ hk;have YL: ∀{H':aa} {o':aj},Fr H b H' o' [(p:Int)]→EH H' o' q x path:=λf=>hxB.fr f (by simpa using hq)
 obtain⟨i0,e0⟩: ∃i,i=H.length:=⟨_,rfl⟩;obtain⟨i1,e1⟩: ∃i,i=H.length+1:=⟨_,rfl⟩;obtain⟨i2,e2⟩: ∃i,i=H.length+2:=⟨_,rfl⟩;have hd:KLd H i0 i1 i2:=⟨e0,e1,e2⟩;obtain⟨H1,fV⟩: ∃z,z=H.new ⟨n5 op,39,1,false⟩:=⟨_,rfl⟩;have l1:H1.length=H.length+1:=by rw[fV,cA]
 obtain⟨H2,im⟩: ∃z,z=H1.new ⟨rc bQ,47,1,false⟩:=⟨_,rfl⟩;have l2:H2.length=H.length+2:=by rw[im,cA,l1]
 obtain⟨H3,mo⟩: ∃z,z=H2.new ⟨rc bQ,47,1,false⟩:=⟨_,rfl⟩;have fv:JX (λH' o=>Fr H b H' o [(p:Int)]∧Cl i0 (n5 op) 39 H' o) p st H1:=by
  rw[fV];have OH:JX (λH' o=>Fr H b H' o [(p:Int)]) p st H:=⟨bJ.base (by simp),b,hr,Fr.refl _ _ _⟩
  refine OH.nB _ _ 1 ((bJ.base (by simp)).and λH o H' o' a f=>a.fr f (by simp)) λo hk f=>⟨hk.new _ _,?_⟩
  rw[e0];exact Cl.made
 have fH:JX (λH' o=>(Fr H b H' o [(p:Int)]∧Cl i0 (n5 op) 39 H' o)∧Cl i1 (rc bQ) 47 H' o) p st H2:=by
  rw[im];refine fv.nB _ _ 1 (fv.1.and λH o H' o' a f=>a.fr f (by simp)) λo hk f=>⟨⟨hk.1.new _ _,hk.2.new⟩,?_⟩
  rw[e1, ←l1];exact Cl.made
 have gA:JX (KL H b p i0 i1 i2 op (rc bQ) bQ) p st H3:=by
  rw[mo];refine fH.nB _ _ 1 KL.eU λo hk f=>⟨hk.1.1.new _ _,hk.1.2.new,hk.2.new,?_⟩
  rw[e2, ←l2];exact Cl.made
 obtain⟨H4,g4,iW⟩:=KL.TM hd gA bQ;have bx:=CH op H;rw[←e0, ←fV] at bx;have n1:aS H1 47 1 [cv 0,.bool false,cv 0,cv 0,cv 0,aA]=(pv i1,H2):=by rw[im,e1, ←l1];rfl
 have n2:aS H2 47 1 [cv 0,.bool false,cv 0,cv 0,cv 0,aA]=(pv i2,H3):=by rw[mo,e2, ←l2];rfl
 have hU: ∀{c1:List Value} {r2:eI} {s':Y.St} {H':aa},JX (KL H b p i0 i1 i2 op c1 r2) p s' H'→JX K p s' H':=λhj=>hj.mono hK λo' hg=>hK _ _ _ _ hk hg.fr
 have J2: ∀{s2:Y.St} {H1:aa} {res:Y.Rs} (leaf:Bool) (q z19:Int) (aI bO bR iS aU kS bf wV nd oI:Value),JX (KL H b p i0 i1 i2 op (rc bQ) (yU res)) p s2 H1→Y.ah (Y.lD (ff+1) (n9 op) nn s w path) st=((res,decide (z19=1)),s2)→Ev (λk=>po (run G k) k [pv p,jj op,cv nn,cv s,cv w,x,pv i1,aI,.bool leaf,bO,cv q,pv i0,bR,pv i2,iS,aU,kS,bf,wV,cv z19,nd,oI] H1) λr=>jx K p st (Y.lD (ff+1) (n9 op) nn s w path) r.1 r.2:=by
  intro s2 H1 res leaf q z19 aI bO bR iS aU kS bf wV nd oI hj E;obtain⟨a0,a1,a2,a3,a4⟩:=KL.OG hj;obtain⟨H5,g5,g6,kh⟩:=KL.Xj hd hj rfl (yU res);simp -implicitDefEqProofs only[JF,xb,a4,sS,Nat.reduceAdd];refine Ev.eql (λhq=>?_) (λhq=>?_)<;>try simp -implicitDefEqProofs only[g5,g6,sS,Nat.reduceAdd]
  ·exact Ev.ret (jx.of (hU kh) (by rw[E];simp[hq]))
  ·exact Ev.ret (jx.of (hU kh) (by rw[E];simp[hq]))
 have Yk: ∀{s2:Y.St} {H1:aa} {r2:eI},JX (KL H b p i0 i1 i2 op (rc bQ) r2) p s2 H1→Y.ah (Y.lD (ff+1) (n9 op) nn s w path) st=((Y.Rs.qg,true),s2)→Ev (λk=>af (run G k 166 [] H1) λy Hy=>af (bD 6 (pv i1) y Hy) λ_ Hy=>af (pS (cZ 6 (pv i1) Hy) Hy) λr0 _=>some (Value.tuple #[r0,.bool true],Hy)) λr=>jx K p st (Y.lD (ff+1) (n9 op) nn s w path) r.1 r.2:=by
  intro s2 H1 r2 hj E;refine Ev.call (It hj) ?_;rintro v H5 ⟨rfl,hj⟩;obtain⟨H6,g5,g6,kh⟩:=KL.Xj hd hj rfl (lE 8);simp -implicitDefEqProofs only[g5,g6,sS,Nat.reduceAdd];exact Ev.ret (jx.of (z:=Y.Rs.qg) (hU kh) E)
 have J1: ∀{s2:Y.St} {H1:aa} {res:Y.Rs} (leaf:Bool) (q o:Int) (aI bO bR iS aU kS bf wV nd oI:Value),JX (KL H b p i0 i1 i2 op (rc bQ) (yU res)) p s2 H1→s2.left≤ff→Y.ah (Y.lD (ff+1) (n9 op) nn s w path) st=Y.ah (if o=3 then pure (Y.Rs.qg,true) else if o=1∧((n9 op).kind≠2∨res.found=false) then Y.di (ff+1) none path >>= λ_=>pure (res,true) else pure (res,decide (o=1))) s2→Ev (λk=>nc (run G k) k [pv p,jj op,cv nn,cv s,cv w,x,pv i1,aI,.bool leaf,bO,cv q,pv i0,bR,pv i2,iS,aU,kS,bf,wV,cv o,nd,oI] H1) λr=>jx K p st (Y.lD (ff+1) (n9 op) nn s w path) r.1 r.2:=by
  intro s2 H1 res leaf q o aI bO bR iS aU kS bf wV nd oI hj hl E;obtain⟨a0,a1,a2,a3,a4⟩:=KL.OG hj;simp -implicitDefEqProofs only[JG,xd,sS,Nat.reduceAdd];have Xk:o=1→Y.ah (Y.lD (ff+1) (n9 op) nn s w path) st=Y.ah (Y.di (ff+1) none path >>= λ_=>pure (res,true)) s2→∀(nd oI:Value),Ev (λk=>af (run G k 126 [pv p,x] H1) λ_ Hy=>po (run G k) k [pv p,jj op,cv nn,cv s,cv w,x,pv i1,aI,.bool leaf,bO,cv q,pv i0,bR,pv i2,iS,aU,kS,bf,wV,cv o,nd,oI] Hy) λr=>jx K p st (Y.lD (ff+1) (n9 op) nn s w path) r.1 r.2:=by
   intro ho E nd oI;refine Ev.Yu (R2 hj (ff:=ff) hl (λH o hg=>YL hg.fr) hp hn) λv u s3 H3 e3 gA=>?_
   rw[Y.aJ e3] at E;refine J2 _ _ _ _ _ _ _ _ _ _ _ _ _ gA ?_;rw[E];simp[ho,bH]
  refine Ev.eql (λh3=>?_) (λh3=>?_)<;>try simp -implicitDefEqProofs only[sS,Nat.reduceAdd]
  ·exact Yk hj (by rw[E,if_pos h3];rfl)
  rw[if_neg h3] at E;refine Ev.eql (λh1=>?_) (λh1=>?_)<;>try simp -implicitDefEqProofs only[a0,sS,Nat.reduceAdd]
  ·refine Ev.neq (λhk=>?_) (λhk=>?_)<;>try simp -implicitDefEqProofs only[a3,sS,Nat.reduceAdd]
   ·rw[if_pos ⟨h1,.inl hk⟩] at E;exact Xk h1 E _ _
   ·cases hf:res.found<;>simp -implicitDefEqProofs only[sS,Nat.reduceAdd]
    ·rw[if_pos ⟨h1,.inr hf⟩] at E;exact Xk h1 E _ _
    ·rw[if_neg (by simp[hk,hf])] at E
     exact J2 _ _ _ _ _ _ _ _ _ _ _ _ _ hj (by rw[E];rfl)
  ·rw[if_neg (by simp[h1])] at E
   exact J2 _ _ _ _ _ _ _ _ _ _ _ _ _ hj (by rw[E];rfl)
 have J0: ∀{s2:Y.St} {H1:aa} {res:Y.Rs} (leaf:Bool) (q:Int) (aI bO bR iS aU kS bf wV bz nd oI:Value),JX (KL H b p i0 i1 i2 op (rc bQ) (yU res)) p s2 H1→s2.left≤ff→Y.ah (Y.lD (ff+1) (n9 op) nn s w path) st=Y.ah (Y.yJ (ff+1) (n9 op) nn s w q leaf path res) s2→Ev (λk=>pw (run G k) k [pv p,jj op,cv nn,cv s,cv w,x,pv i1,aI,.bool leaf,bO,cv q,pv i0,bR,pv i2,iS,aU,kS,bf,wV,bz,nd,oI] H1) λr=>jx K p st (Y.lD (ff+1) (n9 op) nn s w path) r.1 r.2:=by
  intro s2 H1 res leaf q aI bO bR iS aU kS bf wV bz nd oI hj hl E;obtain⟨a0,a1,a2,a3,a4⟩:=KL.OG hj;obtain⟨H5,g5,g6,kh⟩:=KL.Xj hd hj rfl (yU res);have E2:Y.ah (Y.lD (ff+1) (n9 op) nn s w path) st=Y.ah (if s2.off=true∨(op.kind=1∧res.found=true)∨(op.kind=3∧res.found=false) then pure (res,true) else Y.mf (n9 op) w q leaf res.found >>= λxo=>if xo.2=false then pure (Y.Rs.qg,true) else Y.Tr.rc 0 (Y.sg (nn+2) s w xo.1 >>= λo=>Y.Tr.ld (if o=3 then pure (Y.Rs.qg,true) else if o=1∧((n9 op).kind≠2∨res.found=false) then Y.di (ff+1) none path >>= λ_=>pure (res,true) else pure (res,decide (o=1))))) s2:=by
   rw[E];unfold Y.yJ;simp only[Y.ak,bk,bH,bL,cR,cS,ne_eq,not_true_eq_false,not_false_eq_true,if_true,if_false,Bool.not_true,Bool.not_false,true_and,and_true,false_and,and_false,true_or,or_true,false_or,or_false,Bool.false_eq_true,decide_true,decide_false];rfl
  have uB:(s2.off=true∨(op.kind=1∧res.found=true)∨(op.kind=3∧res.found=false))→Ev (λk=>af (some (gj (yU res) aA,H1)) λy Hy=>af (bD 6 (pv i1) y Hy) λ_ Hy=>af (pS (cZ 6 (pv i1) Hy) Hy) λr0 _=>some (Value.tuple #[r0,.bool true],Hy)) λr=>jx K p st (Y.lD (ff+1) (n9 op) nn s w path) r.1 r.2:=by
   intro hc;simp -implicitDefEqProofs only[g5,g6,sS,Nat.reduceAdd];exact Ev.ret (jx.of (hU kh) (by rw[E2,if_pos hc];rfl))
  simp -implicitDefEqProofs only[g5,g6,sS,Nat.reduceAdd] at uB;have OI: ¬(s2.off=true∨(op.kind=1∧res.found=true)∨(op.kind=3∧res.found=false))→∀(iS:Value),Ev (λk=>af (run G k 169 [pv p,jj op,cv w,cv q,.bool leaf,.bool res.found] H1) λy Hy=>af (cg 0 y Hy) λdp Hy=>af (cg 1 y Hy) λdv Hy=>af (pS (iG .not dv) Hy) λdQ Hy=>aV dQ (af (run G k 166 [] Hy) λy Hy=>af (bD 6 (pv i1) y Hy) λ_ Hy=>af (pS (cZ 6 (pv i1) Hy) Hy) λr0 _=>some (Value.tuple #[r0,.bool true],Hy))
    (af (bD 1 (.pointer (some ⟨p,8,none⟩)) (cv 0) Hy) λ_ Hy=>af (run G k 116 [pv p,cv (IntKind.i64.wrap (nn+2)),cv s,cv w,dp] Hy) λiV Hy=>af (pS (aq (.pointer (some ⟨p,8,none⟩)) Hy) Hy) λFB Hy=>af (pS (ai Tryz.prog .gtr 3 FB (cv 0)) Hy) λBN Hy=>aV BN (af (pS (aq (.pointer (some ⟨p,8,none⟩)) Hy) Hy) λBV Hy=>af (bD 1 (.pointer (some ⟨p,9,none⟩)) BV Hy) λ_ Hy=>nc (run G k) k [pv p,jj op,cv nn,cv s,cv w,x,pv i1,aI,.bool leaf,bO,cv q,pv i0,bR,pv i2,iS,dv,dQ,dp,BN,iV,nd,oI] Hy)
     (nc (run G k) k [pv p,jj op,cv nn,cv s,cv w,x,pv i1,aI,.bool leaf,bO,cv q,pv i0,bR,pv i2,iS,dv,dQ,dp,BN,iV,nd,oI] Hy))) λr=>jx K p st (Y.lD (ff+1) (n9 op) nn s w path) r.1 r.2:=by
   intro hc iS;rw[if_neg hc] at E2;refine Ev.D7 (R4 hj _ _ _ _ _) λz zb s3 H3 e3 hj=>?_
   have m3:=dk e3;rw[Y.aJ e3] at E2;cases zb<;>simp -implicitDefEqProofs only[sS,Nat.reduceAdd]
   ·exact Yk hj (by rw[E2];rfl)
   rw[if_neg (by simp),cR] at E2
   refine Ev.Tu hj λH4 hj=>?_
   rw[wnn];refine Ev.eS (Cy hj _ _ _ _) λo s5 H5 e5 hj=>?_
   have m5:=dk e5;have m6:({s3 with oL:=0}:Y.St).left=s3.left:=rfl
   rw[Y.aJ e5,cS] at E2;refine Ev.Tv hj ?_;refine Ev.gtr (λhq=>?_) (λhq=>?_)<;>try simp -implicitDefEqProofs only[sS,Nat.reduceAdd]
   ·rw[if_pos hq] at E2;refine Ev.Tv hj ?_;refine Ev.ZQ hj λH6 hj=>?_
    exact J1 _ _ _ _ _ _ _ _ _ _ _ _ _ hj (by show s5.left≤ff;omega) E2
   ·rw[if_neg hq] at E2;exact J1 _ _ _ _ _ _ _ _ _ _ _ _ _ hj (by omega) E2
  simp -implicitDefEqProofs only[JH,xe,sS,Nat.reduceAdd];refine Ev.nW hj (λhq=>?_) (λhq=>?_)<;>try simp -implicitDefEqProofs only[a0,sS,Nat.reduceAdd]
  ·(try simp -implicitDefEqProofs only[a4,g5,g6,sS,Nat.reduceAdd]);exact uB (.inl hq)
  refine Ev.eql (λqv=>?_) (λqv=>?_)<;>try simp -implicitDefEqProofs only[a0,a3,sS,Nat.reduceAdd]
  ·cases hf:res.found<;>simp -implicitDefEqProofs only[a0,sS,Nat.reduceAdd]
   ·refine Ev.eql (λkt=>?_) (λkt=>?_)<;>try simp -implicitDefEqProofs only[a0,a2,a3,a4,hf,g5,g6,sS,Nat.reduceAdd]
    ·exact uB (.inr (.inr ⟨kt,hf⟩))
    ·have:=OI (by simp[hq,qv,hf,kt])
     rw[hf] at this;exact this _
   ·(try simp -implicitDefEqProofs only[a4,g5,g6,sS,Nat.reduceAdd]);exact uB (.inr (.inl ⟨qv,hf⟩))
  ·refine Ev.eql (λkt=>?_) (λkt=>?_)<;>try simp -implicitDefEqProofs only[a0,a2,a3,a4,sS,Nat.reduceAdd]
   ·cases hf:res.found<;>simp -implicitDefEqProofs only[a2,a3,a4,hf,g5,g6,sS,Nat.reduceAdd]
    ·exact uB (.inr (.inr ⟨kt,hf⟩))
    ·have:=OI (by simp[hq,qv,hf])
     rw[hf] at this;exact this _
   ·exact OI (by simp[hq,qv,kt]) _
 have a0:=KL.OG iW;simp -implicitDefEqProofs only[Vh,bx,n1,CI,n2,g4,sS,Nat.reduceAdd];refine Ev.is (gV _) ?_
 try simp -implicitDefEqProofs only[sS,Nat.reduceAdd]
 refine Ev.eql (λqv=>?_) (λqv=>?_)<;>try simp -implicitDefEqProofs only[sS,Nat.reduceAdd]
 ·refine Ev.is (nX _) ?_;refine Ev.eS (cX iW _) λzq s2 Hz e2 hj=>?_
  have m2:=dk e2;obtain⟨a0,a1,a2,a3,a4⟩:=KL.OG hj;simp -implicitDefEqProofs only[a1,sS,Nat.reduceAdd];refine Ev.eql (λkt=>?_) (λkt=>?_)<;>try simp -implicitDefEqProofs only[sS,Nat.reduceAdd]
  ·refine Ev.is (nX _) ?_;simp -implicitDefEqProofs only[sS,Nat.reduceAdd,LW _ (j:=1) (by omega)]
   refine Ev.eS (cX hj _) λzv s3 Hz e3 hj=>?_
   have m3:=dk e3;obtain⟨H6,g6,n8⟩:=KL.TM hd hj (Li (zq,zv,true));simp -implicitDefEqProofs only[acy,Xh,g6,sS,Nat.reduceAdd];refine J0 (res:=⟨0,true,zq,zv⟩) _ _ _ _ _ _ _ _ _ _ _ _ _ n8 (by omega) ?_
   unfold Y.lD;rw[if_pos qv,Y.aJ e2,if_pos kt,Y.aJ e3]
  ·refine J0 (res:=Y.Rs.nil) _ _ _ _ _ _ _ _ _ _ _ _ _ hj (by omega) ?_
   unfold Y.lD;rw[if_pos qv,Y.aJ e2,if_neg kt]
 ·refine J0 (res:=Y.Rs.nil) _ _ _ _ _ _ _ _ _ _ _ _ _ iW Xi ?_;unfold Y.lD;rw[if_neg qv]
end
section
variable {G:ae} {H H':aa} {o o':aj} {p m c:Nat} {K K':aa→aj→Prop} {t q:Int} {x:Value} {l:PL} {n i:Nat} {cs:List Value} {T:TypeId}
structure Xl (B:aa) (b:aj) (p i0 i1:Nat) (t:Int):Prop where
 e0:i0=B.length
 e1:i1=B.length+1
 lt:t< -100
 ft: ∀i,i<B.length→b i≠t
section
variable {B:aa} {b:aj} {i0 i1:Nat} {op:jY} {c1:List Value}
theorem Xl.ap (h:Xl B b p i0 i1 t):oS t p:=⟨by have:=h.lt;omega,by have:=h.lt;omega,by have:=h.lt;omega⟩
variable {α:Type} {k:Nat→Value→aa→Option α} {Q:α→Prop} {a1 a2 a3:Int} {ty:TypeId}
end
theorem acz (a b c:Int):aF Tryz.prog 37 [(0,cv a),(1,cv b),(2,cv c)]=some (.agg #[cv a,cv b,cv c]):=by kernel_rfl
theorem acA (a b c:Int)(H:aa):ay Tryz.prog 35 1 [(0,.agg #[cv a,cv b,cv c])] H=some (.slice (some ⟨H.length,0,none⟩) 1 1,H.new ⟨[cv a,cv b,cv c],37,3,false⟩):=by kernel_rfl
theorem Xm (i:Nat)(H:aa):iY Tryz.prog 47 (pv i) H=cZ 6 (pv i) H:=by kernel_rfl
end
end Go.Proofs.YtgfgglponbmgmaaGreat.Fun
end
