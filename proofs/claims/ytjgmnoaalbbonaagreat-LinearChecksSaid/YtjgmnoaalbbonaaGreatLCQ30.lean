/- Texts of the proof of linearChecks_holds, put together by a small program of ours (names shortened, spaces taken out). No condition beyond the given statement. -/
import Derived.Test.YtjgmnoaalbbonaaGreatLCQ17
import Derived.Test.YtjgmnoaalbbonaaGreatLCQ18
import Derived.Test.YtjgmnoaalbbonaaGreatLCQ19
import Derived.Test.YtjgmnoaalbbonaaGreatLCQ21
import Derived.Test.YtjgmnoaalbbonaaGreatLCQ22
import Derived.Test.YtjgmnoaalbbonaaGreatLCQ28
set_option linter.unusedVariables false
set_option linter.unusedSimpArgs false
set_option linter.unnecessarySimpa false
noncomputable section
section
namespace Go.Proofs.YtjgmnoaalbbonaaGreat.Fun
open Go Go.RowKit Go.Proofs.YtjgmnoaalbbonaaGreatA.Am
set_option maxRecDepth 10000
section
variable {H H':ae} {o o':an} {q:Int}
structure SV where
 a:Option Addr
 n:Nat
 c:Nat
abbrev SV.v (s:SV):Value:=.slice s.a s.n s.c
structure OC where
 aV:Int
 uid:Nat
 call:jw
 ah:SV
 ws:SV
abbrev dU (z:OC):List Value:=[cv z.aV,cv z.call.no,cv z.call.op.kind,cv z.call.op.key,cv z.call.op.value,.bool z.call.fh.isSome,z.ah.v,z.ws.v]
def qp:List OC→List Value
 | []=>[]
 |x::l=>dU x++qp l
theorem mr: ∀l:List OC,(qp l).length=8*l.length
 | []=>rfl
 |x::l=>by simp only[qp,List.length_append,List.length_cons,mr l];simp;omega
theorem Gr: ∀a b:List OC,qp (a++b)=qp a++qp b
 | [],b=>rfl
 |x::a,b=>by simp only[List.cons_append,qp,Gr a b,List.append_assoc]
theorem MV: ∀l:List OC,(qp l).all aD=true
 | []=>rfl
 |x::l=>by simp only[qp,List.all_append,MV l,Bool.and_true];rfl
theorem B8: ∀(l:List OC) (n:Nat),(qp l).drop (8*n)=qp (l.drop n)
 |l,0=>rfl
 | [],n+1=>by simp[qp]
 |x::l,n+1=>by
  rw[show 8*(n+1)=8+8*n by omega, ←List.drop_drop]
  show((qp l)).drop (8*n)=_
  rw[B8 l n];rfl
theorem Iz: ∀(l:List OC) (n:Nat),(qp l).take (8*n)=qp (l.take n)
 |l,0=>rfl
 | [],n+1=>by simp[qp]
 |x::l,n+1=>by
  have e:qp (x::l)=dU x++qp l:=rfl;rw[e,show 8*(n+1)=(dU x).length+8*n by simp;omega,List.take_length_add_append,Iz l n];rfl
theorem acS {l:List OC}{j:Nat}{x:OC}(h:l[j]? =some x)(rest:List Value):((qp l++rest).drop (8*j)).take 8=dU x:=by
 have hj:=(List.getElem?_eq_some_iff.1 h).1;rw[List.drop_append_of_le_length (by rw[mr];omega),B8]
 have e:l.drop j=x::l.drop (j+1):=by
  rw[List.drop_eq_getElem_cons hj];rw[List.getElem?_eq_getElem hj] at h;cases h;rfl
 rw[e];rfl
theorem MW: ∀{l:List OC} {j:Nat} {x:OC} (y:OC) (k:Nat) (v:Value),l[j]? =some x→k<8→(dU x).set k v=dU y→(qp l).set (8*j+k) v=qp (l.set j y)
 | [],j,x,y,k,v,h,_,_=>by simp at h
 |z::l,0,x,y,k,v,h,hk,he=>by
  have:z=x:=by simpa using h
  subst this;simp only[qp,List.set_cons_zero,Nat.mul_zero,Nat.zero_add];rw[List.set_append,if_pos (by simpa using hk),he]
 |z::l,j+1,x,y,k,v,h,hk,he=>by
  simp only[qp,List.set_cons_succ];rw[List.set_append,if_neg (by simp;omega),show 8*(j+1)+k-(dU z).length=8*j+k by simp;omega,MW y k v (by simpa using h) hk he]
def sR (H:ae)(o:an)(q:Int)(x:Value)(l:List OC):Prop:=
 (x= .slice none 0 0∧l=[])∨∃i cap rest ty,x= .slice (some ⟨i,0,none⟩) l.length cap∧H.get i=some ⟨qp l++rest,ty,8,false⟩∧8*l.length+rest.length=8*cap∧o i=q
theorem sR.nil:sR H o q (.slice none 0 0) []:=.inl ⟨rfl,rfl⟩
theorem sR.fr {x:Value}{l:List OC}{ps:List Int}(h:sR H o q x l)(f:Fr H o H' o' ps)(hp:q ∉ ps):sR H' o' q x l:=by
 rcases h with h|⟨i,cap,rest,ty,h1,h2,h3,h4⟩
 ·exact .inl h
 ·exact .inr ⟨i,cap,rest,ty,h1,by rw[f.same i (aq h2) (by rw[h4];exact hp)];exact h2,h3,by rw[f.own i (aq h2)];exact h4⟩
theorem sR.isSlice {x:Value}{l:List OC}(h:sR H o q x l): ∃a c,x= .slice a l.length c:=by
 rcases h with⟨rfl,rfl⟩|⟨i,cap,rest,ty,rfl,_⟩
 ·exact⟨_,_,rfl⟩
 ·exact⟨_,_,rfl⟩
theorem sR.len {x:Value}{l:List OC}(h:sR H o q x l):cq x=some (cv l.length):=by
 obtain⟨a,c,rfl⟩:=h.isSlice;rfl
theorem sR.jd {x:Value}{l:List OC}(h:sR H o q x l):jd x x=true:=by
 rcases h with⟨rfl,rfl⟩|⟨i,cap,rest,ty,rfl,_⟩
 ·rfl
 ·simp[Go.Proofs.YtjgmnoaalbbonaaGreatA.Am.jd,n8]
def Tr (H:ae)(x:Value)(l:List OC):Prop:=∃a c,x= .slice a l.length c∧bp H 8 l.length x=some (qp l)
theorem sR.src {x:Value}{l:List OC}(h:sR H o q x l):Tr H x l:=by
 rcases h with⟨rfl,rfl⟩|⟨i,cap,rest,ty,rfl,h2,h3,h4⟩
 ·exact⟨_,_,rfl,rfl⟩
 ·refine⟨_,_,rfl,?_⟩;by_cases e:l.length=0
  ·have:l=[]:=by simpa using e
   subst this;rfl
  ·have l0:=mr l;simp only[bp,e,if_false,aA,h2];rw[if_pos (by rw[List.length_append];omega),List.drop_zero,List.take_left' (by omega)]
theorem sR.LW {x:Value}{l:List OC}(h:sR H o q x l){n:Nat}(hn:n≤l.length): ∃y,dD 8 H x none (some (cv n))=some y∧Tr H y (l.take n):=by
 rcases h with⟨rfl,rfl⟩|⟨i,cap,rest,ty,rfl,h2,h3,h4⟩
 ·have:n=0:=by simpa using hn
  subst this;exact⟨_,rfl,_,_,rfl,rfl⟩
 ·have l0:=mr l;refine⟨.slice (some ⟨i,0,none⟩) n cap,?_,⟨some ⟨i,0,none⟩,cap,by simp;omega,?_⟩⟩
  ·simp[dD,cK,iV,h2];omega
  ·have e:(l.take n).length=n:=by simp;omega
   rw[e];by_cases e0:n=0
   ·subst e0;rfl
   ·simp only[bp,e0,if_false,aA,h2];rw[if_pos (by rw[List.length_append];omega),List.drop_zero,show n*8=8*n by omega,List.take_append_of_le_length (by omega),Iz]
theorem sR.uQ {x:Value}{l:List OC}(h:sR H o q x l){n:Nat}(hn:n≤l.length): ∃y,dD 8 H x (some (cv n)) none=some y∧Tr H y (l.drop n):=by
 rcases h with⟨rfl,rfl⟩|⟨i,cap,rest,ty,rfl,h2,h3,h4⟩
 ·have:n=0:=by simpa using hn
  subst this;exact⟨_,rfl,_,_,rfl,rfl⟩
 ·have l0:=mr l;refine⟨.slice (some ⟨i,n*8,none⟩) (l.length-n) (cap-n),?_,⟨some ⟨i,n*8,none⟩,cap-n,by simp,?_⟩⟩
  ·have:(n:Int)≤(l.length:Int):=by omega
   have:l.length≤cap:=by omega
   simp[dD,cK,iV,h2, *]
  ·have e:(l.drop n).length=l.length-n:=by simp
   rw[e];by_cases e0:l.length-n=0
   ·have:l.drop n=[]:=List.drop_eq_nil_of_le (by omega)
    simp only[bp,e0,if_true,this];rfl
   ·simp only[bp,e0,if_false,aA,h2];rw[if_pos (by rw[List.length_append];omega),List.drop_append_of_le_length (by omega),show n*8=8*n by omega,B8,List.take_left' (by rw[mr];simp;omega)]
theorem sR.app {x y:Value}{l m:List OC}(t:TypeId)(h:sR H o q x l)(hy:Tr H y m)(hb:l.length+m.length≤4294967296):
  ∃x' H' o',cd t 8 96 x y H=some (x',H')∧sR H' o' q x' (l++m)∧Fr H o H' o' [q]∧(∀i,(∀n k,x≠ .slice (some ⟨i,0,none⟩) n k)→i<H.length→H'[i]? =H[i]? ∧∀n k,x'≠ .slice (some ⟨i,0,none⟩) n k):=by
 obtain⟨b,c,rfl,hc⟩:=hy;by_cases hm:m=[]
 ·subst hm;refine⟨x,H,o,?_,by simpa using h,.refl _ _ _,λi hi _=>⟨rfl,hi⟩⟩
  rcases h with⟨rfl,rfl⟩|⟨i,cap,rest,ty,rfl,h2,h3,h4⟩
  ·simp only[cd,hc,Option.map_some];simp
  ·simp only[cd,hc,Option.map_some];rw[if_pos (by simp;omega)];simp
 have Ey:m.length≠0:=by simpa using hm
 have lm:=mr m;rcases h with⟨rfl,rfl⟩|⟨i,cap,rest,ty,rfl,h2,h3,h4⟩
 ·refine⟨.slice (some ⟨H.length,0,none⟩) m.length m.length,H.new ⟨qp m,t,8,false⟩,o.up H.length q,?_,?_,(Fr.refl _ _ _).new _ _,λi _ hi=>⟨dh hi,λn k e=>by cases e;omega⟩⟩
  ·simp only[cd,hc,Option.map_some];rw[if_neg (by omega),if_pos (by simp;simp at hb;omega)]
   simp
  ·exact .inr ⟨H.length,m.length,[],t,by simp,by simpa using az,by simp,aQ⟩
 ·have hql:=aq h2;have ll:=mr l;by_cases iN:l.length+m.length≤cap
  ·refine⟨.slice (some ⟨i,0,none⟩) (l++m).length cap,H.put i ⟨qp (l++m)++rest.drop (8*m.length),ty,8,false⟩,o,?_,?_,(Fr.refl _ _ _).put (λ_=>by simp[h4]),λj hj _=>⟨cU (by rintro rfl;exact hj _ _ rfl),λn k e=>by cases e;exact hj _ _ rfl⟩⟩
   ·simp only[cd,hc,Option.map_some];rw[if_pos iN,if_neg Ey];simp only[h2,if_true,bG];rw[if_pos (by simp only[MV,List.length_append,lm,ll,Bool.not_false,Bool.true_and,Bool.and_true,decide_eq_true_eq];omega)]
    have e:=jO (qp m) (qp l) rest (by rw[lm];omega)
    rw[ll,lm] at e;simp only[Nat.zero_add,show l.length*8=8*l.length by omega,e,Option.map_some,Gr,List.length_append]
   ·exact .inr ⟨i,cap,rest.drop (8*m.length),ty,rfl,aH h2,by simp;omega,h4⟩
  ·refine⟨.slice (some ⟨H.length,0,none⟩) (l++m).length (l++m).length,(H.kill i).new ⟨qp (l++m),t,8,false⟩,o.up H.length q,?_,?_,?_,?_⟩
   ·simp only[cd,hc,Option.map_some];rw[if_neg iN,if_pos (by simp;omega)]
    simp only[h2];rw[if_pos (by simp[ll];omega)]
    have e:aA H i 0 (l.length*8)=some (qp l):=by
     simp only[aA,h2];rw[if_pos (by rw[List.length_append];omega),List.drop_zero,List.take_left' (by omega)]
    simp only[e,Gr,List.length_append]
   ·have:=az (H:=H.kill i) (c:=⟨qp (l++m),t,8,false⟩)
    rw[dt] at this;exact .inr ⟨H.length,(l++m).length,[],t,rfl,by simpa using this,by simp,aQ⟩
   ·have:=((Fr.refl H o [q]).kill (i:=i) (λ_=>by simp[h4])).new ⟨qp (l++m),t,8,false⟩ q
    rw[dt] at this;exact this
   ·intro j hj Cz;exact⟨by rw[dh (by rw[dt];exact Cz),oq (by rintro rfl;exact hj _ _ rfl)],λn k e=>by cases e;omega⟩
theorem sR.idx {x:Value}{l:List OC}(h:sR H o q x l){j:Nat}{z:OC}(hj:l[j]? =some z):
  ∃i b,(∀H',bP 8 x (cv j) H'=some (.pointer (some ⟨i,8*j,none⟩),H'))∧H.get i=some b∧o i=q∧(∀k,k<8→b.cells[8*j+k]? =(dU z)[k]?)∧b.ro=false∧8*j+8≤b.cells.length∧
   ∀(k:Nat) (v:Value) (z':OC),k<8→(dU z).set k v=dU z'→sR (H.put i {b with cells:=b.cells.set (8*j+k) v}) o q x (l.set j z'):=by
 have Cz:j<l.length:=(List.getElem?_eq_some_iff.1 hj).1;rcases h with⟨rfl,rfl⟩|⟨i,cap,rest,ty,rfl,h2,h3,h4⟩
 ·simp at Cz
 ·have hl:=mr l;have IZ:=acS hj rest;refine⟨i,_,λH'=>?_,h2,h4,λk hk=>?_,rfl,by simp;omega,λk v z' hk he=>.inr ⟨i,cap,rest,ty,by simp,?_,by simpa using h3,h4⟩⟩
  ·simp only[bP];rw[if_pos (by constructor<;>omega)];simp<;>omega
  ·rw[←IZ,List.getElem?_take,if_pos hk,List.getElem?_drop]
  ·have:(qp l++rest).set (8*j+k) v=qp (l.set j z')++rest:=by
    rw[List.set_append,if_pos (by rw[hl];omega),MW z' k v hj hk he]
   simp only[this];exact aH h2
end
end Go.Proofs.YtjgmnoaalbbonaaGreat.Fun
namespace Go.Proofs.YtjgmnoaalbbonaaGreat.Fun
open Go Go.RowKit Go.Proofs.YtjgmnoaalbbonaaGreatA.Am
set_option maxRecDepth 10000
def Tt (H:ae)(o:an)(u:Nat)(ws:Value)(ms:List PL):Prop:=
 ∃wl b,Sl H o (-1000-u) ws wl b∧wl.length=ms.length∧∀(i:Nat) (v:Value) (m:PL),wl[i]? =some v→ms[i]? =some m→ee H o (-44) v m
theorem Tt.fr {H H':ae}{o o':an}{u:Nat}{ws:Value}{ms:List PL}{ps:List Int}(h:Tt H o u ws ms)(f:Fr H o H' o' ps)(h1:(-1000-(u:Int)) ∉ ps)(h2:(-44:Int) ∉ ps):Tt H' o' u ws ms:=by
 obtain⟨wl,b,g1,g2,g3⟩:=h;exact⟨wl,b,g1.fr f h1,g2,λi v m e1 e2=>(g3 i v m e1 e2).fr f h2⟩
structure OpR (H:ae) (o:an) (ms:List PL) (z:OC):Prop where
 was:Tt H o z.uid z.ws.v (ms.drop z.call.sO)
 fh: ∀a,z.call.fh=some a→ee H o (-44) z.ah.v a∧q8 (aX a)∧a.length≤4194303
 kind:1≤z.call.op.kind∧z.call.op.kind≤10
theorem OpR.fr {H H':ae}{o o':an}{ms:List PL}{z:OC}{ps:List Int}(h:OpR H o ms z)(f:Fr H o H' o' ps)(h1:(-1000-(z.uid:Int)) ∉ ps)(h2:(-44:Int) ∉ ps):OpR H' o' ms z:=
 ⟨h.was.fr f h1 h2,λa ha=>⟨(h.fh a ha).1.fr f h2,(h.fh a ha).2⟩,h.kind⟩
def sD (l:List OC)(t:Int):Option Nat:=l.findIdx? λz=>z.aV==t
section
variable {G:ag} {H:ae} {o:an} {q:Int} {n:Nat}
theorem D5 {x:Value}{l:List OC}(h:sR H o q x l)(hl:l.length≤65536)(t:Int)(hn:65536<n):run G (n+1) 31 [x,cv t] H=some (cv (match sD l t with|some j=>(j:Int)|none=> -1),H):=by
 rw[aaK];have jm:=h.len;obtain⟨r,iL,eC,r1,hr⟩:=iy (step:=Kk (run G n) n)
  (Q:=λm vs H'=>H'=H∧∃(i:Nat) (d9 d18:Value),i≤l.length∧m=l.length-i∧vs=[x,cv t,cv 0,cv i,d9,d18]∧∀j (hj:j<l.length),j<i→l[j].aV≠t)
  (R:=λr=>r.2.2=H∧((r.1= .exit 0∧(∃d5 d9 d18,r.2.1=[x,cv t,cv 0,d5,d9,d18])∧sD l t=none)∨(r.1= .ret∧∃(j:Nat) (d5 d9 d18:Value),r.2.1=[x,cv t,cv j,d5,d9,d18]∧sD l t=some j)))
  (by
   rintro m vs H' ⟨rfl,i,d9,d18,hi,rfl,rfl,uj⟩;by_cases dH:i<l.length
   ·have h1:(i:Int)<l.length:=by omega
    obtain⟨ib,b,fq,hb,_,hc,_⟩:=h.idx (List.getElem?_eq_getElem dH);have fN:au (.pointer (some ⟨ib,8*i,none⟩)) H'=some (cv l[i].aV):=by rw[ak _ _ _ hb];exact hc 0 (by omega)
    have hw:IntKind.i64.wrap ((i:Int)+1)=((i+1:Nat):Int):=by rw[jE (by omega)];omega
    by_cases he:l[i].aV=t
    ·refine .inr ⟨(.ret,[x,cv t,cv i,cv i,.bool true,.bool true],H'),?_,by simp,rfl,.inr ⟨rfl,i,_,_,_,rfl,?_⟩⟩
     ·simp -implicitDefEqProofs [AM,ve,jm,aE,h1,fq,ax,fN,aF,he,fin]
     ·unfold sD;rw[List.findIdx?_eq_some_iff_getElem];exact⟨dH,by simp[he],λj hj=>by simpa using uj j (by omega) hj⟩
    ·refine .inl ⟨_,_,l.length-(i+1),by omega,?_,rfl,i+1,.bool true,.bool false,by omega,rfl,rfl,λj hj hji=>?_⟩
     ·simp -implicitDefEqProofs [-Int.natCast_add,AM,ve,jm,aE,h1,fq,ax,fN,aF,he,de,hw,fin]
     ·rcases Nat.lt_or_ge j i with g|g
      ·exact uj j hj g
      ·have:j=i:=by omega
       subst this;exact he
   ·have h1: ¬(i:Int)<l.length:=by omega
    refine .inr ⟨(.exit 0,[x,cv t,cv 0,cv i,.bool false,d18],H'),?_,by simp,rfl,.inl ⟨rfl,⟨_,_,_,rfl⟩,?_⟩⟩
    ·simp -implicitDefEqProofs [AM,ve,jm,aE,h1,fin]
    ·unfold sD;rw[List.findIdx?_eq_none_iff];intro z hz;obtain⟨j,hj,rfl⟩:=List.getElem_of_mem hz;simpa using uj j hj (by omega))
  (l.length-0) [x,cv t,cv 0,cv (0:Nat),undef,undef] H ⟨rfl,0,_,_,Nat.zero_le _,rfl,rfl,λj _ h=>by omega⟩ n (by omega)
 obtain⟨e,vs,H'⟩:=r;simp only at r1 hr;subst r1;simp only[Int.natCast_zero] at iL;rcases hr with⟨rfl,⟨d5,d9,d18,rfl⟩,h3⟩|⟨rfl,j,d5,d9,d18,rfl,h3⟩
 ·rw[h3];simp -implicitDefEqProofs [F31,iL,RW,FD]
 ·rw[h3];simp -implicitDefEqProofs [F31,iL,dr,dv,up,qP,qO,xO];rfl
theorem xx (op:jZ)(H:ae): ∃H',run G (n+1) 57 [iG op] H=some (.bool (decide (1≤op.kind)&&decide (op.kind≤3)),H')∧Ext H H':=by
 rw[abX];have b1:=tJ op H;obtain⟨H1,e1⟩: ∃z,z=H.new ⟨[cv op.kind,cv op.key,cv op.value],39,1,false⟩:=⟨_,rfl⟩;rw[←e1] at b1;have x1:Ext H H1:=by rw[e1];exact(Ext.refl H).new _
 have g1:H1.get H.length=some ⟨[cv op.kind,cv op.key,cv op.value],39,1,false⟩:=by rw[e1];exact az
 have P0:au (pv H.length) H1=some (cv op.kind):=ak H.length 0 H1 g1;refine⟨H1,?_,x1⟩;by_cases k1:op.kind≥1
 ·have k1':(1:Int)≤op.kind:=k1;simp -implicitDefEqProofs [-ge_iff_le,F57,b1,ax,P0,fp,hP,k1,k1',ar]
 ·have k1': ¬(1:Int)≤op.kind:=k1;simp -implicitDefEqProofs [-ge_iff_le,F57,b1,ax,P0,fp,hP,k1,k1',ar]
theorem ae1 (z:OC)(H:ae):cB 87 (.agg (dU z).toArray) H=some (pv H.length,H.new ⟨dU z,87,1,false⟩):=by
 simp[cB,Value.cells,aD,aO]
theorem Tu {z:OC}{r:dF}{s v:Value}{ml:PL}{H2 H':ae}{o2:an}{b1 b2 iq io:Nat}{t1 t2:TypeId}{i wn:Nat}{v0 v1 v8 v23 v32 v36 v41 v6 v70 v73:Value}(ex:Ext H2 H')(g1:H2.get b1=some ⟨jI r s,t1,1,false⟩)(g2:H2.get b2=some ⟨dU z,t2,1,false⟩)(hs:ee H2 o2 q s r.list)(hr:r.list.length≤4194304)(hi:i<wn)(Yv:wn≤65536)(Yw:cq z.ws.v=some (cv wn))(fq: ∀Hx,bP 1 z.ws.v (cv i) Hx=some (.pointer (some ⟨iq,io,none⟩),Hx))(hiq:iq<H2.length)(fN: ∀Hx,Ext H2 Hx→au (.pointer (some ⟨iq,io,none⟩)) Hx=some v)(hv:ee H2 o2 (-44) v ml)(hA:q8 (aX ml))(hM:ml.length≤4194303)(k2: ¬z.call.op.kind=2)(hn:4194304<n):
  ∃jQ w41 w6 w70 w73,Ext H2 jQ∧((!nU ml z.call.op&&du r (jf ml z.call.op))=false∧wF (run G (n+5)) (n+5) [v0,v1,.bool false,pv b2,v8,pv b1,v23,v32,v36,cv i,v41,v6,v70,v73] H'=some (.normal,[v0,v1,.bool false,pv b2,v8,pv b1,v23,v32,v36,cv (i+1:Nat),w41,w6,w70,w73],jQ)∨
   (!nU ml z.call.op&&du r (jf ml z.call.op))=true∧wF (run G (n+5)) (n+5) [v0,v1,.bool false,pv b2,v8,pv b1,v23,v32,v36,cv i,v41,v6,v70,v73] H'=some (.ret,[v0,v1,.bool true,pv b2,v8,pv b1,v23,v32,v36,cv i,w41,w6,w70,w73],jQ)):=by
 obtain⟨a,m',es⟩:=hs.isSlice;have h1:(i:Int)<wn:=by omega
 obtain⟨Hh,eh⟩: ∃t,t=H'.dy 1:=⟨_,rfl⟩;have xh:Ext H' Hh:=by rw[eh];exact⟨λj hj=>tw hj,by rw[ou];omega⟩
 have lh:Hh.length=H'.length+1:=by rw[eh,ou]
 have hole:Hh[H'.length]? =some .hole:=by rw[eh];exact rM
 have xz:=ex.trans xh;obtain⟨y,H8,r8,⟨sa,ey,ha⟩,x8⟩:=vA (G:=G) (n:=n+1) (hv.fr (xz.fr o2 0) (by simp)) hM z.call.op (by omega)
 have ea:PG ml z.call.op=jf ml z.call.op:=by unfold PG;rw[if_pos hA]
 rw[ea] at ey ha;subst ey;obtain⟨aa,ma,esa⟩:=ha.isSlice;obtain⟨H9,e9⟩: ∃t:ae,t=H8.set H'.length (.hZ ⟨[cv 0,.bool false,cv 0,cv 0,cv 0,aB],45,1,false⟩):=⟨_,rfl⟩;have ae2:H8[H'.length]? =some .hole:=by rw[x8.old _ (by omega)];exact hole
 have lay:CL (H'.length+0) (some (λi=>Value.pointer (some ⟨i,0,none⟩),(⟨[cv 0,.bool false,cv 0,cv 0,cv 0,aB],45,1,false⟩:eY))) H8=some (pv H'.length,H9):=by rw[e9];exact yw ae2
 rw[Nat.add_zero] at lay;have g9:H9.get H'.length=some ⟨[cv 0,.bool false,cv 0,cv 0,cv 0,aB],45,1,false⟩:=by rw[e9];exact mg (by have:=x8.size;omega)
 have st:=tK H'.length (jf ml z.call.op) esa H9 g9 rfl;obtain⟨Lc,e10⟩: ∃t,t=H9.put H'.length ⟨jI (jf ml z.call.op) sa,45,1,false⟩:=⟨_,rfl⟩;rw[←e10] at st;have g10:Lc.get H'.length=some ⟨jI (jf ml z.call.op) sa,45,1,false⟩:=by rw[e10];exact aH g9
 have Yx: ∀j,j≠H'.length→Lc[j]? =H8[j]? :=λj hj=>by rw[e10,cU hj,e9,hX hj]
 have aK:Ext H' Lc:=⟨λj hj=>by rw[Yx j (by omega),x8.old j (by omega),xh.old j hj],by rw[e10,iw,e9,List.length_set];have:=x8.size;omega⟩
 have wN:=ex.trans aK;have agT:ee Lc (nw Hh.length) 1 sa (jf ml z.call.op).list:=ha.mv λj hj ho=>⟨cT (Yx j (by have:=BX.1 ho;omega)),ho⟩
 have K1:au (.pointer (some ⟨H'.length,1,none⟩)) Lc=some (.bool (jf ml z.call.op).found):=ak H'.length 1 Lc g10;have Z7: ∀Hx,Ext H2 Hx→au (.pointer (some ⟨b2,7,none⟩)) Hx=some z.ws.v:=λHx hx=>ak _ 7 _ (hx.get g2)
 have Z2: ∀Hx,Ext H2 Hx→au (.pointer (some ⟨b2,2,none⟩)) Hx=some (cv z.call.op.kind):=λHx hx=>ak _ 2 _ (hx.get g2)
 have ZO: ∀Hx,Ext H2 Hx→bV 3 (.pointer (some ⟨b2,2,none⟩)) Hx=some (iG z.call.op):=λHx hx=>by simp[bV,aA,hx.get g2]
 have xC:=xz.trans x8;have ex9: ∀j:Nat,j<H2.length→H9[j]? =H2[j]? :=λj hj=>by
  have:=ex.size
  rw[e9,hX (by omega),xC.old j hj]
 have mu:Ext H2 H9:=⟨ex9,by rw[e9,List.length_set];exact xC.size⟩
 have Ct:=vB z.call.op;have Yy:jd z.ws.v z.ws.v=true:=by simp[Go.Proofs.YtjgmnoaalbbonaaGreatA.Am.jd,n8]
 have Yz:jd v v=true:=hv.jd;have hw:IntKind.i64.wrap ((i:Int)+1)=((i+1:Nat):Int):=by rw[jE (by omega)];omega
 have R0:=jR _ _ _ (wN.get g1);have Ra:=jR _ _ _ g10;have Gs:(z.call.op.kind=1∨z.call.op.kind=3)→(jf ml z.call.op).found=ef ml z.call.op.key:=λhk=>by
  unfold jf;rw[if_pos (by omega)]
  unfold kr;cases hm:ef ml z.call.op.key<;>simp[bZ]
 obtain⟨H11,YA,aU⟩:=pI (G:=G) (n:=n+3) (x:=c8 r s) ⟨s,rfl,hs.fr (wN.fr o2 0) (by simp)⟩ (y:=c8 (jf ml z.call.op) sa) (rb:=jf ml z.call.op) ⟨sa,rfl,agT⟩ (by omega) (by omega)
 by_cases ht:nU ml z.call.op=true
 ·have jS:(z.call.op.kind=1∧(jf ml z.call.op).found=false)∨(¬z.call.op.kind=1∧z.call.op.kind=3∧(jf ml z.call.op).found=true):=by
   unfold nU at ht;by_cases c1:z.call.op.kind=1
   ·rw[if_pos c1] at ht;exact .inl ⟨c1,by rw[Gs (.inl c1)];simpa using ht⟩
   ·rw[if_neg c1] at ht;by_cases c3:z.call.op.kind=3
    ·rw[if_pos c3] at ht;exact .inr ⟨c1,c3,by rw[Gs (.inr c3)];exact ht⟩
    ·rw[if_neg c3] at ht;simp at ht;exact absurd ht k2
  refine⟨Lc,.bool true,pv H'.length,.bool true,v73,wN,.inl ⟨by rw[ht];rfl,?_⟩⟩
  rcases jS with⟨c1,hf⟩|⟨c1,c3,hf⟩
  ·rw[hf] at K1;simp -implicitDefEqProofs [-Int.natCast_add,kq,kp,ax,Z7 H' ex,Yw,aE,h1,iZ, ←eh,Z7 Hh xz,Z7 H8 xC,Z7 H9 mu,fq,fN Hh xz,fN H8 xC,fN H9 mu,ZO Hh xz,ZO H8 xC,ZO H9 mu,r8,lay,st,Ct,Yy,Yz,Z2 Lc wN,aF,c1,K1,aS,ar,qY,pE,de,hw,fin]
  ·rw[hf] at K1;simp -implicitDefEqProofs [-Int.natCast_add,kq,kp,ax,Z7 H' ex,Yw,aE,h1,iZ, ←eh,Z7 Hh xz,Z7 H8 xC,Z7 H9 mu,fq,fN Hh xz,fN H8 xC,fN H9 mu,ZO Hh xz,ZO H8 xC,ZO H9 mu,r8,lay,st,Ct,Yy,Yz,Z2 Lc wN,aF,c1,c3,K1,aS,ar,qY,pE,de,hw,fin]
 ·have Xm:nU ml z.call.op=false:=by simpa using ht
  have jS:(z.call.op.kind=1∧(jf ml z.call.op).found=true)∨(¬z.call.op.kind=1∧z.call.op.kind=3∧(jf ml z.call.op).found=false)∨(¬z.call.op.kind=1∧¬z.call.op.kind=3):=by
   unfold nU at Xm;by_cases c1:z.call.op.kind=1
   ·rw[if_pos c1] at Xm;exact .inl ⟨c1,by rw[Gs (.inl c1)];simpa using Xm⟩
   ·rw[if_neg c1] at Xm;by_cases c3:z.call.op.kind=3
    ·rw[if_pos c3] at Xm;exact .inr (.inl ⟨c1,c3,by rw[Gs (.inr c3)];exact Xm⟩)
    ·exact .inr (.inr ⟨c1,c3⟩)
  cases hq:du r (jf ml z.call.op) with
  |false=>
   rw[hq] at YA;refine⟨H11,.bool true,pv H'.length,.bool false,.bool false,wN.trans aU,.inl ⟨by simp,?_⟩⟩
   rcases jS with⟨c1,hf⟩|⟨c1,c3,hf⟩|⟨c1,c3⟩
   ·rw[hf] at K1;simp -implicitDefEqProofs [-Int.natCast_add,kq,kp,ax,Z7 H' ex,Yw,aE,h1,iZ, ←eh,Z7 Hh xz,Z7 H8 xC,Z7 H9 mu,fq,fN Hh xz,fN H8 xC,fN H9 mu,ZO Hh xz,ZO H8 xC,ZO H9 mu,r8,lay,st,Ct,Yy,Yz,Z2 Lc wN,aF,c1,K1,aS,ar,R0,Ra,YA,qY,pE,de,hw,fin]
   ·rw[hf] at K1;simp -implicitDefEqProofs [-Int.natCast_add,kq,kp,ax,Z7 H' ex,Yw,aE,h1,iZ, ←eh,Z7 Hh xz,Z7 H8 xC,Z7 H9 mu,fq,fN Hh xz,fN H8 xC,fN H9 mu,ZO Hh xz,ZO H8 xC,ZO H9 mu,r8,lay,st,Ct,Yy,Yz,Z2 Lc wN,aF,c1,c3,K1,aS,ar,R0,Ra,YA,qY,pE,de,hw,fin]
   ·simp -implicitDefEqProofs [-Int.natCast_add,kq,kp,ax,Z7 H' ex,Yw,aE,h1,iZ, ←eh,Z7 Hh xz,Z7 H8 xC,Z7 H9 mu,fq,fN Hh xz,fN H8 xC,fN H9 mu,ZO Hh xz,ZO H8 xC,ZO H9 mu,r8,lay,st,Ct,Yy,Yz,Z2 Lc wN,aF,c1,c3,K1,aS,ar,R0,Ra,YA,qY,pE,de,hw,fin]
  |true=>
   rw[hq] at YA;refine⟨H11,.bool true,pv H'.length,.bool false,.bool true,wN.trans aU,.inr ⟨by rw[Xm];rfl,?_⟩⟩
   rcases jS with⟨c1,hf⟩|⟨c1,c3,hf⟩|⟨c1,c3⟩
   ·rw[hf] at K1;simp -implicitDefEqProofs [-Int.natCast_add,kq,kp,ax,Z7 H' ex,Yw,aE,h1,iZ, ←eh,Z7 Hh xz,Z7 H8 xC,Z7 H9 mu,fq,fN Hh xz,fN H8 xC,fN H9 mu,ZO Hh xz,ZO H8 xC,ZO H9 mu,r8,lay,st,Ct,Yy,Yz,Z2 Lc wN,aF,c1,K1,aS,ar,R0,Ra,YA,fin]
   ·rw[hf] at K1;simp -implicitDefEqProofs [-Int.natCast_add,kq,kp,ax,Z7 H' ex,Yw,aE,h1,iZ, ←eh,Z7 Hh xz,Z7 H8 xC,Z7 H9 mu,fq,fN Hh xz,fN H8 xC,fN H9 mu,ZO Hh xz,ZO H8 xC,ZO H9 mu,r8,lay,st,Ct,Yy,Yz,Z2 Lc wN,aF,c1,c3,K1,aS,ar,R0,Ra,YA,fin]
   ·simp -implicitDefEqProofs [-Int.natCast_add,kq,kp,ax,Z7 H' ex,Yw,aE,h1,iZ, ←eh,Z7 Hh xz,Z7 H8 xC,Z7 H9 mu,fq,fN Hh xz,fN H8 xC,fN H9 mu,ZO Hh xz,ZO H8 xC,ZO H9 mu,r8,lay,st,Ct,Yy,Yz,Z2 Lc wN,aF,c1,c3,K1,aS,ar,R0,Ra,YA,fin]
theorem PN {ms:List PL}{z:OC}{r:dF}{s:Value}(hz:OpR H o ms z)(hA: ∀m∈ms,q8 (aX m))(hM: ∀m∈ms,m.length≤4194303)(yU:ms.length≤65536)(hs:ee H o q s r.list)(hr:r.list.length≤4194304)(hn:4194304<n):
  ∃H',run G (n+6) 34 [c8 r s,.agg (dU z).toArray] H=some (.bool (may ms z.call r),H')∧Ext H H':=by
 rw[abc];obtain⟨a,m',es⟩:=hs.isSlice;obtain⟨H1,e1⟩: ∃t,t=H.new ⟨jI r s,45,1,false⟩:=⟨_,rfl⟩;have b1:=PH r es H;rw[←e1] at b1;have l1:H1.length=H.length+1:=by rw[e1,bh]
 obtain⟨H2,e2⟩: ∃t,t=H1.new ⟨dU z,87,1,false⟩:=⟨_,rfl⟩;have b2:=ae1 z H1;rw[←e2,l1] at b2;have x2:Ext H H2:=by rw[e2,e1];exact((Ext.refl H).new _).new _
 have g1:H2.get H.length=some ⟨jI r s,45,1,false⟩:=by rw[e2,cr (by omega),e1];exact az
 have g2:H2.get (H.length+1)=some ⟨dU z,87,1,false⟩:=by
  have:=az (H:=H1) (c:=⟨dU z,87,1,false⟩)
  rw[l1, ←e2] at this;exact this
 have f2:=x2.fr o (-9);have I0:=hz.fr f2 (by simp) (by simp)
 have vV:=hs.fr f2 (by simp)
 have evR:=Iv r es;have Ct:=vB z.call.op;have Z5: ∀Hx,Ext H2 Hx→au (.pointer (some ⟨H.length+1,5,none⟩)) Hx=some (.bool z.call.fh.isSome):=λHx hx=>ak _ 5 _ (hx.get g2)
 have Z6: ∀Hx,Ext H2 Hx→au (.pointer (some ⟨H.length+1,6,none⟩)) Hx=some z.ah.v:=λHx hx=>ak _ 6 _ (hx.get g2)
 have Z7: ∀Hx,Ext H2 Hx→au (.pointer (some ⟨H.length+1,7,none⟩)) Hx=some z.ws.v:=λHx hx=>ak _ 7 _ (hx.get g2)
 have Z2: ∀Hx,Ext H2 Hx→au (.pointer (some ⟨H.length+1,2,none⟩)) Hx=some (cv z.call.op.kind):=λHx hx=>ak _ 2 _ (hx.get g2)
 have ZO: ∀Hx,Ext H2 Hx→bV 3 (.pointer (some ⟨H.length+1,2,none⟩)) Hx=some (iG z.call.op):=λHx hx=>by simp[bV,aA,hx.get g2]
 have R0: ∀Hx,Ext H2 Hx→bV 6 (pv H.length) Hx=some (c8 r s):=λHx hx=>jR _ _ _ (hx.get g1)
 have ri:Ext H2 H2:=.refl _;unfold may;cases ht:z.call.fh with
 |some w=>
  obtain⟨ha,lV,UD⟩:=I0.fh w ht;obtain⟨y,H3,r3,R3,x3⟩:=vA (G:=G) (n:=n+1) ha UD z.call.op (by omega)
  have ea:PG w z.call.op=jf w z.call.op:=by unfold PG;rw[if_pos lV]
  rw[ea] at R3;obtain⟨H4,r4,x4⟩:=pI (G:=G) (n:=n+3) (x:=c8 r s) ⟨s,rfl,vV.ext x3⟩ R3 (by omega) (by omega)
  refine⟨H4,?_,(x2.trans x3).trans x4⟩;have UE:=Z5 H2 ri;rw[ht] at UE;simp -implicitDefEqProofs [Yl,b1,b2,ax,UE,Z6 H2 ri,R0 H2 ri,R0 H3 x3,ZO H2 ri,r3,r4,evR]
 |none=>
  have UE:=Z5 H2 ri;rw[ht] at UE;obtain⟨H3,r3,x3⟩:=xx (G:=G) (n:=n+4) z.call.op H2;have hk:=hz.kind;have k1:(1:Int)≤z.call.op.kind:=hk.1;rw[show(decide (1≤z.call.op.kind)&&decide (z.call.op.kind≤3))=decide (z.call.op.kind≤3) by simp[k1]] at r3
  have always: ∀(w:Int) (Hx:ae),Ext H2 Hx→∃Hy,run G (n+5) 11 [c8 r s,c8 (eJ w) aB] Hx=some (.bool (du r (eJ w)),Hy)∧Ext H2 Hy:=λw Hx hx=>by
   obtain⟨Hy,ry,xy⟩:=pI (G:=G) (n:=n+3) (x:=c8 r s) ⟨s,rfl,vV.ext hx⟩ (y:=c8 (eJ w) aB) (rb:=eJ w) (o2:=o) (q2:=0) ⟨aB,rfl,.nil⟩ (by omega) (by omega)
   exact⟨Hy,ry,hx.trans xy⟩
  obtain⟨H4,r4,x4⟩:=always 8 H3 x3;have first: ∃H5,Ext H2 H5∧(if z.call.op.kind≤3 then H5=H4 else H5=H3):=by
   by_cases h3:z.call.op.kind≤3
   ·exact⟨H4,x4,by rw[if_pos h3]⟩
   ·exact⟨H3,x3,by rw[if_neg h3]⟩
  obtain⟨H5,x5,e5⟩:=first
  obtain⟨H6,r6,x6⟩:=always 9 H5 x5;have second: ∃H7,Ext H2 H7∧(if z.call.op.kind≥5 then H7=H6 else H7=H5):=by
   by_cases h3:z.call.op.kind≥5
   ·exact⟨H6,x6,by rw[if_pos h3]⟩
   ·exact⟨H5,x5,by rw[if_neg h3]⟩
  obtain⟨H7,x7,e7⟩:=second;have a3:=R0 H3 x3;have a5:=R0 H5 x5;have q3:=Z2 H3 x3;have q4:=Z2 H4 x4;have q5:=Z2 H5 x5;have q6:=Z2 H6 x6;have q7:=Z2 H7 x7;have e9:decide (z.call.op.kind>4)=decide (z.call.op.kind≥5):=by
   rw[decide_eq_decide];constructor<;>intro h<;>omega
  rw[e9];by_cases c1:z.call.op.kind≤3∧du r (eJ 8)=true
  ·rw[c1.2] at r4;refine⟨H4,?_,x2.trans x4⟩;simp -implicitDefEqProofs [-ge_iff_le,Yl,b1,b2,ax,UE,ZO H2 ri,r3,ar,a3,a5,nV,q3,q4,q5,q6,q7,fp,aF,c1.1,c1.2,r4]
  have d1:(decide (z.call.op.kind≤3)&&du r (eJ 8))=false:=by
   cases hh:(decide (z.call.op.kind≤3)&&du r (eJ 8)) with
   |false=>rfl
   |true=>simp at hh;exact absurd hh c1
  rw[d1];simp only[Bool.false_eq_true,if_false];by_cases c2:z.call.op.kind≥5∧du r (eJ 9)=true
  ·have n3: ¬z.call.op.kind≤3:=by omega
   rw[if_neg n3] at e5;subst e5;rw[c2.2] at r6;refine⟨H6,?_,x2.trans x6⟩;simp -implicitDefEqProofs [-ge_iff_le,Yl,b1,b2,ax,UE,ZO H2 ri,r3,ar,a3,a5,nV,q3,q4,q5,q6,q7,fp,aF,n3,c2.1,c2.2,r6]
  have d2:(decide (z.call.op.kind≥5)&&du r (eJ 9))=false:=by
   cases hh:(decide (z.call.op.kind≥5)&&du r (eJ 9)) with
   |false=>rfl
   |true=>simp[-ge_iff_le] at hh;exact absurd hh c2
  rw[d2];simp only[Bool.false_eq_true,if_false];by_cases k2:z.call.op.kind=2
  ·have n3:z.call.op.kind≤3:=by omega
   have n5: ¬z.call.op.kind≥5:=by omega
   rw[if_pos n3] at e5;subst e5;rw[if_neg n5] at e7;subst e7;have f8:du r (eJ 8)=false:=by simpa[n3] using d1
   rw[f8] at r4;have Tv:((ms.drop z.call.sO).any λm=> !nU m z.call.op&&du r (jf m z.call.op))=false:=by
    rw[List.any_eq_false];intro m _;have:nU m z.call.op=true:=by unfold nU;rw[if_neg (by omega),if_neg (by omega)];simp[k2]
    rw[this];simp
   rw[Tv];refine⟨H7,?_,x2.trans x7⟩;simp -implicitDefEqProofs [-ge_iff_le,Yl,b1,b2,ax,UE,ZO H2 ri,r3,ar,a3,a5,nV,q3,q4,q5,q6,q7,fp,aF,n3,n5,k2,r4]
  obtain⟨wl,bw,nP,UD,GJ⟩:=I0.was;obtain⟨D,eD⟩: ∃D,D=ms.drop z.call.sO:=⟨_,rfl⟩;rw[←eD] at UD GJ ⊢;have hDm: ∀m∈D,m∈ms:=λm hm=>by rw[eD] at hm;exact List.mem_of_mem_drop hm
  have hDl:D.length≤65536:=by rw[eD];simp;omega
  have hlen:=nP.len;rw[UD] at hlen;have loop: ∀(bT cJ:Value),∃H',Ext H2 H'∧cI (iter (n+5) (wF (run G (n+5)) (n+5)) [c8 r s,.agg (dU z).toArray,.bool false,pv (H.length+1),.bool false,pv H.length,bT,cJ,.bool false,cv 0,undef,undef,undef,undef] H7) (dr 0 (dv (Kp (run G (n+5)) (n+5)) (eE Tryz.prog [.tmp 4] [0,1,4,3,8,2,23,32,36,5,41,6,70,73])))=
    some (.bool (D.any λm=> !nU m z.call.op&&du r (jf m z.call.op)),H'):=by
   intro bT cJ;obtain⟨r',iL,eC,x',Um⟩:=iy (step:=wF (run G (n+5)) (n+5))
    (Q:=λm vs H'=>∃(i:Nat) (d41 d6 d70 d73:Value),i≤D.length∧m=D.length-i∧vs=[c8 r s,.agg (dU z).toArray,.bool false,pv (H.length+1),.bool false,pv H.length,bT,cJ,.bool false,cv i,d41,d6,d70,d73]∧Ext H2 H'∧∀m∈D.take i,(!nU m z.call.op&&du r (jf m z.call.op))=false)
    (R:=λr'=>Ext H2 r'.2.2∧((r'.1= .exit 0∧(∃d5 d41 d6 d70 d73,r'.2.1=[c8 r s,.agg (dU z).toArray,.bool false,pv (H.length+1),.bool false,pv H.length,bT,cJ,.bool false,d5,d41,d6,d70,d73])∧∀m∈D,(!nU m z.call.op&&du r (jf m z.call.op))=false)∨
     (r'.1= .ret∧(∃d5 d41 d6 d70 d73,r'.2.1=[c8 r s,.agg (dU z).toArray,.bool true,pv (H.length+1),.bool false,pv H.length,bT,cJ,.bool false,d5,d41,d6,d70,d73])∧∃m∈D,(!nU m z.call.op&&du r (jf m z.call.op))=true)))
    (by
     rintro m vs H' ⟨i,d41,d6,d70,d73,hi,rfl,rfl,ex,fE⟩;by_cases dH:i<D.length
     ·have hDi:D[i]? =some D[i]:=List.getElem?_eq_getElem dH;obtain⟨v,hv⟩: ∃v,wl[i]? =some v:=⟨_,List.getElem?_eq_getElem (by omega)⟩
      have hvR:=GJ i v D[i] hv hDi;obtain⟨iq,hbq,fq,fN⟩:=nP.idx hv;have hiq:=(nP.Rh hbq).1;have sY:=hDm _ (List.getElem_mem dH);obtain⟨jQ,w41,w6,w70,w73,ae3,h|h⟩:=Tu (G:=G) (n:=n) (v0:=c8 r s) (v1:=.agg (dU z).toArray) (v8:=.bool false) (v23:=bT) (v32:=cJ) (v36:=.bool false) (v41:=d41) (v6:=d6) (v70:=d70) (v73:=d73) ex g1 g2 vV hr dH hDl hlen fq hiq (λHx hx=>fN Hx (hx.old iq hiq)) hvR (hA _ sY) (hM _ sY) k2 hn
      ·refine .inl ⟨_,jQ,D.length-(i+1),by omega,h.2,i+1,w41,w6,w70,w73,by omega,rfl,rfl,ae3,λm hm=>?_⟩
       rw[List.take_add_one,hDi] at hm;rcases List.mem_append.1 hm with hm|hm
       ·exact fE m hm
       ·have:m=D[i]:=by simpa using hm
        rw[this];exact h.1
      ·exact .inr ⟨_,h.2,by simp,ae3,.inr ⟨rfl,⟨_,_,_,_,_,rfl⟩,D[i],List.getElem_mem dH,h.1⟩⟩
     ·have h1: ¬(i:Int)<D.length:=by omega
      rw[List.take_of_length_le (by omega)] at fE
      refine .inr ⟨(.exit 0,[c8 r s,.agg (dU z).toArray,.bool false,pv (H.length+1),.bool false,pv H.length,bT,cJ,.bool false,cv i,.bool false,d6,d70,d73],H'),?_,by simp,ex,.inl ⟨rfl,⟨_,_,_,_,_,rfl⟩,fE⟩⟩
      simp -implicitDefEqProofs [kq,kp,ax,Z7 H' ex,hlen,aE,h1,fin])
    (D.length-0) [c8 r s,.agg (dU z).toArray,.bool false,pv (H.length+1),.bool false,pv H.length,bT,cJ,.bool false,cv (0:Nat),undef,undef,undef,undef] H7 ⟨0,_,_,_,_,Nat.zero_le _,rfl,rfl,x7,λm hm=>by simp at hm⟩ (n+5) (by omega)
   obtain⟨e,vs,H'⟩:=r';simp only at x' Um;simp only[Int.natCast_zero] at iL;refine⟨H',x',?_⟩;rcases Um with⟨rfl,⟨d5,d41,d6,d70,d73,rfl⟩,fE⟩|⟨rfl,⟨d5,d41,d6,d70,d73,rfl⟩,m,hm,Xm⟩
   ·have Tv:(D.any λm=> !nU m z.call.op&&du r (jf m z.call.op))=false:=by
     rw[List.any_eq_false];intro m hm;rw[fE m hm];simp
    rw[Tv];simp -implicitDefEqProofs [iL,dr,dv,up,Sh,FQ]
   ·have Tv:(D.any λm=> !nU m z.call.op&&du r (jf m z.call.op))=true:=List.any_eq_true.2 ⟨m,hm,Xm⟩
    rw[Tv];simp -implicitDefEqProofs [iL,dr,dv,up,qP,qO,xO];rfl
  generalize (D.any λm=> !nU m z.call.op&&du r (jf m z.call.op))=B at loop ⊢
  obtain⟨H8,x8,hl⟩:=loop (.bool false) (.bool false);refine⟨H8,?_,x2.trans x8⟩;by_cases n3:z.call.op.kind≤3
  ·have n5: ¬z.call.op.kind≥5:=by omega
   rw[if_pos n3] at e5;subst e5;rw[if_neg n5] at e7;subst e7;have f8:du r (eJ 8)=false:=by simpa[n3] using d1
   rw[f8] at r4;simp -implicitDefEqProofs [-ge_iff_le,Yl,b1,b2,ax,UE,ZO H2 ri,r3,ar,a3,a5,nV,q3,q4,q5,q6,q7,fp,aF,n3,n5,k2,r4,hl]
  ·rw[if_neg n3] at e5;subst e5;by_cases n5:z.call.op.kind≥5
   ·rw[if_pos n5] at e7;subst e7;have f9:du r (eJ 9)=false:=by
     cases hh:du r (eJ 9) with
     |false=>rfl
     |true=>exact absurd ⟨n5,hh⟩ c2
    rw[f9] at r6;simp -implicitDefEqProofs [-ge_iff_le,Yl,b1,b2,ax,UE,ZO H2 ri,r3,ar,a3,a5,nV,q3,q4,q5,q6,q7,fp,aF,n3,n5,k2,r6,hl]
   ·rw[if_neg n5] at e7;subst e7;simp -implicitDefEqProofs [-ge_iff_le,Yl,b1,b2,ax,UE,ZO H2 ri,r3,ar,a3,a5,nV,q3,q4,q5,q6,q7,fp,aF,n3,n5,k2,hl]
end
end Go.Proofs.YtjgmnoaalbbonaaGreat.Fun
namespace Go.Proofs.YtjgmnoaalbbonaaGreat.Fun
open Go Go.RowKit Go.Proofs.YtjgmnoaalbbonaaGreatA.Am
set_option maxRecDepth 10000
theorem ae4 {H:ae}{o:an}{q:Int}{x:Value}{l:PL}(h:ee H o q x l): ∃v:SV,x=v.v:=by
 obtain⟨a,c,rfl⟩:=h.isSlice;exact⟨⟨a,_,c⟩,rfl⟩
theorem sSV {H:ae}{o:an}{q:Int}{x:Value}{l:List Value}{b:Option Nat}(h:Sl H o q x l b): ∃v:SV,x=v.v:=by
 obtain⟨a,n,c,rfl⟩:=h.isSlice;exact⟨⟨a,n,c⟩,rfl⟩
theorem YB (s:SV)(H:ae):aw Tryz.prog 85 1 [(0,s.v)] H=some (.slice (some ⟨H.length,0,none⟩) 1 1,H.new ⟨[s.v],43,1,false⟩):=by kernel_rfl
section
variable {G:ag} {H:ae} {o:an} {q:Int} {n w:Nat}
def B9 (H:ae)(o:an)(ox:Value)(l:List OC)(ms:List PL)(new:PL)(i:Nat):Prop:=
 ∃li:List OC,sR H o (-41) ox li∧li.length=l.length∧∀(j:Nat) (z' z:OC),li[j]? =some z'→l[j]? =some z→z'.aV=z.aV∧z'.uid=z.uid∧z'.call=z.call∧
  Tt H o z.uid z'.ws.v (if j<i then(ms++[new]).drop z.call.sO else ms.drop z.call.sO)∧∀a,z.call.fh=some a→ee H o (-44) z'.ah.v a
theorem PO {H:ae}{o:an}{ox:Value}{sm:SV}{l:List OC}{ms:List PL}{new:PL}{i:Nat}{inv:Int}{ty:TypeId}(hb:H.get w=some ⟨[sm.v,ox,cv inv],ty,1,false⟩)(ow:o w= -40)(hm:ee H o (-44) sm.v new)(h:B9 H o ox l ms new i)(hi:i<l.length)(hl:l.length≤65536)(yU:ms.length≤65536)(Qb:(l.map λz=>z.uid).Nodup)(hf: ∀z∈l,z.call.sO≤ms.length){v1 v4 v3 v5 v53 v6 v8 v86 v120:Value}:
  ∃H' o' ps,BA (run G (n+7)) (n+7) [pv w,v1,v4,v3,v5,v53,v6,v8,v86,cv i,v120] H=some (.normal,[pv w,v1,v4,v3,v5,v53,v6,v8,v86,cv (i+1:Nat),.bool true],H')∧
   H'.get w=some ⟨[sm.v,ox,cv inv],ty,1,false⟩∧B9 H' o' ox l ms new (i+1)∧Fr H o H' o' ps∧(-1:Int) ∉ ps∧(-40:Int) ∉ ps∧(-44:Int) ∉ ps:=by
 obtain⟨li,Du,hlen,hli⟩:=h;obtain⟨z',Eo⟩: ∃z',li[i]? =some z':=⟨_,List.getElem?_eq_getElem (by omega)⟩
 obtain⟨z,hz⟩: ∃z,l[i]? =some z:=⟨_,List.getElem?_eq_getElem hi⟩;obtain⟨t1,t2,t3,⟨wl,bw,nP,UD,GJ⟩,t5⟩:=hli i z' z Eo hz;rw[if_neg (by omega)] at UD GJ
 have To:z∈l:=List.mem_of_getElem? hz;have hfz:=hf z To;have jm:=Du.len;rw[hlen] at jm;obtain⟨H1,e1⟩: ∃t,t=H.new ⟨[sm.v],43,1,false⟩:=⟨_,rfl⟩;have bs:=YB sm H;rw[←e1] at bs;have x1:Ext H H1:=by rw[e1];exact(Ext.refl H).new _
 have f1:=x1.fr o (-9);have g1:H1.get H.length=some ⟨[sm.v],43,1,false⟩:=by rw[e1];exact az
 have aih:wl.length≤65536:=by rw[UD];simp;omega
 obtain⟨ws',H2,o2,b2,ra,Xg,f2,ow2⟩:=(nP.fr f1 (by simp)).KZ (tE:=43) (by_:=24) g1 rfl (by omega) (by omega)
 obtain⟨wv,ewv⟩:=sSV Xg;subst ewv;have agU:=Du.fr f1 (by simp)
 have agV:sR H2 o2 (-41) ox li:=agU.fr f2 (by simp;omega)
 obtain⟨ib,b,fq,IX,DY,hc,fQ,zh,ky⟩:=agV.idx Eo;have ae5:=ky 7 wv.v {z' with ws:=wv} (by omega) rfl
 have st:=jA ib (8*i+7) wv.v H2 IX fQ (by omega) rfl rfl rfl
 obtain⟨H3,e3⟩: ∃t,t=H2.put ib {b with cells:=b.cells.set (8*i+7) wv.v}:=⟨_,rfl⟩;rw[←e3] at st ae5;have f3:Fr H2 o2 H3 o2 [-41]:=by rw[e3];exact(Fr.refl _ _ _).put λ_=>by simp[DY]
 obtain⟨ib0,b0,ae6,ae7,aii,YZ,_⟩:=Du.idx Eo;have eib:ib0=ib:=by
  have:=(ae6 H).symm.trans (fq H)
  simpa using this
 subst eib;have W0: ∀Hx:ae,Hx.get w=H.get w→au (pv w) Hx=some sm.v∧au (.pointer (some ⟨w,1,none⟩)) Hx=some ox:=λHx hx=>by
  have tN:Hx.get w=some ⟨[sm.v,ox,cv inv],ty,1,false⟩:=by rw[hx];exact hb
  exact⟨ak w 0 Hx tN,ak w 1 Hx tN⟩
 have GH:H1.get w=H.get w:=f1.same w (aq hb) (by simp)
 have uH:H2.get w=H.get w:=by rw[f2.same w (by have:=f1.size;have:=aq hb;omega) (by rw[f1.own w (aq hb),ow];simp;omega)];exact GH
 have hw3:H3.get w=H.get w:=by rw[f3.same w (by have:=f1.size;have:=f2.size;have:=aq hb;omega) (by rw[f2.own w (by have:=f1.size;have:=aq hb;omega),f1.own w (aq hb),ow];simp)];exact uH
 obtain⟨A0,A1⟩:=W0 H rfl;obtain⟨B0,B1⟩:=W0 H1 GH;obtain⟨C0,C1⟩:=W0 H2 uH;have S0:au (.pointer (some ⟨ib0,8*i+7,none⟩)) H=some z'.ws.v:=by rw[ak _ _ _ ae7];exact YZ 7 (by omega)
 have S1:au (.pointer (some ⟨ib0,8*i+7,none⟩)) H1=some z'.ws.v:=by rw[ak _ _ _ (x1.get ae7)];exact YZ 7 (by omega)
 have S2:au (.pointer (some ⟨ib0,8*i+7,none⟩)) H2=some z'.ws.v:=by rw[ak _ _ _ IX];exact hc 7 (by omega)
 have h1:(i:Int)<l.length:=by omega
 have hw:IntKind.i64.wrap ((i:Int)+1)=((i+1:Nat):Int):=by rw[jE (by omega)];omega
 have ev: ∀v:SV,jd v.v v.v=true:=λv=>by simp[Go.Proofs.YtjgmnoaalbbonaaGreatA.Am.jd,n8]
 have evx:jd ox ox=true:=Du.jd;refine⟨H3,o2,[-41, -1000-(z.uid:Int)],?_,by rw[hw3];exact hb,⟨li.set i {z' with ws:=wv},ae5,by simp[hlen],λj y' y PQ hy=>?_⟩,((f1.wk (by simp)).tr (f2.wk (by simp))).tr (f3.wk (by simp)),by simp;omega,by simp;omega,by simp;omega⟩
 ·simp -implicitDefEqProofs [-Int.natCast_add,HV,yO,bF,ax,A0,A1,B0,B1,C0,C1,jm,aE,h1,ae6,S0,S1,S2,bs,ra,st,ev,evx,de,hw,fin]
 ·by_cases hji:i=j
  ·subst hji;rw[List.getElem?_set_self (by omega)] at PQ
   cases PQ;rw[hz] at hy;cases hy;refine⟨t1,t2,t3,?_,λa ha=>((t5 a ha).fr f1 (by simp)).fr f2 (by simp;omega) |>.fr f3 (by simp)⟩
   rw[if_pos (by omega),List.drop_append_of_le_length hfz]
   refine⟨wl++[sm.v],b2,Xg.fr f3 (by simp;omega),by simp[UD],λk v m hv GD=>?_⟩
   rcases Nat.lt_or_ge k wl.length with g|g
   ·rw[List.getElem?_append_left g] at hv;rw[List.getElem?_append_left (by omega)] at GD
    exact(((GJ k v m hv GD).fr f1 (by simp)).fr f2 (by simp;omega)).fr f3 (by simp)
   ·rw[List.getElem?_append_right g] at hv;rw[List.getElem?_append_right (by omega)] at GD
    have hk:k-wl.length=0:=by
     have:=(List.getElem?_eq_some_iff.1 hv).1
     simp at this;omega
    rw[hk] at hv;rw[←UD,hk] at GD;have Qi:sm.v=v:=by simpa using hv
    have e2':new=m:=by simpa using GD
    rw[←Qi, ←e2'];exact((hm.fr f1 (by simp)).fr f2 (by simp;omega)).fr f3 (by simp)
  ·rw[List.getElem?_set_ne hji] at PQ;obtain⟨u1,u2,u3,u4,u5⟩:=hli j y' y PQ hy;have hu:(y.uid:Int)≠z.uid:=λe=>by
    have hu':y.uid=z.uid:=by omega
    exact hji (D3 Qb (a:=z.uid) (by rw[List.getElem?_map,hz];rfl) (by rw[List.getElem?_map,hy];simp[hu']))
   refine⟨u1,u2,u3,?_,λa ha=>(((u5 a ha).fr f1 (by simp)).fr f2 (by simp;omega)).fr f3 (by simp)⟩
   have:(if j<i+1 then(ms++[new]).drop y.call.sO else ms.drop y.call.sO)=(if j<i then(ms++[new]).drop y.call.sO else ms.drop y.call.sO):=by
    by_cases g:j<i
    ·rw[if_pos g,if_pos (by omega)]
    ·rw[if_neg g,if_neg (by omega)]
   rw[this];exact((u4.fr f1 (by simp) (by simp)).fr f2 (by simp;omega) (by simp;omega)).fr f3 (by simp;omega) (by simp)
end
end Go.Proofs.YtjgmnoaalbbonaaGreat.Fun
namespace Go.Proofs.YtjgmnoaalbbonaaGreat.Fun
open Go Go.RowKit Go.Proofs.YtjgmnoaalbbonaaGreatA.Am
set_option maxRecDepth 10000
structure Xn (H:ae) (o:an) (w:Nat) (sm:SV) (ox:Value) (l:List OC) (ty:TypeId) (S:tR):Prop where
 hZ:H.get w=some ⟨[sm.v,ox,cv S.inv],ty,1,false⟩
 ow:o w= -40
 map:ee H o (-44) sm.v S.now
 ops:sR H o (-41) ox l
 each: ∀z∈l,OpR H o S.maps z
 calls:S.calls=l.map λz=>(z.aV,z.call)
 nd:(l.map λz=>z.uid).Nodup
 ne:S.maps≠[]
 MP: ∀m∈S.maps,q8 (aX m)
 sO: ∀z∈l,z.call.sO≤S.maps.length
theorem Xn.fr {H H':ae}{o o':an}{w:Nat}{sm:SV}{ox:Value}{l:List OC}{ty:TypeId}{S:tR}(h:Xn H o w sm ox l ty S)(f:Fr H o H' o' []):Xn H' o' w sm ox l ty S:=
 ⟨by rw[f.same w (aq h.hZ) (by simp)];exact h.hZ,by rw[f.own w (aq h.hZ)];exact h.ow,h.map.fr f (by simp),h.ops.fr f (by simp),λz hz=>(h.each z hz).fr f (by simp) (by simp),h.calls,h.nd,h.ne,h.MP,h.sO⟩
def Tw (H:ae)(o:an)(w:Nat)(S:tR):Prop:=∃sm ox l ty,Xn H o w sm ox l ty S
theorem Xo {S:tR}(h:S.maps≠[]):S.now∈S.maps:=by
 have:0<S.maps.length:=List.length_pos_iff.2 h;unfold tR.now;rw[List.getD_eq_getElem?_getD,List.getElem?_eq_getElem (by omega)]
 exact List.getElem_mem _
theorem D6 {l:List OC}{cs:List (Int×jw)}(h:cs=l.map λz=>(z.aV,z.call))(t:Int):ku cs t=sD l t:=by
 subst h;unfold ku sD;rw[List.findIdx?_map];rfl
theorem D7 {l:List OC}{t:Int}{j:Nat}(h:sD l t=some j): ∃z,l[j]? =some z∧z.aV=t:=by
 unfold sD at h;obtain⟨hj,h1,_⟩:=List.findIdx?_eq_some_iff_getElem.1 h;exact⟨l[j],List.getElem?_eq_getElem hj,by simpa using h1⟩
theorem D8 {l:List Value}{z:OC}{a:Nat}(h: ∀k,k<8→l[a+k]? =(dU z)[k]?){k m:Nat}(hk:k+m≤8):(l.drop (a+k)).take m=((dU z).drop k).take m:=by
 apply List.ext_getElem?;intro i;rw[List.getElem?_take,List.getElem?_take];split
 ·rw[List.getElem?_drop,List.getElem?_drop,Nat.add_assoc,h (k+i) (by omega)]
 ·rfl
theorem ae8 (op:jZ)(H:ae):bS 3 (pv H.length) (iG op) (H.new ⟨[cv 0,cv 0,cv 0],39,1,false⟩)=some (undef,H.new ⟨[cv op.kind,cv op.key,cv op.value],39,1,false⟩):=by
 simp[bS,bG,Value.cells,known,aD,bO,ae.put,ae.new,ae.get,List.set_append]
theorem MX (S:tR)(m:PL)(cs:List (Int×jw))(v:Int):tR.now ⟨S.maps++[m],cs,v⟩=m:=by
 simp[tR.now,List.getD_eq_getElem?_getD]
theorem Tx {l:PL}{op:jZ}(h:nU l op=true):1≤op.kind∧op.kind≤3:=by
 unfold nU at h;split at h
 ·omega
 ·split at h
  ·omega
  ·have:=of_decide_eq_true h;omega
theorem Ty {G:ag}{n w:Nat}{H:ae}{o:an}{ox:Value}{sm:SV}{l:List OC}{ms:List PL}{new:PL}{inv:Int}{ty:TypeId}(hb:H.get w=some ⟨[sm.v,ox,cv inv],ty,1,false⟩)(ow:o w= -40)(hm:ee H o (-44) sm.v new)(h:B9 H o ox l ms new 0)(hl:l.length≤65536)(yU:ms.length≤65536)(Qb:(l.map λz=>z.uid).Nodup)(hf: ∀z∈l,z.call.sO≤ms.length)(hn:65536<n)(v1 v4 v3 v5 v53 v6 v8 v86:Value):
  ∃H' o' ps,iter (n+7) (BA (run G (n+7)) (n+7)) [pv w,v1,v4,v3,v5,v53,v6,v8,v86,cv 0,undef] H=some (.exit 0,[pv w,v1,v4,v3,v5,v53,v6,v8,v86,cv l.length,.bool false],H')∧
   H'.get w=some ⟨[sm.v,ox,cv inv],ty,1,false⟩∧o' w= -40∧ee H' o' (-44) sm.v new∧B9 H' o' ox l ms new l.length∧Fr H o H' o' ps∧(-1:Int) ∉ ps:=by
 obtain⟨r,iL,eC,o',ps,r1,r2,r3,r4,r5,r6,r7,r8⟩:=iy (step:=BA (run G (n+7)) (n+7))
  (Q:=λm vs H'=>∃(i:Nat) (o':an) (ps:List Int) (d:Value),i≤l.length∧m=l.length-i∧vs=[pv w,v1,v4,v3,v5,v53,v6,v8,v86,cv i,d]∧
   H'.get w=some ⟨[sm.v,ox,cv inv],ty,1,false⟩∧o' w= -40∧ee H' o' (-44) sm.v new∧B9 H' o' ox l ms new i∧Fr H o H' o' ps∧(-1:Int) ∉ ps)
  (R:=λr=>∃(o':an) (ps:List Int),r.1= .exit 0∧r.2.1=[pv w,v1,v4,v3,v5,v53,v6,v8,v86,cv l.length,.bool false]∧
   r.2.2.get w=some ⟨[sm.v,ox,cv inv],ty,1,false⟩∧o' w= -40∧ee r.2.2 o' (-44) sm.v new∧B9 r.2.2 o' ox l ms new l.length∧Fr H o r.2.2 o' ps∧(-1:Int) ∉ ps)
  (by
   rintro m vs H' ⟨i,o',ps,d,hi,rfl,rfl,gb,go,gm,gh,gf,g1⟩;by_cases dH:i<l.length
   ·obtain⟨H2,o2,qs,e2,b2,h2,f2,q1,q2,q3⟩:=PO (G:=G) (n:=n) gb go gm gh dH hl yU Qb hf (v1:=v1) (v4:=v4) (v3:=v3) (v5:=v5) (v53:=v53) (v6:=v6) (v8:=v8) (v86:=v86) (v120:=d);refine .inl ⟨_,H2,l.length-(i+1),by omega,e2,i+1,o2,ps++qs,_,by omega,rfl,rfl,b2,by rw[f2.own w (aq gb)];exact go,gm.fr f2 q3,h2,gf.trans f2 (λ_ h=>List.mem_append_left _ h) (λ_ h=>List.mem_append_right _ h),by simp only[List.mem_append];rintro(h|h);exact g1 h;exact q1 h⟩
   ·have:i=l.length:=by omega
    subst this;obtain⟨li,Du,hlen,_⟩:=gh;have jm:=Du.len;rw[hlen] at jm;have W1:au (.pointer (some ⟨w,1,none⟩)) H'=some ox:=ak w 1 H' gb;have h1: ¬(l.length:Int)<l.length:=by omega
    refine .inr ⟨(.exit 0,[pv w,v1,v4,v3,v5,v53,v6,v8,v86,cv l.length,.bool false],H'),?_,by simp,o',ps,rfl,rfl,gb,go,gm,⟨li,Du,hlen,by assumption⟩,gf,g1⟩
    simp -implicitDefEqProofs [HV,yO,bF,ax,W1,jm,aE,h1,fin])
  (l.length-0) [pv w,v1,v4,v3,v5,v53,v6,v8,v86,cv (0:Nat),undef] H ⟨0,o,[],_,Nat.zero_le _,rfl,rfl,hb,ow,hm,h,.refl _ _ _,by simp⟩ (n+7) (by omega)
 obtain⟨e,vs,H'⟩:=r;simp only at r1 r2 r3 r5 r6 r7;subst r1 r2;simp only[Int.natCast_zero] at iL;exact⟨H',o',ps,iL,r3,r4,r5,r6,r7,r8⟩
def Gt (G:ag)(H:ae)(o:an)(w:Nat)(S:tR)(e:iH)(N:Nat)(f:FuncId)(x:Value):Prop:=
 ∃H' o' ps,run G N f [pv w,x] H=some (.bool (step S e).isSome,H')∧Fr H o H' o' ps∧(-1:Int) ∉ ps∧∀S',step S e=some S'→Tw H' o' w S'
section
variable {G:ag} {H:ae} {o:an} {q:Int} {n w:Nat} {S:tR} {e:iH} {x:Value}
theorem IA (h:Tw H o w S)(he:Yr H o q x e)(yU:S.maps.length≤65000)(lQ:S.calls.length≤65000)(hb: ∀m∈S.maps,m.length<4194303)(hk:e.kind=2)(hn:4194304<n):Gt G H o w S e (n+8) 33 x:=by
 obtain⟨sm,ox,l,ty,hp⟩:=h;obtain⟨s,rfl,hs⟩:=he;obtain⟨a,m',es⟩:=hs.isSlice;have hll:l.length≤65000:=by rw[hp.calls] at lQ;simpa using lQ
 unfold Gt;rw[aca];have b1:=Iu e es H;obtain⟨H1,e1⟩: ∃z,z=H.new ⟨aT e s,47,1,false⟩:=⟨_,rfl⟩;rw[←e1] at b1;have x1:Ext H H1:=by rw[e1];exact(Ext.refl H).new _
 have f1:=x1.fr o (-9);obtain⟨o1,Qk⟩: ∃z,z=o.from H.length (-9):=⟨_,rfl⟩
 rw[←Qk] at f1;have g1:H1.get H.length=some ⟨aT e s,47,1,false⟩:=by rw[e1];exact az
 have p1:=hp.fr f1;have E1:au (.pointer (some ⟨H.length,1,none⟩)) H1=some (cv e.aV):=ak H.length 1 H1 g1;have W1:au (.pointer (some ⟨w,1,none⟩)) H1=some ox:=ak w 1 H1 p1.hZ;have rf:=D5 (G:=G) (n:=n+6) p1.ops (by omega) e.aV (by omega)
 have Uz:=D6 hp.calls e.aV;unfold step;rw[if_neg (by omega),if_neg (by omega),if_pos hk,Uz]
 cases hx:sD l e.aV with
 |none=>
  rw[hx] at rf;refine⟨H1,o1,[],?_,f1,by simp,λS' h'=>by cases h'⟩
  simp -implicitDefEqProofs [Uw,b1,ax,bF,E1,W1,rf,aE,ar]
 |some j=>
  rw[hx] at rf;simp only at rf;obtain⟨z,hz,hzt⟩:=D7 hx;have To:z∈l:=List.mem_of_getElem? hz;have hj:j<l.length:=(List.getElem?_eq_some_iff.1 hz).1;have mJ:S.calls[j]? =some (z.aV,z.call):=by rw[hp.calls,List.getElem?_map,hz];rfl
  simp only[mJ];have Co: ¬((j:Int)<0):=by omega
  obtain⟨ib,b,fq,IX,DY,hc,fQ,zh,ky⟩:=p1.ops.idx hz;have T5: ∀Hx,Ext H1 Hx→au (.pointer (some ⟨ib,8*j+5,none⟩)) Hx=some (.bool z.call.fh.isSome):=λHx hx=>by rw[ak _ _ _ (hx.get IX)];exact hc 5 (by omega)
  have T1: ∀Hx,Ext H1 Hx→au (.pointer (some ⟨ib,8*j+1,none⟩)) Hx=some (cv z.call.no):=λHx hx=>by rw[ak _ _ _ (hx.get IX)];exact hc 1 (by omega)
  have TO: ∀Hx,Ext H1 Hx→bV 3 (.pointer (some ⟨ib,8*j+2,none⟩)) Hx=some (iG z.call.op):=λHx hx=>by
   have:=D8 (a:=8*j) hc (k:=2) (m:=3) (by omega)
   simp only[bV,aA,hx.get IX];rw[if_pos (by omega),this];rfl
  have hW:=λ(Hx:ae) (hx:Ext H1 Hx)=>(ak w 1 Hx (hx.get p1.hZ):au (.pointer (some ⟨w,1,none⟩)) Hx=some ox)
  have Ut:=λ(Hx:ae) (hx:Ext H1 Hx)=>(ak H.length 2 Hx (hx.get g1):au (.pointer (some ⟨H.length,2,none⟩)) Hx=some (cv e.no))
  have xr:=Ext.refl H1;cases c2:z.call.fh.isSome with
  |true=>
   rw[if_pos (.inr (.inl rfl))];refine⟨H1,o1,[],?_,f1,by simp,λS' h'=>by cases h'⟩
   rw[c2] at T5;simp -implicitDefEqProofs [Uw,b1,ax,bF,E1,hW H1 xr,rf,aE,Co,fq,T5 H1 xr,ar]
  |false=>
  rw[c2] at T5;obtain⟨H2,r2,x2⟩:=xx (G:=G) (n:=n+6) z.call.op H1;obtain⟨o2,PM⟩: ∃z,z=o1.from H1.length (-9):=⟨_,rfl⟩
  have f2:=x2.fr o1 (-9);rw[←PM] at f2;have f12:=f1.tr f2;have Ct:=vB z.call.op;by_cases c3:1≤z.call.op.kind∧z.call.op.kind≤3
  case neg=>
   have ht:nU S.now z.call.op=false:=by
    cases hh:nU S.now z.call.op with
    |false=>rfl
    |true=>exact absurd (Tx hh) c3
   rw[if_pos (.inr (.inr ht))];refine⟨H2,o2,[],?_,f12,by simp,λS' h'=>by cases h'⟩
   have e0:(decide (1≤z.call.op.kind)&&decide (z.call.op.kind≤3))=false:=by
    cases hh:(decide (1≤z.call.op.kind)&&decide (z.call.op.kind≤3)) with
    |false=>rfl
    |true=>exact absurd (by simpa using hh) c3
   rw[e0] at r2;simp -implicitDefEqProofs [Uw,b1,ax,bF,E1,hW H1 xr,rf,aE,Co,fq,T5 H1 xr,TO H1 xr,Ct,r2,aS,ar]
  have e0:(decide (1≤z.call.op.kind)&&decide (z.call.op.kind≤3))=true:=by simpa using c3
  rw[e0] at r2;by_cases c1:z.call.no=e.no
  case neg=>
   rw[if_pos (.inl c1)];refine⟨H2,o2,[],?_,f12,by simp,λS' h'=>by cases h'⟩
   have c1': ¬e.no=z.call.no:=λh=>c1 h.symm
   simp -implicitDefEqProofs [Uw,b1,ax,bF,E1,hW H1 xr,rf,aE,Co,fq,T5 H1 xr,TO H1 xr,Ct,r2,aS,ar,hW H2 x2,Ut H2 x2,T1 H2 x2,eu,c1']
  have nq:aj Tryz.prog .neq 3 (cv e.no) (cv z.call.no)=some (.bool false):=by rw[eu,c1];simp
  have ob:=ae8 z.call.op H2;obtain⟨H4,e4⟩: ∃t,t=H2.new ⟨[cv z.call.op.kind,cv z.call.op.key,cv z.call.op.value],39,1,false⟩:=⟨_,rfl⟩;rw[←e4] at ob;have bY:Ext H2 H4:=by rw[e4];exact(Ext.refl H2).new _
  have x4:Ext H1 H4:=x2.trans bY;have g4:H4.get H2.length=some ⟨[cv z.call.op.kind,cv z.call.op.key,cv z.call.op.value],39,1,false⟩:=by rw[e4];exact az
  obtain⟨o4,eo4⟩: ∃z,z=o2.from H2.length (-9):=⟨_,rfl⟩
  have f4:=bY.fr o2 (-9);rw[←eo4] at f4;have o4b:o4 H2.length= -9:=by rw[eo4,gg (Nat.le_refl _)]
  have f14:=f12.tr f4;have p4:=(p1.fr f2).fr f4;have hl4:H2.length<H4.length:=aq g4;have V0:au (pv w) H4=some sm.v:=ak w 0 H4 p4.hZ;have P0:=ak H2.length 0 H4 g4;have P1:=ak H2.length 1 H4 g4;have UW:=Xo p4.ne;have hnl:=hb _ UW;have lW:=wI (G:=G) (n:=n+5) p4.map (by omega) z.call.op.key (by omega)
  cases c4:nU S.now z.call.op with
  |false=>
   rw[if_pos (.inr (.inr rfl))];refine⟨H4,o4,[],?_,f14,by simp,λS' h'=>by cases h'⟩
   unfold nU at c4;by_cases k1:z.call.op.kind=1
   ·have hh:ef S.now z.call.op.key=true:=by simpa[k1] using c4
    rw[hh] at lW;simp -implicitDefEqProofs [Uw,b1,ax,bF,E1,hW H1 xr,rf,aE,Co,fq,T5 H1 xr,TO H1 xr,Ct,r2,aS,ar,hW H2 x2,Ut H2 x2,T1 H2 x2,nq,TO H2 x2,aO,ob,V0,P0,P1,lW,eN,aF,k1]
   ·by_cases k3:z.call.op.kind=3
    ·have hh:ef S.now z.call.op.key=false:=by simpa[k3] using c4
     rw[hh] at lW;simp -implicitDefEqProofs [Uw,b1,ax,bF,E1,hW H1 xr,rf,aE,Co,fq,T5 H1 xr,TO H1 xr,Ct,r2,aS,ar,hW H2 x2,Ut H2 x2,T1 H2 x2,nq,TO H2 x2,aO,ob,V0,P0,P1,lW,eN,aF,k3]
    ·exfalso
     have:z.call.op.kind=2:=by omega
     simp[this] at c4
  |true=>
  rw[if_neg (by rintro(h|h|h);exact h c1;cases h;cases h)]
  obtain⟨ib4,b4,agW,agX,agY,hc4,agZ,aij,ag0⟩:=p4.ops.idx hz;have eib:ib=ib4:=by
   have:=(fq H4).symm.trans (agW H4)
   simpa using this
  subst eib;obtain⟨z1,ez1⟩: ∃z1:OC,z1={z with call:={z.call with fh:=some S.now}}:=⟨_,rfl⟩;obtain⟨z2,ez2⟩: ∃z2:OC,z2={z1 with ah:=sm}:=⟨_,rfl⟩;have UB:=jA ib (8*j+5) (.bool true) H4 agX agZ (by omega) rfl rfl rfl
  have Xk:=ag0 5 (.bool true) z1 (by omega) (by rw[ez1];rfl)
  obtain⟨H5,e5⟩: ∃t,t=H4.put ib {b4 with cells:=b4.cells.set (8*j+5) (.bool true)}:=⟨_,rfl⟩;rw[←e5] at UB Xk;have f5:Fr H4 o4 H5 o4 [-41]:=by rw[e5];exact(Fr.refl _ _ _).put λ_=>by simp[agY]
  obtain⟨ib5,b5,ag1,ag2,ag3,hc5,ag4,aik,ag5⟩:=Xk.idx (j:=j) (z:=z1) (by rw[List.getElem?_set_self hj])
  have eib:ib=ib5:=by
   have:=(fq H4).symm.trans (ag1 H4)
   simpa using this
  subst eib;have K9:=jA ib (8*j+6) sm.v H5 ag2 ag4 (by omega) rfl rfl rfl
  have op6:=ag5 6 sm.v z2 (by omega) (by rw[ez2];rfl)
  rw[List.set_set] at op6;obtain⟨H6,e6⟩: ∃t,t=H5.put ib {b5 with cells:=b5.cells.set (8*j+6) sm.v}:=⟨_,rfl⟩;rw[←e6] at K9 op6;have f6:Fr H5 o4 H6 o4 [-41]:=by rw[e6];exact(Fr.refl _ _ _).put λ_=>by simp[ag3]
  have f46:=f5.tr f6;have Tz:H5.get w=some ⟨[sm.v,ox,cv S.inv],ty,1,false⟩:=by rw[f5.same w (aq p4.hZ) (by rw[p4.ow];simp)];exact p4.hZ
  have acT:H6.get w=some ⟨[sm.v,ox,cv S.inv],ty,1,false⟩:=by rw[f46.same w (aq p4.hZ) (by rw[p4.ow];simp)];exact p4.hZ
  have g6:H6.get H2.length=some ⟨[cv z.call.op.kind,cv z.call.op.key,cv z.call.op.value],39,1,false⟩:=by rw[f46.same _ hl4 (by rw[o4b];simp)];exact g4
  have ag6:=p4.map.fr f46 (by simp)
  have W15:au (.pointer (some ⟨w,1,none⟩)) H5=some ox:=ak w 1 H5 Tz;have W14:au (.pointer (some ⟨w,1,none⟩)) H4=some ox:=ak w 1 H4 p4.hZ;have W05:au (pv w) H5=some sm.v:=ak w 0 H5 Tz;have W06:au (pv w) H6=some sm.v:=ak w 0 H6 acT;have L6:=Qj g6;obtain⟨y,H7,r7,s7,x7⟩:=Ir (G:=G) (n:=n+4) ag6 (by omega) z.call.op (by omega)
  obtain⟨o7,eo7⟩: ∃z,z=o4.from H6.length (-44):=⟨_,rfl⟩
  have f7:=x7.fr o4 (-44);have s7':ee H7 (o4.from H6.length (-44)) (-44) y (Th S.now z.call.op):=KT s7 λi hi _=>gg hi
  rw[←eo7] at f7 s7';have TA:=hp.MP _ UW;rw[show Th S.now z.call.op=Im S.now z.call.op by unfold Th;rw[if_pos TA]] at s7'
  obtain⟨new,acU⟩: ∃t,t=Im S.now z.call.op:=⟨_,rfl⟩;rw[←acU] at s7';obtain⟨yv,rfl⟩:=ae4 s7';have ae9:H7.get w=some ⟨[sm.v,ox,cv S.inv],ty,1,false⟩:=x7.get acT;have ow7:o7 w= -40:=by rw[f7.own w (aq acT)];exact p4.ow
  have st8:=jA w 0 yv.v H7 ae9 rfl (by simp) rfl rfl rfl
  simp only[List.set_cons_zero] at st8;obtain⟨H8,e8⟩: ∃t,t=H7.put w ⟨[yv.v,ox,cv S.inv],ty,1,false⟩:=⟨_,rfl⟩;rw[←e8] at st8;have f8:Fr H7 o7 H8 o7 [-40]:=by rw[e8];exact(Fr.refl _ _ _).put λ_=>by simp[ow7]
  have Xl:H8.get w=some ⟨[yv.v,ox,cv S.inv],ty,1,false⟩:=by rw[e8];exact aH ae9
  obtain⟨l2,Xp⟩: ∃t,t=l.set j z2:=⟨_,rfl⟩;rw[←Xp] at op6;have op8:=(op6.fr f7 (by simp)).fr f8 (by simp)
  have ail:l2.length=l.length:=by rw[Xp];simp
  have f48:Fr H4 o4 H8 o7 [-41, -40]:=((f46.wk (by simp)).IW f7).tr (f8.wk (by simp))
  have zc2:z2.call={z.call with fh:=some S.now}:=by rw[ez2,ez1]
  have zu2:z2.uid=z.uid:=by rw[ez2,ez1]
  have zt2:z2.aV=z.aV:=by rw[ez2,ez1]
  have zw2:z2.ws=z.ws:=by rw[ez2,ez1]
  have za2:z2.ah=sm:=by rw[ez2]
  have YC: ∀y∈l2,OpR H8 o7 S.maps y:=λy hy=>by
   rw[Xp] at hy;rcases List.mem_or_eq_of_mem_set hy with hy|rfl
   ·exact(p4.each y hy).fr f48 (by simp;omega) (by simp)
   ·have hz8:=(p4.each z To).fr f48 (by simp;omega) (by simp)
    refine⟨?_,λa ha=>?_,by rw[zc2];exact hz8.kind⟩
    ·rw[zu2,zw2,zc2];exact hz8.was
    ·rw[zc2] at ha;cases ha;rw[za2];exact⟨p4.map.fr f48 (by simp),TA,by omega⟩
  have nd2:l2.map (λz=>z.uid)=l.map λz=>z.uid:=by
   rw[Xp,List.map_set,B7];rw[List.getElem?_map,hz];simp[zu2]
  have afa:B9 H8 o7 ox l2 S.maps new 0:=⟨l2,op8,rfl,λk y' y PQ hy=>by
   rw[PQ] at hy;cases hy;have:=YC y' (List.mem_of_getElem? PQ)
   rw[if_neg (by omega)]
   exact⟨rfl,rfl,rfl,this.was,λa ha=>(this.fh a ha).1⟩⟩
  have afb: ∀y∈l2,y.call.sO≤S.maps.length:=λy hy=>by
   rw[Xp] at hy;rcases List.mem_or_eq_of_mem_set hy with hy|rfl
   ·exact hp.sO y hy
   ·rw[zc2];exact hp.sO z To
  obtain⟨H9,o9,ps,iL,b9,ow9,m9,⟨li,h91,h92,h93⟩,f9,q9⟩:=Ty (G:=G) (n:=n) Xl (by exact ow7) (s7'.fr f8 (by simp)) afa (by omega) (by omega) (by rw[nd2];exact hp.nd) afb (by omega) (yT e s) (.bool false) (pv H.length) (cv j) (.bool false) (pv H2.length) (.bool (ef S.now z.call.op.key)) (.bool false)
  have fA:=(f14.wk (qs:=[-41, -40]) (by simp)).tr f48
  refine⟨H9,o9,[-41, -40]++ps,?_,fA.trans f9 (λ_ h=>List.mem_append_left _ h) (λ_ h=>List.mem_append_right _ h),by simp only[List.mem_append];rintro(h|h);simp at h;exact q9 h,λS' h'=>?_⟩
  ·have evS:jd sm.v sm.v=true:=by simp[Go.Proofs.YtjgmnoaalbbonaaGreatA.Am.jd,n8]
   have evX:=p4.ops.jd;unfold nU at c4;by_cases k1:z.call.op.kind=1
   ·have hh:ef S.now z.call.op.key=false:=by simpa[k1] using c4
    rw[hh] at lW iL;simp -implicitDefEqProofs [Uw,b1,ax,bF,E1,hW H1 xr,rf,aE,Co,fq,T5 H1 xr,TO H1 xr,Ct,r2,aS,ar,hW H2 x2,Ut H2 x2,T1 H2 x2,nq,TO H2 x2,aO,ob,V0,P0,P1,lW,eN,aF,k1,W14,UB,W15,W05,K9,W06,L6,r7,st8,evS,evX,iL,BB,vt]
   ·by_cases k3:z.call.op.kind=3
    ·have hh:ef S.now z.call.op.key=true:=by simpa[k3] using c4
     rw[hh] at lW iL;simp -implicitDefEqProofs [Uw,b1,ax,bF,E1,hW H1 xr,rf,aE,Co,fq,T5 H1 xr,TO H1 xr,Ct,r2,aS,ar,hW H2 x2,Ut H2 x2,T1 H2 x2,nq,TO H2 x2,aO,ob,V0,P0,P1,lW,eN,aF,k3,W14,UB,W15,W05,K9,W06,L6,r7,st8,evS,evX,iL,BB,vt]
    ·simp -implicitDefEqProofs [Uw,b1,ax,bF,E1,hW H1 xr,rf,aE,Co,fq,T5 H1 xr,TO H1 xr,Ct,r2,aS,ar,hW H2 x2,Ut H2 x2,T1 H2 x2,nq,TO H2 x2,aO,ob,V0,P0,P1,lW,eN,aF,k1,k3,W14,UB,W15,W05,K9,W06,L6,r7,st8,evS,evX,iL,BB,vt]
  ·cases h';rw[←acU];have back: ∀(k:Nat) (y':OC),li[k]? =some y'→∃y,l2[k]? =some y:=λk y' PQ=>by
    have:=(List.getElem?_eq_some_iff.1 PQ).1
    exact⟨_,List.getElem?_eq_getElem (by omega)⟩
   have same: ∀{β:Type} (g:OC→β),(∀y' y:OC,y'.aV=y.aV→y'.uid=y.uid→y'.call=y.call→g y'=g y)→li.map g=l2.map g:=λg hg=>by
    apply List.ext_getElem?;intro k;rw[List.getElem?_map,List.getElem?_map];cases Js:li[k]? with
    |none=>
     have:l2[k]? =none:=by rw[List.getElem?_eq_none_iff] at Js ⊢;omega
     rw[this]
    |some y'=>
     obtain⟨y,hy⟩:=back k y' Js;obtain⟨u1,u2,u3,_⟩:=h93 k y' y Js hy;rw[hy];simp[hg y' y u1 u2 u3]
   refine⟨yv,ox,li,ty,⟨b9,ow9,by rw[MX];exact m9,h91,λy' PQ=>?_,?_,?_,by simp,λm hm=>?_,λy' PQ=>?_⟩⟩
   ·obtain⟨k,Js⟩:=List.getElem?_of_mem PQ;obtain⟨y,hy⟩:=back k y' Js;obtain⟨u1,u2,u3,u4,u5⟩:=h93 k y' y Js hy;have hkl:k<l2.length:=(List.getElem?_eq_some_iff.1 hy).1;rw[if_pos hkl] at u4;have hy8:=YC y (List.mem_of_getElem? hy);exact⟨by rw[u2,u3];exact u4,λa ha=>by rw[u3] at ha;exact⟨u5 a ha,(hy8.fh a ha).2⟩,by rw[u3];exact hy8.kind⟩
   ·rw[same (λz=>(z.aV,z.call)) λy' y h1 _ h3=>by simp[h1,h3],Xp,List.map_set,hp.calls,zt2,zc2]
   ·rw[same (λz=>z.uid) λy' y _ h2 _=>h2,nd2];exact hp.nd
   ·rcases List.mem_append.1 hm with hm|hm
    ·exact hp.MP m hm
    ·rw[List.mem_singleton.1 hm,acU];unfold Im;repeat' split
     all_goals first|exact TA|exact BT TA _|exact BS TA _ _
   ·obtain⟨k,Js⟩:=List.getElem?_of_mem PQ;obtain⟨y,hy⟩:=back k y' Js;obtain⟨u1,u2,u3,_⟩:=h93 k y' y Js hy;have:=afb y (List.mem_of_getElem? hy)
    rw[u3,List.length_append];omega
end
end Go.Proofs.YtjgmnoaalbbonaaGreat.Fun
namespace Go.Proofs.YtjgmnoaalbbonaaGreat.Fun
open Go Go.RowKit Go.Proofs.YtjgmnoaalbbonaaGreatA.Am
set_option maxRecDepth 10000
theorem Xq: ∀l:List OC,∃u:Nat,∀z∈l,z.uid≠u:=λl=>by
 have h: ∀l:List OC,∃u:Nat,∀z∈l,z.uid<u:=by
  intro l;induction l with
  |nil=>exact⟨0,λz hz=>by cases hz⟩
  |cons x l ih=>
   obtain⟨u,hu⟩:=ih;refine⟨u+x.uid+1,λz hz=>?_⟩
   rcases List.mem_cons.1 hz with rfl|hz
   ·omega
   ·have:=hu z hz;omega
 obtain⟨u,hu⟩:=h l;exact⟨u,λz hz=>Nat.ne_of_lt (hu z hz)⟩
theorem MY (o:an): ∀n:Nat,∃q:Int,0≤q∧∀i,i<n→o i<q
 |0=>⟨0,by omega,λi hi=>by omega⟩
 |n+1=>by
  obtain⟨q,h0,h⟩:=MY o n;by_cases hq:o n<q
  ·exact⟨q,h0,λi hi=>by
    rcases Nat.lt_or_ge i n with g|g
    ·exact h i g
    ·have:i=n:=by omega
     subst this;exact hq⟩
  ·exact⟨o n+1,by omega,λi hi=>by
    rcases Nat.lt_or_ge i n with g|g
    ·have:=h i g;omega
    ·have:i=n:=by omega
     subst this;omega⟩
theorem sR.relabel {H:ae}{o o':an}{q q':Int}{x:Value}{l:List OC}(h:sR H o q x l)(k: ∀i,i<H.length→o i=q→o' i=q'):sR H o' q' x l:=by
 rcases h with h|⟨i,cap,rest,ty,h1,h2,h3,h4⟩
 ·exact .inl h
 ·exact .inr ⟨i,cap,rest,ty,h1,h2,h3,k i (aq h2) h4⟩
theorem ag7 (t no:Int)(op:jZ)(ws:SV)(u f:Nat):aI Tryz.prog 87 [(0,cv t),(1,cv no),(2,iG op),(5,ws.v)]=some (.agg (dU ⟨t,u,⟨op,no,f,none⟩,⟨none,0,0⟩,ws⟩).toArray):=by kernel_rfl
theorem ag8 (H:ae):aw Tryz.prog 62 0 [] H=some (.slice (some ⟨H.length,0,none⟩) 0 0,H.new ⟨[],87,8,false⟩):=by kernel_rfl
theorem ag9 (t no:Int)(op:jZ)(ws:SV)(u f:Nat)(H:ae):aw Tryz.prog 62 1 [(0,.agg (dU ⟨t,u,⟨op,no,f,none⟩,⟨none,0,0⟩,ws⟩).toArray)] H=some (.slice (some ⟨H.length,0,none⟩) 1 1,H.new ⟨dU ⟨t,u,⟨op,no,f,none⟩,⟨none,0,0⟩,ws⟩,87,8,false⟩):=by kernel_rfl
section
variable {G:ag} {H:ae} {o:an} {q:Int} {n w:Nat} {S:tR} {e:iH} {x:Value}
theorem Ld (h:Tw H o w S)(he:Yr H o q x e)(hl:e.res.list.length≤4194303)(yU:S.maps.length≤65000)(lQ:S.calls.length≤65000)(hb: ∀m∈S.maps,m.length<4194303)(hn:4194304<n):Gt G H o w S e (n+9) 16 x:=by
 obtain⟨sm,ox,l,ty,hp⟩:=h;obtain⟨s,rfl,hs⟩:=he;obtain⟨a,m',es⟩:=hs.isSlice;have hll:l.length≤65000:=by rw[hp.calls] at lQ;simpa using lQ
 unfold Gt;rw[abQ];have b1:=Iu e es H;obtain⟨H1,e1⟩: ∃z,z=H.new ⟨aT e s,47,1,false⟩:=⟨_,rfl⟩;rw[←e1] at b1;have x1:Ext H H1:=by rw[e1];exact(Ext.refl H).new _
 have f1:=x1.fr o (-9);obtain⟨o1,Qk⟩: ∃z,z=o.from H.length (-9):=⟨_,rfl⟩
 rw[←Qk] at f1;have g1:H1.get H.length=some ⟨aT e s,47,1,false⟩:=by rw[e1];exact az
 have p1:=hp.fr f1;have P9:=hs.fr f1 (by simp)
 have E0:au (pv H.length) H1=some (cv e.kind):=ak H.length 0 H1 g1;have E1:au (.pointer (some ⟨H.length,1,none⟩)) H1=some (cv e.aV):=ak H.length 1 H1 g1;have E2:au (.pointer (some ⟨H.length,2,none⟩)) H1=some (cv e.no):=ak H.length 2 H1 g1;have E3:au (.pointer (some ⟨H.length,3,none⟩)) H1=some (cv e.op.kind):=ak H.length 3 H1 g1;have E11:au (.pointer (some ⟨H.length,11,none⟩)) H1=some s:=ak H.length 11 H1 g1;have W0:au (pv w) H1=some sm.v:=ak w 0 H1 p1.hZ;have W1:au (.pointer (some ⟨w,1,none⟩)) H1=some ox:=ak w 1 H1 p1.hZ;have W2:au (.pointer (some ⟨w,2,none⟩)) H1=some (cv S.inv):=ak w 2 H1 p1.hZ;have rf:=D5 (G:=G) (n:=n+7) p1.ops (by omega) e.aV (by omega)
 have Uz:=D6 hp.calls e.aV;have Xr:=p1.ops.len;have vQ:cq sm.v=some (cv S.now.length):=p1.map.len;by_cases k4:e.kind=4
 ·
  unfold step;rw[if_pos k4];have Xs:=tH (G:=G) (n:=n+7) P9 (by omega) (by omega)
  by_cases hc:q8 (aX e.res.list)∧S.calls=[]∧S.now=[]
  case neg=>
   rw[if_neg hc];refine⟨H1,o1,[],?_,f1,by simp,λS' h'=>by cases h'⟩
   by_cases c1n:0<l.length
   ·have c1:(l.length:Int)>0:=by omega
    simp -implicitDefEqProofs [-gt_iff_lt,GK,b1,ax,bF,E0,E1,W1,rf,k4,aF,Xr,eS,c1,c1n,ar]
   have c1: ¬(l.length:Int)>0:=by omega
   by_cases c2n:0<S.now.length
   ·have c2:(S.now.length:Int)>0:=by omega
    simp -implicitDefEqProofs [-gt_iff_lt,GK,b1,ax,bF,E0,E1,W1,W0,rf,k4,aF,Xr,vQ,eS,c1,c1n,c2,c2n,ar]
   have c2: ¬(S.now.length:Int)>0:=by omega
   have l0:l=[]:=List.length_eq_zero_iff.1 (by omega)
   have n0:S.now=[]:=List.length_eq_zero_iff.1 (by omega)
   have hna: ¬q8 (aX e.res.list):=λh=>hc ⟨h,by rw[hp.calls,l0];rfl,n0⟩
   rw[decide_eq_false hna] at Xs;simp -implicitDefEqProofs [-gt_iff_lt,GK,b1,ax,bF,E0,E1,E11,W1,W0,rf,k4,aF,Xr,vQ,eS,c1,c1n,c2,c2n,Xs,aS,ar]
  rw[if_pos hc];obtain⟨lV,um,Gp⟩:=hc;have l0:l=[]:=by rw[hp.calls] at um;simpa using um
  have c1: ¬(l.length:Int)>0:=by rw[l0];simp
  have c1n: ¬0<l.length:=by rw[l0];simp
  have c2n: ¬0<S.now.length:=by rw[Gp];simp
  have c2: ¬(S.now.length:Int)>0:=by rw[Gp];simp
  rw[decide_eq_true lV] at Xs;have b0:=W6 H1;obtain⟨y,H2,r2,s2,x2⟩:=D2 P9 (by omega)
  obtain⟨o2,PM⟩: ∃z,z=o1.from H1.length (-44):=⟨_,rfl⟩
  have f2:=x2.fr o1 (-44);have s2':ee H2 (o1.from H1.length (-44)) (-44) y e.res.list:=KT s2.r λi hi _=>gg hi
  rw[←PM] at f2 s2';have p2:=p1.fr f2;obtain⟨yv,rfl⟩:=ae4 s2';have st:=jA w 0 yv.v H2 p2.hZ rfl (by simp) rfl rfl rfl
  simp only[List.set_cons_zero] at st;obtain⟨H3,e3⟩: ∃t,t=H2.put w ⟨[yv.v,ox,cv S.inv],ty,1,false⟩:=⟨_,rfl⟩;rw[←e3] at st;have f3:Fr H2 o2 H3 o2 [-40]:=by rw[e3];exact(Fr.refl _ _ _).put λ_=>by simp[p2.ow]
  have aha:au (.pointer (some ⟨H.length,11,none⟩)) (H1.new ⟨[],42,2,false⟩)=some s:=by
   have g:(H1.new ⟨[],42,2,false⟩).get H.length=some ⟨aT e s,47,1,false⟩:=by rw[cr (aq g1)];exact g1
   exact ak H.length 11 _ g
  refine⟨H3,o2,[-40],?_,((f1.tr f2).wk (by simp)).tr f3,by simp,λS' h'=>?_⟩
  ·simp -implicitDefEqProofs [-gt_iff_lt,GK,b1,ax,bF,E0,E1,E11,W1,W0,rf,k4,aF,Xr,vQ,eS,c1,c1n,c2,c2n,Xs,aS,ar,b0,aha,r2,st]
  ·cases h';refine⟨yv,ox,l,ty,⟨by rw[e3];exact aH p2.hZ,p2.ow,by rw[MX];exact s2'.fr f3 (by simp),p2.ops.fr f3 (by simp),λz hz=>(by rw[l0] at hz;cases hz),hp.calls,hp.nd,by simp,λm hm=>?_,λz hz=>(by rw[l0] at hz;cases hz)⟩⟩
   rcases List.mem_append.1 hm with hm|hm
   ·exact hp.MP m hm
   ·rw[List.mem_singleton.1 hm];exact lV
 by_cases k1:e.kind=1
 ·
  unfold step;rw[if_neg k4,if_pos k1,Uz];have bad:(e.aV<0∨(sD l e.aV).isSome=true∨e.op.kind<1∨e.op.kind>10∨e.no≠S.inv)→GK (run G (n+8)) (n+8) (pv w) (yT e s) H=some (.bool false,H1):=by
   intro CG;by_cases c1:e.aV<0
   ·simp -implicitDefEqProofs [GK,b1,ax,bF,E0,E1,W1,rf,k1,aF,aE,c1,ar]
   cases hx:sD l e.aV with
   |some j=>
    rw[hx] at rf;simp only at rf;have hj:(j:Int)≥0:=by omega
    simp -implicitDefEqProofs [-ge_iff_le,GK,b1,ax,bF,E0,E1,W1,rf,k1,aF,aE,fp,c1,hj,ar]
   |none=>
    rw[hx] at rf CG;by_cases c2:e.op.kind<1
    ·simp -implicitDefEqProofs [-ge_iff_le,GK,b1,ax,bF,E0,E1,E3,W1,rf,k1,aF,aE,fp,c1,c2,ar]
    by_cases c3:e.op.kind>10
    ·simp -implicitDefEqProofs [-ge_iff_le, -gt_iff_lt,GK,b1,ax,bF,E0,E1,E3,W1,rf,k1,aF,aE,fp,eS,c1,c2,c3,ar]
    ·have c4: ¬e.no=S.inv:=by
      rcases CG with g|g|g|g|g
      ·exact absurd g c1
      ·simp at g
      ·exact absurd g c2
      ·exact absurd g c3
      ·exact g
     simp -implicitDefEqProofs [-ge_iff_le, -gt_iff_lt,GK,b1,ax,bF,E0,E1,E2,E3,W1,W2,rf,k1,aF,aE,fp,eS,eu,c1,c2,c3,c4,ar]
  by_cases hc:e.aV<0∨(sD l e.aV).isSome=true∨e.op.kind<1∨e.op.kind>10∨e.no≠S.inv
  ·rw[if_pos hc];exact⟨H1,o1,[],bad hc,f1,by simp,λS' h'=>by cases h'⟩
  rw[if_neg hc];have c1: ¬e.aV<0:=λh=>hc (.inl h)
  have kx:sD l e.aV=none:=by
   cases hx:sD l e.aV with
   |none=>rfl
   |some j=>exact absurd (.inr (.inl (by rw[hx];rfl))) hc
  have c2: ¬e.op.kind<1:=λh=>hc (.inr (.inr (.inl h)))
  have c3: ¬e.op.kind>10:=λh=>hc (.inr (.inr (.inr (.inl h))))
  have c4:e.no=S.inv:=Classical.byContradiction λh=>hc (.inr (.inr (.inr (.inr h))))
  rw[kx] at rf;have nq:aj Tryz.prog .neq 3 (cv e.no) (cv S.inv)=some (.bool false):=by rw[eu,c4];simp
  obtain⟨iv,eiv⟩: ∃iv,iv=IntKind.i64.wrap (S.inv+1):=⟨_,rfl⟩;have st2:=jA w 2 (cv iv) H1 p1.hZ rfl (by simp) rfl rfl rfl
  obtain⟨H2,e2⟩: ∃z,z=H1.put w ⟨[sm.v,ox,cv iv],ty,1,false⟩:=⟨_,rfl⟩;have acO:bS 1 (.pointer (some ⟨w,2,none⟩)) (cv iv) H1=some (undef,H2):=by rw[e2];exact st2
  have f2:Fr H1 o1 H2 o1 [-40]:=by rw[e2];exact(Fr.refl _ _ _).put λ_=>by simp[p1.ow]
  have vF:H2.get w=some ⟨[sm.v,ox,cv iv],ty,1,false⟩:=by rw[e2];exact aH p1.hZ
  have UD:=aq hp.hZ;have g2:H2.get H.length=some ⟨aT e s,47,1,false⟩:=by rw[e2,bt (by omega)];exact g1
  have l2:H2.length=H1.length:=by rw[e2];simp[ae.put]
  obtain⟨u,hu⟩:=Xq l;obtain⟨ws,ews⟩: ∃ws:SV,ws=⟨some ⟨H2.length,0,none⟩,1,1⟩:=⟨_,rfl⟩;have b3:=YB sm H2;have s3:=Sl.made H2 o1 (-1000-(u:Int)) 43 [sm.v];simp only[List.length_singleton] at s3;obtain⟨H3,e3⟩: ∃t,t=H2.new ⟨[sm.v],43,1,false⟩:=⟨_,rfl⟩;have f3:Fr H2 o1 H3 (o1.up H2.length (-1000-(u:Int))) []:=by rw[e3];exact(Fr.refl _ _ _).new _ _
  rw[←e3] at b3 s3;obtain⟨o3,Ys⟩: ∃z,z=o1.up H2.length (-1000-(u:Int)):=⟨_,rfl⟩;rw[←Ys] at f3 s3;have b3':aw Tryz.prog 85 1 [(0,sm.v)] H2=some (ws.v,H3):=by rw[ews];exact b3
  have s3':Sl H3 o3 (-1000-(u:Int)) ws.v [sm.v] (some H2.length):=by rw[ews];exact s3
  obtain⟨z,ez⟩: ∃z:OC,z=⟨e.aV,u,⟨e.op,e.no,S.maps.length-1,none⟩,⟨none,0,0⟩,ws⟩:=⟨_,rfl⟩;have ab:=ag7 e.aV e.no e.op ws u (S.maps.length-1);have b4:=ag9 e.aV e.no e.op ws u (S.maps.length-1) H3;rw[←ez] at ab b4;obtain⟨H4,e4⟩: ∃t,t=H3.new ⟨dU z,87,8,false⟩:=⟨_,rfl⟩;have f4:Fr H3 o3 H4 (o3.up H3.length (-9)) []:=by rw[e4];exact(Fr.refl _ _ _).new _ _
  obtain⟨o4,eo4⟩: ∃t,t=o3.up H3.length (-9):=⟨_,rfl⟩;rw[←eo4] at f4;have g4:H4.get H3.length=some ⟨dU z,87,8,false⟩:=by rw[e4];exact az
  rw[←e4] at b4;have f24:Fr H1 o1 H4 o4 [-40]:=(f2.IW f3).IW f4;have op4:=p1.ops.fr f24 (by simp)
  have ahb:Tr H4 (.slice (some ⟨H3.length,0,none⟩) 1 1) [z]:=⟨_,_,rfl,by simp[bp,aA,g4,qp]⟩
  obtain⟨ox',H5,o5,ra,Xk,f5, -⟩:=op4.app 87 ahb (by simp;omega)
  have Iy:H4.get w=some ⟨[sm.v,ox,cv iv],ty,1,false⟩:=by rw[f4.same w (by have:=f3.size;rw[l2] at this;have:=aq p1.hZ;omega) (by simp),f3.same w (aq vF) (by simp)];exact vF
  have ow4:o4 w= -40:=by rw[f24.own w (aq p1.hZ)];exact p1.ow
  have Tz:H5.get w=some ⟨[sm.v,ox,cv iv],ty,1,false⟩:=by rw[f5.same w (aq Iy) (by rw[ow4];simp)];exact Iy
  have ow5:o5 w= -40:=by rw[f5.own w (aq Iy)];exact ow4
  obtain⟨ao,co,eox⟩:=Xk.isSlice;have K9:=jA w 1 ox' H5 Tz rfl (by simp) (by rw[eox];rfl) (by rw[eox];rfl) (by rw[eox];rfl)
  simp only[List.set_cons_succ,List.set_cons_zero] at K9;obtain⟨H6,e6⟩: ∃t,t=H5.put w ⟨[sm.v,ox',cv iv],ty,1,false⟩:=⟨_,rfl⟩;rw[←e6] at K9;have f6:Fr H5 o5 H6 o5 [-40]:=by rw[e6];exact(Fr.refl _ _ _).put λ_=>by simp[ow5]
  have f46:Fr H4 o4 H6 o5 [-41, -40]:=(f5.wk (by simp)).tr (f6.wk (by simp))
  have fA:Fr H1 o1 H6 o5 [-41, -40]:=(f24.wk (by simp)).tr f46
  have jg:jd ox ox=true:=p1.ops.jd;have L2: ∀Hx,Hx.get w=some ⟨[sm.v,ox,cv iv],ty,1,false⟩→au (pv w) Hx=some sm.v∧au (.pointer (some ⟨w,1,none⟩)) Hx=some ox:=λHx hx=>⟨ak w 0 Hx hx,ak w 1 Hx hx⟩
  have acQ:H3.get w=some ⟨[sm.v,ox,cv iv],ty,1,false⟩:=by rw[f3.same w (aq vF) (by simp)];exact vF
  obtain⟨A2,B2⟩:=L2 H2 vF;obtain⟨A3,B3⟩:=L2 H3 acQ;obtain⟨A4,B4⟩:=L2 H4 Iy;have g3:H3.get H.length=some ⟨aT e s,47,1,false⟩:=by rw[f3.same _ (aq g2) (by simp)];exact g2
  have D: ∀Hx,Hx.get H.length=some ⟨aT e s,47,1,false⟩→au (.pointer (some ⟨H.length,1,none⟩)) Hx=some (cv e.aV)∧au (.pointer (some ⟨H.length,2,none⟩)) Hx=some (cv e.no)∧bV 3 (.pointer (some ⟨H.length,3,none⟩)) Hx=some (iG e.op):=λHx hx=>⟨ak _ 1 Hx hx,ak _ 2 Hx hx,aeU hx⟩
  obtain⟨Q1,Q2,Q3⟩:=D H2 g2;obtain⟨R1,R2,R3⟩:=D H3 g3;have Ct:=vB e.op;refine⟨H6,o5,[-41, -40],?_,(f1.wk (by simp)).tr fA,by simp,λS' h'=>?_⟩
  ·simp -implicitDefEqProofs [-ge_iff_le, -gt_iff_lt,GK,b1,ax,bF,E0,E1,E2,E3,W1,W2,rf,k1,aF,aE,fp,eS,nq,c1,c2,c3,ar,de, ←eiv,acO,A2,B2,A3,B3,A4,B4,Q1,Q2,Q3,R1,R2,R3,b3',ab,b4,ra,K9,jg,Ct]
  ·cases h';have ahc:tR.now ⟨S.maps,S.calls++[(e.aV,⟨e.op,e.no,S.maps.length-1,none⟩)],IntKind.i64.wrap (S.inv+1)⟩=S.now:=rfl;refine⟨sm,ox',l++[z],ty,⟨by rw[e6, ←eiv];exact aH Tz,ow5,by rw[ahc];exact p1.map.fr fA (by simp),Xk.fr f6 (by simp),λy hy=>?_,?_,?_,hp.ne,hp.MP,λy hy=>?_⟩⟩
   ·rcases List.mem_append.1 hy with hy|hy
    ·exact(p1.each y hy).fr fA (by simp;omega) (by simp)
    ·rw[List.mem_singleton.1 hy,ez];refine⟨⟨[sm.v],_,(s3'.fr f4 (by simp)).fr f46 (by simp;omega),?_,λi v m hv hm=>?_⟩,λa ha=>(by cases ha),by simp only;omega⟩
     ·have:0<S.maps.length:=List.length_pos_iff.2 hp.ne;simp;omega
     ·have hi:i=0:=by
       have:=(List.getElem?_eq_some_iff.1 hv).1
       simp at this;omega
      subst hi;have Qi:sm.v=v:=by simpa using hv
      have e2':S.now=m:=by
       simp only[List.getElem?_drop,Nat.add_zero] at hm;unfold tR.now;rw[List.getD_eq_getElem?_getD,hm];rfl
      rw[←Qi, ←e2'];exact p1.map.fr fA (by simp)
   ·rw[List.map_append,hp.calls,ez];rfl
   ·rw[List.map_append,List.nodup_append];refine⟨hp.nd,by simp,λa ha b tN=>?_⟩
    obtain⟨y,hy,rfl⟩:=List.mem_map.1 ha;have:b=u:=by rw[ez] at tN;simpa using tN
    subst this;exact hu y hy
   ·rcases List.mem_append.1 hy with hy|hy
    ·exact hp.sO y hy
    ·rw[List.mem_singleton.1 hy,ez];simp
 have evN: ¬e.kind=4:=k4;by_cases k2:e.kind=2
 ·
  have UC:=It g1;obtain⟨H',o',ps,r,f,q1,hS⟩:=IA (G:=G) (n:=n) (w:=w) (S:=S) (e:=e) (x:=yT e s) ⟨sm,ox,l,ty,p1⟩ ⟨s,rfl,P9⟩ yU lQ hb k2 (by omega)
  refine⟨H',o',ps,?_,(f1.wk (by simp)).tr f,q1,hS⟩
  simp -implicitDefEqProofs [GK,b1,ax,bF,E0,E1,W1,rf,k2,aF,UC,r]
 by_cases k3:e.kind=3
 case neg=>
  unfold step;rw[if_neg k4,if_neg k1,if_neg k2,if_neg k3];refine⟨H1,o1,[],?_,f1,by simp,λS' h'=>by cases h'⟩
  simp -implicitDefEqProofs [GK,b1,ax,bF,E0,E1,W1,rf,k1,k2,k3,k4,aF]
 unfold step;rw[if_neg k4,if_neg k1,if_neg k2,if_pos k3,Uz];cases hx:sD l e.aV with
 |none=>
  rw[hx] at rf;refine⟨H1,o1,[],?_,f1,by simp,λS' h'=>by cases h'⟩
  simp -implicitDefEqProofs [GK,b1,ax,bF,E0,E1,W1,rf,k3,aF,aE,ar]
 |some j=>
  rw[hx] at rf;simp only at rf;obtain⟨z,hz,hzt⟩:=D7 hx;have To:z∈l:=List.mem_of_getElem? hz;have hj:j<l.length:=(List.getElem?_eq_some_iff.1 hz).1;have mJ:S.calls[j]? =some (z.aV,z.call):=by rw[hp.calls,List.getElem?_map,hz];rfl
  simp only[mJ];have Co: ¬((j:Int)<0):=by omega
  obtain⟨ib,b,fq,IX,DY,hc,fQ,zh,ky⟩:=p1.ops.idx hz;have T1:au (.pointer (some ⟨ib,8*j+1,none⟩)) H1=some (cv z.call.no):=by rw[ak _ _ _ IX];exact hc 1 (by omega)
  have T8:bV 8 (.pointer (some ⟨ib,8*j,none⟩)) H1=some (.agg (dU z).toArray):=by
   have:=D8 (a:=8*j) hc (k:=0) (m:=8) (by omega)
   rw[Nat.add_zero] at this;simp only[bV,aA,IX];rw[if_pos (by omega),this];rfl
  by_cases c1:z.call.no=e.no
  case neg=>
   rw[if_pos (.inl c1)];refine⟨H1,o1,[],?_,f1,by simp,λS' h'=>by cases h'⟩
   have c1': ¬e.no=z.call.no:=λh=>c1 h.symm
   simp -implicitDefEqProofs [GK,b1,ax,bF,E0,E1,E2,W1,rf,k3,aF,aE,Co,fq,T1,eu,c1',ar]
  have nq:aj Tryz.prog .neq 3 (cv e.no) (cv z.call.no)=some (.bool false):=by rw[eu,c1];simp
  obtain⟨H2,r2,x2⟩:=PN (G:=G) (n:=n+2) (p1.each z To) hp.MP (λm hm=>by have:=hb m hm;omega) (by omega) P9 (by omega) (by omega)
  obtain⟨o2,PM⟩: ∃z,z=o1.from H1.length (-9):=⟨_,rfl⟩
  have f2:=x2.fr o1 (-9);rw[←PM] at f2;have f12:=f1.tr f2;have L6:=acK g1;cases c2:may S.maps z.call e.res with
  |false=>
   rw[if_pos (.inr rfl)];refine⟨H2,o2,[],?_,f12,by simp,λS' h'=>by cases h'⟩
   rw[c2] at r2;simp -implicitDefEqProofs [GK,b1,ax,bF,E0,E1,E2,W1,rf,k3,aF,aE,Co,fq,T1,nq,ar,L6,T8,r2,aS]
  |true=>
  rw[if_neg (by rintro(h|h);exact h c1;cases h)]
  rw[c2] at r2;have p2:=p1.fr f2;obtain⟨q',h0,hq⟩:=MY o2 H2.length;have b3:=ag8 H2;obtain⟨H3,e3⟩: ∃t,t=H2.new ⟨[],87,8,false⟩:=⟨_,rfl⟩;have f3:Fr H2 o2 H3 (o2.up H2.length q') []:=by rw[e3];exact(Fr.refl _ _ _).new _ _
  have n3:sR H3 (o2.up H2.length q') q' (.slice (some ⟨H2.length,0,none⟩) 0 0) []:=.inr ⟨H2.length,0,[],87,rfl,by rw[e3];exact az,rfl,aQ⟩
  rw[←e3] at b3;obtain⟨o3,Ys⟩: ∃z,z=o2.up H2.length q':=⟨_,rfl⟩;rw[←Ys] at f3 n3;have p3:=p2.fr f3;obtain⟨y1,ahd,ahe⟩:=p3.ops.LW (n:=j) (by omega)
  obtain⟨x4,H4,o4,ra4,op4,f4, -⟩:=n3.app 87 ahe (by simp;omega)
  have ahf:=p3.ops.fr f4 (by simp;omega)
  obtain⟨y2,ahg,ahh⟩:=ahf.uQ (n:=j+1) (by omega)
  obtain⟨x5,H5,o5,ra5,Xk,f5, -⟩:=op4.app 87 ahh (by simp;omega)
  have f25:Fr H2 o2 H5 o5 [q']:=((f3.wk (by simp)).tr f4).tr f5
  obtain⟨o6,eo6⟩: ∃o6:an,o6=λi=>if o5 i=q' then -41 else o5 i:=⟨_,rfl⟩
  have f26:Fr H2 o2 H5 o6 []:=⟨λi hi hn=>f25.slot i hi (by have:=hq i hi;simp;omega),λi hi=>by
   have:=hq i hi
   rw[eo6];simp only;rw[f25.own i hi,if_neg (by omega)],f25.size⟩
  have opN:sR H5 o6 (-41) x5 ([]++l.take j++l.drop (j+1)):=Xk.relabel λi _ hi=>by rw[eo6];simp[hi]
  have p5:=p2.fr f26;obtain⟨ao,co,eox⟩:=opN.isSlice;have K9:=jA w 1 x5 H5 p5.hZ rfl (by simp) (by rw[eox];rfl) (by rw[eox];rfl) (by rw[eox];rfl)
  simp only[List.set_cons_succ,List.set_cons_zero] at K9;obtain⟨H6,e6⟩: ∃t,t=H5.put w ⟨[sm.v,x5,cv S.inv],ty,1,false⟩:=⟨_,rfl⟩;rw[←e6] at K9;have f6:Fr H5 o6 H6 o6 [-40]:=by rw[e6];exact(Fr.refl _ _ _).put λ_=>by simp[p5.ow]
  have f3w:H4.get w=H3.get w:=f4.same w (aq p3.hZ) (by rw[p3.ow];simp;omega)
  have B3:au (.pointer (some ⟨w,1,none⟩)) H3=some ox:=ak w 1 H3 p3.hZ;have B4:au (.pointer (some ⟨w,1,none⟩)) H4=some ox:=ak w 1 H4 (b:=⟨[sm.v,ox,cv S.inv],ty,1,false⟩) (by rw[f3w];exact p3.hZ)
  have hw:IntKind.i64.wrap ((j:Int)+1)=((j+1:Nat):Int):=by rw[jE (by omega)];omega
  refine⟨H6,o6,[-40],?_,((f12.tr f26).wk (by simp)).tr f6,by simp,λS' h'=>?_⟩
  ·simp -implicitDefEqProofs [-Int.natCast_add,GK,b1,ax,bF,E0,E1,E2,W1,rf,k3,aF,aE,Co,fq,T1,nq,ar,L6,T8,r2,aS,b3,B3,ahd,ra4,B4,de,hw,ahg,ra5,K9]
  ·cases h';have el:[]++l.take j++l.drop (j+1)=l.eraseIdx j:=by rw[List.eraseIdx_eq_take_drop_succ];rfl
   rw[el] at opN;have sub:=List.eraseIdx_sublist l j;refine⟨sm,x5,l.eraseIdx j,ty,⟨by rw[e6];exact aH p5.hZ,p5.ow,p5.map.fr f6 (by simp),opN.fr f6 (by simp),λy hy=>(p5.each y (sub.subset hy)).fr f6 (by simp;omega) (by simp),?_,hp.nd.sublist (sub.map _),hp.ne,hp.MP,λy hy=>hp.sO y (sub.subset hy)⟩⟩
   rw[nW,hp.calls]
end
end Go.Proofs.YtjgmnoaalbbonaaGreat.Fun
namespace Go.Proofs.YtjgmnoaalbbonaaGreat.Fun
open Go Go.RowKit Go.Proofs.YtjgmnoaalbbonaaGreatA.Am
set_option maxRecDepth 10000
theorem Le {S S':tR}{e:iH}(h:step S e=some S'):S'.calls.length≤S.calls.length+1:=by
 unfold step at h;repeat' split at h
 all_goals first| (cases h;done)| (cases h;simp;done)| (cases h;exact Nat.le_trans (List.eraseIdx_sublist _ _).length_le (Nat.le_succ _))
theorem afc:aI Tryz.prog 64 []=some (.agg #[.slice none 0 0,.slice none 0 0,cv 0]):=by kernel_rfl
theorem ahi (H:ae):cB 64 (.agg #[.slice none 0 0,.slice none 0 0,cv 0]) H=some (pv H.length,H.new ⟨[.slice none 0 0,.slice none 0 0,cv 0],64,1,false⟩):=by
 simp[cB,Value.cells,aD,aO]
section
variable {G:ag} {H:ae} {o:an} {q q2:Int} {n:Nat} {x:Value} {L:List iH} {B:Nat}
theorem IB (h:oO H o q q2 x L)(hL:L.length≤1000)(hB: ∀e∈L,e.res.list.length≤B)(Jw:B+2000≤4194303)(hn:4194304<n):
  ∃H',run G (n+10) 8 [x] H=some (cv (check L Di 0),H')∧Ext H H':=by
 rw[aei];have h0:oO H o0 (-1) (-1) x L:=h.relabel (λi _ _=>rfl) (λi _ _=>rfl)
 have jm:=h.len;have bx:=ahi H;obtain⟨H1,e1⟩: ∃z,z=H.new ⟨[.slice none 0 0,.slice none 0 0,cv 0],64,1,false⟩:=⟨_,rfl⟩;have f1:Fr H o0 H1 (an.up o0 H.length (-40)) []:=by rw[e1];exact(Fr.refl _ _ _).new _ _
 have g1:H1.get H.length=some ⟨[.slice none 0 0,.slice none 0 0,cv 0],64,1,false⟩:=by rw[e1];exact az
 rw[←e1] at bx;obtain⟨o1,Qk⟩: ∃z,z=an.up o0 H.length (-40):=⟨_,rfl⟩;have ow1:o1 H.length= -40:=by rw[Qk,aQ]
 rw[←Qk] at f1;have h1:Tw H1 o1 H.length Di:=⟨⟨none,0,0⟩,.slice none 0 0,[],64,⟨g1,ow1,.nil,.nil,λz hz=>(by cases hz),rfl,.nil,by simp[Di],λm hm=>(by
  have:m=[]:=by simpa[Di] using hm
  subst this;exact List.Pairwise.nil),λz hz=>(by cases hz)⟩⟩
 obtain⟨r',iL,eC,x',d4,d10,d19,hr⟩:=iy (step:=R5 (run G (n+9)) (n+9))
  (Q:=λm vs H'=>∃(i:Nat) (S:tR) (o':an) (ps:List Int) (d10 d19:Value),i≤L.length∧m=L.length-i∧vs=[x,cv 0,cv i,d10,pv H.length,d19]∧Tw H' o' H.length S∧Fr H o0 H' o' ps∧(-1:Int) ∉ ps∧
   check L Di 0=check (L.drop i) S i∧(∀m∈S.maps,m.length≤B+i)∧S.maps.length≤i+1∧S.calls.length≤i)
  (R:=λr'=>Ext H r'.2.2∧∃(d4 d10 d19:Value),((r'.1= .exit 0∧r'.2.1=[x,cv 0,d4,d10,pv H.length,d19]∧check L Di 0= -1)∨
   (r'.1= .ret∧∃j:Nat,r'.2.1=[x,cv j,d4,d10,pv H.length,d19]∧check L Di 0=j)))
  (by
   rintro m vs H' ⟨i,S,o',ps,d10,d19,hi,rfl,rfl,hS,f,hps,hc,hK,hM,hC⟩;have acR:Ext H H':=Ext.of f λi _ hh=>hps hh
   by_cases dH:i<L.length
   ·have h1:(i:Int)<L.length:=by omega
    have hLi:L[i]? =some L[i]:=List.getElem?_eq_getElem dH;obtain⟨ptr,s,fq,hs,fN⟩:=(h0.fr f hps hps).idx hLi;obtain⟨jQ,GM,qs,r1,sQ,hqs,pY⟩:=Ld (G:=G) (n:=n) (x:=yT L[i] s) hS ⟨s,rfl,hs⟩ (by have:=hB _ (List.getElem_mem dH);omega) (by omega) (by omega) (λm hm=>by have:=hK m hm;omega) hn
    have hw:IntKind.i64.wrap ((i:Int)+1)=((i+1:Nat):Int):=by rw[jE (by omega)];omega
    have Tp:L.drop i=L[i]::L.drop (i+1):=List.drop_eq_getElem_cons dH;have hd:check (L[i]::L.drop (i+1)) S i=(match step S L[i] with|none=>(i:Int)|some S'=>check (L.drop (i+1)) S' (i+1)):=rfl
    rw[Tp,hd] at hc;have fH2:Fr H o0 jQ GM (ps++qs):=f.trans sQ (λ_ h=>List.mem_append_left _ h) (λ_ h=>List.mem_append_right _ h)
    have hpq:(-1:Int) ∉ ps++qs:=by simp only[List.mem_append];rintro(h|h);exact hps h;exact hqs h
    cases ky:step S L[i] with
    |none=>
     rw[ky] at r1 hc;refine .inr ⟨(.ret,[x,cv i,cv i,.bool true,pv H.length,.bool true],jQ),?_,by simp,Ext.of fH2 (λi _ hh=>hpq hh),_,_,_,.inr ⟨rfl,i,rfl,hc⟩⟩
     simp -implicitDefEqProofs [FI,AV,jm,aE,h1,fq,fN,r1,aS,fin]
    |some S'=>
     rw[ky] at r1 hc;obtain⟨k1,k2⟩:=D4 ky hK (by have:=hB _ (List.getElem_mem dH);omega)
     have k3:=Le ky;refine .inl ⟨_,jQ,L.length-(i+1),by omega,?_,i+1,S',GM,ps++qs,.bool true,.bool false,by omega,rfl,rfl,pY S' ky,fH2,hpq,hc,λm hm=>by have:=k1 m hm;omega,by omega,by omega⟩
     simp -implicitDefEqProofs [-Int.natCast_add,FI,AV,jm,aE,h1,fq,fN,r1,aS,de,hw,fin]
   ·have h1: ¬(i:Int)<L.length:=by omega
    rw[List.drop_eq_nil_of_le (by omega)] at hc
    refine .inr ⟨(.exit 0,[x,cv 0,cv i,.bool false,pv H.length,d19],H'),?_,by simp,acR,_,_,_,.inl ⟨rfl,rfl,hc⟩⟩
    simp -implicitDefEqProofs [FI,AV,jm,aE,h1,fin])
  (L.length-0) [x,cv 0,cv (0:Nat),undef,pv H.length,undef] H1 ⟨0,Di,o1,[],_,_,Nat.zero_le _,rfl,rfl,h1,f1,by simp,rfl,λm hm=>by
   have:m=[]:=by simpa[Di] using hm
   subst this;simp,by simp[Di],by simp[Di]⟩ (n+9) (by omega)
 obtain⟨e,vs,H'⟩:=r';simp only at hr x';simp only[Int.natCast_zero] at iL;refine⟨H',?_,x'⟩;rcases hr with⟨rfl,rfl,hc⟩|⟨rfl,j,rfl,hc⟩
 ·rw[hc];simp -implicitDefEqProofs [F8,afc,bx,iL,V6,Km]
 ·rw[hc];simp -implicitDefEqProofs [F8,afc,bx,iL,dr,dv,up,qP,qO,xO];rfl
end
end Go.Proofs.YtjgmnoaalbbonaaGreat.Fun
end
