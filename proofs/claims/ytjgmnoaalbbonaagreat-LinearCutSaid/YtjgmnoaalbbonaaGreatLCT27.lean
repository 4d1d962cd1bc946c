/- Texts of the proof of linearCut_holds, put together by a small program of ours (names shortened, spaces taken out). No condition beyond the given statement. -/
import Derived.Test.YtjgmnoaalbbonaaGreatLCT15
import Derived.Test.YtjgmnoaalbbonaaGreatLCT16
import Derived.Test.YtjgmnoaalbbonaaGreatLCT17
import Derived.Test.YtjgmnoaalbbonaaGreatLCT18
import Derived.Test.YtjgmnoaalbbonaaGreatLCT19
import Derived.Test.YtjgmnoaalbbonaaGreatLCT20
import Derived.Test.YtjgmnoaalbbonaaGreatLCT21
import Derived.Test.YtjgmnoaalbbonaaGreatLCT22
import Derived.Test.YtjgmnoaalbbonaaGreatLCT26
set_option linter.unusedVariables false
set_option linter.unusedSimpArgs false
set_option linter.unnecessarySimpa false
noncomputable section
section
namespace Go.Proofs.YtjgmnoaalbbonaaGreat.Fun
open Go Go.RowKit Go.Proofs.YtjgmnoaalbbonaaGreatA.Am
set_option maxRecDepth 10000
abbrev pM (r:dA)(s:Value):List Value:=[cv r.qY,.bool r.found,cv r.key,cv r.value,cv r.n,s]
abbrev iJ (c:jn)(r:dA)(s:Value):List Value:=[cv c.op.kind,cv c.op.key,cv c.op.value,cv c.no,cv c.Fa,.bool c.fO.isSome,cv r.qY,.bool r.found,cv r.key,cv r.value,cv r.n,s]
abbrev aM (e:hP)(s:Value):List Value:=[cv e.kind,cv e.bO,cv e.no,cv e.op.kind,cv e.op.key,cv e.op.value,cv e.res.qY,.bool e.res.found,cv e.res.key,cv e.res.value,cv e.res.n,s,cv e.pick]
abbrev Bz (e:hP)(s:Value):Value:=.agg #[cv e.kind,cv e.bO,cv e.no,cv e.op.kind,cv e.op.key,cv e.op.value,cv e.res.qY,.bool e.res.found,cv e.res.key,cv e.res.value,cv e.res.n,s,cv e.pick]
theorem uC:Tryz.prog.underlying 109=some (.pointer 111):=by kernel_rfl
theorem aaP:(84:Nat)<Tryz.prog.funcs.size:=by decide +kernel
section
variable {H:aa} {b:Nat} {t:TypeId} {c:jn} {r:dA} {e:hP} {s:Value}
theorem DB (h:H.get b=some ⟨iJ c r s,t,1,false⟩):cK 3 (pv b) H=some (iO c.op):=by simp[cK,aw,h]
theorem acN (h:H.get b=some ⟨iJ c r s,t,1,false⟩):cK 6 (.pointer (some ⟨b,6,none⟩)) H=some (dL r s):=by simp[cK,aw,h]
theorem IM (h:H.get b=some ⟨aM e s,t,1,false⟩):cK 13 (pv b) H=some (Bz e s):=by simp[cK,aw,h]
theorem aaQ (h:H.get b=some ⟨aM e s,t,1,false⟩):cK 6 (.pointer (some ⟨b,6,none⟩)) H=some (dL e.res s):=by simp[cK,aw,h]
theorem acO (h:H.get b=some ⟨aM e s,t,1,false⟩):cK 3 (.pointer (some ⟨b,3,none⟩)) H=some (iO e.op):=by simp[cK,aw,h]
theorem LR (e:hP){a:Option Addr}{m k:Nat}(es:s= .slice a m k)(H:aa):cO 47 (Bz e s) H=some (pv H.length,H.new ⟨aM e s,47,1,false⟩):=by
 subst es;simp[cO,Value.cells,av,aO]
theorem Pg (r:dA){a:Option Addr}{m k:Nat}(es:s= .slice a m k):jE (dL r s) (dL r s)=true:=by subst es;simp[jE,pa,oZ]
theorem SB (op:kC):jE (iO op) (iO op)=true:=by simp[jE,pa,oZ]
end
section
variable {H:aa} {o:aj} {q:Int} {n p:Nat} {l:PL}
theorem LS {c:jn}{r rc:dA}{s sc:Value}{k b0 b1:Nat}{t0 t1 tk:TypeId}(hm:eK H o p l)(hk:H.get k=some ⟨iJ c rc sc,tk,1,false⟩)(h0:H.get b0=some ⟨[pv k],t0,1,false⟩)(h1:H.get b1=some ⟨pM r s,t1,1,false⟩)(hs:gE H o q s r.list)(hl:r.list.length≤4194304)(hn:4194304<n):
  ∃H',run KG (n+9) 84 [pv p,pv b0,pv b1] H=some (.bool (!Dz l c.op&&hO r (qZ l c.op)),H')∧Ext H H':=by
 rw[Ws];obtain⟨H1,r1,x1⟩:=rK (G:=KG) (n:=n+2) hm c.op (by omega)
 have L0:=ak b0 0 H h0;have L1:=ak b0 0 H1 (x1.get h0);obtain⟨a,m',es⟩:=hs.isSlice;cases ht:Dz l c.op with
 |true=>
  rw[ht] at r1;refine⟨H1,?_,x1⟩;simp -implicitDefEqProofs [F84,L0,cR,aQ,DB hk,r1,da,aL]
 |false=>
  rw[ht] at r1;obtain⟨y,H2,r2,R2,x2⟩:=E8 (G:=KG) (n:=n) (hm.ext x1 0) c.op hn;obtain⟨H3,r3,x3⟩:=qw (G:=KG) (n:=n+6) (x:=dL r s) ⟨s,rfl,(hs.ext x1).ext x2⟩ R2 (by omega) (by omega)
  refine⟨H3,?_,(x1.trans x2).trans x3⟩;have ev:=Pg r es;simp -implicitDefEqProofs [F84,L0,L1,cR,aQ,DB hk,DB (x1.get hk),jJ _ _ _ (x1.get h1),jJ _ _ _ (x2.get (x1.get h1)),r1,r2,r3,da,aL,ev]
theorem AN {c:jn}{r rc:dA}{s sc:Value}{k b0 b1:Nat}{t0 t1 tk:TypeId}{ms:List (Nat×PL)}{sl:Value}{qb cap:Nat}{ty:TypeId}{rest:List Value}{f:Nat}(oz:sl= .slice (some ⟨qb,f,none⟩) (ms.length-f) (cap-f))(hq:H.get qb=some ⟨(ms.map λx=>pv x.1)++rest,ty,1,false⟩)(hf:f≤ms.length)(Fc:ms.length≤65536)(hm: ∀x∈ms,eK H o x.1 x.2)(hk:H.get k=some ⟨iJ c rc sc,tk,1,false⟩)(h0:H.get b0=some ⟨[pv k],t0,1,false⟩)(h1:H.get b1=some ⟨pM r s,t1,1,false⟩)(hs:gE H o q s r.list)(hl:r.list.length≤4194304)(hn:4194304<n):
  ∃H',run KG (n+11) 83 [sl,rN 84 #[pv b0,pv b1]] H=some (.bool (((ms.map (·.2)).drop f).any λm=> !Dz m c.op&&hO r (qZ m c.op)),H')∧Ext H H':=by
 rw[WO];have tst: ∀x,x∈ms→∀H',Ext H H'→∃kB,run KG (n+9) 84 [pv x.1,pv b0,pv b1] H'=some (.bool (!Dz x.2 c.op&&hO r (qZ x.2 c.op)),kB)∧Ext H kB:=λx hx H' ex=>by
  obtain⟨kB,r1,x1⟩:=LS (n:=n) ((hm x hx).ext ex 0) (ex.get hk) (ex.get h0) (ex.get h1) (hs.fr (ex.fr o 0) (by simp)) hl hn
  exact⟨kB,r1,ex.trans x1⟩
 have key: ∃(j:Int) (H':aa),run KG (n+10) 110 [sl,rN 84 #[pv b0,pv b1]] H=some (cv j,H')∧Ext H H'∧decide (j≥0)=((ms.map (·.2)).drop f).any λm=> !Dz m c.op&&hO r (qZ m c.op):=by
  rw[Sd];have hlen:cw sl=some (cv (ms.length-f:Nat)):=by rw[oz];rfl
  obtain⟨r',oT,dX,x',hr⟩:=qg (step:=Dq (run KG (n+9)) (n+9))
   (Q:=λm vs H'=>∃(i:Nat) (d9 d5 d16:Value),f≤i∧i≤ms.length∧m=ms.length-i∧vs=[sl,rN 84 #[pv b0,pv b1],cv 0,cv (i-f:Nat),cv (ms.length-f:Nat),d9,d5,d16]∧Ext H H'∧∀x∈(ms.take i).drop f,(!Dz x.2 c.op&&hO r (qZ x.2 c.op))=false)
   (R:=λr'=>Ext H r'.2.2∧∃(d8 d9 d5 d16:Value),((r'.1= .exit 0∧r'.2.1=[sl,rN 84 #[pv b0,pv b1],cv 0,d8,cv (ms.length-f:Nat),d9,d5,d16]∧∀x∈ms.drop f,(!Dz x.2 c.op&&hO r (qZ x.2 c.op))=false)∨
    (r'.1= .ret∧∃j:Nat,r'.2.1=[sl,rN 84 #[pv b0,pv b1],cv j,d8,cv (ms.length-f:Nat),d9,d5,d16]∧∃x∈ms.drop f,(!Dz x.2 c.op&&hO r (qZ x.2 c.op))=true)))
   (by
    rintro m vs H' ⟨i,d9,d5,d16,hfi,hi,rfl,rfl,ex,fC⟩;by_cases eR:i<ms.length
    ·have h1:((i-f:Nat):Int)<(ms.length-f:Nat):=by omega
     have qo:cq 1 sl (cv (i-f:Nat)) H'=some (.pointer (some ⟨qb,i,none⟩),H'):=by
      rw[oz];simp only[cq];rw[if_pos (by constructor<;>omega)]
      simp<;>omega
     have iX:aq (.pointer (some ⟨qb,i,none⟩)) H'=some (pv ms[i].1):=by
      rw[ak _ _ _ (ex.get hq)];show((ms.map λx=>pv x.1)++rest)[i]? =_
      rw[List.getElem?_append_left (by simpa using eR)]
      simp[eR]
     obtain⟨kB,r1,x1⟩:=tst ms[i] (List.getElem_mem eR) H' ex;have hdy:=O3 (C:=run KG (n+9)) (c:=#[pv b0,pv b1]) (args:=[pv ms[i].1]) (H:=H') aaP;have vb:ms[i]∈ms.drop f:=by
      have:(ms.drop f)[i-f]? =some ms[i]:=by rw[List.getElem?_drop,show f+(i-f)=i by omega,List.getElem?_eq_getElem eR]
      exact List.mem_of_getElem? this
     have hw:IntKind.i64.wrap (((i-f:Nat):Int)+1)=((i+1-f:Nat):Int):=by rw[kr (by omega)];omega
     cases hc:(!Dz ms[i].2 c.op&&hO r (qZ ms[i].2 c.op)) with
     |true=>
      rw[hc] at r1;refine .inr ⟨(.ret,[sl,rN 84 #[pv b0,pv b1],cv (i-f:Nat),cv (i-f:Nat),cv (ms.length-f:Nat),.bool true,cv (i-f:Nat),.bool true],kB),?_,by simp,x1,_,_,_,_,.inr ⟨rfl,i-f,rfl,ms[i],vb,hc⟩⟩
      simp -implicitDefEqProofs [uB,pJ,bT,h1,qo,iX,hdy,r1,fin]
     |false=>
      rw[hc] at r1;refine .inl ⟨_,kB,ms.length-(i+1),by omega,?_,i+1,.bool true,cv (i-f:Nat),.bool false,by omega,by omega,rfl,rfl,x1,λx hx=>?_⟩
      ·simp -implicitDefEqProofs [uB,pJ,bT,h1,qo,iX,hdy,r1,gS,hw,fin]
      ·rw[List.take_add_one,List.getElem?_eq_getElem eR,List.drop_append_of_le_length (by simp;omega)] at hx
       rcases List.mem_append.1 hx with hx|hx
       ·exact fC x hx
       ·have:x=ms[i]:=by simpa using hx
        rw[this];exact hc
    ·have h1: ¬((i-f:Nat):Int)<(ms.length-f:Nat):=by omega
     rw[List.take_of_length_le (by omega)] at fC
     refine .inr ⟨(.exit 0,[sl,rN 84 #[pv b0,pv b1],cv 0,cv (i-f:Nat),cv (ms.length-f:Nat),.bool false,d5,d16],H'),?_,by simp,ex,_,_,_,_,.inl ⟨rfl,rfl,fC⟩⟩
     simp -implicitDefEqProofs [uB,pJ,bT,h1,fin])
   (ms.length-f) [sl,rN 84 #[pv b0,pv b1],cv 0,cv (f-f:Nat),cv (ms.length-f:Nat),undef,undef,undef] H ⟨f,_,_,_,Nat.le_refl _,hf,rfl,rfl,.refl _,λx hx=>by
    have:(ms.take f).drop f=[]:=List.drop_eq_nil_of_le (by simp;omega)
    rw[this] at hx;cases hx⟩ (n+9) (by omega)
  obtain⟨e,vs,H'⟩:=r';simp only at hr x';rw[Nat.sub_self,Int.natCast_zero] at oT;obtain⟨d8,d9,d5,d16,⟨rfl,rfl,fC⟩|⟨rfl,j,rfl,x,hx,hc⟩⟩:=hr
  ·refine⟨-1,H',?_,x',?_⟩
   ·simp -implicitDefEqProofs [XC,hlen,oT,Lg,ze]
   ·symm
    rw[show decide ((-1:Int)≥0)=false from rfl, ←List.map_drop,List.any_eq_false]
    intro y hy;obtain⟨x,hx,rfl⟩:=List.mem_map.1 hy;rw[fC x hx];simp
  ·refine⟨j,H',?_,x',?_⟩
   ·simp -implicitDefEqProofs [XC,hlen,oT,dK,dT,up,vj,vi,Gr];rfl
   ·symm
    rw[decide_eq_true (show(j:Int)≥0 by omega), ←List.map_drop,List.any_eq_true]
    exact⟨x.2,List.mem_map_of_mem hx,hc⟩
 obtain⟨j,H',r1,x1,hj⟩:=key;refine⟨H',?_,x1⟩;rw[←hj];simp -implicitDefEqProofs [-ge_iff_le,F83,r1,qa]
end
end Go.Proofs.YtjgmnoaalbbonaaGreat.Fun
namespace Go.Proofs.YtjgmnoaalbbonaaGreat.Fun
open Go Go.RowKit Go.Proofs.YtjgmnoaalbbonaaGreatA.Am
set_option maxRecDepth 10000
def tH (H:aa)(o:aj)(k:Nat)(c:jn):Prop:=
 ∃(r:dA) (s:Value) (ty:TypeId),H.get k=some ⟨iJ c r s,ty,1,false⟩∧o k= -22∧(∃a m n,s= .slice a m n)∧∀a,c.fO=some a→r=qZ a c.op∧gE H o (-23) s r.list
theorem tH.fr {H H':aa}{o o':aj}{k:Nat}{c:jn}{ps:List Int}(h:tH H o k c)(f:Fr H o H' o' ps)(h1:(-22:Int) ∉ ps)(h2:(-23:Int) ∉ ps):tH H' o' k c:=by
 obtain⟨r,s,ty,g,ok,hs,ht⟩:=h;exact⟨r,s,ty,by rw[f.same k (an g) (by rw[ok];exact h1)];exact g,by rw[f.own k (an g)];exact ok,hs,λa ha=>⟨(ht a ha).1,(ht a ha).2.fr f h2⟩⟩
structure Fe (H:aa) (o:aj) (c:Nat) (sm:Value) (bm:Option Nat) (t:Nat) (ms:List (Nat×PL)) (cs:List (Int×Nat×jn)) (ty:TypeId) (inv:Int):Prop where
 jD:H.get c=some ⟨[sm,.map (some t),cv inv],ty,1,false⟩
 oc:o c= -20
 jC:H.cT t=some (.jC .i64 (cs.map λx=>(x.1,pv x.2.1)))
 ot:o t= -24
 sl:Sl H o (-21) sm (ms.map λx=>pv x.1) bm
 maps: ∀x∈ms,eK H o x.1 x.2
 nd:(cs.map λx=>x.2.1).Nodup
 calls: ∀x∈cs,tH H o x.2.1 x.2.2
theorem Fe.fr {H H':aa}{o o':aj}{c:Nat}{sm:Value}{bm:Option Nat}{t:Nat}{ms:List (Nat×PL)}{cs:List (Int×Nat×jn)}{ty:TypeId}{inv:Int}(h:Fe H o c sm bm t ms cs ty inv)(f:Fr H o H' o' []):Fe H' o' c sm bm t ms cs ty inv where
 jD:=by rw[f.same c (an h.jD) (by simp)];exact h.jD
 oc:=by rw[f.own c (an h.jD)];exact h.oc
 jC:=by rw[f.cT t (eF h.jC) (by simp)];exact h.jC
 ot:=by rw[f.own t (eF h.jC)];exact h.ot
 sl:=h.sl.fr f (by simp)
 maps:=λx hx=>(h.maps x hx).fr f (by simp)
 nd:=h.nd
 calls:=λx hx=>(h.calls x hx).fr f (by simp) (by simp)
def vC (H:aa)(o:aj)(c:Nat)(S:AM):Prop:=
 ∃(sm:Value) (bm:Option Nat) (t:Nat) (ms:List (Nat×PL)) (cs:List (Int×Nat×jn)) (ty:TypeId),Fe H o c sm bm t ms cs ty S.inv∧S.maps=ms.map (λx=>x.2)∧S.calls=cs.map (λx=>(x.1,x.2.2))∧ms≠[]∧∀x∈cs,x.2.2.Fa≤ms.length
theorem Ph {S:AM}{ms:List (Nat×PL)}(h:S.maps=ms.map λx=>x.2){x:Nat×PL}(hx:ms[ms.length-1]? =some x):S.now=x.2:=by
 unfold AM.now;rw[h,List.length_map,List.getD_eq_getElem?_getD,List.getElem?_map,hx];rfl
theorem IN {ms:List (Nat×PL)}(h:ms≠[]): ∃x,ms[ms.length-1]? =some x∧x∈ms:=by
 have:0<ms.length:=List.length_pos_iff.2 h;exact⟨_,List.getElem?_eq_getElem (by omega),List.getElem_mem _⟩
theorem Ya (k:Nat)(H:aa):au Tryz.prog 55 1 [(0,pv k)] H=some (.slice (some ⟨H.length,0,none⟩) 1 1,H.new ⟨[pv k],51,1,false⟩):=by kernel_rfl
theorem abC (op:kC)(no f:Int):aE Tryz.prog 111 [(0,iO op),(1,cv no),(2,cv f)]=some (.agg #[cv op.kind,cv op.key,cv op.value,cv no,cv f,.bool false,cv 0,.bool false,cv 0,cv 0,cv 0,ax]):=by kernel_rfl
section
variable {G:ae} {H:aa} {o:aj} {q:Int} {n c:Nat} {sm:Value} {bm:Option Nat} {t:Nat} {ms:List (Nat×PL)} {cs:List (Int×Nat×jn)} {ty:TypeId} {inv:Int}
theorem tJ (h:Fe H o c sm bm t ms cs ty inv)(hl:ms.length≤65536){x:Nat×PL}(hx:ms[ms.length-1]? =some x)(dX:ms≠[]):run G (n+1) 52 [pv c] H=some (pv x.1,H):=by
 rw[W3];have hlen:=h.sl.len;simp only[List.length_map] at hlen;have FQ:0<ms.length:=List.length_pos_iff.2 dX;obtain⟨qq,_,qo,iX⟩:=h.sl.idx (j:=ms.length-1) (v:=pv x.1) (by rw[List.getElem?_map,hx];rfl)
 have hw:IntKind.i64.wrap ((ms.length:Int)-1)=((ms.length-1:Nat):Int):=by rw[kr (by omega)];omega
 have L0:=ak c 0 H h.jD;simp -implicitDefEqProofs [F52,cR,aQ,L0,hlen,qc,hw,qo,iX H rfl]
theorem Pj (h:Fe H o c sm bm t ms cs ty inv)(hl:ms.length≤65536)(dX:ms≠[]){k:Nat}{cl:jn}(hk:tH H o k cl)(hf:cl.Fa≤ms.length){r:dA}{s:Value}(hs:gE H o q s r.list)(hr:r.list.length≤4194304)(hn:4194304<n):
  ∃H',run KG (n+13) 56 [pv c,pv k,dL r s] H=some (.bool (may (ms.map λx=>x.2) cl r),H')∧Ext H H':=by
 rw[Xn];obtain⟨rc,sc,tk,gk,ok,⟨ac,mc,nc,esc⟩,QM⟩:=hk;obtain⟨a,m',es⟩:=hs.isSlice;obtain⟨H1,e1⟩: ∃z,z=H.new ⟨[pv k],109,1,false⟩:=⟨_,rfl⟩;have b1:=O1 109 (pv k) H rfl rfl;rw[←e1] at b1;have l1:H1.length=H.length+1:=by rw[e1,aW]
 obtain⟨H2,e2⟩: ∃z,z=H1.new ⟨pM r s,45,1,false⟩:=⟨_,rfl⟩;have b2:=X7 r es H1;rw[←e2,l1] at b2;have x2:Ext H H2:=by rw[e2,e1];exact((Ext.refl H).new _).new _
 have g1:H2.get H.length=some ⟨[pv k],109,1,false⟩:=by rw[e2,cD (by omega),e1];exact ay
 have g2:H2.get (H.length+1)=some ⟨pM r s,45,1,false⟩:=by
  have:=ay (H:=H1) (c:=⟨pM r s,45,1,false⟩)
  rw[l1, ←e2] at this;exact this
 have Qd:=x2.get gk;have P0:=ak H.length 0 H2 g1;have K5:aq (.pointer (some ⟨k,5,none⟩)) H2=some (.bool cl.fO.isSome):=ak k 5 H2 Qd;have K0:=ak k 0 H2 Qd;have R2:DA H2 (o.from H.length 0) q (dL r s) r:=⟨s,rfl,hs.fr (x2.fr o 0) (by simp)⟩
 unfold may;cases ht:cl.fO with
 |some w=>
  obtain⟨e3,s3⟩:=QM w ht;subst e3;obtain⟨H3,r3,x3⟩:=qw (G:=KG) (n:=n+10) R2 (y:=dL (qZ w cl.op) sc) (rb:=qZ w cl.op) ⟨sc,rfl,s3.fr (x2.fr o 0) (by simp)⟩ (by omega) (by omega)
  refine⟨H3,?_,x2.trans x3⟩;rw[ht] at K5;simp -implicitDefEqProofs [Xm,b1,b2,P0,cR,aQ,K5,jJ _ _ _ g2,acN Qd,r3]
 |none=>
  rw[ht] at K5;have K0':aq (pv k) H2=some (cv cl.op.kind):=K0;obtain⟨H3,r3,x3⟩:=qw (G:=KG) (n:=n+10) R2 (y:=dL (fN 8) ax) (rb:=fN 8) (o2:=o) (q2:=0) ⟨ax,rfl,.nil⟩ (by omega) (by omega)
  have first: ∃H4,Ext H2 H4∧(if cl.op.kind≤3 then run KG (n+12) 82 [dL r s,dL (fN 8) ax] H2=some (.bool (hO r (fN 8)),H4) else H4=H2):=by
   by_cases h3:cl.op.kind≤3
   ·exact⟨H3,x3,by rw[if_pos h3];exact r3⟩
   ·exact⟨H2,.refl _,by rw[if_neg h3]⟩
  obtain⟨H4,x4,r4⟩:=first
  have R4:DA H4 ((o.from H.length 0).from H2.length 0) q (dL r s) r:=R2.ext x4
  obtain⟨H5,r5,x5⟩:=qw (G:=KG) (n:=n+10) R4 (y:=dL (fN 9) ax) (rb:=fN 9) (o2:=o) (q2:=0) ⟨ax,rfl,.nil⟩ (by omega) (by omega)
  have second: ∃H6,Ext H4 H6∧(if cl.op.kind>4 then run KG (n+12) 82 [dL r s,dL (fN 9) ax] H4=some (.bool (hO r (fN 9)),H6) else H6=H4):=by
   by_cases h3:cl.op.kind>4
   ·exact⟨H5,x5,by rw[if_pos h3];exact r5⟩
   ·exact⟨H4,.refl _,by rw[if_neg h3]⟩
  obtain⟨H6,x6,r6⟩:=second;have cB:=x4.trans x6;have xA:=x2.trans cB;have h6:=(h.fr (x2.fr o (-9))).fr (cB.fr _ (-9));obtain⟨qb,hbm⟩: ∃qb,bm=some qb:=by
   cases bm with
   |none=>obtain⟨_,hh⟩:=h.sl;simp at hh;exact absurd hh dX
   |some qb=>exact⟨qb,rfl⟩
  subst hbm;obtain⟨cap,rest,Co,esm,gq,hc,_,_⟩:=h6.sl;simp only[List.length_map] at esm hc;have Ff:eo 1 H6 sm (some (cv cl.Fa)) none=some (.slice (some ⟨qb,cl.Fa,none⟩) (ms.length-cl.Fa) (cap-cl.Fa)):=by
   rw[esm];have k1:(cl.Fa:Int)≤(ms.length:Int):=by omega
   have k2:ms.length≤cap:=by omega
   simp[eo,cV,kZ,gq,k1,k2]
  obtain⟨H7,r7,x7⟩:=AN (n:=n+1) (cap:=cap) (c:=cl) (r:=r) (f:=cl.Fa) (b0:=H.length) (b1:=H.length+1) rfl gq hf hl h6.maps (cB.get Qd) (cB.get g1) (cB.get g2) ((hs.fr (x2.fr o (-9)) (by simp)).fr (cB.fr _ (-9)) (by simp)) hr (by omega)
  have P4:=ak H.length 0 H4 (x4.get g1);have P6:=ak H.length 0 H6 (cB.get g1);have K4:=ak k 0 H4 (x4.get Qd);have K6:=ak k 4 H6 (cB.get Qd);have C6:=ak c 0 H6 h6.jD;by_cases c1:cl.op.kind≤3∧hO r (fN 8)=true
  ·rw[if_pos c1.1] at r4;refine⟨H4,?_,x2.trans x4⟩;rw[c1.2] at r4;simp -implicitDefEqProofs [Xm,b1,b2,P0,cR,aQ,K5,K0,kO,c1.1,c1.2,jJ _ _ _ g2,tF,r4,aL]
  have d1:(decide (cl.op.kind≤3)&&hO r (fN 8))=false:=by
   cases hh:(decide (cl.op.kind≤3)&&hO r (fN 8)) with
   |false=>rfl
   |true=>simp at hh;exact absurd hh c1
  by_cases c2:cl.op.kind>4∧hO r (fN 9)=true
  ·have n3: ¬cl.op.kind≤3:=by omega
   rw[if_neg n3] at r4;subst r4;rw[if_pos c2.1] at r6;refine⟨H6,?_,x2.trans cB⟩;rw[c2.2] at r6;simp -implicitDefEqProofs [-gt_iff_lt,Xm,b1,b2,P0,cR,aQ,K5,K0,kO,n3,c2.1,c2.2,jJ _ _ _ g2,tF,gP,r6,aL]
  have d2:(decide (cl.op.kind>4)&&hO r (fN 9))=false:=by
   cases hh:(decide (cl.op.kind>4)&&hO r (fN 9)) with
   |false=>rfl
   |true=>simp at hh;exact absurd hh c2
  refine⟨H7,?_,xA.trans x7⟩;rw[d1,d2];simp only[Bool.false_eq_true,if_false];obtain⟨B,hB⟩: ∃B,B=((ms.map λx=>x.2).drop cl.Fa).any λm=> !Dz m cl.op&&hO r (qZ m cl.op):=⟨_,rfl⟩
  rw[←hB] at r7 ⊢;by_cases n3:cl.op.kind≤3
  ·rw[if_pos n3] at r4;have n4: ¬cl.op.kind>4:=by omega
   rw[if_neg n4] at r6;subst r6;have f8:hO r (fN 8)=false:=by simpa[n3] using d1
   rw[f8] at r4;simp -implicitDefEqProofs [-gt_iff_lt,Xm,b1,b2,P0,P4,P6,cR,aQ,K5,K0,K4,K6,C6,kO,n3,n4,jJ _ _ _ g2,jJ _ _ _ (x4.get g2),tF,gP,r4,aL,Ff,r7]
  ·rw[if_neg n3] at r4;subst r4;by_cases n4:cl.op.kind>4
   ·rw[if_pos n4] at r6;have f9:hO r (fN 9)=false:=by simpa[n4] using d2
    rw[f9] at r6;simp -implicitDefEqProofs [-gt_iff_lt,Xm,b1,b2,P0,P4,P6,cR,aQ,K5,K0,K4,K6,C6,kO,n3,n4,jJ _ _ _ g2,jJ _ _ _ (x4.get g2),tF,gP,r6,aL,Ff,r7]
   ·rw[if_neg n4] at r6;subst r6;simp -implicitDefEqProofs [-gt_iff_lt,Xm,b1,b2,P0,P4,P6,cR,aQ,K5,K0,K4,K6,C6,kO,n3,n4,jJ _ _ _ g2,jJ _ _ _ (x4.get g2),tF,gP,aL,Ff,r7]
end
end Go.Proofs.YtjgmnoaalbbonaaGreat.Fun
namespace Go.Proofs.YtjgmnoaalbbonaaGreat.Fun
open Go Go.RowKit Go.Proofs.YtjgmnoaalbbonaaGreatA.Am
set_option maxRecDepth 10000
def Zn (H:aa)(o:aj)(q:Int)(x:Value)(e:hP):Prop:=∃s,x=Bz e s∧gE H o q s e.res.list
def q7 (H:aa)(o:aj)(c:Nat)(S:AM)(e:hP)(N:Nat)(f:FuncId)(x:Value):Prop:=
 ∃H' o',run KG N f [pv c,x] H=some (.bool (step S e).isSome,H')∧Fr H o H' o' [-20, -21, -22, -24]∧∀S',step S e=some S'→vC H' o' c S'
theorem tK {H:aa}{t:Nat}{es:List (Int×Value)}{n:Int}{z:Value}(h:H.cT t=some (.jC .i64 es))(hf:es.find? (λe=>e.1==n)=none):n8 .i64 z false (.map (some t)) (cv n) H=some z:=by
 simp[n8,h,hf]
theorem uG {H:aa}{t:Nat}{es:List (Int×Value)}{n:Int}{z:Value}{x:Int×Value}(h:H.cT t=some (.jC .i64 es))(hf:es.find? (λe=>e.1==n)=some x):n8 .i64 z false (.map (some t)) (cv n) H=some x.2:=by
 simp[n8,h,hf]
theorem lI {cs:List (Int×Nat×jn)}{n:Int}:(cs.map λx=>(x.1,pv x.2.1)).find? (λe=>e.1==n)=(cs.find? λe=>e.1==n).map λx=>(x.1,pv x.2.1):=by
 rw[List.find?_map];rfl
theorem zD {cs:List (Int×Nat×jn)}{n:Int}:j9 (cs.map λx=>(x.1,x.2.2)) n=j9 cs n:=Pf _ cs n
theorem IP {cs:List (Int×Nat×jn)}{n:Int}:(cs.map λx=>(x.1,pv x.2.1)).findIdx? (λe=>e.1==n)=j9 cs n:=by
 unfold j9;rw[List.findIdx?_map];rfl
section
variable {H:aa} {o:aj} {q:Int} {n c:Nat} {S:AM} {e:hP} {x:Value}
theorem Fg (h:vC H o c S)(he:Zn H o q x e)(hl:e.res.list.length≤4194303)(Fc:S.maps.length≤65000)(hk:e.kind=4)(hn:4194304<n):q7 H o c S e (n+18) 27 x:=by
 obtain⟨sm,bm,t,ms,cs,ty,hp,em,ec,dX,mr⟩:=h;obtain⟨s,rfl,hs⟩:=he;have D6:ms.length≤65000:=by rw[em] at Fc;simpa using Fc
 obtain⟨a,m',es⟩:=hs.isSlice;unfold q7;rw[U9];have b1:=LR e es H;obtain⟨H1,e1⟩: ∃z,z=H.new ⟨aM e s,47,1,false⟩:=⟨_,rfl⟩;rw[←e1] at b1;have x1:Ext H H1:=by rw[e1];exact(Ext.refl H).new _
 have f1:=x1.fr o (-9);have g1:H1.get H.length=some ⟨aM e s,47,1,false⟩:=by rw[e1];exact ay
 have l1:H1.length=H.length+1:=by rw[e1,aW]
 have L11:=ak H.length 11 H1 g1;obtain⟨H2,r2,x2⟩:=LM (n:=n+12) (hs.fr f1 (by simp)) hl (by omega)
 have p1:=hp.fr f1;unfold step;rw[if_pos hk];by_cases Pk:AJ (bd e.res.list)
 case neg=>
  rw[if_neg Pk] at r2;refine⟨H2,_,?_,(f1.wk (by simp)).JA (x2.fr _ (-9)),λS' h'=>?_⟩
  ·rw[if_neg (by rintro⟨h,_⟩;exact Pk h)]
   simp -implicitDefEqProofs [F27,b1,aQ,L11,r2,iw,da,aL]
  ·rw[if_neg (by rintro⟨h,_⟩;exact Pk h)] at h';cases h'
 rw[if_pos Pk] at r2;obtain⟨r2,m2⟩:=r2;have f2:=x2.fr (o.from H.length (-9)) H1.length
 have p2:=p1.fr f2;have f12:Fr H o H2 ((o.from H.length (-9)).from H1.length H1.length) [-20, -21, -22, -24]:=(f1.wk (by simp)).JA f2
 have C1:=ak c 1 H2 p2.jD;have C0:=ak c 0 H2 p2.jD;have IQ:BH (.map (some t)) H2=some (cv cs.length):=by simp[BH,p2.jC]
 by_cases lK:cs=[]
 case neg=>
  have FQ:0<cs.length:=List.length_pos_iff.2 lK;have Pl:(cs.length:Int)>0:=by omega
  have SC: ¬S.calls=[]:=by rw[ec];simpa using lK
  refine⟨H2,_,?_,f12,λS' h'=>?_⟩
  ·rw[if_neg (by rintro⟨_,h,_⟩;exact SC h)]
   simp -implicitDefEqProofs [-gt_iff_lt,F27,b1,aQ,L11,r2,iw,da,aL,cR,C1,IQ,gP,FQ,Pl]
  ·rw[if_neg (by rintro⟨_,h,_⟩;exact SC h)] at h';cases h'
 subst lK;simp only[List.length_nil,Int.natCast_zero] at IQ;obtain⟨y,hy,hym⟩:=IN dX;have Pm:=tJ (G:=KG) (n:=n+16) p2 (by omega) hy dX
 have SD:=OY (G:=KG) (n:=n+16) (p2.maps y hym);have LU:=Ph em hy;by_cases hz:y.2=[]
 case neg=>
  have FQ:0<y.2.length:=List.length_pos_iff.2 hz;have Pl:(y.2.length:Int)>0:=by omega
  refine⟨H2,_,?_,f12,λS' h'=>?_⟩
  ·rw[if_neg (by rintro⟨_,_,h⟩;rw[LU] at h;exact hz h)]
   simp -implicitDefEqProofs [-gt_iff_lt,F27,b1,aQ,L11,r2,iw,da,aL,cR,C1,IQ,gP,Pm,SD,FQ,Pl]
  ·rw[if_neg (by rintro⟨_,_,h⟩;rw[LU] at h;exact hz h)] at h';cases h'
 rw[hz] at SD;simp only[List.length_nil,Int.natCast_zero] at SD;have ln:AJ (bd e.res.list)∧S.calls=[]∧S.now=[]:=⟨Pk,by rw[ec];rfl,by rw[LU];exact hz⟩
 rw[if_pos ln];have bs:=Ya H1.length H2;obtain⟨H3,e3⟩: ∃z,z=H2.new ⟨[pv H1.length],51,1,false⟩:=⟨_,rfl⟩;rw[←e3] at bs;have x3:Ext H2 H3:=by rw[e3];exact(Ext.refl H2).new _
 have g3:H3.get H2.length=some ⟨[pv H1.length],51,1,false⟩:=by rw[e3];exact ay
 have f3:=x3.fr ((o.from H.length (-9)).from H1.length H1.length) (-9)
 have p3:=p2.fr f3;have m3:=m2.fr f3 (by simp)
 obtain⟨s',H4,o4,b4,ra,sl4,f4,ow4⟩:=p3.sl.LQ (tE:=51) (by_:=8) g3 rfl (by omega) (by simp;omega)
 have Yb:H4.get c=some ⟨[sm,.map (some t),cv S.inv],ty,1,false⟩:=by rw[f4.same c (an p3.jD) (by rw[p3.oc];simp)];exact p3.jD
 have oc4:o4 c= -20:=by rw[f4.own c (an p3.jD)];exact p3.oc
 have st:=kE c 0 s' H4 Yb rfl (by simp) (by obtain⟨a,k,c,rfl⟩:=sl4.isSlice;rfl) (by obtain⟨a,k,c,rfl⟩:=sl4.isSlice;rfl) (by obtain⟨a,k,c,rfl⟩:=sl4.isSlice;rfl)
 simp only[List.set_cons_zero] at st;obtain⟨H5,e5⟩: ∃z,z=H4.put c ⟨[s',.map (some t),cv S.inv],ty,1,false⟩:=⟨_,rfl⟩;rw[←e5] at st;have f5:Fr H4 o4 H5 o4 [-20]:=by rw[e5];exact(Fr.refl _ _ _).put λ_=>by simp[oc4]
 refine⟨H5,o4,?_,((f12.JA f3).tr (f4.wk (by simp))).tr (f5.wk (by simp)),λS' h'=>?_⟩
 ·simp -implicitDefEqProofs [-gt_iff_lt,F27,b1,aQ,L11,r2,iw,da,aL,cR,C1,C0,IQ,gP,Pm,SD,bs,ra,st]
 ·cases h';have Yc:H4.cT t=some (.jC .i64 []):=by rw[f4.cT t (eF p3.jC) (by rw[p3.ot];simp)];exact p3.jC
  refine⟨s',b4,t,ms++[(H1.length,e.res.list)],[],ty,⟨by rw[e5];exact aD Yb,by rw[f5.own c (an Yb)];exact oc4,?_,?_,?_,?_,.nil,λy hy=>by cases hy⟩,by simp[em],by simp[ln.2.1],by simp,λy hy=>by cases hy⟩
  ·rw[f5.cT t (eF Yc) (by rw[f4.own t (eF p3.jC),p3.ot];simp)]
   exact Yc
  ·rw[f5.own t (eF Yc),f4.own t (eF p3.jC)];exact p3.ot
  ·have:=sl4.fr f5 (by simp)
   simpa using this
  ·intro y hy;rcases List.mem_append.1 hy with hy|hy
   ·exact((p3.maps y hy).fr f4 (by simp)).fr f5 (by simp)
   ·have:y=(H1.length,e.res.list):=by simpa using hy
    subst this;exact(m3.fr f4 (by simp)).fr f5 (by simp)
theorem He (h:vC H o c S)(he:Zn H o q x e)(Fc:S.maps.length≤65000)(hk:e.kind=1):q7 H o c S e (n+18) 28 x:=by
 obtain⟨sm,bm,t,ms,cs,ty,hp,em,ec,dX,mr⟩:=h;obtain⟨s,rfl,hs⟩:=he;have D6:ms.length≤65000:=by rw[em] at Fc;simpa using Fc
 have FQ:0<ms.length:=List.length_pos_iff.2 dX;obtain⟨a,m',es⟩:=hs.isSlice;unfold q7;rw[W1];have b1:=LR e es H;obtain⟨H1,e1⟩: ∃z,z=H.new ⟨aM e s,47,1,false⟩:=⟨_,rfl⟩;rw[←e1] at b1;have x1:Ext H H1:=by rw[e1];exact(Ext.refl H).new _
 have f1:=x1.fr o (-9);have g1:H1.get H.length=some ⟨aM e s,47,1,false⟩:=by rw[e1];exact ay
 have p1:=hp.fr f1;have E0:aq (.pointer (some ⟨H.length,1,none⟩)) H1=some (cv e.bO):=ak H.length 1 H1 g1;have E2:aq (.pointer (some ⟨H.length,2,none⟩)) H1=some (cv e.no):=ak H.length 2 H1 g1;have E3:aq (.pointer (some ⟨H.length,3,none⟩)) H1=some (cv e.op.kind):=ak H.length 3 H1 g1;have C1:aq (.pointer (some ⟨c,1,none⟩)) H1=some (.map (some t)):=ak c 1 H1 p1.jD;have C2:aq (.pointer (some ⟨c,2,none⟩)) H1=some (cv S.inv):=ak c 2 H1 p1.jD;have hkx:j9 S.calls e.bO=j9 cs e.bO:=by rw[ec];exact zD
 have rO:Fr H o H1 (o.from H.length (-9)) [-20, -21, -22, -24]:=f1.wk (by simp)
 unfold step;rw[if_neg (by omega),if_pos hk,hkx]
 have bad:(e.bO<0∨(j9 cs e.bO).isSome=true∨e.op.kind<1∨e.op.kind>10∨e.no≠S.inv)→
   TM (run KG (n+17)) (n+17) (pv c) (Bz e s) H=some (.bool false,H1):=by
  intro Ge;by_cases k1:e.bO<0
  ·simp -implicitDefEqProofs [TM,b1,aQ,E0,bT,k1,aL]
  cases hx:j9 cs e.bO with
  |some j=>
   obtain⟨y,Hg,hy2,hy3⟩:=uF hx;have ml:=uG (z:=.pointer none) p1.jC (n:=e.bO) (x:=(y.1,pv y.2.1)) (by rw[lI,hy3];rfl)
   simp -implicitDefEqProofs [TM,b1,aQ,cR,E0,C1,bT,k1,aL,ml,kq _ uC]
  |none=>
   have ml:=tK (z:=.pointer none) p1.jC (n:=e.bO) (by rw[lI,qx hx];rfl)
   by_cases k2:e.op.kind<1
   ·simp -implicitDefEqProofs [TM,b1,aQ,cR,E0,E3,C1,bT,k1,k2,aL,ml,kq _ uC]
   by_cases k3:e.op.kind>10
   ·simp -implicitDefEqProofs [-gt_iff_lt,TM,b1,aQ,cR,E0,E3,C1,bT,gP,k1,k2,k3,aL,ml,kq _ uC]
   ·have k4: ¬e.no=S.inv:=by
     rcases Ge with g|g|g|g|g
     ·exact absurd g k1
     ·rw[hx] at g;simp at g
     ·exact absurd g k2
     ·exact absurd g k3
     ·exact g
    simp -implicitDefEqProofs [-gt_iff_lt,TM,b1,aQ,cR,E0,E2,E3,C1,C2,bT,gP,gQ,k1,k2,k3,k4,aL,ml,kq _ uC]
 by_cases hc:e.bO<0∨(j9 cs e.bO).isSome=true∨e.op.kind<1∨e.op.kind>10∨e.no≠S.inv
 ·rw[if_pos hc];exact⟨H1,_,bad hc,rO,λS' h'=>by cases h'⟩
 rw[if_neg hc];have k1: ¬e.bO<0:=λh=>hc (.inl h)
 have kx:j9 cs e.bO=none:=by
  cases hx:j9 cs e.bO with
  |none=>rfl
  |some j=>exact absurd (.inr (.inl (by rw[hx];rfl))) hc
 have k2: ¬e.op.kind<1:=λh=>hc (.inr (.inr (.inl h)))
 have k3: ¬e.op.kind>10:=λh=>hc (.inr (.inr (.inr (.inl h))))
 have k4:e.no=S.inv:=Classical.byContradiction λh=>hc (.inr (.inr (.inr (.inr h))))
 have ml:=tK (z:=.pointer none) p1.jC (n:=e.bO) (by rw[lI,qx kx];rfl)
 have nq:ai Tryz.prog .neq 3 (cv e.no) (cv S.inv)=some (.bool false):=by rw[gQ,k4];simp
 obtain⟨iv,eiv⟩: ∃iv,iv=IntKind.i64.wrap (S.inv+1):=⟨_,rfl⟩;have st2:=kE c 2 (cv iv) H1 p1.jD rfl (by simp) rfl rfl rfl
 obtain⟨H2,e2⟩: ∃z,z=H1.put c ⟨[sm,.map (some t),cv iv],ty,1,false⟩:=⟨_,rfl⟩;have acP:bS 1 (.pointer (some ⟨c,2,none⟩)) (cv iv) H1=some (undef,H2):=by rw[e2];exact st2
 have f2:Fr H1 (o.from H.length (-9)) H2 (o.from H.length (-9)) [-20]:=by rw[e2];exact(Fr.refl _ _ _).put λ_=>by simp[p1.oc]
 have Fh:H2.get c=some ⟨[sm,.map (some t),cv iv],ty,1,false⟩:=by rw[e2];exact aD p1.jD
 have tP:=an hp.jD;have g2:H2.get H.length=some ⟨aM e s,47,1,false⟩:=by rw[e2,aS (by omega)];exact g1
 have Yd:H2.cT t=some (.jC .i64 (cs.map λx=>(x.1,pv x.2.1))):=by rw[f2.cT t (eF p1.jC) (by rw[p1.ot];simp)];exact p1.jC
 have sl2:=p1.sl.fr f2 (by simp)
 have D1:aq (.pointer (some ⟨c,1,none⟩)) H2=some (.map (some t)):=ak c 1 H2 Fh;have D0:aq (pv c) H2=some sm:=ak c 0 H2 Fh;have D0':aq (.pointer (some ⟨c,0+0,none⟩)) H2=some sm:=D0;have E0':aq (.pointer (some ⟨H.length,1,none⟩)) H2=some (cv e.bO):=ak H.length 1 H2 g2;have E2':aq (.pointer (some ⟨H.length,2,none⟩)) H2=some (cv e.no):=ak H.length 2 H2 g2;have oz:=sl2.len;simp only[List.length_map] at oz;have hw:IntKind.i64.wrap ((ms.length:Int)-1)=((ms.length-1:Nat):Int):=by rw[kr (by omega)];omega
 obtain⟨cl,Pn⟩: ∃cl:jn,cl=⟨e.op,e.no,ms.length-1,none⟩:=⟨_,rfl⟩;have ab:aE Tryz.prog 111 [(0,iO e.op),(1,cv e.no),(2,cv (ms.length-1:Nat))]=some (.agg #[cv e.op.kind,cv e.op.key,cv e.op.value,cv e.no,cv (ms.length-1:Nat),.bool false,cv 0,.bool false,cv 0,cv 0,cv 0,ax]):=abC _ _ _;obtain⟨H3,e3⟩: ∃z,z=H2.new ⟨iJ cl bM ax,111,1,false⟩:=⟨_,rfl⟩;have bx:cO 111 (.agg #[cv e.op.kind,cv e.op.key,cv e.op.value,cv e.no,cv (ms.length-1:Nat),.bool false,cv 0,.bool false,cv 0,cv 0,cv 0,ax]) H2=some (pv H2.length,H3):=by
  rw[e3,Pn];simp[cO,Value.cells,av,aO,bM];rfl
 have f3:Fr H2 (o.from H.length (-9)) H3 ((o.from H.length (-9)).up H2.length (-22)) []:=by rw[e3];exact(Fr.refl _ _ _).new _ _
 have g3:H3.get H2.length=some ⟨iJ cl bM ax,111,1,false⟩:=by rw[e3];exact ay
 have aaR:H3.cT t=some (.jC .i64 (cs.map λx=>(x.1,pv x.2.1))):=by rw[f3.cT t (eF Yd) (by simp)];exact Yd
 have acQ:H3.get c=some ⟨[sm,.map (some t),cv iv],ty,1,false⟩:=by rw[f3.same c (an Fh) (by simp)];exact Fh
 have D1':aq (.pointer (some ⟨c,1,none⟩)) H3=some (.map (some t)):=ak c 1 H3 acQ;have g2':H3.get H.length=some ⟨aM e s,47,1,false⟩:=by rw[f3.same _ (an g2) (by simp)];exact g2
 have acR:aq (.pointer (some ⟨H.length,1,none⟩)) H3=some (cv e.bO):=ak H.length 1 H3 g2';have put:Go.Proofs.YtjgmnoaalbbonaaGreatA.Am.jS .i64 (.map (some t)) (cv e.bO) (pv H2.length) H3=some (undef,H3.eQ t (.jC .i64 ((cs++[(e.bO,H2.length,cl)]).map λx=>(x.1,pv x.2.1)))):=by
  have:FG (cs.map λx=>(x.1,pv x.2.1)) e.bO (pv H2.length)=(cs++[(e.bO,H2.length,cl)]).map λx=>(x.1,pv x.2.1):=by
   unfold FG;rw[IP,kx];simp
  simp[Go.Proofs.YtjgmnoaalbbonaaGreatA.Am.jS,aaR,this]
 obtain⟨H4,e4⟩: ∃z,z=H3.eQ t (.jC .i64 ((cs++[(e.bO,H2.length,cl)]).map λx=>(x.1,pv x.2.1))):=⟨_,rfl⟩
 rw[←e4] at put;have ot3:((o.from H.length (-9)).up H2.length (-22)) t= -24:=by rw[f3.own t (eF Yd)];exact p1.ot
 have f4:Fr H3 ((o.from H.length (-9)).up H2.length (-22)) H4 ((o.from H.length (-9)).up H2.length (-22)) [-24]:=by rw[e4];exact(Fr.refl _ _ _).eQ λ_=>by simp[ot3]
 have evm:jE (.map (some t)) (.map (some t))=true:=by simp[jE,pa]
 refine⟨H4,(o.from H.length (-9)).up H2.length (-22),?_,((rO.tr (f2.wk (by simp))).JA f3).tr (f4.wk (by simp)),λS' h'=>?_⟩
 ·simp -implicitDefEqProofs [-gt_iff_lt,TM,b1,aQ,cR,E0,E2,E3,C1,C2,bT,gP,nq,k1,k2,k3,aL,ml,kq _ uC,gS, ←eiv,acP,D1,D1',D0,E0',E2',acR,acO g2,oz,qc,hw,ab,bx,put,evm]
 ·cases h';have Mm: ∀y∈cs,tH H4 ((o.from H.length (-9)).up H2.length (-22)) y.2.1 y.2.2:=λy hy=>(((p1.calls y hy).fr f2 (by simp) (by simp)).fr f3 (by simp) (by simp)).fr f4 (by simp) (by simp)
  refine⟨sm,bm,t,ms,cs++[(e.bO,H2.length,cl)],ty,⟨?_,?_,?_,?_,?_,?_,?_,?_⟩,em,?_,dX,?_⟩
  ·rw[f4.same c (by have:=f3.size;have:=f2.size;have:=x1.size;omega) (by rw[f3.own c (an Fh),p1.oc];simp),f3.same c (an Fh) (by simp),Fh,eiv]
  ·rw[f3.own c (an Fh)];exact p1.oc
  ·rw[e4];exact sT aaR
  ·exact ot3
  ·exact(sl2.fr f3 (by simp)).fr f4 (by simp)
  ·exact λy hy=>(((p1.maps y hy).fr f2 (by simp)).fr f3 (by simp)).fr f4 (by simp)
  ·rw[List.map_append,List.nodup_append];refine⟨p1.nd,by simp,λa ha b hb=>?_⟩
   simp only[List.map_cons,List.map_nil,List.mem_singleton] at hb;obtain⟨y,hy,rfl⟩:=List.mem_map.1 ha;obtain⟨_,_,_,gy,_⟩:=p1.calls y hy;have:=an gy
   have:=f2.size
   omega
  ·intro y hy;rcases List.mem_append.1 hy with hy|hy
   ·exact Mm y hy
   ·have:y=(e.bO,H2.length,cl):=by simpa using hy
    subst this;exact⟨bM,ax,_,by rw[f4.same _ (an g3) (by rw[aH];simp)];exact g3,aH,⟨_,_,_,rfl⟩,λa ha=>by rw[Pn] at ha;cases ha⟩
  ·simp[ec,Pn,em]
  ·intro y hy;rcases List.mem_append.1 hy with hy|hy
   ·exact mr y hy
   ·have:y=(e.bO,H2.length,cl):=by simpa using hy
    subst this;rw[Pn];simp only;omega
end
end Go.Proofs.YtjgmnoaalbbonaaGreat.Fun
namespace Go.Proofs.YtjgmnoaalbbonaaGreat.Fun
open Go Go.RowKit Go.Proofs.YtjgmnoaalbbonaaGreatA.Am
set_option maxRecDepth 10000
theorem acS {H:aa}{k:Nat}{a0 a1 a2 a3 a4 a5 b0 b1 b2 b3 b4 b5:Value}{t:TypeId}(r:dA){s:Value}{a:Option Addr}{m n:Nat}(es:s= .slice a m n)(h:H.get k=some ⟨[a0,a1,a2,a3,a4,a5,b0,b1,b2,b3,b4,b5],t,1,false⟩):
  bS 6 (.pointer (some ⟨k,6,none⟩)) (dL r s) H=some (undef,H.put k ⟨[a0,a1,a2,a3,a4,a5,cv r.qY,.bool r.found,cv r.key,cv r.value,cv r.n,s],t,1,false⟩):=by
 subst es;simp[bS,bl,h,Value.cells,known,av,bB]
theorem tH.GB {H:aa}{o:aj}{k k':Nat}{c:jn}{b:eu}(h:tH H o k' c)(hk:k'≠k)(ok:o k= -22):tH (H.put k b) o k' c:=by
 obtain⟨r,s,ty,g,ok',hs,ht⟩:=h;exact⟨r,s,ty,by rw[aS hk];exact g,ok',hs,λa ha=>⟨(ht a ha).1,(ht a ha).2.mv λi hi ho=>⟨aS (by rintro rfl;rw[ok] at ho;omega),ho⟩⟩⟩
theorem Fi {α:Type}{l:List α}{j:Nat}{a:α}(h:l[j]? =some a):l.set j a=l:=by
 apply List.ext_getElem?;intro i;rw[List.getElem?_set];split
 ·rename_i e;subst e;have:=(List.getElem?_eq_some_iff.1 h).1
  rw[if_pos this,h]
 ·rfl
theorem LV {α:Type}{l:List α}(h:l.Nodup){i j:Nat}{a:α}(hi:l[i]? =some a)(hj:l[j]? =some a):i=j:=by
 obtain⟨Ms,DQ⟩:=List.getElem?_eq_some_iff.1 hi;obtain⟨kc,jb⟩:=List.getElem?_eq_some_iff.1 hj;have hp:=List.pairwise_iff_getElem.1 h;rcases Nat.lt_trichotomy i j with g|g|g
 ·exact absurd (DQ.trans jb.symm) (hp i j Ms kc g)
 ·exact g
 ·exact absurd (jb.trans DQ.symm) (hp j i kc Ms g)
theorem q8 {α β:Type}(f:α→β)(l:List α)(j:Nat):(l.eraseIdx j).map f=(l.map f).eraseIdx j:=by
 rw[List.eraseIdx_eq_take_drop_succ,List.eraseIdx_eq_take_drop_succ];simp[List.map_take,List.map_drop]
section
variable {H:aa} {o:aj} {q:Int} {n c:Nat} {S:AM} {e:hP} {x:Value}
theorem LW (h:vC H o c S)(he:Zn H o q x e)(Fc:S.maps.length≤65000)(hb: ∀m∈S.maps,m.length<4194303)(hk:e.kind=2)(hn:4194304<n):q7 H o c S e (n+18) 29 x:=by
 obtain⟨sm,bm,t,ms,cs,ty,hp,em,ec,dX,mr⟩:=h;obtain⟨s,rfl,hs⟩:=he;have D6:ms.length≤65000:=by rw[em] at Fc;simpa using Fc
 obtain⟨a,m',es⟩:=hs.isSlice;unfold q7;rw[Wh];have b1:=LR e es H;obtain⟨H1,e1⟩: ∃z,z=H.new ⟨aM e s,47,1,false⟩:=⟨_,rfl⟩;rw[←e1] at b1;have x1:Ext H H1:=by rw[e1];exact(Ext.refl H).new _
 have f1:=x1.fr o (-9);obtain⟨o1,eo1⟩: ∃z,z=o.from H.length (-9):=⟨_,rfl⟩
 rw[←eo1] at f1;have g1:H1.get H.length=some ⟨aM e s,47,1,false⟩:=by rw[e1];exact ay
 have p1:=hp.fr f1;have E0:aq (.pointer (some ⟨H.length,1,none⟩)) H1=some (cv e.bO):=ak H.length 1 H1 g1;have E2:aq (.pointer (some ⟨H.length,2,none⟩)) H1=some (cv e.no):=ak H.length 2 H1 g1;have C1:aq (.pointer (some ⟨c,1,none⟩)) H1=some (.map (some t)):=ak c 1 H1 p1.jD;have hkx:j9 S.calls e.bO=j9 cs e.bO:=by rw[ec];exact zD
 have rO:Fr H o H1 o1 [-20, -21, -22, -24]:=f1.wk (by simp)
 unfold step;rw[if_neg (by omega),if_neg (by omega),if_pos hk,hkx]
 cases hx:j9 cs e.bO with
 |none=>
  have ml:=tK (z:=.pointer none) p1.jC (n:=e.bO) (by rw[lI,qx hx];rfl)
  refine⟨H1,_,?_,rO,λS' h'=>by cases h'⟩
  simp -implicitDefEqProofs [Zk,b1,aQ,cR,E0,C1,ml,fK _ uC,aL]
 |some j=>
  obtain⟨y,Hg,hy2,hy3⟩:=uF hx;have vb:y∈cs:=List.mem_of_getElem? Hg;have hj:j<cs.length:=(List.getElem?_eq_some_iff.1 Hg).1;have ml:=uG (z:=.pointer none) p1.jC (n:=e.bO) (x:=(y.1,pv y.2.1)) (by rw[lI,hy3];rfl)
  have pr:S.calls[j]? =some (y.1,y.2.2):=by rw[ec,List.getElem?_map,Hg];rfl
  simp only[pr];obtain⟨yk,k,cl⟩:=y;simp only at ml pr vb Hg ⊢;obtain⟨rc,sc,tk,gk,okk,⟨ac,mc,nc,esc⟩,QM⟩:=p1.calls _ vb;simp only at gk okk QM;have K3:aq (.pointer (some ⟨k,3,none⟩)) H1=some (cv cl.no):=ak k 3 H1 gk;have K5:aq (.pointer (some ⟨k,5,none⟩)) H1=some (.bool cl.fO.isSome):=ak k 5 H1 gk;obtain⟨z,hz,hzm⟩:=IN dX;have LU:S.now=z.2:=Ph em hz;rw[LU];by_cases c1:cl.no=e.no
  case neg=>
   have c1':decide (cl.no=e.no)=false:=decide_eq_false c1;refine⟨H1,_,?_,rO,λS' h'=>by rw[if_pos (.inl c1)] at h';cases h'⟩
   rw[if_pos (.inl c1)];simp -implicitDefEqProofs [Zk,b1,aQ,cR,E0,E2,C1,ml,fK _ uC,aL,K3,gQ,c1]
  cases c2:cl.fO.isSome with
  |true=>
   refine⟨H1,_,?_,rO,λS' h'=>by rw[if_pos (.inr (.inl rfl))] at h';cases h'⟩
   rw[if_pos (.inr (.inl rfl))];rw[c2] at K5;simp -implicitDefEqProofs [Zk,b1,aQ,cR,E0,E2,C1,ml,fK _ uC,aL,K3,K5,gQ,c1]
  |false=>
   rw[c2] at K5;have Pm:=tJ (G:=KG) (n:=n+16) p1 (by omega) hz dX
   obtain⟨H2,r2,x2⟩:=rK (G:=KG) (n:=n+11) (p1.maps z hzm) cl.op (by omega)
   have evO:=SB cl.op;cases c3:Dz z.2 cl.op with
   |false=>
    rw[c3] at r2;refine⟨H2,_,?_,rO.JA (x2.fr o1 (-9)),λS' h'=>by rw[if_pos (.inr (.inr rfl))] at h';cases h'⟩
    rw[if_pos (.inr (.inr rfl))];simp -implicitDefEqProofs [Zk,b1,aQ,cR,E0,E2,C1,ml,fK _ uC,aL,K3,K5,gQ,c1,Pm,DB gk,DB (x2.get gk),r2,da,evO]
   |true=>
    rw[c3] at r2;rw[if_neg (by rintro(h|h|h);exact h c1;cases h;cases h)]
    have f2:=x2.fr o1 (-9);obtain⟨o2,Ye⟩: ∃z,z=o1.from H1.length (-9):=⟨_,rfl⟩
    rw[←Ye] at f2;have p2:=p1.fr f2;have Qd:=x2.get gk;have aaS:=tJ (G:=KG) (n:=n+16) p2 (by omega) hz dX
    obtain⟨ya,H3,r3,⟨s3,eya,Qe⟩,x3⟩:=E8 (G:=KG) (n:=n+9) (p2.maps z hzm) cl.op (by omega)
    subst eya;have f3:=x3.fr o2 (-23);have aaT:gE H3 (o2.from H2.length (-23)) (-23) s3 (qZ z.2 cl.op).list:=X4 Qe λi hi _=>ie hi
    obtain⟨o3,eo3⟩: ∃z,z=o2.from H2.length (-23):=⟨_,rfl⟩
    rw[←eo3] at f3 aaT;have p3:=p2.fr f3;have gk3:=x3.get Qd;have ok3:o3 k= -22:=by rw[f3.own k (an Qd),f2.own k (an gk)];exact okk
    obtain⟨a3,m3,es3⟩:=Qe.isSlice;have st5:=kE k 5 (.bool true) H3 gk3 rfl (by simp) rfl rfl rfl
    simp only[List.set_cons_succ,List.set_cons_zero] at st5;have st6:=acS (qZ z.2 cl.op) es3 (aD (c:=⟨[cv cl.op.kind,cv cl.op.key,cv cl.op.value,cv cl.no,cv cl.Fa,.bool true,cv rc.qY,.bool rc.found,cv rc.key,cv rc.value,cv rc.n,sc],tk,1,false⟩) gk3);rw[vP] at st6;obtain⟨TW,Pn⟩: ∃TW:jn,TW={cl with fO:=some z.2}:=⟨_,rfl⟩;obtain⟨H5,e5⟩: ∃z',z'=H3.put k ⟨iJ TW (qZ z.2 cl.op) s3,tk,1,false⟩:=⟨_,rfl⟩;have acT:bS 6 (.pointer (some ⟨k,6,none⟩)) (dL (qZ z.2 cl.op) s3) (H3.put k ⟨[cv cl.op.kind,cv cl.op.key,cv cl.op.value,cv cl.no,cv cl.Fa,.bool true,cv rc.qY,.bool rc.found,cv rc.key,cv rc.value,cv rc.n,sc],tk,1,false⟩)=some (undef,H5):=by
     rw[st6,e5,Pn];rfl
    have f5:Fr H3 o3 H5 o3 [-22]:=by rw[e5];exact(Fr.refl _ _ _).put λ_=>by simp[ok3]
    have gk5:H5.get k=some ⟨iJ TW (qZ z.2 cl.op) s3,tk,1,false⟩:=by rw[e5];exact aD gk3
    have p5:Fe H5 o3 c sm bm t ms (cs.set j (yk,k,TW)) ty S.inv:=by
     refine⟨by rw[f5.same c (an p3.jD) (by rw[p3.oc];simp)];exact p3.jD,p3.oc,?_,p3.ot,p3.sl.fr f5 (by simp),λw hw=>(p3.maps w hw).fr f5 (by simp),?_,?_⟩
     ·rw[f5.cT t (eF p3.jC) (by rw[p3.ot];simp),p3.jC,List.map_set]
      rw[Fi];rw[List.getElem?_map,Hg];rfl
     ·rw[List.map_set,Fi]
      ·exact p3.nd
      ·rw[List.getElem?_map,Hg];rfl
     ·intro w hw;obtain⟨i,hi⟩:=List.getElem?_of_mem hw;by_cases DN:j=i
      ·subst DN;rw[List.getElem?_set_self hj] at hi;cases hi;exact⟨qZ z.2 cl.op,s3,tk,gk5,ok3,⟨_,_,_,es3⟩,λa ha=>by
        rw[Pn] at ha;cases ha;exact⟨by rw[Pn],aaT.fr f5 (by simp)⟩⟩
      ·rw[List.getElem?_set_ne DN] at hi;have hwm:w∈cs:=List.mem_of_getElem? hi;have SC:w.2.1≠k:=λe=>DN (LV p3.nd (a:=k) (by rw[List.getElem?_map,Hg];rfl) (by rw[List.getElem?_map,hi];simp[e]))
       rw[e5];exact(p3.calls w hwm).GB SC ok3
    have C5:aq (pv c) H5=some sm:=ak c 0 H5 p5.jD;have aaU:=tJ (G:=KG) (n:=n+16) p5 (by omega) hz dX
    have op5:TW.op=cl.op:=by rw[Pn]
    have L5:=DB gk5;rw[op5] at L5;obtain⟨p',H6,r6,x6,_,h6⟩:=Ha (n:=n+9) (p5.maps z hzm) (by have:=hb z.2 (by rw[em];exact List.mem_map_of_mem hzm);omega) cl.op (by omega)
    obtain⟨hp6,m6⟩:=h6 c3;have f6:=x6.fr o3 p';obtain⟨o6,eo6⟩: ∃z,z=o3.from H5.length p':=⟨_,rfl⟩
    have m6':eK H6 o6 p' (My z.2 cl.op):=m6.relabel λi hi ho=>by
     rcases Nat.lt_or_ge i H5.length with g|g
     ·rw[nW g] at ho;omega
     ·rw[eo6,ie g]
    rw[←eo6] at f6;have p6:=p5.fr f6;have C6:aq (pv c) H6=some sm:=ak c 0 H6 p6.jD;have bs:=Ya p' H6;obtain⟨H7,e7⟩: ∃z,z=H6.new ⟨[pv p'],51,1,false⟩:=⟨_,rfl⟩;rw[←e7] at bs;have x7:Ext H6 H7:=by rw[e7];exact(Ext.refl H6).new _
    have g7:H7.get H6.length=some ⟨[pv p'],51,1,false⟩:=by rw[e7];exact ay
    have f7:=x7.fr o6 (-9);obtain⟨o7,eo7⟩: ∃z,z=o6.from H6.length (-9):=⟨_,rfl⟩
    rw[←eo7] at f7;have p7:=p6.fr f7;have m7:=m6'.fr f7 (by simp)
    have C7:aq (pv c) H7=some sm:=ak c 0 H7 p7.jD;obtain⟨s',H8,o8,b8,ra,sl8,f8,ow8⟩:=p7.sl.LQ (tE:=51) (by_:=8) g7 rfl (by omega) (by simp;omega)
    have aaV:H8.get c=some ⟨[sm,.map (some t),cv S.inv],ty,1,false⟩:=by rw[f8.same c (an p7.jD) (by rw[p7.oc];simp)];exact p7.jD
    have oc8:o8 c= -20:=by rw[f8.own c (an p7.jD)];exact p7.oc
    have st9:=kE c 0 s' H8 aaV rfl (by simp) (by obtain⟨a,k,c,rfl⟩:=sl8.isSlice;rfl) (by obtain⟨a,k,c,rfl⟩:=sl8.isSlice;rfl) (by obtain⟨a,k,c,rfl⟩:=sl8.isSlice;rfl)
    simp only[List.set_cons_zero] at st9;obtain⟨H9,e9⟩: ∃z,z=H8.put c ⟨[s',.map (some t),cv S.inv],ty,1,false⟩:=⟨_,rfl⟩;rw[←e9] at st9;have f9:Fr H8 o8 H9 o8 [-20]:=by rw[e9];exact(Fr.refl _ _ _).put λ_=>by simp[oc8]
    have evS:=p1.sl.jE;have nq:ai Tryz.prog .neq 3 (cv cl.no) (cv e.no)=some (.bool false):=by rw[gQ,c1];simp
    have fA:Fr H o H9 o8 [-20, -21, -22, -24]:=((((((rO.JA f2).JA f3).tr (f5.wk (by simp))).JA f6).JA f7).tr (f8.wk (by simp))).tr (f9.wk (by simp))
    refine⟨H9,o8,?_,fA,λS' h'=>?_⟩
    ·simp -implicitDefEqProofs [Zk,b1,aQ,cR,E0,E2,C1,ml,fK _ uC,aL,K3,K5,nq,Pm,DB gk,DB Qd,DB gk3,r2,da,evO,aaS,r3,st5,acT,C5,aaU,L5,r6,C6,C7,bs,ra,st9,evS]
    ·cases h';have aaW:H8.cT t=some (.jC .i64 ((cs.set j (yk,k,TW)).map λx=>(x.1,pv x.2.1))):=by rw[f8.cT t (eF p7.jC) (by rw[p7.ot];simp)];exact p7.jC
     refine⟨s',b8,t,ms++[(p',My z.2 cl.op)],cs.set j (yk,k,TW),ty,⟨by rw[e9];exact aD aaV,oc8,?_,?_,?_,?_,p7.nd,?_⟩,by simp[em],?_,by simp,?_⟩
     ·rw[f9.cT t (eF aaW) (by rw[f8.own t (eF p7.jC),p7.ot];simp)]
      exact aaW
     ·rw[f8.own t (eF p7.jC)];exact p7.ot
     ·have:=sl8.fr f9 (by simp)
      simpa using this
     ·intro w hw;rcases List.mem_append.1 hw with hw|hw
      ·exact((p7.maps w hw).fr f8 (by simp)).fr f9 (by simp)
      ·have:w=(p',My z.2 cl.op):=by simpa using hw
       subst this;exact(m7.fr f8 (by simp)).fr f9 (by simp)
     ·exact λw hw=>((p7.calls w hw).fr f8 (by simp) (by simp)).fr f9 (by simp) (by simp)
     ·rw[ec,List.map_set,Pn]
     ·intro w hw;rw[List.length_append];rcases List.mem_or_eq_of_mem_set hw with hw|rfl
      ·have:=mr w hw;omega
      ·have:=mr _ vb
       rw[Pn];simp only at this ⊢;omega
theorem AO (h:vC H o c S)(he:Zn H o q x e)(hl:e.res.list.length≤4194304)(Fc:S.maps.length≤65000)(hk:e.kind=3)(hn:4194304<n):q7 H o c S e (n+18) 30 x:=by
 obtain⟨sm,bm,t,ms,cs,ty,hp,em,ec,dX,mr⟩:=h;obtain⟨s,rfl,hs⟩:=he;have D6:ms.length≤65000:=by rw[em] at Fc;simpa using Fc
 obtain⟨a,m',es⟩:=hs.isSlice;unfold q7;rw[W2];have b1:=LR e es H;obtain⟨H1,e1⟩: ∃z,z=H.new ⟨aM e s,47,1,false⟩:=⟨_,rfl⟩;rw[←e1] at b1;have x1:Ext H H1:=by rw[e1];exact(Ext.refl H).new _
 have f1:=x1.fr o (-9);have g1:H1.get H.length=some ⟨aM e s,47,1,false⟩:=by rw[e1];exact ay
 have p1:=hp.fr f1;have E0:aq (.pointer (some ⟨H.length,1,none⟩)) H1=some (cv e.bO):=ak H.length 1 H1 g1;have E2:aq (.pointer (some ⟨H.length,2,none⟩)) H1=some (cv e.no):=ak H.length 2 H1 g1;have C1:aq (.pointer (some ⟨c,1,none⟩)) H1=some (.map (some t)):=ak c 1 H1 p1.jD;have hkx:j9 S.calls e.bO=j9 cs e.bO:=by rw[ec];exact zD
 have rO:Fr H o H1 (o.from H.length (-9)) [-20, -21, -22, -24]:=f1.wk (by simp)
 unfold step;rw[if_neg (by omega),if_neg (by omega),if_neg (by omega),if_pos hk,hkx]
 cases hx:j9 cs e.bO with
 |none=>
  have ml:=tK (z:=.pointer none) p1.jC (n:=e.bO) (by rw[lI,qx hx];rfl)
  refine⟨H1,_,?_,rO,λS' h'=>by cases h'⟩
  simp -implicitDefEqProofs [F30,b1,aQ,cR,E0,C1,ml,fK _ uC,aL]
 |some j=>
  obtain⟨y,Hg,hy2,hy3⟩:=uF hx;have vb:y∈cs:=List.mem_of_getElem? Hg;have ml:=uG (z:=.pointer none) p1.jC (n:=e.bO) (x:=(y.1,pv y.2.1)) (by rw[lI,hy3];rfl)
  have pr:S.calls[j]? =some (y.1,y.2.2):=by rw[ec,List.getElem?_map,Hg];rfl
  simp only[pr];obtain⟨yk,k,cl⟩:=y;simp only at ml pr vb Hg ⊢;have tP:=p1.calls _ vb;have acU:=tP;obtain⟨rc,sc,tk,gk,okk,⟨ac,mc,nc,esc⟩,QM⟩:=acU;simp only at gk okk QM;have K3:aq (.pointer (some ⟨k,3,none⟩)) H1=some (cv cl.no):=ak k 3 H1 gk;by_cases c1:cl.no=e.no
  case neg=>
   refine⟨H1,_,?_,rO,λS' h'=>by rw[if_pos (.inl c1)] at h';cases h'⟩
   rw[if_pos (.inl c1)];simp -implicitDefEqProofs [F30,b1,aQ,cR,E0,E2,C1,ml,fK _ uC,aL,K3,gQ,c1]
  obtain⟨H2,r2,x2⟩:=Pj (n:=n+4) p1 (by omega) dX tP (mr _ vb) (hs.fr f1 (by simp)) hl (by omega)
  rw[←em] at r2;cases c2:may S.maps cl e.res with
  |false=>
   rw[c2] at r2;refine⟨H2,_,?_,rO.JA (x2.fr _ (-9)),λS' h'=>by rw[if_pos (.inr rfl)] at h';cases h'⟩
   rw[if_pos (.inr rfl)];simp -implicitDefEqProofs [F30,b1,aQ,cR,E0,E2,C1,ml,fK _ uC,aL,K3,gQ,c1,aaQ g1,r2,da]
  |true=>
   rw[c2] at r2;rw[if_neg (by rintro(h|h);exact h c1;cases h)]
   have f2:=x2.fr (o.from H.length (-9)) (-9)
   have p2:=p1.fr f2;have D1:aq (.pointer (some ⟨c,1,none⟩)) H2=some (.map (some t)):=ak c 1 H2 p2.jD;have D0:aq (.pointer (some ⟨H.length,1,none⟩)) H2=some (cv e.bO):=ak H.length 1 H2 (x2.get g1);have del:Go.Proofs.YtjgmnoaalbbonaaGreatA.Am.mi .i64 (.map (some t)) (cv e.bO) H2=some (undef,H2.eQ t (.jC .i64 ((cs.eraseIdx j).map λx=>(x.1,pv x.2.1)))):=by
    have:FH (cs.map λx=>(x.1,pv x.2.1)) e.bO=(cs.eraseIdx j).map λx=>(x.1,pv x.2.1):=by
     unfold FH;rw[IP,hx,q8]
    simp[Go.Proofs.YtjgmnoaalbbonaaGreatA.Am.mi,p2.jC,this]
   obtain⟨H3,e3⟩: ∃z,z=H2.eQ t (.jC .i64 ((cs.eraseIdx j).map λx=>(x.1,pv x.2.1))):=⟨_,rfl⟩
   rw[←e3] at del;have f3:Fr H2 ((o.from H.length (-9)).from H1.length (-9)) H3 ((o.from H.length (-9)).from H1.length (-9)) [-24]:=by rw[e3];exact(Fr.refl _ _ _).eQ λ_=>by simp[p2.ot]
   refine⟨H3,_,?_,(rO.JA f2).tr (f3.wk (by simp)),λS' h'=>?_⟩
   ·simp -implicitDefEqProofs [F30,b1,aQ,cR,E0,E2,C1,ml,fK _ uC,aL,K3,gQ,c1,aaQ g1,r2,da,D1,D0,del]
   ·cases h';have sub:=List.eraseIdx_sublist cs j;refine⟨sm,bm,t,ms,cs.eraseIdx j,ty,⟨?_,p2.oc,?_,p2.ot,p2.sl.fr f3 (by simp),λw hw=>(p2.maps w hw).fr f3 (by simp),p2.nd.sublist (sub.map _),λw hw=>(p2.calls w (sub.subset hw)).fr f3 (by simp) (by simp)⟩,em,?_,dX,λw hw=>mr w (sub.subset hw)⟩
    ·rw[f3.same c (an p2.jD) (by rw[p2.oc];simp)];exact p2.jD
    ·rw[e3];exact sT p2.jC
    ·rw[ec,q8]
theorem Hh (h:vC H o c S)(he:Zn H o q x e)(hl:e.res.list.length≤4194303)(Fc:S.maps.length≤65000)(hb: ∀m∈S.maps,m.length<4194303)(hn:4194304<n):q7 H o c S e (n+19) 15 x:=by
 obtain⟨s,rfl,hs⟩:=he;obtain⟨a,m',es⟩:=hs.isSlice;unfold q7;rw[Xw];have b1:=LR e es H;obtain⟨H1,e1⟩: ∃z,z=H.new ⟨aM e s,47,1,false⟩:=⟨_,rfl⟩;rw[←e1] at b1;have x1:Ext H H1:=by rw[e1];exact(Ext.refl H).new _
 have f1:=x1.fr o (-9);have g1:H1.get H.length=some ⟨aM e s,47,1,false⟩:=by rw[e1];exact ay
 have E0:aq (pv H.length) H1=some (cv e.kind):=ak H.length 0 H1 g1;have he1:Zn H1 (o.from H.length (-9)) q (Bz e s) e:=⟨s,rfl,hs.fr f1 (by simp)⟩
 have h1:vC H1 (o.from H.length (-9)) c S:=by
  obtain⟨sm,bm,t,ms,cs,ty,hp,h2⟩:=h;exact⟨sm,bm,t,ms,cs,ty,hp.fr f1,h2⟩
 have TX:=IM g1;have rO:Fr H o H1 (o.from H.length (-9)) [-20, -21, -22, -24]:=f1.wk (by simp)
 by_cases k4:e.kind=4
 ·obtain⟨H',o',r,f,hS⟩:=Fg (n:=n) h1 he1 hl Fc k4 hn;refine⟨H',o',?_,rO.tr f,hS⟩;simp -implicitDefEqProofs [Zl,b1,aQ,E0,k4,cW,TX,r]
 by_cases k1:e.kind=1
 ·obtain⟨H',o',r,f,hS⟩:=He (n:=n) h1 he1 Fc k1;refine⟨H',o',?_,rO.tr f,hS⟩;simp -implicitDefEqProofs [Zl,b1,aQ,E0,k1,cW,TX,r]
 by_cases k2:e.kind=2
 ·obtain⟨H',o',r,f,hS⟩:=LW (n:=n) h1 he1 Fc hb k2 hn;refine⟨H',o',?_,rO.tr f,hS⟩;simp -implicitDefEqProofs [Zl,b1,aQ,E0,k2,cW,TX,r]
 by_cases k3:e.kind=3
 ·obtain⟨H',o',r,f,hS⟩:=AO (n:=n) h1 he1 (by omega) Fc k3 hn
  refine⟨H',o',?_,rO.tr f,hS⟩;simp -implicitDefEqProofs [Zl,b1,aQ,E0,k3,cW,TX,r]
 ·have TY:step S e=none:=by unfold step;rw[if_neg k4,if_neg k1,if_neg k2,if_neg k3]
  refine⟨H1,_,?_,rO,λS' h'=>by rw[TY] at h';cases h'⟩
  rw[TY];simp -implicitDefEqProofs [Zl,b1,aQ,E0,k1,k2,k3,k4,cW]
end
end Go.Proofs.YtjgmnoaalbbonaaGreat.Fun
namespace Go.Proofs.YtjgmnoaalbbonaaGreat.Fun
open Go Go.RowKit Go.Proofs.YtjgmnoaalbbonaaGreatA.Am
set_option maxRecDepth 10000
def oP (H:aa)(o:aj)(q q2:Int)(x:Value)(L:List hP):Prop:=
 (x= .slice none 0 0∧L=[])∨(∃i off,x= .slice (some ⟨i,off,none⟩) 0 0∧L=[])∨
 ∃i off c b,x= .slice (some ⟨i,off,none⟩) L.length c∧L.length≤c∧H.get i=some b∧b.es=13∧o i=q∧off+13*L.length≤b.cells.length∧
  ∀j e,L[j]? =some e→∃s,(b.cells.drop (off+13*j)).take 13=aM e s∧gE H o q2 s e.res.list
section
variable {H H':aa} {o o':aj} {q q2:Int} {x:Value} {L:List hP}
theorem oP.len (h:oP H o q q2 x L):cw x=some (cv L.length):=by
 rcases h with⟨rfl,rfl⟩|⟨i,off,rfl,rfl⟩|⟨i,off,c,b,rfl,_⟩<;>rfl
theorem oP.fr {ps:List Int}(h:oP H o q q2 x L)(f:Fr H o H' o' ps)(h1:q ∉ ps)(h2:q2 ∉ ps):oP H' o' q q2 x L:=by
 rcases h with h|h|⟨i,off,c,b,e1,e2,e3,e4,e5,e6,e7⟩
 ·exact .inl h
 ·exact .inr (.inl h)
 ·refine .inr (.inr ⟨i,off,c,b,e1,e2,by rw[f.same i (an e3) (by rw[e5];exact h1)];exact e3,e4,by rw[f.own i (an e3)];exact e5,e6,λj e he=>?_⟩)
  obtain⟨s,k1,k2⟩:=e7 j e he;exact⟨s,k1,k2.fr f h2⟩
theorem oP.relabel {q' q2':Int}(h:oP H o q q2 x L)(k: ∀i,i<H.length→o i=q→o' i=q')(k2: ∀i,i<H.length→o i=q2→o' i=q2'):oP H o' q' q2' x L:=by
 rcases h with h|h|⟨i,off,c,b,e1,e2,e3,e4,e5,e6,e7⟩
 ·exact .inl h
 ·exact .inr (.inl h)
 ·refine .inr (.inr ⟨i,off,c,b,e1,e2,e3,e4,k i (an e3) e5,e6,λj e he=>?_⟩)
  obtain⟨s,g1,g2⟩:=e7 j e he;exact⟨s,g1,g2.relabel k2⟩
theorem oP.idx (h:oP H o q q2 x L){j:Nat}{e:hP}(hj:L[j]? =some e):
  ∃ptr s,(∀H',cq 13 x (cv j) H'=some (ptr,H'))∧gE H o q2 s e.res.list∧cK 13 ptr H=some (Bz e s):=by
 have z9:j<L.length:=(List.getElem?_eq_some_iff.1 hj).1;rcases h with⟨rfl,rfl⟩|⟨i,off,rfl,rfl⟩|⟨i,off,c,b,rfl,e2,e3,e4,e5,e6,e7⟩
 ·simp at z9
 ·simp at z9
 ·obtain⟨s,g1,g2⟩:=e7 j e hj;refine⟨.pointer (some ⟨i,off+13*j,none⟩),s,λH'=>?_,g2,?_⟩
  ·simp only[cq];rw[if_pos (by constructor<;>omega)];simp<;>omega
  ·have iX:aw H i (off+13*j) 13=some (aM e s):=by
    simp only[aw,e3];rw[if_pos (by omega),g1]
   simp only[cK,iX]
end
theorem LX {S S':AM}{e:hP}{K:Nat}(h:step S e=some S')(hK: ∀m∈S.maps,m.length≤K)(he:e.res.list.length≤K):(∀m∈S'.maps,m.length≤K+1)∧S'.maps.length≤S.maps.length+1:=by
 have up: ∀m∈S.maps,m.length≤K+1:=λm hm=>by have:=hK m hm;omega
 have LU:S.now.length≤K:=by
  unfold AM.now;rw[List.getD_eq_getElem?_getD];cases hx:S.maps[S.maps.length-1]? with
  |none=>simp
  |some m=>exact hK m (List.mem_of_getElem? hx)
 have acV: ∀op,(My S.now op).length≤K+1:=λop=>by
  unfold My;have h1:=pL S.now op.key op.value;have h2:=zB S.now op.key;repeat' split
  all_goals first|omega| (split at h1<;>omega)
 unfold step at h;split at h
 ·split at h
  ·cases h;refine⟨λm hm=>?_,by simp⟩
   rcases List.mem_append.1 hm with hm|hm
   ·exact up m hm
   ·have:m=e.res.list:=by simpa using hm
    rw[this];omega
  ·cases h
 ·split at h
  ·split at h
   ·cases h
   ·cases h;exact⟨up,by simp⟩
  ·split at h
   ·split at h
    ·cases h
    ·split at h
     ·cases h
     ·split at h
      ·cases h
      ·cases h;refine⟨λm hm=>?_,by simp⟩
       rcases List.mem_append.1 hm with hm|hm
       ·exact up m hm
       ·rw[List.mem_singleton.1 hm];exact acV _
   ·split at h
    ·split at h
     ·cases h
     ·split at h
      ·cases h
      ·split at h
       ·cases h
       ·cases h;exact⟨up,by simp⟩
    ·cases h
theorem aaX:(14:Nat)<Tryz.prog.funcs.size:=by decide +kernel
theorem abK (s:Value){a:Option Addr}{m k t:Nat}(es:s= .slice a m k):aE Tryz.prog 58 [(0,s),(1,.map (some t))]=some (.agg #[s,.map (some t),cv 0]):=by subst es;kernel_rfl
section
variable {H:aa} {o:aj} {q q2:Int} {n:Nat} {x:Value} {L:List hP} {B:Nat}
theorem zF (h:oP H o q q2 x L)(hL:L.length≤1000)(hB: ∀e∈L,e.res.list.length≤B)(HG:B+2000≤4194303)(hn:4194304<n):
  ∃H',run KG (n+22) 7 [x] H=some (cv (check L Fb 0),H')∧Ext H H':=by
 rw[aax];have h0:oP H o0 (-1) (-1) x L:=h.relabel (λi _ _=>rfl) (λi _ _=>rfl)
 have Mv:=h.len;obtain⟨H1,e1⟩: ∃z,z=H.new ⟨[.slice none 0 0,.slice none 0 0],54,1,false⟩:=⟨_,rfl⟩;have b1:=aaK H;rw[←e1] at b1;have l1:H1.length=H.length+1:=by rw[e1,aW]
 have m1:eK H1 (aj.up o0 H.length H.length) H.length []:=by rw[e1];exact eK.fresh H o0 _
 have f1:Fr H o0 H1 (aj.up o0 H.length H.length) []:=by rw[e1];exact(Fr.refl _ _ _).new _ _
 obtain⟨o1,eo1⟩: ∃z,z=aj.up o0 H.length H.length:=⟨_,rfl⟩;rw[←eo1] at m1 f1;have b2:=Ya H.length H1;obtain⟨H2,e2⟩: ∃z,z=H1.new ⟨[pv H.length],51,1,false⟩:=⟨_,rfl⟩;rw[←e2,l1] at b2;have l2:H2.length=H.length+2:=by rw[e2,aW,l1]
 have s2:Sl H2 (o1.up H1.length (-21)) (-21) (.slice (some ⟨H.length+1,0,none⟩) 1 1) [pv H.length] (some (H.length+1)):=by
  have:=Sl.made H1 o1 (-21) 51 [pv H.length]
  rw[←e2,l1] at this;rw[l1];exact this
 have f2:Fr H1 o1 H2 (o1.up H1.length (-21)) []:=by rw[e2];exact(Fr.refl _ _ _).new _ _
 obtain⟨o2,Ye⟩: ∃z,z=o1.up H1.length (-21):=⟨_,rfl⟩;rw[←Ye] at s2 f2;have m2:=m1.fr f2 (by simp)
 obtain⟨H3,e3⟩: ∃z,z=H2.gj (.jC .i64 []):=⟨_,rfl⟩;have b3:mmk .i64 H2=some (.map (some (H.length+2)),H3):=by rw[e3, ←l2];rfl
 have l3:H3.length=H.length+3:=by rw[e3,Nx,l2]
 have f3:Fr H2 o2 H3 (o2.up H2.length (-24)) []:=by rw[e3];exact(Fr.refl _ _ _).gj _ _
 have t3:H3.cT (H.length+2)=some (.jC .i64 []):=by rw[e3, ←l2];exact mN
 obtain⟨o3,eo3⟩: ∃z,z=o2.up H2.length (-24):=⟨_,rfl⟩;have ot3:o3 (H.length+2)= -24:=by rw[eo3,l2,aH]
 rw[←eo3] at f3;have s3:=s2.fr f3 (by simp)
 have m3:=m2.fr f3 (by simp)
 have ab:=abK (.slice (some ⟨H.length+1,0,none⟩) 1 1) (t:=H.length+2) rfl;obtain⟨H4,e4⟩: ∃z,z=H3.new ⟨[.slice (some ⟨H.length+1,0,none⟩) 1 1,.map (some (H.length+2)),cv 0],58,1,false⟩:=⟨_,rfl⟩;have b4:cO 58 (.agg #[.slice (some ⟨H.length+1,0,none⟩) 1 1,.map (some (H.length+2)),cv 0]) H3=some (pv (H.length+3),H4):=by
  rw[e4, ←l3];simp[cO,Value.cells,av,aO]
 have l4:H4.length=H.length+4:=by rw[e4,aW,l3]
 have f4:Fr H3 o3 H4 (o3.up H3.length (-20)) []:=by rw[e4];exact(Fr.refl _ _ _).new _ _
 have g4:H4.get (H.length+3)=some ⟨[.slice (some ⟨H.length+1,0,none⟩) 1 1,.map (some (H.length+2)),cv 0],58,1,false⟩:=by
  have:=ay (H:=H3) (c:=⟨[.slice (some ⟨H.length+1,0,none⟩) 1 1,.map (some (H.length+2)),cv 0],58,1,false⟩)
  rw[l3, ←e4] at this;exact this
 obtain⟨o4,eo4⟩: ∃z,z=o3.up H3.length (-20):=⟨_,rfl⟩;have oc4:o4 (H.length+3)= -20:=by rw[eo4,l3,aH]
 rw[←eo4] at f4;have p4:Fe H4 o4 (H.length+3) (.slice (some ⟨H.length+1,0,none⟩) 1 1) (some (H.length+1)) (H.length+2) [(H.length,[])] [] 58 0:=
  ⟨g4,oc4,by rw[f4.cT _ (eF t3) (by simp)];exact t3,by rw[f4.own _ (eF t3)];exact ot3,s3.fr f4 (by simp),λy hy=>by
   have:y=(H.length,[]):=by simpa using hy
   subst this;exact m3.fr f4 (by simp),.nil,λy hy=>by cases hy⟩
 have h4:vC H4 o4 (H.length+3) Fb:=⟨_,_,_,_,_,_,p4,rfl,rfl,by simp,λy hy=>by cases hy⟩
 obtain⟨H5,st5,b5,f5⟩:=Sx H4 o4 (-9) 50 (.pointer none) (pv (H.length+3)) ⟨rfl,rfl,rfl⟩;obtain⟨o5,eo5⟩: ∃z,z=o4.up H4.length (-9):=⟨_,rfl⟩;rw[←eo5] at b5 f5;have h5:vC H5 o5 (H.length+3) Fb:=by
  obtain⟨sm,bm,t,ms,cs,ty,hp,h2⟩:=h4;exact⟨sm,bm,t,ms,cs,ty,hp.fr f5,h2⟩
 have fA:Fr H o0 H5 o5 []:=(((f1.tr f2).tr f3).tr f4).tr f5;rw[l4] at b5 st5;have key: ∃H',run KG (n+21) 13 [x,rN 14 #[pv (H.length+4)]] H5=some (cv (check L Fb 0),H')∧Ext H H':=by
  rw[WA];obtain⟨r',oT,dX,x',d8,d9,d5,d16,hr⟩:=qg (step:=GQ (run KG (n+20)) (n+20))
   (Q:=λm vs H'=>∃(i:Nat) (S:AM) (o':aj) (d9 d5 d16:Value),i≤L.length∧m=L.length-i∧vs=[x,rN 14 #[pv (H.length+4)],cv 0,cv i,cv L.length,d9,d5,d16]∧vC H' o' (H.length+3) S∧Fr H5 o5 H' o' [-20, -21, -22, -24]∧
    check L Fb 0=check (L.drop i) S i∧(∀m∈S.maps,m.length≤B+i)∧S.maps.length≤i+1)
   (R:=λr'=>Ext H r'.2.2∧∃(d8 d9 d5 d16:Value),((r'.1= .exit 0∧r'.2.1=[x,rN 14 #[pv (H.length+4)],cv 0,d8,cv L.length,d9,d5,d16]∧check L Fb 0= -1)∨
    (r'.1= .ret∧∃j:Nat,r'.2.1=[x,rN 14 #[pv (H.length+4)],cv j,d8,cv L.length,d9,d5,d16]∧check L Fb 0=j)))
   (by
    rintro m vs H' ⟨i,S,o',d9,d5,d16,hi,rfl,rfl,hS,f,hc,hK,hM⟩;have fH:=(fA.wk (qs:=[-20, -21, -22, -24]) (by simp)).tr f
    have acW:Ext H H':=Ext.of fH λi _ hh=>by simp at hh
    by_cases eR:i<L.length
    ·have h1:(i:Int)<L.length:=by omega
     have hLi:L[i]? =some L[i]:=List.getElem?_eq_getElem eR;obtain⟨ptr,s,qo,hs,iX⟩:=(h0.fr fH (by simp) (by simp)).idx hLi
     have hbx:Bx H' o' (H.length+4) (-9) 50 (pv (H.length+3)):=b5.fr f (by simp)
     have one: ∃kB G9,run KG (n+20) 14 [Bz L[i] s,pv (H.length+4)] H'=some (.bool (!(step S L[i]).isSome),kB)∧Fr H' o' kB G9 [-20, -21, -22, -24]∧∀S',step S L[i]=some S'→vC kB G9 (H.length+3) S':=by
      rw[V2];obtain⟨a,m',es⟩:=hs.isSlice;have bx:=LR L[i] es H';obtain⟨Hb,eb⟩: ∃z,z=H'.new ⟨aM L[i] s,47,1,false⟩:=⟨_,rfl⟩;rw[←eb] at bx;have xb:Ext H' Hb:=by rw[eb];exact(Ext.refl H').new _
      have fb:=xb.fr o' (-9);have gb:Hb.get H'.length=some ⟨aM L[i] s,47,1,false⟩:=by rw[eb];exact ay
      have hSb:vC Hb (o'.from H'.length (-9)) (H.length+3) S:=by
       obtain⟨sm,bm,t,ms,cs,ty,hp,h2⟩:=hS;exact⟨sm,bm,t,ms,cs,ty,hp.fr fb,h2⟩
      obtain⟨kB,G9,rr,fr,pg⟩:=Hh (n:=n) hSb (x:=Bz L[i] s) ⟨s,rfl,hs.fr fb (by simp)⟩ (by have:=hB _ (List.getElem_mem eR);omega) (by omega) (λm hm=>by have:=hK m hm;omega) hn
      refine⟨kB,G9,?_,(fb.wk (by simp)).tr fr,pg⟩
      simp -implicitDefEqProofs [F14,bx,(hbx.fr fb (by simp)).ld,IM gb,rr,da]
     obtain⟨kB,G9,r1,rO,pg⟩:=one;have hdy:=O3 (C:=run KG (n+20)) (c:=#[pv (H.length+4)]) (args:=[Bz L[i] s]) (H:=H') aaX;have hw:IntKind.i64.wrap ((i:Int)+1)=((i+1:Nat):Int):=by rw[kr (by omega)];omega
     have aaY:L.drop i=L[i]::L.drop (i+1):=List.drop_eq_getElem_cons eR;have hd:check (L[i]::L.drop (i+1)) S i=(match step S L[i] with|none=>(i:Int)|some S'=>check (L.drop (i+1)) S' (i+1)):=rfl
     rw[aaY,hd] at hc;have fH2:=fH.tr rO;cases kW:step S L[i] with
     |none=>
      rw[kW] at r1 hc;refine .inr ⟨(.ret,[x,rN 14 #[pv (H.length+4)],cv i,cv i,cv L.length,.bool true,cv i,.bool true],kB),?_,by simp,Ext.of fH2 (λi _ hh=>by simp at hh),_,_,_,_,.inr ⟨rfl,i,rfl,hc⟩⟩
      simp -implicitDefEqProofs [yD,td,bT,h1,qo,iX,hdy,r1,fin]
     |some S'=>
      rw[kW] at r1 hc;obtain⟨k1,k2⟩:=LX kW hK (by have:=hB _ (List.getElem_mem eR);omega)
      refine .inl ⟨_,kB,L.length-(i+1),by omega,?_,i+1,S',G9,.bool true,cv i,.bool false,by omega,rfl,rfl,pg S' kW,f.tr rO,hc,λm hm=>by have:=k1 m hm;omega,by omega⟩
      simp -implicitDefEqProofs [-Int.natCast_add,yD,td,bT,h1,qo,iX,hdy,r1,gS,hw,fin]
    ·have h1: ¬(i:Int)<L.length:=by omega
     rw[List.drop_eq_nil_of_le (by omega)] at hc
     refine .inr ⟨(.exit 0,[x,rN 14 #[pv (H.length+4)],cv 0,cv i,cv L.length,.bool false,d5,d16],H'),?_,by simp,acW,_,_,_,_,.inl ⟨rfl,rfl,hc⟩⟩
     simp -implicitDefEqProofs [yD,td,bT,h1,fin])
   (L.length-0) [x,rN 14 #[pv (H.length+4)],cv 0,cv (0:Nat),cv L.length,undef,undef,undef] H5 ⟨0,Fb,o5,_,_,_,Nat.zero_le _,rfl,rfl,h5,.refl _ _ _,rfl,λm hm=>by
    have:m=[]:=by simpa[Fb] using hm
    subst this;simp,by simp[Fb]⟩ (n+20) (by omega)
  obtain⟨e,vs,H'⟩:=r';simp only at hr x';simp only[Int.natCast_zero] at oT;refine⟨H',?_,x'⟩;rcases hr with⟨rfl,rfl,hc⟩|⟨rfl,j,rfl,hc⟩
  ·rw[hc];simp -implicitDefEqProofs [F13,Mv,oT,Ot,C3]
  ·rw[hc];simp -implicitDefEqProofs [F13,Mv,oT,dK,dT,up,vj,vi,Gr];rfl
 obtain⟨H',r',x'⟩:=key;refine⟨H',?_,x'⟩;simp -implicitDefEqProofs [F7,XV,b1,b2,b3,ab,b4,aO,l4,st5,r']
end
end Go.Proofs.YtjgmnoaalbbonaaGreat.Fun
end
