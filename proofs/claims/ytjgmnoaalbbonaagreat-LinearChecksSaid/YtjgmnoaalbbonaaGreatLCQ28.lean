/- Texts of the proof of linearChecks_holds, put together by a small program of ours (names shortened, spaces taken out). No condition beyond the given statement. -/
import Derived.Test.YtjgmnoaalbbonaaGreatLCQ15
import Derived.Test.YtjgmnoaalbbonaaGreatLCQ16
import Derived.Test.YtjgmnoaalbbonaaGreatLCQ17
import Derived.Test.YtjgmnoaalbbonaaGreatLCQ18
import Derived.Test.YtjgmnoaalbbonaaGreatLCQ19
import Derived.Test.YtjgmnoaalbbonaaGreatLCQ20
import Derived.Test.YtjgmnoaalbbonaaGreatLCQ21
import Derived.Test.YtjgmnoaalbbonaaGreatLCQ22
import Derived.Test.YtjgmnoaalbbonaaGreatLCQ27
set_option linter.unusedVariables false
set_option linter.unusedSimpArgs false
set_option linter.unnecessarySimpa false
noncomputable section
section
namespace Go.Proofs.YtjgmnoaalbbonaaGreat.Fun
open Go Go.RowKit Go.Proofs.YtjgmnoaalbbonaaGreatA.Am
set_option maxRecDepth 10000
abbrev jI (r:dF)(s:Value):List Value:=[cv r.pH,.bool r.found,cv r.key,cv r.value,cv r.n,s]
abbrev jr (c:jw)(r:dF)(s:Value):List Value:=[cv c.op.kind,cv c.op.key,cv c.op.value,cv c.no,cv c.sO,.bool c.fh.isSome,cv r.pH,.bool r.found,cv r.key,cv r.value,cv r.n,s]
abbrev aT (e:iH)(s:Value):List Value:=[cv e.kind,cv e.aV,cv e.no,cv e.op.kind,cv e.op.key,cv e.op.value,cv e.res.pH,.bool e.res.found,cv e.res.key,cv e.res.value,cv e.res.n,s,cv e.pick]
abbrev yT (e:iH)(s:Value):Value:=.agg #[cv e.kind,cv e.aV,cv e.no,cv e.op.kind,cv e.op.key,cv e.op.value,cv e.res.pH,.bool e.res.found,cv e.res.key,cv e.res.value,cv e.res.n,s,cv e.pick]
theorem uC:Tryz.prog.underlying 109=some (.pointer 111):=by kernel_rfl
theorem aeT:(84:Nat)<Tryz.prog.funcs.size:=by decide +kernel
section
variable {H:ae} {b:Nat} {t:TypeId} {c:jw} {r:dF} {e:iH} {s:Value}
theorem Gn (h:H.get b=some ⟨jr c r s,t,1,false⟩):bV 3 (pv b) H=some (iG c.op):=by simp[bV,aA,h]
theorem agN (h:H.get b=some ⟨jr c r s,t,1,false⟩):bV 6 (.pointer (some ⟨b,6,none⟩)) H=some (c8 r s):=by simp[bV,aA,h]
theorem It (h:H.get b=some ⟨aT e s,t,1,false⟩):bV 13 (pv b) H=some (yT e s):=by simp[bV,aA,h]
theorem acK (h:H.get b=some ⟨aT e s,t,1,false⟩):bV 6 (.pointer (some ⟨b,6,none⟩)) H=some (c8 e.res s):=by simp[bV,aA,h]
theorem aeU (h:H.get b=some ⟨aT e s,t,1,false⟩):bV 3 (.pointer (some ⟨b,3,none⟩)) H=some (iG e.op):=by simp[bV,aA,h]
theorem Iu (e:iH){a:Option Addr}{m k:Nat}(es:s= .slice a m k)(H:ae):cB 47 (yT e s) H=some (pv H.length,H.new ⟨aT e s,47,1,false⟩):=by
 subst es;simp[cB,Value.cells,aD,aO]
theorem Iv (r:dF){a:Option Addr}{m k:Nat}(es:s= .slice a m k):jd (c8 r s) (c8 r s)=true:=by subst es;simp[jd,n8,qy]
theorem vB (op:jZ):jd (iG op) (iG op)=true:=by simp[jd,n8,qy]
end
section
variable {H:ae} {o:an} {q:Int} {n p:Nat} {l:PL}
theorem PJ {c:jw}{r rc:dF}{s sc:Value}{k b0 b1:Nat}{t0 t1 tk:TypeId}(hm:fm H o p l)(hk:H.get k=some ⟨jr c rc sc,tk,1,false⟩)(h0:H.get b0=some ⟨[pv k],t0,1,false⟩)(h1:H.get b1=some ⟨jI r s,t1,1,false⟩)(hs:ee H o q s r.list)(hl:r.list.length≤4194304)(hn:4194304<n):
  ∃H',run KG (n+9) 84 [pv p,pv b0,pv b1] H=some (.bool (!nU l c.op&&du r (jf l c.op)),H')∧Ext H H':=by
 rw[aaV];obtain⟨H1,r1,x1⟩:=tL (G:=KG) (n:=n+2) hm c.op (by omega)
 have L0:=ak b0 0 H h0;have L1:=ak b0 0 H1 (x1.get h0);obtain⟨a,m',es⟩:=hs.isSlice;cases ht:nU l c.op with
 |true=>
  rw[ht] at r1;refine⟨H1,?_,x1⟩;simp -implicitDefEqProofs [F84,L0,bF,ax,Gn hk,r1,aS,ar]
 |false=>
  rw[ht] at r1;obtain⟨y,H2,r2,R2,x2⟩:=Iq (G:=KG) (n:=n) (hm.ext x1 0) c.op hn;obtain⟨H3,r3,x3⟩:=rX (G:=KG) (n:=n+6) (x:=c8 r s) ⟨s,rfl,(hs.ext x1).ext x2⟩ R2 (by omega) (by omega)
  refine⟨H3,?_,(x1.trans x2).trans x3⟩;have ev:=Iv r es;simp -implicitDefEqProofs [F84,L0,L1,bF,ax,Gn hk,Gn (x1.get hk),jR _ _ _ (x1.get h1),jR _ _ _ (x2.get (x1.get h1)),r1,r2,r3,aS,ar,ev]
theorem Dj {c:jw}{r rc:dF}{s sc:Value}{k b0 b1:Nat}{t0 t1 tk:TypeId}{ms:List (Nat×PL)}{sl:Value}{qb cap:Nat}{ty:TypeId}{rest:List Value}{f:Nat}(nP:sl= .slice (some ⟨qb,f,none⟩) (ms.length-f) (cap-f))(hq:H.get qb=some ⟨(ms.map λx=>pv x.1)++rest,ty,1,false⟩)(hf:f≤ms.length)(yU:ms.length≤65536)(hm: ∀x∈ms,fm H o x.1 x.2)(hk:H.get k=some ⟨jr c rc sc,tk,1,false⟩)(h0:H.get b0=some ⟨[pv k],t0,1,false⟩)(h1:H.get b1=some ⟨jI r s,t1,1,false⟩)(hs:ee H o q s r.list)(hl:r.list.length≤4194304)(hn:4194304<n):
  ∃H',run KG (n+11) 83 [sl,tQ 84 #[pv b0,pv b1]] H=some (.bool (((ms.map (·.2)).drop f).any λm=> !nU m c.op&&du r (jf m c.op)),H')∧Ext H H':=by
 rw[abh];have tst: ∀x,x∈ms→∀H',Ext H H'→∃jQ,run KG (n+9) 84 [pv x.1,pv b0,pv b1] H'=some (.bool (!nU x.2 c.op&&du r (jf x.2 c.op)),jQ)∧Ext H jQ:=λx hx H' ex=>by
  obtain⟨jQ,r1,x1⟩:=PJ (n:=n) ((hm x hx).ext ex 0) (ex.get hk) (ex.get h0) (ex.get h1) (hs.fr (ex.fr o 0) (by simp)) hl hn
  exact⟨jQ,r1,ex.trans x1⟩
 have key: ∃(j:Int) (H':ae),run KG (n+10) 110 [sl,tQ 84 #[pv b0,pv b1]] H=some (cv j,H')∧Ext H H'∧decide (j≥0)=((ms.map (·.2)).drop f).any λm=> !nU m c.op&&du r (jf m c.op):=by
  rw[WJ];have hlen:cq sl=some (cv (ms.length-f:Nat)):=by rw[nP];rfl
  obtain⟨r',iL,eC,x',hr⟩:=iy (step:=Gg (run KG (n+9)) (n+9))
   (Q:=λm vs H'=>∃(i:Nat) (d9 d5 d16:Value),f≤i∧i≤ms.length∧m=ms.length-i∧vs=[sl,tQ 84 #[pv b0,pv b1],cv 0,cv (i-f:Nat),cv (ms.length-f:Nat),d9,d5,d16]∧Ext H H'∧∀x∈(ms.take i).drop f,(!nU x.2 c.op&&du r (jf x.2 c.op))=false)
   (R:=λr'=>Ext H r'.2.2∧∃(d8 d9 d5 d16:Value),((r'.1= .exit 0∧r'.2.1=[sl,tQ 84 #[pv b0,pv b1],cv 0,d8,cv (ms.length-f:Nat),d9,d5,d16]∧∀x∈ms.drop f,(!nU x.2 c.op&&du r (jf x.2 c.op))=false)∨
    (r'.1= .ret∧∃j:Nat,r'.2.1=[sl,tQ 84 #[pv b0,pv b1],cv j,d8,cv (ms.length-f:Nat),d9,d5,d16]∧∃x∈ms.drop f,(!nU x.2 c.op&&du r (jf x.2 c.op))=true)))
   (by
    rintro m vs H' ⟨i,d9,d5,d16,hfi,hi,rfl,rfl,ex,fE⟩;by_cases dH:i<ms.length
    ·have h1:((i-f:Nat):Int)<(ms.length-f:Nat):=by omega
     have fq:bP 1 sl (cv (i-f:Nat)) H'=some (.pointer (some ⟨qb,i,none⟩),H'):=by
      rw[nP];simp only[bP];rw[if_pos (by constructor<;>omega)]
      simp<;>omega
     have fN:au (.pointer (some ⟨qb,i,none⟩)) H'=some (pv ms[i].1):=by
      rw[ak _ _ _ (ex.get hq)];show((ms.map λx=>pv x.1)++rest)[i]? =_
      rw[List.getElem?_append_left (by simpa using dH)]
      simp[dH]
     obtain⟨jQ,r1,x1⟩:=tst ms[i] (List.getElem_mem dH) H' ex;have hdy:=SX (C:=run KG (n+9)) (c:=#[pv b0,pv b1]) (args:=[pv ms[i].1]) (H:=H') aeT;have sY:ms[i]∈ms.drop f:=by
      have:(ms.drop f)[i-f]? =some ms[i]:=by rw[List.getElem?_drop,show f+(i-f)=i by omega,List.getElem?_eq_getElem dH]
      exact List.mem_of_getElem? this
     have hw:IntKind.i64.wrap (((i-f:Nat):Int)+1)=((i+1-f:Nat):Int):=by rw[jE (by omega)];omega
     cases hc:(!nU ms[i].2 c.op&&du r (jf ms[i].2 c.op)) with
     |true=>
      rw[hc] at r1;refine .inr ⟨(.ret,[sl,tQ 84 #[pv b0,pv b1],cv (i-f:Nat),cv (i-f:Nat),cv (ms.length-f:Nat),.bool true,cv (i-f:Nat),.bool true],jQ),?_,by simp,x1,_,_,_,_,.inr ⟨rfl,i-f,rfl,ms[i],sY,hc⟩⟩
      simp -implicitDefEqProofs [wG,qZ,aE,h1,fq,fN,hdy,r1,fin]
     |false=>
      rw[hc] at r1;refine .inl ⟨_,jQ,ms.length-(i+1),by omega,?_,i+1,.bool true,cv (i-f:Nat),.bool false,by omega,by omega,rfl,rfl,x1,λx hx=>?_⟩
      ·simp -implicitDefEqProofs [wG,qZ,aE,h1,fq,fN,hdy,r1,de,hw,fin]
      ·rw[List.take_add_one,List.getElem?_eq_getElem dH,List.drop_append_of_le_length (by simp;omega)] at hx
       rcases List.mem_append.1 hx with hx|hx
       ·exact fE x hx
       ·have:x=ms[i]:=by simpa using hx
        rw[this];exact hc
    ·have h1: ¬((i-f:Nat):Int)<(ms.length-f:Nat):=by omega
     rw[List.take_of_length_le (by omega)] at fE
     refine .inr ⟨(.exit 0,[sl,tQ 84 #[pv b0,pv b1],cv 0,cv (i-f:Nat),cv (ms.length-f:Nat),.bool false,d5,d16],H'),?_,by simp,ex,_,_,_,_,.inl ⟨rfl,rfl,fE⟩⟩
     simp -implicitDefEqProofs [wG,qZ,aE,h1,fin])
   (ms.length-f) [sl,tQ 84 #[pv b0,pv b1],cv 0,cv (f-f:Nat),cv (ms.length-f:Nat),undef,undef,undef] H ⟨f,_,_,_,Nat.le_refl _,hf,rfl,rfl,.refl _,λx hx=>by
    have:(ms.take f).drop f=[]:=List.drop_eq_nil_of_le (by simp;omega)
    rw[this] at hx;cases hx⟩ (n+9) (by omega)
  obtain⟨e,vs,H'⟩:=r';simp only at hr x';rw[Nat.sub_self,Int.natCast_zero] at iL;obtain⟨d8,d9,d5,d16,⟨rfl,rfl,fE⟩|⟨rfl,j,rfl,x,hx,hc⟩⟩:=hr
  ·refine⟨-1,H',?_,x',?_⟩
   ·simp -implicitDefEqProofs [acf,hlen,iL,Pd,BD]
   ·symm
    rw[show decide ((-1:Int)≥0)=false from rfl, ←List.map_drop,List.any_eq_false]
    intro y hy;obtain⟨x,hx,rfl⟩:=List.mem_map.1 hy;rw[fE x hx];simp
  ·refine⟨j,H',?_,x',?_⟩
   ·simp -implicitDefEqProofs [acf,hlen,iL,dr,dv,up,qP,qO,xO];rfl
   ·symm
    rw[decide_eq_true (show(j:Int)≥0 by omega), ←List.map_drop,List.any_eq_true]
    exact⟨x.2,List.mem_map_of_mem hx,hc⟩
 obtain⟨j,H',r1,x1,hj⟩:=key;refine⟨H',?_,x1⟩;rw[←hj];simp -implicitDefEqProofs [-ge_iff_le,F83,r1,fp]
end
end Go.Proofs.YtjgmnoaalbbonaaGreat.Fun
namespace Go.Proofs.YtjgmnoaalbbonaaGreat.Fun
open Go Go.RowKit Go.Proofs.YtjgmnoaalbbonaaGreatA.Am
set_option maxRecDepth 10000
def vC (H:ae)(o:an)(k:Nat)(c:jw):Prop:=
 ∃(r:dF) (s:Value) (ty:TypeId),H.get k=some ⟨jr c r s,ty,1,false⟩∧o k= -22∧(∃a m n,s= .slice a m n)∧∀a,c.fh=some a→r=jf a c.op∧ee H o (-23) s r.list
theorem vC.fr {H H':ae}{o o':an}{k:Nat}{c:jw}{ps:List Int}(h:vC H o k c)(f:Fr H o H' o' ps)(h1:(-22:Int) ∉ ps)(h2:(-23:Int) ∉ ps):vC H' o' k c:=by
 obtain⟨r,s,ty,g,ok,hs,ht⟩:=h;exact⟨r,s,ty,by rw[f.same k (aq g) (by rw[ok];exact h1)];exact g,by rw[f.own k (aq g)];exact ok,hs,λa ha=>⟨(ht a ha).1,(ht a ha).2.fr f h2⟩⟩
structure Iw (H:ae) (o:an) (c:Nat) (sm:Value) (bm:Option Nat) (t:Nat) (ms:List (Nat×PL)) (cs:List (Int×Nat×jw)) (ty:TypeId) (inv:Int):Prop where
 hZ:H.get c=some ⟨[sm,.map (some t),cv inv],ty,1,false⟩
 oc:o c= -20
 kz:H.db t=some (.kz .i64 (cs.map λx=>(x.1,pv x.2.1)))
 ot:o t= -24
 sl:Sl H o (-21) sm (ms.map λx=>pv x.1) bm
 maps: ∀x∈ms,fm H o x.1 x.2
 nd:(cs.map λx=>x.2.1).Nodup
 calls: ∀x∈cs,vC H o x.2.1 x.2.2
theorem Iw.fr {H H':ae}{o o':an}{c:Nat}{sm:Value}{bm:Option Nat}{t:Nat}{ms:List (Nat×PL)}{cs:List (Int×Nat×jw)}{ty:TypeId}{inv:Int}(h:Iw H o c sm bm t ms cs ty inv)(f:Fr H o H' o' []):Iw H' o' c sm bm t ms cs ty inv where
 hZ:=by rw[f.same c (aq h.hZ) (by simp)];exact h.hZ
 oc:=by rw[f.own c (aq h.hZ)];exact h.oc
 kz:=by rw[f.db t (fi h.kz) (by simp)];exact h.kz
 ot:=by rw[f.own t (fi h.kz)];exact h.ot
 sl:=h.sl.fr f (by simp)
 maps:=λx hx=>(h.maps x hx).fr f (by simp)
 nd:=h.nd
 calls:=λx hx=>(h.calls x hx).fr f (by simp) (by simp)
def yf (H:ae)(o:an)(c:Nat)(S:tR):Prop:=
 ∃(sm:Value) (bm:Option Nat) (t:Nat) (ms:List (Nat×PL)) (cs:List (Int×Nat×jw)) (ty:TypeId),Iw H o c sm bm t ms cs ty S.inv∧S.maps=ms.map (λx=>x.2)∧S.calls=cs.map (λx=>(x.1,x.2.2))∧ms≠[]∧∀x∈cs,x.2.2.sO≤ms.length
theorem Tj {S:tR}{ms:List (Nat×PL)}(h:S.maps=ms.map λx=>x.2){x:Nat×PL}(hx:ms[ms.length-1]? =some x):S.now=x.2:=by
 unfold tR.now;rw[h,List.length_map,List.getD_eq_getElem?_getD,List.getElem?_map,hx];rfl
theorem MS {ms:List (Nat×PL)}(h:ms≠[]): ∃x,ms[ms.length-1]? =some x∧x∈ms:=by
 have:0<ms.length:=List.length_pos_iff.2 h;exact⟨_,List.getElem?_eq_getElem (by omega),List.getElem_mem _⟩
theorem acL (k:Nat)(H:ae):aw Tryz.prog 55 1 [(0,pv k)] H=some (.slice (some ⟨H.length,0,none⟩) 1 1,H.new ⟨[pv k],51,1,false⟩):=by kernel_rfl
theorem abC (op:jZ)(no f:Int):aI Tryz.prog 111 [(0,iG op),(1,cv no),(2,cv f)]=some (.agg #[cv op.kind,cv op.key,cv op.value,cv no,cv f,.bool false,cv 0,.bool false,cv 0,cv 0,cv 0,aB]):=by kernel_rfl
section
variable {G:ag} {H:ae} {o:an} {q:Int} {n c:Nat} {sm:Value} {bm:Option Nat} {t:Nat} {ms:List (Nat×PL)} {cs:List (Int×Nat×jw)} {ty:TypeId} {inv:Int}
theorem vD (h:Iw H o c sm bm t ms cs ty inv)(hl:ms.length≤65536){x:Nat×PL}(hx:ms[ms.length-1]? =some x)(eC:ms≠[]):run G (n+1) 52 [pv c] H=some (pv x.1,H):=by
 rw[abu];have hlen:=h.sl.len;simp only[List.length_map] at hlen;have Jb:0<ms.length:=List.length_pos_iff.2 eC;obtain⟨qq,_,fq,fN⟩:=h.sl.idx (j:=ms.length-1) (v:=pv x.1) (by rw[List.getElem?_map,hx];rfl)
 have hw:IntKind.i64.wrap ((ms.length:Int)-1)=((ms.length-1:Nat):Int):=by rw[jE (by omega)];omega
 have L0:=ak c 0 H h.hZ;simp -implicitDefEqProofs [F52,bF,ax,L0,hlen,ki,hw,fq,fN H rfl]
theorem Tk (h:Iw H o c sm bm t ms cs ty inv)(hl:ms.length≤65536)(eC:ms≠[]){k:Nat}{cl:jw}(hk:vC H o k cl)(hf:cl.sO≤ms.length){r:dF}{s:Value}(hs:ee H o q s r.list)(hr:r.list.length≤4194304)(hn:4194304<n):
  ∃H',run KG (n+13) 56 [pv c,pv k,c8 r s] H=some (.bool (may (ms.map λx=>x.2) cl r),H')∧Ext H H':=by
 rw[abW];obtain⟨rc,sc,tk,gk,ok,⟨ac,mc,nc,esc⟩,Ve⟩:=hk;obtain⟨a,m',es⟩:=hs.isSlice;obtain⟨H1,e1⟩: ∃z,z=H.new ⟨[pv k],109,1,false⟩:=⟨_,rfl⟩;have b1:=SU 109 (pv k) H rfl rfl;rw[←e1] at b1;have l1:H1.length=H.length+1:=by rw[e1,bh]
 obtain⟨H2,e2⟩: ∃z,z=H1.new ⟨jI r s,45,1,false⟩:=⟨_,rfl⟩;have b2:=PH r es H1;rw[←e2,l1] at b2;have x2:Ext H H2:=by rw[e2,e1];exact((Ext.refl H).new _).new _
 have g1:H2.get H.length=some ⟨[pv k],109,1,false⟩:=by rw[e2,cr (by omega),e1];exact az
 have g2:H2.get (H.length+1)=some ⟨jI r s,45,1,false⟩:=by
  have:=az (H:=H1) (c:=⟨jI r s,45,1,false⟩)
  rw[l1, ←e2] at this;exact this
 have Uy:=x2.get gk;have P0:=ak H.length 0 H2 g1;have K5:au (.pointer (some ⟨k,5,none⟩)) H2=some (.bool cl.fh.isSome):=ak k 5 H2 Uy;have K0:=ak k 0 H2 Uy;have R2:wK H2 (o.from H.length 0) q (c8 r s) r:=⟨s,rfl,hs.fr (x2.fr o 0) (by simp)⟩
 unfold may;cases ht:cl.fh with
 |some w=>
  obtain⟨e3,s3⟩:=Ve w ht;subst e3;obtain⟨H3,r3,x3⟩:=rX (G:=KG) (n:=n+10) R2 (y:=c8 (jf w cl.op) sc) (rb:=jf w cl.op) ⟨sc,rfl,s3.fr (x2.fr o 0) (by simp)⟩ (by omega) (by omega)
  refine⟨H3,?_,x2.trans x3⟩;rw[ht] at K5;simp -implicitDefEqProofs [F56,b1,b2,P0,bF,ax,K5,jR _ _ _ g2,agN Uy,r3]
 |none=>
  rw[ht] at K5;have K0':au (pv k) H2=some (cv cl.op.kind):=K0;obtain⟨H3,r3,x3⟩:=rX (G:=KG) (n:=n+10) R2 (y:=c8 (eJ 8) aB) (rb:=eJ 8) (o2:=o) (q2:=0) ⟨aB,rfl,.nil⟩ (by omega) (by omega)
  have first: ∃H4,Ext H2 H4∧(if cl.op.kind≤3 then run KG (n+12) 82 [c8 r s,c8 (eJ 8) aB] H2=some (.bool (du r (eJ 8)),H4) else H4=H2):=by
   by_cases h3:cl.op.kind≤3
   ·exact⟨H3,x3,by rw[if_pos h3];exact r3⟩
   ·exact⟨H2,.refl _,by rw[if_neg h3]⟩
  obtain⟨H4,x4,r4⟩:=first
  have R4:wK H4 ((o.from H.length 0).from H2.length 0) q (c8 r s) r:=R2.ext x4
  obtain⟨H5,r5,x5⟩:=rX (G:=KG) (n:=n+10) R4 (y:=c8 (eJ 9) aB) (rb:=eJ 9) (o2:=o) (q2:=0) ⟨aB,rfl,.nil⟩ (by omega) (by omega)
  have second: ∃H6,Ext H4 H6∧(if cl.op.kind>4 then run KG (n+12) 82 [c8 r s,c8 (eJ 9) aB] H4=some (.bool (du r (eJ 9)),H6) else H6=H4):=by
   by_cases h3:cl.op.kind>4
   ·exact⟨H5,x5,by rw[if_pos h3];exact r5⟩
   ·exact⟨H4,.refl _,by rw[if_neg h3]⟩
  obtain⟨H6,x6,r6⟩:=second;have cD:=x4.trans x6;have xA:=x2.trans cD;have h6:=(h.fr (x2.fr o (-9))).fr (cD.fr _ (-9));obtain⟨qb,hbm⟩: ∃qb,bm=some qb:=by
   cases bm with
   |none=>obtain⟨_,hh⟩:=h.sl;simp at hh;exact absurd hh eC
   |some qb=>exact⟨qb,rfl⟩
  subst hbm;obtain⟨cap,rest,EU,esm,gq,hc,_,_⟩:=h6.sl;simp only[List.length_map] at esm hc;have acM:dD 1 H6 sm (some (cv cl.sO)) none=some (.slice (some ⟨qb,cl.sO,none⟩) (ms.length-cl.sO) (cap-cl.sO)):=by
   rw[esm];have k1:(cl.sO:Int)≤(ms.length:Int):=by omega
   have k2:ms.length≤cap:=by omega
   simp[dD,cK,iV,gq,k1,k2]
  obtain⟨H7,r7,x7⟩:=Dj (n:=n+1) (cap:=cap) (c:=cl) (r:=r) (f:=cl.sO) (b0:=H.length) (b1:=H.length+1) rfl gq hf hl h6.maps (cD.get Uy) (cD.get g1) (cD.get g2) ((hs.fr (x2.fr o (-9)) (by simp)).fr (cD.fr _ (-9)) (by simp)) hr (by omega)
  have P4:=ak H.length 0 H4 (x4.get g1);have P6:=ak H.length 0 H6 (cD.get g1);have K4:=ak k 0 H4 (x4.get Uy);have K6:=ak k 4 H6 (cD.get Uy);have C6:=ak c 0 H6 h6.hZ;by_cases c1:cl.op.kind≤3∧du r (eJ 8)=true
  ·rw[if_pos c1.1] at r4;refine⟨H4,?_,x2.trans x4⟩;rw[c1.2] at r4;simp -implicitDefEqProofs [F56,b1,b2,P0,bF,ax,K5,K0,hP,c1.1,c1.2,jR _ _ _ g2,nV,r4,ar]
  have d1:(decide (cl.op.kind≤3)&&du r (eJ 8))=false:=by
   cases hh:(decide (cl.op.kind≤3)&&du r (eJ 8)) with
   |false=>rfl
   |true=>simp at hh;exact absurd hh c1
  by_cases c2:cl.op.kind>4∧du r (eJ 9)=true
  ·have n3: ¬cl.op.kind≤3:=by omega
   rw[if_neg n3] at r4;subst r4;rw[if_pos c2.1] at r6;refine⟨H6,?_,x2.trans cD⟩;rw[c2.2] at r6;simp -implicitDefEqProofs [-gt_iff_lt,F56,b1,b2,P0,bF,ax,K5,K0,hP,n3,c2.1,c2.2,jR _ _ _ g2,nV,eS,r6,ar]
  have d2:(decide (cl.op.kind>4)&&du r (eJ 9))=false:=by
   cases hh:(decide (cl.op.kind>4)&&du r (eJ 9)) with
   |false=>rfl
   |true=>simp at hh;exact absurd hh c2
  refine⟨H7,?_,xA.trans x7⟩;rw[d1,d2];simp only[Bool.false_eq_true,if_false];obtain⟨B,hB⟩: ∃B,B=((ms.map λx=>x.2).drop cl.sO).any λm=> !nU m cl.op&&du r (jf m cl.op):=⟨_,rfl⟩
  rw[←hB] at r7 ⊢;by_cases n3:cl.op.kind≤3
  ·rw[if_pos n3] at r4;have n4: ¬cl.op.kind>4:=by omega
   rw[if_neg n4] at r6;subst r6;have f8:du r (eJ 8)=false:=by simpa[n3] using d1
   rw[f8] at r4;simp -implicitDefEqProofs [-gt_iff_lt,F56,b1,b2,P0,P4,P6,bF,ax,K5,K0,K4,K6,C6,hP,n3,n4,jR _ _ _ g2,jR _ _ _ (x4.get g2),nV,eS,r4,ar,acM,r7]
  ·rw[if_neg n3] at r4;subst r4;by_cases n4:cl.op.kind>4
   ·rw[if_pos n4] at r6;have f9:du r (eJ 9)=false:=by simpa[n4] using d2
    rw[f9] at r6;simp -implicitDefEqProofs [-gt_iff_lt,F56,b1,b2,P0,P4,P6,bF,ax,K5,K0,K4,K6,C6,hP,n3,n4,jR _ _ _ g2,jR _ _ _ (x4.get g2),nV,eS,r6,ar,acM,r7]
   ·rw[if_neg n4] at r6;subst r6;simp -implicitDefEqProofs [-gt_iff_lt,F56,b1,b2,P0,P4,P6,bF,ax,K5,K0,K4,K6,C6,hP,n3,n4,jR _ _ _ g2,jR _ _ _ (x4.get g2),nV,eS,ar,acM,r7]
end
end Go.Proofs.YtjgmnoaalbbonaaGreat.Fun
namespace Go.Proofs.YtjgmnoaalbbonaaGreat.Fun
open Go Go.RowKit Go.Proofs.YtjgmnoaalbbonaaGreatA.Am
set_option maxRecDepth 10000
def Yr (H:ae)(o:an)(q:Int)(x:Value)(e:iH):Prop:=∃s,x=yT e s∧ee H o q s e.res.list
def sP (H:ae)(o:an)(c:Nat)(S:tR)(e:iH)(N:Nat)(f:FuncId)(x:Value):Prop:=
 ∃H' o',run KG N f [pv c,x] H=some (.bool (step S e).isSome,H')∧Fr H o H' o' [-20, -21, -22, -24]∧∀S',step S e=some S'→yf H' o' c S'
theorem vE {H:ae}{t:Nat}{es:List (Int×Value)}{n:Int}{z:Value}(h:H.db t=some (.kz .i64 es))(hf:es.find? (λe=>e.1==n)=none):pO .i64 z false (.map (some t)) (cv n) H=some z:=by
 simp[pO,h,hf]
theorem wM {H:ae}{t:Nat}{es:List (Int×Value)}{n:Int}{z:Value}{x:Int×Value}(h:H.db t=some (.kz .i64 es))(hf:es.find? (λe=>e.1==n)=some x):pO .i64 z false (.map (some t)) (cv n) H=some x.2:=by
 simp[pO,h,hf]
theorem mQ {cs:List (Int×Nat×jw)}{n:Int}:(cs.map λx=>(x.1,pv x.2.1)).find? (λe=>e.1==n)=(cs.find? λe=>e.1==n).map λx=>(x.1,pv x.2.1):=by
 rw[List.find?_map];rfl
theorem B6 {cs:List (Int×Nat×jw)}{n:Int}:ku (cs.map λx=>(x.1,x.2.2)) n=ku cs n:=Ti _ cs n
theorem MT {cs:List (Int×Nat×jw)}{n:Int}:(cs.map λx=>(x.1,pv x.2.1)).findIdx? (λe=>e.1==n)=ku cs n:=by
 unfold ku;rw[List.findIdx?_map];rfl
section
variable {H:ae} {o:an} {q:Int} {n c:Nat} {S:tR} {e:iH} {x:Value}
theorem Ix (h:yf H o c S)(he:Yr H o q x e)(hl:e.res.list.length≤4194303)(yU:S.maps.length≤65000)(hk:e.kind=4)(hn:4194304<n):sP H o c S e (n+18) 27 x:=by
 obtain⟨sm,bm,t,ms,cs,ty,hp,em,ec,eC,nN⟩:=h;obtain⟨s,rfl,hs⟩:=he;have Ey:ms.length≤65000:=by rw[em] at yU;simpa using yU
 obtain⟨a,m',es⟩:=hs.isSlice;unfold sP;rw[ZH];have b1:=Iu e es H;obtain⟨H1,e1⟩: ∃z,z=H.new ⟨aT e s,47,1,false⟩:=⟨_,rfl⟩;rw[←e1] at b1;have x1:Ext H H1:=by rw[e1];exact(Ext.refl H).new _
 have f1:=x1.fr o (-9);have g1:H1.get H.length=some ⟨aT e s,47,1,false⟩:=by rw[e1];exact az
 have l1:H1.length=H.length+1:=by rw[e1,bh]
 have L11:=ak H.length 11 H1 g1;obtain⟨H2,r2,x2⟩:=PE (n:=n+12) (hs.fr f1 (by simp)) hl (by omega)
 have p1:=hp.fr f1;unfold step;rw[if_pos hk];by_cases lV:q8 (aX e.res.list)
 case neg=>
  rw[if_neg lV] at r2;refine⟨H2,_,?_,(f1.wk (by simp)).IW (x2.fr _ (-9)),λS' h'=>?_⟩
  ·rw[if_neg (by rintro⟨h,_⟩;exact lV h)]
   simp -implicitDefEqProofs [F27,b1,ax,L11,r2,eN,aS,ar]
  ·rw[if_neg (by rintro⟨h,_⟩;exact lV h)] at h';cases h'
 rw[if_pos lV] at r2;obtain⟨r2,m2⟩:=r2;have f2:=x2.fr (o.from H.length (-9)) H1.length
 have p2:=p1.fr f2;have f12:Fr H o H2 ((o.from H.length (-9)).from H1.length H1.length) [-20, -21, -22, -24]:=(f1.wk (by simp)).IW f2
 have C1:=ak c 1 H2 p2.hZ;have C0:=ak c 0 H2 p2.hZ;have MU:vQ (.map (some t)) H2=some (cv cs.length):=by simp[vQ,p2.kz]
 by_cases lQ:cs=[]
 case neg=>
  have Jb:0<cs.length:=List.length_pos_iff.2 lQ;have Tl:(cs.length:Int)>0:=by omega
  have Xi: ¬S.calls=[]:=by rw[ec];simpa using lQ
  refine⟨H2,_,?_,f12,λS' h'=>?_⟩
  ·rw[if_neg (by rintro⟨_,h,_⟩;exact Xi h)]
   simp -implicitDefEqProofs [-gt_iff_lt,F27,b1,ax,L11,r2,eN,aS,ar,bF,C1,MU,eS,Jb,Tl]
  ·rw[if_neg (by rintro⟨_,h,_⟩;exact Xi h)] at h';cases h'
 subst lQ;simp only[List.length_nil,Int.natCast_zero] at MU;obtain⟨y,hy,hym⟩:=MS eC;have Tm:=vD (G:=KG) (n:=n+16) p2 (by omega) hy eC
 have Xj:=SQ (G:=KG) (n:=n+16) (p2.maps y hym);have Gp:=Tj em hy;by_cases hz:y.2=[]
 case neg=>
  have Jb:0<y.2.length:=List.length_pos_iff.2 hz;have Tl:(y.2.length:Int)>0:=by omega
  refine⟨H2,_,?_,f12,λS' h'=>?_⟩
  ·rw[if_neg (by rintro⟨_,_,h⟩;rw[Gp] at h;exact hz h)]
   simp -implicitDefEqProofs [-gt_iff_lt,F27,b1,ax,L11,r2,eN,aS,ar,bF,C1,MU,eS,Tm,Xj,Jb,Tl]
  ·rw[if_neg (by rintro⟨_,_,h⟩;rw[Gp] at h;exact hz h)] at h';cases h'
 rw[hz] at Xj;simp only[List.length_nil,Int.natCast_zero] at Xj;have jS:q8 (aX e.res.list)∧S.calls=[]∧S.now=[]:=⟨lV,by rw[ec];rfl,by rw[Gp];exact hz⟩
 rw[if_pos jS];have bs:=acL H1.length H2;obtain⟨H3,e3⟩: ∃z,z=H2.new ⟨[pv H1.length],51,1,false⟩:=⟨_,rfl⟩;rw[←e3] at bs;have x3:Ext H2 H3:=by rw[e3];exact(Ext.refl H2).new _
 have g3:H3.get H2.length=some ⟨[pv H1.length],51,1,false⟩:=by rw[e3];exact az
 have f3:=x3.fr ((o.from H.length (-9)).from H1.length H1.length) (-9)
 have p3:=p2.fr f3;have m3:=m2.fr f3 (by simp)
 obtain⟨s',H4,o4,b4,ra,sl4,f4,ow4⟩:=p3.sl.KZ (tE:=51) (by_:=8) g3 rfl (by omega) (by simp;omega)
 have Iy:H4.get c=some ⟨[sm,.map (some t),cv S.inv],ty,1,false⟩:=by rw[f4.same c (aq p3.hZ) (by rw[p3.oc];simp)];exact p3.hZ
 have oc4:o4 c= -20:=by rw[f4.own c (aq p3.hZ)];exact p3.oc
 have st:=jA c 0 s' H4 Iy rfl (by simp) (by obtain⟨a,k,c,rfl⟩:=sl4.isSlice;rfl) (by obtain⟨a,k,c,rfl⟩:=sl4.isSlice;rfl) (by obtain⟨a,k,c,rfl⟩:=sl4.isSlice;rfl)
 simp only[List.set_cons_zero] at st;obtain⟨H5,e5⟩: ∃z,z=H4.put c ⟨[s',.map (some t),cv S.inv],ty,1,false⟩:=⟨_,rfl⟩;rw[←e5] at st;have f5:Fr H4 o4 H5 o4 [-20]:=by rw[e5];exact(Fr.refl _ _ _).put λ_=>by simp[oc4]
 refine⟨H5,o4,?_,((f12.IW f3).tr (f4.wk (by simp))).tr (f5.wk (by simp)),λS' h'=>?_⟩
 ·simp -implicitDefEqProofs [-gt_iff_lt,F27,b1,ax,L11,r2,eN,aS,ar,bF,C1,C0,MU,eS,Tm,Xj,bs,ra,st]
 ·cases h';have acN:H4.db t=some (.kz .i64 []):=by rw[f4.db t (fi p3.kz) (by rw[p3.ot];simp)];exact p3.kz
  refine⟨s',b4,t,ms++[(H1.length,e.res.list)],[],ty,⟨by rw[e5];exact aH Iy,by rw[f5.own c (aq Iy)];exact oc4,?_,?_,?_,?_,.nil,λy hy=>by cases hy⟩,by simp[em],by simp[jS.2.1],by simp,λy hy=>by cases hy⟩
  ·rw[f5.db t (fi acN) (by rw[f4.own t (fi p3.kz),p3.ot];simp)]
   exact acN
  ·rw[f5.own t (fi acN),f4.own t (fi p3.kz)];exact p3.ot
  ·have:=sl4.fr f5 (by simp)
   simpa using this
  ·intro y hy;rcases List.mem_append.1 hy with hy|hy
   ·exact((p3.maps y hy).fr f4 (by simp)).fr f5 (by simp)
   ·have:y=(H1.length,e.res.list):=by simpa using hy
    subst this;exact(m3.fr f4 (by simp)).fr f5 (by simp)
theorem K7 (h:yf H o c S)(he:Yr H o q x e)(yU:S.maps.length≤65000)(hk:e.kind=1):sP H o c S e (n+18) 28 x:=by
 obtain⟨sm,bm,t,ms,cs,ty,hp,em,ec,eC,nN⟩:=h;obtain⟨s,rfl,hs⟩:=he;have Ey:ms.length≤65000:=by rw[em] at yU;simpa using yU
 have Jb:0<ms.length:=List.length_pos_iff.2 eC;obtain⟨a,m',es⟩:=hs.isSlice;unfold sP;rw[abr];have b1:=Iu e es H;obtain⟨H1,e1⟩: ∃z,z=H.new ⟨aT e s,47,1,false⟩:=⟨_,rfl⟩;rw[←e1] at b1;have x1:Ext H H1:=by rw[e1];exact(Ext.refl H).new _
 have f1:=x1.fr o (-9);have g1:H1.get H.length=some ⟨aT e s,47,1,false⟩:=by rw[e1];exact az
 have p1:=hp.fr f1;have E0:au (.pointer (some ⟨H.length,1,none⟩)) H1=some (cv e.aV):=ak H.length 1 H1 g1;have E2:au (.pointer (some ⟨H.length,2,none⟩)) H1=some (cv e.no):=ak H.length 2 H1 g1;have E3:au (.pointer (some ⟨H.length,3,none⟩)) H1=some (cv e.op.kind):=ak H.length 3 H1 g1;have C1:au (.pointer (some ⟨c,1,none⟩)) H1=some (.map (some t)):=ak c 1 H1 p1.hZ;have C2:au (.pointer (some ⟨c,2,none⟩)) H1=some (cv S.inv):=ak c 2 H1 p1.hZ;have Uz:ku S.calls e.aV=ku cs e.aV:=by rw[ec];exact B6
 have sQ:Fr H o H1 (o.from H.length (-9)) [-20, -21, -22, -24]:=f1.wk (by simp)
 unfold step;rw[if_neg (by omega),if_pos hk,Uz]
 have bad:(e.aV<0∨(ku cs e.aV).isSome=true∨e.op.kind<1∨e.op.kind>10∨e.no≠S.inv)→
   Ym (run KG (n+17)) (n+17) (pv c) (yT e s) H=some (.bool false,H1):=by
  intro CG;by_cases k1:e.aV<0
  ·simp -implicitDefEqProofs [Ym,b1,ax,E0,aE,k1,ar]
  cases hx:ku cs e.aV with
  |some j=>
   obtain⟨y,K8,hy2,hy3⟩:=wL hx;have ml:=wM (z:=.pointer none) p1.kz (n:=e.aV) (x:=(y.1,pv y.2.1)) (by rw[mQ,hy3];rfl)
   simp -implicitDefEqProofs [Ym,b1,ax,bF,E0,C1,aE,k1,ar,ml,lG _ uC]
  |none=>
   have ml:=vE (z:=.pointer none) p1.kz (n:=e.aV) (by rw[mQ,rY hx];rfl)
   by_cases k2:e.op.kind<1
   ·simp -implicitDefEqProofs [Ym,b1,ax,bF,E0,E3,C1,aE,k1,k2,ar,ml,lG _ uC]
   by_cases k3:e.op.kind>10
   ·simp -implicitDefEqProofs [-gt_iff_lt,Ym,b1,ax,bF,E0,E3,C1,aE,eS,k1,k2,k3,ar,ml,lG _ uC]
   ·have k4: ¬e.no=S.inv:=by
     rcases CG with g|g|g|g|g
     ·exact absurd g k1
     ·rw[hx] at g;simp at g
     ·exact absurd g k2
     ·exact absurd g k3
     ·exact g
    simp -implicitDefEqProofs [-gt_iff_lt,Ym,b1,ax,bF,E0,E2,E3,C1,C2,aE,eS,eu,k1,k2,k3,k4,ar,ml,lG _ uC]
 by_cases hc:e.aV<0∨(ku cs e.aV).isSome=true∨e.op.kind<1∨e.op.kind>10∨e.no≠S.inv
 ·rw[if_pos hc];exact⟨H1,_,bad hc,sQ,λS' h'=>by cases h'⟩
 rw[if_neg hc];have k1: ¬e.aV<0:=λh=>hc (.inl h)
 have kx:ku cs e.aV=none:=by
  cases hx:ku cs e.aV with
  |none=>rfl
  |some j=>exact absurd (.inr (.inl (by rw[hx];rfl))) hc
 have k2: ¬e.op.kind<1:=λh=>hc (.inr (.inr (.inl h)))
 have k3: ¬e.op.kind>10:=λh=>hc (.inr (.inr (.inr (.inl h))))
 have k4:e.no=S.inv:=Classical.byContradiction λh=>hc (.inr (.inr (.inr (.inr h))))
 have ml:=vE (z:=.pointer none) p1.kz (n:=e.aV) (by rw[mQ,rY kx];rfl)
 have nq:aj Tryz.prog .neq 3 (cv e.no) (cv S.inv)=some (.bool false):=by rw[eu,k4];simp
 obtain⟨iv,eiv⟩: ∃iv,iv=IntKind.i64.wrap (S.inv+1):=⟨_,rfl⟩;have st2:=jA c 2 (cv iv) H1 p1.hZ rfl (by simp) rfl rfl rfl
 obtain⟨H2,e2⟩: ∃z,z=H1.put c ⟨[sm,.map (some t),cv iv],ty,1,false⟩:=⟨_,rfl⟩;have acO:bS 1 (.pointer (some ⟨c,2,none⟩)) (cv iv) H1=some (undef,H2):=by rw[e2];exact st2
 have f2:Fr H1 (o.from H.length (-9)) H2 (o.from H.length (-9)) [-20]:=by rw[e2];exact(Fr.refl _ _ _).put λ_=>by simp[p1.oc]
 have vF:H2.get c=some ⟨[sm,.map (some t),cv iv],ty,1,false⟩:=by rw[e2];exact aH p1.hZ
 have um:=aq hp.hZ;have g2:H2.get H.length=some ⟨aT e s,47,1,false⟩:=by rw[e2,bt (by omega)];exact g1
 have acP:H2.db t=some (.kz .i64 (cs.map λx=>(x.1,pv x.2.1))):=by rw[f2.db t (fi p1.kz) (by rw[p1.ot];simp)];exact p1.kz
 have Xg:=p1.sl.fr f2 (by simp)
 have D1:au (.pointer (some ⟨c,1,none⟩)) H2=some (.map (some t)):=ak c 1 H2 vF;have D0:au (pv c) H2=some sm:=ak c 0 H2 vF;have D0':au (.pointer (some ⟨c,0+0,none⟩)) H2=some sm:=D0;have E0':au (.pointer (some ⟨H.length,1,none⟩)) H2=some (cv e.aV):=ak H.length 1 H2 g2;have E2':au (.pointer (some ⟨H.length,2,none⟩)) H2=some (cv e.no):=ak H.length 2 H2 g2;have nP:=Xg.len;simp only[List.length_map] at nP;have hw:IntKind.i64.wrap ((ms.length:Int)-1)=((ms.length-1:Nat):Int):=by rw[jE (by omega)];omega
 obtain⟨cl,Tn⟩: ∃cl:jw,cl=⟨e.op,e.no,ms.length-1,none⟩:=⟨_,rfl⟩;have ab:aI Tryz.prog 111 [(0,iG e.op),(1,cv e.no),(2,cv (ms.length-1:Nat))]=some (.agg #[cv e.op.kind,cv e.op.key,cv e.op.value,cv e.no,cv (ms.length-1:Nat),.bool false,cv 0,.bool false,cv 0,cv 0,cv 0,aB]):=abC _ _ _;obtain⟨H3,e3⟩: ∃z,z=H2.new ⟨jr cl bZ aB,111,1,false⟩:=⟨_,rfl⟩;have bx:cB 111 (.agg #[cv e.op.kind,cv e.op.key,cv e.op.value,cv e.no,cv (ms.length-1:Nat),.bool false,cv 0,.bool false,cv 0,cv 0,cv 0,aB]) H2=some (pv H2.length,H3):=by
  rw[e3,Tn];simp[cB,Value.cells,aD,aO,bZ];rfl
 have f3:Fr H2 (o.from H.length (-9)) H3 ((o.from H.length (-9)).up H2.length (-22)) []:=by rw[e3];exact(Fr.refl _ _ _).new _ _
 have g3:H3.get H2.length=some ⟨jr cl bZ aB,111,1,false⟩:=by rw[e3];exact az
 have aeV:H3.db t=some (.kz .i64 (cs.map λx=>(x.1,pv x.2.1))):=by rw[f3.db t (fi acP) (by simp)];exact acP
 have acQ:H3.get c=some ⟨[sm,.map (some t),cv iv],ty,1,false⟩:=by rw[f3.same c (aq vF) (by simp)];exact vF
 have D1':au (.pointer (some ⟨c,1,none⟩)) H3=some (.map (some t)):=ak c 1 H3 acQ;have g2':H3.get H.length=some ⟨aT e s,47,1,false⟩:=by rw[f3.same _ (aq g2) (by simp)];exact g2
 have agO:au (.pointer (some ⟨H.length,1,none⟩)) H3=some (cv e.aV):=ak H.length 1 H3 g2';have put:Go.Proofs.YtjgmnoaalbbonaaGreatA.Am.jM .i64 (.map (some t)) (cv e.aV) (pv H2.length) H3=some (undef,H3.fC t (.kz .i64 ((cs++[(e.aV,H2.length,cl)]).map λx=>(x.1,pv x.2.1)))):=by
  have:I2 (cs.map λx=>(x.1,pv x.2.1)) e.aV (pv H2.length)=(cs++[(e.aV,H2.length,cl)]).map λx=>(x.1,pv x.2.1):=by
   unfold I2;rw[MT,kx];simp
  simp[Go.Proofs.YtjgmnoaalbbonaaGreatA.Am.jM,aeV,this]
 obtain⟨H4,e4⟩: ∃z,z=H3.fC t (.kz .i64 ((cs++[(e.aV,H2.length,cl)]).map λx=>(x.1,pv x.2.1))):=⟨_,rfl⟩
 rw[←e4] at put;have ot3:((o.from H.length (-9)).up H2.length (-22)) t= -24:=by rw[f3.own t (fi acP)];exact p1.ot
 have f4:Fr H3 ((o.from H.length (-9)).up H2.length (-22)) H4 ((o.from H.length (-9)).up H2.length (-22)) [-24]:=by rw[e4];exact(Fr.refl _ _ _).fC λ_=>by simp[ot3]
 have evm:jd (.map (some t)) (.map (some t))=true:=by simp[jd,n8]
 refine⟨H4,(o.from H.length (-9)).up H2.length (-22),?_,((sQ.tr (f2.wk (by simp))).IW f3).tr (f4.wk (by simp)),λS' h'=>?_⟩
 ·simp -implicitDefEqProofs [-gt_iff_lt,Ym,b1,ax,bF,E0,E2,E3,C1,C2,aE,eS,nq,k1,k2,k3,ar,ml,lG _ uC,de, ←eiv,acO,D1,D1',D0,E0',E2',agO,aeU g2,nP,ki,hw,ab,bx,put,evm]
 ·cases h';have P7: ∀y∈cs,vC H4 ((o.from H.length (-9)).up H2.length (-22)) y.2.1 y.2.2:=λy hy=>(((p1.calls y hy).fr f2 (by simp) (by simp)).fr f3 (by simp) (by simp)).fr f4 (by simp) (by simp)
  refine⟨sm,bm,t,ms,cs++[(e.aV,H2.length,cl)],ty,⟨?_,?_,?_,?_,?_,?_,?_,?_⟩,em,?_,eC,?_⟩
  ·rw[f4.same c (by have:=f3.size;have:=f2.size;have:=x1.size;omega) (by rw[f3.own c (aq vF),p1.oc];simp),f3.same c (aq vF) (by simp),vF,eiv]
  ·rw[f3.own c (aq vF)];exact p1.oc
  ·rw[e4];exact uP aeV
  ·exact ot3
  ·exact(Xg.fr f3 (by simp)).fr f4 (by simp)
  ·exact λy hy=>(((p1.maps y hy).fr f2 (by simp)).fr f3 (by simp)).fr f4 (by simp)
  ·rw[List.map_append,List.nodup_append];refine⟨p1.nd,by simp,λa ha b hb=>?_⟩
   simp only[List.map_cons,List.map_nil,List.mem_singleton] at hb;obtain⟨y,hy,rfl⟩:=List.mem_map.1 ha;obtain⟨_,_,_,gy,_⟩:=p1.calls y hy;have:=aq gy
   have:=f2.size
   omega
  ·intro y hy;rcases List.mem_append.1 hy with hy|hy
   ·exact P7 y hy
   ·have:y=(e.aV,H2.length,cl):=by simpa using hy
    subst this;exact⟨bZ,aB,_,by rw[f4.same _ (aq g3) (by rw[aQ];simp)];exact g3,aQ,⟨_,_,_,rfl⟩,λa ha=>by rw[Tn] at ha;cases ha⟩
  ·simp[ec,Tn,em]
  ·intro y hy;rcases List.mem_append.1 hy with hy|hy
   ·exact nN y hy
   ·have:y=(e.aV,H2.length,cl):=by simpa using hy
    subst this;rw[Tn];simp only;omega
end
end Go.Proofs.YtjgmnoaalbbonaaGreat.Fun
namespace Go.Proofs.YtjgmnoaalbbonaaGreat.Fun
open Go Go.RowKit Go.Proofs.YtjgmnoaalbbonaaGreatA.Am
set_option maxRecDepth 10000
theorem agP {H:ae}{k:Nat}{a0 a1 a2 a3 a4 a5 b0 b1 b2 b3 b4 b5:Value}{t:TypeId}(r:dF){s:Value}{a:Option Addr}{m n:Nat}(es:s= .slice a m n)(h:H.get k=some ⟨[a0,a1,a2,a3,a4,a5,b0,b1,b2,b3,b4,b5],t,1,false⟩):
  bS 6 (.pointer (some ⟨k,6,none⟩)) (c8 r s) H=some (undef,H.put k ⟨[a0,a1,a2,a3,a4,a5,cv r.pH,.bool r.found,cv r.key,cv r.value,cv r.n,s],t,1,false⟩):=by
 subst es;simp[bS,bG,h,Value.cells,known,aD,bO]
theorem vC.JO {H:ae}{o:an}{k k':Nat}{c:jw}{b:eY}(h:vC H o k' c)(hk:k'≠k)(ok:o k= -22):vC (H.put k b) o k' c:=by
 obtain⟨r,s,ty,g,ok',hs,ht⟩:=h;exact⟨r,s,ty,by rw[bt hk];exact g,ok',hs,λa ha=>⟨(ht a ha).1,(ht a ha).2.mv λi hi ho=>⟨bt (by rintro rfl;rw[ok] at ho;omega),ho⟩⟩⟩
theorem B7 {α:Type}{l:List α}{j:Nat}{a:α}(h:l[j]? =some a):l.set j a=l:=by
 apply List.ext_getElem?;intro i;rw[List.getElem?_set];split
 ·rename_i e;subst e;have:=(List.getElem?_eq_some_iff.1 h).1
  rw[if_pos this,h]
 ·rfl
theorem D3 {α:Type}{l:List α}(h:l.Nodup){i j:Nat}{a:α}(hi:l[i]? =some a)(hj:l[j]? =some a):i=j:=by
 obtain⟨Nz,GL⟩:=List.getElem?_eq_some_iff.1 hi;obtain⟨kY,jJ⟩:=List.getElem?_eq_some_iff.1 hj;have hp:=List.pairwise_iff_getElem.1 h;rcases Nat.lt_trichotomy i j with g|g|g
 ·exact absurd (GL.trans jJ.symm) (hp i j Nz kY g)
 ·exact g
 ·exact absurd (jJ.trans GL.symm) (hp j i kY Nz g)
theorem nW {α β:Type}(f:α→β)(l:List α)(j:Nat):(l.eraseIdx j).map f=(l.map f).eraseIdx j:=by
 rw[List.eraseIdx_eq_take_drop_succ,List.eraseIdx_eq_take_drop_succ];simp[List.map_take,List.map_drop]
section
variable {H:ae} {o:an} {q:Int} {n c:Nat} {S:tR} {e:iH} {x:Value}
theorem PK (h:yf H o c S)(he:Yr H o q x e)(yU:S.maps.length≤65000)(hb: ∀m∈S.maps,m.length<4194303)(hk:e.kind=2)(hn:4194304<n):sP H o c S e (n+18) 29 x:=by
 obtain⟨sm,bm,t,ms,cs,ty,hp,em,ec,eC,nN⟩:=h;obtain⟨s,rfl,hs⟩:=he;have Ey:ms.length≤65000:=by rw[em] at yU;simpa using yU
 obtain⟨a,m',es⟩:=hs.isSlice;unfold sP;rw[aaJ];have b1:=Iu e es H;obtain⟨H1,e1⟩: ∃z,z=H.new ⟨aT e s,47,1,false⟩:=⟨_,rfl⟩;rw[←e1] at b1;have x1:Ext H H1:=by rw[e1];exact(Ext.refl H).new _
 have f1:=x1.fr o (-9);obtain⟨o1,Qk⟩: ∃z,z=o.from H.length (-9):=⟨_,rfl⟩
 rw[←Qk] at f1;have g1:H1.get H.length=some ⟨aT e s,47,1,false⟩:=by rw[e1];exact az
 have p1:=hp.fr f1;have E0:au (.pointer (some ⟨H.length,1,none⟩)) H1=some (cv e.aV):=ak H.length 1 H1 g1;have E2:au (.pointer (some ⟨H.length,2,none⟩)) H1=some (cv e.no):=ak H.length 2 H1 g1;have C1:au (.pointer (some ⟨c,1,none⟩)) H1=some (.map (some t)):=ak c 1 H1 p1.hZ;have Uz:ku S.calls e.aV=ku cs e.aV:=by rw[ec];exact B6
 have sQ:Fr H o H1 o1 [-20, -21, -22, -24]:=f1.wk (by simp)
 unfold step;rw[if_neg (by omega),if_neg (by omega),if_pos hk,Uz]
 cases hx:ku cs e.aV with
 |none=>
  have ml:=vE (z:=.pointer none) p1.kz (n:=e.aV) (by rw[mQ,rY hx];rfl)
  refine⟨H1,_,?_,sQ,λS' h'=>by cases h'⟩
  simp -implicitDefEqProofs [F29,b1,ax,bF,E0,C1,ml,gG _ uC,ar]
 |some j=>
  obtain⟨y,K8,hy2,hy3⟩:=wL hx;have sY:y∈cs:=List.mem_of_getElem? K8;have hj:j<cs.length:=(List.getElem?_eq_some_iff.1 K8).1;have ml:=wM (z:=.pointer none) p1.kz (n:=e.aV) (x:=(y.1,pv y.2.1)) (by rw[mQ,hy3];rfl)
  have mJ:S.calls[j]? =some (y.1,y.2.2):=by rw[ec,List.getElem?_map,K8];rfl
  simp only[mJ];obtain⟨yk,k,cl⟩:=y;simp only at ml mJ sY K8 ⊢;obtain⟨rc,sc,tk,gk,okk,⟨ac,mc,nc,esc⟩,Ve⟩:=p1.calls _ sY;simp only at gk okk Ve;have K3:au (.pointer (some ⟨k,3,none⟩)) H1=some (cv cl.no):=ak k 3 H1 gk;have K5:au (.pointer (some ⟨k,5,none⟩)) H1=some (.bool cl.fh.isSome):=ak k 5 H1 gk;obtain⟨z,hz,To⟩:=MS eC;have Gp:S.now=z.2:=Tj em hz;rw[Gp];by_cases c1:cl.no=e.no
  case neg=>
   have c1':decide (cl.no=e.no)=false:=decide_eq_false c1;refine⟨H1,_,?_,sQ,λS' h'=>by rw[if_pos (.inl c1)] at h';cases h'⟩
   rw[if_pos (.inl c1)];simp -implicitDefEqProofs [F29,b1,ax,bF,E0,E2,C1,ml,gG _ uC,ar,K3,eu,c1]
  cases c2:cl.fh.isSome with
  |true=>
   refine⟨H1,_,?_,sQ,λS' h'=>by rw[if_pos (.inr (.inl rfl))] at h';cases h'⟩
   rw[if_pos (.inr (.inl rfl))];rw[c2] at K5;simp -implicitDefEqProofs [F29,b1,ax,bF,E0,E2,C1,ml,gG _ uC,ar,K3,K5,eu,c1]
  |false=>
   rw[c2] at K5;have Tm:=vD (G:=KG) (n:=n+16) p1 (by omega) hz eC
   obtain⟨H2,r2,x2⟩:=tL (G:=KG) (n:=n+11) (p1.maps z To) cl.op (by omega)
   have Ct:=vB cl.op;cases c3:nU z.2 cl.op with
   |false=>
    rw[c3] at r2;refine⟨H2,_,?_,sQ.IW (x2.fr o1 (-9)),λS' h'=>by rw[if_pos (.inr (.inr rfl))] at h';cases h'⟩
    rw[if_pos (.inr (.inr rfl))];simp -implicitDefEqProofs [F29,b1,ax,bF,E0,E2,C1,ml,gG _ uC,ar,K3,K5,eu,c1,Tm,Gn gk,Gn (x2.get gk),r2,aS,Ct]
   |true=>
    rw[c3] at r2;rw[if_neg (by rintro(h|h|h);exact h c1;cases h;cases h)]
    have f2:=x2.fr o1 (-9);obtain⟨o2,PM⟩: ∃z,z=o1.from H1.length (-9):=⟨_,rfl⟩
    rw[←PM] at f2;have p2:=p1.fr f2;have Uy:=x2.get gk;have aeW:=vD (G:=KG) (n:=n+16) p2 (by omega) hz eC
    obtain⟨ya,H3,r3,⟨s3,eya,UA⟩,x3⟩:=Iq (G:=KG) (n:=n+9) (p2.maps z To) cl.op (by omega)
    subst eya;have f3:=x3.fr o2 (-23);have aeX:ee H3 (o2.from H2.length (-23)) (-23) s3 (jf z.2 cl.op).list:=KT UA λi hi _=>gg hi
    obtain⟨o3,Ys⟩: ∃z,z=o2.from H2.length (-23):=⟨_,rfl⟩
    rw[←Ys] at f3 aeX;have p3:=p2.fr f3;have gk3:=x3.get Uy;have ok3:o3 k= -22:=by rw[f3.own k (aq Uy),f2.own k (aq gk)];exact okk
    obtain⟨a3,m3,es3⟩:=UA.isSlice;have UB:=jA k 5 (.bool true) H3 gk3 rfl (by simp) rfl rfl rfl
    simp only[List.set_cons_succ,List.set_cons_zero] at UB;have K9:=agP (jf z.2 cl.op) es3 (aH (c:=⟨[cv cl.op.kind,cv cl.op.key,cv cl.op.value,cv cl.no,cv cl.sO,.bool true,cv rc.pH,.bool rc.found,cv rc.key,cv rc.value,cv rc.n,sc],tk,1,false⟩) gk3);rw[yy] at K9;obtain⟨Yt,Tn⟩: ∃Yt:jw,Yt={cl with fh:=some z.2}:=⟨_,rfl⟩;obtain⟨H5,e5⟩: ∃z',z'=H3.put k ⟨jr Yt (jf z.2 cl.op) s3,tk,1,false⟩:=⟨_,rfl⟩;have agQ:bS 6 (.pointer (some ⟨k,6,none⟩)) (c8 (jf z.2 cl.op) s3) (H3.put k ⟨[cv cl.op.kind,cv cl.op.key,cv cl.op.value,cv cl.no,cv cl.sO,.bool true,cv rc.pH,.bool rc.found,cv rc.key,cv rc.value,cv rc.n,sc],tk,1,false⟩)=some (undef,H5):=by
     rw[K9,e5,Tn];rfl
    have f5:Fr H3 o3 H5 o3 [-22]:=by rw[e5];exact(Fr.refl _ _ _).put λ_=>by simp[ok3]
    have gk5:H5.get k=some ⟨jr Yt (jf z.2 cl.op) s3,tk,1,false⟩:=by rw[e5];exact aH gk3
    have p5:Iw H5 o3 c sm bm t ms (cs.set j (yk,k,Yt)) ty S.inv:=by
     refine⟨by rw[f5.same c (aq p3.hZ) (by rw[p3.oc];simp)];exact p3.hZ,p3.oc,?_,p3.ot,p3.sl.fr f5 (by simp),λw hw=>(p3.maps w hw).fr f5 (by simp),?_,?_⟩
     ·rw[f5.db t (fi p3.kz) (by rw[p3.ot];simp),p3.kz,List.map_set]
      rw[B7];rw[List.getElem?_map,K8];rfl
     ·rw[List.map_set,B7]
      ·exact p3.nd
      ·rw[List.getElem?_map,K8];rfl
     ·intro w hw;obtain⟨i,hi⟩:=List.getElem?_of_mem hw;by_cases GF:j=i
      ·subst GF;rw[List.getElem?_set_self hj] at hi;cases hi;exact⟨jf z.2 cl.op,s3,tk,gk5,ok3,⟨_,_,_,es3⟩,λa ha=>by
        rw[Tn] at ha;cases ha;exact⟨by rw[Tn],aeX.fr f5 (by simp)⟩⟩
      ·rw[List.getElem?_set_ne GF] at hi;have hwm:w∈cs:=List.mem_of_getElem? hi;have Xi:w.2.1≠k:=λe=>GF (D3 p3.nd (a:=k) (by rw[List.getElem?_map,K8];rfl) (by rw[List.getElem?_map,hi];simp[e]))
       rw[e5];exact(p3.calls w hwm).JO Xi ok3
    have C5:au (pv c) H5=some sm:=ak c 0 H5 p5.hZ;have aeY:=vD (G:=KG) (n:=n+16) p5 (by omega) hz eC
    have Xk:Yt.op=cl.op:=by rw[Tn]
    have L5:=Gn gk5;rw[Xk] at L5;obtain⟨p',H6,r6,x6,_,h6⟩:=KU (n:=n+9) (p5.maps z To) (by have:=hb z.2 (by rw[em];exact List.mem_map_of_mem To);omega) cl.op (by omega)
    obtain⟨hp6,m6⟩:=h6 c3;have f6:=x6.fr o3 p';obtain⟨o6,eo6⟩: ∃z,z=o3.from H5.length p':=⟨_,rfl⟩
    have m6':fm H6 o6 p' (Im z.2 cl.op):=m6.relabel λi hi ho=>by
     rcases Nat.lt_or_ge i H5.length with g|g
     ·rw[nF g] at ho;omega
     ·rw[eo6,gg g]
    rw[←eo6] at f6;have p6:=p5.fr f6;have C6:au (pv c) H6=some sm:=ak c 0 H6 p6.hZ;have bs:=acL p' H6;obtain⟨H7,e7⟩: ∃z,z=H6.new ⟨[pv p'],51,1,false⟩:=⟨_,rfl⟩;rw[←e7] at bs;have x7:Ext H6 H7:=by rw[e7];exact(Ext.refl H6).new _
    have g7:H7.get H6.length=some ⟨[pv p'],51,1,false⟩:=by rw[e7];exact az
    have f7:=x7.fr o6 (-9);obtain⟨o7,eo7⟩: ∃z,z=o6.from H6.length (-9):=⟨_,rfl⟩
    rw[←eo7] at f7;have p7:=p6.fr f7;have m7:=m6'.fr f7 (by simp)
    have C7:au (pv c) H7=some sm:=ak c 0 H7 p7.hZ;obtain⟨s',H8,o8,b8,ra,sl8,f8,ow8⟩:=p7.sl.KZ (tE:=51) (by_:=8) g7 rfl (by omega) (by simp;omega)
    have Xl:H8.get c=some ⟨[sm,.map (some t),cv S.inv],ty,1,false⟩:=by rw[f8.same c (aq p7.hZ) (by rw[p7.oc];simp)];exact p7.hZ
    have oc8:o8 c= -20:=by rw[f8.own c (aq p7.hZ)];exact p7.oc
    have st9:=jA c 0 s' H8 Xl rfl (by simp) (by obtain⟨a,k,c,rfl⟩:=sl8.isSlice;rfl) (by obtain⟨a,k,c,rfl⟩:=sl8.isSlice;rfl) (by obtain⟨a,k,c,rfl⟩:=sl8.isSlice;rfl)
    simp only[List.set_cons_zero] at st9;obtain⟨H9,e9⟩: ∃z,z=H8.put c ⟨[s',.map (some t),cv S.inv],ty,1,false⟩:=⟨_,rfl⟩;rw[←e9] at st9;have f9:Fr H8 o8 H9 o8 [-20]:=by rw[e9];exact(Fr.refl _ _ _).put λ_=>by simp[oc8]
    have evS:=p1.sl.jd;have nq:aj Tryz.prog .neq 3 (cv cl.no) (cv e.no)=some (.bool false):=by rw[eu,c1];simp
    have fA:Fr H o H9 o8 [-20, -21, -22, -24]:=((((((sQ.IW f2).IW f3).tr (f5.wk (by simp))).IW f6).IW f7).tr (f8.wk (by simp))).tr (f9.wk (by simp))
    refine⟨H9,o8,?_,fA,λS' h'=>?_⟩
    ·simp -implicitDefEqProofs [F29,b1,ax,bF,E0,E2,C1,ml,gG _ uC,ar,K3,K5,nq,Tm,Gn gk,Gn Uy,Gn gk3,r2,aS,Ct,aeW,r3,UB,agQ,C5,aeY,L5,r6,C6,C7,bs,ra,st9,evS]
    ·cases h';have aeZ:H8.db t=some (.kz .i64 ((cs.set j (yk,k,Yt)).map λx=>(x.1,pv x.2.1))):=by rw[f8.db t (fi p7.kz) (by rw[p7.ot];simp)];exact p7.kz
     refine⟨s',b8,t,ms++[(p',Im z.2 cl.op)],cs.set j (yk,k,Yt),ty,⟨by rw[e9];exact aH Xl,oc8,?_,?_,?_,?_,p7.nd,?_⟩,by simp[em],?_,by simp,?_⟩
     ·rw[f9.db t (fi aeZ) (by rw[f8.own t (fi p7.kz),p7.ot];simp)]
      exact aeZ
     ·rw[f8.own t (fi p7.kz)];exact p7.ot
     ·have:=sl8.fr f9 (by simp)
      simpa using this
     ·intro w hw;rcases List.mem_append.1 hw with hw|hw
      ·exact((p7.maps w hw).fr f8 (by simp)).fr f9 (by simp)
      ·have:w=(p',Im z.2 cl.op):=by simpa using hw
       subst this;exact(m7.fr f8 (by simp)).fr f9 (by simp)
     ·exact λw hw=>((p7.calls w hw).fr f8 (by simp) (by simp)).fr f9 (by simp) (by simp)
     ·rw[ec,List.map_set,Tn]
     ·intro w hw;rw[List.length_append];rcases List.mem_or_eq_of_mem_set hw with hw|rfl
      ·have:=nN w hw;omega
      ·have:=nN _ sY
       rw[Tn];simp only at this ⊢;omega
theorem Dk (h:yf H o c S)(he:Yr H o q x e)(hl:e.res.list.length≤4194304)(yU:S.maps.length≤65000)(hk:e.kind=3)(hn:4194304<n):sP H o c S e (n+18) 30 x:=by
 obtain⟨sm,bm,t,ms,cs,ty,hp,em,ec,eC,nN⟩:=h;obtain⟨s,rfl,hs⟩:=he;have Ey:ms.length≤65000:=by rw[em] at yU;simpa using yU
 obtain⟨a,m',es⟩:=hs.isSlice;unfold sP;rw[abt];have b1:=Iu e es H;obtain⟨H1,e1⟩: ∃z,z=H.new ⟨aT e s,47,1,false⟩:=⟨_,rfl⟩;rw[←e1] at b1;have x1:Ext H H1:=by rw[e1];exact(Ext.refl H).new _
 have f1:=x1.fr o (-9);have g1:H1.get H.length=some ⟨aT e s,47,1,false⟩:=by rw[e1];exact az
 have p1:=hp.fr f1;have E0:au (.pointer (some ⟨H.length,1,none⟩)) H1=some (cv e.aV):=ak H.length 1 H1 g1;have E2:au (.pointer (some ⟨H.length,2,none⟩)) H1=some (cv e.no):=ak H.length 2 H1 g1;have C1:au (.pointer (some ⟨c,1,none⟩)) H1=some (.map (some t)):=ak c 1 H1 p1.hZ;have Uz:ku S.calls e.aV=ku cs e.aV:=by rw[ec];exact B6
 have sQ:Fr H o H1 (o.from H.length (-9)) [-20, -21, -22, -24]:=f1.wk (by simp)
 unfold step;rw[if_neg (by omega),if_neg (by omega),if_neg (by omega),if_pos hk,Uz]
 cases hx:ku cs e.aV with
 |none=>
  have ml:=vE (z:=.pointer none) p1.kz (n:=e.aV) (by rw[mQ,rY hx];rfl)
  refine⟨H1,_,?_,sQ,λS' h'=>by cases h'⟩
  simp -implicitDefEqProofs [F30,b1,ax,bF,E0,C1,ml,gG _ uC,ar]
 |some j=>
  obtain⟨y,K8,hy2,hy3⟩:=wL hx;have sY:y∈cs:=List.mem_of_getElem? K8;have ml:=wM (z:=.pointer none) p1.kz (n:=e.aV) (x:=(y.1,pv y.2.1)) (by rw[mQ,hy3];rfl)
  have mJ:S.calls[j]? =some (y.1,y.2.2):=by rw[ec,List.getElem?_map,K8];rfl
  simp only[mJ];obtain⟨yk,k,cl⟩:=y;simp only at ml mJ sY K8 ⊢;have um:=p1.calls _ sY;have agR:=um;obtain⟨rc,sc,tk,gk,okk,⟨ac,mc,nc,esc⟩,Ve⟩:=agR;simp only at gk okk Ve;have K3:au (.pointer (some ⟨k,3,none⟩)) H1=some (cv cl.no):=ak k 3 H1 gk;by_cases c1:cl.no=e.no
  case neg=>
   refine⟨H1,_,?_,sQ,λS' h'=>by rw[if_pos (.inl c1)] at h';cases h'⟩
   rw[if_pos (.inl c1)];simp -implicitDefEqProofs [F30,b1,ax,bF,E0,E2,C1,ml,gG _ uC,ar,K3,eu,c1]
  obtain⟨H2,r2,x2⟩:=Tk (n:=n+4) p1 (by omega) eC um (nN _ sY) (hs.fr f1 (by simp)) hl (by omega)
  rw[←em] at r2;cases c2:may S.maps cl e.res with
  |false=>
   rw[c2] at r2;refine⟨H2,_,?_,sQ.IW (x2.fr _ (-9)),λS' h'=>by rw[if_pos (.inr rfl)] at h';cases h'⟩
   rw[if_pos (.inr rfl)];simp -implicitDefEqProofs [F30,b1,ax,bF,E0,E2,C1,ml,gG _ uC,ar,K3,eu,c1,acK g1,r2,aS]
  |true=>
   rw[c2] at r2;rw[if_neg (by rintro(h|h);exact h c1;cases h)]
   have f2:=x2.fr (o.from H.length (-9)) (-9)
   have p2:=p1.fr f2;have D1:au (.pointer (some ⟨c,1,none⟩)) H2=some (.map (some t)):=ak c 1 H2 p2.hZ;have D0:au (.pointer (some ⟨H.length,1,none⟩)) H2=some (cv e.aV):=ak H.length 1 H2 (x2.get g1);have del:Go.Proofs.YtjgmnoaalbbonaaGreatA.Am.lz .i64 (.map (some t)) (cv e.aV) H2=some (undef,H2.fC t (.kz .i64 ((cs.eraseIdx j).map λx=>(x.1,pv x.2.1)))):=by
    have:I3 (cs.map λx=>(x.1,pv x.2.1)) e.aV=(cs.eraseIdx j).map λx=>(x.1,pv x.2.1):=by
     unfold I3;rw[MT,hx,nW]
    simp[Go.Proofs.YtjgmnoaalbbonaaGreatA.Am.lz,p2.kz,this]
   obtain⟨H3,e3⟩: ∃z,z=H2.fC t (.kz .i64 ((cs.eraseIdx j).map λx=>(x.1,pv x.2.1))):=⟨_,rfl⟩
   rw[←e3] at del;have f3:Fr H2 ((o.from H.length (-9)).from H1.length (-9)) H3 ((o.from H.length (-9)).from H1.length (-9)) [-24]:=by rw[e3];exact(Fr.refl _ _ _).fC λ_=>by simp[p2.ot]
   refine⟨H3,_,?_,(sQ.IW f2).tr (f3.wk (by simp)),λS' h'=>?_⟩
   ·simp -implicitDefEqProofs [F30,b1,ax,bF,E0,E2,C1,ml,gG _ uC,ar,K3,eu,c1,acK g1,r2,aS,D1,D0,del]
   ·cases h';have sub:=List.eraseIdx_sublist cs j;refine⟨sm,bm,t,ms,cs.eraseIdx j,ty,⟨?_,p2.oc,?_,p2.ot,p2.sl.fr f3 (by simp),λw hw=>(p2.maps w hw).fr f3 (by simp),p2.nd.sublist (sub.map _),λw hw=>(p2.calls w (sub.subset hw)).fr f3 (by simp) (by simp)⟩,em,?_,eC,λw hw=>nN w (sub.subset hw)⟩
    ·rw[f3.same c (aq p2.hZ) (by rw[p2.oc];simp)];exact p2.hZ
    ·rw[e3];exact uP p2.kz
    ·rw[ec,nW]
theorem La (h:yf H o c S)(he:Yr H o q x e)(hl:e.res.list.length≤4194303)(yU:S.maps.length≤65000)(hb: ∀m∈S.maps,m.length<4194303)(hn:4194304<n):sP H o c S e (n+19) 15 x:=by
 obtain⟨s,rfl,hs⟩:=he;obtain⟨a,m',es⟩:=hs.isSlice;unfold sP;rw[ab7];have b1:=Iu e es H;obtain⟨H1,e1⟩: ∃z,z=H.new ⟨aT e s,47,1,false⟩:=⟨_,rfl⟩;rw[←e1] at b1;have x1:Ext H H1:=by rw[e1];exact(Ext.refl H).new _
 have f1:=x1.fr o (-9);have g1:H1.get H.length=some ⟨aT e s,47,1,false⟩:=by rw[e1];exact az
 have E0:au (pv H.length) H1=some (cv e.kind):=ak H.length 0 H1 g1;have he1:Yr H1 (o.from H.length (-9)) q (yT e s) e:=⟨s,rfl,hs.fr f1 (by simp)⟩
 have h1:yf H1 (o.from H.length (-9)) c S:=by
  obtain⟨sm,bm,t,ms,cs,ty,hp,h2⟩:=h;exact⟨sm,bm,t,ms,cs,ty,hp.fr f1,h2⟩
 have UC:=It g1;have sQ:Fr H o H1 (o.from H.length (-9)) [-20, -21, -22, -24]:=f1.wk (by simp)
 by_cases k4:e.kind=4
 ·obtain⟨H',o',r,f,hS⟩:=Ix (n:=n) h1 he1 hl yU k4 hn;refine⟨H',o',?_,sQ.tr f,hS⟩;simp -implicitDefEqProofs [F15,b1,ax,E0,k4,aF,UC,r]
 by_cases k1:e.kind=1
 ·obtain⟨H',o',r,f,hS⟩:=K7 (n:=n) h1 he1 yU k1;refine⟨H',o',?_,sQ.tr f,hS⟩;simp -implicitDefEqProofs [F15,b1,ax,E0,k1,aF,UC,r]
 by_cases k2:e.kind=2
 ·obtain⟨H',o',r,f,hS⟩:=PK (n:=n) h1 he1 yU hb k2 hn;refine⟨H',o',?_,sQ.tr f,hS⟩;simp -implicitDefEqProofs [F15,b1,ax,E0,k2,aF,UC,r]
 by_cases k3:e.kind=3
 ·obtain⟨H',o',r,f,hS⟩:=Dk (n:=n) h1 he1 (by omega) yU k3 hn
  refine⟨H',o',?_,sQ.tr f,hS⟩;simp -implicitDefEqProofs [F15,b1,ax,E0,k3,aF,UC,r]
 ·have Yu:step S e=none:=by unfold step;rw[if_neg k4,if_neg k1,if_neg k2,if_neg k3]
  refine⟨H1,_,?_,sQ,λS' h'=>by rw[Yu] at h';cases h'⟩
  rw[Yu];simp -implicitDefEqProofs [F15,b1,ax,E0,k1,k2,k3,k4,aF]
end
end Go.Proofs.YtjgmnoaalbbonaaGreat.Fun
namespace Go.Proofs.YtjgmnoaalbbonaaGreat.Fun
open Go Go.RowKit Go.Proofs.YtjgmnoaalbbonaaGreatA.Am
set_option maxRecDepth 10000
def oO (H:ae)(o:an)(q q2:Int)(x:Value)(L:List iH):Prop:=
 (x= .slice none 0 0∧L=[])∨(∃i off,x= .slice (some ⟨i,off,none⟩) 0 0∧L=[])∨
 ∃i off c b,x= .slice (some ⟨i,off,none⟩) L.length c∧L.length≤c∧H.get i=some b∧b.es=13∧o i=q∧off+13*L.length≤b.cells.length∧
  ∀j e,L[j]? =some e→∃s,(b.cells.drop (off+13*j)).take 13=aT e s∧ee H o q2 s e.res.list
section
variable {H H':ae} {o o':an} {q q2:Int} {x:Value} {L:List iH}
theorem oO.len (h:oO H o q q2 x L):cq x=some (cv L.length):=by
 rcases h with⟨rfl,rfl⟩|⟨i,off,rfl,rfl⟩|⟨i,off,c,b,rfl,_⟩<;>rfl
theorem oO.fr {ps:List Int}(h:oO H o q q2 x L)(f:Fr H o H' o' ps)(h1:q ∉ ps)(h2:q2 ∉ ps):oO H' o' q q2 x L:=by
 rcases h with h|h|⟨i,off,c,b,e1,e2,e3,e4,e5,e6,e7⟩
 ·exact .inl h
 ·exact .inr (.inl h)
 ·refine .inr (.inr ⟨i,off,c,b,e1,e2,by rw[f.same i (aq e3) (by rw[e5];exact h1)];exact e3,e4,by rw[f.own i (aq e3)];exact e5,e6,λj e he=>?_⟩)
  obtain⟨s,k1,k2⟩:=e7 j e he;exact⟨s,k1,k2.fr f h2⟩
theorem oO.relabel {q' q2':Int}(h:oO H o q q2 x L)(k: ∀i,i<H.length→o i=q→o' i=q')(k2: ∀i,i<H.length→o i=q2→o' i=q2'):oO H o' q' q2' x L:=by
 rcases h with h|h|⟨i,off,c,b,e1,e2,e3,e4,e5,e6,e7⟩
 ·exact .inl h
 ·exact .inr (.inl h)
 ·refine .inr (.inr ⟨i,off,c,b,e1,e2,e3,e4,k i (aq e3) e5,e6,λj e he=>?_⟩)
  obtain⟨s,g1,g2⟩:=e7 j e he;exact⟨s,g1,g2.relabel k2⟩
theorem oO.idx (h:oO H o q q2 x L){j:Nat}{e:iH}(hj:L[j]? =some e):
  ∃ptr s,(∀H',bP 13 x (cv j) H'=some (ptr,H'))∧ee H o q2 s e.res.list∧bV 13 ptr H=some (yT e s):=by
 have Cz:j<L.length:=(List.getElem?_eq_some_iff.1 hj).1;rcases h with⟨rfl,rfl⟩|⟨i,off,rfl,rfl⟩|⟨i,off,c,b,rfl,e2,e3,e4,e5,e6,e7⟩
 ·simp at Cz
 ·simp at Cz
 ·obtain⟨s,g1,g2⟩:=e7 j e hj;refine⟨.pointer (some ⟨i,off+13*j,none⟩),s,λH'=>?_,g2,?_⟩
  ·simp only[bP];rw[if_pos (by constructor<;>omega)];simp<;>omega
  ·have fN:aA H i (off+13*j) 13=some (aT e s):=by
    simp only[aA,e3];rw[if_pos (by omega),g1]
   simp only[bV,fN]
end
theorem D4 {S S':tR}{e:iH}{K:Nat}(h:step S e=some S')(hK: ∀m∈S.maps,m.length≤K)(he:e.res.list.length≤K):(∀m∈S'.maps,m.length≤K+1)∧S'.maps.length≤S.maps.length+1:=by
 have up: ∀m∈S.maps,m.length≤K+1:=λm hm=>by have:=hK m hm;omega
 have Gp:S.now.length≤K:=by
  unfold tR.now;rw[List.getD_eq_getElem?_getD];cases hx:S.maps[S.maps.length-1]? with
  |none=>simp
  |some m=>exact hK m (List.mem_of_getElem? hx)
 have agS: ∀op,(Im S.now op).length≤K+1:=λop=>by
  unfold Im;have h1:=rh S.now op.key op.value;have h2:=BU S.now op.key;repeat' split
  all_goals first|omega| (split at h1<;>omega)
 unfold step at h;split at h
 ·split at h
  ·cases h;refine⟨λm hm=>?_,by simp⟩
   rcases List.mem_append.1 hm with hm|hm
   ·exact up m hm
   ·have:m=e.res.list:=by simpa using hm
    rw[this];omega
  ·cases h
 ·split at h
  ·split at h
   ·cases h
   ·cases h;exact⟨up,by simp⟩
  ·split at h
   ·split at h
    ·cases h
    ·split at h
     ·cases h
     ·split at h
      ·cases h
      ·cases h;refine⟨λm hm=>?_,by simp⟩
       rcases List.mem_append.1 hm with hm|hm
       ·exact up m hm
       ·rw[List.mem_singleton.1 hm];exact agS _
   ·split at h
    ·split at h
     ·cases h
     ·split at h
      ·cases h
      ·split at h
       ·cases h
       ·cases h;exact⟨up,by simp⟩
    ·cases h
theorem ae0:(14:Nat)<Tryz.prog.funcs.size:=by decide +kernel
theorem abK (s:Value){a:Option Addr}{m k t:Nat}(es:s= .slice a m k):aI Tryz.prog 58 [(0,s),(1,.map (some t))]=some (.agg #[s,.map (some t),cv 0]):=by subst es;kernel_rfl
section
variable {H:ae} {o:an} {q q2:Int} {n:Nat} {x:Value} {L:List iH} {B:Nat}
theorem Lb (h:oO H o q q2 x L)(hL:L.length≤1000)(hB: ∀e∈L,e.res.list.length≤B)(Jw:B+2000≤4194303)(hn:4194304<n):
  ∃H',run KG (n+22) 7 [x] H=some (cv (check L Di 0),H')∧Ext H H':=by
 rw[aeg];have h0:oO H o0 (-1) (-1) x L:=h.relabel (λi _ _=>rfl) (λi _ _=>rfl)
 have jm:=h.len;obtain⟨H1,e1⟩: ∃z,z=H.new ⟨[.slice none 0 0,.slice none 0 0],54,1,false⟩:=⟨_,rfl⟩;have b1:=aeP H;rw[←e1] at b1;have l1:H1.length=H.length+1:=by rw[e1,bh]
 have m1:fm H1 (an.up o0 H.length H.length) H.length []:=by rw[e1];exact fm.fresh H o0 _
 have f1:Fr H o0 H1 (an.up o0 H.length H.length) []:=by rw[e1];exact(Fr.refl _ _ _).new _ _
 obtain⟨o1,Qk⟩: ∃z,z=an.up o0 H.length H.length:=⟨_,rfl⟩;rw[←Qk] at m1 f1;have b2:=acL H.length H1;obtain⟨H2,e2⟩: ∃z,z=H1.new ⟨[pv H.length],51,1,false⟩:=⟨_,rfl⟩;rw[←e2,l1] at b2;have l2:H2.length=H.length+2:=by rw[e2,bh,l1]
 have s2:Sl H2 (o1.up H1.length (-21)) (-21) (.slice (some ⟨H.length+1,0,none⟩) 1 1) [pv H.length] (some (H.length+1)):=by
  have:=Sl.made H1 o1 (-21) 51 [pv H.length]
  rw[←e2,l1] at this;rw[l1];exact this
 have f2:Fr H1 o1 H2 (o1.up H1.length (-21)) []:=by rw[e2];exact(Fr.refl _ _ _).new _ _
 obtain⟨o2,PM⟩: ∃z,z=o1.up H1.length (-21):=⟨_,rfl⟩;rw[←PM] at s2 f2;have m2:=m1.fr f2 (by simp)
 obtain⟨H3,e3⟩: ∃z,z=H2.gX (.kz .i64 []):=⟨_,rfl⟩;have b3:mmk .i64 H2=some (.map (some (H.length+2)),H3):=by rw[e3, ←l2];rfl
 have l3:H3.length=H.length+3:=by rw[e3,Rg,l2]
 have f3:Fr H2 o2 H3 (o2.up H2.length (-24)) []:=by rw[e3];exact(Fr.refl _ _ _).gX _ _
 have t3:H3.db (H.length+2)=some (.kz .i64 []):=by rw[e3, ←l2];exact od
 obtain⟨o3,Ys⟩: ∃z,z=o2.up H2.length (-24):=⟨_,rfl⟩;have ot3:o3 (H.length+2)= -24:=by rw[Ys,l2,aQ]
 rw[←Ys] at f3;have s3:=s2.fr f3 (by simp)
 have m3:=m2.fr f3 (by simp)
 have ab:=abK (.slice (some ⟨H.length+1,0,none⟩) 1 1) (t:=H.length+2) rfl;obtain⟨H4,e4⟩: ∃z,z=H3.new ⟨[.slice (some ⟨H.length+1,0,none⟩) 1 1,.map (some (H.length+2)),cv 0],58,1,false⟩:=⟨_,rfl⟩;have b4:cB 58 (.agg #[.slice (some ⟨H.length+1,0,none⟩) 1 1,.map (some (H.length+2)),cv 0]) H3=some (pv (H.length+3),H4):=by
  rw[e4, ←l3];simp[cB,Value.cells,aD,aO]
 have l4:H4.length=H.length+4:=by rw[e4,bh,l3]
 have f4:Fr H3 o3 H4 (o3.up H3.length (-20)) []:=by rw[e4];exact(Fr.refl _ _ _).new _ _
 have g4:H4.get (H.length+3)=some ⟨[.slice (some ⟨H.length+1,0,none⟩) 1 1,.map (some (H.length+2)),cv 0],58,1,false⟩:=by
  have:=az (H:=H3) (c:=⟨[.slice (some ⟨H.length+1,0,none⟩) 1 1,.map (some (H.length+2)),cv 0],58,1,false⟩)
  rw[l3, ←e4] at this;exact this
 obtain⟨o4,eo4⟩: ∃z,z=o3.up H3.length (-20):=⟨_,rfl⟩;have oc4:o4 (H.length+3)= -20:=by rw[eo4,l3,aQ]
 rw[←eo4] at f4;have p4:Iw H4 o4 (H.length+3) (.slice (some ⟨H.length+1,0,none⟩) 1 1) (some (H.length+1)) (H.length+2) [(H.length,[])] [] 58 0:=
  ⟨g4,oc4,by rw[f4.db _ (fi t3) (by simp)];exact t3,by rw[f4.own _ (fi t3)];exact ot3,s3.fr f4 (by simp),λy hy=>by
   have:y=(H.length,[]):=by simpa using hy
   subst this;exact m3.fr f4 (by simp),.nil,λy hy=>by cases hy⟩
 have h4:yf H4 o4 (H.length+3) Di:=⟨_,_,_,_,_,_,p4,rfl,rfl,by simp,λy hy=>by cases hy⟩
 obtain⟨H5,UB,b5,f5⟩:=Xb H4 o4 (-9) 50 (.pointer none) (pv (H.length+3)) ⟨rfl,rfl,rfl⟩;obtain⟨o5,eo5⟩: ∃z,z=o4.up H4.length (-9):=⟨_,rfl⟩;rw[←eo5] at b5 f5;have h5:yf H5 o5 (H.length+3) Di:=by
  obtain⟨sm,bm,t,ms,cs,ty,hp,h2⟩:=h4;exact⟨sm,bm,t,ms,cs,ty,hp.fr f5,h2⟩
 have fA:Fr H o0 H5 o5 []:=(((f1.tr f2).tr f3).tr f4).tr f5;rw[l4] at b5 UB;have key: ∃H',run KG (n+21) 13 [x,tQ 14 #[pv (H.length+4)]] H5=some (cv (check L Di 0),H')∧Ext H H':=by
  rw[aa3];obtain⟨r',iL,eC,x',d8,d9,d5,d16,hr⟩:=iy (step:=Kn (run KG (n+20)) (n+20))
   (Q:=λm vs H'=>∃(i:Nat) (S:tR) (o':an) (d9 d5 d16:Value),i≤L.length∧m=L.length-i∧vs=[x,tQ 14 #[pv (H.length+4)],cv 0,cv i,cv L.length,d9,d5,d16]∧yf H' o' (H.length+3) S∧Fr H5 o5 H' o' [-20, -21, -22, -24]∧
    check L Di 0=check (L.drop i) S i∧(∀m∈S.maps,m.length≤B+i)∧S.maps.length≤i+1)
   (R:=λr'=>Ext H r'.2.2∧∃(d8 d9 d5 d16:Value),((r'.1= .exit 0∧r'.2.1=[x,tQ 14 #[pv (H.length+4)],cv 0,d8,cv L.length,d9,d5,d16]∧check L Di 0= -1)∨
    (r'.1= .ret∧∃j:Nat,r'.2.1=[x,tQ 14 #[pv (H.length+4)],cv j,d8,cv L.length,d9,d5,d16]∧check L Di 0=j)))
   (by
    rintro m vs H' ⟨i,S,o',d9,d5,d16,hi,rfl,rfl,hS,f,hc,hK,hM⟩;have fH:=(fA.wk (qs:=[-20, -21, -22, -24]) (by simp)).tr f
    have acR:Ext H H':=Ext.of fH λi _ hh=>by simp at hh
    by_cases dH:i<L.length
    ·have h1:(i:Int)<L.length:=by omega
     have hLi:L[i]? =some L[i]:=List.getElem?_eq_getElem dH;obtain⟨ptr,s,fq,hs,fN⟩:=(h0.fr fH (by simp) (by simp)).idx hLi
     have hbx:Bx H' o' (H.length+4) (-9) 50 (pv (H.length+3)):=b5.fr f (by simp)
     have one: ∃jQ GM,run KG (n+20) 14 [yT L[i] s,pv (H.length+4)] H'=some (.bool (!(step S L[i]).isSome),jQ)∧Fr H' o' jQ GM [-20, -21, -22, -24]∧∀S',step S L[i]=some S'→yf jQ GM (H.length+3) S':=by
      rw[aat];obtain⟨a,m',es⟩:=hs.isSlice;have bx:=Iu L[i] es H';obtain⟨Hb,eb⟩: ∃z,z=H'.new ⟨aT L[i] s,47,1,false⟩:=⟨_,rfl⟩;rw[←eb] at bx;have xb:Ext H' Hb:=by rw[eb];exact(Ext.refl H').new _
      have fb:=xb.fr o' (-9);have gb:Hb.get H'.length=some ⟨aT L[i] s,47,1,false⟩:=by rw[eb];exact az
      have hSb:yf Hb (o'.from H'.length (-9)) (H.length+3) S:=by
       obtain⟨sm,bm,t,ms,cs,ty,hp,h2⟩:=hS;exact⟨sm,bm,t,ms,cs,ty,hp.fr fb,h2⟩
      obtain⟨jQ,GM,rr,fr,pY⟩:=La (n:=n) hSb (x:=yT L[i] s) ⟨s,rfl,hs.fr fb (by simp)⟩ (by have:=hB _ (List.getElem_mem dH);omega) (by omega) (λm hm=>by have:=hK m hm;omega) hn
      refine⟨jQ,GM,?_,(fb.wk (by simp)).tr fr,pY⟩
      simp -implicitDefEqProofs [F14,bx,(hbx.fr fb (by simp)).ld,It gb,rr,aS]
     obtain⟨jQ,GM,r1,sQ,pY⟩:=one;have hdy:=SX (C:=run KG (n+20)) (c:=#[pv (H.length+4)]) (args:=[yT L[i] s]) (H:=H') ae0;have hw:IntKind.i64.wrap ((i:Int)+1)=((i+1:Nat):Int):=by rw[jE (by omega)];omega
     have Tp:L.drop i=L[i]::L.drop (i+1):=List.drop_eq_getElem_cons dH;have hd:check (L[i]::L.drop (i+1)) S i=(match step S L[i] with|none=>(i:Int)|some S'=>check (L.drop (i+1)) S' (i+1)):=rfl
     rw[Tp,hd] at hc;have fH2:=fH.tr sQ;cases ky:step S L[i] with
     |none=>
      rw[ky] at r1 hc;refine .inr ⟨(.ret,[x,tQ 14 #[pv (H.length+4)],cv i,cv i,cv L.length,.bool true,cv i,.bool true],jQ),?_,by simp,Ext.of fH2 (λi _ hh=>by simp at hh),_,_,_,_,.inr ⟨rfl,i,rfl,hc⟩⟩
      simp -implicitDefEqProofs [AX,vf,aE,h1,fq,fN,hdy,r1,fin]
     |some S'=>
      rw[ky] at r1 hc;obtain⟨k1,k2⟩:=D4 ky hK (by have:=hB _ (List.getElem_mem dH);omega)
      refine .inl ⟨_,jQ,L.length-(i+1),by omega,?_,i+1,S',GM,.bool true,cv i,.bool false,by omega,rfl,rfl,pY S' ky,f.tr sQ,hc,λm hm=>by have:=k1 m hm;omega,by omega⟩
      simp -implicitDefEqProofs [-Int.natCast_add,AX,vf,aE,h1,fq,fN,hdy,r1,de,hw,fin]
    ·have h1: ¬(i:Int)<L.length:=by omega
     rw[List.drop_eq_nil_of_le (by omega)] at hc
     refine .inr ⟨(.exit 0,[x,tQ 14 #[pv (H.length+4)],cv 0,cv i,cv L.length,.bool false,d5,d16],H'),?_,by simp,acR,_,_,_,_,.inl ⟨rfl,rfl,hc⟩⟩
     simp -implicitDefEqProofs [AX,vf,aE,h1,fin])
   (L.length-0) [x,tQ 14 #[pv (H.length+4)],cv 0,cv (0:Nat),cv L.length,undef,undef,undef] H5 ⟨0,Di,o5,_,_,_,Nat.zero_le _,rfl,rfl,h5,.refl _ _ _,rfl,λm hm=>by
    have:m=[]:=by simpa[Di] using hm
    subst this;simp,by simp[Di]⟩ (n+20) (by omega)
  obtain⟨e,vs,H'⟩:=r';simp only at hr x';simp only[Int.natCast_zero] at iL;refine⟨H',?_,x'⟩;rcases hr with⟨rfl,rfl,hc⟩|⟨rfl,j,rfl,hc⟩
  ·rw[hc];simp -implicitDefEqProofs [F13,jm,iL,Sc,FM]
  ·rw[hc];simp -implicitDefEqProofs [F13,jm,iL,dr,dv,up,qP,qO,xO];rfl
 obtain⟨H',r',x'⟩:=key;refine⟨H',?_,x'⟩;simp -implicitDefEqProofs [F7,acz,b1,b2,b3,ab,b4,aO,l4,UB,r']
end
end Go.Proofs.YtjgmnoaalbbonaaGreat.Fun
end
