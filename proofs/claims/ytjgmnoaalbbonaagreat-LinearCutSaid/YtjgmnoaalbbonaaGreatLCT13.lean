/- Texts of the proof of linearCut_holds, put together by a small program of ours (names shortened, spaces taken out). No condition beyond the given statement. -/
import Derived.Test.YtjgmnoaalbbonaaGreatLCT12
import Derived.Test.YtjgmnoaalbbonaaGreatLCT10
import Derived.RangeFuncLeaves
import Derived.Test.YtjgmnoaalbbonaaGreatLCT11
set_option linter.unusedVariables false
set_option linter.unusedSimpArgs false
set_option linter.unnecessarySimpa false
noncomputable section
section
namespace Go.Proofs.YtjgmnoaalbbonaaGreatA.Am
open Go.RowKit (Below)
variable {P:Program} {μ:Mu} {H H':aa} {w:World} {B:Nat}
abbrev Nt (P:Program)(B:Nat)(μ:Mu)(a:Act)(w:World)(v:Value)(H':aa)(Q:Exit→Act→World→Prop):Prop:=
 ∀(a':Act) (w':World) (μ':Mu) (Hf:aa),μ.le μ'→Marks w w' a a'→cQ P μ' Hf w' B→fI B w w'→
  (∀Ad,cQ P μ' Hf Ad B→∃mR,μ'.le mR∧cQ P mR H' Ad B∧VR mR v (a'.tmps.getD 6 undef))→Q .ret a' w'
theorem Nu {tS tE tI:Nat}{sh:Code}{a:Act}{Q:Exit→Act→World→Prop}{len cap i b j jo vc:Nat}{cs:List Value}{ty:TypeId}{x v6 bZ dY fL v9 fe:Value}(hm:P.follows .mixedOrders=true)(uS:P.underlying tS=some (.slice tE))(zE:il P tE=some 1)(fP:eX P 95 sh=true)(Bd: ∀v0 v1 v2 v6 v7 bZ v8 dY fL v9 fe H,ev P Mt EA 0 sh [v0,v1,v2,v6,v7,bZ,v8,dY,fL,v9,fe] H=EB P tS tI v0 v1 v2 v7 bZ v8 dY fL v9 fe H)(nA:a.tmps.size=95)(hS:cQ P μ H w B)(hb:H.get b=some ⟨cs,ty,1,false⟩)(hl:cs.length=cap)(jF:cs.all av=true)(hi:i<len)(h2:len+1≤cap)(hlen:len<4294967296)(Mx:b≠j)(hx:aw H j jo 1=some [x])(B9:av x=true)(hp:(cs.drop (len+1)).all bY=true)(hE:fi μ (Env.get (EA.zip [.slice (some ⟨b,0,none⟩) (len+1) cap,.int .i64 i,.slice (some ⟨j,jo,none⟩) 1 vc,v6,.int .i64 1,bZ,.int .i64 len,dY,fL,v9,fe])) a.tmps)(hQ:Nt P B μ a w (.slice (some ⟨H.length,0,none⟩) (len+1) (len+1)) ((H.kill b).new ⟨(cs.take len).take i++x::(cs.take len).drop i,tE,1,false⟩) Q):
  sh.wpIn (FR none) 0 P Q a w:=by
 have he:=Bd (.slice (some ⟨b,0,none⟩) (len+1) cap) (.int .i64 i) (.slice (some ⟨j,jo,none⟩) 1 vc) v6 (.int .i64 1) bZ (.int .i64 len) dY fL v9 fe H;rw[Nr uS zE hb hl jF hi h2 hlen Mx hx B9] at he;refine wpIn_mono (jl (N:=95) rF hm sh _ H _ μ a w (λ_ e=>by cases e) fP he (by omega) hS hE) ?_
 rintro e a' w' ⟨rfl,μ',h1,ME,h3,h4,h5,h6⟩;refine hQ a' w' μ' _ h1 h3 h5 h6 (λAd qC=>?_)
 have A7:=aa.an hb;obtain⟨c1,c2,c3⟩:=JG (cs:=cs) (x:=x) (i:=i) (len:=len) (by omega) (by omega)
 generalize bB (bB cs (i+1) ((cs.drop i).take (len-i))) i [x]=S at qC c1 c2 c3
 have z7:(H.put b ⟨S,ty,1,false⟩).get b=some ⟨S,ty,1,false⟩:=aa.eC A7;obtain⟨l,zW,U3⟩:=qC.ok b _ z7;obtain⟨k1,k2⟩:=qC.aai z7 rfl zW (len+1) tE (by simp only[c2];exact hp)
 have hk:(H.put b ⟨S,ty,1,false⟩).kill b=H.kill b:=by simp[aa.put,aa.kill]
 rw[hk] at k2;simp only[c1] at k2;rw[aa.la] at k1 k2;refine⟨_,k1,k2,?_⟩;have g:=(xr ME).2.2.2.1;exact VR.TD g (by omega) zW Mu.aH
theorem EE {i:Nat}{c:eu}(h:H.get i=some c):H.put i c=H:=by
 have hi:=aa.an h;unfold aa.put;apply List.ext_getElem?;intro k;by_cases e:k=i
 ·subst e;rw[List.getElem?_set_self hi];unfold aa.get at h;rw[List.getElem?_eq_getElem hi] at h ⊢;revert h
  generalize H[k]=q
  intro h;cases q<;>simp_all
 ·rw[List.getElem?_set_ne (Ne.symm e)]
theorem Nv {f fo:FuncId}{tS tE tI tB by_:Nat}{p6 UZ p8:Nat}{o6 Qa o8:Array Oper}{gr r6 sh tl:Code}{z:Value}{a:Act}{Q:Exit→Act→World→Prop}{len cap i b j jo vc:Nat}{cs:List Value}{ty:TypeId}{bj:eu}{x v6 bZ dY fL v9 fe:Value}(I:vQ P f fo tS tE tI tB by_)(hz:zeroOf P tE=some z)(kgr:eX P 95 gr=true)(kr6:eX P 95 r6=true)(ksh:eX P 95 sh=true)(h6:jy o6.toList [(.move (.tmp 8),26),(.move (.tmp 7),27),(.binOp .add tI (.tmp 26) (.tmp 27) tI,28),(.move (.tmp 0),29),(.call {callee:=.builtin .cap,args:=#[.tmp 29],argTypes:=#[tS]},30),(.binOp .gtr tI (.tmp 28) (.tmp 30) tI,31)])(vk:jy Qa.toList [(.move (.tmp 0),32),(.move (.tmp 1),33),(.slice tS (.tmp 32) none (some (.tmp 33)) none,34),(.move (.tmp 8),35),(.move (.tmp 7),36),(.binOp .add tI (.tmp 35) (.tmp 36) tI,37),(.move (.tmp 1),38),(.binOp .sub tI (.tmp 37) (.tmp 38) tI,39),(.call {callee:=.builtin .append,args:=#[.tmp 34,.tmp 39],argTypes:=#[tS,tI]},40),(.assign (.tmp 40),9)])(h8:jy o8.toList [(.move (.tmp 2),61),(.move (.tmp 0),62),(.move (.tmp 1),63),(.move (.tmp 7),64),(.binOp .add tI (.tmp 63) (.tmp 64) tI,65),(.slice tS (.tmp 62) (some (.tmp 65)) none none,66),(.call {callee:=.value (.func fo),args:=#[.tmp 61,.tmp 66],argTypes:=#[tS,tS]},67),(.unOp .not tB (.tmp 67),68)])(egr: ∀v0 v1 v2 v6 v7 bZ v8 dY fL v9 fe H,ev P Mt EA 0 gr [v0,v1,v2,v6,v7,bZ,v8,dY,fL,v9,fe] H=HP P tS tI v0 v1 v2 v7 bZ v8 dY fL v9 fe H)(er6: ∀v0 v1 v2 v6 v7 bZ v8 dY fL v9 fe H,ev P Mt EA 0 r6 [v0,v1,v2,v6,v7,bZ,v8,dY,fL,v9,fe] H=HQ P tI v0 v1 v2 v6 v7 bZ v8 dY fL v9 fe H)(esh: ∀v0 v1 v2 v6 v7 bZ v8 dY fL v9 fe H,ev P Mt EA 0 sh [v0,v1,v2,v6,v7,bZ,v8,dY,fL,v9,fe] H=EB P tS tI v0 v1 v2 v7 bZ v8 dY fL v9 fe H)(nA:a.tmps.size=95)(hS:cQ P μ H w B)(hb:H.get b=some ⟨cs,ty,1,false⟩)(hl:cs.length=cap)(hi:i<len)(h2:len≤cap)(hlen:len<4294967296)(Mx:b≠j)(hj:H.get j=some bj)(JJ:bj.ro=false)(aak:bj.es=1)(hx:aw H j jo 1=some [x])(hp:(cs.drop len).all bY=true)(hE:fi μ (Env.get (EA.zip [.slice (some ⟨b,0,none⟩) len cap,.int .i64 i,.slice (some ⟨j,jo,none⟩) 1 vc,v6,.int .i64 1,bZ,.int .i64 len,dY,fL,v9,fe])) a.tmps)(hQ:Nt P B μ a w (.slice (some ⟨H.length,0,none⟩) (len+1) (len+1)) ((H.kill b).new ⟨(cs.take len).take i++x::(cs.take len).drop i,tE,1,false⟩) Q):
  (Code.seq (.seq (.region p6 o6 false) (.cond (.tmp 31) (.seq (.region UZ Qa false) gr) .skip)) (.seq r6 (.seq (.seq (.region p8 o8 false) (.cond (.tmp 68) sh .skip)) tl))).wpIn (FR none) 0 P Q a w:=by
 obtain⟨lb,FK,QL⟩:=hS.ok b _ hb;obtain⟨lj,hlj,adS⟩:=hS.ok j _ hj;have jF:=QL.one;simp only at jF;have B9:av x=true:=by
  have:=hS.AX hx
  simpa using this
 obtain⟨g0,g1,g2,g6,g7,g16,g8,g22,g31,g9,g68⟩:=xr hE;have e1:=g1.int;have e7:=g7.int;have e8:=g8.int;obtain⟨c1,e0,P3,hc2⟩: ∃c1,a.tmps.getD 0 undef= .slice (some ⟨lb.b,lb.o,none⟩) len c1∧cap≤c1∧lb.o+c1≤lb.sz:=by
  rcases g0.dx with⟨i',off,dG,l',e,zW,q1,q2,q3,q4⟩|⟨_,_,_,_,q1,_⟩
  ·cases e;rw[FK] at zW;cases zW;have zT:lb.es=1:=QL.es;exact⟨dG,q4,q2,by rw[zT] at q3;omega⟩
  ·omega
 obtain⟨cj,e2⟩: ∃cj,a.tmps.getD 2 undef= .slice (some ⟨lj.b,lj.o+jo,none⟩) 1 cj:=by
  rcases g2.dx with⟨i',off,dG,l',e,zW,q1,q2,q3,q4⟩|⟨_,_,_,_,q1,_⟩
  ·cases e;rw[hlj] at zW;cases zW;exact⟨dG,q4⟩
  ·omega
 refine wpIn_seq (wpIn_seq (Gx I.uS h6 nA hlen e0 e7 e8 ?_));intro a1 d1 s1 t31 Zg;have Y3:Marks w w a a1:=Marks.of_eq d1;have JK: ∀t,t<26∨31<t→∀v,VR μ v (a.tmps.getD t undef)→VR μ v (a1.tmps.getD t undef):=λt ht v h=>by rw[Zg t ht];exact h
 show(Code.cond (.tmp 31) _ .skip).wpIn _ _ _ _ a1 w
 by_cases hc:c1<len+1
 ·
  rw[decide_eq_true hc] at t31;refine wpIn_cond_true t31 (wpIn_seq ?_);refine EC (H:=H) (μ:=μ) (cs:=cs) (ty:=ty) (l:=lb) (b:=b) I.uS I.uI I.zE I.bE I.UY hz vk s1 hlen hi hS hb FK (by omega) hc (by omega) (by rw[Zg 0 (by omega)];exact e0) (by rw[Zg 1 (by omega)];exact e1) (by rw[Zg 7 (by omega)];exact e7) (by rw[Zg 8 (by omega)];exact e8) ?_
  intro a2 w2 μ2 d2 s2 Cc v9' to2 Qz HG;have ez:=egr (.slice (some ⟨b,0,none⟩) len cap) (.int .i64 i) (.slice (some ⟨j,jo,none⟩) 1 vc) v6 (.int .i64 1) bZ (.int .i64 len) dY kI (.slice (some ⟨H.length,0,none⟩) (len+1) (len+1)) fe (H.new ⟨cs.take i++bR z.cells.toList (len+1-i),tE,1,false⟩);obtain⟨_,oS,m,hm,vL⟩:=dR hz w;rw[I.zE] at hm;cases hm;have Y6:(cs.take i++bR z.cells.toList (len+1-i)).length=len+1:=by
   rw[List.length_append,eY,List.length_take];simp only[Array.length_toList] at vL ⊢;rw[vL];omega
  rw[Ns I.uS I.zE hb (by omega) jF hi hlen Y6 (by rw[List.take_append_of_le_length (by simp;omega),List.take_take,Nat.min_self]) h2 (by omega) hx B9] at ez
  have hE2:fi μ2 (Env.get (EA.zip [.slice (some ⟨b,0,none⟩) len cap,.int .i64 i,.slice (some ⟨j,jo,none⟩) 1 vc,v6,.int .i64 1,bZ,.int .i64 len,dY,kI,.slice (some ⟨H.length,0,none⟩) (len+1) (len+1),fe])) a2.tmps:=by
   have up: ∀t,(t<9∨(9<t∧t<26)∨40<t)→∀v,VR μ v (a.tmps.getD t undef)→VR μ2 v (a2.tmps.getD t undef):=λt ht v h=>by
    rw[to2 t (by omega),Zg t (by omega)];exact h.mono Cc
   exact HR (up 0 (by omega) _ g0) (up 1 (by omega) _ g1) (up 2 (by omega) _ g2) (up 6 (by omega) _ g6) (up 7 (by omega) _ g7) (up 16 (by omega) _ g16) (up 8 (by omega) _ g8) (up 22 (by omega) _ g22) (.kI _) v9' (up 68 (by omega) _ g68)
  refine wpIn_mono (jl (N:=95) rF I.mixed gr _ _ _ μ2 a2 w2 (λ_ e=>by cases e) kgr ez (by omega) Qz hE2) ?_
  rintro e a' w' ⟨rfl,μ',h1,ME,h3,h4,h5,h6'⟩;have hM2:Marks w w2 a a2:=by
   have:Marks w w2 a1 a2:=Marks.of_eq d2;exact Y3.trans (fI.refl _ _) HG this
  refine hQ a' w' μ' _ (Mu.le_trans Cc h1) (hM2.trans HG h6' h3) h5 (HG.trans h6') (λAd qC=>?_)
  have A7:=aa.an hb;have hk:(H.new ⟨(cs.take len).take i++x::(cs.take len).drop i,tE,1,false⟩).kill b=(H.kill b).new ⟨(cs.take len).take i++x::(cs.take len).drop i,tE,1,false⟩:=by
   unfold aa.kill aa.new;rw[List.set_append_left _ _ A7]
  refine⟨μ',μ'.le_refl,by rw[←hk];exact qC.kill,?_⟩
  exact(xr ME).2.2.2.1
 ·
  rw[decide_eq_false hc] at t31;refine wpIn_cond_false t31 (wpIn_skip ?_);have room: ∃c8 dG,c8.length=dG∧dG≤c1∧len+1≤dG∧cQ P μ (H.put b ⟨c8,ty,1,false⟩) w B∧c8.take len=cs.take len∧(c8.drop (len+1)).all bY=true∧c8.all av=true:=by
   by_cases tP:len+1≤cap
   ·refine⟨cs,cap,hl,P3,tP,?_,rfl,?_,jF⟩
    ·have:H.put b ⟨cs,ty,1,false⟩=H:=by
      exact EE hb
     rw[this];exact hS
    ·rw[List.all_eq_true] at hp ⊢;intro y hy;rw[show len+1=len+1 from rfl, ←List.drop_drop] at hy
     exact hp y (List.mem_of_mem_drop hy)
   ·have rp:cap=len:=by omega
    obtain⟨csw,tyw,kj,hrs⟩:=Gz hS hb rfl FK;have adT:lb.sz=csw.size:=by
     obtain⟨Mm,mo,Qo,q1,q2,_⟩:=QL.row;rw[kj] at q1;cases q1;exact q2.symm
    obtain⟨v,hv⟩:=hS.UX hb rfl FK kj (by simp only;omega)
    have U4:=hv.ok b _ (aa.eC (aa.an hb));obtain⟨_,_,U4⟩:=U4;refine⟨cs++[v],len+1,by simp;omega,by omega,Nat.le_refl _,hv,?_,?_,U4.one⟩
    ·rw[List.take_append_of_le_length (by omega)]
    ·rw[List.drop_eq_nil_of_le (by simp;omega)];rfl
  obtain⟨c8,dG,zW,Um,tP,pg,QM,Cd,aal⟩:=room;have A7:=aa.an hb;have z7:(H.put b ⟨c8,ty,1,false⟩).get b=some ⟨c8,ty,1,false⟩:=aa.eC A7;have hE1:fi μ (Env.get (EA.zip [.slice (some ⟨b,0,none⟩) len dG,.int .i64 i,.slice (some ⟨j,jo,none⟩) 1 vc,v6,.int .i64 1,bZ,.int .i64 len,dY,kI,v9,fe])) a1.tmps:=by
   refine HR (JK 0 (by omega) _ ?_) (JK 1 (by omega) _ g1) (JK 2 (by omega) _ g2) (JK 6 (by omega) _ g6) (JK 7 (by omega) _ g7) (JK 16 (by omega) _ g16) (JK 8 (by omega) _ g8) (JK 22 (by omega) _ g22) (.kI _) (JK 9 (by omega) _ g9) (JK 68 (by omega) _ g68)
   rw[e0];have zT:lb.es=1:=QL.es;exact VR.slice b 0 len dG c1 lb FK (by omega) Um (by rw[zT];omega)
  have er:=er6 (.slice (some ⟨b,0,none⟩) len dG) (.int .i64 i) (.slice (some ⟨j,jo,none⟩) 1 vc) v6 (.int .i64 1) bZ (.int .i64 len) dY kI v9 fe (H.put b ⟨c8,ty,1,false⟩);rw[Np z7 rfl tP hlen] at er;show(Code.seq r6 _).wpIn _ _ _ _ a1 w
  refine wpIn_seq (wpIn_mono (jl (N:=95) rF I.mixed r6 _ _ _ μ a1 w (λ_ e=>by cases e) kr6 er (by omega) pg hE1) ?_)
  rintro e a2 w2 ⟨rfl,μ2,Cc,hE2,hM2,s2,Qz,HG⟩;obtain⟨k0,k1,k2,k6,k7,k16,k8,k22,k31,k9,k68⟩:=xr hE2;have aam:μ2 b=some lb:=Cc _ _ FK;have aan:μ2 j=some lj:=Cc _ _ hlj;have jb:(H.put b ⟨c8,ty,1,false⟩).get j=some bj:=by rw[aa.aS (Ne.symm Mx)];exact hj
  obtain⟨c2,f0,hc3⟩: ∃c2,a2.tmps.getD 0 undef= .slice (some ⟨lb.b,lb.o,none⟩) (len+1) c2∧len+1≤c2:=by
   rcases k0.dx with⟨i',off,dG,l',e,zW,q1,q2,q3,q4⟩|⟨_,_,_,_,q1,_⟩
   ·cases e;rw[aam] at zW;cases zW;exact⟨dG,q4,by omega⟩
   ·omega
  obtain⟨c3,f2⟩: ∃cj,a2.tmps.getD 2 undef= .slice (some ⟨lj.b,lj.o+jo,none⟩) 1 cj:=by
   rcases k2.dx with⟨i',off,dG,l',e,zW,q1,q2,q3,q4⟩|⟨_,_,_,_,q1,_⟩
   ·cases e;rw[aan] at zW;cases zW;exact⟨dG,q4⟩
   ·omega
  show(Code.seq (.seq (.region p8 o8 false) (.cond (.tmp 68) sh .skip)) tl).wpIn _ _ _ _ a2 w2
  refine wpIn_seq (wpIn_seq (ED (H:=H.put b ⟨c8,ty,1,false⟩) (μ:=μ2) (b:=b) (j:=j) (l:=lb) (lj:=lj) (bb:=⟨c8,ty,1,false⟩) (bj:=bj) I.uS I.zE I.QH h8 (by omega) hlen hi Qz z7 rfl aam jb JJ aan Mx hc3 (by simp only;omega) f0 k1.int f2 k7.int ?_))
  intro a3 d3 s3 t68 to3;refine wpIn_cond_true t68 ?_;have hE3:fi μ2 (Env.get (EA.zip [.slice (some ⟨b,0,none⟩) (len+1) dG,.int .i64 i,.slice (some ⟨j,jo,none⟩) 1 vc,v6,.int .i64 1,bZ,.int .i64 len,dY,kI,v9,kI])) a3.tmps:=by
   have up: ∀t,t<61→∀v,VR μ2 v (a2.tmps.getD t undef)→VR μ2 v (a3.tmps.getD t undef):=λt ht v h=>by rw[to3 t ht];exact h
   exact HR (up 0 (by omega) _ k0) (up 1 (by omega) _ k1) (up 2 (by omega) _ k2) (up 6 (by omega) _ k6) (up 7 (by omega) _ k7) (up 16 (by omega) _ k16) (up 8 (by omega) _ k8) (up 22 (by omega) _ k22) (.kI _) (up 9 (by omega) _ k9) (.kI _)
  have Jf:aw (H.put b ⟨c8,ty,1,false⟩) j jo 1=some [x]:=by
   simp only[aw,aa.aS (Ne.symm Mx)] at hx ⊢;exact hx
  have hM3:Marks w w2 a a3:=by
   have m1:Marks w w2 a a2:=Y3.trans (fI.refl _ _) HG hM2;exact m1.trans HG (fI.refl _ _) (Marks.of_eq d3)
  refine Nu I.mixed I.uS I.zE ksh esh s3 Qz z7 zW aal hi tP hlen Mx Jf B9 Cd hE3 ?_;intro a' w' μ' Hf q1 q2 q3 q4 q5;have hk:(H.put b ⟨c8,ty,1,false⟩).kill b=H.kill b:=by simp[aa.put,aa.kill]
  rw[hk,QM,aa.la] at q5;exact hQ a' w' μ' Hf (Mu.le_trans Cc q1) (hM3.trans HG q4 q2) q3 (HG.trans q4) q5
theorem Nw {f fo:FuncId}{tS tE tI tB by_:Nat}{args:List Value}{v:Value}(I:vQ P f fo tS tE tI tB by_)(h:An tE args H=some (v,H')):
  (∃fn,P.funcs[f]? =some fn∧fn.body.isSome=true∧(fn.name== "runtime.NumGoroutine")=false)∧ue P B f args H v H':=by
 obtain⟨fn,p6,UZ,p8,o6,Qa,o8,a1,a2,a3,a4,a5,a6,gr,r6,sh,tl,z,hf,hn,Ah,hnt,hz,TE,fP,h6,vk,h8,e0,egr,er6,esh⟩:=I.code;refine⟨⟨fn,hf,by rw[TE];rfl,hn⟩,?_⟩
 intro μ w dS hS ha;simp only[eX,Bool.and_eq_true] at fP;obtain⟨k1,k2,k3,k4,k5,k6,⟨_,⟨_,kgr⟩,_⟩,kr6,⟨_,ksh,_⟩,_⟩:=fP;unfold An at h;split at h
 case h_2=>cases h
 rename_i base len cap i j jo vc;split at h
 case h_2=>cases h
 rename_i bj x hj hx;split at h
 case isFalse=>cases h
 rename_i hc;obtain⟨JJ,aak,U5,JB,hlen⟩:=hc;have HH: ∀tmps:Array Value,tmps=dS.toArray++Array.replicate (fn.ntmps-dS.toArray.size) undef→tmps.size=95∧
   fi μ (Env.get (EA.zip [.slice base len cap,.int .i64 i,.slice (some ⟨j,jo,none⟩) 1 vc,kI,kI,kI,kI,kI,kI,kI,kI])) tmps:=by
  rintro tmps rfl;have UM:dS.length=3:=ha.1.symm;obtain⟨s',i',v',rfl⟩: ∃s' i' v',dS=[s',i',v']:=by
   match dS,UM with
   | [s',i',v'],_=>exact⟨_,_,_,rfl⟩
  have hg: ∀k u,[Value.slice base len cap,.int .i64 i,.slice (some ⟨j,jo,none⟩) 1 vc][k]? =some u→∃u',[s',i',v'][k]? =some u'∧VR μ u u':=ha.2;obtain⟨u0,q0,r0⟩:=hg 0 _ rfl;obtain⟨u1,q1,r1⟩:=hg 1 _ rfl;obtain⟨u2,q2,r2⟩:=hg 2 _ rfl;cases q0;cases q1;cases q2;rw[hnt];refine⟨by simp,HR ?_ ?_ ?_ (.kI _) (.kI _) (.kI _) (.kI _) (.kI _) (.kI _) (.kI _) (.kI _)⟩
  ·simpa using r0
  ·simpa using r1
  ·simpa using r2
 refine(callsIn_wide (n:=0)).1 (callsIn_of_wp_marks (F:=FR none) hf TE trivial ?_);obtain⟨nA,hE⟩:=HH _ rfl;generalize hA:({tmps:=dS.toArray++Array.replicate (fn.ntmps-dS.toArray.size) undef,defers:=[]}:Act)=A at*
 have hAt:A.tmps=dS.toArray++Array.replicate (fn.ntmps-dS.toArray.size) undef:=by rw[←hA]
 have hAd:A.defers=[]:=by rw[←hA]
 rw[←hAt] at nA hE;clear hA HH;have lK: ∀c∈[a1,a2,a3,a4,a5],eX P 95 c=true:=by
  intro c hc;simp only[List.mem_cons,List.not_mem_nil,or_false] at hc;rcases hc with rfl|rfl|rfl|rfl|rfl<;>assumption
 show(Nm [a1,a2,a3,a4,a5] (.seq a6 _)).wpIn _ _ _ _ A w
 have JL: ∀{a' w' μ' Hf},μ.le μ'→Marks w w' A a'→cQ P μ' Hf w' B→fI B w w'→
  (∀Ad,cQ P μ' Hf Ad B→∃mR,μ'.le mR∧cQ P mR H' Ad B∧VR mR v (a'.tmps.getD 6 undef))→bodyPostM (FR none) 0 P fn (Be P B μ w v H') .ret a' w':=
  λq1 q2 q3 q4 q5=>QI Ah hAd q2 q1 hS.base q3 q4 q5
 have he:=e0 (.slice base len cap) (.int .i64 i) (.slice (some ⟨j,jo,none⟩) 1 vc) kI kI kI kI kI kI kI kI H;have B9:av x=true:=by
  have:=hS.AX hx
  simpa using this
 split at h
 ·
  split at h
  case isFalse=>cases h
  rename_i h0;obtain⟨rfl,rfl⟩:=h0;obtain rfl:i=0:=by omega
  cases h;rw[JF,QJ hx I.UY] at he;refine nK (N:=95) rF I.mixed _ _ H μ A w (λ_ e=>by cases e) lK k6 he (by omega) hS hE (λe=>by cases e) ?_
  rintro _ a' w' ⟨_,μ',q1,q2,q3,q4,q5,q6⟩;exact JL q1 q3 q5 q6 λAd qC=>⟨μ',μ'.le_refl,qC,(xr q2).2.2.2.1⟩
 ·rename_i b;split at h
  case h_2=>cases h
  rename_i bb hb;split at h
  case isFalse=>cases h
  rename_i h0;obtain⟨fm,zT,Mx,tP,Ja,hp⟩:=h0;cases h;obtain⟨cs,ty,es,ro⟩:=bb;simp only at fm zT tP hp;subst fm;subst zT;by_cases acg:i=len
  ·
   subst acg;have Tm:(cs.take len).take ((len:Int)).toNat++x::(cs.take len).drop ((len:Int)).toNat=cs.take len++[x]:=by
    have:((len:Int)).toNat=len:=by omega
    rw[this,List.take_take,Nat.min_self,List.drop_eq_nil_of_le (by rw[List.length_take];omega)]
   simp only[Tm] at JL ⊢;rw[JE hb rfl Ja] at he;by_cases hr:len+1≤cap
   ·rw[Nn hx B9 hb rfl rfl tP hr] at he;refine nK (N:=95) rF I.mixed _ _ H μ A w (λ_ e=>by cases e) lK k6 he (by omega) hS hE (λe=>by cases e) ?_
    rintro _ a' w' ⟨_,μ',q1,q2,q3,q4,q5,q6⟩;refine JL q1 q3 q5 q6 λAd qC=>?_
    have A7:=aa.an hb;have z7:(H.put b ⟨cs.set len x,ty,1,false⟩).get b=some ⟨cs.set len x,ty,1,false⟩:=aa.eC A7;obtain⟨l,zW,U3⟩:=qC.ok b _ z7;have hdr:((cs.set len x).drop (len+1)).all bY=true:=by
     rw[List.drop_set_of_lt (by omega)]
     rw[List.all_eq_true] at hp ⊢;intro y hy;rw[←List.drop_drop] at hy;exact hp y (List.mem_of_mem_drop hy)
    obtain⟨k1,k2⟩:=qC.aai z7 rfl zW (len+1) tE hdr;have hk:(H.put b ⟨cs.set len x,ty,1,false⟩).kill b=H.kill b:=by simp[aa.put,aa.kill]
    have QM:(cs.set len x).take (len+1)=cs.take len++[x]:=by
     have e:cs.take len++x::cs.drop (len+1)=(cs.take len++[x])++cs.drop (len+1):=by simp
     rw[List.set_eq_take_append_cons_drop,if_pos (by omega),e]
     exact List.take_left' (by simp;omega)
    rw[hk,aa.la] at k2;simp only[QM] at k2;rw[aa.la] at k1;refine⟨_,k1,k2,?_⟩;exact VR.TD (xr q2).2.2.2.1 (by omega) zW Mu.aH
   ·have aah:cap=len:=by omega
    subst aah;rw[No hx hb rfl rfl tP I.UY hlen] at he;refine nK (N:=95) rF I.mixed _ _ H μ A w (λ_ e=>by cases e) lK k6 he (by omega) hS hE (λe=>by cases e) ?_
    rintro _ a' w' ⟨_,μ',q1,q2,q3,q4,q5,q6⟩;have:cs.take cap=cs:=List.take_of_length_le (by omega)
    rw[this] at JL ⊢;exact JL q1 q3 q5 q6 λAd qC=>⟨μ',μ'.le_refl,qC,(xr q2).2.2.2.1⟩
  ·obtain⟨n,rfl⟩: ∃n:Nat,i=n:=⟨i.toNat,by omega⟩
   rw[JD hb rfl U5 (by omega) Ja] at he
   refine nK (N:=95) rF I.mixed _ _ H μ A w (λ_ e=>by cases e) lK k6 he (by omega) hS hE ?_ (λe=>absurd rfl e)
   rintro _ a' w' ⟨_,μ',q1,q2,q3,q4,q5,q6⟩;refine Nv I hz kgr kr6 ksh h6 vk h8 egr er6 esh (q4.trans nA) q5 hb tP (by omega) Ja hlen Mx hj JJ aak hx hp q2 ?_
   intro a2 w2 μ2 Hf r1 r2 r3 r4 r5;exact JL (Mu.le_trans q1 r1) (q3.trans q6 r4 r2) r3 (q6.trans r4) r5
 ·cases h
def uj (ins:List (FuncId×TypeId)):ae:=λf args H=>match ins.find? (λq=>q.1==f) with
 |some q=>An q.2 args H
 |none=>none
theorem uk {ins:List (FuncId×TypeId)}:gM (uj ins):=by
 intro f args H i b;unfold uj;cases ins.find? (λq=>q.1==f) with
 |none=>intro _ v H' h;cases h
 |some q=>exact JC
def xu (P:Program)(ins:List (FuncId×TypeId)):Prop:=∀q∈ins,∃fo tS tI tB by_,vQ P q.1 fo tS q.2 tI tB by_
theorem qe {ins:List (FuncId×TypeId)}(I:xu P ins){f:FuncId}{args:List Value}{v:Value}(h:uj ins f args H=some (v,H')):
  (∃fn,P.funcs[f]? =some fn∧fn.body.isSome=true∧(fn.name== "runtime.NumGoroutine")=false)∧ue P B f args H v H':=by
 unfold uj at h;split at h
 ·rename_i q hq;have hm:=List.mem_of_find?_eq_some hq;have he:=List.find?_some hq;simp only[beq_iff_eq] at he;obtain⟨fo,tS,tI,tB,by_,hI⟩:=I q hm;subst he;exact Nw hI h
 ·cases h
def Cp (ks:List FuncId)(ins:List (FuncId×TypeId)):ae:=λf args H=>if ks.contains f=true∧args.isEmpty=true then some (.bool true,H) else uj ins f args H
theorem JN {ks:List FuncId}{ins:List (FuncId×TypeId)}:gM (Cp ks ins):=λf args H i b hf v H' h=>by
 unfold Cp at h ⊢;split at h
 ·rename_i hc;cases h;rw[if_pos hc];exact⟨hf,rfl⟩
 ·rename_i hc;rw[if_neg hc];exact uk f args H i b hf v H' h
theorem xv {bad:List FuncId}{ins:List (FuncId×TypeId)}{m:Nat}{k:FuncId}{Hk:aa}(fP:nt P bad=true)(I:xu P ins)(hk:fh P bad (uj ins) m k [] []=some (.bool true,Hk))(B:Nat)(H:aa):
  (∃fn,P.funcs[k]? =some fn∧fn.body.isSome=true∧(fn.name== "runtime.NumGoroutine")=false)∧ue P B k [] H (.bool true) H:=by
 have eR:k<P.funcs.size:=Ep (cQ.empty default) (λ_ h=>by
  obtain⟨⟨fn,zV,_⟩,_⟩:=qe (B:=0) I h;exact(Array.getElem?_eq_some_iff.1 zV).1) hk
 refine⟨(((pA (B:=0) fP (G:=uj ins) uk (λf args H v H' _ h=>qe I h) m).told k [] [] _ Hk hk).1 eR).1,?_⟩
 intro μ w dS hS ha;have hs:=pA (B:=w.heap.size) fP (G:=uj ins) uk (λf args H v H' _ h=>qe I h) m |>.told k [] [] _ Hk hk
 have ha0:dS=[]:=by
  have:=ha.1
  simpa using this.symm
 subst ha0;refine((hs.1 eR).2 _ w [] (cQ.empty w) .nil).mono ?_;rintro e w' ⟨v',μ',rfl,_,hv,_,hb⟩;rw[hv.bool];exact⟨_,μ,rfl,μ.le_refl,.plain _ rfl,hS.below hb.below,⟨hb.below.mono hS.base,hb.loops,hb.Zy,hb.size⟩⟩
theorem Cq {bad ks:List FuncId}{ins:List (FuncId×TypeId)}{m n:Nat}{f:FuncId}{args dS:List Value}(I:xu P ins)(fP:nt P bad=true)(U3:nt P (ks++bad)=true)(hk:(ks.all λk=>(fh P bad (uj ins) m k [] []).any λr=>jE r.1 (.bool true))=true)(h:fh P (ks++bad) (Cp ks ins) n f args H=some (.bool true,H'))(hS:cQ P μ H w w.heap.size)(ha:dB μ args dS):
  Calls P f dS.toArray w λe w'=>e= .returned (.bool true)∧Below w.heap.size w w':=by
 have hG: ∀f1 HS H1 v1 TF,(ks++bad).contains f1=true→Cp ks ins f1 HS H1=some (v1,TF)→
   (∃fn,P.funcs[f1]? =some fn∧fn.body.isSome=true∧(fn.name== "runtime.NumGoroutine")=false)∧ue P w.heap.size f1 HS H1 v1 TF:=λf1 HS H1 v1 TF _ h1=>by
  unfold Cp at h1;split at h1
  ·rename_i h2;obtain⟨h3,h2⟩:=h2;have h2:HS=[]:=by simpa using h2
   subst h2;cases h1;have hm:=List.all_eq_true.1 hk f1 (by simpa using h3)
   cases hr:fh P bad (uj ins) m f1 [] [] with
   |none=>rw[hr] at hm;simp at hm
   |some r=>
    obtain⟨v,Hk⟩:=r;rw[hr] at hm;have hv:v= .bool true:=by
     simp only[Option.any_some,jE] at hm;cases v<;>simp_all [pa]
    subst hv;exact xv fP I hr _ _
  ·exact qe I h1
 have hs:=(pA (B:=w.heap.size) U3 JN hG n).told f args H _ H' h;have eR:f<P.funcs.size:=Ep hS (λhb h=>by
  obtain⟨⟨fn,zV,_⟩,_⟩:=hG _ _ _ _ _ hb h;exact(Array.getElem?_eq_some_iff.1 zV).1) h
 refine((hs.1 eR).2 μ w dS hS ha).mono ?_;rintro e w' ⟨v',μ',rfl,_,hv,_,hb⟩;exact⟨by rw[hv.bool],hb.below⟩
theorem TC.U6 {f:FuncId}{ts:List TypeId}{bad:List FuncId}(ks:List FuncId)(ins:List (FuncId×TypeId))(m:Nat)(I:xu P ins)(hp:nt P bad=true)(Cd:nt P (ks++bad)=true)(hk:(ks.all λk=>(fh P bad (uj ins) m k [] []).any λr=>jE r.1 (.bool true))=true)(h: ∀H args,jL H→nJ P H 9 ts args→∃n H',fh P (ks++bad) (Cp ks ins) n f args H=some (.bool true,H')):TC P f ts:=by
 intro W H args μ hr hi hS vs hv;obtain⟨n,H',h⟩:=h H args hr hi;exact Cq I hp Cd hk h hS hv
def rid:Code→Nat
 | .region p _ _=>p
 |_=>0
def U7:Code→Array Oper
 | .region _ o _=>o
 |_=>#[]
def aao (P:Program)(f:Nat):Func:=(P.funcs[f]?).getD default
def zAt (P:Program)(t:TypeId):Value:=(zeroOf P t).getD kI
theorem qf: ∀{l:List Oper} {s:List (Op×Nat)},l.map (λo=>(o.op,o.dst,o.guard))=s.map (λq=>(q.1,some q.2,none))→jy l s
 | [],[],_=>trivial
 | [],_::_,h=>by simp at h
 |_::_,[],h=>by simp at h
 |o::r,(p,d)::s,h=>by
  simp only[List.map_cons,List.cons.injEq,Prod.mk.injEq] at h;exact⟨h.1,qf h.2⟩
end Go.Proofs.YtjgmnoaalbbonaaGreatA.Am
end
section
namespace Go.Proofs.YtjgmnoaalbbonaaGreatA.Am
variable {H H':aa} {o o':aj} {p:Int}
theorem qg {step:List Value→aa→aV}{Q:Nat→List Value→aa→Prop}{R:bJ×List Value×aa→Prop}(h: ∀k vs H,Q k vs H→(∃iM H' k',k'<k∧step vs H=some (.normal,iM,H')∧Q k' iM H')∨(∃r,step vs H=some r∧r.1≠ .normal∧R r)):
  ∀k vs H,Q k vs H→∀n,k<n→∃r,iter n step vs H=some r∧r.1≠ .normal∧R r:=by
 intro k;induction k using Nat.strongRecOn with
 |ind k ih=>
  intro vs H hq n hn;cases n with
  |zero=>omega
  |succ n=>
   rcases h k vs H hq with⟨iM,H',k',hk,hs,hq'⟩|⟨r,hs,dX,hr⟩
   ·obtain⟨r,h1,h2,h3⟩:=ih k' hk iM H' hq' n (by omega)
    exact⟨r,by simp only[iter,hs];exact h1,h2,h3⟩
   ·obtain⟨e,iM,H'⟩:=r;refine⟨_,?_,dX,hr⟩;cases e with
    |normal=>exact absurd rfl dX
    |exit i=>simp only[iter,hs]
    |ret=>simp only[iter,hs]
theorem cP {i:Nat}(h:H'[i]? =H[i]?):H'.get i=H.get i:=by unfold aa.get;rw[h]
theorem xw {i:Nat}(h:H'[i]? =H[i]?):H'.cT i=H.cT i:=by unfold aa.cT;rw[h]
theorem db {i j:Nat}{c:eu}(h:j≠i):(H.put i c)[j]? =H[j]? :=iy h
theorem mS {i j:Nat}(h:j≠i):(H.kill i)[j]? =H[j]? :=iy h
theorem dC {j:Nat}{c:eu}(h:j<H.length):(H.new c)[j]? =H[j]? :=by unfold aa.new;rw[List.getElem?_append_left h]
theorem Bo {j:Nat}{c:dg}(h:j<H.length):(H.gj c)[j]? =H[j]? :=by unfold aa.gj;rw[List.getElem?_append_left h]
theorem xx {j n:Nat}(h:j<H.length):(H.dr n)[j]? =H[j]? :=by unfold aa.dr;rw[List.getElem?_append_left h]
theorem um:(H.dr 1)[H.length]? =some .hole:=by
 unfold aa.dr;rw[List.getElem?_append_right (Nat.le_refl _)];simp
theorem uo (n:Nat):(H.dr n).length=H.length+n:=by unfold aa.dr;simp
theorem Nx (c:dg):(H.gj c).length=H.length+1:=by simp[aa.gj]
theorem nL {i:Nat}{b:eu}(h:i<H.length):aa.get (H.set i (.jD b)) i=some b:=by
 unfold aa.get;rw[List.getElem?_set_self h]
def Sl (H:aa)(o:aj)(p:Int)(s:Value)(cs:List Value):Option Nat→Prop
 |none=>s= .slice none 0 0∧cs=[]
 |some q=>∃cap rest ty,s= .slice (some ⟨q,0,none⟩) cs.length cap∧H.get q=some ⟨cs++rest,ty,1,false⟩∧cs.length+rest.length=cap∧rest.all bY=true∧o q=p
theorem Sl.mv {s:Value}{cs:List Value}{b:Option Nat}(h:Sl H o p s cs b)(k: ∀q,b=some q→H'[q]? =H[q]? ∧o' q=o q):Sl H' o' p s cs b:=by
 cases b with
 |none=>exact h
 |some q=>
  obtain⟨cap,rest,ty,h1,h2,h3,h5,h6⟩:=h;obtain⟨k1,k2⟩:=k q rfl;exact⟨cap,rest,ty,h1,by rw[cP k1];exact h2,h3,h5,by rw[k2];exact h6⟩
theorem Sl.lt {s:Value}{cs:List Value}{q:Nat}(h:Sl H o p s cs (some q)):q<H.length∧o q=p:=by
 obtain⟨cap,rest,ty,h1,h2,h3,h5,h6⟩:=h;exact⟨an h2,h6⟩
theorem Sl.Qb {s:Value}{cs:List Value}{b:Option Nat}{q:Nat}(h:Sl H o p s cs b)(e:b=some q):q<H.length∧o q=p:=by subst e;exact h.lt
theorem Sl.fr {ps:List Int}{s:Value}{cs:List Value}{b:Option Nat}(h:Sl H o p s cs b)(f:Fr H o H' o' ps)(hp:p ∉ ps):Sl H' o' p s cs b:=
 h.mv λq e=>by
  subst e;obtain⟨h1,h2⟩:=h.lt;exact⟨f.slot q h1 (by rw[h2];exact hp),f.own q h1⟩
theorem Sl.len {s:Value}{cs:List Value}{b:Option Nat}(h:Sl H o p s cs b):cw s=some (cv cs.length):=by
 cases b with
 |none=>obtain⟨rfl,rfl⟩:=h;rfl
 |some q=>obtain⟨cap,rest,ty,rfl,_⟩:=h;rfl
theorem Sl.jE {s:Value}{cs:List Value}{b:Option Nat}(h:Sl H o p s cs b):jE s s=true:=by
 cases b with
 |none=>obtain⟨rfl,rfl⟩:=h;rfl
 |some q=>obtain⟨cap,rest,ty,rfl,_⟩:=h;simp[Am.jE,pa]
theorem Sl.isSlice {s:Value}{cs:List Value}{b:Option Nat}(h:Sl H o p s cs b): ∃a n c,s= .slice a n c:=by
 cases b with
 |none=>obtain⟨rfl,rfl⟩:=h;exact⟨_,_,_,rfl⟩
 |some q=>obtain⟨cap,rest,ty,rfl,_⟩:=h;exact⟨_,_,_,rfl⟩
theorem Sl.idx {s:Value}{cs:List Value}{b:Option Nat}(h:Sl H o p s cs b){j:Nat}{v:Value}(hj:cs[j]? =some v):
  ∃q,b=some q∧(∀H',cq 1 s (cv j) H'=some (.pointer (some ⟨q,j,none⟩),H'))∧∀H':aa,H'[q]? =H[q]? →aq (.pointer (some ⟨q,j,none⟩)) H'=some v:=by
 have z9:j<cs.length:=(List.getElem?_eq_some_iff.1 hj).1;cases b with
 |none=>obtain⟨rfl,rfl⟩:=h;simp at z9
 |some q=>
  obtain⟨cap,rest,ty,rfl,h2,_⟩:=h;refine⟨q,rfl,λH'=>?_,λH' e=>?_⟩
  ·simp only[cq];rw[if_pos (by constructor<;>omega)];simp
  ·rw[ak q j H' (by rw[cP e];exact h2)]
   show(cs++rest)[j]? =_
   rw[List.getElem?_append_left z9];exact hj
theorem Sl.put {s:Value}{cs:List Value}{b:Option Nat}(h:Sl H o p s cs b){j:Nat}(hj:j<cs.length)(x:Value)(hx:x.cells= #[x])(hk:known x=true)(h1:av x=true):
  ∃q c,b=some q∧(∀H',cq 1 s (cv j) H'=some (.pointer (some ⟨q,j,none⟩),H'))∧bS 1 (.pointer (some ⟨q,j,none⟩)) x H=some (undef,H.put q c)∧Sl (H.put q c) o p s (cs.set j x) b:=by
 cases b with
 |none=>obtain⟨rfl,rfl⟩:=h;simp at hj
 |some q=>
  obtain⟨cap,rest,ty,rfl,h2,h3,h5,h6⟩:=h;refine⟨q,⟨cs.set j x++rest,ty,1,false⟩,rfl,λH'=>?_,?_,cap,rest,ty,by simp,aD h2,by simpa using h3,h5,h6⟩
  ·simp only[cq];rw[if_pos (by constructor<;>omega)];simp
  ·simp only[bS,bl,h2,hx,hk];rw[if_pos ⟨rfl,trivial⟩];have:(!false&&decide (j+ #[x].toList.length≤(cs++rest).length)&& #[x].toList.all av)=true:=by
    simp[h1];omega
   simp only[this,if_true,Option.map_some,bB,List.set_append,hj]
def sR:Option Nat→aa→aa
 |none,H=>H
 |some q,H=>H.kill q
theorem jZ (b:Option Nat):(sR b H).length=H.length:=by
 cases b with
 |none=>rfl
 |some q=>exact dh H q
theorem rG {b:Option Nat}{j:Nat}(h:b≠some j):(sR b H)[j]? =H[j]? :=by
 cases b with
 |none=>rfl
 |some q=>exact mS (by rintro rfl;exact h rfl)
theorem Sl.ins {s:Value}{cs:List Value}{b:Option Nat}{i j:Nat}{x:Value}{t tE:TypeId}(h:Sl H o p s cs b)(hj:H.get j=some ⟨[x],t,1,false⟩)(dX:b≠some j)(hi:i≤cs.length)(hl:cs.length<4294967296):
  An tE [s,cv i,.slice (some ⟨j,0,none⟩) 1 1] H=some (.slice (some ⟨H.length,0,none⟩) (cs.length+1) (cs.length+1),(sR b H).new ⟨cs.take i++x::cs.drop i,tE,1,false⟩):=by
 have iX:aw H j 0 1=some [x]:=by simp[aw,hj]
 cases b with
 |none=>
  obtain⟨rfl,rfl⟩:=h;have:i=0:=by simpa using hi
  subst this;simp[An,hj,iX,sR]
 |some q=>
  obtain⟨cap,rest,ty,rfl,h2,h3,h5,h6⟩:=h;have hqj:q≠j:=λe=>dX (by rw[e])
  have c1:True∧True∧(0:Int)≤(i:Int)∧(i:Int)≤(cs.length:Int)∧cs.length<4294967296:=⟨trivial,trivial,by omega,by omega,hl⟩
  have c2:True∧True∧q≠j∧(cs++rest).length=cap∧cs.length≤cap∧((cs++rest).drop cs.length).all bY=true:=by
   refine⟨trivial,trivial,hqj,by simpa using h3,by omega,?_⟩
   rw[List.drop_left];exact h5
  simp only[An,hj,iX,h2];rw[if_pos c1,if_pos c2,List.take_left];simp only[Int.toNat_natCast,sR]
theorem Sl.made (H:aa)(o:aj)(p:Int)(t:TypeId)(cs:List Value):Sl (H.new ⟨cs,t,1,false⟩) (o.up H.length p) p (.slice (some ⟨H.length,0,none⟩) cs.length cs.length) cs (some H.length):=
 ⟨cs.length,[],t,rfl,by simpa using ay,by simp,rfl,aH⟩
section
variable {α:Type} (lt:α→α→Bool)
def oa (l:List α)(k:α):Nat:=(l.takeWhile λx=>lt x k).length
theorem U8 (l:List α)(k:α):oa lt l k≤l.length:=(List.takeWhile_sublist _).length_le
theorem GA {l:List α}{k:α}{i:Nat}(h1:i≤l.length)(h2: ∀j (h:j<l.length),j<i→lt l[j] k=true)(h3: ∀h:i<l.length,lt l[i] k=false):oa lt l k=i:=by
 induction l generalizing i with
 |nil=>simp at h1;subst h1;rfl
 |cons a l ih=>
  unfold oa;cases i with
  |zero=>
   have:=h3 (by simp)
   simp only[List.getElem_cons_zero] at this;simp[List.takeWhile_cons,this]
  |succ i=>
   have h0:=h2 0 (by simp) (by omega)
   simp only[List.getElem_cons_zero] at h0;simp only[List.takeWhile_cons,h0,if_true,List.length_cons];have:=ih (i:=i) (by simpa using h1) (λj h hj=>h2 (j+1) (by simpa using h) (by omega)) (λh=>h3 (by simpa using h))
   unfold oa at this;omega
end
theorem mN {c:dg}:(H.gj c).cT H.length=some c:=by
 unfold aa.cT aa.gj;rw[List.getElem?_append_right (Nat.le_refl _)];simp
theorem eF {y:Nat}{c:dg}(h:H.cT y=some c):y<H.length:=by
 unfold aa.cT at h;cases hx:H[y]? with
 |none=>rw[hx] at h;cases h
 |some s=>exact(List.getElem?_eq_some_iff.1 hx).1
theorem sT {y:Nat}{c d:dg}(h:H.cT y=some c):(H.eQ y d).cT y=some d:=by
 unfold aa.cT aa.eQ;rw[List.getElem?_set_self (eF h)]
theorem Bp {y j:Nat}{c:dg}(h:j≠y):(H.eQ y c)[j]? =H[j]? :=iy h
theorem kE (p o:Nat)(x:Value)(H:aa){b:eu}(h:H.get p=some b)(hr:b.ro=false)(ho:o<b.cells.length)(hx:x.cells= #[x])(hk:known x=true)(h1:av x=true):
  bS 1 (.pointer (some ⟨p,o,none⟩)) x H=some (undef,H.put p {b with cells:=b.cells.set o x}):=by
 simp only[bS,bl,h,hx,hk];rw[if_pos ⟨rfl,trivial⟩];have:(!b.ro&&decide (o+ #[x].toList.length≤b.cells.length)&& #[x].toList.all av)=true:=by
  rw[hr];simp[h1];omega
 rw[this];rfl
theorem mO {y b:Nat}{c d:dg}{x:eu}(hy:H.cT y=some c)(h:H.get b=some x):(H.eQ y d).get b=some x:=by
 have:b≠y:=by
  rintro rfl;unfold aa.get at h;unfold aa.cT at hy;cases hx:H[b]? with
  |none=>rw[hx] at h;cases h
  |some s=>rw[hx] at h hy;cases s<;>simp_all
 rw[cP (Bp this)];exact h
theorem Ny {y b:Nat}{c:dg}{x:eu}(hy:H.cT y=some c)(h:H.get b=some x):y≠b:=by
 rintro rfl;unfold aa.get at h;unfold aa.cT at hy;cases hx:H[y]? with
 |none=>rw[hx] at h;cases h
 |some s=>rw[hx] at h hy;cases s<;>simp_all
theorem Nz {y b:Nat}{c:dg}{x:eu}(hy:H.cT y=some c)(h:y≠b):(H.put b x).cT y=some c:=by
 rw[xw (db h)];exact hy
end Go.Proofs.YtjgmnoaalbbonaaGreatA.Am
end
