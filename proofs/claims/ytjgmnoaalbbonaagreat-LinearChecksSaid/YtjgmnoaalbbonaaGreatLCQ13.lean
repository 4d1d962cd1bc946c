/- Texts of the proof of linearChecks_holds, put together by a small program of ours (names shortened, spaces taken out). No condition beyond the given statement. -/
import Derived.Test.YtjgmnoaalbbonaaGreatLCQ12
import Derived.Test.YtjgmnoaalbbonaaGreatLCQ10
import Derived.RangeFuncLeaves
import Derived.Test.YtjgmnoaalbbonaaGreatLCQ11
set_option linter.unusedVariables false
set_option linter.unusedSimpArgs false
set_option linter.unnecessarySimpa false
noncomputable section
section
namespace Go.Proofs.YtjgmnoaalbbonaaGreatA.Am
open Go.RowKit (Below)
variable {P:Program} {μ:Mu} {H H':ae} {w:World} {B:Nat}
abbrev Rb (P:Program)(B:Nat)(μ:Mu)(a:Act)(w:World)(v:Value)(H':ae)(Q:Exit→Act→World→Prop):Prop:=
 ∀(a':Act) (w':World) (μ':Mu) (Hf:ae),μ.le μ'→Marks w w' a a'→da P μ' Hf w' B→gE B w w'→
  (∀CD,da P μ' Hf CD B→∃oo,μ'.le oo∧da P oo H' CD B∧VR oo v (a'.tmps.getD 6 undef))→Q .ret a' w'
theorem Rc {tS tE tI:Nat}{sh:Code}{a:Act}{Q:Exit→Act→World→Prop}{len cap i b j jo vc:Nat}{cs:List Value}{ty:TypeId}{x v6 cG eU fS v9 fT:Value}(hm:P.follows .mixedOrders=true)(uS:P.underlying tS=some (.slice tE))(zE:iU P tE=some 1)(gJ:fK P 95 sh=true)(DC: ∀v0 v1 v2 v6 v7 cG v8 eU fS v9 fT H,ev P Qd HC 0 sh [v0,v1,v2,v6,v7,cG,v8,eU,fS,v9,fT] H=HD P tS tI v0 v1 v2 v7 cG v8 eU fS v9 fT H)(oY:a.tmps.size=95)(hS:da P μ H w B)(hb:H.get b=some ⟨cs,ty,1,false⟩)(hl:cs.length=cap)(kA:cs.all aD=true)(hi:i<len)(h2:len+1≤cap)(hlen:len<4294967296)(Qe:b≠j)(hx:aA H j jo 1=some [x])(xN:aD x=true)(hp:(cs.drop (len+1)).all cF=true)(hE:fX μ (Env.get (HC.zip [.slice (some ⟨b,0,none⟩) (len+1) cap,.int .i64 i,.slice (some ⟨j,jo,none⟩) 1 vc,v6,.int .i64 1,cG,.int .i64 len,eU,fS,v9,fT])) a.tmps)(hQ:Rb P B μ a w (.slice (some ⟨H.length,0,none⟩) (len+1) (len+1)) ((H.kill b).new ⟨(cs.take len).take i++x::(cs.take len).drop i,tE,1,false⟩) Q):
  sh.wpIn (FR none) 0 P Q a w:=by
 have he:=DC (.slice (some ⟨b,0,none⟩) (len+1) cap) (.int .i64 i) (.slice (some ⟨j,jo,none⟩) 1 vc) v6 (.int .i64 1) cG (.int .i64 len) eU fS v9 fT H;rw[Q8 uS zE hb hl kA hi h2 hlen Qe hx xN] at he;refine wpIn_mono (jW (N:=95) tv hm sh _ H _ μ a w (λ_ e=>by cases e) gJ he (by omega) hS hE) ?_
 rintro e a' w' ⟨rfl,μ',h1,Nj,h3,h4,h5,h6⟩;refine hQ a' w' μ' _ h1 h3 h5 h6 (λCD sf=>?_)
 have zh:=ae.aq hb;obtain⟨c1,c2,c3⟩:=NT (cs:=cs) (x:=x) (i:=i) (len:=len) (by omega) (by omega)
 generalize bO (bO cs (i+1) ((cs.drop i).take (len-i))) i [x]=S at sf c1 c2 c3
 have tN:(H.put b ⟨S,ty,1,false⟩).get b=some ⟨S,ty,1,false⟩:=ae.fg zh;obtain⟨l,Cp,ZB⟩:=sf.ok b _ tN;obtain⟨k1,k2⟩:=sf.ad6 tN rfl Cp (len+1) tE (by simp only[c2];exact hp)
 have hk:(H.put b ⟨S,ty,1,false⟩).kill b=H.kill b:=by simp[ae.put,ae.kill]
 rw[hk] at k2;simp only[c1] at k2;rw[ae.mD] at k1 k2;refine⟨_,k1,k2,?_⟩;have g:=(zR Nj).2.2.2.1;exact VR.Yf g (by omega) Cp Mu.aQ
theorem HG {i:Nat}{c:eY}(h:H.get i=some c):H.put i c=H:=by
 have hi:=ae.aq h;unfold ae.put;apply List.ext_getElem?;intro k;by_cases e:k=i
 ·subst e;rw[List.getElem?_set_self hi];unfold ae.get at h;rw[List.getElem?_eq_getElem hi] at h ⊢;revert h
  generalize H[k]=q
  intro h;cases q<;>simp_all
 ·rw[List.getElem?_set_ne (Ne.symm e)]
theorem Re {f fo:FuncId}{tS tE tI tB by_:Nat}{p6 Zx p8:Nat}{o6 Us o8:Array Oper}{gr r6 sh tl:Code}{z:Value}{a:Act}{Q:Exit→Act→World→Prop}{len cap i b j jo vc:Nat}{cs:List Value}{ty:TypeId}{bj:eY}{x v6 cG eU fS v9 fT:Value}(I:yz P f fo tS tE tI tB by_)(hz:zeroOf P tE=some z)(kgr:fK P 95 gr=true)(kr6:fK P 95 r6=true)(ksh:fK P 95 sh=true)(h6:kj o6.toList [(.move (.tmp 8),26),(.move (.tmp 7),27),(.binOp .add tI (.tmp 26) (.tmp 27) tI,28),(.move (.tmp 0),29),(.call {callee:=.builtin .cap,args:=#[.tmp 29],argTypes:=#[tS]},30),(.binOp .gtr tI (.tmp 28) (.tmp 30) tI,31)])(xP:kj Us.toList [(.move (.tmp 0),32),(.move (.tmp 1),33),(.slice tS (.tmp 32) none (some (.tmp 33)) none,34),(.move (.tmp 8),35),(.move (.tmp 7),36),(.binOp .add tI (.tmp 35) (.tmp 36) tI,37),(.move (.tmp 1),38),(.binOp .sub tI (.tmp 37) (.tmp 38) tI,39),(.call {callee:=.builtin .append,args:=#[.tmp 34,.tmp 39],argTypes:=#[tS,tI]},40),(.assign (.tmp 40),9)])(h8:kj o8.toList [(.move (.tmp 2),61),(.move (.tmp 0),62),(.move (.tmp 1),63),(.move (.tmp 7),64),(.binOp .add tI (.tmp 63) (.tmp 64) tI,65),(.slice tS (.tmp 62) (some (.tmp 65)) none none,66),(.call {callee:=.value (.func fo),args:=#[.tmp 61,.tmp 66],argTypes:=#[tS,tS]},67),(.unOp .not tB (.tmp 67),68)])(egr: ∀v0 v1 v2 v6 v7 cG v8 eU fS v9 fT H,ev P Qd HC 0 gr [v0,v1,v2,v6,v7,cG,v8,eU,fS,v9,fT] H=LQ P tS tI v0 v1 v2 v7 cG v8 eU fS v9 fT H)(er6: ∀v0 v1 v2 v6 v7 cG v8 eU fS v9 fT H,ev P Qd HC 0 r6 [v0,v1,v2,v6,v7,cG,v8,eU,fS,v9,fT] H=LR P tI v0 v1 v2 v6 v7 cG v8 eU fS v9 fT H)(esh: ∀v0 v1 v2 v6 v7 cG v8 eU fS v9 fT H,ev P Qd HC 0 sh [v0,v1,v2,v6,v7,cG,v8,eU,fS,v9,fT] H=HD P tS tI v0 v1 v2 v7 cG v8 eU fS v9 fT H)(oY:a.tmps.size=95)(hS:da P μ H w B)(hb:H.get b=some ⟨cs,ty,1,false⟩)(hl:cs.length=cap)(hi:i<len)(h2:len≤cap)(hlen:len<4294967296)(Qe:b≠j)(hj:H.get j=some bj)(NW:bj.ro=false)(ad8:bj.es=1)(hx:aA H j jo 1=some [x])(hp:(cs.drop len).all cF=true)(hE:fX μ (Env.get (HC.zip [.slice (some ⟨b,0,none⟩) len cap,.int .i64 i,.slice (some ⟨j,jo,none⟩) 1 vc,v6,.int .i64 1,cG,.int .i64 len,eU,fS,v9,fT])) a.tmps)(hQ:Rb P B μ a w (.slice (some ⟨H.length,0,none⟩) (len+1) (len+1)) ((H.kill b).new ⟨(cs.take len).take i++x::(cs.take len).drop i,tE,1,false⟩) Q):
  (Code.seq (.seq (.region p6 o6 false) (.cond (.tmp 31) (.seq (.region Zx Us false) gr) .skip)) (.seq r6 (.seq (.seq (.region p8 o8 false) (.cond (.tmp 68) sh .skip)) tl))).wpIn (FR none) 0 P Q a w:=by
 obtain⟨lb,I6,Vd⟩:=hS.ok b _ hb;obtain⟨lj,hlj,aic⟩:=hS.ok j _ hj;have kA:=Vd.one;simp only at kA;have xN:aD x=true:=by
  have:=hS.Dt hx
  simpa using this
 obtain⟨g0,g1,g2,g6,g7,g16,g8,g22,g31,g9,g68⟩:=zR hE;have e1:=g1.int;have e7:=g7.int;have e8:=g8.int;obtain⟨c1,e0,Uj,hc2⟩: ∃c1,a.tmps.getD 0 undef= .slice (some ⟨lb.b,lb.o,none⟩) len c1∧cap≤c1∧lb.o+c1≤lb.sz:=by
  rcases g0.dO with⟨i',off,dY,l',e,Cp,q1,q2,q3,q4⟩|⟨_,_,_,_,q1,_⟩
  ·cases e;rw[I6] at Cp;cases Cp;have Ck:lb.es=1:=Vd.es;exact⟨dY,q4,q2,by rw[Ck] at q3;omega⟩
  ·omega
 obtain⟨cj,e2⟩: ∃cj,a.tmps.getD 2 undef= .slice (some ⟨lj.b,lj.o+jo,none⟩) 1 cj:=by
  rcases g2.dO with⟨i',off,dY,l',e,Cp,q1,q2,q3,q4⟩|⟨_,_,_,_,q1,_⟩
  ·cases e;rw[hlj] at Cp;cases Cp;exact⟨dY,q4⟩
  ·omega
 refine wpIn_seq (wpIn_seq (JK I.uS h6 oY hlen e0 e7 e8 ?_));intro a1 d1 s1 t31 to1;have hd1:Marks w w a a1:=Marks.of_eq d1;have NY: ∀t,t<26∨31<t→∀v,VR μ v (a.tmps.getD t undef)→VR μ v (a1.tmps.getD t undef):=λt ht v h=>by rw[to1 t ht];exact h
 show(Code.cond (.tmp 31) _ .skip).wpIn _ _ _ _ a1 w
 by_cases hc:c1<len+1
 ·
  rw[decide_eq_true hc] at t31;refine wpIn_cond_true t31 (wpIn_seq ?_);refine HE (H:=H) (μ:=μ) (cs:=cs) (ty:=ty) (l:=lb) (b:=b) I.uS I.uI I.zE I.bE I.Zw hz xP s1 hlen hi hS hb I6 (by omega) hc (by omega) (by rw[to1 0 (by omega)];exact e0) (by rw[to1 1 (by omega)];exact e1) (by rw[to1 7 (by omega)];exact e7) (by rw[to1 8 (by omega)];exact e8) ?_
  intro a2 w2 μ2 d2 s2 EJ v9' to2 U2 Jw;have ez:=egr (.slice (some ⟨b,0,none⟩) len cap) (.int .i64 i) (.slice (some ⟨j,jo,none⟩) 1 vc) v6 (.int .i64 1) cG (.int .i64 len) eU lY (.slice (some ⟨H.length,0,none⟩) (len+1) (len+1)) fT (H.new ⟨cs.take i++ct z.cells.toList (len+1-i),tE,1,false⟩);obtain⟨_,qm,m,hm,yq⟩:=eG hz w;rw[I.zE] at hm;cases hm;have hzl:(cs.take i++ct z.cells.toList (len+1-i)).length=len+1:=by
   rw[List.length_append,fL,List.length_take];simp only[Array.length_toList] at yq ⊢;rw[yq];omega
  rw[Q9 I.uS I.zE hb (by omega) kA hi hlen hzl (by rw[List.take_append_of_le_length (by simp;omega),List.take_take,Nat.min_self]) h2 (by omega) hx xN] at ez
  have Ut:fX μ2 (Env.get (HC.zip [.slice (some ⟨b,0,none⟩) len cap,.int .i64 i,.slice (some ⟨j,jo,none⟩) 1 vc,v6,.int .i64 1,cG,.int .i64 len,eU,lY,.slice (some ⟨H.length,0,none⟩) (len+1) (len+1),fT])) a2.tmps:=by
   have up: ∀t,(t<9∨(9<t∧t<26)∨40<t)→∀v,VR μ v (a.tmps.getD t undef)→VR μ2 v (a2.tmps.getD t undef):=λt ht v h=>by
    rw[to2 t (by omega),to1 t (by omega)];exact h.mono EJ
   exact LS (up 0 (by omega) _ g0) (up 1 (by omega) _ g1) (up 2 (by omega) _ g2) (up 6 (by omega) _ g6) (up 7 (by omega) _ g7) (up 16 (by omega) _ g16) (up 8 (by omega) _ g8) (up 22 (by omega) _ g22) (.lY _) v9' (up 68 (by omega) _ g68)
  refine wpIn_mono (jW (N:=95) tv I.mixed gr _ _ _ μ2 a2 w2 (λ_ e=>by cases e) kgr ez (by omega) U2 Ut) ?_
  rintro e a' w' ⟨rfl,μ',h1,Nj,h3,h4,h5,h6'⟩;have hM2:Marks w w2 a a2:=by
   have:Marks w w2 a1 a2:=Marks.of_eq d2;exact hd1.trans (gE.refl _ _) Jw this
  refine hQ a' w' μ' _ (Mu.le_trans EJ h1) (hM2.trans Jw h6' h3) h5 (Jw.trans h6') (λCD sf=>?_)
  have zh:=ae.aq hb;have hk:(H.new ⟨(cs.take len).take i++x::(cs.take len).drop i,tE,1,false⟩).kill b=(H.kill b).new ⟨(cs.take len).take i++x::(cs.take len).drop i,tE,1,false⟩:=by
   unfold ae.kill ae.new;rw[List.set_append_left _ _ zh]
  refine⟨μ',μ'.le_refl,by rw[←hk];exact sf.kill,?_⟩
  exact(zR Nj).2.2.2.1
 ·
  rw[decide_eq_false hc] at t31;refine wpIn_cond_false t31 (wpIn_skip ?_);have room: ∃dg dY,dg.length=dY∧dY≤c1∧len+1≤dY∧da P μ (H.put b ⟨dg,ty,1,false⟩) w B∧dg.take len=cs.take len∧(dg.drop (len+1)).all cF=true∧dg.all aD=true:=by
   by_cases um:len+1≤cap
   ·refine⟨cs,cap,hl,Uj,um,?_,rfl,?_,kA⟩
    ·have:H.put b ⟨cs,ty,1,false⟩=H:=by
      exact HG hb
     rw[this];exact hS
    ·rw[List.all_eq_true] at hp ⊢;intro y hy;rw[show len+1=len+1 from rfl, ←List.drop_drop] at hy
     exact hp y (List.mem_of_mem_drop hy)
   ·have sZ:cap=len:=by omega
    obtain⟨csw,tyw,lD,hrs⟩:=JN hS hb rfl I6;have aid:lb.sz=csw.size:=by
     obtain⟨P7,nL,UO,q1,q2,_⟩:=Vd.row;rw[lD] at q1;cases q1;exact q2.symm
    obtain⟨v,hv⟩:=hS.Zv hb rfl I6 lD (by simp only;omega)
    have ZC:=hv.ok b _ (ae.fg (ae.aq hb));obtain⟨_,_,ZC⟩:=ZC;refine⟨cs++[v],len+1,by simp;omega,by omega,Nat.le_refl _,hv,?_,?_,ZC.one⟩
    ·rw[List.take_append_of_le_length (by omega)]
    ·rw[List.drop_eq_nil_of_le (by simp;omega)];rfl
  obtain⟨dg,dY,Cp,YY,um,pY,Ve,EK,ad9⟩:=room;have zh:=ae.aq hb;have tN:(H.put b ⟨dg,ty,1,false⟩).get b=some ⟨dg,ty,1,false⟩:=ae.fg zh;have hE1:fX μ (Env.get (HC.zip [.slice (some ⟨b,0,none⟩) len dY,.int .i64 i,.slice (some ⟨j,jo,none⟩) 1 vc,v6,.int .i64 1,cG,.int .i64 len,eU,lY,v9,fT])) a1.tmps:=by
   refine LS (NY 0 (by omega) _ ?_) (NY 1 (by omega) _ g1) (NY 2 (by omega) _ g2) (NY 6 (by omega) _ g6) (NY 7 (by omega) _ g7) (NY 16 (by omega) _ g16) (NY 8 (by omega) _ g8) (NY 22 (by omega) _ g22) (.lY _) (NY 9 (by omega) _ g9) (NY 68 (by omega) _ g68)
   rw[e0];have Ck:lb.es=1:=Vd.es;exact VR.slice b 0 len dY c1 lb I6 (by omega) YY (by rw[Ck];omega)
  have er:=er6 (.slice (some ⟨b,0,none⟩) len dY) (.int .i64 i) (.slice (some ⟨j,jo,none⟩) 1 vc) v6 (.int .i64 1) cG (.int .i64 len) eU lY v9 fT (H.put b ⟨dg,ty,1,false⟩);rw[Q6 tN rfl um hlen] at er;show(Code.seq r6 _).wpIn _ _ _ _ a1 w
  refine wpIn_seq (wpIn_mono (jW (N:=95) tv I.mixed r6 _ _ _ μ a1 w (λ_ e=>by cases e) kr6 er (by omega) pY hE1) ?_)
  rintro e a2 w2 ⟨rfl,μ2,EJ,Ut,hM2,s2,U2,Jw⟩;obtain⟨k0,k1,k2,k6,k7,k16,k8,k22,k31,k9,k68⟩:=zR Ut;have aea:μ2 b=some lb:=EJ _ _ I6;have aeb:μ2 j=some lj:=EJ _ _ hlj;have jJ:(H.put b ⟨dg,ty,1,false⟩).get j=some bj:=by rw[ae.bt (Ne.symm Qe)];exact hj
  obtain⟨c2,f0,hc3⟩: ∃c2,a2.tmps.getD 0 undef= .slice (some ⟨lb.b,lb.o,none⟩) (len+1) c2∧len+1≤c2:=by
   rcases k0.dO with⟨i',off,dY,l',e,Cp,q1,q2,q3,q4⟩|⟨_,_,_,_,q1,_⟩
   ·cases e;rw[aea] at Cp;cases Cp;exact⟨dY,q4,by omega⟩
   ·omega
  obtain⟨c3,f2⟩: ∃cj,a2.tmps.getD 2 undef= .slice (some ⟨lj.b,lj.o+jo,none⟩) 1 cj:=by
   rcases k2.dO with⟨i',off,dY,l',e,Cp,q1,q2,q3,q4⟩|⟨_,_,_,_,q1,_⟩
   ·cases e;rw[aeb] at Cp;cases Cp;exact⟨dY,q4⟩
   ·omega
  show(Code.seq (.seq (.region p8 o8 false) (.cond (.tmp 68) sh .skip)) tl).wpIn _ _ _ _ a2 w2
  refine wpIn_seq (wpIn_seq (HF (H:=H.put b ⟨dg,ty,1,false⟩) (μ:=μ2) (b:=b) (j:=j) (l:=lb) (lj:=lj) (bb:=⟨dg,ty,1,false⟩) (bj:=bj) I.uS I.zE I.U9 h8 (by omega) hlen hi U2 tN rfl aea jJ NW aeb Qe hc3 (by simp only;omega) f0 k1.int f2 k7.int ?_))
  intro a3 d3 s3 t68 to3;refine wpIn_cond_true t68 ?_;have hE3:fX μ2 (Env.get (HC.zip [.slice (some ⟨b,0,none⟩) (len+1) dY,.int .i64 i,.slice (some ⟨j,jo,none⟩) 1 vc,v6,.int .i64 1,cG,.int .i64 len,eU,lY,v9,lY])) a3.tmps:=by
   have up: ∀t,t<61→∀v,VR μ2 v (a2.tmps.getD t undef)→VR μ2 v (a3.tmps.getD t undef):=λt ht v h=>by rw[to3 t ht];exact h
   exact LS (up 0 (by omega) _ k0) (up 1 (by omega) _ k1) (up 2 (by omega) _ k2) (up 6 (by omega) _ k6) (up 7 (by omega) _ k7) (up 16 (by omega) _ k16) (up 8 (by omega) _ k8) (up 22 (by omega) _ k22) (.lY _) (up 9 (by omega) _ k9) (.lY _)
  have Nr:aA (H.put b ⟨dg,ty,1,false⟩) j jo 1=some [x]:=by
   simp only[aA,ae.bt (Ne.symm Qe)] at hx ⊢;exact hx
  have hM3:Marks w w2 a a3:=by
   have m1:Marks w w2 a a2:=hd1.trans (gE.refl _ _) Jw hM2;exact m1.trans Jw (gE.refl _ _) (Marks.of_eq d3)
  refine Rc I.mixed I.uS I.zE ksh esh s3 U2 tN Cp ad9 hi um hlen Qe Nr xN EK hE3 ?_;intro a' w' μ' Hf q1 q2 q3 q4 q5;have hk:(H.put b ⟨dg,ty,1,false⟩).kill b=H.kill b:=by simp[ae.put,ae.kill]
  rw[hk,Ve,ae.mD] at q5;exact hQ a' w' μ' Hf (Mu.le_trans EJ q1) (hM3.trans Jw q4 q2) q3 (Jw.trans q4) q5
theorem Rf {f fo:FuncId}{tS tE tI tB by_:Nat}{args:List Value}{v:Value}(I:yz P f fo tS tE tI tB by_)(h:CN tE args H=some (v,H')):
  (∃fn,P.funcs[f]? =some fn∧fn.body.isSome=true∧(fn.name== "runtime.NumGoroutine")=false)∧we P B f args H v H':=by
 obtain⟨fn,p6,Zx,p8,o6,Us,o8,a1,a2,a3,a4,a5,a6,gr,r6,sh,tl,z,hf,hn,CH,hnt,hz,Yg,gJ,h6,xP,h8,e0,egr,er6,esh⟩:=I.code;refine⟨⟨fn,hf,by rw[Yg];rfl,hn⟩,?_⟩
 intro μ w eI hS ha;simp only[fK,Bool.and_eq_true] at gJ;obtain⟨k1,k2,k3,k4,k5,k6,⟨_,⟨_,kgr⟩,_⟩,kr6,⟨_,ksh,_⟩,_⟩:=gJ;unfold CN at h;split at h
 case h_2=>cases h
 rename_i base len cap i j jo vc;split at h
 case h_2=>cases h
 rename_i bj x hj hx;split at h
 case isFalse=>cases h
 rename_i hc;obtain⟨NW,ad8,ZD,JI,hlen⟩:=hc;have LH: ∀tmps:Array Value,tmps=eI.toArray++Array.replicate (fn.ntmps-eI.toArray.size) undef→tmps.size=95∧
   fX μ (Env.get (HC.zip [.slice base len cap,.int .i64 i,.slice (some ⟨j,jo,none⟩) 1 vc,lY,lY,lY,lY,lY,lY,lY,lY])) tmps:=by
  rintro tmps rfl;have Zl:eI.length=3:=ha.1.symm;obtain⟨s',i',v',rfl⟩: ∃s' i' v',eI=[s',i',v']:=by
   match eI,Zl with
   | [s',i',v'],_=>exact⟨_,_,_,rfl⟩
  have hg: ∀k u,[Value.slice base len cap,.int .i64 i,.slice (some ⟨j,jo,none⟩) 1 vc][k]? =some u→∃u',[s',i',v'][k]? =some u'∧VR μ u u':=ha.2;obtain⟨u0,q0,r0⟩:=hg 0 _ rfl;obtain⟨u1,q1,r1⟩:=hg 1 _ rfl;obtain⟨u2,q2,r2⟩:=hg 2 _ rfl;cases q0;cases q1;cases q2;rw[hnt];refine⟨by simp,LS ?_ ?_ ?_ (.lY _) (.lY _) (.lY _) (.lY _) (.lY _) (.lY _) (.lY _) (.lY _)⟩
  ·simpa using r0
  ·simpa using r1
  ·simpa using r2
 refine(callsIn_wide (n:=0)).1 (callsIn_of_wp_marks (F:=FR none) hf Yg trivial ?_);obtain⟨oY,hE⟩:=LH _ rfl;generalize hA:({tmps:=eI.toArray++Array.replicate (fn.ntmps-eI.toArray.size) undef,defers:=[]}:Act)=A at*
 have hAt:A.tmps=eI.toArray++Array.replicate (fn.ntmps-eI.toArray.size) undef:=by rw[←hA]
 have hAd:A.defers=[]:=by rw[←hA]
 rw[←hAt] at oY hE;clear hA LH;have lQ: ∀c∈[a1,a2,a3,a4,a5],fK P 95 c=true:=by
  intro c hc;simp only[List.mem_cons,List.not_mem_nil,or_false] at hc;rcases hc with rfl|rfl|rfl|rfl|rfl<;>assumption
 show(Q0 [a1,a2,a3,a4,a5] (.seq a6 _)).wpIn _ _ _ _ A w
 have NZ: ∀{a' w' μ' Hf},μ.le μ'→Marks w w' A a'→da P μ' Hf w' B→gE B w w'→
  (∀CD,da P μ' Hf CD B→∃oo,μ'.le oo∧da P oo H' CD B∧VR oo v (a'.tmps.getD 6 undef))→bodyPostM (FR none) 0 P fn (DD P B μ w v H') .ret a' w':=
  λq1 q2 q3 q4 q5=>Va CH hAd q2 q1 hS.base q3 q4 q5
 have he:=e0 (.slice base len cap) (.int .i64 i) (.slice (some ⟨j,jo,none⟩) 1 vc) lY lY lY lY lY lY lY lY H;have xN:aD x=true:=by
  have:=hS.Dt hx
  simpa using this
 split at h
 ·
  split at h
  case isFalse=>cases h
  rename_i h0;obtain⟨rfl,rfl⟩:=h0;obtain rfl:i=0:=by omega
  cases h;rw[NS,Vb hx I.Zw] at he;refine pj (N:=95) tv I.mixed _ _ H μ A w (λ_ e=>by cases e) lQ k6 he (by omega) hS hE (λe=>by cases e) ?_
  rintro _ a' w' ⟨_,μ',q1,q2,q3,q4,q5,q6⟩;exact NZ q1 q3 q5 q6 λCD sf=>⟨μ',μ'.le_refl,sf,(zR q2).2.2.2.1⟩
 ·rename_i b;split at h
  case h_2=>cases h
  rename_i bb hb;split at h
  case isFalse=>cases h
  rename_i h0;obtain⟨fQ,Ck,Qe,um,Nm,hp⟩:=h0;cases h;obtain⟨cs,ty,es,ro⟩:=bb;simp only at fQ Ck um hp;subst fQ;subst Ck;by_cases agp:i=len
  ·
   subst agp;have X0:(cs.take len).take ((len:Int)).toNat++x::(cs.take len).drop ((len:Int)).toNat=cs.take len++[x]:=by
    have:((len:Int)).toNat=len:=by omega
    rw[this,List.take_take,Nat.min_self,List.drop_eq_nil_of_le (by rw[List.length_take];omega)]
   simp only[X0] at NZ ⊢;rw[NR hb rfl Nm] at he;by_cases hr:len+1≤cap
   ·rw[Q4 hx xN hb rfl rfl um hr] at he;refine pj (N:=95) tv I.mixed _ _ H μ A w (λ_ e=>by cases e) lQ k6 he (by omega) hS hE (λe=>by cases e) ?_
    rintro _ a' w' ⟨_,μ',q1,q2,q3,q4,q5,q6⟩;refine NZ q1 q3 q5 q6 λCD sf=>?_
    have zh:=ae.aq hb;have tN:(H.put b ⟨cs.set len x,ty,1,false⟩).get b=some ⟨cs.set len x,ty,1,false⟩:=ae.fg zh;obtain⟨l,Cp,ZB⟩:=sf.ok b _ tN;have hdr:((cs.set len x).drop (len+1)).all cF=true:=by
     rw[List.drop_set_of_lt (by omega)]
     rw[List.all_eq_true] at hp ⊢;intro y hy;rw[←List.drop_drop] at hy;exact hp y (List.mem_of_mem_drop hy)
    obtain⟨k1,k2⟩:=sf.ad6 tN rfl Cp (len+1) tE hdr;have hk:(H.put b ⟨cs.set len x,ty,1,false⟩).kill b=H.kill b:=by simp[ae.put,ae.kill]
    have Ve:(cs.set len x).take (len+1)=cs.take len++[x]:=by
     have e:cs.take len++x::cs.drop (len+1)=(cs.take len++[x])++cs.drop (len+1):=by simp
     rw[List.set_eq_take_append_cons_drop,if_pos (by omega),e]
     exact List.take_left' (by simp;omega)
    rw[hk,ae.mD] at k2;simp only[Ve] at k2;rw[ae.mD] at k1;refine⟨_,k1,k2,?_⟩;exact VR.Yf (zR q2).2.2.2.1 (by omega) Cp Mu.aQ
   ·have ad5:cap=len:=by omega
    subst ad5;rw[Q5 hx hb rfl rfl um I.Zw hlen] at he;refine pj (N:=95) tv I.mixed _ _ H μ A w (λ_ e=>by cases e) lQ k6 he (by omega) hS hE (λe=>by cases e) ?_
    rintro _ a' w' ⟨_,μ',q1,q2,q3,q4,q5,q6⟩;have:cs.take cap=cs:=List.take_of_length_le (by omega)
    rw[this] at NZ ⊢;exact NZ q1 q3 q5 q6 λCD sf=>⟨μ',μ'.le_refl,sf,(zR q2).2.2.2.1⟩
  ·obtain⟨n,rfl⟩: ∃n:Nat,i=n:=⟨i.toNat,by omega⟩
   rw[NQ hb rfl ZD (by omega) Nm] at he
   refine pj (N:=95) tv I.mixed _ _ H μ A w (λ_ e=>by cases e) lQ k6 he (by omega) hS hE ?_ (λe=>absurd rfl e)
   rintro _ a' w' ⟨_,μ',q1,q2,q3,q4,q5,q6⟩;refine Re I hz kgr kr6 ksh h6 xP h8 egr er6 esh (q4.trans oY) q5 hb um (by omega) Nm hlen Qe hj NW ad8 hx hp q2 ?_
   intro a2 w2 μ2 Hf r1 r2 r3 r4 r5;exact NZ (Mu.le_trans q1 r1) (q3.trans q6 r4 r2) r3 (q6.trans r4) r5
 ·cases h
def wm (ins:List (FuncId×TypeId)):ag:=λf args H=>match ins.find? (λq=>q.1==f) with
 |some q=>CN q.2 args H
 |none=>none
theorem wo {ins:List (FuncId×TypeId)}:im (wm ins):=by
 intro f args H i b;unfold wm;cases ins.find? (λq=>q.1==f) with
 |none=>intro _ v H' h;cases h
 |some q=>exact NP
def zS (P:Program)(ins:List (FuncId×TypeId)):Prop:=∀q∈ins,∃fo tS tI tB by_,yz P q.1 fo tS q.2 tI tB by_
theorem rK {ins:List (FuncId×TypeId)}(I:zS P ins){f:FuncId}{args:List Value}{v:Value}(h:wm ins f args H=some (v,H')):
  (∃fn,P.funcs[f]? =some fn∧fn.body.isSome=true∧(fn.name== "runtime.NumGoroutine")=false)∧we P B f args H v H':=by
 unfold wm at h;split at h
 ·rename_i q hq;have hm:=List.mem_of_find?_eq_some hq;have he:=List.find?_some hq;simp only[beq_iff_eq] at he;obtain⟨fo,tS,tI,tB,by_,hI⟩:=I q hm;subst he;exact Rf hI h
 ·cases h
def EW (ks:List FuncId)(ins:List (FuncId×TypeId)):ag:=λf args H=>if ks.contains f=true∧args.isEmpty=true then some (.bool true,H) else wm ins f args H
theorem N0 {ks:List FuncId}{ins:List (FuncId×TypeId)}:im (EW ks ins):=λf args H i b hf v H' h=>by
 unfold EW at h ⊢;split at h
 ·rename_i hc;cases h;rw[if_pos hc];exact⟨hf,rfl⟩
 ·rename_i hc;rw[if_neg hc];exact wo f args H i b hf v H' h
theorem zT {bad:List FuncId}{ins:List (FuncId×TypeId)}{m:Nat}{k:FuncId}{Hk:ae}(gJ:oV P bad=true)(I:zS P ins)(hk:fW P bad (wm ins) m k [] []=some (.bool true,Hk))(B:Nat)(H:ae):
  (∃fn,P.funcs[k]? =some fn∧fn.body.isSome=true∧(fn.name== "runtime.NumGoroutine")=false)∧we P B k [] H (.bool true) H:=by
 have dH:k<P.funcs.size:=Hs (da.empty default) (λ_ h=>by
  obtain⟨⟨fn,Cn,_⟩,_⟩:=rK (B:=0) I h;exact(Array.getElem?_eq_some_iff.1 Cn).1) hk
 refine⟨(((qM (B:=0) gJ (G:=wm ins) wo (λf args H v H' _ h=>rK I h) m).told k [] [] _ Hk hk).1 dH).1,?_⟩
 intro μ w eI hS ha;have hs:=qM (B:=w.heap.size) gJ (G:=wm ins) wo (λf args H v H' _ h=>rK I h) m |>.told k [] [] _ Hk hk
 have ha0:eI=[]:=by
  have:=ha.1
  simpa using this.symm
 subst ha0;refine((hs.1 dH).2 _ w [] (da.empty w) .nil).mono ?_;rintro e w' ⟨v',μ',rfl,_,hv,_,hb⟩;rw[hv.bool];exact⟨_,μ,rfl,μ.le_refl,.plain _ rfl,hS.below hb.below,⟨hb.below.mono hS.base,hb.loops,hb.dfr,hb.size⟩⟩
theorem EX {bad ks:List FuncId}{ins:List (FuncId×TypeId)}{m n:Nat}{f:FuncId}{args eI:List Value}(I:zS P ins)(gJ:oV P bad=true)(ZB:oV P (ks++bad)=true)(hk:(ks.all λk=>(fW P bad (wm ins) m k [] []).any λr=>jd r.1 (.bool true))=true)(h:fW P (ks++bad) (EW ks ins) n f args H=some (.bool true,H'))(hS:da P μ H w w.heap.size)(ha:dR μ args eI):
  Calls P f eI.toArray w λe w'=>e= .returned (.bool true)∧Below w.heap.size w w':=by
 have hG: ∀f1 LU H1 v1 Yh,(ks++bad).contains f1=true→EW ks ins f1 LU H1=some (v1,Yh)→
   (∃fn,P.funcs[f1]? =some fn∧fn.body.isSome=true∧(fn.name== "runtime.NumGoroutine")=false)∧we P w.heap.size f1 LU H1 v1 Yh:=λf1 LU H1 v1 Yh _ h1=>by
  unfold EW at h1;split at h1
  ·rename_i h2;obtain⟨h3,h2⟩:=h2;have h2:LU=[]:=by simpa using h2
   subst h2;cases h1;have hm:=List.all_eq_true.1 hk f1 (by simpa using h3)
   cases hr:fW P bad (wm ins) m f1 [] [] with
   |none=>rw[hr] at hm;simp at hm
   |some r=>
    obtain⟨v,Hk⟩:=r;rw[hr] at hm;have hv:v= .bool true:=by
     simp only[Option.any_some,jd] at hm;cases v<;>simp_all [n8]
    subst hv;exact zT gJ I hr _ _
  ·exact rK I h1
 have hs:=(qM (B:=w.heap.size) ZB N0 hG n).told f args H _ H' h;have dH:f<P.funcs.size:=Hs hS (λhb h=>by
  obtain⟨⟨fn,Cn,_⟩,_⟩:=hG _ _ _ _ _ hb h;exact(Array.getElem?_eq_some_iff.1 Cn).1) h
 refine((hs.1 dH).2 μ w eI hS ha).mono ?_;rintro e w' ⟨v',μ',rfl,_,hv,_,hb⟩;exact⟨by rw[hv.bool],hb.below⟩
theorem Ye.ZE {f:FuncId}{ts:List TypeId}{bad:List FuncId}(ks:List FuncId)(ins:List (FuncId×TypeId))(m:Nat)(I:zS P ins)(hp:oV P bad=true)(EK:oV P (ks++bad)=true)(hk:(ks.all λk=>(fW P bad (wm ins) m k [] []).any λr=>jd r.1 (.bool true))=true)(h: ∀H args,kE H→ph P H 9 ts args→∃n H',fW P (ks++bad) (EW ks ins) n f args H=some (.bool true,H')):Ye P f ts:=by
 intro W H args μ hr hi hS vs hv;obtain⟨n,H',h⟩:=h H args hr hi;exact EX I hp EK hk h hS hv
def rid:Code→Nat
 | .region p _ _=>p
 |_=>0
def ZF:Code→Array Oper
 | .region _ o _=>o
 |_=>#[]
def aec (P:Program)(f:Nat):Func:=(P.funcs[f]?).getD default
def zAt (P:Program)(t:TypeId):Value:=(zeroOf P t).getD lY
theorem rL: ∀{l:List Oper} {s:List (Op×Nat)},l.map (λo=>(o.op,o.dst,o.guard))=s.map (λq=>(q.1,some q.2,none))→kj l s
 | [],[],_=>trivial
 | [],_::_,h=>by simp at h
 |_::_,[],h=>by simp at h
 |o::r,(p,d)::s,h=>by
  simp only[List.map_cons,List.cons.injEq,Prod.mk.injEq] at h;exact⟨h.1,rL h.2⟩
end Go.Proofs.YtjgmnoaalbbonaaGreatA.Am
end
section
namespace Go.Proofs.YtjgmnoaalbbonaaGreatA.Am
variable {H H':ae} {o o':an} {p:Int}
theorem iy {step:List Value→ae→bl}{Q:Nat→List Value→ae→Prop}{R:cg×List Value×ae→Prop}(h: ∀k vs H,Q k vs H→(∃ju H' k',k'<k∧step vs H=some (.normal,ju,H')∧Q k' ju H')∨(∃r,step vs H=some r∧r.1≠ .normal∧R r)):
  ∀k vs H,Q k vs H→∀n,k<n→∃r,iter n step vs H=some r∧r.1≠ .normal∧R r:=by
 intro k;induction k using Nat.strongRecOn with
 |ind k ih=>
  intro vs H hq n hn;cases n with
  |zero=>omega
  |succ n=>
   rcases h k vs H hq with⟨ju,H',k',hk,hs,hq'⟩|⟨r,hs,eC,hr⟩
   ·obtain⟨r,h1,h2,h3⟩:=ih k' hk ju H' hq' n (by omega)
    exact⟨r,by simp only[iter,hs];exact h1,h2,h3⟩
   ·obtain⟨e,ju,H'⟩:=r;refine⟨_,?_,eC,hr⟩;cases e with
    |normal=>exact absurd rfl eC
    |exit i=>simp only[iter,hs]
    |ret=>simp only[iter,hs]
theorem cT {i:Nat}(h:H'[i]? =H[i]?):H'.get i=H.get i:=by unfold ae.get;rw[h]
theorem zU {i:Nat}(h:H'[i]? =H[i]?):H'.db i=H.db i:=by unfold ae.db;rw[h]
theorem cU {i j:Nat}{c:eY}(h:j≠i):(H.put i c)[j]? =H[j]? :=hX h
theorem oq {i j:Nat}(h:j≠i):(H.kill i)[j]? =H[j]? :=hX h
theorem dh {j:Nat}{c:eY}(h:j<H.length):(H.new c)[j]? =H[j]? :=by unfold ae.new;rw[List.getElem?_append_left h]
theorem DN {j:Nat}{c:dq}(h:j<H.length):(H.gX c)[j]? =H[j]? :=by unfold ae.gX;rw[List.getElem?_append_left h]
theorem tw {j n:Nat}(h:j<H.length):(H.dy n)[j]? =H[j]? :=by unfold ae.dy;rw[List.getElem?_append_left h]
theorem rM:(H.dy 1)[H.length]? =some .hole:=by
 unfold ae.dy;rw[List.getElem?_append_right (Nat.le_refl _)];simp
theorem ou (n:Nat):(H.dy n).length=H.length+n:=by unfold ae.dy;simp
theorem Rg (c:dq):(H.gX c).length=H.length+1:=by simp[ae.gX]
theorem mg {i:Nat}{b:eY}(h:i<H.length):ae.get (H.set i (.hZ b)) i=some b:=by
 unfold ae.get;rw[List.getElem?_set_self h]
def Sl (H:ae)(o:an)(p:Int)(s:Value)(cs:List Value):Option Nat→Prop
 |none=>s= .slice none 0 0∧cs=[]
 |some q=>∃cap rest ty,s= .slice (some ⟨q,0,none⟩) cs.length cap∧H.get q=some ⟨cs++rest,ty,1,false⟩∧cs.length+rest.length=cap∧rest.all cF=true∧o q=p
theorem Sl.mv {s:Value}{cs:List Value}{b:Option Nat}(h:Sl H o p s cs b)(k: ∀q,b=some q→H'[q]? =H[q]? ∧o' q=o q):Sl H' o' p s cs b:=by
 cases b with
 |none=>exact h
 |some q=>
  obtain⟨cap,rest,ty,h1,h2,h3,h5,h6⟩:=h;obtain⟨k1,k2⟩:=k q rfl;exact⟨cap,rest,ty,h1,by rw[cT k1];exact h2,h3,h5,by rw[k2];exact h6⟩
theorem Sl.lt {s:Value}{cs:List Value}{q:Nat}(h:Sl H o p s cs (some q)):q<H.length∧o q=p:=by
 obtain⟨cap,rest,ty,h1,h2,h3,h5,h6⟩:=h;exact⟨aq h2,h6⟩
theorem Sl.Rh {s:Value}{cs:List Value}{b:Option Nat}{q:Nat}(h:Sl H o p s cs b)(e:b=some q):q<H.length∧o q=p:=by subst e;exact h.lt
theorem Sl.fr {ps:List Int}{s:Value}{cs:List Value}{b:Option Nat}(h:Sl H o p s cs b)(f:Fr H o H' o' ps)(hp:p ∉ ps):Sl H' o' p s cs b:=
 h.mv λq e=>by
  subst e;obtain⟨h1,h2⟩:=h.lt;exact⟨f.slot q h1 (by rw[h2];exact hp),f.own q h1⟩
theorem Sl.len {s:Value}{cs:List Value}{b:Option Nat}(h:Sl H o p s cs b):cq s=some (cv cs.length):=by
 cases b with
 |none=>obtain⟨rfl,rfl⟩:=h;rfl
 |some q=>obtain⟨cap,rest,ty,rfl,_⟩:=h;rfl
theorem Sl.jd {s:Value}{cs:List Value}{b:Option Nat}(h:Sl H o p s cs b):jd s s=true:=by
 cases b with
 |none=>obtain⟨rfl,rfl⟩:=h;rfl
 |some q=>obtain⟨cap,rest,ty,rfl,_⟩:=h;simp[Am.jd,n8]
theorem Sl.isSlice {s:Value}{cs:List Value}{b:Option Nat}(h:Sl H o p s cs b): ∃a n c,s= .slice a n c:=by
 cases b with
 |none=>obtain⟨rfl,rfl⟩:=h;exact⟨_,_,_,rfl⟩
 |some q=>obtain⟨cap,rest,ty,rfl,_⟩:=h;exact⟨_,_,_,rfl⟩
theorem Sl.idx {s:Value}{cs:List Value}{b:Option Nat}(h:Sl H o p s cs b){j:Nat}{v:Value}(hj:cs[j]? =some v):
  ∃q,b=some q∧(∀H',bP 1 s (cv j) H'=some (.pointer (some ⟨q,j,none⟩),H'))∧∀H':ae,H'[q]? =H[q]? →au (.pointer (some ⟨q,j,none⟩)) H'=some v:=by
 have Cz:j<cs.length:=(List.getElem?_eq_some_iff.1 hj).1;cases b with
 |none=>obtain⟨rfl,rfl⟩:=h;simp at Cz
 |some q=>
  obtain⟨cap,rest,ty,rfl,h2,_⟩:=h;refine⟨q,rfl,λH'=>?_,λH' e=>?_⟩
  ·simp only[bP];rw[if_pos (by constructor<;>omega)];simp
  ·rw[ak q j H' (by rw[cT e];exact h2)]
   show(cs++rest)[j]? =_
   rw[List.getElem?_append_left Cz];exact hj
theorem Sl.put {s:Value}{cs:List Value}{b:Option Nat}(h:Sl H o p s cs b){j:Nat}(hj:j<cs.length)(x:Value)(hx:x.cells= #[x])(hk:known x=true)(h1:aD x=true):
  ∃q c,b=some q∧(∀H',bP 1 s (cv j) H'=some (.pointer (some ⟨q,j,none⟩),H'))∧bS 1 (.pointer (some ⟨q,j,none⟩)) x H=some (undef,H.put q c)∧Sl (H.put q c) o p s (cs.set j x) b:=by
 cases b with
 |none=>obtain⟨rfl,rfl⟩:=h;simp at hj
 |some q=>
  obtain⟨cap,rest,ty,rfl,h2,h3,h5,h6⟩:=h;refine⟨q,⟨cs.set j x++rest,ty,1,false⟩,rfl,λH'=>?_,?_,cap,rest,ty,by simp,aH h2,by simpa using h3,h5,h6⟩
  ·simp only[bP];rw[if_pos (by constructor<;>omega)];simp
  ·simp only[bS,bG,h2,hx,hk];rw[if_pos ⟨rfl,trivial⟩];have:(!false&&decide (j+ #[x].toList.length≤(cs++rest).length)&& #[x].toList.all aD)=true:=by
    simp[h1];omega
   simp only[this,if_true,Option.map_some,bO,List.set_append,hj]
def uO:Option Nat→ae→ae
 |none,H=>H
 |some q,H=>H.kill q
theorem kS (b:Option Nat):(uO b H).length=H.length:=by
 cases b with
 |none=>rfl
 |some q=>exact dt H q
theorem tx {b:Option Nat}{j:Nat}(h:b≠some j):(uO b H)[j]? =H[j]? :=by
 cases b with
 |none=>rfl
 |some q=>exact oq (by rintro rfl;exact h rfl)
theorem Sl.ins {s:Value}{cs:List Value}{b:Option Nat}{i j:Nat}{x:Value}{t tE:TypeId}(h:Sl H o p s cs b)(hj:H.get j=some ⟨[x],t,1,false⟩)(eC:b≠some j)(hi:i≤cs.length)(hl:cs.length<4294967296):
  CN tE [s,cv i,.slice (some ⟨j,0,none⟩) 1 1] H=some (.slice (some ⟨H.length,0,none⟩) (cs.length+1) (cs.length+1),(uO b H).new ⟨cs.take i++x::cs.drop i,tE,1,false⟩):=by
 have fN:aA H j 0 1=some [x]:=by simp[aA,hj]
 cases b with
 |none=>
  obtain⟨rfl,rfl⟩:=h;have:i=0:=by simpa using hi
  subst this;simp[CN,hj,fN,uO]
 |some q=>
  obtain⟨cap,rest,ty,rfl,h2,h3,h5,h6⟩:=h;have hqj:q≠j:=λe=>eC (by rw[e])
  have c1:True∧True∧(0:Int)≤(i:Int)∧(i:Int)≤(cs.length:Int)∧cs.length<4294967296:=⟨trivial,trivial,by omega,by omega,hl⟩
  have c2:True∧True∧q≠j∧(cs++rest).length=cap∧cs.length≤cap∧((cs++rest).drop cs.length).all cF=true:=by
   refine⟨trivial,trivial,hqj,by simpa using h3,by omega,?_⟩
   rw[List.drop_left];exact h5
  simp only[CN,hj,fN,h2];rw[if_pos c1,if_pos c2,List.take_left];simp only[Int.toNat_natCast,uO]
theorem Sl.made (H:ae)(o:an)(p:Int)(t:TypeId)(cs:List Value):Sl (H.new ⟨cs,t,1,false⟩) (o.up H.length p) p (.slice (some ⟨H.length,0,none⟩) cs.length cs.length) cs (some H.length):=
 ⟨cs.length,[],t,rfl,by simpa using az,by simp,rfl,aQ⟩
section
variable {α:Type} (lt:α→α→Bool)
def pQ (l:List α)(k:α):Nat:=(l.takeWhile λx=>lt x k).length
theorem ZG (l:List α)(k:α):pQ lt l k≤l.length:=(List.takeWhile_sublist _).length_le
theorem zV {l:List α}{k:α}{i:Nat}(h1:i≤l.length)(h2: ∀j (h:j<l.length),j<i→lt l[j] k=true)(h3: ∀h:i<l.length,lt l[i] k=false):pQ lt l k=i:=by
 induction l generalizing i with
 |nil=>simp at h1;subst h1;rfl
 |cons a l ih=>
  unfold pQ;cases i with
  |zero=>
   have:=h3 (by simp)
   simp only[List.getElem_cons_zero] at this;simp[List.takeWhile_cons,this]
  |succ i=>
   have h0:=h2 0 (by simp) (by omega)
   simp only[List.getElem_cons_zero] at h0;simp only[List.takeWhile_cons,h0,if_true,List.length_cons];have:=ih (i:=i) (by simpa using h1) (λj h hj=>h2 (j+1) (by simpa using h) (by omega)) (λh=>h3 (by simpa using h))
   unfold pQ at this;omega
end
theorem od {c:dq}:(H.gX c).db H.length=some c:=by
 unfold ae.db ae.gX;rw[List.getElem?_append_right (Nat.le_refl _)];simp
theorem fi {y:Nat}{c:dq}(h:H.db y=some c):y<H.length:=by
 unfold ae.db at h;cases hx:H[y]? with
 |none=>rw[hx] at h;cases h
 |some s=>exact(List.getElem?_eq_some_iff.1 hx).1
theorem uP {y:Nat}{c d:dq}(h:H.db y=some c):(H.fC y d).db y=some d:=by
 unfold ae.db ae.fC;rw[List.getElem?_set_self (fi h)]
theorem DO {y j:Nat}{c:dq}(h:j≠y):(H.fC y c)[j]? =H[j]? :=hX h
theorem jA (p o:Nat)(x:Value)(H:ae){b:eY}(h:H.get p=some b)(hr:b.ro=false)(ho:o<b.cells.length)(hx:x.cells= #[x])(hk:known x=true)(h1:aD x=true):
  bS 1 (.pointer (some ⟨p,o,none⟩)) x H=some (undef,H.put p {b with cells:=b.cells.set o x}):=by
 simp only[bS,bG,h,hx,hk];rw[if_pos ⟨rfl,trivial⟩];have:(!b.ro&&decide (o+ #[x].toList.length≤b.cells.length)&& #[x].toList.all aD)=true:=by
  rw[hr];simp[h1];omega
 rw[this];rfl
theorem oe {y b:Nat}{c d:dq}{x:eY}(hy:H.db y=some c)(h:H.get b=some x):(H.fC y d).get b=some x:=by
 have:b≠y:=by
  rintro rfl;unfold ae.get at h;unfold ae.db at hy;cases hx:H[b]? with
  |none=>rw[hx] at h;cases h
  |some s=>rw[hx] at h hy;cases s<;>simp_all
 rw[cT (DO this)];exact h
theorem Ri {y b:Nat}{c:dq}{x:eY}(hy:H.db y=some c)(h:H.get b=some x):y≠b:=by
 rintro rfl;unfold ae.get at h;unfold ae.db at hy;cases hx:H[y]? with
 |none=>rw[hx] at h;cases h
 |some s=>rw[hx] at h hy;cases s<;>simp_all
theorem Rj {y b:Nat}{c:dq}{x:eY}(hy:H.db y=some c)(h:y≠b):(H.put b x).db y=some c:=by
 rw[zU (cU h)];exact hy
end Go.Proofs.YtjgmnoaalbbonaaGreatA.Am
end
