/- Texts of the proof of peekShort_holds, put together by a small program of ours (names shortened, spaces taken out). No condition beyond the given statement. -/
import Derived.Test.YtgfgglponbmgmaaGreatPSH9
set_option linter.unusedVariables false
set_option linter.unusedSimpArgs false
set_option linter.unnecessarySimpa false
noncomputable section
section
namespace Go.Proofs.YtgfgglponbmgmaaGreat.Fun
open Go.RowKit Go.Proofs.YtgfgglponbmgmaaGreatA.Am
set_option maxRecDepth 10000
abbrev NQ (vs:List Value)(i:Nat):Value:=sl [0,1,4,5,10] vs i
def Ci (C:ae)(n:Nat)(v0 v1 v4 v5 v10:Value)(H:aa):VH:= mv v5 H λx5 H=>mv x5 H λx6 H=>some (x6,H)
def FH (C:ae)(n:Nat)(vs:List Value)(H:aa):VH:=Ci C n (NQ vs 0) (NQ vs 1) (NQ vs 4) (NQ vs 5) (NQ vs 10) H
theorem NR (C:ae)(n:Nat)(v0 v1 v4 v5 v10:Value)(H:aa):FH C n [v0,v1,v4,v5,v10] H=Ci C n v0 v1 v4 v5 v10 H:=by
 kernel_rfl
def F18 (C:ae)(n:Nat)(a0 a1:Value)(H:aa):VH:= mv (cv 0) H λx0 H=>mv a0 H λx1 H=>mv a1 H λx2 H=>af (pS (ai Tryz.prog .rem 3 x1 x2) H) λx3 H=>mv x3 H λx4 H=>mv x4 H λx7 H=>af (pS (ai Tryz.prog .lss 3 x7 (cv 0)) H) λx8 H=>aV x8 (mv x4 H λx9 H=>mv a1 H λaC H=>af (pS (ai Tryz.prog .add 3 x9 aC) H) λaO H=>mv aO H λaN H=>FH C n [a0,a1,x0,aN,x8] H) (FH C n [a0,a1,x0,x4,x8] H)
theorem Wu (G:ae)(n:Nat)(a0 a1:Value)(H:aa):run G (n+1) 18 [a0,a1] H=F18 (run G n) n a0 a1 H:=by
 unfold run;rw[an (fn:=Tryz.f18) (keep:=[0,1,4,5,10]) (av 18 rfl) (by kernel_rfl) (by kernel_rfl)]
 kernel_rfl
def F32 (C:ae)(n:Nat)(a0 a1:Value)(H:aa):VH:= mv (cv 0) H λx0 H=>mv a1 H λx1 H=>af (pS (ai Tryz.prog .lss 3 x1 (cv 1)) H) λx2 H=>mv x2 H λx3 H=>af (gd (ag x3 false) (some (a1,H)) H) λx4 H=>af (gd (ag x3 false) (some (a0,H)) H) λx5 H=>af (gd (ag x3 false) (au x5 H) H) λx6 H=>af (gd (ag x3 false) (al 0 x6 H) H) λx7 H=>af (gd (ag x3 false) (pS (aq x7 H) H) H) λx8 H=>af (gd (ag x3 false) (pS (cG x8) H) H) λx9 H=>af (gd (ag x3 false) (pS (ai Tryz.prog .gtr 3 x4 x9) H) H) λaC H=>af (aK x3 (Value.bool true) aC H) λaO H=>aV aO (mv (cv 0) H λaN H=>some (aN,H)) (mv a0 H λaI H=>af (au aI H) λaM H=>af (al 0 aM H) λaT H=>af (pS (aq aT H) H) λaW H=>mv a1 H λbf H=>af (pS (ai Tryz.prog .sub 3 bf (cv 1)) H) λaU H=>af (cK 1 aW aU H) λbz H=>af (pS (aq bz H) H) λbM H=>mv bM H λbl H=>some (bl,H))
theorem Wv (G:ae)(n:Nat)(a0 a1:Value)(H:aa):run G (n+1) 32 [a0,a1] H=F32 (run G n) n a0 a1 H:=by
 unfold run;rw[an (fn:=Tryz.f32) (keep:=[0,1,4,15]) (av 32 rfl) (by kernel_rfl) (by kernel_rfl)]
 kernel_rfl
def Zz (C:ae)(n:Nat)(H:aa):VH:= mv (Value.slice none 0 0) H λx0 H=>af (ay Tryz.prog 42 1 [(0,(cv 0))] H) λx1 H=>mv x1 H λx2 H=>some (x2,H)
theorem NS (G:ae)(n:Nat)(H:aa):run G (n+1) 36 [] H=Zz (run G n) n H:=by
 unfold run;rw[an (fn:=Tryz.f36) (keep:=[0]) (av 36 rfl) (by kernel_rfl) (by kernel_rfl)]
 kernel_rfl
def F50 (C:ae)(n:Nat)(a0:Value)(H:aa):VH:= mv (Value.slice none 0 0) H λx0 H=>mv a0 H λx1 H=>mv a0 H λx2 H=>af (C 53 [x2,(cv 6)] H) λx3 H=>af (pS (aF Tryz.prog 69 [(0,(cv 1)),(1,(cv 6))]) H) λx4 H=>af (ay Tryz.prog 93 1 [(0,x4)] H) λx5 H=>af (C 81 [x1,x3,x5] H) λx6 H=>mv x6 H λx7 H=>some (x7,H)
theorem Ww (G:ae)(n:Nat)(a0:Value)(H:aa):run G (n+1) 50 [a0] H=F50 (run G n) n a0 H:=by
 unfold run;rw[an (fn:=Tryz.f50) (keep:=[0,2]) (av 50 rfl) (by kernel_rfl) (by kernel_rfl)]
 kernel_rfl
def F62 (C:ae)(n:Nat)(a0:Value)(H:aa):VH:= mv (Value.pointer none) H λx0 H=>mv (cv 0) H λx1 H=>mv a0 H λx2 H=>af (pS (ai Tryz.prog .lss 3 x2 (cv 1)) H) λx3 H=>mv x3 H λx4 H=>af (gd (ag x4 false) (some (a0,H)) H) λx5 H=>af (gd (ag x4 false) (pS (ai Tryz.prog .gtr 3 x5 (cv 65536)) H) H) λx6 H=>af (aK x4 (Value.bool true) x6 H) λx7 H=>aV x7 (mv (Value.pointer none) H λx8 H=>mv (cv 1) H λx9 H=>some (Value.tuple #[x8,x9],H)) (mv a0 H λaC H=>af (pS (aF Tryz.prog 126 [(1,aC)]) H) λaO H=>af (dH 126 aO H) λaN H=>mv aN H λaI H=>mv (cv 0) H λaM H=>some (Value.tuple #[aI,aM],H))
theorem Wx (G:ae)(n:Nat)(a0:Value)(H:aa):run G (n+1) 62 [a0] H=F62 (run G n) n a0 H:=by
 unfold run;rw[an (fn:=Tryz.f62) (keep:=[0,2,3,9]) (av 62 rfl) (by kernel_rfl) (by kernel_rfl)]
 kernel_rfl
def F69 (C:ae)(n:Nat)(a0:Value)(H:aa):VH:= mv a0 H λx0 H=>af (C 70 [x0] H) λx1 H=>mv x1 H λx2 H=>af (cg 0 x2 H) λx3 H=>af (cg 1 x2 H) λx4 H=>af (some (aS H 49 1 [(cv 0),(Value.bool false),(cv 0),(cv 0),(cv 0),(Value.slice none 0 0),(Value.slice none 0 0),(cv 0),(Value.bool false),(cv 0),(cv 0),(cv 0),(Value.slice none 0 0)])) λx5 H=>mv x3 H λx6 H=>af (bD 13 x5 x4 H) λx7 H=>mv a0 H λx8 H=>mv x6 H λx9 H=>af (au x9 H) λaC H=>af (al 8 aC H) λaO H=>af (pS (aq aO H) H) λaN H=>af (au x8 H) λaI H=>af (al 37 aI H) λaM H=>af (bD 1 aM aN H) λaT H=>mv a0 H λaW H=>mv x6 H λbf H=>af (au bf H) λaU H=>af (al 9 aU H) λbz H=>af (pS (aq bz H) H) λbM H=>af (au aW H) λbl H=>af (al 38 bl H) λbA H=>af (bD 1 bA bM H) λbF H=>mv x6 H λbO H=>af (au bO H) λbU H=>af (al 2 bU H) λbZ H=>af (pS (aq bZ H) H) λcE H=>af (pS (iG .not cE) H) λca H=>aV ca (mv a0 H λbS H=>af (au bS H) λcr H=>af (al 23 cr H) λcM H=>af (bD 1 cM (Value.bool true) H) λbR H=>mv a0 H λcq H=>af (pS (cZ 13 x5 H) H) λdC H=>af (au cq H) λbP H=>af (al 24 bP H) λcj H=>af (bD 13 cj dC H) λdD H=>some (Value.tuple #[],H)) (some (Value.tuple #[],H))
theorem Wy (G:ae)(n:Nat)(a0:Value)(H:aa):run G (n+1) 69 [a0] H=F69 (run G n) n a0 H:=by
 unfold run;rw[an (fn:=Tryz.f69) (keep:=[0,2,27,3]) (av 69 rfl) (by kernel_rfl) (by kernel_rfl)]
 kernel_rfl
abbrev uS (vs:List Value)(i:Nat):Value:=sl [0,2,4,13,3,5] vs i
def Cj (C:ae)(n:Nat)(v0 v2 v4 aZ v3 v5:Value)(H:aa):bn:= mv v4 H λx3 H=>mv v0 H λx4 H=>af (pS (cG x4) H) λx5 H=>af (pS (ai Tryz.prog .lss 3 x3 x5) H) λx6 H=>mv x6 H λx7 H=>af (gd (ag x7 true) (some (v4,H)) H) λx8 H=>af (gd (ag x7 true) (pS (ai Tryz.prog .lss 3 x8 (cv 60)) H) H) λx9 H=>af (aK x7 x9 (Value.bool false) H) λaC H=>aV aC (mv v0 H λaO H=>mv v4 H λaN H=>af (cK 1 aO aN H) λaI H=>af (pS (aq aI H) H) λaM H=>af (C 18 [aM,(cv 97)] H) λaT H=>af (pS (ai Tryz.prog .sub 3 aT (cv 40)) H) λaW H=>mv aW H λbf H=>mv v3 H λaU H=>mv bf H λbz H=>mv v4 H λbM H=>af (C 110 [aU,bz,bM] H) λbl H=>mv bl H λbA H=>mv v4 H λbF H=>af (pS (ai Tryz.prog .add 3 bF (cv 1)) H) λbO H=>mv bO H λbU H=>fin .normal [v0,v2,bU,aC,bA,bf] H) (fin (.exit 0) [v0,v2,v4,aC,v3,v5] H)
def NT (C:ae)(n:Nat)(vs:List Value)(H:aa):bn:=Cj C n (uS vs 0) (uS vs 2) (uS vs 4) (uS vs 13) (uS vs 3) (uS vs 5) H
theorem NU (C:ae)(n:Nat)(v0 v2 v4 aZ v3 v5:Value)(H:aa):NT C n [v0,v2,v4,aZ,v3,v5] H=Cj C n v0 v2 v4 aZ v3 v5 H:=by
 kernel_rfl
def Ck (C:ae)(n:Nat)(v0 v2 v4 aZ v3 v5:Value)(H:aa):VH:= mv v3 H λbZ H=>mv bZ H λcE H=>some (cE,H)
def NV (C:ae)(n:Nat)(vs:List Value)(H:aa):VH:=Ck C n (uS vs 0) (uS vs 2) (uS vs 4) (uS vs 13) (uS vs 3) (uS vs 5) H
theorem NW (C:ae)(n:Nat)(v0 v2 v4 aZ v3 v5:Value)(H:aa):NV C n [v0,v2,v4,aZ,v3,v5] H=Ck C n v0 v2 v4 aZ v3 v5 H:=by
 kernel_rfl
def F86 (C:ae)(n:Nat)(a0:Value)(H:aa):VH:= mv (Value.slice none 0 0) H λx0 H=>mv (Value.slice none 0 0) H λx1 H=>mv (cv 0) H λx2 H=>cd (iter n (NT C n) [a0,x0,x2,undef,x1,undef] H) (dG 0 (dM (NV C n) (dX Tryz.prog [.tmp 2] [0,2,4,13,3,5])))
theorem Wz (G:ae)(n:Nat)(a0:Value)(H:aa):run G (n+1) 86 [a0] H=F86 (run G n) n a0 H:=by
 unfold run;rw[an (fn:=Tryz.f86) (keep:=[0,2,4,13,3,5]) (av 86 rfl) (by kernel_rfl) (by kernel_rfl)]
 kernel_rfl
def WA (C:ae)(n:Nat)(a0 a1:Value)(H:aa):VH:= af (some (aS H 47 1 [(cv 0),(Value.bool false),(cv 0),(cv 0),(cv 0),(Value.slice none 0 0)])) λx0 H=>mv (Value.bool false) H λx1 H=>mv a0 H λx2 H=>af (au x2 H) λx3 H=>af (al 1 x3 H) λx4 H=>af (pS (aq x4 H) H) λx5 H=>af (pS (iG .not x5) H) λx6 H=>aV x6 (af (pS (aF Tryz.prog 47 []) H) λx7 H=>af (bD 6 x0 x7 H) λx8 H=>mv (Value.bool false) H λx9 H=>af (pS (cZ 6 x0 H) H) λr0 _=>some (Value.tuple #[r0,x9],H)) (mv a0 H λaC H=>af (au aC H) λaO H=>af (al 6 aO H) λaN H=>af (pS (aq aN H) H) λaI H=>af (pS (ai Tryz.prog .add 3 aI (cv 1)) H) λaM H=>af (au aC H) λaT H=>af (al 6 aT H) λaW H=>af (bD 1 aW aM H) λbf H=>mv a0 H λaU H=>af (au aU H) λbz H=>af (al 5 bz H) λbM H=>af (pS (aq bM H) H) λbl H=>mv a1 H λbA H=>af (C 20 [bl,bA] H) λbF H=>af (pS (iG .not bF) H) λbO H=>aV bO (af (pS (aF Tryz.prog 47 []) H) λbU H=>af (bD 6 x0 bU H) λbZ H=>mv (Value.bool false) H λcE H=>af (pS (cZ 6 x0 H) H) λr0 _=>some (Value.tuple #[r0,cE],H)) (mv a0 H λca H=>af (au ca H) λbS H=>af (al 1 bS H) λcr H=>af (bD 1 cr (Value.bool false) H) λcM H=>mv a0 H λbR H=>af (au bR H) λcq H=>af (al 5 cq H) λdC H=>af (pS (aq dC H) H) λbP H=>af (au bP H) λcj H=>af (al 24 cj H) λdD H=>af (al 7 dD H) λdr H=>af (pS (cZ 6 dr H) H) λcU H=>af (bD 6 x0 cU H) λcw H=>mv (Value.bool true) H λcL H=>af (pS (cZ 6 x0 H) H) λr0 _=>some (Value.tuple #[r0,cL],H)))
theorem Rl (G:ae)(n:Nat)(a0 a1:Value)(H:aa):run G (n+1) 101 [a0,a1] H=WA (run G n) n a0 a1 H:=by
 unfold run;rw[an (fn:=Tryz.f101) (keep:=[0,1,4,5,10,25]) (av 101 rfl) (by kernel_rfl) (by kernel_rfl)]
 kernel_rfl
abbrev qf (vs:List Value)(i:Nat):Value:=sl [0,2,10,3,46] vs i
def yg (C:ae)(n:Nat)(v0 v2 v10 v3 xy:Value)(H:aa):bn:= mv v2 H λx8 H=>af (pS (ai Tryz.prog .add 3 x8 (cv 1)) H) λx9 H=>mv x9 H λaC H=>fin .normal [v0,aC,v10,v3,xy] H
def vx (C:ae)(n:Nat)(vs:List Value)(H:aa):bn:=yg C n (qf vs 0) (qf vs 2) (qf vs 10) (qf vs 3) (qf vs 46) H
theorem Ky (C:ae)(n:Nat)(v0 v2 v10 v3 xy:Value)(H:aa):vx C n [v0,v2,v10,v3,xy] H=yg C n v0 v2 v10 v3 xy H:=by
 kernel_rfl
def yh (C:ae)(n:Nat)(v0 v2 v10 v3 xy:Value)(H:aa):bn:= mv v2 H λx1 H=>mv v0 H λx2 H=>af (au x2 H) λx3 H=>af (al 4 x3 H) λx4 H=>af (pS (aq x4 H) H) λx5 H=>af (pS (cG x5) H) λx6 H=>af (pS (ai Tryz.prog .lss 3 x1 x6) H) λx7 H=>aV x7 (mv v0 H λaO H=>af (au aO H) λaN H=>af (al 4 aN H) λaI H=>af (pS (aq aI H) H) λaM H=>mv v2 H λaT H=>af (cK 1 aM aT H) λaW H=>af (pS (aq aW H) H) λbf H=>mv bf H λaU H=>mv aU H λbz rH=>af (au bz rH) λbM rI=>af (al 1 bM rI) λbl rJ=>af (pS (aq bl rJ) rJ) λbA wQ=>af (some (bA,wQ)) λbF mZ=>af (gd (ag bF true) (some (aU,mZ)) mZ) λbO nT=>af (gd (ag bF true) (au bO nT) nT) λbU uN=>af (gd (ag bF true) (al 7 bU uN) uN) λbZ uO=>af (gd (ag bF true) (pS (aq bZ uO) uO) uO) λcE DN=>af (gd (ag bF true) (pS (iG .not cE) DN) DN) λca tm=>af (aK bF ca (Value.bool false) tm) λbS tq=>af (some (bS,tq)) λcr FD=>af (gd (ag cr true) (some (aU,FD)) FD) λcM Q8=>af (gd (ag cr true) (C 129 [cM] Q8) Q8) λbR Q9=>af (gd (ag cr true) (pS (ai Tryz.prog .gtr 3 bR (cv 0)) Q9) Q9) λcq xV=>af (aK cr cq (Value.bool false) xV) λdC xW=>af (some (dC,xW)) λbP Ra=>af (gd (ag bP true) (some (v0,Ra)) Ra) λcj Je=>af (gd (ag bP true) (au cj Je) Je) λdD uE=>af (gd (ag bP true) (al 3 dD uE) uE) λdr uF=>af (gd (ag bP true) (pS (aq dr uF) uF) uF) λcU uG=>af (gd (ag bP true) (some (aU,uG)) uG) λcw qB=>af (gd (ag bP true) (C 129 [cw] qB) qB) λcL rD=>af (gd (ag bP true) (pS (ai Tryz.prog .add 3 cL (cv 4)) rD) rD) λdO mT=>af (gd (ag bP true) (C 33 [cU,dO] mT) mT) λdE j8=>af (gd (ag bP true) (pS (ai Tryz.prog .eql 2 dE (cv 1)) j8) j8) λdY nP=>af (aK bP dY (Value.bool false) nP) λdI mU=>if(lr (ag bP true) (ag bP true) (pS (aq dr uF) uF) (pS (aq dr qB) qB) (pS (aq dr rD) rD)&&true)=true then(λH=>aV dI (mv aU H λdp H=>af (au dp H) λdv H=>af (al 7 dv H) λcQ H=>af (bD 1 cQ (Value.bool true) H) λcx H=>mv v0 H λer rE=>af (some (v0,rE)) λdQ kD=>af (au dQ kD) λdR lv=>af (al 5 dR lv) λdw kE=>af (pS (aq dw kE) kE) λeF nR=>af (some (v2,nR)) λeO uH=>af (some (aU,uH)) λdz mW=>af (au dz mW) λhZ sZ=>af (al 8 hZ sZ) λdU pL=>af (pS (aq dU pL) pL) λfh zD=>af (some (v0,zD)) λiL uJ=>af (au iL uJ) λfN nS=>af (al 7 fN nS) λeJ lz=>af (pS (aq eJ lz) lz) λiS oE=>af (pS (aF Tryz.prog 155 [(0,(cv 2)),(1,eO),(2,fh),(5,iS)]) oE) λjN pM=>af (ay Tryz.prog 63 1 [(0,jN)] pM) λiV mX=>af (de 155 13 120 eF iV mX) λeQ kR=>af (au er kR) λjO pN=>af (al 5 jO pN) λfC uK=>af (bD 1 fC eQ uK) λgL s9=>if(lr (some true) (some true) (pS (aq dw kE) kE) (pS (aq dw pM) pM) (pS (aq dw mX) mX)&&true)=true then(λH=>vx C n [v0,v2,x7,aU,dI] H) s9 else none) (vx C n [v0,v2,x7,aU,dI] H)) mU else none) (fin (.exit 0) [v0,v2,x7,v3,xy] H)
def HP (C:ae)(n:Nat)(vs:List Value)(H:aa):bn:=yh C n (qf vs 0) (qf vs 2) (qf vs 10) (qf vs 3) (qf vs 46) H
theorem Kz (C:ae)(n:Nat)(v0 v2 v10 v3 xy:Value)(H:aa):HP C n [v0,v2,v10,v3,xy] H=yh C n v0 v2 v10 v3 xy H:=by
 kernel_rfl
def WB (C:ae)(n:Nat)(a0:Value)(H:aa):VH:= mv (cv 0) H λx0 H=>cd (iter n (HP C n) [a0,x0,undef,undef,undef] H) (dG 0 (dX Tryz.prog [] [0,2,10,3,46]))
theorem Rm (G:ae)(n:Nat)(a0:Value)(H:aa):run G (n+1) 102 [a0] H=WB (run G n) n a0 H:=by
 unfold run;rw[an (fn:=Tryz.f102) (keep:=[0,2,10,3,46]) (av 102 rfl) (by kernel_rfl) (by kernel_rfl)]
 kernel_rfl
def WC (C:ae)(n:Nat)(a0:Value)(H:aa):VH:= mv (Value.bool false) H λx0 H=>mv a0 H λx1 H=>af (C 132 [x1] H) λx2 H=>mv x2 H λx3 H=>af (gd (ag x3 true) (some (a0,H)) H) λx4 H=>af (gd (ag x3 true) (pS (cG x4) H) H) λx5 H=>af (gd (ag x3 true) (pS (ai Tryz.prog .leq 3 x5 (cv 16384)) H) H) λx6 H=>af (aK x3 x6 (Value.bool false) H) λx7 H=>mv x7 H λx8 H=>some (x8,H)
theorem Rn (G:ae)(n:Nat)(a0:Value)(H:aa):run G (n+1) 107 [a0] H=WC (run G n) n a0 H:=by
 unfold run;rw[an (fn:=Tryz.f107) (keep:=[0,2]) (av 107 rfl) (by kernel_rfl) (by kernel_rfl)]
 kernel_rfl
def WD (C:ae)(n:Nat)(a0:Value)(H:aa):VH:= mv (cv 0) H λx0 H=>mv a0 H λx1 H=>af (au x1 H) λx2 H=>af (al 1 x2 H) λx3 H=>af (pS (aq x3 H) H) λx4 H=>af (pS (iG .not x4) H) λx5 H=>aV x5 (mv (cv 0) H λx6 H=>some (x6,H)) (mv a0 H λx7 H=>af (au x7 H) λx8 H=>af (al 5 x8 H) λx9 H=>af (pS (aq x9 H) H) λaC H=>af (au aC H) λaO H=>af (al 38 aO H) λaN H=>af (pS (aq aN H) H) λaI H=>mv aI H λaM H=>some (aM,H))
theorem Ro (G:ae)(n:Nat)(a0:Value)(H:aa):run G (n+1) 129 [a0] H=WD (run G n) n a0 H:=by
 unfold run;rw[an (fn:=Tryz.f129) (keep:=[0,2,7]) (av 129 rfl) (by kernel_rfl) (by kernel_rfl)]
 kernel_rfl
abbrev gH (vs:List Value)(i:Nat):Value:=sl [0,1,4,12,13,6,24,31,8,7,38,5] vs i
def yi (C:ae)(n:Nat)(v0 v1 v4 aY aZ v6 iX nI v8 v7 sF v5:Value)(H:aa):VH:= mv v5 H λx5 H=>mv x5 H λx6 H=>some (x6,H)
def Cm (C:ae)(n:Nat)(vs:List Value)(H:aa):VH:=yi C n (gH vs 0) (gH vs 1) (gH vs 4) (gH vs 12) (gH vs 13) (gH vs 6) (gH vs 24) (gH vs 31) (gH vs 8) (gH vs 7) (gH vs 38) (gH vs 5) H
theorem KA (C:ae)(n:Nat)(v0 v1 v4 aY aZ v6 iX nI v8 v7 sF v5:Value)(H:aa):Cm C n [v0,v1,v4,aY,aZ,v6,iX,nI,v8,v7,sF,v5] H=yi C n v0 v1 v4 aY aZ v6 iX nI v8 v7 sF v5 H:=by
 kernel_rfl
def NX (C:ae)(n:Nat)(v0 v1 v4 aY aZ v6 iX nI v8 v7 sF v5:Value)(H:aa):bn:= mv v8 H λcj H=>mv v7 H λdD H=>af (pS (ai Tryz.prog .lss 3 cj dD) H) λdr H=>aV dr (mv v5 H λcU H=>mv v0 H λcw H=>mv v0 H λcL H=>mv v6 H λdO H=>mv v7 H λdE H=>mv v8 H λdY H=>af (C 103 [dO,dE,dY] H) λdI H=>af (C 53 [cL,dI] H) λdp H=>af (C 134 [cw,dp] H) λdv H=>af (de 45 2 16 cU dv H) λcQ H=>mv cQ H λcx H=>mv v8 H λer H=>af (pS (ai Tryz.prog .add 3 er (cv 1)) H) λdQ H=>mv dQ H λdR H=>fin .normal [v0,v1,v4,aY,aZ,v6,iX,nI,dR,v7,dr,cx] H) (fin (.exit 1) [v0,v1,v4,aY,aZ,v6,iX,nI,v8,v7,dr,v5] H)
def Rp (C:ae)(n:Nat)(vs:List Value)(H:aa):bn:=NX C n (gH vs 0) (gH vs 1) (gH vs 4) (gH vs 12) (gH vs 13) (gH vs 6) (gH vs 24) (gH vs 31) (gH vs 8) (gH vs 7) (gH vs 38) (gH vs 5) H
def Rq (C:ae)(n:Nat)(a0 a1:Value)(H:aa):VH:= mv (Value.slice none 0 0) H λx0 H=>mv (Value.slice none 0 0) H λx1 H=>mv a1 H λx2 H=>af (C 83 [x2] H) λx3 H=>mv x3 H λx4 H=>mv a1 H λx7 H=>af (C 57 [x7] H) λx8 H=>af (pS (ai Tryz.prog .eql 3 x8 (cv 2)) H) λx9 H=>mv x9 H λaC H=>aV aC (mv a0 H λaO H=>mv x4 H λaN H=>af (C 33 [aO,aN] H) λaI H=>mv a0 H λaM H=>mv x4 H λaT H=>af (pS (ai Tryz.prog .add 3 aT (cv 1)) H) λaW H=>af (C 33 [aM,aW] H) λbf H=>af (pS (aF Tryz.prog 45 [(0,aI),(1,bf)]) H) λaU H=>af (ay Tryz.prog 31 1 [(0,aU)] H) λbz H=>mv bz H λbM H=>some (bM,H)) (af (pS (ai Tryz.prog .eql 3 x8 (cv 4)) H) λbl H=>mv bl H λbA H=>aV bA (mv a0 H λbF H=>mv a0 H λbO H=>mv x4 H λbU H=>af (C 33 [bO,bU] H) λbZ H=>af (C 134 [bF,bZ] H) λcE H=>mv cE H λca H=>some (ca,H)) (af (pS (ai Tryz.prog .eql 3 x8 (cv 3)) H) λbS H=>mv bS H λcr H=>aV cr (mv a0 H λcM H=>mv x4 H λbR H=>af (C 33 [cM,bR] H) λcq H=>mv cq H λdC H=>mv (cv 0) H λbP H=>cd (iter n (Rp C n) [a0,a1,x0,x8,aC,x4,bA,cr,bP,dC,undef,x1] H) (dG 1 (dG 0 (dM (Cm C n) (dX Tryz.prog [.tmp 4] [0,1,4,12,13,6,24,31,8,7,38,5]))))) (Cm C n [a0,a1,x0,x8,aC,x4,bA,cr,undef,undef,undef,x1] H)))
theorem Rr (G:ae)(n:Nat)(a0 a1:Value)(H:aa):run G (n+1) 134 [a0,a1] H=Rq (run G n) n a0 a1 H:=by
 unfold run;rw[an (fn:=Tryz.f134) (keep:=[0,1,4,12,13,6,24,31,8,7,38,5]) (av 134 rfl) (by kernel_rfl) (by kernel_rfl)]
 kernel_rfl
abbrev lQ (vs:List Value)(i:Nat):Value:=sl [0,2,10,12,4,22,3] vs i
def yj (C:ae)(n:Nat)(v0 v2 v10 aY v4 js v3:Value)(H:aa):bn:= mv v4 H λbz H=>mv v0 H λbM H=>af (C 148 [bM] H) λbl H=>af (pS (ai Tryz.prog .lss 3 bz bl) H) λbA H=>aV bA (mv v3 H λbF H=>mv v0 H λbO H=>mv v4 H λbU H=>af (C 150 [bO,bU] H) λbZ H=>af (C 135 [bZ] H) λcE H=>af (pS (ai Tryz.prog .add 3 bF cE) H) λca H=>mv ca H λbS H=>mv v4 H λcr H=>af (pS (ai Tryz.prog .add 3 cr (cv 1)) H) λcM H=>mv cM H λbR H=>fin .normal [v0,v2,v10,aY,bR,bA,bS] H) (fin (.exit 0) [v0,v2,v10,aY,v4,bA,v3] H)
def HQ (C:ae)(n:Nat)(vs:List Value)(H:aa):bn:=yj C n (lQ vs 0) (lQ vs 2) (lQ vs 10) (lQ vs 12) (lQ vs 4) (lQ vs 22) (lQ vs 3) H
theorem KC (C:ae)(n:Nat)(v0 v2 v10 aY v4 js v3:Value)(H:aa):HQ C n [v0,v2,v10,aY,v4,js,v3] H=yj C n v0 v2 v10 aY v4 js v3 H:=by
 kernel_rfl
def yk (C:ae)(n:Nat)(v0 v2 v10 aY v4 js v3:Value)(H:aa):VH:= mv v3 H λcq H=>mv cq H λdC H=>some (dC,H)
def HR (C:ae)(n:Nat)(vs:List Value)(H:aa):VH:=yk C n (lQ vs 0) (lQ vs 2) (lQ vs 10) (lQ vs 12) (lQ vs 4) (lQ vs 22) (lQ vs 3) H
theorem KD (C:ae)(n:Nat)(v0 v2 v10 aY v4 js v3:Value)(H:aa):HR C n [v0,v2,v10,aY,v4,js,v3] H=yk C n v0 v2 v10 aY v4 js v3 H:=by
 kernel_rfl
def WE (C:ae)(n:Nat)(a0:Value)(H:aa):VH:= mv (cv 0) H λx0 H=>mv a0 H λx1 H=>af (pS (ai Tryz.prog .lss 3 x1 (cv 0)) H) λx2 H=>mv x2 H λx3 H=>af (gd (ag x3 false) (some (a0,H)) H) λx4 H=>af (gd (ag x3 false) (pS (ai Tryz.prog .gtr 3 x4 (cv 16384)) H) H) λx5 H=>af (aK x3 (Value.bool true) x5 H) λx6 H=>aV x6 (mv (cv 0) H λx7 H=>some (x7,H)) (mv a0 H λx8 H=>af (pS (ai Tryz.prog .lss 3 x8 (cv 2)) H) λx9 H=>aV x9 (mv a0 H λaC H=>af (pS (ai Tryz.prog .add 3 aC (cv 1)) H) λaO H=>mv aO H λaN H=>some (aN,H)) (mv a0 H λaI H=>af (C 148 [aI] H) λaM H=>af (pS (ai Tryz.prog .mul 3 (cv 2) aM) H) λaT H=>af (pS (ai Tryz.prog .add 3 (cv 4) aT) H) λaW H=>mv aW H λbf H=>mv (cv 0) H λaU H=>cd (iter n (HQ C n) [a0,x0,x6,x9,aU,undef,bf] H) (dG 0 (dM (HR C n) (dX Tryz.prog [.tmp 2] [0,2,10,12,4,22,3])))))
theorem Rt (G:ae)(n:Nat)(a0:Value)(H:aa):run G (n+1) 135 [a0] H=WE (run G n) n a0 H:=by
 unfold run;rw[an (fn:=Tryz.f135) (keep:=[0,2,10,12,4,22,3]) (av 135 rfl) (by kernel_rfl) (by kernel_rfl)]
 kernel_rfl
abbrev nL (vs:List Value)(i:Nat):Value:=sl [0,1,2,6,7,13,8,9,10,33,40,11] vs i
def yl (C:ae)(n:Nat)(v0 v1 v2 v6 v7 aZ v8 v9 v10 kn gy v11:Value)(H:aa):VH:= mv v0 H λca H=>af (au ca H) λbS H=>af (al 2 bS H) λcr H=>af (pS (aq cr H) H) λcM H=>aV cM (mv (cv 0) H λbR H=>mv (Value.bool false) H λcq H=>some (Value.tuple #[bR,cq],H)) (mv v0 H λdC H=>mv v11 H λbP H=>af (C 123 [dC,bP] H) λcj H=>af (cg 0 cj H) λdD H=>af (cg 1 cj H) λdr H=>mv dD H λcU H=>mv dr H λcw H=>some (Value.tuple #[cU,cw],H))
def vy (C:ae)(n:Nat)(vs:List Value)(H:aa):VH:=yl C n (nL vs 0) (nL vs 1) (nL vs 2) (nL vs 6) (nL vs 7) (nL vs 13) (nL vs 8) (nL vs 9) (nL vs 10) (nL vs 33) (nL vs 40) (nL vs 11) H
theorem KF (C:ae)(n:Nat)(v0 v1 v2 v6 v7 aZ v8 v9 v10 kn gy v11:Value)(H:aa):vy C n [v0,v1,v2,v6,v7,aZ,v8,v9,v10,kn,gy,v11] H=yl C n v0 v1 v2 v6 v7 aZ v8 v9 v10 kn gy v11 H:=by
 kernel_rfl
def WG (C:ae)(n:Nat)(a0 a1 a2:Value)(H:aa):VH:= mv (cv 0) H λx0 H=>mv (Value.bool false) H λx1 H=>mv a2 H λx2 H=>af (pS (ai Tryz.prog .geq 3 x2 (cv 2)) H) λx3 H=>aV x3 (mv a2 H λx4 H=>af (C 148 [x4] H) λx5 H=>af (MN x5 (cv 1) H) λx6 H=>mv x6 H λx7 H=>sY 1 H λhb H=>mv a0 H λx8 H=>mv a2 H λx9 H=>mv x7 H λaC H=>af (pS (ai Tryz.prog .sub 3 aC (cv 1)) H) λaO H=>af (UM 2 1 8 [(cv 0)] aO aO H) λaN H=>mv x7 H λaI H=>af (Jd (hb+0) (msB 2 1 8 [(cv 0)] aI aI) H) λaM H=>af (C 131 [x9,aN,aM] H) λaT H=>af (C 141 [x8,aT] H) λaW H=>mv aW H λbf H=>af (cg 0 bf H) λaU H=>af (cg 1 bf H) λbz H=>mv aU H λbM H=>mv bz H λbl H=>mv bM H λbA H=>af (C 59 [(cv 3),bA] H) λbF H=>mv bl H λbO H=>mv bF H λbU H=>mv bO H λbZ H=>some (Value.tuple #[bU,bZ],H)) (mv (Value.slice none 0 0) H λcE H=>mv a2 H λcL H=>af (pS (ai Tryz.prog .eql 3 cL (cv 1)) H) λdO H=>aV dO (mv a0 H λdE H=>mv a1 H λdY H=>af (C 122 [dE,dY,(cv 0),(cv 1),(Value.slice none 0 0)] H) λdI H=>mv dI H λdp H=>vy C n [a0,a1,a2,x0,x1,x3,undef,undef,undef,dO,undef,dp] H) (vy C n [a0,a1,a2,x0,x1,x3,undef,undef,undef,dO,undef,cE] H))
theorem Ru (G:ae)(n:Nat)(a0 a1 a2:Value)(H:aa):run G (n+1) 151 [a0,a1,a2] H=WG (run G n) n a0 a1 a2 H:=by
 unfold run;rw[an (fn:=Tryz.f151) (keep:=[0,1,2,6,7,13,8,9,10,33,40,11]) (av 151 rfl) (by kernel_rfl) (by kernel_rfl)]
 kernel_rfl
end Go.Proofs.YtgfgglponbmgmaaGreat.Fun
end
