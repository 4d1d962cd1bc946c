/- Texts of the proof of peekShort_holds, put together by a small program of ours (names shortened, spaces taken out). No condition beyond the given statement. -/
import Derived.Test.YtgfgglponbmgmaaGreatPSH9
import Derived.Test.YtgfgglponbmgmaaGreatPSH8
set_option linter.unusedVariables false
set_option linter.unusedSimpArgs false
set_option linter.unnecessarySimpa false
noncomputable section
section
namespace Go.Proofs.YtgfgglponbmgmaaGreat.Fun
open Go.RowKit Go.Proofs.YtgfgglponbmgmaaGreatA.Am
set_option maxRecDepth 10000
def F15 (C:ae)(n:Nat)(a0:Value)(H:aa):VH:= mv (Value.bool false) H λx0 H=>mv a0 H λx1 H=>af (au x1 H) λx2 H=>af (al 0 x2 H) λx3 H=>af (pS (aq x3 H) H) λx4 H=>mv a0 H λx5 H=>af (au x5 H) λx6 H=>af (al 1 x6 H) λx7 H=>af (pS (aq x7 H) H) λx8 H=>af (au x8 H) λx9 H=>af (al 3 x9 H) λaC H=>af (pS (aq aC H) H) λaO H=>af (C 68 [x4,aO] H) λaN H=>mv aN H λaI H=>some (aI,H)
theorem WH (G:ae)(n:Nat)(a0:Value)(H:aa):run G (n+1) 15 [a0] H=F15 (run G n) n a0 H:=by
 unfold run;rw[an (fn:=Tryz.f15) (keep:=[0,2]) (av 15 rfl) (by kernel_rfl) (by kernel_rfl)]
 kernel_rfl
def F31 (C:ae)(n:Nat)(a0:Value)(H:aa):VH:= mv (cv 0) H λx0 H=>mv a0 H λx1 H=>af (C 77 [x1] H) λx2 H=>mv x2 H λx3 H=>af (cg 0 x3 H) λx4 H=>af (cg 1 x3 H) λx5 H=>af (cg 2 x3 H) λx6 H=>mv x4 H λx7 H=>mv x5 H λx8 H=>mv x6 H λx9 H=>mv x7 H λaC H=>mv aC H λaO H=>some (aO,H)
theorem WI (G:ae)(n:Nat)(a0:Value)(H:aa):run G (n+1) 31 [a0] H=F31 (run G n) n a0 H:=by
 unfold run;rw[an (fn:=Tryz.f31) (keep:=[0,2,3]) (av 31 rfl) (by kernel_rfl) (by kernel_rfl)]
 kernel_rfl
def F53 (C:ae)(n:Nat)(a0 a1:Value)(H:aa):VH:= mv (cv 0) H λx0 H=>mv a0 H λx1 H=>mv a1 H λx2 H=>af (C 33 [x1,x2] H) λx3 H=>mv x3 H λx4 H=>mv x4 H λx5 H=>af (C 57 [x5] H) λx6 H=>af (pS (ai Tryz.prog .neq 3 x6 (cv 5)) H) λx7 H=>aV x7 (mv x4 H λx8 H=>mv x8 H λx9 H=>some (x9,H)) (mv x4 H λaC H=>af (C 83 [aC] H) λaO H=>mv aO H λaN H=>mv a0 H λaI H=>mv aN H λaM H=>af (pS (ai Tryz.prog .add 3 aM (cv 4)) H) λaT H=>af (C 33 [aI,aT] H) λaW H=>af (pS (ai Tryz.prog .eql 2 aW (cv 1)) H) λbf H=>aV bf (mv a0 H λaU H=>mv aN H λbz H=>af (pS (ai Tryz.prog .add 3 bz (cv 3)) H) λbM H=>af (C 33 [aU,bM] H) λbl H=>mv bl H λbA H=>some (bA,H)) (mv a0 H λbF H=>mv aN H λbO H=>af (pS (ai Tryz.prog .add 3 bO (cv 2)) H) λbU H=>af (C 33 [bF,bU] H) λbZ H=>mv bZ H λcE H=>some (cE,H)))
theorem WJ (G:ae)(n:Nat)(a0 a1:Value)(H:aa):run G (n+1) 53 [a0,a1] H=F53 (run G n) n a0 a1 H:=by
 unfold run;rw[an (fn:=Tryz.f53) (keep:=[0,1,4,5,12,6,20]) (av 53 rfl) (by kernel_rfl) (by kernel_rfl)]
 kernel_rfl
def F68 (C:ae)(n:Nat)(a0 a1:Value)(H:aa):VH:= mv (Value.bool false) H λx0 H=>mv a0 H λx1 Hx1=>af (C 51 [x1] Hx1) λx2 Zx=>af (some (a1,Zx)) λx3 Hx3=>af (au x3 Hx3) λx4 Hx4=>af (al 1 x4 Hx4) λx5 Wb=>af (pS (aq x5 Wb) Wb) λx6 Hx6=>af (C 52 [x2,x6] Hx6) λx7 Th=>af (some (x7,Th)) λx8 Q0=>af (gd (ag x8 true) (some (a0,Q0)) Q0) λx9 Wc=>af (gd (ag x8 true) (C 54 [x9] Wc) Wc) λaC FE=>af (gd (ag x8 true) (some (a1,FE)) FE) λaO DT=>af (gd (ag x8 true) (au aO DT) DT) λaN Nz=>af (gd (ag x8 true) (al 1 aN Nz) Nz) λaI zJ=>af (gd (ag x8 true) (pS (aq aI zJ) zJ) zJ) λaM BL=>af (gd (ag x8 true) (pS (cG aM) BL) BL) λaT uM=>af (gd (ag x8 true) (pS (ai Tryz.prog .eql 3 aC aT) uM) uM) λaW DM=>af (aK x8 aW (Value.bool false) DM) λbf rG=>af (some (bf,rG)) λaU wP=>af (gd (ag aU true) (some (a0,wP)) wP) λbz rH=>af (gd (ag aU true) (C 91 [bz] rH) rH) λbM rI=>af (gd (ag aU true) (some (a1,rI)) rI) λbl rJ=>af (gd (ag aU true) (au bl rJ) rJ) λbA wQ=>af (gd (ag aU true) (al 0 bA wQ) wQ) λbF mZ=>af (gd (ag aU true) (pS (aq bF mZ) mZ) mZ) λbO nT=>af (gd (ag aU true) (pS (ai Tryz.prog .eql 3 bM bO) nT) nT) λbU uN=>af (aK aU bU (Value.bool false) uN) λbZ uO=>af (some (bZ,uO)) λcE DN=>if(lr (some true) (some true) (pS (aq x5 Wb) Wb) (pS (aq x5 Hx1) Hx1) (pS (aq x5 Zx) Zx)&&(lr (ag x8 true) (ag x8 true) (pS (aq aI zJ) zJ) (pS (aq aI Wc) Wc) (pS (aq aI FE) FE)&&(lr (ag aU true) (ag aU true) (pS (aq bF mZ) mZ) (pS (aq bF rH) rH) (pS (aq bF rI) rI)&&true)))=true then(λH=>some (cE,H)) DN else none
theorem WK (G:ae)(n:Nat)(a0 a1:Value)(H:aa):run G (n+1) 68 [a0,a1] H=F68 (run G n) n a0 a1 H:=by
 unfold run;rw[an (fn:=Tryz.f68) (keep:=[0,1,4]) (av 68 rfl) (by kernel_rfl) (by kernel_rfl)]
 kernel_rfl
def F72 (C:ae)(n:Nat)(a0 a1 a2:Value)(H:aa):VH:= af (dH 39 a2 H) λx0 H=>mv (cv 0) H λx1 H=>mv a1 H λx2 H=>af (pS (ai Tryz.prog .lss 3 x2 (cv 0)) H) λx3 H=>mv x3 H λx4 H=>af (gd (ag x4 false) (some (a1,H)) H) λx5 H=>af (gd (ag x4 false) (some (a0,H)) H) λx6 H=>af (gd (ag x4 false) (au x6 H) H) λx7 H=>af (gd (ag x4 false) (al 4 x7 H) H) λx8 H=>af (gd (ag x4 false) (pS (aq x8 H) H) H) λx9 H=>af (gd (ag x4 false) (pS (cG x9) H) H) λaC H=>af (gd (ag x4 false) (pS (ai Tryz.prog .geq 3 x5 aC) H) H) λaO H=>af (aK x4 (Value.bool true) aO H) λaN H=>aV aN (mv (cv 3) H λaI H=>some (aI,H)) (mv a0 H λaM H=>af (au aM H) λaT H=>af (al 4 aT H) λaW H=>af (pS (aq aW H) H) λbf H=>mv a1 H λaU H=>af (cK 1 bf aU H) λbz H=>af (pS (aq bz H) H) λbM H=>af (pS (cZ 3 x0 H) H) λbl H=>af (C 100 [bM,bl] H) λbA H=>mv bA H λbF H=>mv bF H λbO H=>af (pS (ai Tryz.prog .neq 43 bO (cv 0)) H) λbU H=>aV bU (mv bF H λbZ H=>mv bZ H λcE H=>some (cE,H)) (mv a0 H λca H=>af (au ca H) λbS H=>af (al 4 bS H) λcr H=>af (pS (aq cr H) H) λcM H=>mv a1 H λbR H=>af (cK 1 cM bR H) λcq H=>af (pS (aq cq H) H) λdC H=>mv a0 H λbP H=>af (au bP H) λcj H=>af (al 6 cj H) λdD H=>af (pS (aq dD H) H) λdr H=>af (au dC H) λcU H=>af (al 8 cU H) λcw H=>af (bD 1 cw dr H) λcL H=>mv a0 H λdO H=>af (au dO H) λdE H=>af (al 6 dE H) λdY H=>af (pS (aq dY H) H) λdI H=>af (pS (ai Tryz.prog .add 3 dI (cv 1)) H) λdp H=>af (au dO H) λdv H=>af (al 6 dv H) λcQ H=>af (bD 1 cQ dp H) λcx H=>mv a0 H λer rE=>af (some (a0,rE)) λdQ kD=>af (au dQ kD) λdR lv=>af (al 5 dR lv) λdw kE=>af (pS (aq dw kE) kE) λeF nR=>af (some (a1,nR)) λeO uH=>af (some (a0,uH)) λdz mW=>af (au dz mW) λhZ sZ=>af (al 4 hZ sZ) λdU pL=>af (pS (aq dU pL) pL) λfh zD=>af (some (a1,zD)) λiL uJ=>af (cK 1 fh iL uJ) λfN nS=>af (pS (aq fN nS) nS) λeJ lz=>af (au eJ lz) λiS oE=>af (al 8 iS oE) λjN pM=>af (pS (aq jN pM) pM) λiV mX=>af (pS (cZ 3 x0 mX) mX) λeQ kR=>af (some (a0,kR)) λjO pN=>af (au jO pN) λfC uK=>af (al 7 fC uK) λgL s9=>af (pS (aq gL s9) s9) λlA zE=>af (pS (aF Tryz.prog 155 [(0,(cv 1)),(1,eO),(2,iV),(3,eQ),(5,lA)]) zE) λmC wG=>af (ay Tryz.prog 63 1 [(0,mC)] wG) λmD zF=>af (de 155 13 120 eF mD zF) λmY Fx=>af (au er Fx) λfO MO=>af (al 5 fO MO) λpO MP=>af (bD 1 pO mY MP) λmc Jf=>if(lr (some true) (some true) (pS (aq dw kE) kE) (pS (aq dw wG) wG) (pS (aq dw zF) zF)&&true)=true then(λH=>mv (cv 0) H λkS H=>some (kS,H)) Jf else none))
theorem WL (G:ae)(n:Nat)(a0 a1 a2:Value)(H:aa):run G (n+1) 72 [a0,a1,a2] H=F72 (run G n) n a0 a1 a2 H:=by
 unfold run;rw[an (fn:=Tryz.f72) (keep:=[0,1,2,6,18,5,7,29]) (av 72 rfl) (by kernel_rfl) (by kernel_rfl)]
 kernel_rfl
def F79 (C:ae)(n:Nat)(a0 a1:Value)(H:aa):VH:= mv (Value.bool false) H λx0 H=>mv a0 H λx1 H=>af (pS (ai Tryz.prog .geq 3 x1 (cv 1)) H) λx2 H=>mv x2 H λx3 H=>af (gd (ag x3 true) (some (a0,H)) H) λx4 H=>af (gd (ag x3 true) (pS (ai Tryz.prog .leq 3 x4 (cv 5)) H) H) λx5 H=>af (aK x3 x5 (Value.bool false) H) λx6 H=>mv x6 H λx7 H=>af (gd (ag x7 true) (some (a1,H)) H) λx8 H=>af (gd (ag x7 true) (pS (ai Tryz.prog .geq 3 x8 (cv 1)) H) H) λx9 H=>af (aK x7 x9 (Value.bool false) H) λaC H=>mv aC H λaO H=>af (gd (ag aO true) (some (a1,H)) H) λaN H=>af (gd (ag aO true) (pS (ai Tryz.prog .leq 3 aN (cv 65536)) H) H) λaI H=>af (aK aO aI (Value.bool false) H) λaM H=>mv aM H λaT H=>some (aT,H)
theorem WM (G:ae)(n:Nat)(a0 a1:Value)(H:aa):run G (n+1) 79 [a0,a1] H=F79 (run G n) n a0 a1 H:=by
 unfold run;rw[an (fn:=Tryz.f79) (keep:=[0,1,4]) (av 79 rfl) (by kernel_rfl) (by kernel_rfl)]
 kernel_rfl
abbrev kG (vs:List Value)(i:Nat):Value:=sl [0,1,2,6,14,15,7,23,9,8,30,10] vs i
def vz (C:ae)(n:Nat)(v0 v1 v2 v6 bq bY v7 kU v9 v8 v30 v10:Value)(H:aa):VH:= mv v2 H λx4 H=>mv x4 H λx5 H=>some (x5,H)
def FI (C:ae)(n:Nat)(vs:List Value)(H:aa):VH:=vz C n (kG vs 0) (kG vs 1) (kG vs 2) (kG vs 6) (kG vs 14) (kG vs 15) (kG vs 7) (kG vs 23) (kG vs 9) (kG vs 8) (kG vs 30) (kG vs 10) H
theorem DU (C:ae)(n:Nat)(v0 v1 v2 v6 bq bY v7 kU v9 v8 v30 v10:Value)(H:aa):FI C n [v0,v1,v2,v6,bq,bY,v7,kU,v9,v8,v30,v10] H=vz C n v0 v1 v2 v6 bq bY v7 kU v9 v8 v30 v10 H:=by
 kernel_rfl
def Cn (C:ae)(n:Nat)(v0 v1 v2 v6 bq bY v7 kU v9 v8 v30 v10:Value)(H:aa):bn:= mv v9 H λbO H=>mv v8 H λbU H=>af (pS (ai Tryz.prog .lss 3 bO bU) H) λbZ H=>aV bZ (mv v7 H λcE H=>mv v8 H λca H=>mv v9 H λbS H=>af (C 103 [cE,ca,bS] H) λcr H=>mv cr H λcM H=>mv v2 H λbR H=>mv v7 H λcq H=>mv cM H λdC H=>af (pS (aF Tryz.prog 69 [(0,cq),(1,dC)]) H) λbP H=>af (ay Tryz.prog 93 1 [(0,bP)] H) λcj H=>af (de 69 2 16 bR cj H) λdD H=>mv dD H λdr H=>mv v0 H λcU H=>mv v0 H λcw H=>mv cM H λcL H=>af (C 53 [cw,cL] H) λdO H=>mv dr H λdE H=>af (C 81 [cU,dO,dE] H) λdY H=>mv dY H λdI H=>mv v9 H λdp H=>af (pS (ai Tryz.prog .add 3 dp (cv 1)) H) λdv H=>mv dv H λcQ H=>fin .normal [v0,v1,dI,v6,bq,bY,v7,kU,cQ,v8,bZ,cM] H) (fin (.exit 1) [v0,v1,v2,v6,bq,bY,v7,kU,v9,v8,bZ,v10] H)
def NY (C:ae)(n:Nat)(vs:List Value)(H:aa):bn:=Cn C n (kG vs 0) (kG vs 1) (kG vs 2) (kG vs 6) (kG vs 14) (kG vs 15) (kG vs 7) (kG vs 23) (kG vs 9) (kG vs 8) (kG vs 30) (kG vs 10) H
theorem NZ (C:ae)(n:Nat)(v0 v1 v2 v6 bq bY v7 kU v9 v8 v30 v10:Value)(H:aa):NY C n [v0,v1,v2,v6,bq,bY,v7,kU,v9,v8,v30,v10] H=Cn C n v0 v1 v2 v6 bq bY v7 kU v9 v8 v30 v10 H:=by
 kernel_rfl
def F81 (C:ae)(n:Nat)(a0 a1 a2:Value)(H:aa):VH:= mv (Value.slice none 0 0) H λx0 H=>mv a1 H λx1 H=>af (C 83 [x1] H) λx2 H=>mv x2 H λx3 H=>mv a1 H λx6 H=>af (C 57 [x6] H) λx7 H=>af (pS (ai Tryz.prog .eql 3 x7 (cv 4)) H) λx8 H=>mv x8 H λx9 H=>aV x9 (mv a0 H λaC H=>mv a0 H λaO H=>mv x3 H λaN H=>af (C 33 [aO,aN] H) λaI H=>mv a2 H λaM H=>af (C 81 [aC,aI,aM] H) λaT H=>mv aT H λaW H=>some (aW,H)) (af (pS (ai Tryz.prog .eql 3 x7 (cv 3)) H) λbf H=>mv bf H λaU H=>aV aU (mv a0 H λbz H=>mv x3 H λbM H=>af (C 33 [bz,bM] H) λbl H=>mv bl H λbA H=>mv (cv 0) H λbF H=>cd (iter n (NY C n) [a0,a1,a2,x0,x7,x9,x3,aU,bF,bA,undef,undef] H) (dG 1 (dG 0 (dM (FI C n) (dX Tryz.prog [.tmp 6] [0,1,2,6,14,15,7,23,9,8,30,10]))))) (FI C n [a0,a1,a2,x0,x7,x9,x3,aU,undef,undef,undef,undef] H))
theorem WN (G:ae)(n:Nat)(a0 a1 a2:Value)(H:aa):run G (n+1) 81 [a0,a1,a2] H=F81 (run G n) n a0 a1 a2 H:=by
 unfold run;rw[an (fn:=Tryz.f81) (keep:=[0,1,2,6,14,15,7,23,9,8,30,10]) (av 81 rfl) (by kernel_rfl) (by kernel_rfl)]
 kernel_rfl
def ZA (C:ae)(n:Nat)(a0:Value)(H:aa):VH:= mv (cv 0) H λx0 H=>mv a0 H λx1 H=>af (C 89 [x1] H) λx2 H=>af (pS (iG .not x2) H) λx3 H=>aV x3 (mv (cv 0) H λx4 H=>some (x4,H)) (mv a0 H λx5 H=>af (pS (ai Tryz.prog .quo 2 x5 (cv 8)) H) λx6 H=>mv x6 H λx7 H=>some (x7,H))
theorem N0 (G:ae)(n:Nat)(a0:Value)(H:aa):run G (n+1) 83 [a0] H=ZA (run G n) n a0 H:=by
 unfold run;rw[an (fn:=Tryz.f83) (keep:=[0,2,5]) (av 83 rfl) (by kernel_rfl) (by kernel_rfl)]
 kernel_rfl
def F87 (C:ae)(n:Nat)(a0 a1:Value)(H:aa):VH:= mv (Value.slice none 0 0) H λx0 H=>mv a0 H λx1 H=>af (pS (cG x1) H) λx2 H=>mv a1 H λx3 H=>af (pS (ai Tryz.prog .gtr 3 x2 x3) H) λx4 H=>aV x4 (mv a0 H λx5 H=>mv a1 H λx6 H=>af (pS (pJ 1 H x5 none (some x6)) H) λx7 H=>mv x7 H λx8 H=>some (x8,H)) (mv a0 H λx9 H=>mv x9 H λaC H=>some (aC,H))
theorem WO (G:ae)(n:Nat)(a0 a1:Value)(H:aa):run G (n+1) 87 [a0,a1] H=F87 (run G n) n a0 a1 H:=by
 unfold run;rw[an (fn:=Tryz.f87) (keep:=[0,1,4,8]) (av 87 rfl) (by kernel_rfl) (by kernel_rfl)]
 kernel_rfl
def F91 (C:ae)(n:Nat)(a0:Value)(H:aa):VH:= mv (cv 0) H λx0 H=>mv a0 H λx1 H=>af (au x1 H) λx2 H=>af (al 1 x2 H) λx3 H=>af (pS (aq x3 H) H) λx4 H=>mv x4 H λx5 H=>some (x5,H)
theorem WQ (G:ae)(n:Nat)(a0:Value)(H:aa):run G (n+1) 91 [a0] H=F91 (run G n) n a0 H:=by
 unfold run;rw[an (fn:=Tryz.f91) (keep:=[0,2]) (av 91 rfl) (by kernel_rfl) (by kernel_rfl)]
 kernel_rfl
abbrev cH (vs:List Value)(i:Nat):Value:=sl [0,1,4,5,16,8,6,35,9,47,48,7,52,10,59] vs i
def ym (C:ae)(n:Nat)(v0 v1 v4 v5 cC v8 v6 gM v9 zN jJ v7 zh v10 pe:Value)(H:aa):bn:= mv v8 H λcM H=>af (pS (ai Tryz.prog .add 3 cM (cv 1)) H) λbR H=>mv bR H λcq H=>fin .normal [v0,v1,v4,v5,cC,cq,v6,gM,v9,zN,jJ,v7,zh,v10,pe] H
def px (C:ae)(n:Nat)(vs:List Value)(H:aa):bn:=ym C n (cH vs 0) (cH vs 1) (cH vs 4) (cH vs 5) (cH vs 16) (cH vs 8) (cH vs 6) (cH vs 35) (cH vs 9) (cH vs 47) (cH vs 48) (cH vs 7) (cH vs 52) (cH vs 10) (cH vs 59) H
theorem KI (C:ae)(n:Nat)(v0 v1 v4 v5 cC v8 v6 gM v9 zN jJ v7 zh v10 pe:Value)(H:aa):px C n [v0,v1,v4,v5,cC,v8,v6,gM,v9,zN,jJ,v7,zh,v10,pe] H=ym C n v0 v1 v4 v5 cC v8 v6 gM v9 zN jJ v7 zh v10 pe H:=by
 kernel_rfl
def yn (C:ae)(n:Nat)(v0 v1 v4 v5 cC v8 v6 gM v9 zN jJ v7 zh v10 pe:Value)(H:aa):bn:= mv v8 H λbl H=>mv v6 H λbA H=>af (pS (ai Tryz.prog .lss 3 bl bA) H) λbF H=>mv bF H λbO H=>af (gd (ag bO true) (some (v0,H)) H) λbU H=>af (gd (ag bO true) (au bU H) H) λbZ H=>af (gd (ag bO true) (al 2 bZ H) H) λcE H=>af (gd (ag bO true) (pS (aq cE H) H) H) λca H=>af (gd (ag bO true) (pS (iG .not ca) H) H) λbS H=>af (aK bO bS (Value.bool false) H) λcr H=>aV cr (mv v0 H λdC H=>mv v1 H λbP H=>mv v6 H λcj H=>mv v8 H λdD H=>af (C 103 [bP,cj,dD] H) λdr H=>af (C 115 [dC,dr] H) λcU H=>mv cU H λcw H=>mv cw H λcL H=>af (C 83 [cL] H) λdO H=>mv dO H λdE H=>mv cw H λdY H=>af (C 57 [dY] H) λdI H=>af (pS (ai Tryz.prog .eql 3 dI (cv 2)) H) λdp H=>mv dp H λdv H=>aV dv (mv v7 H λcQ H=>af (pS (ai Tryz.prog .add 3 cQ (cv 1)) H) λcx H=>mv cx H λer H=>px C n [v0,v1,v4,v5,cC,v8,v6,cr,cw,dI,dv,er,zh,dE,pe] H) (af (pS (ai Tryz.prog .eql 3 dI (cv 3)) H) λdQ H=>mv dQ H λdR H=>aV dR (mv v7 H λdw H=>mv v0 H λeF H=>mv dE H λeO H=>af (C 121 [eF,eO] H) λdz H=>af (pS (ai Tryz.prog .add 3 dw dz) H) λhZ H=>mv hZ H λdU H=>px C n [v0,v1,v4,v5,cC,v8,v6,cr,cw,dI,dv,dU,dR,dE,pe] H) (af (pS (ai Tryz.prog .eql 3 dI (cv 4)) H) λfh H=>mv fh H λiL H=>aV iL (mv v7 H λfN H=>mv v0 H λeJ H=>mv v0 H λiS H=>mv dE H λjN H=>af (C 139 [iS,jN] H) λiV H=>af (C 83 [iV] H) λeQ H=>af (C 121 [eJ,eQ] H) λjO H=>af (pS (ai Tryz.prog .add 3 fN jO) H) λfC H=>mv fC H λgL H=>px C n [v0,v1,v4,v5,cC,v8,v6,cr,cw,dI,dv,gL,dR,dE,iL] H) (px C n [v0,v1,v4,v5,cC,v8,v6,cr,cw,dI,dv,v7,dR,dE,iL] H)))) (fin (.exit 0) [v0,v1,v4,v5,cC,v8,v6,cr,v9,zN,jJ,v7,zh,v10,pe] H)
def HS (C:ae)(n:Nat)(vs:List Value)(H:aa):bn:=yn C n (cH vs 0) (cH vs 1) (cH vs 4) (cH vs 5) (cH vs 16) (cH vs 8) (cH vs 6) (cH vs 35) (cH vs 9) (cH vs 47) (cH vs 48) (cH vs 7) (cH vs 52) (cH vs 10) (cH vs 59) H
theorem KJ (C:ae)(n:Nat)(v0 v1 v4 v5 cC v8 v6 gM v9 zN jJ v7 zh v10 pe:Value)(H:aa):HS C n [v0,v1,v4,v5,cC,v8,v6,gM,v9,zN,jJ,v7,zh,v10,pe] H=yn C n v0 v1 v4 v5 cC v8 v6 gM v9 zN jJ v7 zh v10 pe H:=by
 kernel_rfl
def yo (C:ae)(n:Nat)(v0 v1 v4 v5 cC v8 v6 gM v9 zN jJ v7 zh v10 pe:Value)(H:aa):VH:= mv v0 H λlA H=>mv v1 H λmC H=>af (pS (ai Tryz.prog .add 3 mC (cv 4)) H) λmD H=>mv v7 H λmY H=>af (pS (ai Tryz.prog .add 3 mY (cv 1)) H) λfO H=>af (C 146 [lA,mD,fO] H) λpO H=>mv v7 H λmc H=>mv mc H λkS H=>some (kS,H)
def HT (C:ae)(n:Nat)(vs:List Value)(H:aa):VH:=yo C n (cH vs 0) (cH vs 1) (cH vs 4) (cH vs 5) (cH vs 16) (cH vs 8) (cH vs 6) (cH vs 35) (cH vs 9) (cH vs 47) (cH vs 48) (cH vs 7) (cH vs 52) (cH vs 10) (cH vs 59) H
theorem KK (C:ae)(n:Nat)(v0 v1 v4 v5 cC v8 v6 gM v9 zN jJ v7 zh v10 pe:Value)(H:aa):HT C n [v0,v1,v4,v5,cC,v8,v6,gM,v9,zN,jJ,v7,zh,v10,pe] H=yo C n v0 v1 v4 v5 cC v8 v6 gM v9 zN jJ v7 zh v10 pe H:=by
 kernel_rfl
def WT (C:ae)(n:Nat)(a0 a1:Value)(H:aa):VH:= mv (cv 0) H λx0 H=>mv a0 H λx1 H=>mv a1 H λx2 H=>af (pS (ai Tryz.prog .add 3 x2 (cv 4)) H) λx3 H=>af (C 139 [x1,x3] H) λx4 H=>mv x4 H λx5 H=>mv x5 H λx6 H=>af (pS (ai Tryz.prog .neq 2 x6 (cv 0)) H) λx7 H=>aV x7 (mv x5 H λx8 H=>af (pS (ai Tryz.prog .sub 2 x8 (cv 1)) H) λx9 H=>mv x9 H λaC H=>some (aC,H)) (mv a0 H λaO H=>mv a1 H λaN H=>af (pS (ai Tryz.prog .add 3 aN (cv 2)) H) λaI H=>af (C 146 [aO,aI,(cv 1)] H) λaM H=>mv a0 H λaT H=>mv a1 H λaW H=>af (C 139 [aT,aW] H) λbf H=>mv bf H λaU H=>mv (cv 0) H λbz H=>mv (cv 0) H λbM H=>cd (iter n (HS C n) [a0,a1,x0,x5,x7,bM,aU,undef,undef,undef,undef,bz,undef,undef,undef] H) (dG 0 (dM (HT C n) (dX Tryz.prog [.tmp 4] [0,1,4,5,16,8,6,35,9,47,48,7,52,10,59]))))
theorem Rv (G:ae)(n:Nat)(a0 a1:Value)(H:aa):run G (n+1) 121 [a0,a1] H=WT (run G n) n a0 a1 H:=by
 unfold run;rw[an (fn:=Tryz.f121) (keep:=[0,1,4,5,16,8,6,35,9,47,48,7,52,10,59]) (av 121 rfl) (by kernel_rfl) (by kernel_rfl)]
 kernel_rfl
abbrev bd (vs:List Value)(i:Nat):Value:=sl [0,1,4,5,6,22,7,8,33,9,10,13,54,61,11,14,16,84,12,15,17,18] vs i
def yq (C:ae)(n:Nat)(v0 v1 v4 v5 v6 js v7 v8 kn v9 v10 aZ jG yr v11 bq cC Co aY bY fE dq:Value)(H:aa):bn:= mv aZ H λer H=>af (pS (ai Tryz.prog .add 3 er (cv 1)) H) λdQ H=>mv dQ H λdR H=>fin .normal [v0,v1,v4,v5,v6,js,v7,v8,kn,v9,v10,dR,jG,yr,v11,bq,cC,Co,aY,bY,fE,dq] H
def HU (C:ae)(n:Nat)(vs:List Value)(H:aa):bn:=yq C n (bd vs 0) (bd vs 1) (bd vs 4) (bd vs 5) (bd vs 6) (bd vs 22) (bd vs 7) (bd vs 8) (bd vs 33) (bd vs 9) (bd vs 10) (bd vs 13) (bd vs 54) (bd vs 61) (bd vs 11) (bd vs 14) (bd vs 16) (bd vs 84) (bd vs 12) (bd vs 15) (bd vs 17) (bd vs 18) H
theorem KN (C:ae)(n:Nat)(v0 v1 v4 v5 v6 js v7 v8 kn v9 v10 aZ jG yr v11 bq cC Co aY bY fE dq:Value)(H:aa):HU C n [v0,v1,v4,v5,v6,js,v7,v8,kn,v9,v10,aZ,jG,yr,v11,bq,cC,Co,aY,bY,fE,dq] H=yq C n v0 v1 v4 v5 v6 js v7 v8 kn v9 v10 aZ jG yr v11 bq cC Co aY bY fE dq H:=by
 kernel_rfl
def yu (C:ae)(n:Nat)(v0 v1 v4 v5 v6 js v7 v8 kn v9 v10 aZ jG yr v11 bq cC Co aY bY fE dq:Value)(H:aa):bn:= mv v0 H λhZ H=>mv v1 H λdU H=>mv bq H λfh H=>mv bq H λiL H=>mv v6 H λfN H=>mv aZ H λeJ H=>af (C 150 [fN,eJ] H) λiS H=>af (pS (ai Tryz.prog .add 3 iL iS) H) λjN H=>af (pS (pJ 2 H dU (some fh) (some jN)) H) λiV H=>af (C 123 [hZ,iV] H) λeQ H=>mv eQ H λjO H=>af (cg 0 jO H) λfC H=>af (cg 1 jO H) λgL H=>mv fC H λlA H=>mv gL H λmC H=>mv mC H λmD H=>af (pS (iG .not mD) H) λmY H=>aV mY (mv (cv 0) H λfO H=>mv (Value.bool false) H λpO H=>fin .ret [v0,v1,fO,pO,v6,js,v7,v8,kn,v9,v10,aZ,jG,yr,v11,bq,mC,mY,aY,lA,fE,dq] H) (mv aY H λmc H=>mv lA H λkS H=>af (ay Tryz.prog 42 1 [(0,kS)] H) λsD H=>af (de 2 1 8 mc sD H) λiM H=>mv iM H λln H=>HU C n [v0,v1,v4,v5,v6,js,v7,v8,kn,v9,v10,aZ,jG,yr,v11,bq,mC,mY,ln,lA,fE,dq] H)
def vA (C:ae)(n:Nat)(vs:List Value)(H:aa):bn:=yu C n (bd vs 0) (bd vs 1) (bd vs 4) (bd vs 5) (bd vs 6) (bd vs 22) (bd vs 7) (bd vs 8) (bd vs 33) (bd vs 9) (bd vs 10) (bd vs 13) (bd vs 54) (bd vs 61) (bd vs 11) (bd vs 14) (bd vs 16) (bd vs 84) (bd vs 12) (bd vs 15) (bd vs 17) (bd vs 18) H
theorem KP (C:ae)(n:Nat)(v0 v1 v4 v5 v6 js v7 v8 kn v9 v10 aZ jG yr v11 bq cC Co aY bY fE dq:Value)(H:aa):vA C n [v0,v1,v4,v5,v6,js,v7,v8,kn,v9,v10,aZ,jG,yr,v11,bq,cC,Co,aY,bY,fE,dq] H=yu C n v0 v1 v4 v5 v6 js v7 v8 kn v9 v10 aZ jG yr v11 bq cC Co aY bY fE dq H:=by
 kernel_rfl
def yv (C:ae)(n:Nat)(v0 v1 v4 v5 v6 js v7 v8 kn v9 v10 aZ jG yr v11 bq cC Co aY bY fE dq:Value)(H:aa):bn:= mv aZ H λdp H=>mv v6 H λdv H=>af (C 148 [dv] H) λcQ H=>af (pS (ai Tryz.prog .lss 3 dp cQ) H) λcx H=>aV cx (mv v6 H λdw H=>mv aZ H λeF H=>af (C 149 [dw,eF] H) λeO H=>mv eO H λdz H=>mv aZ H λsE H=>af (pS (ai Tryz.prog .gtr 3 sE (cv 0)) H) λml H=>aV ml (mv v11 H λu6 H=>mv v1 H λoF H=>mv dz H λzG H=>af (cK 2 oF zG H) λwH H=>af (al 0 wH H) λAs H=>af (pS (aq As H) H) λfD H=>af (ay Tryz.prog 42 1 [(0,fD)] H) λzH H=>af (de 2 1 8 u6 zH H) λCZ H=>mv CZ H λzf H=>vA C n [v0,v1,v4,v5,v6,js,v7,v8,kn,v9,v10,aZ,cx,ml,zf,dz,cC,Co,aY,bY,fE,dq] H) (vA C n [v0,v1,v4,v5,v6,js,v7,v8,kn,v9,v10,aZ,cx,ml,v11,dz,cC,Co,aY,bY,fE,dq] H)) (fin (.exit 0) [v0,v1,v4,v5,v6,js,v7,v8,kn,v9,v10,aZ,cx,yr,v11,bq,cC,Co,aY,bY,fE,dq] H)
def HV (C:ae)(n:Nat)(vs:List Value)(H:aa):bn:=yv C n (bd vs 0) (bd vs 1) (bd vs 4) (bd vs 5) (bd vs 6) (bd vs 22) (bd vs 7) (bd vs 8) (bd vs 33) (bd vs 9) (bd vs 10) (bd vs 13) (bd vs 54) (bd vs 61) (bd vs 11) (bd vs 14) (bd vs 16) (bd vs 84) (bd vs 12) (bd vs 15) (bd vs 17) (bd vs 18) H
theorem KR (C:ae)(n:Nat)(v0 v1 v4 v5 v6 js v7 v8 kn v9 v10 aZ jG yr v11 bq cC Co aY bY fE dq:Value)(H:aa):HV C n [v0,v1,v4,v5,v6,js,v7,v8,kn,v9,v10,aZ,jG,yr,v11,bq,cC,Co,aY,bY,fE,dq] H=yv C n v0 v1 v4 v5 v6 js v7 v8 kn v9 v10 aZ jG yr v11 bq cC Co aY bY fE dq H:=by
 kernel_rfl
def yw (C:ae)(n:Nat)(v0 v1 v4 v5 v6 js v7 v8 kn v9 v10 aZ jG yr v11 bq cC Co aY bY fE dq:Value)(H:aa):VH:= mv v0 H λGG H=>mv v6 H λwV H=>mv v11 H λJt H=>mv aY H λFB H=>af (C 131 [wV,Jt,FB] H) λBN H=>af (C 141 [GG,BN] H) λMW H=>mv MW H λLU H=>af (cg 0 LU H) λC0 H=>af (cg 1 LU H) λBO H=>mv C0 H λBV H=>mv BO H λnd H=>mv BV H λga H=>af (C 59 [(cv 3),ga] H) λQy H=>mv nd H λDO H=>mv Qy H λzL H=>mv DO H λNa H=>some (Value.tuple #[zL,Na],H)
def HW (C:ae)(n:Nat)(vs:List Value)(H:aa):VH:=yw C n (bd vs 0) (bd vs 1) (bd vs 4) (bd vs 5) (bd vs 6) (bd vs 22) (bd vs 7) (bd vs 8) (bd vs 33) (bd vs 9) (bd vs 10) (bd vs 13) (bd vs 54) (bd vs 61) (bd vs 11) (bd vs 14) (bd vs 16) (bd vs 84) (bd vs 12) (bd vs 15) (bd vs 17) (bd vs 18) H
theorem KS (C:ae)(n:Nat)(v0 v1 v4 v5 v6 js v7 v8 kn v9 v10 aZ jG yr v11 bq cC Co aY bY fE dq:Value)(H:aa):HW C n [v0,v1,v4,v5,v6,js,v7,v8,kn,v9,v10,aZ,jG,yr,v11,bq,cC,Co,aY,bY,fE,dq] H=yw C n v0 v1 v4 v5 v6 js v7 v8 kn v9 v10 aZ jG yr v11 bq cC Co aY bY fE dq H:=by
 kernel_rfl
def WU (C:ae)(n:Nat)(a0 a1:Value)(H:aa):VH:= mv (cv 0) H λx0 H=>mv (Value.bool false) H λx1 H=>mv a1 H λx2 H=>af (pS (cG x2) H) λx3 H=>mv x3 H λx4 H=>mv x4 H λx5 H=>af (pS (ai Tryz.prog .eql 3 x5 (cv 0)) H) λx6 H=>aV x6 (mv a0 H λx7 H=>af (C 36 [] H) λx8 H=>af (C 141 [x7,x8] H) λx9 H=>mv x9 H λaC H=>af (cg 0 aC H) λaO H=>af (cg 1 aC H) λaN H=>mv aO H λaI H=>mv aN H λaM H=>mv aI H λaT H=>af (C 59 [(cv 1),aT] H) λaW H=>mv aM H λbf H=>mv aW H λaU H=>mv bf H λbz H=>some (Value.tuple #[aU,bz],H)) (mv x4 H λbM H=>af (pS (ai Tryz.prog .eql 3 bM (cv 1)) H) λbl H=>aV bl (mv a0 H λbA H=>mv a1 H λbF H=>af (cK 2 bF (cv 0) H) λbO H=>af (al 0 bO H) λbU H=>af (pS (aq bU H) H) λbZ H=>mv a1 H λcE H=>af (cK 2 cE (cv 0) H) λca H=>af (al 1 ca H) λbS H=>af (pS (aq bS H) H) λcr H=>af (C 147 [bZ,cr] H) λcM H=>af (C 141 [bA,cM] H) λbR H=>mv bR H λcq H=>af (cg 0 cq H) λdC H=>af (cg 1 cq H) λbP H=>mv dC H λcj H=>mv bP H λdD H=>mv cj H λdr H=>af (C 59 [(cv 2),dr] H) λcU H=>mv dD H λcw H=>mv cU H λcL H=>mv cw H λdO H=>some (Value.tuple #[cL,dO],H)) (mv (Value.slice none 0 0) H λdE H=>mv (Value.slice none 0 0) H λdY H=>mv (cv 0) H λdI H=>cd (iter n (HV C n) [a0,a1,x0,x1,x4,x6,undef,undef,bl,undef,undef,dI,undef,undef,dE,undef,undef,undef,dY,undef,undef,undef] H) (dG 0 (dM (HW C n) (dX Tryz.prog [.tmp 4,.tmp 5] [0,1,4,5,6,22,7,8,33,9,10,13,54,61,11,14,16,84,12,15,17,18])))))
theorem Rw (G:ae)(n:Nat)(a0 a1:Value)(H:aa):run G (n+1) 123 [a0,a1] H=WU (run G n) n a0 a1 H:=by
 unfold run;rw[an (fn:=Tryz.f123) (keep:=[0,1,4,5,6,22,7,8,33,9,10,13,54,61,11,14,16,84,12,15,17,18]) (av 123 rfl) (by kernel_rfl) (by kernel_rfl)]
 kernel_rfl
def WV (C:ae)(n:Nat)(a0 a1 a2:Value)(H:aa):VH:= mv (Value.bool false) H λx0 H=>mv a2 H λx1 H=>af (C 83 [x1] H) λx2 H=>mv x2 H λx3 H=>mv a2 H λx4 H=>af (C 57 [x4] H) λx5 H=>af (pS (ai Tryz.prog .eql 3 x5 (cv 2)) H) λx6 H=>mv x6 H λx7 H=>aV x7 (mv a0 H λx8 H=>mv a1 H λx9 H=>mv x3 H λaC H=>af (C 163 [x8,x9,aC] H) λaO H=>mv aO H λaN H=>some (aN,H)) (af (pS (ai Tryz.prog .eql 3 x5 (cv 3)) H) λaI H=>mv aI H λaM H=>aV aM (mv a0 H λaT H=>mv a1 H λaW H=>mv x3 H λbf H=>af (C 119 [aT,aW,bf] H) λaU H=>mv aU H λbz H=>some (bz,H)) (af (pS (ai Tryz.prog .eql 3 x5 (cv 4)) H) λbM H=>mv bM H λbl H=>aV bl (mv a0 H λbA H=>mv a1 H λbF H=>mv a1 H λbO H=>mv x3 H λbU H=>af (C 139 [bO,bU] H) λbZ H=>af (C 83 [bZ] H) λcE H=>af (C 119 [bA,bF,cE] H) λca H=>mv ca H λbS H=>some (bS,H)) (mv (Value.bool false) H λcr H=>some (cr,H))))
theorem Rx (G:ae)(n:Nat)(a0 a1 a2:Value)(H:aa):run G (n+1) 145 [a0,a1,a2] H=WV (run G n) n a0 a1 a2 H:=by
 unfold run;rw[an (fn:=Tryz.f145) (keep:=[0,1,2,6,11,12,7,18,24]) (av 145 rfl) (by kernel_rfl) (by kernel_rfl)]
 kernel_rfl
def WW (C:ae)(n:Nat)(a0 a1:Value)(H:aa):VH:= af (dH 39 a0 H) λx0 H=>af (some (aS H 47 1 [(cv 0),(Value.bool false),(cv 0),(cv 0),(cv 0),(Value.slice none 0 0)])) λx1 H=>af (al 0 x0 H) λx2 H=>af (pS (aq x2 H) H) λx3 H=>af (pS (ai Tryz.prog .eql 3 x3 (cv 9)) H) λx4 H=>aV x4 (mv a1 H λx5 H=>af (pS (aF Tryz.prog 47 [(4,x5)]) H) λx6 H=>af (bD 6 x1 x6 H) λx7 H=>af (pS (cZ 6 x1 H) H) λr0 _=>some (r0,H)) (af (al 0 x0 H) λx8 H=>af (pS (aq x8 H) H) λx9 H=>af (pS (ai Tryz.prog .eql 3 x9 (cv 10)) H) λaC H=>aV aC (mv a1 H λaO H=>af (pS (cG aO) H) λaN H=>af (pS (aF Tryz.prog 47 [(3,aN)]) H) λaI H=>af (bD 6 x1 aI H) λaM H=>af (pS (cZ 6 x1 H) H) λr0 _=>some (r0,H)) (mv a1 H λaT H=>af (pS (cG aT) H) λaW H=>af (pS (ai Tryz.prog .eql 3 aW (cv 0)) H) λbf H=>aV bf (af (pS (aF Tryz.prog 47 []) H) λaU H=>af (bD 6 x1 aU H) λbz H=>af (pS (cZ 6 x1 H) H) λr0 _=>some (r0,H)) (mv a1 H λbM H=>af (cK 2 bM (cv 0) H) λbl H=>af (pS (cZ 2 bl H) H) λbA H=>af (pS (aF Tryz.prog 47 [(1,(Value.bool true)),(2,bA)]) H) λbF H=>af (bD 6 x1 bF H) λbO H=>af (pS (cZ 6 x1 H) H) λr0 _=>some (r0,H))))
theorem Ry (G:ae)(n:Nat)(a0 a1:Value)(H:aa):run G (n+1) 158 [a0,a1] H=WW (run G n) n a0 a1 H:=by
 unfold run;rw[an (fn:=Tryz.f158) (keep:=[0,1,4,2,7,12,18]) (av 158 rfl) (by kernel_rfl) (by kernel_rfl)]
 kernel_rfl
def WX (C:ae)(n:Nat)(H:aa):VH:= af (some (aS H 47 1 [(cv 0),(Value.bool false),(cv 0),(cv 0),(cv 0),(Value.slice none 0 0)])) λx0 H=>af (pS (aF Tryz.prog 47 [(0,(cv 8))]) H) λx1 H=>af (bD 6 x0 x1 H) λx2 H=>af (pS (cZ 6 x0 H) H) λr0 _=>some (r0,H)
theorem Rz (G:ae)(n:Nat)(H:aa):run G (n+1) 166 [] H=WX (run G n) n H:=by
 unfold run;rw[an (fn:=Tryz.f166) (keep:=[0]) (av 166 rfl) (by kernel_rfl) (by kernel_rfl)]
 kernel_rfl
abbrev jv (vs:List Value)(i:Nat):Value:=sl [0,1,2,3,4,5,12,13,7,22,14,15,16,17,52,18,61,19] vs i
def yx (C:ae)(n:Nat)(v0 v1 v2 v3 v4 v5 aY aZ v7 js bq bY cC fE zh dq yr gu:Value)(H:aa):VH:= mv v0 H λdQ H=>mv v3 H λdR H=>af (al 1 v7 H) λdw H=>af (pS (aq dw H) H) λeF H=>af (MN dR eF H) λeO H=>af (ay Tryz.prog 42 1 [(0,eO)] H) λdz H=>mv gu H λhZ H=>af (C 131 [(cv 2),dz,hZ] H) λdU H=>af (C 141 [dQ,dU] H) λfh H=>mv fh H λiL H=>af (cg 0 iL H) λfN H=>af (cg 1 iL H) λeJ H=>mv fN H λiS H=>mv eJ H λjN H=>mv iS H λiV H=>af (C 59 [(cv 3),iV] H) λeQ H=>mv jN H λjO H=>mv eQ H λfC H=>mv jO H λgL H=>some (Value.tuple #[fC,gL],H)
def vB (C:ae)(n:Nat)(vs:List Value)(H:aa):VH:=yx C n (jv vs 0) (jv vs 1) (jv vs 2) (jv vs 3) (jv vs 4) (jv vs 5) (jv vs 12) (jv vs 13) (jv vs 7) (jv vs 22) (jv vs 14) (jv vs 15) (jv vs 16) (jv vs 17) (jv vs 52) (jv vs 18) (jv vs 61) (jv vs 19) H
theorem KT (C:ae)(n:Nat)(v0 v1 v2 v3 v4 v5 aY aZ v7 js bq bY cC fE zh dq yr gu:Value)(H:aa):vB C n [v0,v1,v2,v3,v4,v5,aY,aZ,v7,js,bq,bY,cC,fE,zh,dq,yr,gu] H=yx C n v0 v1 v2 v3 v4 v5 aY aZ v7 js bq bY cC fE zh dq yr gu H:=by
 kernel_rfl
def WY (C:ae)(n:Nat)(a0 a1 a2 a3 a4 a5:Value)(H:aa):VH:= af (dH 39 a1 H) λx0 H=>mv (cv 0) H λx1 H=>mv (Value.bool false) H λx2 H=>af (al 0 x0 H) λx3 H=>af (pS (aq x3 H) H) λx4 H=>af (pS (ai Tryz.prog .eql 3 x4 (cv 3)) H) λx5 H=>aV x5 (mv a0 H λx6 H=>af (C 36 [] H) λx7 H=>af (C 141 [x6,x7] H) λx8 H=>mv x8 H λx9 H=>af (cg 0 x9 H) λaC H=>af (cg 1 x9 H) λaO H=>mv aC H λaN H=>mv aO H λaI H=>mv aN H λaM H=>af (C 59 [(cv 1),aM] H) λaT H=>mv aI H λaW H=>mv aT H λbf H=>mv aW H λaU H=>some (Value.tuple #[bf,aU],H)) (mv a0 H λbz H=>af (al 1 x0 H) λbM H=>af (pS (aq bM H) H) λbl H=>af (al 2 x0 H) λbA H=>af (pS (aq bA H) H) λbF H=>af (C 147 [bl,bF] H) λbO H=>af (C 141 [bz,bO] H) λbU H=>mv bU H λbZ H=>af (cg 0 bZ H) λcE H=>af (cg 1 bZ H) λca H=>mv cE H λbS H=>mv ca H λcr H=>mv bS H λcM H=>af (C 59 [(cv 2),cM] H) λbR H=>mv bR H λcq H=>mv cr H λdC H=>af (pS (iG .not dC) H) λbP H=>mv bP H λcj H=>af (gd (ag cj false) (some (a4,H)) H) λdD H=>af (gd (ag cj false) (pS (iG .not dD) H) H) λdr H=>af (aK cj (Value.bool true) dr H) λcU H=>mv cU H λcw H=>af (gd (ag cw false) (some (a5,H)) H) λcL H=>af (aK cw (Value.bool true) cL H) λdO H=>aV dO (mv cq H λdE H=>mv cr H λdY H=>mv dE H λdI H=>mv dY H λdp H=>some (Value.tuple #[dI,dp],H)) (mv a2 H λdv H=>mv cq H λcQ H=>af (ay Tryz.prog 42 2 [(0,dv),(1,cQ)] H) λcx H=>mv cx H λer H=>af (al 1 x0 H) λlA H=>af (pS (aq lA H) H) λmC H=>mv a3 H λmD H=>af (pS (ai Tryz.prog .lss 2 mC mD) H) λmY H=>aV mY (mv cq H λfO H=>mv a2 H λpO H=>af (ay Tryz.prog 42 2 [(0,fO),(1,pO)] H) λmc H=>mv mc H λkS H=>vB C n [a0,a1,a2,a3,a4,a5,x1,x2,x0,x5,undef,undef,bS,cr,dO,cq,mY,kS] H) (vB C n [a0,a1,a2,a3,a4,a5,x1,x2,x0,x5,undef,undef,bS,cr,dO,cq,mY,er] H)))
theorem RA (G:ae)(n:Nat)(a0 a1 a2 a3 a4 a5:Value)(H:aa):run G (n+1) 169 [a0,a1,a2,a3,a4,a5] H=WY (run G n) n a0 a1 a2 a3 a4 a5 H:=by
 unfold run;rw[an (fn:=Tryz.f169) (keep:=[0,1,2,3,4,5,12,13,7,22,14,15,16,17,52,18,61,19]) (av 169 rfl) (by kernel_rfl) (by kernel_rfl)]
 kernel_rfl
end Go.Proofs.YtgfgglponbmgmaaGreat.Fun
end
section
open Go.RowKit
namespace Go.Proofs.YtgfgglponbmgmaaGreatA.Am
variable {P:Program} {μ:Mu} {H H':aa} {w:World} {B:Nat}
theorem cJ.below {w':World}(h:cJ P μ H w B)(b:Below w.heap.size w w'):cJ P μ H w' B:=
 ⟨Nat.le_trans h.base b.size,λi c hi=>by
  obtain⟨l,hl,hb⟩:=h.ok i c hi;exact⟨l,hl,hb.heap (b.block _ hb.lt)⟩,h.Bf,h.inj,h.own,h.dT.keep μ.le_refl (λ_ _ h=>h) (λk x hk _=>(b.block _ (Array.getElem?_eq_some_iff.1 hk).1).trans hk),h.vN⟩
theorem DV {bad:List FuncId}{m:Nat}{k:FuncId}{Hk:aa}(eA:mK P bad=true)(hk:gr P bad LS m k [] []=some (.bool true,Hk))(B:Nat)(H:aa):
  (∃fn,P.funcs[k]? =some fn∧fn.body.isSome=true∧(fn.name== "runtime.NumGoroutine")=false)∧Bw P B k [] H (.bool true) H:=by
 have gB:k<P.funcs.size:=DE (cJ.empty default) (λ_ h=>by simp[LS] at h) hk
 refine⟨(((oD (B:=0) eA (G:=LS) DF (λf args H v H' _ h=>by simp[LS] at h) m).told k [] [] _ Hk hk).1 gB).1,?_⟩
 intro μ w fe hS ha;have hs:=oD (B:=w.heap.size) eA (G:=LS) DF (λf args H v H' _ h=>by simp[LS] at h) m |>.told k [] [] _ Hk hk
 have ha0:fe=[]:=by
  have:=ha.1
  simpa using this.symm
 subst ha0;refine((hs.1 gB).2 _ w [] (cJ.empty w) .nil).mono ?_;rintro e w' ⟨v',μ',rfl,_,hv,_,hb⟩;rw[hv.bool];exact⟨_,μ,rfl,μ.le_refl,.plain _ rfl,hS.below hb.below,⟨hb.below.mono hS.base,hb.loops,hb.YJ,hb.size⟩⟩
def qC (ks:List FuncId):ae:=λf args H=>if ks.contains f=true∧args.isEmpty=true then some (.bool true,H) else none
theorem DW {ks:List FuncId}:gE (qC ks):=λf args H i b hf v H' h=>by
 unfold qC at h ⊢;split at h
 ·rename_i hc;cases h;rw[if_pos hc];exact⟨hf,rfl⟩
 ·cases h
theorem yy {bad ks:List FuncId}{m n:Nat}{f:FuncId}{args fe:List Value}(eA:mK P bad=true)(acd:mK P (ks++bad)=true)(hk:(ks.all λk=>(gr P bad LS m k [] []).any λr=>pG r.1 (.bool true))=true)(h:gr P (ks++bad) (qC ks) n f args H=some (.bool true,H'))(hS:cJ P μ H w w.heap.size)(ha:cT μ args fe):
  Calls P f fe.toArray w λe w'=>e= .returned (.bool true)∧Below w.heap.size w w':=by
 have hG: ∀f1 HX H1 v1 PI,(ks++bad).contains f1=true→qC ks f1 HX H1=some (v1,PI)→
   (∃fn,P.funcs[f1]? =some fn∧fn.body.isSome=true∧(fn.name== "runtime.NumGoroutine")=false)∧Bw P w.heap.size f1 HX H1 v1 PI:=λf1 HX H1 v1 PI _ h1=>by
  unfold qC at h1;split at h1
  ·rename_i h2;obtain⟨h3,h2⟩:=h2;have h2:HX=[]:=by simpa using h2
   subst h2;cases h1;have hm:=List.all_eq_true.1 hk f1 (by simpa using h3)
   cases hr:gr P bad LS m f1 [] [] with
   |none=>rw[hr] at hm;simp at hm
   |some r=>
    obtain⟨v,Hk⟩:=r;rw[hr] at hm;have hv:v= .bool true:=by
     simp only[Option.any_some,pG] at hm;cases v<;>simp_all [Bc]
    subst hv;exact DV eA hr _ _
  ·cases h1
 have hs:=(oD (B:=w.heap.size) acd DW hG n).told f args H _ H' h;have gB:f<P.funcs.size:=DE hS (λhb h=>by
  obtain⟨⟨fn,ze,_⟩,_⟩:=hG _ _ _ _ _ hb h;exact(Array.getElem?_eq_some_iff.1 ze).1) h
 refine((hs.1 gB).2 μ w fe hS ha).mono ?_;rintro e w' ⟨v',μ',rfl,_,hv,_,hb⟩;exact⟨by rw[hv.bool],hb.below⟩
theorem get_none {i:Nat}:aa.get (H++[.dead]) i=H.get i:=by
 unfold aa.get;by_cases h:i<H.length
 ·rw[List.getElem?_append_left h]
 ·rw[List.getElem?_append_right (by omega),List.getElem?_eq_none (show H.length≤i by omega)]
  by_cases h2:i-H.length=0
  ·rw[h2];rfl
  ·rw[List.getElem?_eq_none (by simp;omega)]
theorem N1 {i:Nat}:aa.dT (H++[.dead]) i=H.dT i:=by
 unfold aa.dT;by_cases h:i<H.length
 ·rw[List.getElem?_append_left h]
 ·rw[List.getElem?_append_right (by omega),List.getElem?_eq_none (show H.length≤i by omega)]
  by_cases h2:i-H.length=0
  ·rw[h2];rfl
  ·rw[List.getElem?_eq_none (by simp;omega)]
theorem cJ.none (h:cJ P μ H w B)(jk: ∀i b,H.get i=some b→b.ro=true)(a:Addr):
  cJ P μ (H++[.dead]) w B∧(∀i b,aa.get (H++[.dead]) i=some b→b.ro=true)∧VR μ (.slice (some ⟨H.length,0,none⟩) 0 0) (.slice (some a) 0 0):=by
 refine⟨⟨h.base,λi b hb=>h.ok i b (by rwa [get_none] at hb),λi hi=>h.Bf i (by simp at hi;omega),λi j b c l m hb hc=>?_,λi b l hb=>?_,h.dT.keep μ.le_refl (λi o hi=>by rwa [N1] at hi) (λ_ _ h _=>h),λk hk=>h.vN k (by
  by_cases e:k<H.length
  ·rwa [List.getElem?_append_left e] at hk
  ·have hl:=(List.getElem?_eq_some_iff.1 hk).1;have:k=H.length:=by simp at hl;omega
   subst this;simp at hk)⟩,λi b hb=>jk i b (by rwa [get_none] at hb),.lU _ _ _⟩
 ·rw[get_none] at hb hc;exact h.inj i j b c l m hb hc
 ·rw[get_none] at hb;exact h.own i b l hb
end Go.Proofs.YtgfgglponbmgmaaGreatA.Am
end
