/- Texts of the proof of linearCut_holds, put together by a small program of ours (names shortened, spaces taken out). No condition beyond the given statement. -/
import Derived.Test.YtjgmnoaalbbonaaGreatLCT14
import Derived.Test.YtjgmnoaalbbonaaGreatLCT11
import Derived.Test.YtjgmnoaalbbonaaGreatLCT13
set_option linter.unusedVariables false
set_option linter.unusedSimpArgs false
set_option linter.unnecessarySimpa false
noncomputable section
section
namespace Go.Proofs.YtjgmnoaalbbonaaGreat.Fun
open Go.RowKit Go.Proofs.YtjgmnoaalbbonaaGreatA.Am
set_option maxRecDepth 10000
def Zl (C:ae)(n:Nat)(a0 a1:Value)(H:aa):VH:= af (cO 47 a1 H) λx0 H=>mv (Value.bool false) H λx1 H=>af (al 0 x0 H) λx2 H=>af (pS (aq x2 H) H) λx3 H=>af (pS (ai Tryz.prog .eql 3 x3 (cv 4)) H) λx4 H=>mv x4 H λx5 H=>aR x5 (mv a0 H λx6 H=>af (pS (cK 13 x0 H) H) λx7 H=>af (C 27 [x6,x7] H) λx8 H=>mv x8 H λx9 H=>some (x9,H)) (af (pS (ai Tryz.prog .eql 3 x3 (cv 1)) H) λaG H=>mv aG H λaN H=>aR aN (mv a0 H λaK H=>af (pS (cK 13 x0 H) H) λaJ H=>af (C 28 [aK,aJ] H) λaP H=>mv aP H λaT H=>some (aT,H)) (af (pS (ai Tryz.prog .eql 3 x3 (cv 2)) H) λaX H=>mv aX H λaU H=>aR aU (mv a0 H λbn H=>af (pS (cK 13 x0 H) H) λbF H=>af (C 29 [bn,bF] H) λcd H=>mv cd H λbg H=>some (bg,H)) (af (pS (ai Tryz.prog .eql 3 x3 (cv 3)) H) λbG H=>mv bG H λbQ H=>aR bQ (mv a0 H λbW H=>af (pS (cK 13 x0 H) H) λcx H=>af (C 30 [bW,cx] H) λcB H=>mv cB H λcC H=>some (cC,H)) (mv (Value.bool false) H λcH H=>some (cH,H)))))
theorem Xw (G:ae)(n:Nat)(a0 a1:Value)(H:aa):run G (n+1) 15 [a0,a1] H=Zl (run G n) n a0 a1 H:=by
 unfold run;rw[ao (fn:=Tryz.f15) (keep:=[0,1,4,3,6,7,12,17,22]) (ar 15 rfl) (by kernel_rfl) (by kernel_rfl)]
 kernel_rfl
abbrev Sa (vs:List Value)(i:Nat):Value:=sl [0,2,3,8] vs i
def Dm (C:ae)(n:Nat)(v0 v2 v3 v8:Value)(H:aa):VH:= mv v0 H λx5 H=>af (pS (ai Tryz.prog .quo 3 x5 (cv 14)) H) λx6 H=>mv x6 H λx7 H=>mv v3 H λx8 H=>mv x7 H λx9 H=>af (C 9 [x9,(cv 41)] H) λaG H=>af (pS (ai Tryz.prog .sub 3 aG (cv 10)) H) λaN H=>mv x7 H λaK H=>af (pS (ai Tryz.prog .quo 3 aK (cv 41)) H) λaJ H=>af (C 9 [aJ,(cv 50)] H) λaP H=>af (pS (aE Tryz.prog 39 [(0,x8),(1,aN),(2,aP)]) H) λaT H=>af (bS 3 v2 aT H) λaX H=>af (pS (cK 3 v2 H) H) λr0 _=>some (r0,H)
def Dn (C:ae)(n:Nat)(vs:List Value)(H:aa):VH:=Dm C n (Sa vs 0) (Sa vs 2) (Sa vs 3) (Sa vs 8) H
theorem OR (C:ae)(n:Nat)(v0 v2 v3 v8:Value)(H:aa):Dn C n [v0,v2,v3,v8] H=Dm C n v0 v2 v3 v8 H:=by
 kernel_rfl
def F23 (C:ae)(n:Nat)(a0:Value)(H:aa):VH:= af (some (aO H 39 1 [(cv 0),(cv 0),(cv 0)])) λx0 H=>mv a0 H λx1 H=>af (C 9 [x1,(cv 14)] H) λx2 H=>af (pS (ai Tryz.prog .add 3 (cv 1) x2) H) λx3 H=>mv x3 H λx4 H=>mv x4 H λaU H=>af (pS (ai Tryz.prog .gtr 3 aU (cv 10)) H) λbn H=>aR bn (mv x4 H λbF H=>af (C 9 [bF,(cv 3)] H) λcd H=>af (pS (ai Tryz.prog .add 3 (cv 1) cd) H) λbg H=>mv bg H λbG H=>Dn C n [a0,x0,bG,bn] H) (Dn C n [a0,x0,x4,bn] H)
theorem Xx (G:ae)(n:Nat)(a0:Value)(H:aa):run G (n+1) 23 [a0] H=F23 (run G n) n a0 H:=by
 unfold run;rw[ao (fn:=Tryz.f23) (keep:=[0,2,3,8]) (ar 23 rfl) (by kernel_rfl) (by kernel_rfl)]
 kernel_rfl
abbrev lP (vs:List Value)(i:Nat):Value:=sl [0,2,3,11,10,12,9,5,6,28,4] vs i
def qn (C:ae)(n:Nat)(v0 v2 v3 v11 v10 bp v9 v5 v6 kS v4:Value)(H:aa):aV:= af (pS (ai Tryz.prog .lss 3 v11 v10) H) λx8 H=>aR x8 (mv v11 H λx9 H=>af (cq 2 v9 v11 H) λaG H=>af (pS (cK 2 aG H) H) λaN H=>af (some (aO H 42 1 [(cv 0),(cv 0)])) λaK H=>mv x9 H λaJ H=>af (bS 2 aK aN H) λaP H=>mv aJ H λaT H=>af (pS (ai Tryz.prog .gtr 3 aT (cv 0)) H) λaX H=>mv aX H λaU H=>af (gd (ag aU true) (al 0 aK H) H) λbn H=>af (gd (ag aU true) (pS (aq bn H) H) H) λbF H=>af (gd (ag aU true) (some (v0,H)) H) λcd H=>af (gd (ag aU true) (some (aJ,H)) H) λbg H=>af (gd (ag aU true) (pS (ai Tryz.prog .sub 3 bg (cv 1)) H) H) λbG H=>af (gd (ag aU true) (cq 2 cd bG H) H) λbQ H=>af (gd (ag aU true) (al 0 bQ H) H) λbW H=>af (gd (ag aU true) (pS (aq bW H) H) H) λcx H=>af (gd (ag aU true) (pS (ai Tryz.prog .leq 2 bF cx) H) H) λcB H=>af (aI aU cB (Value.bool false) H) λcC H=>aR cC (mv (Value.pointer none) H λcH H=>mv (Value.bool false) H λcy H=>fin .ret [v0,cH,cy,v11,v10,x8,v9,aJ,aK,cC,v4] H) (mv v4 H λcU H=>af (al 0 aK H) λdP H=>af (pS (aq dP H) H) λcr H=>af (al 1 aK H) λcM H=>af (pS (aq cM H) H) λdE H=>af (C 46 [cU,cr,dE] H) λbN H=>af (pS (ai Tryz.prog .add 3 v11 (cv 1)) H) λcY H=>mv cY H λdF H=>fin .normal [v0,v2,v3,dF,v10,x8,v9,aJ,aK,cC,v4] H)) (fin (.exit 0) [v0,v2,v3,v11,v10,x8,v9,v5,v6,kS,v4] H)
def GZ (C:ae)(n:Nat)(vs:List Value)(H:aa):aV:=qn C n (lP vs 0) (lP vs 2) (lP vs 3) (lP vs 11) (lP vs 10) (lP vs 12) (lP vs 9) (lP vs 5) (lP vs 6) (lP vs 28) (lP vs 4) H
theorem tv (C:ae)(n:Nat)(v0 v2 v3 v11 v10 bp v9 v5 v6 kS v4:Value)(H:aa):GZ C n [v0,v2,v3,v11,v10,bp,v9,v5,v6,kS,v4] H=qn C n v0 v2 v3 v11 v10 bp v9 v5 v6 kS v4 H:=by
 kernel_rfl
def Dp (C:ae)(n:Nat)(v0 v2 v3 v11 v10 bp v9 v5 v6 kS v4:Value)(H:aa):VH:= mv v4 H λdJ H=>mv dJ H λdz H=>mv (Value.bool true) H λcS H=>some (Value.tuple #[dz,cS],H)
def OS (C:ae)(n:Nat)(vs:List Value)(H:aa):VH:=Dp C n (lP vs 0) (lP vs 2) (lP vs 3) (lP vs 11) (lP vs 10) (lP vs 12) (lP vs 9) (lP vs 5) (lP vs 6) (lP vs 28) (lP vs 4) H
theorem OT (C:ae)(n:Nat)(v0 v2 v3 v11 v10 bp v9 v5 v6 kS v4:Value)(H:aa):OS C n [v0,v2,v3,v11,v10,bp,v9,v5,v6,kS,v4] H=Dp C n v0 v2 v3 v11 v10 bp v9 v5 v6 kS v4 H:=by
 kernel_rfl
def F25 (C:ae)(n:Nat)(a0:Value)(H:aa):VH:= mv (Value.pointer none) H λx0 H=>mv (Value.bool false) H λx1 H=>af (pS (aE Tryz.prog 54 []) H) λx2 H=>af (cO 54 x2 H) λx3 H=>mv x3 H λx4 H=>mv a0 H λx5 H=>af (pS (cw x5) H) λx6 H=>mv (cv 0) H λx7 H=>cN (iter n (GZ C n) [a0,x0,x1,x7,x6,undef,x5,undef,undef,undef,x4] H) (dK 0 (dT (OS C n) (eG Tryz.prog [.tmp 2,.tmp 3] [0,2,3,11,10,12,9,5,6,28,4])))
theorem Xy (G:ae)(n:Nat)(a0:Value)(H:aa):run G (n+1) 25 [a0] H=F25 (run G n) n a0 H:=by
 unfold run;rw[ao (fn:=Tryz.f25) (keep:=[0,2,3,11,10,12,9,5,6,28,4]) (ar 25 rfl) (by kernel_rfl) (by kernel_rfl)]
 kernel_rfl
abbrev G0 (vs:List Value)(i:Nat):Value:=sl [0,1,4,3,9,15,5] vs i
def wi (C:ae)(n:Nat)(v0 v1 v4 v3 v9 dy v5:Value)(H:aa):VH:= mv v5 H λaN H=>mv aN H λaK H=>some (aK,H)
def G1 (C:ae)(n:Nat)(vs:List Value)(H:aa):VH:=wi C n (G0 vs 0) (G0 vs 1) (G0 vs 4) (G0 vs 3) (G0 vs 9) (G0 vs 15) (G0 vs 5) H
theorem ET (C:ae)(n:Nat)(v0 v1 v4 v3 v9 dy v5:Value)(H:aa):G1 C n [v0,v1,v4,v3,v9,dy,v5] H=wi C n v0 v1 v4 v3 v9 dy v5 H:=by
 kernel_rfl
def F55 (C:ae)(n:Nat)(a0 a1:Value)(H:aa):VH:= af (cO 39 a1 H) λx0 H=>mv (Value.pointer none) H λx1 H=>mv a0 H λx2 H=>af (pS (cK 3 x0 H) H) λx3 H=>af (C 54 [x2,x3] H) λx4 H=>af (pS (hZ .not x4) H) λx5 H=>aR x5 (mv a0 H λx6 H=>mv x6 H λx7 H=>some (x7,H)) (mv a0 H λx8 H=>af (C 80 [x8] H) λx9 H=>mv x9 H λaG H=>af (al 0 x0 H) λaJ H=>af (pS (aq aJ H) H) λaP H=>af (pS (ai Tryz.prog .eql 3 aP (cv 3)) H) λaT H=>aR aT (mv aG H λaX H=>af (al 1 x0 H) λaU H=>af (pS (aq aU H) H) λbn H=>af (C 81 [aX,bn] H) λbF H=>G1 C n [a0,a1,x1,x0,x5,aT,aG] H) (mv aG H λcd H=>af (al 1 x0 H) λbg H=>af (pS (aq bg H) H) λbG H=>af (al 2 x0 H) λbQ H=>af (pS (aq bQ H) H) λbW H=>af (C 46 [cd,bG,bW] H) λcx H=>G1 C n [a0,a1,x1,x0,x5,aT,aG] H))
theorem Xz (G:ae)(n:Nat)(a0 a1:Value)(H:aa):run G (n+1) 55 [a0,a1] H=F55 (run G n) n a0 a1 H:=by
 unfold run;rw[ao (fn:=Tryz.f55) (keep:=[0,1,4,3,9,15,5]) (ar 55 rfl) (by kernel_rfl) (by kernel_rfl)]
 kernel_rfl
def XA (C:ae)(n:Nat)(H:aa):VH:= mv (Value.slice none 0 0) H λx0 H=>af (au Tryz.prog 52 1 [(0,(cv 0))] H) λx1 H=>mv x1 H λx2 H=>some (x2,H)
theorem G2 (G:ae)(n:Nat)(H:aa):run G (n+1) 64 [] H=XA (run G n) n H:=by
 unfold run;rw[ao (fn:=Tryz.f64) (keep:=[0]) (ar 64 rfl) (by kernel_rfl) (by kernel_rfl)]
 kernel_rfl
def F92 (C:ae)(n:Nat)(a0:Value)(H:aa):VH:= mv (cv 0) H λx0 H=>mv a0 H λx1 H=>af (C 112 [x1] H) λx2 H=>af (pS (hZ .not x2) H) λx3 H=>aR x3 (mv (cv 0) H λx4 H=>some (x4,H)) (mv a0 H λx5 H=>af (pS (ai Tryz.prog .rem 2 x5 (cv 8)) H) λx6 H=>mv x6 H λx7 H=>some (x7,H))
theorem OU (G:ae)(n:Nat)(a0:Value)(H:aa):run G (n+1) 92 [a0] H=F92 (run G n) n a0 H:=by
 unfold run;rw[ao (fn:=Tryz.f92) (keep:=[0,2,5]) (ar 92 rfl) (by kernel_rfl) (by kernel_rfl)]
 kernel_rfl
def F95 (C:ae)(n:Nat)(a0:Value)(H:aa):VH:= mv (cv 0) H λx0 H=>mv a0 H λx1 H=>af (pS (ai Tryz.prog .lss 3 x1 (cv 2)) H) λx2 H=>mv x2 H λx3 H=>af (gd (ag x3 false) (some (a0,H)) H) λx4 H=>af (gd (ag x3 false) (pS (ai Tryz.prog .gtr 3 x4 (cv 16384)) H) H) λx5 H=>af (aI x3 (Value.bool true) x5 H) λx6 H=>aR x6 (mv (cv 0) H λx7 H=>some (x7,H)) (mv a0 H λx8 H=>af (C 114 [x8] H) λx9 H=>af (Nd (cv 2) x9 H) λaG H=>mv aG H λaN H=>some (aN,H))
theorem XB (G:ae)(n:Nat)(a0:Value)(H:aa):run G (n+1) 95 [a0] H=F95 (run G n) n a0 H:=by
 unfold run;rw[ao (fn:=Tryz.f95) (keep:=[0,2,8]) (ar 95 rfl) (by kernel_rfl) (by kernel_rfl)]
 kernel_rfl
def aaB (C:ae)(n:Nat)(a0 a1:Value)(H:aa):VH:= mv (Value.bool false) H λx0 H=>mv a0 H λx1 H=>af (C 117 [x1] H) λx2 H=>mv x2 H λx3 H=>af (gd (ag x3 true) (some (a1,H)) H) λx4 H=>af (gd (ag x3 true) (C 117 [x4] H) H) λx5 H=>af (gd (ag x3 true) (pS (hZ .not x5) H) H) λx6 H=>af (aI x3 x6 (Value.bool false) H) λx7 H=>mv x7 H λx8 H=>af (gd (ag x8 false) (some (a0,H)) H) λx9 H=>af (gd (ag x8 false) (some (a1,H)) H) λaG H=>af (gd (ag x8 false) (pS (ai Tryz.prog .lss 2 x9 aG) H) H) λaN H=>af (aI x8 (Value.bool true) aN H) λaK H=>mv aK H λaJ H=>some (aJ,H)
theorem Sb (G:ae)(n:Nat)(a0 a1:Value)(H:aa):run G (n+1) 101 [a0,a1] H=aaB (run G n) n a0 a1 H:=by
 unfold run;rw[ao (fn:=Tryz.f101) (keep:=[0,1,4]) (ar 101 rfl) (by kernel_rfl) (by kernel_rfl)]
 kernel_rfl
def aaC (C:ae)(n:Nat)(a0 a1 a2:Value)(H:aa):VH:= mv (Value.slice none 0 0) H λx0 H=>mv a0 H λx1 H=>mv a1 H λx2 H=>mv a2 H λx3 H=>mv a0 H λx4 H=>af (pS (cw x4) H) λx5 H=>af (pS (Tz 1 H x1 (some x2) (some x3) x5) H) λx6 H=>mv a1 H λx7 H=>mv a2 H λx8 H=>af (pS (ai Tryz.prog .eql 3 x7 x8) H) λx9 H=>aR x9 (mv a0 H λaG H=>mv aG H λaN H=>some (aN,H)) (mv a0 H λaK H=>af (pS (cw aK) H) λaJ H=>mv aJ H λaP H=>mv a0 H λaT H=>mv a1 H λaX H=>af (pS (eo 1 H aT none (some aX)) H) λaU H=>mv a0 H λbn H=>mv a2 H λbF H=>af (pS (eo 1 H bn (some bF) none) H) λcd H=>af (cg 2 1 8 aU cd H) λbg H=>mv bg H λbG H=>mv bG H λbQ H=>mv bG H λbW H=>af (pS (cw bW) H) λcx H=>mv aP H λcB H=>af (pS (eo 1 H bQ (some cx) (some cB)) H) λcC H=>af (UQ [(cv 0)] cC H) λcH H=>mv bG H λcy H=>mv cy H λcU H=>some (cU,H))
theorem Sc (G:ae)(n:Nat)(a0 a1 a2:Value)(H:aa):run G (n+1) 108 [a0,a1,a2] H=aaC (run G n) n a0 a1 a2 H:=by
 unfold run;rw[ao (fn:=Tryz.f108) (keep:=[0,1,2,6,16,7]) (ar 108 rfl) (by kernel_rfl) (by kernel_rfl)]
 kernel_rfl
abbrev kM (vs:List Value)(i:Nat):Value:=sl [0,1,4,8,7,9,5,16] vs i
def pJ (C:ae)(n:Nat)(v0 v1 v4 v8 v7 v9 v5 bZ:Value)(H:aa):aV:= af (pS (ai Tryz.prog .lss 3 v8 v7) H) λx4 H=>aR x4 (mv v8 H λx5 H=>mv x5 H λx6 H=>mv v1 H λx7 H=>mv v0 H λx8 H=>mv x6 H λx9 H=>af (cq 1 x8 x9 H) λaG H=>af (pS (aq aG H) H) λaN H=>af (Al Tryz.prog.funcs.size C x7 [aN] H) λaK H=>aR aK (mv x6 H λaJ H=>mv aJ H λaP H=>fin .ret [v0,v1,aP,v8,v7,x4,x6,aK] H) (af (pS (ai Tryz.prog .add 3 v8 (cv 1)) H) λaT H=>mv aT H λaX H=>fin .normal [v0,v1,v4,aX,v7,x4,x6,aK] H)) (fin (.exit 0) [v0,v1,v4,v8,v7,x4,v5,bZ] H)
def Dq (C:ae)(n:Nat)(vs:List Value)(H:aa):aV:=pJ C n (kM vs 0) (kM vs 1) (kM vs 4) (kM vs 8) (kM vs 7) (kM vs 9) (kM vs 5) (kM vs 16) H
theorem uB (C:ae)(n:Nat)(v0 v1 v4 v8 v7 v9 v5 bZ:Value)(H:aa):Dq C n [v0,v1,v4,v8,v7,v9,v5,bZ] H=pJ C n v0 v1 v4 v8 v7 v9 v5 bZ H:=by
 kernel_rfl
def ze (C:ae)(n:Nat)(v0 v1 v4 v8 v7 v9 v5 bZ:Value)(H:aa):VH:= mv (cv (-1)) H λaU H=>some (aU,H)
def ID (C:ae)(n:Nat)(vs:List Value)(H:aa):VH:=ze C n (kM vs 0) (kM vs 1) (kM vs 4) (kM vs 8) (kM vs 7) (kM vs 9) (kM vs 5) (kM vs 16) H
theorem Lg (C:ae)(n:Nat)(v0 v1 v4 v8 v7 v9 v5 bZ:Value)(H:aa):ID C n [v0,v1,v4,v8,v7,v9,v5,bZ] H=ze C n v0 v1 v4 v8 v7 v9 v5 bZ H:=by
 kernel_rfl
def XC (C:ae)(n:Nat)(a0 a1:Value)(H:aa):VH:= mv (cv 0) H λx0 H=>mv a0 H λx1 H=>af (pS (cw x1) H) λx2 H=>mv (cv 0) H λx3 H=>cN (iter n (Dq C n) [a0,a1,x0,x3,x2,undef,undef,undef] H) (dK 0 (dT (ID C n) (eG Tryz.prog [.tmp 4] [0,1,4,8,7,9,5,16])))
theorem Sd (G:ae)(n:Nat)(a0 a1:Value)(H:aa):run G (n+1) 110 [a0,a1] H=XC (run G n) n a0 a1 H:=by
 unfold run;rw[ao (fn:=Tryz.f110) (keep:=[0,1,4,8,7,9,5,16]) (ar 110 rfl) (by kernel_rfl) (by kernel_rfl)]
 kernel_rfl
def XD (C:ae)(n:Nat)(a0 a1 a2 a3 a4:Value)(H:aa):VH:= mv (Value.bool false) H λx0 H=>mv a1 H λx1 H=>af (C 91 [x1] H) λx2 H=>mv x2 H λx3 H=>mv a1 H λx4 H=>af (C 92 [x4] H) λx5 H=>af (pS (ai Tryz.prog .eql 3 x5 (cv 1)) H) λx6 H=>mv x6 H λx7 H=>aR x7 (mv a0 H λx8 H=>mv x3 H λx9 H=>mv a4 H λaG H=>af (C 120 [x8,x9,(cv 1),aG] H) λaN H=>mv aN H λaK H=>some (aK,H)) (af (pS (ai Tryz.prog .eql 3 x5 (cv 2)) H) λaJ H=>mv aJ H λaP H=>aR aP (mv a0 H λaT H=>mv x3 H λaX H=>mv a4 H λaU H=>af (C 120 [aT,aX,(cv 2),aU] H) λbn H=>mv bn H λbF H=>af (gd (ag bF true) (some (a0,H)) H) λcd H=>af (gd (ag bF true) (some (x3,H)) H) λbg H=>af (gd (ag bF true) (C 93 [cd,bg] H) H) λbG H=>af (gd (ag bF true) (some (a2,H)) H) λbQ H=>af (gd (ag bF true) (pS (ai Tryz.prog .geq 2 bG bQ) H) H) λbW H=>af (aI bF bW (Value.bool false) H) λcx H=>mv cx H λcB H=>af (gd (ag cB true) (some (a0,H)) H) λcC H=>af (gd (ag cB true) (some (x3,H)) H) λcH H=>af (gd (ag cB true) (C 93 [cC,cH] H) H) λcy H=>af (gd (ag cB true) (some (a3,H)) H) λcU H=>af (gd (ag cB true) (pS (ai Tryz.prog .leq 2 cy cU) H) H) λdP H=>af (aI cB dP (Value.bool false) H) λcr H=>mv cr H λcM H=>some (cM,H)) (af (pS (ai Tryz.prog .eql 3 x5 (cv 3)) H) λdE H=>mv dE H λbN H=>aR bN (mv a0 H λcY H=>mv x3 H λdF H=>mv a2 H λdJ H=>mv a3 H λdz H=>mv a4 H λcS H=>af (C 121 [cY,dF,dJ,dz,cS] H) λdM H=>mv dM H λff H=>some (ff,H)) (af (pS (ai Tryz.prog .eql 3 x5 (cv 4)) H) λeD H=>mv eD H λeE H=>aR eE (mv a0 H λdQ H=>mv x3 H λdD H=>af (C 93 [dQ,dD] H) λef H=>mv ef H λdN H=>mv a0 H λdO H=>mv x3 H λeV H=>mv a4 H λdW H=>af (C 120 [dO,eV,(cv 5),dW] H) λeS H=>mv eS H λeJ H=>af (gd (ag eJ true) (some (dN,H)) H) λfq H=>af (gd (ag eJ true) (C 92 [fq] H) H) λfM H=>af (gd (ag eJ true) (pS (ai Tryz.prog .eql 3 fM (cv 3)) H) H) λeU H=>af (aI eJ eU (Value.bool false) H) λgF H=>mv gF H λfE H=>af (gd (ag fE true) (some (a0,H)) H) λiA H=>af (gd (ag fE true) (some (dN,H)) H) λjs H=>af (gd (ag fE true) (some (a2,H)) H) λiG H=>af (gd (ag fE true) (some (a3,H)) H) λfw H=>af (gd (ag fE true) (some (a4,H)) H) λij H=>af (gd (ag fE true) (C 111 [iA,js,iG,fw,ij] H) H) λku H=>af (aI fE ku (Value.bool false) H) λjG H=>mv jG H λgv H=>some (gv,H)) (mv (Value.bool false) H λlM H=>some (lM,H)))))
theorem Se (G:ae)(n:Nat)(a0 a1 a2 a3 a4:Value)(H:aa):run G (n+1) 111 [a0,a1,a2,a3,a4] H=XD (run G n) n a0 a1 a2 a3 a4 H:=by
 unfold run;rw[ao (fn:=Tryz.f111) (keep:=[0,1,2,3,4,10,16,17,11,23,43,51,12]) (ar 111 rfl) (by kernel_rfl) (by kernel_rfl)]
 kernel_rfl
abbrev me (vs:List Value)(i:Nat):Value:=sl [0,1,2,3,4,10,12,26,11,13,38,42,14,52] vs i
def zf (C:ae)(n:Nat)(v0 v1 v2 v3 v4 v10 bp GM v11 aZ tT v42 cp zY:Value)(H:aa):VH:= mv v0 H λcr H=>mv v11 H λcM H=>af (pS (ai Tryz.prog .add 3 cM (cv 4)) H) λdE H=>mv cp H λbN H=>af (C 147 [cr,dE,(cv 0),bN] H) λcY H=>mv v0 H λdF H=>mv v11 H λdJ H=>af (pS (ai Tryz.prog .add 3 dJ (cv 4)) H) λdz H=>af (C 146 [dF,dz] H) λcS H=>af (pS (ai Tryz.prog .eql 2 cS (cv 1)) H) λdM H=>aR dM (mv v0 H λff H=>mv v2 H λeD H=>mv aZ H λeE H=>mv v4 H λdQ H=>af (C 147 [ff,eD,eE,dQ] H) λdD H=>mv (cv 1) H λef H=>some (ef,H)) (mv v0 H λdN H=>mv v2 H λdO H=>mv aZ H λeV H=>mv v3 H λdW H=>af (C 147 [dN,dO,eV,dW] H) λeS H=>mv (cv 2) H λeJ H=>some (eJ,H))
def Dr (C:ae)(n:Nat)(vs:List Value)(H:aa):VH:=zf C n (me vs 0) (me vs 1) (me vs 2) (me vs 3) (me vs 4) (me vs 10) (me vs 12) (me vs 26) (me vs 11) (me vs 13) (me vs 38) (me vs 42) (me vs 14) (me vs 52) H
theorem Lh (C:ae)(n:Nat)(v0 v1 v2 v3 v4 v10 bp GM v11 aZ tT v42 cp zY:Value)(H:aa):Dr C n [v0,v1,v2,v3,v4,v10,bp,GM,v11,aZ,tT,v42,cp,zY] H=zf C n v0 v1 v2 v3 v4 v10 bp GM v11 aZ tT v42 cp zY H:=by
 kernel_rfl
def XE (C:ae)(n:Nat)(a0 a1 a2 a3 a4:Value)(H:aa):VH:= mv (cv 0) H λx0 H=>mv a0 H λx1 H=>mv a1 H λx2 H=>mv a2 H λx3 H=>mv a3 H λx4 H=>mv a4 H λx5 H=>af (C 149 [x2,x3,x4,x5] H) λx6 H=>af (C 148 [x1,x6] H) λx7 H=>mv x7 H λx8 H=>af (bP 0 x8 H) λx9 H=>af (bP 1 x8 H) λaG H=>mv x9 H λaN H=>mv aG H λaK H=>mv aK H λaJ H=>af (pS (hZ .not aJ) H) λaP H=>aR aP (mv (cv 3) H λaT H=>some (aT,H)) (mv a0 H λaX H=>mv aN H λaU H=>af (aA aX H) λbn H=>af (al 8 bn H) λbF H=>af (bS 1 bF aU H) λcd H=>mv aN H λbg H=>af (C 63 [(cv 5),bg] H) λbG H=>mv bG H λbQ H=>mv a0 H λbW H=>mv a2 H λcx H=>mv a3 H λcB H=>mv bQ H λcC H=>af (C 147 [bW,cx,cB,cC] H) λcH H=>af (pS (hZ .not cH) H) λcy H=>aR cy (mv (cv 0) H λcU H=>some (cU,H)) (mv (cv 1) H λdP H=>mv a0 H λfq H=>mv a1 H λfM H=>af (C 146 [fq,fM] H) λeU H=>af (pS (ai Tryz.prog .neq 2 eU (cv 0)) H) λgF H=>aR gF (mv (cv 2) H λfE H=>Dr C n [a0,a1,a2,a3,a4,x0,aK,aP,aN,bQ,cy,gF,fE,undef] H) (Dr C n [a0,a1,a2,a3,a4,x0,aK,aP,aN,bQ,cy,gF,dP,undef] H)))
theorem Sf (G:ae)(n:Nat)(a0 a1 a2 a3 a4:Value)(H:aa):run G (n+1) 133 [a0,a1,a2,a3,a4] H=XE (run G n) n a0 a1 a2 a3 a4 H:=by
 unfold run;rw[ao (fn:=Tryz.f133) (keep:=[0,1,2,3,4,10,12,26,11,13,38,42,14,52]) (ar 133 rfl) (by kernel_rfl) (by kernel_rfl)]
 kernel_rfl
abbrev dp (vs:List Value)(i:Nat):Value:=sl [0,1,2,6,19,7,35,8,9,10,46,11,62,66,80,99] vs i
def zg (C:ae)(n:Nat)(v0 v1 v2 v6 gY v7 fU v8 v9 v10 rI v11 oU lG EU EV:Value)(H:aa):VH:= mv (Value.bool true) H λaT H=>some (aT,H)
def IE (C:ae)(n:Nat)(vs:List Value)(H:aa):VH:=zg C n (dp vs 0) (dp vs 1) (dp vs 2) (dp vs 6) (dp vs 19) (dp vs 7) (dp vs 35) (dp vs 8) (dp vs 9) (dp vs 10) (dp vs 46) (dp vs 11) (dp vs 62) (dp vs 66) (dp vs 80) (dp vs 99) H
theorem Li (C:ae)(n:Nat)(v0 v1 v2 v6 gY v7 fU v8 v9 v10 rI v11 oU lG EU EV:Value)(H:aa):IE C n [v0,v1,v2,v6,gY,v7,fU,v8,v9,v10,rI,v11,oU,lG,EU,EV] H=zg C n v0 v1 v2 v6 gY v7 fU v8 v9 v10 rI v11 oU lG EU EV H:=by
 kernel_rfl
def zh (C:ae)(n:Nat)(v0 v1 v2 v6 gY v7 fU v8 v9 v10 rI v11 oU lG EU EV:Value)(H:aa):aV:= mv v1 H λaX H=>af (aA aX H) λaU H=>af (al 2 aU H) λbn H=>af (pS (aq bn H) H) λbF H=>af (pS (hZ .not bF) H) λcd H=>aR cd (mv v2 H λbg H=>mv v8 H λbG H=>mv v9 H λbQ H=>af (C 94 [bg,bG,bQ] H) λbW H=>mv bW H λcx H=>mv v1 H λcB H=>mv cx H λcC H=>af (C 130 [cB,cC] H) λcH H=>mv cH H λcy H=>mv v1 H λcU H=>af (aA cU H) λdP H=>af (al 2 dP H) λcr H=>af (pS (aq cr H) H) λcM H=>aR cM (fin (.exit 0) [v0,v1,v2,v6,gY,v7,cd,v8,v9,cx,cM,cy,oU,lG,EU,EV] H) (mv v0 H λdE H=>mv v0 H λbN H=>af (aA bN H) λcY H=>af (al 6 cY H) λdF H=>af (pS (aq dF H) H) λdJ H=>mv cx H λdz H=>mv cy H λcS H=>af (pS (aE Tryz.prog 205 [(0,dz),(1,cS)]) H) λdM H=>af (au Tryz.prog 133 1 [(0,dM)] H) λff H=>af (cg 205 2 16 dJ ff H) λeD H=>af (aA dE H) λeE H=>af (al 6 eE H) λdQ H=>af (bS 1 dQ eD H) λdD H=>mv v0 H λef H=>mv v1 H λdN H=>mv cy H λdO H=>af (C 152 [ef,dN,dO] H) λeV H=>aR eV (mv (Value.bool true) H λdW H=>fin .ret [v0,v1,v2,dW,gY,v7,cd,v8,v9,cx,cM,cy,eV,lG,EU,EV] H) (mv v0 H λeS H=>af (aA eS H) λeJ H=>af (al 2 eJ H) λfq H=>af (pS (aq fq H) H) λfM H=>aR fM (mv v9 H λeU j8=>af (pS (ai Tryz.prog .eql 3 eU (cv 0)) j8) λgF sX=>af (some (gF,sX)) λfE mD=>af (gd (ag fE false) (some (v1,mD)) mD) λiA qJ=>af (gd (ag fE false) (some (v2,qJ)) qJ) λjs sY=>af (gd (ag fE false) (some (v9,sY)) sY) λiG lH=>af (gd (ag fE false) (C 129 [js,iG] lH) lH) λfw jH=>af (gd (ag fE false) (C 146 [iA,fw] jH) jH) λij oN=>af (gd (ag fE false) (some (v0,oN)) oN) λku nS=>af (gd (ag fE false) (aA ku nS) nS) λjG mW=>af (gd (ag fE false) (al 0 jG mW) mW) λgv pH=>af (gd (ag fE false) (pS (aq gv pH) pH) pH) λlM Av=>af (gd (ag fE false) (pS (ai Tryz.prog .leq 2 ij lM) Av) Av) λjg CI=>af (aI fE (Value.bool true) jg CI) λjh Aw=>if(kD (ag fE false) (ag fE false) (pS (aq gv pH) pH) (pS (aq gv lH) lH) (pS (aq gv jH) jH)&&(kD (ag fE false) (ag fE false) (pS (aq gv pH) pH) (pS (aq gv jH) jH) (pS (aq gv oN) oN)&&true))=true then(λH=>aR jh (mv (Value.bool false) H λjB H=>fin .ret [v0,v1,v2,jB,gY,v7,cd,v8,v9,cx,cM,cy,eV,fM,jh,EV] H) (mv v9 H λoK H=>af (pS (ai Tryz.prog .sub 3 oK (cv 1)) H) λlJ H=>mv lJ H λqV H=>fin .normal [v0,v1,v2,v6,gY,v7,cd,v8,qV,cx,cM,cy,eV,fM,jh,EV] H)) Aw else none) (mv v9 H λic H=>af (pS (ai Tryz.prog .add 3 ic (cv 1)) H) λmy H=>mv my H λoH H=>mv oH H λmF EL=>af (some (v8,EL)) λvp NW=>af (pS (ai Tryz.prog .eql 3 mF vp) NW) λmG NY=>af (some (mG,NY)) λkY xZ=>af (gd (ag kY false) (some (v1,xZ)) xZ) λBq GL=>af (gd (ag kY false) (some (v2,GL)) GL) λvR Kc=>af (gd (ag kY false) (some (oH,Kc)) Kc) λxO At=>af (gd (ag kY false) (C 129 [vR,xO] At) At) λrH Ax=>af (gd (ag kY false) (C 146 [Bq,rH] Ax) Ax) λtR Kd=>af (gd (ag kY false) (some (v0,Kd)) Kd) λCy Q8=>af (gd (ag kY false) (aA Cy Q8) Q8) λBr Q9=>af (gd (ag kY false) (al 1 Br Q9) Q9) λiN CJ=>af (gd (ag kY false) (pS (aq iN CJ) CJ) CJ) λAp aaD=>af (gd (ag kY false) (pS (ai Tryz.prog .gtr 2 tR Ap) aaD) aaD) λFD acq=>af (aI kY (Value.bool true) FD acq) λqF acr=>if(kD (ag kY false) (ag kY false) (pS (aq iN CJ) CJ) (pS (aq iN At) At) (pS (aq iN Ax) Ax)&&(kD (ag kY false) (ag kY false) (pS (aq iN CJ) CJ) (pS (aq iN Ax) Ax) (pS (aq iN Kd) Kd)&&true))=true then(λH=>aR qF (mv (Value.bool false) H λJR H=>fin .ret [v0,v1,v2,JR,gY,v7,cd,v8,oH,cx,cM,cy,eV,fM,EU,qF] H) (fin .normal [v0,v1,v2,v6,gY,v7,cd,v8,oH,cx,cM,cy,eV,fM,EU,qF] H)) acr else none)))) (fin (.exit 0) [v0,v1,v2,v6,gY,v7,cd,v8,v9,v10,rI,v11,oU,lG,EU,EV] H)
def IF (C:ae)(n:Nat)(vs:List Value)(H:aa):aV:=zh C n (dp vs 0) (dp vs 1) (dp vs 2) (dp vs 6) (dp vs 19) (dp vs 7) (dp vs 35) (dp vs 8) (dp vs 9) (dp vs 10) (dp vs 46) (dp vs 11) (dp vs 62) (dp vs 66) (dp vs 80) (dp vs 99) H
theorem Lj (C:ae)(n:Nat)(v0 v1 v2 v6 gY v7 fU v8 v9 v10 rI v11 oU lG EU EV:Value)(H:aa):IF C n [v0,v1,v2,v6,gY,v7,fU,v8,v9,v10,rI,v11,oU,lG,EU,EV] H=zh C n v0 v1 v2 v6 gY v7 fU v8 v9 v10 rI v11 oU lG EU EV H:=by
 kernel_rfl
def zi (C:ae)(n:Nat)(v0 v1 v2 v6 gY v7 fU v8 v9 v10 rI v11 oU lG EU EV:Value)(H:aa):VH:= mv v1 H λx6 H=>mv v2 H λx7 H=>mv v7 H λx8 H=>af (C 134 [x6,x7,x8] H) λx9 H=>mv x9 H λaG H=>af (bP 0 aG H) λaN H=>af (bP 1 aG H) λaK H=>mv aN H λaJ H=>mv aK H λaP H=>cN (iter n (IF C n) [v0,v1,v2,v6,gY,v7,fU,aJ,aP,v10,rI,v11,oU,lG,EU,EV] H) (dK 0 (dT (IE C n) (eG Tryz.prog [.tmp 6] [0,1,2,6,19,7,35,8,9,10,46,11,62,66,80,99])))
def wj (C:ae)(n:Nat)(vs:List Value)(H:aa):VH:=zi C n (dp vs 0) (dp vs 1) (dp vs 2) (dp vs 6) (dp vs 19) (dp vs 7) (dp vs 35) (dp vs 8) (dp vs 9) (dp vs 10) (dp vs 46) (dp vs 11) (dp vs 62) (dp vs 66) (dp vs 80) (dp vs 99) H
theorem Lk (C:ae)(n:Nat)(v0 v1 v2 v6 gY v7 fU v8 v9 v10 rI v11 oU lG EU EV:Value)(H:aa):wj C n [v0,v1,v2,v6,gY,v7,fU,v8,v9,v10,rI,v11,oU,lG,EU,EV] H=zi C n v0 v1 v2 v6 gY v7 fU v8 v9 v10 rI v11 oU lG EU EV H:=by
 kernel_rfl
def XF (C:ae)(n:Nat)(a0 a1 a2:Value)(H:aa):VH:= mv (Value.bool false) H λx0 H=>mv a0 H λx1 H=>af (aA x1 H) λx2 H=>af (al 0 x2 H) λx3 H=>af (pS (aq x3 H) H) λx4 H=>mv x4 H λx5 H=>mv a0 H λxP H=>af (aA xP H) λJS H=>af (al 2 JS H) λGC H=>af (pS (aq GC H) H) λCz H=>aR Cz (mv a0 H λvS H=>af (aA vS H) λJU H=>af (al 1 JU H) λCB H=>af (pS (aq CB H) H) λxR H=>mv xR H λAq H=>wj C n [a0,a1,a2,x0,Cz,Aq,undef,undef,undef,undef,undef,undef,undef,undef,undef,undef] H) (wj C n [a0,a1,a2,x0,Cz,x5,undef,undef,undef,undef,undef,undef,undef,undef,undef,undef] H)
theorem Sg (G:ae)(n:Nat)(a0 a1 a2:Value)(H:aa):run G (n+1) 136 [a0,a1,a2] H=XF (run G n) n a0 a1 a2 H:=by
 unfold run;rw[ao (fn:=Tryz.f136) (keep:=[0,1,2,6,19,7,35,8,9,10,46,11,62,66,80,99]) (ar 136 rfl) (by kernel_rfl) (by kernel_rfl)]
 kernel_rfl
abbrev dw (vs:List Value)(i:Nat):Value:=sl [0,1,4,5,16,8,6,35,9,47,48,7,52,10,59] vs i
def zj (C:ae)(n:Nat)(v0 v1 v4 v5 bZ v8 v6 fU v9 AA ke v7 zY v10 G3:Value)(H:aa):aV:= mv v8 H λdP H=>af (pS (ai Tryz.prog .add 3 dP (cv 1)) H) λcr H=>mv cr H λcM H=>fin .normal [v0,v1,v4,v5,bZ,cM,v6,fU,v9,AA,ke,v7,zY,v10,G3] H
def tw (C:ae)(n:Nat)(vs:List Value)(H:aa):aV:=zj C n (dw vs 0) (dw vs 1) (dw vs 4) (dw vs 5) (dw vs 16) (dw vs 8) (dw vs 6) (dw vs 35) (dw vs 9) (dw vs 47) (dw vs 48) (dw vs 7) (dw vs 52) (dw vs 10) (dw vs 59) H
theorem Ll (C:ae)(n:Nat)(v0 v1 v4 v5 bZ v8 v6 fU v9 AA ke v7 zY v10 G3:Value)(H:aa):tw C n [v0,v1,v4,v5,bZ,v8,v6,fU,v9,AA,ke,v7,zY,v10,G3] H=zj C n v0 v1 v4 v5 bZ v8 v6 fU v9 AA ke v7 zY v10 G3 H:=by
 kernel_rfl
def zm (C:ae)(n:Nat)(v0 v1 v4 v5 bZ v8 v6 fU v9 AA ke v7 zY v10 G3:Value)(H:aa):aV:= mv v8 H λbg H=>mv v6 H λbG H=>af (pS (ai Tryz.prog .lss 3 bg bG) H) λbQ H=>mv bQ H λbW H=>af (gd (ag bW true) (some (v0,H)) H) λcx H=>af (gd (ag bW true) (aA cx H) H) λcB H=>af (gd (ag bW true) (al 2 cB H) H) λcC H=>af (gd (ag bW true) (pS (aq cC H) H) H) λcH H=>af (gd (ag bW true) (pS (hZ .not cH) H) H) λcy H=>af (aI bW cy (Value.bool false) H) λcU H=>aR cU (mv v0 H λdE H=>mv v1 H λbN H=>mv v6 H λcY H=>mv v8 H λdF H=>af (C 94 [bN,cY,dF] H) λdJ H=>af (C 132 [dE,dJ] H) λdz H=>mv dz H λcS H=>mv cS H λdM H=>af (C 91 [dM] H) λff H=>mv ff H λeD H=>mv cS H λeE H=>af (C 92 [eE] H) λdQ H=>af (pS (ai Tryz.prog .eql 3 dQ (cv 2)) H) λdD H=>mv dD H λef H=>aR ef (mv v7 H λdN H=>af (pS (ai Tryz.prog .add 3 dN (cv 1)) H) λdO H=>mv dO H λeV H=>tw C n [v0,v1,v4,v5,bZ,v8,v6,cU,cS,dQ,ef,eV,zY,eD,G3] H) (af (pS (ai Tryz.prog .eql 3 dQ (cv 3)) H) λdW H=>mv dW H λeS H=>aR eS (mv v7 H λeJ H=>mv v0 H λfq H=>mv eD H λfM H=>af (C 138 [fq,fM] H) λeU H=>af (pS (ai Tryz.prog .add 3 eJ eU) H) λgF H=>mv gF H λfE H=>tw C n [v0,v1,v4,v5,bZ,v8,v6,cU,cS,dQ,ef,fE,eS,eD,G3] H) (af (pS (ai Tryz.prog .eql 3 dQ (cv 4)) H) λiA H=>mv iA H λjs H=>aR js (mv v7 H λiG H=>mv v0 H λfw H=>mv v0 H λij H=>mv eD H λku H=>af (C 146 [ij,ku] H) λjG H=>af (C 91 [jG] H) λgv H=>af (C 138 [fw,gv] H) λlM H=>af (pS (ai Tryz.prog .add 3 iG lM) H) λjg H=>mv jg H λjh H=>tw C n [v0,v1,v4,v5,bZ,v8,v6,cU,cS,dQ,ef,jh,eS,eD,js] H) (tw C n [v0,v1,v4,v5,bZ,v8,v6,cU,cS,dQ,ef,v7,eS,eD,js] H)))) (fin (.exit 0) [v0,v1,v4,v5,bZ,v8,v6,cU,v9,AA,ke,v7,zY,v10,G3] H)
def Dt (C:ae)(n:Nat)(vs:List Value)(H:aa):aV:=zm C n (dw vs 0) (dw vs 1) (dw vs 4) (dw vs 5) (dw vs 16) (dw vs 8) (dw vs 6) (dw vs 35) (dw vs 9) (dw vs 47) (dw vs 48) (dw vs 7) (dw vs 52) (dw vs 10) (dw vs 59) H
theorem Lm (C:ae)(n:Nat)(v0 v1 v4 v5 bZ v8 v6 fU v9 AA ke v7 zY v10 G3:Value)(H:aa):Dt C n [v0,v1,v4,v5,bZ,v8,v6,fU,v9,AA,ke,v7,zY,v10,G3] H=zm C n v0 v1 v4 v5 bZ v8 v6 fU v9 AA ke v7 zY v10 G3 H:=by
 kernel_rfl
def zn (C:ae)(n:Nat)(v0 v1 v4 v5 bZ v8 v6 fU v9 AA ke v7 zY v10 G3:Value)(H:aa):VH:= mv v0 H λjB H=>mv v1 H λoK H=>af (pS (ai Tryz.prog .add 3 oK (cv 4)) H) λlJ H=>mv v7 H λqV H=>af (pS (ai Tryz.prog .add 3 qV (cv 1)) H) λic H=>af (C 153 [jB,lJ,ic] H) λmy H=>mv v7 H λoH H=>mv oH H λmF H=>some (mF,H)
def Du (C:ae)(n:Nat)(vs:List Value)(H:aa):VH:=zn C n (dw vs 0) (dw vs 1) (dw vs 4) (dw vs 5) (dw vs 16) (dw vs 8) (dw vs 6) (dw vs 35) (dw vs 9) (dw vs 47) (dw vs 48) (dw vs 7) (dw vs 52) (dw vs 10) (dw vs 59) H
theorem Ln (C:ae)(n:Nat)(v0 v1 v4 v5 bZ v8 v6 fU v9 AA ke v7 zY v10 G3:Value)(H:aa):Du C n [v0,v1,v4,v5,bZ,v8,v6,fU,v9,AA,ke,v7,zY,v10,G3] H=zn C n v0 v1 v4 v5 bZ v8 v6 fU v9 AA ke v7 zY v10 G3 H:=by
 kernel_rfl
def XG (C:ae)(n:Nat)(a0 a1:Value)(H:aa):VH:= mv (cv 0) H λx0 H=>mv a0 H λx1 H=>mv a1 H λx2 H=>af (pS (ai Tryz.prog .add 3 x2 (cv 4)) H) λx3 H=>af (C 146 [x1,x3] H) λx4 H=>mv x4 H λx5 H=>mv x5 H λx6 H=>af (pS (ai Tryz.prog .neq 2 x6 (cv 0)) H) λx7 H=>aR x7 (mv x5 H λx8 H=>af (pS (ai Tryz.prog .sub 2 x8 (cv 1)) H) λx9 H=>mv x9 H λaG H=>some (aG,H)) (mv a0 H λaN H=>mv a1 H λaK H=>af (pS (ai Tryz.prog .add 3 aK (cv 2)) H) λaJ H=>af (C 153 [aN,aJ,(cv 1)] H) λaP H=>mv a0 H λaT H=>mv a1 H λaX H=>af (C 146 [aT,aX] H) λaU H=>mv aU H λbn H=>mv (cv 0) H λbF H=>mv (cv 0) H λcd H=>cN (iter n (Dt C n) [a0,a1,x0,x5,x7,cd,bn,undef,undef,undef,undef,bF,undef,undef,undef] H) (dK 0 (dT (Du C n) (eG Tryz.prog [.tmp 4] [0,1,4,5,16,8,6,35,9,47,48,7,52,10,59]))))
theorem Sh (G:ae)(n:Nat)(a0 a1:Value)(H:aa):run G (n+1) 138 [a0,a1] H=XG (run G n) n a0 a1 H:=by
 unfold run;rw[ao (fn:=Tryz.f138) (keep:=[0,1,4,5,16,8,6,35,9,47,48,7,52,10,59]) (ar 138 rfl) (by kernel_rfl) (by kernel_rfl)]
 kernel_rfl
abbrev fx (vs:List Value)(i:Nat):Value:=sl [0,1,5,19,6,4,7,8,44,54] vs i
def zo (C:ae)(n:Nat)(v0 v1 v5 gY v6 v4 v7 v8 Lo ji:Value)(H:aa):aV:= mv v5 H λaJ H=>af (pS (ai Tryz.prog .add 3 aJ (cv 1)) H) λaP H=>mv aP H λaT H=>fin .normal [v0,v1,aT,gY,v6,v4,v7,v8,Lo,ji] H
def wm (C:ae)(n:Nat)(vs:List Value)(H:aa):aV:=zo C n (fx vs 0) (fx vs 1) (fx vs 5) (fx vs 19) (fx vs 6) (fx vs 4) (fx vs 7) (fx vs 8) (fx vs 44) (fx vs 54) H
theorem Lq (C:ae)(n:Nat)(v0 v1 v5 gY v6 v4 v7 v8 Lo ji:Value)(H:aa):wm C n [v0,v1,v5,gY,v6,v4,v7,v8,Lo,ji] H=zo C n v0 v1 v5 gY v6 v4 v7 v8 Lo ji H:=by
 kernel_rfl
def zp (C:ae)(n:Nat)(v0 v1 v5 gY v6 v4 v7 v8 Lo ji:Value)(H:aa):aV:= mv v5 H λx2 H=>mv v1 H λx3 H=>af (pS (cw x3) H) λx4 H=>af (pS (ai Tryz.prog .lss 3 x2 x4) H) λx5 H=>mv x5 H λx6 H=>af (gd (ag x6 true) (some (v0,H)) H) λx7 H=>af (gd (ag x6 true) (aA x7 H) H) λx8 H=>af (gd (ag x6 true) (al 2 x8 H) H) λx9 H=>af (gd (ag x6 true) (pS (aq x9 H) H) H) λaG H=>af (gd (ag x6 true) (pS (hZ .not aG) H) H) λaN H=>af (aI x6 aN (Value.bool false) H) λaK H=>aR aK (mv v1 H λaX H=>mv v5 H λaU H=>af (cq 3 aX aU H) λbn H=>af (al 2 bn H) λbF H=>af (pS (aq bF H) H) λcd H=>af (C 91 [cd] H) λbg H=>mv bg H λbG H=>mv v0 H λbQ H=>mv bG H λbW H=>af (pS (ai Tryz.prog .add 3 bW (cv 3)) H) λcx H=>af (C 158 [bQ,cx,(cv 1)] H) λcB H=>mv cB H λcC H=>mv v0 H λcH H=>mv bG H λcy H=>af (pS (ai Tryz.prog .add 3 cy (cv 1)) H) λcU H=>af (C 146 [cH,cU] H) λdP H=>mv dP H λcr H=>mv v4 H λcM H=>af (pS (ai Tryz.prog .lss 3 cM (cv 0)) H) λdE H=>mv dE H λbN H=>af (gd (ag bN true) (some (cC,H)) H) λcY H=>af (gd (ag bN true) (pS (ai Tryz.prog .add 2 cY (cv 1)) H) H) λdF H=>af (gd (ag bN true) (some (cr,H)) H) λdJ H=>af (gd (ag bN true) (C 159 [dJ] H) H) λdz H=>af (gd (ag bN true) (pS (ai Tryz.prog .geq 2 dF dz) H) H) λcS H=>af (aI bN cS (Value.bool false) H) λdM H=>aR dM (mv v5 H λff H=>mv ff H λeD H=>wm C n [v0,v1,v5,aK,bG,eD,cC,cr,dM,ji] H) (wm C n [v0,v1,v5,aK,bG,v4,cC,cr,dM,ji] H)) (fin (.exit 0) [v0,v1,v5,aK,v6,v4,v7,v8,Lo,ji] H)
def IG (C:ae)(n:Nat)(vs:List Value)(H:aa):aV:=zp C n (fx vs 0) (fx vs 1) (fx vs 5) (fx vs 19) (fx vs 6) (fx vs 4) (fx vs 7) (fx vs 8) (fx vs 44) (fx vs 54) H
theorem Ls (C:ae)(n:Nat)(v0 v1 v5 gY v6 v4 v7 v8 Lo ji:Value)(H:aa):IG C n [v0,v1,v5,gY,v6,v4,v7,v8,Lo,ji] H=zp C n v0 v1 v5 gY v6 v4 v7 v8 Lo ji H:=by
 kernel_rfl
def zu (C:ae)(n:Nat)(v0 v1 v5 gY v6 v4 v7 v8 Lo ji:Value)(H:aa):VH:= mv v4 H λeE H=>af (pS (ai Tryz.prog .geq 3 eE (cv 0)) H) λdQ H=>mv dQ H λdD H=>af (gd (ag dD true) (some (v0,H)) H) λef H=>af (gd (ag dD true) (aA ef H) H) λdN H=>af (gd (ag dD true) (al 2 dN H) H) λdO H=>af (gd (ag dD true) (pS (aq dO H) H) H) λeV H=>af (gd (ag dD true) (pS (hZ .not eV) H) H) λdW H=>af (aI dD dW (Value.bool false) H) λeS H=>aR eS (mv v0 H λeJ H=>mv v1 H λfq H=>mv v4 H λfM H=>af (cq 3 fq fM H) λeU H=>af (pS (cK 3 eU H) H) λgF H=>af (C 142 [eJ,gF] H) λfE H=>some (Value.tuple #[],H)) (some (Value.tuple #[],H))
def IH (C:ae)(n:Nat)(vs:List Value)(H:aa):VH:=zu C n (fx vs 0) (fx vs 1) (fx vs 5) (fx vs 19) (fx vs 6) (fx vs 4) (fx vs 7) (fx vs 8) (fx vs 44) (fx vs 54) H
theorem Lu (C:ae)(n:Nat)(v0 v1 v5 gY v6 v4 v7 v8 Lo ji:Value)(H:aa):IH C n [v0,v1,v5,gY,v6,v4,v7,v8,Lo,ji] H=zu C n v0 v1 v5 gY v6 v4 v7 v8 Lo ji H:=by
 kernel_rfl
def XH (C:ae)(n:Nat)(a0 a1:Value)(H:aa):VH:= mv (cv (-1)) H λx0 H=>mv (cv 0) H λx1 H=>cN (iter n (IG C n) [a0,a1,x1,undef,undef,x0,undef,undef,undef,undef] H) (dK 0 (dT (IH C n) (eG Tryz.prog [] [0,1,5,19,6,4,7,8,44,54])))
theorem Si (G:ae)(n:Nat)(a0 a1:Value)(H:aa):run G (n+1) 143 [a0,a1] H=XH (run G n) n a0 a1 H:=by
 unfold run;rw[ao (fn:=Tryz.f143) (keep:=[0,1,5,19,6,4,7,8,44,54]) (ar 143 rfl) (by kernel_rfl) (by kernel_rfl)]
 kernel_rfl
abbrev mf (vs:List Value)(i:Nat):Value:=sl [0,1,4,14,6,17,5] vs i
def zx (C:ae)(n:Nat)(v0 v1 v4 cp v6 fV v5:Value)(H:aa):aV:= mv v6 H λaK H=>mv v1 H λaJ H=>af (pS (ai Tryz.prog .lss 3 aK aJ) H) λaP H=>aR aP (mv v5 H λaT H=>mv v0 H λaX H=>mv v6 H λaU H=>af (C 96 [aX,aU] H) λbn H=>af (pS (ai Tryz.prog .add 3 aT bn) H) λbF H=>mv bF H λcd H=>mv v6 H λbg H=>af (pS (ai Tryz.prog .add 3 bg (cv 1)) H) λbG H=>mv bG H λbQ H=>fin .normal [v0,v1,v4,cp,bQ,aP,cd] H) (fin (.exit 0) [v0,v1,v4,cp,v6,aP,v5] H)
def II (C:ae)(n:Nat)(vs:List Value)(H:aa):aV:=zx C n (mf vs 0) (mf vs 1) (mf vs 4) (mf vs 14) (mf vs 6) (mf vs 17) (mf vs 5) H
theorem Lv (C:ae)(n:Nat)(v0 v1 v4 cp v6 fV v5:Value)(H:aa):II C n [v0,v1,v4,cp,v6,fV,v5] H=zx C n v0 v1 v4 cp v6 fV v5 H:=by
 kernel_rfl
def zy (C:ae)(n:Nat)(v0 v1 v4 cp v6 fV v5:Value)(H:aa):VH:= mv v5 H λbW H=>mv bW H λcx H=>some (cx,H)
def IJ (C:ae)(n:Nat)(vs:List Value)(H:aa):VH:=zy C n (mf vs 0) (mf vs 1) (mf vs 4) (mf vs 14) (mf vs 6) (mf vs 17) (mf vs 5) H
theorem Lw (C:ae)(n:Nat)(v0 v1 v4 cp v6 fV v5:Value)(H:aa):IJ C n [v0,v1,v4,cp,v6,fV,v5] H=zy C n v0 v1 v4 cp v6 fV v5 H:=by
 kernel_rfl
def XI (C:ae)(n:Nat)(a0 a1:Value)(H:aa):VH:= mv (cv 0) H λx0 H=>mv a1 H λx1 H=>af (pS (ai Tryz.prog .lss 3 x1 (cv 0)) H) λx2 H=>mv x2 H λx3 H=>af (gd (ag x3 false) (some (a1,H)) H) λx4 H=>af (gd (ag x3 false) (some (a0,H)) H) λx5 H=>af (gd (ag x3 false) (C 95 [x5] H) H) λx6 H=>af (gd (ag x3 false) (pS (ai Tryz.prog .geq 3 x4 x6) H) H) λx7 H=>af (aI x3 (Value.bool true) x7 H) λx8 H=>aR x8 (mv (cv 0) H λx9 H=>some (x9,H)) (mv (cv 0) H λaG H=>mv (cv 0) H λaN H=>cN (iter n (II C n) [a0,a1,x0,x8,aN,undef,aG] H) (dK 0 (dT (IJ C n) (eG Tryz.prog [.tmp 4] [0,1,4,14,6,17,5]))))
theorem Sj (G:ae)(n:Nat)(a0 a1:Value)(H:aa):run G (n+1) 154 [a0,a1] H=XI (run G n) n a0 a1 H:=by
 unfold run;rw[ao (fn:=Tryz.f154) (keep:=[0,1,4,14,6,17,5]) (ar 154 rfl) (by kernel_rfl) (by kernel_rfl)]
 kernel_rfl
def XJ (C:ae)(n:Nat)(a0 a1:Value)(H:aa):VH:= mv (Value.int .u64 (0)) H λx0 H=>mv a1 H λx1 H=>mv a0 H λx2 H=>af (pS (ai Tryz.prog .lss 2 x1 x2) H) λx3 H=>aR x3 (mv (Value.int .u64 (0)) H λx4 H=>some (x4,H)) (mv a1 H λx5 H=>af (qS .u64 x5 H) λx6 H=>mv a0 H λx7 H=>af (qS .u64 x7 H) λx8 H=>af (pS (ai Tryz.prog .sub 215 x6 x8) H) λx9 H=>mv x9 H λaG H=>some (aG,H))
theorem Sk (G:ae)(n:Nat)(a0 a1:Value)(H:aa):run G (n+1) 165 [a0,a1] H=XJ (run G n) n a0 a1 H:=by
 unfold run;rw[ao (fn:=Tryz.f165) (keep:=[0,1,4,7]) (ar 165 rfl) (by kernel_rfl) (by kernel_rfl)]
 kernel_rfl
def XK (C:ae)(n:Nat)(H:aa):VH:= af (some (aO H 45 1 [(cv 0),(Value.bool false),(cv 0),(cv 0),(cv 0),(Value.slice none 0 0)])) λx0 H=>af (pS (aE Tryz.prog 45 [(0,(cv 8))]) H) λx1 H=>af (bS 6 x0 x1 H) λx2 H=>af (pS (cK 6 x0 H) H) λr0 _=>some (r0,H)
theorem Sm (G:ae)(n:Nat)(H:aa):run G (n+1) 168 [] H=XK (run G n) n H:=by
 unfold run;rw[ao (fn:=Tryz.f168) (keep:=[0]) (ar 168 rfl) (by kernel_rfl) (by kernel_rfl)]
 kernel_rfl
def F4 (C:ae)(n:Nat)(a0 a1 a2 a3:Value)(H:aa):VH:= mv (Value.bool false) H λx0 H=>mv a0 H λx1 H=>mv a1 H λx2 H=>mv a2 H λx3 H=>af (C 5 [x1,x2,x3] H) λx4 H=>mv x4 H λx5 H=>mv x5 H λx6 H=>af (C 7 [x6] H) λx7 H=>mv x7 H λx8 H=>mv a3 H λx9 H=>mv x5 H λaG H=>af (pS (cw aG) H) λaN H=>af (pS (ai Tryz.prog .add 3 aN (cv 1)) H) λaK H=>af (C 9 [x9,aK] H) λaJ H=>mv aJ H λaP H=>mv x5 H λaT H=>mv aP H λaX H=>af (pS (eo 13 H aT none (some aX)) H) λaU H=>af (C 7 [aU] H) λbn H=>mv bn H λbF H=>mv x8 H λcd H=>af (pS (ai Tryz.prog .lss 3 cd (cv 0)) H) λbg H=>mv bg H λbG H=>af (gd (ag bG false) (some (x8,H)) H) λbQ H=>af (gd (ag bG false) (some (aP,H)) H) λbW H=>af (gd (ag bG false) (pS (ai Tryz.prog .geq 3 bQ bW) H) H) λcx H=>af (aI bG (Value.bool true) cx H) λcB H=>aR cB (af (C 6 [] H) λcC H=>mv cC H λcH H=>af (gd (ag cH true) (some (bF,H)) H) λcy H=>af (gd (ag cH true) (pS (ai Tryz.prog .eql 3 cy (cv (-1))) H) H) λcU H=>af (aI cH cU (Value.bool false) H) λdP H=>mv dP H λcr H=>af (gd (ag cr true) (some (x8,H)) H) λcM H=>af (gd (ag cr true) (some (x5,H)) H) λdE H=>af (gd (ag cr true) (pS (cw dE) H) H) λbN H=>af (gd (ag cr true) (pS (ai Tryz.prog .lss 3 cM bN) H) H) λcY H=>af (aI cr cY (Value.bool false) H) λdF H=>mv dF H λdJ H=>some (dJ,H)) (af (C 6 [] H) λdz H=>mv dz H λcS H=>af (gd (ag cS true) (some (bF,H)) H) λdM H=>af (gd (ag cS true) (some (x8,H)) H) λff H=>af (gd (ag cS true) (pS (ai Tryz.prog .eql 3 dM ff) H) H) λeD H=>af (aI cS eD (Value.bool false) H) λeE H=>mv eE H λdQ H=>some (dQ,H))
theorem aaE (G:ae)(n:Nat)(a0 a1 a2 a3:Value)(H:aa):run G (n+1) 4 [a0,a1,a2,a3] H=F4 (run G n) n a0 a1 a2 a3 H:=by
 unfold run;rw[ao (fn:=Tryz.f4) (keep:=[0,1,2,3,8,9,11,10,34,12]) (ar 4 rfl) (by kernel_rfl) (by kernel_rfl)]
 kernel_rfl
end Go.Proofs.YtjgmnoaalbbonaaGreat.Fun
end
section
namespace Go.Proofs.YtjgmnoaalbbonaaGreat.Fun
open Go Go.RowKit Go.Proofs.YtjgmnoaalbbonaaGreatA.Am
set_option maxRecDepth 10000
theorem XL:vQ Tryz.prog 76 103 52 2 3 4 8 where
 mixed:=by kernel_rfl
 uS:=by kernel_rfl
 zE:=by kernel_rfl
 bE:=by kernel_rfl
 UY:=by decide
 uI:=by kernel_rfl
 QH:=⟨⟨aao Tryz.prog 103,by kernel_rfl,by kernel_rfl,by kernel_rfl,by kernel_rfl,by kernel_rfl⟩⟩
 code:=⟨aao Tryz.prog 76,rid (nH [1,1,1,1,1,1,0,0] (iS Tryz.prog 76)),rid (nH [1,1,1,1,1,1,0,1,0,0] (iS Tryz.prog 76)),rid (nH [1,1,1,1,1,1,1,1,0,0] (iS Tryz.prog 76)),U7 (nH [1,1,1,1,1,1,0,0] (iS Tryz.prog 76)),U7 (nH [1,1,1,1,1,1,0,1,0,0] (iS Tryz.prog 76)),U7 (nH [1,1,1,1,1,1,1,1,0,0] (iS Tryz.prog 76)),
  (nH [0] (iS Tryz.prog 76)),(nH [1,0] (iS Tryz.prog 76)),(nH [1,1,0] (iS Tryz.prog 76)),(nH [1,1,1,0] (iS Tryz.prog 76)),(nH [1,1,1,1,0] (iS Tryz.prog 76)),(nH [1,1,1,1,1,0] (iS Tryz.prog 76)),(nH [1,1,1,1,1,1,0,1,0,1] (iS Tryz.prog 76)),(nH [1,1,1,1,1,1,1,0] (iS Tryz.prog 76)),(nH [1,1,1,1,1,1,1,1,0,1,0] (iS Tryz.prog 76)),(nH [1,1,1,1,1,1,1,1,1] (iS Tryz.prog 76)),zAt Tryz.prog 2,
  by kernel_rfl,by kernel_rfl,by kernel_rfl,by kernel_rfl,by kernel_rfl,by kernel_rfl,by kernel_rfl,
  qf (by kernel_rfl),qf (by kernel_rfl),qf (by kernel_rfl),
  λv0 v1 v2 v6 v7 bZ v8 dY fL v9 fe H=>by rw[p9];kernel_rfl,
  λv0 v1 v2 v6 v7 bZ v8 dY fL v9 fe H=>by rw[p9];kernel_rfl,
  λv0 v1 v2 v6 v7 bZ v8 dY fL v9 fe H=>by rw[p9];kernel_rfl,
  λv0 v1 v2 v6 v7 bZ v8 dY fL v9 fe H=>by rw[p9];kernel_rfl⟩
abbrev ins:List (FuncId×TypeId):=[(76,2)]
abbrev inb:List FuncId:=[76]
theorem XM:xu Tryz.prog ins:=by
 intro q hq;simp only[ins,List.mem_cons,List.not_mem_nil,or_false] at hq;rcases hq with rfl
 ·exact⟨_,_,_,_,_,XL⟩
theorem okP:nt Tryz.prog (inb++uN Tryz.prog)=true:=by kernel_rfl
abbrev kk:List FuncId:=[6]
theorem acu:nt Tryz.prog (kk++(inb++uN Tryz.prog))=true:=by kernel_rfl
theorem Lz:(kk.all λk=>(fh Tryz.prog (inb++uN Tryz.prog) (uj ins) 2000 k [] []).any λr=>jE r.1 (.bool true))=true:=by kernel_rfl
abbrev KG:ae:=Cp kk ins
theorem XN {f:FuncId}{ts:List TypeId}(h: ∀H args,jL H→nJ Tryz.prog H 9 ts args→∃n H',run KG n f args H=some (.bool true,H')):TC Tryz.prog f ts:=
 TC.U6 kk ins 2000 XM okP acu Lz h
end Go.Proofs.YtjgmnoaalbbonaaGreat.Fun
end
