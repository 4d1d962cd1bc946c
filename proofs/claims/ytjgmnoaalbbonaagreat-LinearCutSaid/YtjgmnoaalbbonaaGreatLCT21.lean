/- Texts of the proof of linearCut_holds, put together by a small program of ours (names shortened, spaces taken out). No condition beyond the given statement. -/
import Derived.Test.YtjgmnoaalbbonaaGreatLCT14
set_option linter.unusedVariables false
set_option linter.unusedSimpArgs false
set_option linter.unnecessarySimpa false
noncomputable section
section
namespace Go.Proofs.YtjgmnoaalbbonaaGreat.Fun
open Go.RowKit Go.Proofs.YtjgmnoaalbbonaaGreatA.Am
set_option maxRecDepth 10000
abbrev F9s (vs:List Value)(i:Nat):Value:=sl [0,1,4,5,10] vs i
def yW (C:ae)(n:Nat)(v0 v1 v4 v5 v10:Value)(H:aa):VH:= mv v5 H λx5 H=>mv x5 H λx6 H=>some (x6,H)
def OL (C:ae)(n:Nat)(vs:List Value)(H:aa):VH:=yW C n (F9s vs 0) (F9s vs 1) (F9s vs 4) (F9s vs 5) (F9s vs 10) H
theorem Di (C:ae)(n:Nat)(v0 v1 v4 v5 v10:Value)(H:aa):OL C n [v0,v1,v4,v5,v10] H=yW C n v0 v1 v4 v5 v10 H:=by
 kernel_rfl
def F9 (C:ae)(n:Nat)(a0 a1:Value)(H:aa):VH:= mv (cv 0) H λx0 H=>mv a0 H λx1 H=>mv a1 H λx2 H=>af (pS (ai Tryz.prog .rem 3 x1 x2) H) λx3 H=>mv x3 H λx4 H=>mv x4 H λx7 H=>af (pS (ai Tryz.prog .lss 3 x7 (cv 0)) H) λx8 H=>aR x8 (mv x4 H λx9 H=>mv a1 H λaG H=>af (pS (ai Tryz.prog .add 3 x9 aG) H) λaN H=>mv aN H λaK H=>OL C n [a0,a1,x0,aK,x8] H) (OL C n [a0,a1,x0,x4,x8] H)
theorem TN (G:ae)(n:Nat)(a0 a1:Value)(H:aa):run G (n+1) 9 [a0,a1] H=F9 (run G n) n a0 a1 H:=by
 unfold run;rw[ao (fn:=Tryz.f9) (keep:=[0,1,4,5,10]) (ar 9 rfl) (by kernel_rfl) (by kernel_rfl)]
 kernel_rfl
def F20 (C:ae)(n:Nat)(a0 a1:Value)(H:aa):VH:= mv (Value.slice none 0 0) H λx0 H=>mv a0 H λx1 H=>af (pS (cw x1) H) λx2 H=>mv a1 H λx3 H=>af (pS (ai Tryz.prog .gtr 3 x2 x3) H) λx4 H=>aR x4 (mv a0 H λx5 H=>mv a1 H λx6 H=>af (pS (eo 1 H x5 none (some x6)) H) λx7 H=>mv x7 H λx8 H=>some (x8,H)) (mv a0 H λx9 H=>mv x9 H λaG H=>some (aG,H))
theorem Xh (G:ae)(n:Nat)(a0 a1:Value)(H:aa):run G (n+1) 20 [a0,a1] H=F20 (run G n) n a0 a1 H:=by
 unfold run;rw[ao (fn:=Tryz.f20) (keep:=[0,1,4,8]) (ar 20 rfl) (by kernel_rfl) (by kernel_rfl)]
 kernel_rfl
def F48 (C:ae)(n:Nat)(a0 a1 a2:Value)(H:aa):VH:= af (some (aO H 45 1 [(cv 0),(Value.bool false),(cv 0),(cv 0),(cv 0),(Value.slice none 0 0)])) λx0 H=>mv a2 H λx1 H=>af (pS (hZ .not x1) H) λx2 H=>aR x2 (af (pS (aE Tryz.prog 45 []) H) λx3 H=>af (bS 6 x0 x3 H) λx4 H=>af (pS (cK 6 x0 H) H) λr0 _=>some (r0,H)) (mv a0 H λx5 H=>mv a1 H λx6 H=>af (pS (aE Tryz.prog 42 [(0,x5),(1,x6)]) H) λx7 H=>af (pS (aE Tryz.prog 45 [(1,(Value.bool true)),(2,x7)]) H) λx8 H=>af (bS 6 x0 x8 H) λx9 H=>af (pS (cK 6 x0 H) H) λr0 _=>some (r0,H))
theorem Xi (G:ae)(n:Nat)(a0 a1 a2:Value)(H:aa):run G (n+1) 48 [a0,a1,a2] H=F48 (run G n) n a0 a1 a2 H:=by
 unfold run;rw[ao (fn:=Tryz.f48) (keep:=[0,1,2,6,8]) (ar 48 rfl) (by kernel_rfl) (by kernel_rfl)]
 kernel_rfl
abbrev ER (vs:List Value)(i:Nat):Value:=sl [0,1,4,5,6,9,18,7] vs i
def we (C:ae)(n:Nat)(v0 v1 v4 v5 v6 v9 dZ v7:Value)(H:aa):VH:= mv v0 H λaJ H=>mv v7 H λaP H=>af (C 78 [aJ,aP] H) λaT H=>af (bP 0 aT H) λaX H=>af (bP 1 aT H) λaU H=>af (bP 2 aT H) λbn H=>mv aX H λbF H=>mv aU H λcd H=>mv bn H λbg H=>some (Value.tuple #[bF,cd,bg],H)
def GV (C:ae)(n:Nat)(vs:List Value)(H:aa):VH:=we C n (ER vs 0) (ER vs 1) (ER vs 4) (ER vs 5) (ER vs 6) (ER vs 9) (ER vs 18) (ER vs 7) H
theorem ES (C:ae)(n:Nat)(v0 v1 v4 v5 v6 v9 dZ v7:Value)(H:aa):GV C n [v0,v1,v4,v5,v6,v9,dZ,v7] H=we C n v0 v1 v4 v5 v6 v9 dZ v7 H:=by
 kernel_rfl
def F49 (C:ae)(n:Nat)(a0 a1:Value)(H:aa):VH:= mv (cv 0) H λx0 H=>mv (cv 0) H λx1 H=>mv (Value.bool false) H λx2 H=>mv a0 H λx3 H=>mv a1 H λx4 H=>af (C 77 [x3,x4] H) λx5 H=>mv x5 H λx6 H=>af (bP 0 x6 H) λx7 H=>af (bP 1 x6 H) λx8 H=>af (bP 2 x6 H) λx9 H=>mv x7 H λaG H=>mv x8 H λaN H=>mv x9 H λaK H=>mv aK H λbG H=>af (pS (hZ .not bG) H) λbQ H=>aR bQ (mv aG H λbW H=>af (pS (ai Tryz.prog .sub 3 bW (cv 1)) H) λcx H=>mv cx H λcB H=>GV C n [a0,a1,x0,x1,x2,aK,bQ,cB] H) (GV C n [a0,a1,x0,x1,x2,aK,bQ,aG] H)
theorem Xj (G:ae)(n:Nat)(a0 a1:Value)(H:aa):run G (n+1) 49 [a0,a1] H=F49 (run G n) n a0 a1 H:=by
 unfold run;rw[ao (fn:=Tryz.f49) (keep:=[0,1,4,5,6,9,18,7]) (ar 49 rfl) (by kernel_rfl) (by kernel_rfl)]
 kernel_rfl
abbrev AI (vs:List Value)(i:Nat):Value:=sl [0,1,2,6,13,14,15,7,8,9] vs i
def Dj (C:ae)(n:Nat)(v0 v1 v2 v6 aZ cp dy v7 v8 v9:Value)(H:aa):VH:= af (pS (aq v7 H) H) λx2 H=>mv x2 H λx3 H=>some (x3,H)
def OM (C:ae)(n:Nat)(vs:List Value)(H:aa):VH:=Dj C n (AI vs 0) (AI vs 1) (AI vs 2) (AI vs 6) (AI vs 13) (AI vs 14) (AI vs 15) (AI vs 7) (AI vs 8) (AI vs 9) H
theorem ON (C:ae)(n:Nat)(v0 v1 v2 v6 aZ cp dy v7 v8 v9:Value)(H:aa):OM C n [v0,v1,v2,v6,aZ,cp,dy,v7,v8,v9] H=Dj C n v0 v1 v2 v6 aZ cp dy v7 v8 v9 H:=by
 kernel_rfl
def GX (vs:List Value):mI:=⟨[0,1,2,6,13,14,15,7,8,9],vs,(UP Tryz.prog 51 0).1,(UP Tryz.prog 51 0).2.1,(UP Tryz.prog 51 0).2.2⟩
def Xk (C:ae)(n i:Nat)(v0 v1 v2 v6 aZ cp dy v7 v8 v9:Value)(a0 a1:Value)(H:aa):VH:= mv a0 H λx8 H=>mv a1 H λx9 H=>Ju i H λH=>af (pS (aq v7 H) H) λaG H=>mv x8 H λaN H=>mv x9 H λaK H=>af (pS (aE Tryz.prog 42 [(0,aN),(1,aK)]) H) λaJ H=>af (au Tryz.prog 43 1 [(0,aJ)] H) λaP H=>af (cg 42 2 16 aG aP H) λaT H=>af (bS 1 v7 aT H) λaX H=>BK i .normal H
theorem K7 (G:ae)(n i:Nat)(v0 v1 v2 v6 aZ cp dy v7 v8 v9:Value)(a0 a1:Value)(H:aa)(h:H.cT i=some (.loop (GX [v0,v1,v2,v6,aZ,cp,dy,v7,v8,v9]) .ready)):run G (n+1) (Tryz.prog.funcs.size+i) [a0,a1] H=Xk (run G n) n i v0 v1 v2 v6 aZ cp dy v7 v8 v9 a0 a1 H:=by
 unfold run;rw[QD (by kernel_rfl) h (by kernel_rfl)]
 kernel_rfl
def F51 (C:ae)(n:Nat)(a0 a1 a2:Value)(H:aa):VH:= mv (Value.slice none 0 0) H λx0 H=>af (some (aO H 43 1 [(Value.slice none 0 0)])) λx1 H=>mv a0 H λx4 H=>mv a1 H λx5 H=>mv a2 H λx6 H=>af (C 79 [x4,x5,x6] H) λx7 H=>Bl (Cg Tryz.prog.funcs.size C x7 (GX [a0,a1,a2,x0,x7,undef,undef,x1,undef,undef]) H) λe H=>(dK 0 (dT (OM C n) (eG Tryz.prog [.tmp 6] [0,1,2,6,13,14,15,7,8,9]))) e [a0,a1,a2,x0,x7,undef,undef,x1,undef,undef] H
theorem Xl (G:ae)(n:Nat)(a0 a1 a2:Value)(H:aa):run G (n+1) 51 [a0,a1,a2] H=F51 (run G n) n a0 a1 a2 H:=by
 unfold run;rw[ao (fn:=Tryz.f51) (keep:=[0,1,2,6,13,14,15,7,8,9]) (ar 51 rfl) (by kernel_rfl) (by kernel_rfl)]
 kernel_rfl
def Xm (C:ae)(n:Nat)(a0 a1 a2:Value)(H:aa):VH:= af (cO 109 a1 H) λx0 H=>af (cO 45 a2 H) λx1 H=>mv (Value.bool false) H λx2 H=>af (pS (aq x0 H) H) λx3 H=>af (aA x3 H) λx4 H=>af (al 5 x4 H) λx5 H=>af (pS (aq x5 H) H) λx6 H=>mv x6 H λx7 H=>aR x7 (af (pS (cK 6 x1 H) H) λx8 H=>af (pS (aq x0 H) H) λx9 H=>af (aA x9 H) λaG H=>af (al 6 aG H) λaN H=>af (pS (cK 6 aN H) H) λaK H=>af (C 82 [x8,aK] H) λaJ H=>mv aJ H λaP H=>some (aP,H)) (af (pS (aq x0 H) H) λaT H=>af (aA aT H) λaX H=>af (al 0 aX H) λaU H=>af (al 0 aU H) λbn H=>af (pS (aq bn H) H) λbF H=>af (pS (ai Tryz.prog .leq 3 bF (cv 3)) H) λcd H=>mv cd H λbg H=>af (gd (ag bg true) (pS (cK 6 x1 H) H) H) λbG H=>af (gd (ag bg true) (pS (aE Tryz.prog 45 [(0,(cv 8))]) H) H) λbQ H=>af (gd (ag bg true) (C 82 [bG,bQ] H) H) λbW H=>af (aI bg bW (Value.bool false) H) λcx H=>mv cx H λcB H=>aR cB (mv (Value.bool true) H λcC H=>some (cC,H)) (af (pS (aq x0 H) H) λcH H=>af (aA cH H) λcy H=>af (al 0 cy H) λcU H=>af (al 0 cU H) λdP H=>af (pS (aq dP H) H) λcr H=>af (pS (ai Tryz.prog .gtr 3 cr (cv 4)) H) λcM H=>mv cM H λdE H=>af (gd (ag dE true) (pS (cK 6 x1 H) H) H) λbN H=>af (gd (ag dE true) (pS (aE Tryz.prog 45 [(0,(cv 9))]) H) H) λcY H=>af (gd (ag dE true) (C 82 [bN,cY] H) H) λdF H=>af (aI dE dF (Value.bool false) H) λdJ H=>mv dJ H λdz H=>aR dz (mv (Value.bool true) H λcS H=>some (cS,H)) (mv a0 H λdM H=>af (aA dM H) λff H=>af (al 0 ff H) λeD H=>af (pS (aq eD H) H) λeE H=>af (pS (aq x0 H) H) λdQ H=>af (aA dQ H) λdD H=>af (al 4 dD H) λef H=>af (pS (aq ef H) H) λdN H=>af (pS (eo 1 H eE (some dN) none) H) λdO H=>af (some (Value.func (.func 84) #[] #[x0,x1],H)) λeV H=>af (C 83 [dO,eV] H) λdW H=>mv dW H λeS H=>some (eS,H))))
theorem Xn (G:ae)(n:Nat)(a0 a1 a2:Value)(H:aa):run G (n+1) 56 [a0,a1,a2] H=Xm (run G n) n a0 a1 a2 H:=by
 unfold run;rw[ao (fn:=Tryz.f56) (keep:=[0,1,2,6,4,7,5,18,30]) (ar 56 rfl) (by kernel_rfl) (by kernel_rfl)]
 kernel_rfl
def F62 (C:ae)(n:Nat)(a0 a1 a2:Value)(H:aa):VH:= mv (Value.slice none 0 0) H λx0 H=>mv a2 H λx1 H=>af (pS (cw x1) H) λx2 H=>mv a1 H λx3 H=>af (pS (cw x3) H) λx4 H=>af (pS (ai Tryz.prog .add 3 x4 (cv 1)) H) λx5 H=>af (pS (ai Tryz.prog .neq 3 x2 x5) H) λx6 H=>aR x6 (mv (Value.slice none 0 0) H λx7 H=>some (x7,H)) (mv a2 H λx8 H=>af (pS (cw x8) H) λx9 H=>mv a0 H λaG H=>af (au Tryz.prog 52 5 [(0,x9),(1,aG),(2,(cv 0)),(3,(cv 0)),(4,(cv 0))] H) λaN H=>mv aN H λaK H=>mv aK H λaJ H=>mv a1 H λaP H=>af (cg 2 1 8 aJ aP H) λaT H=>mv aT H λaX H=>mv aX H λaU H=>mv a2 H λbn H=>af (cg 2 1 8 aU bn H) λbF H=>mv bF H λcd H=>some (cd,H))
theorem OO (G:ae)(n:Nat)(a0 a1 a2:Value)(H:aa):run G (n+1) 62 [a0,a1,a2] H=F62 (run G n) n a0 a1 a2 H:=by
 unfold run;rw[ao (fn:=Tryz.f62) (keep:=[0,1,2,6,13,7]) (ar 62 rfl) (by kernel_rfl) (by kernel_rfl)]
 kernel_rfl
abbrev kU (vs:List Value)(i:Nat):Value:=sl [0,1,4,12,13,6,24,31,8,7,38,5] vs i
def Dk (C:ae)(n:Nat)(v0 v1 v4 bp aZ v6 ik fL v8 v7 tT v5:Value)(H:aa):VH:= mv v5 H λx5 H=>mv x5 H λx6 H=>some (x6,H)
def GY (C:ae)(n:Nat)(vs:List Value)(H:aa):VH:=Dk C n (kU vs 0) (kU vs 1) (kU vs 4) (kU vs 12) (kU vs 13) (kU vs 6) (kU vs 24) (kU vs 31) (kU vs 8) (kU vs 7) (kU vs 38) (kU vs 5) H
theorem OP (C:ae)(n:Nat)(v0 v1 v4 bp aZ v6 ik fL v8 v7 tT v5:Value)(H:aa):GY C n [v0,v1,v4,bp,aZ,v6,ik,fL,v8,v7,tT,v5] H=Dk C n v0 v1 v4 bp aZ v6 ik fL v8 v7 tT v5 H:=by
 kernel_rfl
def R0 (C:ae)(n:Nat)(v0 v1 v4 bp aZ v6 ik fL v8 v7 tT v5:Value)(H:aa):aV:= mv v8 H λcY H=>mv v7 H λdF H=>af (pS (ai Tryz.prog .lss 3 cY dF) H) λdJ H=>aR dJ (mv v5 H λdz H=>mv v0 H λcS H=>mv v0 H λdM H=>mv v6 H λff H=>mv v7 H λeD H=>mv v8 H λeE H=>af (C 94 [ff,eD,eE] H) λdQ H=>af (C 67 [dM,dQ] H) λdD H=>af (C 66 [cS,dD] H) λef H=>af (cg 42 2 16 dz ef H) λdN H=>mv dN H λdO H=>mv v8 H λeV H=>af (pS (ai Tryz.prog .add 3 eV (cv 1)) H) λdW H=>mv dW H λeS H=>fin .normal [v0,v1,v4,bp,aZ,v6,ik,fL,eS,v7,dJ,dO] H) (fin (.exit 1) [v0,v1,v4,bp,aZ,v6,ik,fL,v8,v7,dJ,v5] H)
def Xo (C:ae)(n:Nat)(vs:List Value)(H:aa):aV:=R0 C n (kU vs 0) (kU vs 1) (kU vs 4) (kU vs 12) (kU vs 13) (kU vs 6) (kU vs 24) (kU vs 31) (kU vs 8) (kU vs 7) (kU vs 38) (kU vs 5) H
def F66 (C:ae)(n:Nat)(a0 a1:Value)(H:aa):VH:= mv (Value.slice none 0 0) H λx0 H=>mv (Value.slice none 0 0) H λx1 H=>mv a1 H λx2 H=>af (C 91 [x2] H) λx3 H=>mv x3 H λx4 H=>mv a1 H λx7 H=>af (C 92 [x7] H) λx8 H=>af (pS (ai Tryz.prog .eql 3 x8 (cv 2)) H) λx9 H=>mv x9 H λaG H=>aR aG (mv a0 H λaN H=>mv x4 H λaK H=>af (C 93 [aN,aK] H) λaJ H=>mv a0 H λaP H=>mv x4 H λaT H=>af (pS (ai Tryz.prog .add 3 aT (cv 1)) H) λaX H=>af (C 93 [aP,aX] H) λaU H=>af (pS (aE Tryz.prog 42 [(0,aJ),(1,aU)]) H) λbn H=>af (au Tryz.prog 43 1 [(0,bn)] H) λbF H=>mv bF H λcd H=>some (cd,H)) (af (pS (ai Tryz.prog .eql 3 x8 (cv 4)) H) λbg H=>mv bg H λbG H=>aR bG (mv a0 H λbQ H=>mv a0 H λbW H=>mv x4 H λcx H=>af (C 93 [bW,cx] H) λcB H=>af (C 66 [bQ,cB] H) λcC H=>mv cC H λcH H=>some (cH,H)) (af (pS (ai Tryz.prog .eql 3 x8 (cv 3)) H) λcy H=>mv cy H λcU H=>aR cU (mv a0 H λdP H=>mv x4 H λcr H=>af (C 93 [dP,cr] H) λcM H=>mv cM H λdE H=>mv (cv 0) H λbN H=>cN (iter n (Xo C n) [a0,a1,x0,x8,aG,x4,bG,cU,bN,dE,undef,x1] H) (dK 1 (dK 0 (dT (GY C n) (eG Tryz.prog [.tmp 4] [0,1,4,12,13,6,24,31,8,7,38,5]))))) (GY C n [a0,a1,x0,x8,aG,x4,bG,cU,undef,undef,undef,x1] H)))
theorem Xp (G:ae)(n:Nat)(a0 a1:Value)(H:aa):run G (n+1) 66 [a0,a1] H=F66 (run G n) n a0 a1 H:=by
 unfold run;rw[ao (fn:=Tryz.f66) (keep:=[0,1,4,12,13,6,24,31,8,7,38,5]) (ar 66 rfl) (by kernel_rfl) (by kernel_rfl)]
 kernel_rfl
def OQ (C:ae)(n:Nat)(a0:Value)(H:aa):VH:= mv (Value.bool false) H λx0 H=>mv a0 H λx1 H=>af (pS (ai Tryz.prog .gtr 2 x1 (cv 8)) H) λx2 H=>mv x2 H λx3 H=>af (gd (ag x3 true) (some (a0,H)) H) λx4 H=>af (gd (ag x3 true) (pS (ai Tryz.prog .rem 2 x4 (cv 8)) H) H) λx5 H=>af (gd (ag x3 true) (pS (ai Tryz.prog .geq 2 x5 (cv 1)) H) H) λx6 H=>af (aI x3 x6 (Value.bool false) H) λx7 H=>mv x7 H λx8 H=>af (gd (ag x8 true) (some (a0,H)) H) λx9 H=>af (gd (ag x8 true) (pS (ai Tryz.prog .rem 2 x9 (cv 8)) H) H) λaG H=>af (gd (ag x8 true) (pS (ai Tryz.prog .leq 2 aG (cv 5)) H) H) λaN H=>af (aI x8 aN (Value.bool false) H) λaK H=>mv aK H λaJ H=>af (gd (ag aJ true) (some (a0,H)) H) λaP H=>af (gd (ag aJ true) (pS (ai Tryz.prog .quo 2 aP (cv 8)) H) H) λaT H=>af (gd (ag aJ true) (pS (ai Tryz.prog .leq 2 aT (cv 65536)) H) H) λaX H=>af (aI aJ aX (Value.bool false) H) λaU H=>mv aU H λbn H=>some (bn,H)
theorem Iy (G:ae)(n:Nat)(a0:Value)(H:aa):run G (n+1) 112 [a0] H=OQ (run G n) n a0 H:=by
 unfold run;rw[ao (fn:=Tryz.f112) (keep:=[0,2]) (ar 112 rfl) (by kernel_rfl) (by kernel_rfl)]
 kernel_rfl
abbrev oj (vs:List Value)(i:Nat):Value:=sl [0,1,4,3,8,9,15,23,32,33,41,5] vs i
def yX (C:ae)(n:Nat)(v0 v1 v4 v3 v8 v9 dy ux gJ kK qU v5:Value)(H:aa):VH:= mv (cv 0) H λx2 H=>some (x2,H)
def tq (C:ae)(n:Nat)(vs:List Value)(H:aa):VH:=yX C n (oj vs 0) (oj vs 1) (oj vs 4) (oj vs 3) (oj vs 8) (oj vs 9) (oj vs 15) (oj vs 23) (oj vs 32) (oj vs 33) (oj vs 41) (oj vs 5) H
theorem K8 (C:ae)(n:Nat)(v0 v1 v4 v3 v8 v9 dy ux gJ kK qU v5:Value)(H:aa):tq C n [v0,v1,v4,v3,v8,v9,dy,ux,gJ,kK,qU,v5] H=yX C n v0 v1 v4 v3 v8 v9 dy ux gJ kK qU v5 H:=by
 kernel_rfl
def Xq (C:ae)(n:Nat)(a0 a1:Value)(H:aa):VH:= af (cO 180 a1 H) λx0 H=>mv (cv 0) H λx1 H=>af (al 0 x0 H) λx3 H=>af (pS (aq x3 H) H) λx4 H=>af (pS (ai Tryz.prog .eql 3 x4 (cv 1)) H) λx5 H=>mv x5 H λx6 H=>aR x6 (mv a0 H λx7 H=>af (al 1 x0 H) λx8 H=>af (pS (aq x8 H) H) λx9 H=>af (C 125 [x7,x9] H) λaG H=>mv aG H λaN H=>some (aN,H)) (af (pS (ai Tryz.prog .eql 3 x4 (cv 2)) H) λaK H=>mv aK H λaJ H=>aR aJ (mv a0 H λaP H=>af (al 1 x0 H) λaT H=>af (pS (aq aT H) H) λaX H=>af (al 2 x0 H) λaU H=>af (pS (aq aU H) H) λbn H=>af (C 41 [aP,aX,bn] H) λbF H=>tq C n [a0,a1,x1,x0,x4,x6,aJ,undef,undef,undef,undef,undef] H) (af (pS (ai Tryz.prog .eql 3 x4 (cv 3)) H) λcd H=>mv cd H λbg H=>aR bg (mv a0 H λbG H=>af (al 1 x0 H) λbQ H=>af (pS (aq bQ H) H) λbW H=>af (al 2 x0 H) λcx H=>af (pS (aq cx H) H) λcB H=>af (al 3 x0 H) λcC H=>af (pS (aq cC H) H) λcH H=>af (C 126 [bG,bW,cB,cH] H) λcy H=>aR cy (mv (cv 1) H λcU H=>some (cU,H)) (tq C n [a0,a1,x1,x0,x4,x6,aJ,bg,cy,undef,undef,undef] H)) (af (pS (ai Tryz.prog .eql 3 x4 (cv 4)) H) λdP H=>mv dP H λcr H=>aR cr (mv a0 H λcM H=>af (al 1 x0 H) λdE H=>af (pS (aq dE H) H) λbN H=>af (al 2 x0 H) λcY H=>af (pS (aq cY H) H) λdF H=>af (C 127 [cM,bN,dF] H) λdJ H=>mv dJ H λdz H=>some (dz,H)) (af (pS (ai Tryz.prog .eql 3 x4 (cv 5)) H) λcS H=>mv cS H λdM H=>aR dM (mv a0 H λff H=>af (al 4 x0 H) λeD H=>af (pS (aq eD H) H) λeE H=>af (C 61 [ff,eE] H) λdQ H=>mv dQ H λdD H=>af (bP 0 dD H) λef H=>af (bP 1 dD H) λdN H=>mv ef H λdO H=>mv dN H λeV H=>mv dO H λdW H=>mv dW H λeS H=>some (eS,H)) (tq C n [a0,a1,x1,x0,x4,x6,aJ,bg,undef,cr,dM,undef] H)))))
theorem R1 (G:ae)(n:Nat)(a0 a1:Value)(H:aa):run G (n+1) 116 [a0,a1] H=Xq (run G n) n a0 a1 H:=by
 unfold run;rw[ao (fn:=Tryz.f116) (keep:=[0,1,4,3,8,9,15,23,32,33,41,5]) (ar 116 rfl) (by kernel_rfl) (by kernel_rfl)]
 kernel_rfl
def Xr (C:ae)(n:Nat)(a0 a1:Value)(H:aa):VH:= mv (cv 0) H λx0 H=>mv a0 H λx1 H=>mv a1 H λx2 H=>af (pS (aE Tryz.prog 180 [(0,(cv 1)),(1,x2)]) H) λx3 H=>af (C 163 [x1,x3] H) λx4 H=>mv x4 H λx5 H=>some (x5,H)
theorem R3 (G:ae)(n:Nat)(a0 a1:Value)(H:aa):run G (n+1) 146 [a0,a1] H=Xr (run G n) n a0 a1 H:=by
 unfold run;rw[ao (fn:=Tryz.f146) (keep:=[0,1,4]) (ar 146 rfl) (by kernel_rfl) (by kernel_rfl)]
 kernel_rfl
def Xs (C:ae)(n:Nat)(a0 a1 a2 a3:Value)(H:aa):VH:= mv (Value.slice none 0 0) H λx0 H=>mv a0 H λx1 H=>mv a1 H λx2 H=>mv a2 H λx3 H=>mv a3 H λx4 H=>af (au Tryz.prog 52 5 [(0,x1),(1,x2),(2,x3),(3,x4),(4,(cv 0))] H) λx5 H=>mv x5 H λx6 H=>some (x6,H)
theorem R5 (G:ae)(n:Nat)(a0 a1 a2 a3:Value)(H:aa):run G (n+1) 149 [a0,a1,a2,a3] H=Xs (run G n) n a0 a1 a2 a3 H:=by
 unfold run;rw[ao (fn:=Tryz.f149) (keep:=[0,1,2,3,8]) (ar 149 rfl) (by kernel_rfl) (by kernel_rfl)]
 kernel_rfl
abbrev oo (vs:List Value)(i:Nat):Value:=sl [0,1,2,6,7,13,8,9,10,33,40,11] vs i
def yY (C:ae)(n:Nat)(v0 v1 v2 v6 v7 aZ v8 v9 v10 kK iI v11:Value)(H:aa):VH:= mv v0 H λcH H=>af (aA cH H) λcy H=>af (al 2 cy H) λcU H=>af (pS (aq cU H) H) λdP H=>aR dP (mv (cv 0) H λcr H=>mv (Value.bool false) H λcM H=>some (Value.tuple #[cr,cM],H)) (mv v0 H λdE H=>mv v11 H λbN H=>af (C 140 [dE,bN] H) λcY H=>af (bP 0 cY H) λdF H=>af (bP 1 cY H) λdJ H=>mv dF H λdz H=>mv dJ H λcS H=>some (Value.tuple #[dz,cS],H))
def wg (C:ae)(n:Nat)(vs:List Value)(H:aa):VH:=yY C n (oo vs 0) (oo vs 1) (oo vs 2) (oo vs 6) (oo vs 7) (oo vs 13) (oo vs 8) (oo vs 9) (oo vs 10) (oo vs 33) (oo vs 40) (oo vs 11) H
theorem K9 (C:ae)(n:Nat)(v0 v1 v2 v6 v7 aZ v8 v9 v10 kK iI v11:Value)(H:aa):wg C n [v0,v1,v2,v6,v7,aZ,v8,v9,v10,kK,iI,v11] H=yY C n v0 v1 v2 v6 v7 aZ v8 v9 v10 kK iI v11 H:=by
 kernel_rfl
def Xt (C:ae)(n:Nat)(a0 a1 a2:Value)(H:aa):VH:= mv (cv 0) H λx0 H=>mv (Value.bool false) H λx1 H=>mv a2 H λx2 H=>af (pS (ai Tryz.prog .geq 3 x2 (cv 2)) H) λx3 H=>aR x3 (mv a2 H λx4 H=>af (C 95 [x4] H) λx5 H=>af (Nd x5 (cv 1) H) λx6 H=>mv x6 H λx7 H=>pB 1 H λhb H=>mv a0 H λx8 H=>mv a2 H λx9 H=>mv x7 H λaG H=>af (pS (ai Tryz.prog .sub 3 aG (cv 1)) H) λaN H=>af (UR 2 1 8 [(cv 0)] aN aN H) λaK H=>mv x7 H λaJ H=>af (Et (hb+0) (msB 2 1 8 [(cv 0)] aJ aJ) H) λaP H=>af (C 62 [x9,aK,aP] H) λaT H=>af (C 148 [x8,aT] H) λaX H=>mv aX H λaU H=>af (bP 0 aU H) λbn H=>af (bP 1 aU H) λbF H=>mv bn H λcd H=>mv bF H λbg H=>mv cd H λbG H=>af (C 63 [(cv 3),bG] H) λbQ H=>mv bg H λbW H=>mv bQ H λcx H=>mv bW H λcB H=>some (Value.tuple #[cx,cB],H)) (mv (Value.slice none 0 0) H λcC H=>mv a2 H λdM H=>af (pS (ai Tryz.prog .eql 3 dM (cv 1)) H) λff H=>aR ff (mv a0 H λeD H=>mv a1 H λeE H=>af (C 139 [eD,eE,(cv 0),(cv 1),(Value.slice none 0 0)] H) λdQ H=>mv dQ H λdD H=>wg C n [a0,a1,a2,x0,x1,x3,undef,undef,undef,ff,undef,dD] H) (wg C n [a0,a1,a2,x0,x1,x3,undef,undef,undef,ff,undef,cC] H))
theorem R6 (G:ae)(n:Nat)(a0 a1 a2:Value)(H:aa):run G (n+1) 155 [a0,a1,a2] H=Xt (run G n) n a0 a1 a2 H:=by
 unfold run;rw[ao (fn:=Tryz.f155) (keep:=[0,1,2,6,7,13,8,9,10,33,40,11]) (ar 155 rfl) (by kernel_rfl) (by kernel_rfl)]
 kernel_rfl
abbrev gi (vs:List Value)(i:Nat):Value:=sl [0,1,4,5,14,6,3,8,9,24,34,40,43,7] vs i
def yZ (C:ae)(n:Nat)(v0 v1 v4 v5 cp v6 v3 v8 v9 ik TO iI GN v7:Value)(H:aa):aV:= mv v0 H λx5 H=>af (aA x5 H) λx6 H=>af (al 2 x6 H) λx7 H=>af (pS (aq x7 H) H) λx8 H=>af (pS (hZ .not x8) H) λx9 H=>aR x9 (mv v0 H λaG H=>mv v6 H λaN H=>af (al 1 v3 H) λaK H=>af (pS (aq aK H) H) λaJ H=>af (C 151 [aG,aN,aJ] H) λaP H=>mv aP H λaT H=>mv v0 H λaX H=>mv aT H λaU H=>af (C 132 [aX,aU] H) λbn H=>mv bn H λbF H=>mv bF H λcd H=>af (C 92 [cd] H) λbg H=>af (pS (ai Tryz.prog .eql 3 bg (cv 4)) H) λbG H=>mv bG H λbQ H=>aR bQ (mv v0 H λbW H=>mv bF H λcx H=>af (C 91 [cx] H) λcB H=>af (C 141 [bW,cB] H) λcC H=>af (pS (hZ .not cC) H) λcH H=>aR cH (af (C 168 [] H) λcy H=>af (bS 6 v4 cy H) λcU H=>mv (Value.bool true) H λdP H=>fin .ret [v0,v1,v4,dP,x9,v6,v3,aT,bF,bg,bQ,cH,GN,v7] H) (af (pS (aE Tryz.prog 45 []) H) λcr H=>af (bS 6 v4 cr H) λcM H=>mv (Value.bool false) H λdE H=>fin .ret [v0,v1,v4,dE,x9,v6,v3,aT,bF,bg,bQ,cH,GN,v7] H)) (af (pS (ai Tryz.prog .eql 3 bg (cv 3)) H) λbN H=>mv bN H λcY H=>aR cY (mv v7 H λdF H=>mv v6 H λdJ H=>mv aT H λdz H=>mv bF H λcS H=>af (pS (aE Tryz.prog 138 [(0,dJ),(1,dz),(2,cS)]) H) λdM H=>af (au Tryz.prog 136 1 [(0,dM)] H) λff H=>af (cg 138 3 24 dF ff H) λeD H=>mv eD H λeE H=>mv bF H λdQ H=>af (C 91 [dQ] H) λdD H=>mv dD H λef H=>fin .normal [v0,v1,v4,v5,x9,ef,v3,aT,bF,bg,bQ,iI,cY,eE] H) (mv v0 H λdN H=>af (pS (cK 3 v3 H) H) λdO H=>mv v6 H λeV H=>mv aT H λdW H=>mv bF H λeS H=>mv v7 H λeJ H=>af (C 169 [dN,dO,eV,dW,eS,eJ] H) λfq H=>af (bP 0 fq H) λfM H=>af (bP 1 fq H) λeU H=>af (bS 6 v4 fM H) λgF H=>mv eU H λfE H=>fin .ret [v0,v1,v4,fE,x9,v6,v3,aT,bF,bg,bQ,iI,cY,v7] H))) (fin (.exit 0) [v0,v1,v4,v5,x9,v6,v3,v8,v9,ik,TO,iI,GN,v7] H)
def Iz (C:ae)(n:Nat)(vs:List Value)(H:aa):aV:=yZ C n (gi vs 0) (gi vs 1) (gi vs 4) (gi vs 5) (gi vs 14) (gi vs 6) (gi vs 3) (gi vs 8) (gi vs 9) (gi vs 24) (gi vs 34) (gi vs 40) (gi vs 43) (gi vs 7) H
theorem La (C:ae)(n:Nat)(v0 v1 v4 v5 cp v6 v3 v8 v9 ik TO iI GN v7:Value)(H:aa):Iz C n [v0,v1,v4,v5,cp,v6,v3,v8,v9,ik,TO,iI,GN,v7] H=yZ C n v0 v1 v4 v5 cp v6 v3 v8 v9 ik TO iI GN v7 H:=by
 kernel_rfl
def y6 (C:ae)(n:Nat)(v0 v1 v4 v5 cp v6 v3 v8 v9 ik TO iI GN v7:Value)(H:aa):VH:= af (pS (aE Tryz.prog 45 []) H) λiA H=>af (bS 6 v4 iA H) λjs H=>mv (Value.bool true) H λiG H=>af (pS (cK 6 v4 H) H) λr0 _=>some (Value.tuple #[r0,iG],H)
def IA (C:ae)(n:Nat)(vs:List Value)(H:aa):VH:=y6 C n (gi vs 0) (gi vs 1) (gi vs 4) (gi vs 5) (gi vs 14) (gi vs 6) (gi vs 3) (gi vs 8) (gi vs 9) (gi vs 24) (gi vs 34) (gi vs 40) (gi vs 43) (gi vs 7) H
theorem Lb (C:ae)(n:Nat)(v0 v1 v4 v5 cp v6 v3 v8 v9 ik TO iI GN v7:Value)(H:aa):IA C n [v0,v1,v4,v5,cp,v6,v3,v8,v9,ik,TO,iI,GN,v7] H=y6 C n v0 v1 v4 v5 cp v6 v3 v8 v9 ik TO iI GN v7 H:=by
 kernel_rfl
def Xu (C:ae)(n:Nat)(a0 a1:Value)(H:aa):VH:= af (cO 39 a1 H) λx0 H=>af (some (aO H 45 1 [(cv 0),(Value.bool false),(cv 0),(cv 0),(cv 0),(Value.slice none 0 0)])) λx1 H=>mv (Value.bool false) H λx2 H=>mv (cv 1) H λx3 H=>mv (Value.slice none 0 0) H λx4 H=>cN (iter n (Iz C n) [a0,a1,x1,x2,undef,x3,x0,undef,undef,undef,undef,undef,undef,x4] H) (dK 0 (dT (IA C n) (eG Tryz.prog [.cell 4 45,.tmp 5] [0,1,4,5,14,6,3,8,9,24,34,40,43,7])))
theorem R7 (G:ae)(n:Nat)(a0 a1:Value)(H:aa):run G (n+1) 160 [a0,a1] H=Xu (run G n) n a0 a1 H:=by
 unfold run;rw[ao (fn:=Tryz.f160) (keep:=[0,1,4,5,14,6,3,8,9,24,34,40,43,7]) (ar 160 rfl) (by kernel_rfl) (by kernel_rfl)]
 kernel_rfl
def R8 (C:ae)(n:Nat)(a0 a1:Value)(H:aa):VH:= af (cO 180 a1 H) λx0 H=>mv (cv 0) H λx1 H=>mv a0 H λx2 H=>af (aA x2 H) λx3 H=>af (al 2 x3 H) λx4 H=>af (pS (aq x4 H) H) λx5 H=>aR x5 (mv (cv 0) H λx6 H=>some (x6,H)) (mv a0 H λx7 H=>af (aA x7 H) λx8 H=>af (al 1 x8 H) λx9 H=>af (pS (aq x9 H) H) λaG H=>mv a0 H λaN H=>af (aA aN H) λaK H=>af (al 0 aK H) λaJ H=>af (pS (aq aJ H) H) λaP H=>af (pS (cw aP) H) λaT H=>af (pS (ai Tryz.prog .lss 3 aG aT) H) λaX H=>aR aX (mv a0 H λaU H=>af (aA aU H) λbn H=>af (al 1 bn H) λbF H=>af (pS (aq bF H) H) λcd H=>af (pS (ai Tryz.prog .add 3 cd (cv 1)) H) λbg H=>af (aA aU H) λbG H=>af (al 1 bG H) λbQ H=>af (bS 1 bQ bg H) λbW H=>mv a0 H λcx H=>af (aA cx H) λcB H=>af (al 0 cB H) λcC H=>af (pS (aq cC H) H) λcH H=>mv a0 H λcy H=>af (aA cy H) λcU H=>af (al 1 cU H) λdP H=>af (pS (aq dP H) H) λcr H=>af (pS (ai Tryz.prog .sub 3 cr (cv 1)) H) λcM H=>af (cq 1 cH cM H) λdE H=>af (pS (aq dE H) H) λbN H=>mv bN H λcY H=>some (cY,H)) (mv a0 H λdF H=>af (aA dF H) λdJ H=>af (al 2 dJ H) λdz H=>af (bS 1 dz (Value.bool true) H) λcS H=>mv a0 H λdM H=>af (pS (cK 5 x0 H) H) λff H=>af (aA dM H) λeD H=>af (al 3 eD H) λeE H=>af (bS 5 eE ff H) λdQ H=>mv (cv 0) H λdD H=>some (dD,H)))
theorem Dl (G:ae)(n:Nat)(a0 a1:Value)(H:aa):run G (n+1) 163 [a0,a1] H=R8 (run G n) n a0 a1 H:=by
 unfold run;rw[ao (fn:=Tryz.f163) (keep:=[0,1,4,8,18,3]) (ar 163 rfl) (by kernel_rfl) (by kernel_rfl)]
 kernel_rfl
abbrev dk (vs:List Value)(i:Nat):Value:=sl [0,1,2,6,19,9,24,7,8,33,49,54] vs i
def y7 (C:ae)(n:Nat)(v0 v1 v2 v6 gY v9 ik v7 v8 kK gl ji:Value)(H:aa):aV:= mv v9 H λbg H=>af (pS (ai Tryz.prog .sub 3 bg (cv 1)) H) λbG H=>mv bG H λbQ H=>fin .normal [v0,v1,v2,v6,gY,bQ,ik,v7,v8,kK,gl,ji] H
def tu (C:ae)(n:Nat)(vs:List Value)(H:aa):aV:=y7 C n (dk vs 0) (dk vs 1) (dk vs 2) (dk vs 6) (dk vs 19) (dk vs 9) (dk vs 24) (dk vs 7) (dk vs 8) (dk vs 33) (dk vs 49) (dk vs 54) H
theorem Lc (C:ae)(n:Nat)(v0 v1 v2 v6 gY v9 ik v7 v8 kK gl ji:Value)(H:aa):tu C n [v0,v1,v2,v6,gY,v9,ik,v7,v8,kK,gl,ji] H=y7 C n v0 v1 v2 v6 gY v9 ik v7 v8 kK gl ji H:=by
 kernel_rfl
def y8 (C:ae)(n:Nat)(v0 v1 v2 v6 gY v9 ik v7 v8 kK gl ji:Value)(H:aa):aV:= mv v2 H λcC H=>mv v9 H λcH H=>af (qS .u64 cH H) λcy H=>af (pS (ai Tryz.prog .shr 3 cC cy) H) λcU H=>af (pS (ai Tryz.prog .and 3 cU (cv 1)) H) λdP H=>af (pS (ai Tryz.prog .eql 3 dP (cv 0)) H) λcr H=>aR cr (tu C n [v0,v1,v2,v6,gY,v9,ik,v7,v8,kK,cr,ji] H) (mv v0 H λcM H=>mv v1 H λdE H=>mv v8 H λbN H=>af (pS (ai Tryz.prog .sub 215 dE bN) H) λcY H=>af (pS (ai Tryz.prog .geq 215 cM cY) H) λdF H=>aR dF (mv v7 H λdJ H=>af (pS (ai Tryz.prog .add 3 dJ (cv 1)) H) λdz H=>mv dz H λcS H=>mv v8 H λdM H=>mv v1 H λff H=>mv v0 H λeD H=>af (pS (ai Tryz.prog .sub 215 ff eD) H) λeE H=>af (pS (ai Tryz.prog .sub 215 dM eE) H) λdQ H=>mv dQ H λdD H=>tu C n [v0,v1,v2,v6,gY,v9,ik,cS,dD,kK,cr,dF] H) (mv v8 H λef H=>mv v0 H λdN H=>af (pS (ai Tryz.prog .add 215 ef dN) H) λdO H=>mv dO H λeV H=>tu C n [v0,v1,v2,v6,gY,v9,ik,v7,eV,kK,cr,dF] H))
def wh (C:ae)(n:Nat)(vs:List Value)(H:aa):aV:=y8 C n (dk vs 0) (dk vs 1) (dk vs 2) (dk vs 6) (dk vs 19) (dk vs 9) (dk vs 24) (dk vs 7) (dk vs 8) (dk vs 33) (dk vs 49) (dk vs 54) H
theorem Ld (C:ae)(n:Nat)(v0 v1 v2 v6 gY v9 ik v7 v8 kK gl ji:Value)(H:aa):wh C n [v0,v1,v2,v6,gY,v9,ik,v7,v8,kK,gl,ji] H=y8 C n v0 v1 v2 v6 gY v9 ik v7 v8 kK gl ji H:=by
 kernel_rfl
def y9 (C:ae)(n:Nat)(v0 v1 v2 v6 gY v9 ik v7 v8 kK gl ji:Value)(H:aa):aV:= mv v9 H λbF H=>af (pS (ai Tryz.prog .geq 3 bF (cv 0)) H) λcd H=>aR cd (mv v7 H λbW H=>af (pS (ai Tryz.prog .mul 3 (cv 2) bW) H) λcx H=>mv cx H λcB H=>mv v8 H λdW H=>mv v1 H λeS H=>mv v8 H λeJ H=>af (pS (ai Tryz.prog .sub 215 eS eJ) H) λfq H=>af (pS (ai Tryz.prog .geq 215 dW fq) H) λfM H=>aR fM (mv cB H λeU H=>af (pS (ai Tryz.prog .add 3 eU (cv 1)) H) λgF H=>mv gF H λfE H=>mv v8 H λiA H=>mv v1 H λjs H=>mv v8 H λiG H=>af (pS (ai Tryz.prog .sub 215 js iG) H) λfw H=>af (pS (ai Tryz.prog .sub 215 iA fw) H) λij H=>mv ij H λku H=>wh C n [v0,v1,v2,v6,gY,v9,cd,fE,ku,fM,gl,ji] H) (mv v8 H λjG H=>mv v8 H λgv H=>af (pS (ai Tryz.prog .add 215 jG gv) H) λlM H=>mv lM H λjg H=>wh C n [v0,v1,v2,v6,gY,v9,cd,cB,jg,fM,gl,ji] H)) (fin (.exit 0) [v0,v1,v2,v6,gY,v9,cd,v7,v8,kK,gl,ji] H)
def IB (C:ae)(n:Nat)(vs:List Value)(H:aa):aV:=y9 C n (dk vs 0) (dk vs 1) (dk vs 2) (dk vs 6) (dk vs 19) (dk vs 9) (dk vs 24) (dk vs 7) (dk vs 8) (dk vs 33) (dk vs 49) (dk vs 54) H
theorem Le (C:ae)(n:Nat)(v0 v1 v2 v6 gY v9 ik v7 v8 kK gl ji:Value)(H:aa):IB C n [v0,v1,v2,v6,gY,v9,ik,v7,v8,kK,gl,ji] H=y9 C n v0 v1 v2 v6 gY v9 ik v7 v8 kK gl ji H:=by
 kernel_rfl
def zd (C:ae)(n:Nat)(v0 v1 v2 v6 gY v9 ik v7 v8 kK gl ji:Value)(H:aa):VH:= mv v7 H λjh H=>mv jh H λjB H=>some (jB,H)
def IC (C:ae)(n:Nat)(vs:List Value)(H:aa):VH:=zd C n (dk vs 0) (dk vs 1) (dk vs 2) (dk vs 6) (dk vs 19) (dk vs 9) (dk vs 24) (dk vs 7) (dk vs 8) (dk vs 33) (dk vs 49) (dk vs 54) H
theorem Lf (C:ae)(n:Nat)(v0 v1 v2 v6 gY v9 ik v7 v8 kK gl ji:Value)(H:aa):IC C n [v0,v1,v2,v6,gY,v9,ik,v7,v8,kK,gl,ji] H=zd C n v0 v1 v2 v6 gY v9 ik v7 v8 kK gl ji H:=by
 kernel_rfl
def Xv (C:ae)(n:Nat)(a0 a1 a2:Value)(H:aa):VH:= mv (cv 0) H λx0 H=>mv a1 H λx1 H=>af (pS (ai Tryz.prog .eql 215 x1 (Value.int .u64 (0))) H) λx2 H=>mv x2 H λx3 H=>af (gd (ag x3 false) (some (a2,H)) H) λx4 H=>af (gd (ag x3 false) (pS (ai Tryz.prog .lss 3 x4 (cv 1)) H) H) λx5 H=>af (aI x3 (Value.bool true) x5 H) λx6 H=>mv x6 H λx7 H=>af (gd (ag x7 false) (some (a2,H)) H) λx8 H=>af (gd (ag x7 false) (pS (ai Tryz.prog .gtr 3 x8 (cv 65536)) H) H) λx9 H=>af (aI x7 (Value.bool true) x9 H) λaG H=>aR aG (mv (cv 0) H λaN H=>some (aN,H)) (mv a0 H λaK H=>mv a1 H λaJ H=>af (aae aK aJ H) λaP H=>mv aP H λaT H=>mv (cv 0) H λaX H=>mv (Value.int .u64 (0)) H λaU H=>mv (cv 16) H λbn H=>cN (iter n (IB C n) [aT,a1,a2,x0,aG,bn,undef,aX,aU,undef,undef,undef] H) (dK 0 (dT (IC C n) (eG Tryz.prog [.tmp 6] [0,1,2,6,19,9,24,7,8,33,49,54]))))
theorem R9 (G:ae)(n:Nat)(a0 a1 a2:Value)(H:aa):run G (n+1) 164 [a0,a1,a2] H=Xv (run G n) n a0 a1 a2 H:=by
 unfold run;rw[ao (fn:=Tryz.f164) (keep:=[0,1,2,6,19,9,24,7,8,33,49,54]) (ar 164 rfl) (by kernel_rfl) (by kernel_rfl)]
 kernel_rfl
end Go.Proofs.YtjgmnoaalbbonaaGreat.Fun
end
