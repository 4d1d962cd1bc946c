/- Texts of the proof of dcssPlays_holds, put together by a small program of ours (names shortened, spaces taken out). No condition beyond the given statement. -/
import Derived.Test.YtgfgglponbmgmaaGreatDCP9
set_option linter.unusedVariables false
set_option linter.unusedSimpArgs false
set_option linter.unnecessarySimpa false
noncomputable section
section
namespace Go.Proofs.YtgfgglponbmgmaaGreat.Fun
open Go.RowKit Go.Proofs.YtgfgglponbmgmaaGreatA.Am
set_option maxRecDepth 10000
abbrev O0 (vs:List Value)(i:Nat):Value:=sl [0,1,4,5,10] vs i
def Cy (C:ae)(n:Nat)(v0 v1 v4 v5 v10:Value)(H:aa):VH:= mv v5 H λx5 H=>mv x5 H λx6 H=>some (x6,H)
def GL (C:ae)(n:Nat)(vs:List Value)(H:aa):VH:=Cy C n (O0 vs 0) (O0 vs 1) (O0 vs 4) (O0 vs 5) (O0 vs 10) H
theorem O1 (C:ae)(n:Nat)(v0 v1 v4 v5 v10:Value)(H:aa):GL C n [v0,v1,v4,v5,v10] H=Cy C n v0 v1 v4 v5 v10 H:=by
 kernel_rfl
def F18 (C:ae)(n:Nat)(a0 a1:Value)(H:aa):VH:= mv (cv 0) H λx0 H=>mv a0 H λx1 H=>mv a1 H λx2 H=>af (pS (ai Tryz.prog .rem 3 x1 x2) H) λx3 H=>mv x3 H λx4 H=>mv x4 H λx7 H=>af (pS (ai Tryz.prog .lss 3 x7 (cv 0)) H) λx8 H=>aT x8 (mv x4 H λx9 H=>mv a1 H λaD H=>af (pS (ai Tryz.prog .add 3 x9 aD) H) λaN H=>mv aN H λaP H=>GL C n [a0,a1,x0,aP,x8] H) (GL C n [a0,a1,x0,x4,x8] H)
theorem XF (G:ae)(n:Nat)(a0 a1:Value)(H:aa):run G (n+1) 18 [a0,a1] H=F18 (run G n) n a0 a1 H:=by
 unfold run;rw[ao (fn:=Tryz.f18) (keep:=[0,1,4,5,10]) (av 18 rfl) (by kernel_rfl) (by kernel_rfl)]
 kernel_rfl
def F32 (C:ae)(n:Nat)(a0 a1:Value)(H:aa):VH:= mv (cv 0) H λx0 H=>mv a1 H λx1 H=>af (pS (ai Tryz.prog .lss 3 x1 (cv 1)) H) λx2 H=>mv x2 H λx3 H=>af (gd (ag x3 false) (some (a1,H)) H) λx4 H=>af (gd (ag x3 false) (some (a0,H)) H) λx5 H=>af (gd (ag x3 false) (au x5 H) H) λx6 H=>af (gd (ag x3 false) (ak 0 x6 H) H) λx7 H=>af (gd (ag x3 false) (pS (aq x7 H) H) H) λx8 H=>af (gd (ag x3 false) (pS (cD x8) H) H) λx9 H=>af (gd (ag x3 false) (pS (ai Tryz.prog .gtr 3 x4 x9) H) H) λaD H=>af (aL x3 (Value.bool true) aD H) λaN H=>aT aN (mv (cv 0) H λaP H=>some (aP,H)) (mv a0 H λaG H=>af (au aG H) λaM H=>af (ak 0 aM H) λaR H=>af (pS (aq aR H) H) λaX H=>mv a1 H λbf H=>af (pS (ai Tryz.prog .sub 3 bf (cv 1)) H) λaZ H=>af (cH 1 aX aZ H) λbB H=>af (pS (aq bB H) H) λbT H=>mv bT H λbq H=>some (bq,H))
theorem XG (G:ae)(n:Nat)(a0 a1:Value)(H:aa):run G (n+1) 32 [a0,a1] H=F32 (run G n) n a0 a1 H:=by
 unfold run;rw[ao (fn:=Tryz.f32) (keep:=[0,1,4,15]) (av 32 rfl) (by kernel_rfl) (by kernel_rfl)]
 kernel_rfl
def F36 (C:ae)(n:Nat)(H:aa):VH:= mv (Value.slice none 0 0) H λx0 H=>af (ay Tryz.prog 42 1 [(0,(cv 0))] H) λx1 H=>mv x1 H λx2 H=>some (x2,H)
theorem O2 (G:ae)(n:Nat)(H:aa):run G (n+1) 36 [] H=F36 (run G n) n H:=by
 unfold run;rw[ao (fn:=Tryz.f36) (keep:=[0]) (av 36 rfl) (by kernel_rfl) (by kernel_rfl)]
 kernel_rfl
def F41 (C:ae)(n:Nat)(a0:Value)(H:aa):VH:= mv (Value.bool false) H λx0 H=>mv a0 H λx1 H=>af (au x1 H) λx2 H=>af (ak 0 x2 H) λx3 H=>af (pS (aq x3 H) H) λx4 H=>af (pS (ai Tryz.prog .eql 3 x4 (cv 6)) H) λx5 H=>mv x5 H λx6 H=>some (x6,H)
theorem XH (G:ae)(n:Nat)(a0:Value)(H:aa):run G (n+1) 41 [a0] H=F41 (run G n) n a0 H:=by
 unfold run;rw[ao (fn:=Tryz.f41) (keep:=[0,2]) (av 41 rfl) (by kernel_rfl) (by kernel_rfl)]
 kernel_rfl
def F50 (C:ae)(n:Nat)(a0:Value)(H:aa):VH:= mv (Value.slice none 0 0) H λx0 H=>mv a0 H λx1 H=>mv a0 H λx2 H=>af (C 53 [x2,(cv 6)] H) λx3 H=>af (pS (aE Tryz.prog 69 [(0,(cv 1)),(1,(cv 6))]) H) λx4 H=>af (ay Tryz.prog 93 1 [(0,x4)] H) λx5 H=>af (C 81 [x1,x3,x5] H) λx6 H=>mv x6 H λx7 H=>some (x7,H)
theorem XI (G:ae)(n:Nat)(a0:Value)(H:aa):run G (n+1) 50 [a0] H=F50 (run G n) n a0 H:=by
 unfold run;rw[ao (fn:=Tryz.f50) (keep:=[0,2]) (av 50 rfl) (by kernel_rfl) (by kernel_rfl)]
 kernel_rfl
def F62 (C:ae)(n:Nat)(a0:Value)(H:aa):VH:= mv (Value.pointer none) H λx0 H=>mv (cv 0) H λx1 H=>mv a0 H λx2 H=>af (pS (ai Tryz.prog .lss 3 x2 (cv 1)) H) λx3 H=>mv x3 H λx4 H=>af (gd (ag x4 false) (some (a0,H)) H) λx5 H=>af (gd (ag x4 false) (pS (ai Tryz.prog .gtr 3 x5 (cv 65536)) H) H) λx6 H=>af (aL x4 (Value.bool true) x6 H) λx7 H=>aT x7 (mv (Value.pointer none) H λx8 H=>mv (cv 1) H λx9 H=>some (Value.tuple #[x8,x9],H)) (mv a0 H λaD H=>af (pS (aE Tryz.prog 126 [(1,aD)]) H) λaN H=>af (dK 126 aN H) λaP H=>mv aP H λaG H=>mv (cv 0) H λaM H=>some (Value.tuple #[aG,aM],H))
theorem XJ (G:ae)(n:Nat)(a0:Value)(H:aa):run G (n+1) 62 [a0] H=F62 (run G n) n a0 H:=by
 unfold run;rw[ao (fn:=Tryz.f62) (keep:=[0,2,3,9]) (av 62 rfl) (by kernel_rfl) (by kernel_rfl)]
 kernel_rfl
def F65 (C:ae)(n:Nat)(a0 a1 a2 a3:Value)(H:aa):VH:= mv (Value.slice none 0 0) H λx0 H=>mv a0 H λx1 H=>mv a1 H λx2 H=>mv a2 H λx3 H=>mv a3 H λx4 H=>af (ay Tryz.prog 42 5 [(0,x1),(1,x2),(2,x3),(3,x4),(4,(cv 0))] H) λx5 H=>mv x5 H λx6 H=>some (x6,H)
theorem XK (G:ae)(n:Nat)(a0 a1 a2 a3:Value)(H:aa):run G (n+1) 65 [a0,a1,a2,a3] H=F65 (run G n) n a0 a1 a2 a3 H:=by
 unfold run;rw[ao (fn:=Tryz.f65) (keep:=[0,1,2,3,8]) (av 65 rfl) (by kernel_rfl) (by kernel_rfl)]
 kernel_rfl
def F69 (C:ae)(n:Nat)(a0:Value)(H:aa):VH:= mv a0 H λx0 H=>af (C 70 [x0] H) λx1 H=>mv x1 H λx2 H=>af (cp 0 x2 H) λx3 H=>af (cp 1 x2 H) λx4 H=>af (some (aS H 49 1 [(cv 0),(Value.bool false),(cv 0),(cv 0),(cv 0),(Value.slice none 0 0),(Value.slice none 0 0),(cv 0),(Value.bool false),(cv 0),(cv 0),(cv 0),(Value.slice none 0 0)])) λx5 H=>mv x3 H λx6 H=>af (bD 13 x5 x4 H) λx7 H=>mv a0 H λx8 H=>mv x6 H λx9 H=>af (au x9 H) λaD H=>af (ak 8 aD H) λaN H=>af (pS (aq aN H) H) λaP H=>af (au x8 H) λaG H=>af (ak 37 aG H) λaM H=>af (bD 1 aM aP H) λaR H=>mv a0 H λaX H=>mv x6 H λbf H=>af (au bf H) λaZ H=>af (ak 9 aZ H) λbB H=>af (pS (aq bB H) H) λbT H=>af (au aX H) λbq H=>af (ak 38 bq H) λbE H=>af (bD 1 bE bT H) λbN H=>mv x6 H λbQ H=>af (au bQ H) λbX H=>af (ak 2 bX H) λcg H=>af (pS (aq cg H) H) λcM H=>af (pS (ik .not cM) H) λcd H=>aT cd (mv a0 H λbU H=>af (au bU H) λcr H=>af (ak 23 cr H) λcX H=>af (bD 1 cX (Value.bool true) H) λbR H=>mv a0 H λcw H=>af (pS (df 13 x5 H) H) λdF H=>af (au cw H) λbJ H=>af (ak 24 bJ H) λcq H=>af (bD 13 cq dF H) λdR H=>some (Value.tuple #[],H)) (some (Value.tuple #[],H))
theorem XL (G:ae)(n:Nat)(a0:Value)(H:aa):run G (n+1) 69 [a0] H=F69 (run G n) n a0 H:=by
 unfold run;rw[ao (fn:=Tryz.f69) (keep:=[0,2,27,3]) (av 69 rfl) (by kernel_rfl) (by kernel_rfl)]
 kernel_rfl
abbrev vd (vs:List Value)(i:Nat):Value:=sl [0,2,4,13,3,5] vs i
def Cz (C:ae)(n:Nat)(v0 v2 v4 aV v3 v5:Value)(H:aa):bk:= mv v4 H λx3 H=>mv v0 H λx4 H=>af (pS (cD x4) H) λx5 H=>af (pS (ai Tryz.prog .lss 3 x3 x5) H) λx6 H=>mv x6 H λx7 H=>af (gd (ag x7 true) (some (v4,H)) H) λx8 H=>af (gd (ag x7 true) (pS (ai Tryz.prog .lss 3 x8 (cv 60)) H) H) λx9 H=>af (aL x7 x9 (Value.bool false) H) λaD H=>aT aD (mv v0 H λaN H=>mv v4 H λaP H=>af (cH 1 aN aP H) λaG H=>af (pS (aq aG H) H) λaM H=>af (C 18 [aM,(cv 97)] H) λaR H=>af (pS (ai Tryz.prog .sub 3 aR (cv 40)) H) λaX H=>mv aX H λbf H=>mv v3 H λaZ H=>mv bf H λbB H=>mv v4 H λbT H=>af (C 110 [aZ,bB,bT] H) λbq H=>mv bq H λbE H=>mv v4 H λbN H=>af (pS (ai Tryz.prog .add 3 bN (cv 1)) H) λbQ H=>mv bQ H λbX H=>fin .normal [v0,v2,bX,aD,bE,bf] H) (fin (.exit 0) [v0,v2,v4,aD,v3,v5] H)
def O3 (C:ae)(n:Nat)(vs:List Value)(H:aa):bk:=Cz C n (vd vs 0) (vd vs 2) (vd vs 4) (vd vs 13) (vd vs 3) (vd vs 5) H
theorem O4 (C:ae)(n:Nat)(v0 v2 v4 aV v3 v5:Value)(H:aa):O3 C n [v0,v2,v4,aV,v3,v5] H=Cz C n v0 v2 v4 aV v3 v5 H:=by
 kernel_rfl
def CA (C:ae)(n:Nat)(v0 v2 v4 aV v3 v5:Value)(H:aa):VH:= mv v3 H λcg H=>mv cg H λcM H=>some (cM,H)
def O5 (C:ae)(n:Nat)(vs:List Value)(H:aa):VH:=CA C n (vd vs 0) (vd vs 2) (vd vs 4) (vd vs 13) (vd vs 3) (vd vs 5) H
theorem O6 (C:ae)(n:Nat)(v0 v2 v4 aV v3 v5:Value)(H:aa):O5 C n [v0,v2,v4,aV,v3,v5] H=CA C n v0 v2 v4 aV v3 v5 H:=by
 kernel_rfl
def F86 (C:ae)(n:Nat)(a0:Value)(H:aa):VH:= mv (Value.slice none 0 0) H λx0 H=>mv (Value.slice none 0 0) H λx1 H=>mv (cv 0) H λx2 H=>cm (iter n (O3 C n) [a0,x0,x2,undef,x1,undef] H) (dJ 0 (dQ (O5 C n) (ek Tryz.prog [.tmp 2] [0,2,4,13,3,5])))
theorem XM (G:ae)(n:Nat)(a0:Value)(H:aa):run G (n+1) 86 [a0] H=F86 (run G n) n a0 H:=by
 unfold run;rw[ao (fn:=Tryz.f86) (keep:=[0,2,4,13,3,5]) (av 86 rfl) (by kernel_rfl) (by kernel_rfl)]
 kernel_rfl
def XN (C:ae)(n:Nat)(a0 a1:Value)(H:aa):VH:= af (some (aS H 47 1 [(cv 0),(Value.bool false),(cv 0),(cv 0),(cv 0),(Value.slice none 0 0)])) λx0 H=>mv (Value.bool false) H λx1 H=>mv a0 H λx2 H=>af (au x2 H) λx3 H=>af (ak 1 x3 H) λx4 H=>af (pS (aq x4 H) H) λx5 H=>af (pS (ik .not x5) H) λx6 H=>aT x6 (af (pS (aE Tryz.prog 47 []) H) λx7 H=>af (bD 6 x0 x7 H) λx8 H=>mv (Value.bool false) H λx9 H=>af (pS (df 6 x0 H) H) λr0 _=>some (Value.tuple #[r0,x9],H)) (mv a0 H λaD H=>af (au aD H) λaN H=>af (ak 6 aN H) λaP H=>af (pS (aq aP H) H) λaG H=>af (pS (ai Tryz.prog .add 3 aG (cv 1)) H) λaM H=>af (au aD H) λaR H=>af (ak 6 aR H) λaX H=>af (bD 1 aX aM H) λbf H=>mv a0 H λaZ H=>af (au aZ H) λbB H=>af (ak 5 bB H) λbT H=>af (pS (aq bT H) H) λbq H=>mv a1 H λbE H=>af (C 20 [bq,bE] H) λbN H=>af (pS (ik .not bN) H) λbQ H=>aT bQ (af (pS (aE Tryz.prog 47 []) H) λbX H=>af (bD 6 x0 bX H) λcg H=>mv (Value.bool false) H λcM H=>af (pS (df 6 x0 H) H) λr0 _=>some (Value.tuple #[r0,cM],H)) (mv a0 H λcd H=>af (au cd H) λbU H=>af (ak 1 bU H) λcr H=>af (bD 1 cr (Value.bool false) H) λcX H=>mv a0 H λbR H=>af (au bR H) λcw H=>af (ak 5 cw H) λdF H=>af (pS (aq dF H) H) λbJ H=>af (au bJ H) λcq H=>af (ak 24 cq H) λdR H=>af (ak 7 dR H) λdh H=>af (pS (df 6 dh H) H) λcW H=>af (bD 6 x0 cW H) λcJ H=>mv (Value.bool true) H λcP H=>af (pS (df 6 x0 H) H) λr0 _=>some (Value.tuple #[r0,cP],H)))
theorem Sk (G:ae)(n:Nat)(a0 a1:Value)(H:aa):run G (n+1) 101 [a0,a1] H=XN (run G n) n a0 a1 H:=by
 unfold run;rw[ao (fn:=Tryz.f101) (keep:=[0,1,4,5,10,25]) (av 101 rfl) (by kernel_rfl) (by kernel_rfl)]
 kernel_rfl
abbrev pZ (vs:List Value)(i:Nat):Value:=sl [0,2,10,3,46] vs i
def xV (C:ae)(n:Nat)(v0 v2 v10 v3 xW:Value)(H:aa):bk:= mv v2 H λx8 H=>af (pS (ai Tryz.prog .add 3 x8 (cv 1)) H) λx9 H=>mv x9 H λaD H=>fin .normal [v0,aD,v10,v3,xW] H
def vI (C:ae)(n:Nat)(vs:List Value)(H:aa):bk:=xV C n (pZ vs 0) (pZ vs 2) (pZ vs 10) (pZ vs 3) (pZ vs 46) H
theorem Li (C:ae)(n:Nat)(v0 v2 v10 v3 xW:Value)(H:aa):vI C n [v0,v2,v10,v3,xW] H=xV C n v0 v2 v10 v3 xW H:=by
 kernel_rfl
def xX (C:ae)(n:Nat)(v0 v2 v10 v3 xW:Value)(H:aa):bk:= mv v2 H λx1 H=>mv v0 H λx2 H=>af (au x2 H) λx3 H=>af (ak 4 x3 H) λx4 H=>af (pS (aq x4 H) H) λx5 H=>af (pS (cD x5) H) λx6 H=>af (pS (ai Tryz.prog .lss 3 x1 x6) H) λx7 H=>aT x7 (mv v0 H λaN H=>af (au aN H) λaP H=>af (ak 4 aP H) λaG H=>af (pS (aq aG H) H) λaM H=>mv v2 H λaR H=>af (cH 1 aM aR H) λaX H=>af (pS (aq aX H) H) λbf H=>mv bf H λaZ H=>mv aZ H λbB rV=>af (au bB rV) λbT rW=>af (ak 1 bT rW) λbq rX=>af (pS (aq bq rX) rX) λbE xF=>af (some (bE,xF)) λbN nm=>af (gd (ag bN true) (some (aZ,nm)) nm) λbQ nY=>af (gd (ag bN true) (au bQ nY) nY) λbX va=>af (gd (ag bN true) (ak 7 bX va) va) λcg vb=>af (gd (ag bN true) (pS (aq cg vb) vb) vb) λcM EA=>af (gd (ag bN true) (pS (ik .not cM) EA) EA) λcd tM=>af (aL bN cd (Value.bool false) tM) λbU tN=>af (some (bU,tN)) λcr GF=>af (gd (ag cr true) (some (aZ,GF)) GF) λcX RL=>af (gd (ag cr true) (C 129 [cX] RL) RL) λbR RM=>af (gd (ag cr true) (pS (ai Tryz.prog .gtr 3 bR (cv 0)) RM) RM) λcw qE=>af (aL cr cw (Value.bool false) qE) λdF qF=>af (some (dF,qF)) λbJ rN=>af (gd (ag bJ true) (some (v0,rN)) rN) λcq Eo=>af (gd (ag bJ true) (au cq Eo) Eo) λdR tH=>af (gd (ag bJ true) (ak 3 dR tH) tH) λdh pH=>af (gd (ag bJ true) (pS (aq dh pH) pH) pH) λcW nf=>af (gd (ag bJ true) (some (aZ,nf)) nf) λcJ lf=>af (gd (ag bJ true) (C 129 [cJ] lf) lf) λcP rO=>af (gd (ag bJ true) (pS (ai Tryz.prog .add 3 cP (cv 4)) rO) rO) λeU tJ=>af (gd (ag bJ true) (C 33 [cW,eU] tJ) tJ) λdW mK=>af (gd (ag bJ true) (pS (ai Tryz.prog .eql 2 dW (cv 1)) mK) mK) λeD tK=>af (aL bJ eD (Value.bool false) tK) λdX tL=>if(lC (ag bJ true) (ag bJ true) (pS (aq dh pH) pH) (pS (aq dh lf) lf) (pS (aq dh rO) rO)&&true)=true then(λH=>aT dX (mv aZ H λdv H=>af (au dv H) λdL H=>af (ak 7 dL H) λcZ H=>af (bD 1 cZ (Value.bool true) H) λcL H=>mv v0 H λeG Cp=>af (some (v0,Cp)) λef mM=>af (au ef mM) λdY nX=>af (ak 5 dY nX) λdU nj=>af (pS (aq dU nj) nj) λeA tP=>af (some (v2,tP)) λfF GK=>af (some (aZ,GK)) λdP sh=>af (au dP sh) λiC Cw=>af (ak 8 iC Cw) λeh tT=>af (pS (aq eh tT) tT) λgQ EB=>af (some (v0,EB)) λja Ak=>af (au ja Ak) λig qI=>af (ak 7 ig qI) λeX oH=>af (pS (aq eX oH) oH) λjb u7=>af (pS (aE Tryz.prog 155 [(0,(cv 2)),(1,fF),(2,gQ),(5,jb)]) u7) λkl tQ=>af (ay Tryz.prog 63 1 [(0,kl)] tQ) λjk pI=>af (dj 155 13 120 eA jk pI) λfR qH=>af (au eG qH) λkO Eu=>af (ak 5 kO Eu) λfM GI=>af (bD 1 fM fR GI) λhZ Ew=>if(lC (some true) (some true) (pS (aq dU nj) nj) (pS (aq dU tQ) tQ) (pS (aq dU pI) pI)&&true)=true then(λH=>vI C n [v0,v2,x7,aZ,dX] H) Ew else none) (vI C n [v0,v2,x7,aZ,dX] H)) tL else none) (fin (.exit 0) [v0,v2,x7,v3,xW] H)
def II (C:ae)(n:Nat)(vs:List Value)(H:aa):bk:=xX C n (pZ vs 0) (pZ vs 2) (pZ vs 10) (pZ vs 3) (pZ vs 46) H
theorem Lj (C:ae)(n:Nat)(v0 v2 v10 v3 xW:Value)(H:aa):II C n [v0,v2,v10,v3,xW] H=xX C n v0 v2 v10 v3 xW H:=by
 kernel_rfl
def XO (C:ae)(n:Nat)(a0:Value)(H:aa):VH:= mv (cv 0) H λx0 H=>cm (iter n (II C n) [a0,x0,undef,undef,undef] H) (dJ 0 (ek Tryz.prog [] [0,2,10,3,46]))
theorem Sl (G:ae)(n:Nat)(a0:Value)(H:aa):run G (n+1) 102 [a0] H=XO (run G n) n a0 H:=by
 unfold run;rw[ao (fn:=Tryz.f102) (keep:=[0,2,10,3,46]) (av 102 rfl) (by kernel_rfl) (by kernel_rfl)]
 kernel_rfl
def XP (C:ae)(n:Nat)(a0:Value)(H:aa):VH:= mv (Value.bool false) H λx0 H=>mv a0 H λx1 H=>af (C 132 [x1] H) λx2 H=>mv x2 H λx3 H=>af (gd (ag x3 true) (some (a0,H)) H) λx4 H=>af (gd (ag x3 true) (pS (cD x4) H) H) λx5 H=>af (gd (ag x3 true) (pS (ai Tryz.prog .leq 3 x5 (cv 16384)) H) H) λx6 H=>af (aL x3 x6 (Value.bool false) H) λx7 H=>mv x7 H λx8 H=>some (x8,H)
theorem Sm (G:ae)(n:Nat)(a0:Value)(H:aa):run G (n+1) 107 [a0] H=XP (run G n) n a0 H:=by
 unfold run;rw[ao (fn:=Tryz.f107) (keep:=[0,2]) (av 107 rfl) (by kernel_rfl) (by kernel_rfl)]
 kernel_rfl
def XQ (C:ae)(n:Nat)(a0:Value)(H:aa):VH:= mv (cv 0) H λx0 H=>mv a0 H λx1 H=>af (au x1 H) λx2 H=>af (ak 1 x2 H) λx3 H=>af (pS (aq x3 H) H) λx4 H=>af (pS (ik .not x4) H) λx5 H=>aT x5 (mv (cv 0) H λx6 H=>some (x6,H)) (mv a0 H λx7 H=>af (au x7 H) λx8 H=>af (ak 5 x8 H) λx9 H=>af (pS (aq x9 H) H) λaD H=>af (au aD H) λaN H=>af (ak 38 aN H) λaP H=>af (pS (aq aP H) H) λaG H=>mv aG H λaM H=>some (aM,H))
theorem Sn (G:ae)(n:Nat)(a0:Value)(H:aa):run G (n+1) 129 [a0] H=XQ (run G n) n a0 H:=by
 unfold run;rw[ao (fn:=Tryz.f129) (keep:=[0,2,7]) (av 129 rfl) (by kernel_rfl) (by kernel_rfl)]
 kernel_rfl
abbrev gL (vs:List Value)(i:Nat):Value:=sl [0,1,4,12,13,6,24,31,8,7,38,5] vs i
def xY (C:ae)(n:Nat)(v0 v1 v4 aY aV v6 je nO v8 v7 sQ v5:Value)(H:aa):VH:= mv v5 H λx5 H=>mv x5 H λx6 H=>some (x6,H)
def CB (C:ae)(n:Nat)(vs:List Value)(H:aa):VH:=xY C n (gL vs 0) (gL vs 1) (gL vs 4) (gL vs 12) (gL vs 13) (gL vs 6) (gL vs 24) (gL vs 31) (gL vs 8) (gL vs 7) (gL vs 38) (gL vs 5) H
theorem Lk (C:ae)(n:Nat)(v0 v1 v4 aY aV v6 je nO v8 v7 sQ v5:Value)(H:aa):CB C n [v0,v1,v4,aY,aV,v6,je,nO,v8,v7,sQ,v5] H=xY C n v0 v1 v4 aY aV v6 je nO v8 v7 sQ v5 H:=by
 kernel_rfl
def O7 (C:ae)(n:Nat)(v0 v1 v4 aY aV v6 je nO v8 v7 sQ v5:Value)(H:aa):bk:= mv v8 H λcq H=>mv v7 H λdR H=>af (pS (ai Tryz.prog .lss 3 cq dR) H) λdh H=>aT dh (mv v5 H λcW H=>mv v0 H λcJ H=>mv v0 H λcP H=>mv v6 H λeU H=>mv v7 H λdW H=>mv v8 H λeD H=>af (C 103 [eU,dW,eD] H) λdX H=>af (C 53 [cP,dX] H) λdv H=>af (C 134 [cJ,dv] H) λdL H=>af (dj 45 2 16 cW dL H) λcZ H=>mv cZ H λcL H=>mv v8 H λeG H=>af (pS (ai Tryz.prog .add 3 eG (cv 1)) H) λef H=>mv ef H λdY H=>fin .normal [v0,v1,v4,aY,aV,v6,je,nO,dY,v7,dh,cL] H) (fin (.exit 1) [v0,v1,v4,aY,aV,v6,je,nO,v8,v7,dh,v5] H)
def So (C:ae)(n:Nat)(vs:List Value)(H:aa):bk:=O7 C n (gL vs 0) (gL vs 1) (gL vs 4) (gL vs 12) (gL vs 13) (gL vs 6) (gL vs 24) (gL vs 31) (gL vs 8) (gL vs 7) (gL vs 38) (gL vs 5) H
def Sp (C:ae)(n:Nat)(a0 a1:Value)(H:aa):VH:= mv (Value.slice none 0 0) H λx0 H=>mv (Value.slice none 0 0) H λx1 H=>mv a1 H λx2 H=>af (C 83 [x2] H) λx3 H=>mv x3 H λx4 H=>mv a1 H λx7 H=>af (C 57 [x7] H) λx8 H=>af (pS (ai Tryz.prog .eql 3 x8 (cv 2)) H) λx9 H=>mv x9 H λaD H=>aT aD (mv a0 H λaN H=>mv x4 H λaP H=>af (C 33 [aN,aP] H) λaG H=>mv a0 H λaM H=>mv x4 H λaR H=>af (pS (ai Tryz.prog .add 3 aR (cv 1)) H) λaX H=>af (C 33 [aM,aX] H) λbf H=>af (pS (aE Tryz.prog 45 [(0,aG),(1,bf)]) H) λaZ H=>af (ay Tryz.prog 31 1 [(0,aZ)] H) λbB H=>mv bB H λbT H=>some (bT,H)) (af (pS (ai Tryz.prog .eql 3 x8 (cv 4)) H) λbq H=>mv bq H λbE H=>aT bE (mv a0 H λbN H=>mv a0 H λbQ H=>mv x4 H λbX H=>af (C 33 [bQ,bX] H) λcg H=>af (C 134 [bN,cg] H) λcM H=>mv cM H λcd H=>some (cd,H)) (af (pS (ai Tryz.prog .eql 3 x8 (cv 3)) H) λbU H=>mv bU H λcr H=>aT cr (mv a0 H λcX H=>mv x4 H λbR H=>af (C 33 [cX,bR] H) λcw H=>mv cw H λdF H=>mv (cv 0) H λbJ H=>cm (iter n (So C n) [a0,a1,x0,x8,aD,x4,bE,cr,bJ,dF,undef,x1] H) (dJ 1 (dJ 0 (dQ (CB C n) (ek Tryz.prog [.tmp 4] [0,1,4,12,13,6,24,31,8,7,38,5]))))) (CB C n [a0,a1,x0,x8,aD,x4,bE,cr,undef,undef,undef,x1] H)))
theorem Sq (G:ae)(n:Nat)(a0 a1:Value)(H:aa):run G (n+1) 134 [a0,a1] H=Sp (run G n) n a0 a1 H:=by
 unfold run;rw[ao (fn:=Tryz.f134) (keep:=[0,1,4,12,13,6,24,31,8,7,38,5]) (av 134 rfl) (by kernel_rfl) (by kernel_rfl)]
 kernel_rfl
abbrev lW (vs:List Value)(i:Nat):Value:=sl [0,2,10,12,4,22,3] vs i
def xZ (C:ae)(n:Nat)(v0 v2 v10 aY v4 fS v3:Value)(H:aa):bk:= mv v4 H λbB H=>mv v0 H λbT H=>af (C 148 [bT] H) λbq H=>af (pS (ai Tryz.prog .lss 3 bB bq) H) λbE H=>aT bE (mv v3 H λbN H=>mv v0 H λbQ H=>mv v4 H λbX H=>af (C 150 [bQ,bX] H) λcg H=>af (C 135 [cg] H) λcM H=>af (pS (ai Tryz.prog .add 3 bN cM) H) λcd H=>mv cd H λbU H=>mv v4 H λcr H=>af (pS (ai Tryz.prog .add 3 cr (cv 1)) H) λcX H=>mv cX H λbR H=>fin .normal [v0,v2,v10,aY,bR,bE,bU] H) (fin (.exit 0) [v0,v2,v10,aY,v4,bE,v3] H)
def IJ (C:ae)(n:Nat)(vs:List Value)(H:aa):bk:=xZ C n (lW vs 0) (lW vs 2) (lW vs 10) (lW vs 12) (lW vs 4) (lW vs 22) (lW vs 3) H
theorem Ll (C:ae)(n:Nat)(v0 v2 v10 aY v4 fS v3:Value)(H:aa):IJ C n [v0,v2,v10,aY,v4,fS,v3] H=xZ C n v0 v2 v10 aY v4 fS v3 H:=by
 kernel_rfl
def ya (C:ae)(n:Nat)(v0 v2 v10 aY v4 fS v3:Value)(H:aa):VH:= mv v3 H λcw H=>mv cw H λdF H=>some (dF,H)
def IK (C:ae)(n:Nat)(vs:List Value)(H:aa):VH:=ya C n (lW vs 0) (lW vs 2) (lW vs 10) (lW vs 12) (lW vs 4) (lW vs 22) (lW vs 3) H
theorem Lm (C:ae)(n:Nat)(v0 v2 v10 aY v4 fS v3:Value)(H:aa):IK C n [v0,v2,v10,aY,v4,fS,v3] H=ya C n v0 v2 v10 aY v4 fS v3 H:=by
 kernel_rfl
def XR (C:ae)(n:Nat)(a0:Value)(H:aa):VH:= mv (cv 0) H λx0 H=>mv a0 H λx1 H=>af (pS (ai Tryz.prog .lss 3 x1 (cv 0)) H) λx2 H=>mv x2 H λx3 H=>af (gd (ag x3 false) (some (a0,H)) H) λx4 H=>af (gd (ag x3 false) (pS (ai Tryz.prog .gtr 3 x4 (cv 16384)) H) H) λx5 H=>af (aL x3 (Value.bool true) x5 H) λx6 H=>aT x6 (mv (cv 0) H λx7 H=>some (x7,H)) (mv a0 H λx8 H=>af (pS (ai Tryz.prog .lss 3 x8 (cv 2)) H) λx9 H=>aT x9 (mv a0 H λaD H=>af (pS (ai Tryz.prog .add 3 aD (cv 1)) H) λaN H=>mv aN H λaP H=>some (aP,H)) (mv a0 H λaG H=>af (C 148 [aG] H) λaM H=>af (pS (ai Tryz.prog .mul 3 (cv 2) aM) H) λaR H=>af (pS (ai Tryz.prog .add 3 (cv 4) aR) H) λaX H=>mv aX H λbf H=>mv (cv 0) H λaZ H=>cm (iter n (IJ C n) [a0,x0,x6,x9,aZ,undef,bf] H) (dJ 0 (dQ (IK C n) (ek Tryz.prog [.tmp 2] [0,2,10,12,4,22,3])))))
theorem Sr (G:ae)(n:Nat)(a0:Value)(H:aa):run G (n+1) 135 [a0] H=XR (run G n) n a0 H:=by
 unfold run;rw[ao (fn:=Tryz.f135) (keep:=[0,2,10,12,4,22,3]) (av 135 rfl) (by kernel_rfl) (by kernel_rfl)]
 kernel_rfl
abbrev nQ (vs:List Value)(i:Nat):Value:=sl [0,1,2,6,7,13,8,9,10,33,40,11] vs i
def yb (C:ae)(n:Nat)(v0 v1 v2 v6 v7 aV v8 v9 v10 kA ij v11:Value)(H:aa):VH:= mv v0 H λcd H=>af (au cd H) λbU H=>af (ak 2 bU H) λcr H=>af (pS (aq cr H) H) λcX H=>aT cX (mv (cv 0) H λbR H=>mv (Value.bool false) H λcw H=>some (Value.tuple #[bR,cw],H)) (mv v0 H λdF H=>mv v11 H λbJ H=>af (C 123 [dF,bJ] H) λcq H=>af (cp 0 cq H) λdR H=>af (cp 1 cq H) λdh H=>mv dR H λcW H=>mv dh H λcJ H=>some (Value.tuple #[cW,cJ],H))
def vJ (C:ae)(n:Nat)(vs:List Value)(H:aa):VH:=yb C n (nQ vs 0) (nQ vs 1) (nQ vs 2) (nQ vs 6) (nQ vs 7) (nQ vs 13) (nQ vs 8) (nQ vs 9) (nQ vs 10) (nQ vs 33) (nQ vs 40) (nQ vs 11) H
theorem Ln (C:ae)(n:Nat)(v0 v1 v2 v6 v7 aV v8 v9 v10 kA ij v11:Value)(H:aa):vJ C n [v0,v1,v2,v6,v7,aV,v8,v9,v10,kA,ij,v11] H=yb C n v0 v1 v2 v6 v7 aV v8 v9 v10 kA ij v11 H:=by
 kernel_rfl
def XS (C:ae)(n:Nat)(a0 a1 a2:Value)(H:aa):VH:= mv (cv 0) H λx0 H=>mv (Value.bool false) H λx1 H=>mv a2 H λx2 H=>af (pS (ai Tryz.prog .geq 3 x2 (cv 2)) H) λx3 H=>aT x3 (mv a2 H λx4 H=>af (C 148 [x4] H) λx5 H=>af (N7 x5 (cv 1) H) λx6 H=>mv x6 H λx7 H=>tA 1 H λhb H=>mv a0 H λx8 H=>mv a2 H λx9 H=>mv x7 H λaD H=>af (pS (ai Tryz.prog .sub 3 aD (cv 1)) H) λaN H=>af (WL 2 1 8 [(cv 0)] aN aN H) λaP H=>mv x7 H λaG H=>af (Kq (hb+0) (msB 2 1 8 [(cv 0)] aG aG) H) λaM H=>af (C 131 [x9,aP,aM] H) λaR H=>af (C 141 [x8,aR] H) λaX H=>mv aX H λbf H=>af (cp 0 bf H) λaZ H=>af (cp 1 bf H) λbB H=>mv aZ H λbT H=>mv bB H λbq H=>mv bT H λbE H=>af (C 59 [(cv 3),bE] H) λbN H=>mv bq H λbQ H=>mv bN H λbX H=>mv bQ H λcg H=>some (Value.tuple #[bX,cg],H)) (mv (Value.slice none 0 0) H λcM H=>mv a2 H λcP H=>af (pS (ai Tryz.prog .eql 3 cP (cv 1)) H) λeU H=>aT eU (mv a0 H λdW H=>mv a1 H λeD H=>af (C 122 [dW,eD,(cv 0),(cv 1),(Value.slice none 0 0)] H) λdX H=>mv dX H λdv H=>vJ C n [a0,a1,a2,x0,x1,x3,undef,undef,undef,eU,undef,dv] H) (vJ C n [a0,a1,a2,x0,x1,x3,undef,undef,undef,eU,undef,cM] H))
theorem Ss (G:ae)(n:Nat)(a0 a1 a2:Value)(H:aa):run G (n+1) 151 [a0,a1,a2] H=XS (run G n) n a0 a1 a2 H:=by
 unfold run;rw[ao (fn:=Tryz.f151) (keep:=[0,1,2,6,7,13,8,9,10,33,40,11]) (av 151 rfl) (by kernel_rfl) (by kernel_rfl)]
 kernel_rfl
end Go.Proofs.YtgfgglponbmgmaaGreat.Fun
end
