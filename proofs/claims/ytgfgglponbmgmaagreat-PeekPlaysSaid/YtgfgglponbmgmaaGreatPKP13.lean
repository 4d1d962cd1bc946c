/- Texts of the proof of peekPlays_holds, put together by a small program of ours (names shortened, spaces taken out). No condition beyond the given statement. -/
import Derived.Test.YtgfgglponbmgmaaGreatPKP9
set_option linter.unusedVariables false
set_option linter.unusedSimpArgs false
set_option linter.unnecessarySimpa false
noncomputable section
section
namespace Go.Proofs.YtgfgglponbmgmaaGreat.Fun
open Go.RowKit Go.Proofs.YtgfgglponbmgmaaGreatA.Am
set_option maxRecDepth 10000
abbrev N6 (vs:List Value)(i:Nat):Value:=sl [0,1,4,5,10] vs i
def Cr (C:ae)(n:Nat)(v0 v1 v4 v5 v10:Value)(H:aa):VH:= mv v5 H λx5 H=>mv x5 H λx6 H=>some (x6,H)
def Gg (C:ae)(n:Nat)(vs:List Value)(H:aa):VH:=Cr C n (N6 vs 0) (N6 vs 1) (N6 vs 4) (N6 vs 5) (N6 vs 10) H
theorem N7 (C:ae)(n:Nat)(v0 v1 v4 v5 v10:Value)(H:aa):Gg C n [v0,v1,v4,v5,v10] H=Cr C n v0 v1 v4 v5 v10 H:=by
 kernel_rfl
def F18 (C:ae)(n:Nat)(a0 a1:Value)(H:aa):VH:= mv (cv 0) H λx0 H=>mv a0 H λx1 H=>mv a1 H λx2 H=>af (pS (ai Tryz.prog .rem 3 x1 x2) H) λx3 H=>mv x3 H λx4 H=>mv x4 H λx7 H=>af (pS (ai Tryz.prog .lss 3 x7 (cv 0)) H) λx8 H=>aX x8 (mv x4 H λx9 H=>mv a1 H λaC H=>af (pS (ai Tryz.prog .add 3 x9 aC) H) λaO H=>mv aO H λaN H=>Gg C n [a0,a1,x0,aN,x8] H) (Gg C n [a0,a1,x0,x4,x8] H)
theorem WD (G:ae)(n:Nat)(a0 a1:Value)(H:aa):run G (n+1) 18 [a0,a1] H=F18 (run G n) n a0 a1 H:=by
 unfold run;rw[ao (fn:=Tryz.f18) (keep:=[0,1,4,5,10]) (av 18 rfl) (by kernel_rfl) (by kernel_rfl)]
 kernel_rfl
def F32 (C:ae)(n:Nat)(a0 a1:Value)(H:aa):VH:= mv (cv 0) H λx0 H=>mv a1 H λx1 H=>af (pS (ai Tryz.prog .lss 3 x1 (cv 1)) H) λx2 H=>mv x2 H λx3 H=>af (gd (ag x3 false) (some (a1,H)) H) λx4 H=>af (gd (ag x3 false) (some (a0,H)) H) λx5 H=>af (gd (ag x3 false) (au x5 H) H) λx6 H=>af (gd (ag x3 false) (ak 0 x6 H) H) λx7 H=>af (gd (ag x3 false) (pS (aq x7 H) H) H) λx8 H=>af (gd (ag x3 false) (pS (cC x8) H) H) λx9 H=>af (gd (ag x3 false) (pS (ai Tryz.prog .gtr 3 x4 x9) H) H) λaC H=>af (aK x3 (Value.bool true) aC H) λaO H=>aX aO (mv (cv 0) H λaN H=>some (aN,H)) (mv a0 H λaI H=>af (au aI H) λaM H=>af (ak 0 aM H) λaW H=>af (pS (aq aW H) H) λaU H=>mv a1 H λbf H=>af (pS (ai Tryz.prog .sub 3 bf (cv 1)) H) λaV H=>af (cG 1 aU aV H) λbt H=>af (pS (aq bt H) H) λbR H=>mv bR H λbn H=>some (bn,H))
theorem WE (G:ae)(n:Nat)(a0 a1:Value)(H:aa):run G (n+1) 32 [a0,a1] H=F32 (run G n) n a0 a1 H:=by
 unfold run;rw[ao (fn:=Tryz.f32) (keep:=[0,1,4,15]) (av 32 rfl) (by kernel_rfl) (by kernel_rfl)]
 kernel_rfl
def F36 (C:ae)(n:Nat)(H:aa):VH:= mv (Value.slice none 0 0) H λx0 H=>af (ay Tryz.prog 42 1 [(0,(cv 0))] H) λx1 H=>mv x1 H λx2 H=>some (x2,H)
theorem N8 (G:ae)(n:Nat)(H:aa):run G (n+1) 36 [] H=F36 (run G n) n H:=by
 unfold run;rw[ao (fn:=Tryz.f36) (keep:=[0]) (av 36 rfl) (by kernel_rfl) (by kernel_rfl)]
 kernel_rfl
def F50 (C:ae)(n:Nat)(a0:Value)(H:aa):VH:= mv (Value.slice none 0 0) H λx0 H=>mv a0 H λx1 H=>mv a0 H λx2 H=>af (C 53 [x2,(cv 6)] H) λx3 H=>af (pS (aE Tryz.prog 69 [(0,(cv 1)),(1,(cv 6))]) H) λx4 H=>af (ay Tryz.prog 93 1 [(0,x4)] H) λx5 H=>af (C 81 [x1,x3,x5] H) λx6 H=>mv x6 H λx7 H=>some (x7,H)
theorem WG (G:ae)(n:Nat)(a0:Value)(H:aa):run G (n+1) 50 [a0] H=F50 (run G n) n a0 H:=by
 unfold run;rw[ao (fn:=Tryz.f50) (keep:=[0,2]) (av 50 rfl) (by kernel_rfl) (by kernel_rfl)]
 kernel_rfl
def F62 (C:ae)(n:Nat)(a0:Value)(H:aa):VH:= mv (Value.pointer none) H λx0 H=>mv (cv 0) H λx1 H=>mv a0 H λx2 H=>af (pS (ai Tryz.prog .lss 3 x2 (cv 1)) H) λx3 H=>mv x3 H λx4 H=>af (gd (ag x4 false) (some (a0,H)) H) λx5 H=>af (gd (ag x4 false) (pS (ai Tryz.prog .gtr 3 x5 (cv 65536)) H) H) λx6 H=>af (aK x4 (Value.bool true) x6 H) λx7 H=>aX x7 (mv (Value.pointer none) H λx8 H=>mv (cv 1) H λx9 H=>some (Value.tuple #[x8,x9],H)) (mv a0 H λaC H=>af (pS (aE Tryz.prog 126 [(1,aC)]) H) λaO H=>af (dJ 126 aO H) λaN H=>mv aN H λaI H=>mv (cv 0) H λaM H=>some (Value.tuple #[aI,aM],H))
theorem WH (G:ae)(n:Nat)(a0:Value)(H:aa):run G (n+1) 62 [a0] H=F62 (run G n) n a0 H:=by
 unfold run;rw[ao (fn:=Tryz.f62) (keep:=[0,2,3,9]) (av 62 rfl) (by kernel_rfl) (by kernel_rfl)]
 kernel_rfl
def F69 (C:ae)(n:Nat)(a0:Value)(H:aa):VH:= mv a0 H λx0 H=>af (C 70 [x0] H) λx1 H=>mv x1 H λx2 H=>af (cm 0 x2 H) λx3 H=>af (cm 1 x2 H) λx4 H=>af (some (aS H 49 1 [(cv 0),(Value.bool false),(cv 0),(cv 0),(cv 0),(Value.slice none 0 0),(Value.slice none 0 0),(cv 0),(Value.bool false),(cv 0),(cv 0),(cv 0),(Value.slice none 0 0)])) λx5 H=>mv x3 H λx6 H=>af (bE 13 x5 x4 H) λx7 H=>mv a0 H λx8 H=>mv x6 H λx9 H=>af (au x9 H) λaC H=>af (ak 8 aC H) λaO H=>af (pS (aq aO H) H) λaN H=>af (au x8 H) λaI H=>af (ak 37 aI H) λaM H=>af (bE 1 aM aN H) λaW H=>mv a0 H λaU H=>mv x6 H λbf H=>af (au bf H) λaV H=>af (ak 9 aV H) λbt H=>af (pS (aq bt H) H) λbR H=>af (au aU H) λbn H=>af (ak 38 bn H) λbA H=>af (bE 1 bA bR H) λbJ H=>mv x6 H λbM H=>af (au bM H) λbU H=>af (ak 2 bU H) λb9 H=>af (pS (aq b9 H) H) λcH H=>af (pS (iC .not cH) H) λcd H=>aX cd (mv a0 H λbS H=>af (au bS H) λct H=>af (ak 23 ct H) λcP H=>af (bE 1 cP (Value.bool true) H) λbP H=>mv a0 H λcr H=>af (pS (c8 13 x5 H) H) λdx H=>af (au cr H) λbG H=>af (ak 24 bG H) λcp H=>af (bE 13 cp dx H) λdL H=>some (Value.tuple #[],H)) (some (Value.tuple #[],H))
theorem WI (G:ae)(n:Nat)(a0:Value)(H:aa):run G (n+1) 69 [a0] H=F69 (run G n) n a0 H:=by
 unfold run;rw[ao (fn:=Tryz.f69) (keep:=[0,2,27,3]) (av 69 rfl) (by kernel_rfl) (by kernel_rfl)]
 kernel_rfl
abbrev u5 (vs:List Value)(i:Nat):Value:=sl [0,2,4,13,3,5] vs i
def Cs (C:ae)(n:Nat)(v0 v2 v4 aT v3 v5:Value)(H:aa):bh:= mv v4 H λx3 H=>mv v0 H λx4 H=>af (pS (cC x4) H) λx5 H=>af (pS (ai Tryz.prog .lss 3 x3 x5) H) λx6 H=>mv x6 H λx7 H=>af (gd (ag x7 true) (some (v4,H)) H) λx8 H=>af (gd (ag x7 true) (pS (ai Tryz.prog .lss 3 x8 (cv 60)) H) H) λx9 H=>af (aK x7 x9 (Value.bool false) H) λaC H=>aX aC (mv v0 H λaO H=>mv v4 H λaN H=>af (cG 1 aO aN H) λaI H=>af (pS (aq aI H) H) λaM H=>af (C 18 [aM,(cv 97)] H) λaW H=>af (pS (ai Tryz.prog .sub 3 aW (cv 40)) H) λaU H=>mv aU H λbf H=>mv v3 H λaV H=>mv bf H λbt H=>mv v4 H λbR H=>af (C 110 [aV,bt,bR] H) λbn H=>mv bn H λbA H=>mv v4 H λbJ H=>af (pS (ai Tryz.prog .add 3 bJ (cv 1)) H) λbM H=>mv bM H λbU H=>fin .normal [v0,v2,bU,aC,bA,bf] H) (fin (.exit 0) [v0,v2,v4,aC,v3,v5] H)
def N9 (C:ae)(n:Nat)(vs:List Value)(H:aa):bh:=Cs C n (u5 vs 0) (u5 vs 2) (u5 vs 4) (u5 vs 13) (u5 vs 3) (u5 vs 5) H
theorem Oa (C:ae)(n:Nat)(v0 v2 v4 aT v3 v5:Value)(H:aa):N9 C n [v0,v2,v4,aT,v3,v5] H=Cs C n v0 v2 v4 aT v3 v5 H:=by
 kernel_rfl
def Ct (C:ae)(n:Nat)(v0 v2 v4 aT v3 v5:Value)(H:aa):VH:= mv v3 H λb9 H=>mv b9 H λcH H=>some (cH,H)
def Ob (C:ae)(n:Nat)(vs:List Value)(H:aa):VH:=Ct C n (u5 vs 0) (u5 vs 2) (u5 vs 4) (u5 vs 13) (u5 vs 3) (u5 vs 5) H
theorem Oc (C:ae)(n:Nat)(v0 v2 v4 aT v3 v5:Value)(H:aa):Ob C n [v0,v2,v4,aT,v3,v5] H=Ct C n v0 v2 v4 aT v3 v5 H:=by
 kernel_rfl
def F86 (C:ae)(n:Nat)(a0:Value)(H:aa):VH:= mv (Value.slice none 0 0) H λx0 H=>mv (Value.slice none 0 0) H λx1 H=>mv (cv 0) H λx2 H=>cl (iter n (N9 C n) [a0,x0,x2,undef,x1,undef] H) (dI 0 (dP (Ob C n) (ef Tryz.prog [.tmp 2] [0,2,4,13,3,5])))
theorem WJ (G:ae)(n:Nat)(a0:Value)(H:aa):run G (n+1) 86 [a0] H=F86 (run G n) n a0 H:=by
 unfold run;rw[ao (fn:=Tryz.f86) (keep:=[0,2,4,13,3,5]) (av 86 rfl) (by kernel_rfl) (by kernel_rfl)]
 kernel_rfl
def WK (C:ae)(n:Nat)(a0 a1:Value)(H:aa):VH:= af (some (aS H 47 1 [(cv 0),(Value.bool false),(cv 0),(cv 0),(cv 0),(Value.slice none 0 0)])) λx0 H=>mv (Value.bool false) H λx1 H=>mv a0 H λx2 H=>af (au x2 H) λx3 H=>af (ak 1 x3 H) λx4 H=>af (pS (aq x4 H) H) λx5 H=>af (pS (iC .not x5) H) λx6 H=>aX x6 (af (pS (aE Tryz.prog 47 []) H) λx7 H=>af (bE 6 x0 x7 H) λx8 H=>mv (Value.bool false) H λx9 H=>af (pS (c8 6 x0 H) H) λr0 _=>some (Value.tuple #[r0,x9],H)) (mv a0 H λaC H=>af (au aC H) λaO H=>af (ak 6 aO H) λaN H=>af (pS (aq aN H) H) λaI H=>af (pS (ai Tryz.prog .add 3 aI (cv 1)) H) λaM H=>af (au aC H) λaW H=>af (ak 6 aW H) λaU H=>af (bE 1 aU aM H) λbf H=>mv a0 H λaV H=>af (au aV H) λbt H=>af (ak 5 bt H) λbR H=>af (pS (aq bR H) H) λbn H=>mv a1 H λbA H=>af (C 20 [bn,bA] H) λbJ H=>af (pS (iC .not bJ) H) λbM H=>aX bM (af (pS (aE Tryz.prog 47 []) H) λbU H=>af (bE 6 x0 bU H) λb9 H=>mv (Value.bool false) H λcH H=>af (pS (c8 6 x0 H) H) λr0 _=>some (Value.tuple #[r0,cH],H)) (mv a0 H λcd H=>af (au cd H) λbS H=>af (ak 1 bS H) λct H=>af (bE 1 ct (Value.bool false) H) λcP H=>mv a0 H λbP H=>af (au bP H) λcr H=>af (ak 5 cr H) λdx H=>af (pS (aq dx H) H) λbG H=>af (au bG H) λcp H=>af (ak 24 cp H) λdL H=>af (ak 7 dL H) λdr H=>af (pS (c8 6 dr H) H) λcS H=>af (bE 6 x0 cS H) λcw H=>mv (Value.bool true) H λcJ H=>af (pS (c8 6 x0 H) H) λr0 _=>some (Value.tuple #[r0,cJ],H)))
theorem Rz (G:ae)(n:Nat)(a0 a1:Value)(H:aa):run G (n+1) 101 [a0,a1] H=WK (run G n) n a0 a1 H:=by
 unfold run;rw[ao (fn:=Tryz.f101) (keep:=[0,1,4,5,10,25]) (av 101 rfl) (by kernel_rfl) (by kernel_rfl)]
 kernel_rfl
abbrev qc (vs:List Value)(i:Nat):Value:=sl [0,2,10,3,46] vs i
def xO (C:ae)(n:Nat)(v0 v2 v10 v3 xP:Value)(H:aa):bh:= mv v2 H λx8 H=>af (pS (ai Tryz.prog .add 3 x8 (cv 1)) H) λx9 H=>mv x9 H λaC H=>fin .normal [v0,aC,v10,v3,xP] H
def vD (C:ae)(n:Nat)(vs:List Value)(H:aa):bh:=xO C n (qc vs 0) (qc vs 2) (qc vs 10) (qc vs 3) (qc vs 46) H
theorem Kx (C:ae)(n:Nat)(v0 v2 v10 v3 xP:Value)(H:aa):vD C n [v0,v2,v10,v3,xP] H=xO C n v0 v2 v10 v3 xP H:=by
 kernel_rfl
def xQ (C:ae)(n:Nat)(v0 v2 v10 v3 xP:Value)(H:aa):bh:= mv v2 H λx1 H=>mv v0 H λx2 H=>af (au x2 H) λx3 H=>af (ak 4 x3 H) λx4 H=>af (pS (aq x4 H) H) λx5 H=>af (pS (cC x5) H) λx6 H=>af (pS (ai Tryz.prog .lss 3 x1 x6) H) λx7 H=>aX x7 (mv v0 H λaO H=>af (au aO H) λaN H=>af (ak 4 aN H) λaI H=>af (pS (aq aI H) H) λaM H=>mv v2 H λaW H=>af (cG 1 aM aW H) λaU H=>af (pS (aq aU H) H) λbf H=>mv bf H λaV H=>mv aV H λbt rK=>af (au bt rK) λbR rL=>af (ak 1 bR rL) λbn rM=>af (pS (aq bn rM) rM) λbA w7=>af (some (bA,w7)) λbJ ng=>af (gd (ag bJ true) (some (aV,ng)) ng) λbM nU=>af (gd (ag bJ true) (au bM nU) nU) λbU uZ=>af (gd (ag bJ true) (ak 7 bU uZ) uZ) λb9 u3=>af (gd (ag bJ true) (pS (aq b9 u3) u3) u3) λcH D8=>af (gd (ag bJ true) (pS (iC .not cH) D8) D8) λcd tz=>af (aK bJ cd (Value.bool false) tz) λbS tA=>af (some (bS,tA)) λct Ge=>af (gd (ag ct true) (some (aV,Ge)) Ge) λcP Q6=>af (gd (ag ct true) (C 129 [cP] Q6) Q6) λbP Q7=>af (gd (ag ct true) (pS (ai Tryz.prog .gtr 3 bP (cv 0)) Q7) Q7) λcr tF=>af (aK ct cr (Value.bool false) tF) λdx tG=>af (some (dx,tG)) λbG Ci=>af (gd (ag bG true) (some (v0,Ci)) Ci) λcp J9=>af (gd (ag bG true) (au cp J9) J9) λdL xj=>af (gd (ag bG true) (ak 3 dL xj) xj) λdr xk=>af (gd (ag bG true) (pS (aq dr xk) xk) xk) λcS tH=>af (gd (ag bG true) (some (aV,tH)) tH) λcw oK=>af (gd (ag bG true) (C 129 [cw] oK) oK) λcJ rO=>af (gd (ag bG true) (pS (ai Tryz.prog .add 3 cJ (cv 4)) rO) rO) λeE pL=>af (gd (ag bG true) (C 33 [cS,eE] pL) pL) λdE mJ=>af (gd (ag bG true) (pS (ai Tryz.prog .eql 2 dE (cv 1)) mJ) mJ) λeh tJ=>af (aK bG eh (Value.bool false) tJ) λdK pM=>if(lA (ag bG true) (ag bG true) (pS (aq dr xk) xk) (pS (aq dr oK) oK) (pS (aq dr rO) rO)&&true)=true then(λH=>aX dK (mv aV H λdq H=>af (au dq H) λdF H=>af (ak 7 dF H) λcT H=>af (bE 1 cT (Value.bool true) H) λcM H=>mv v0 H λeC xB=>af (some (v0,xB)) λdS lF=>af (au dS lF) λdQ mK=>af (ak 5 dQ mK) λdR mo=>af (pS (aq dR mo) mo) λeK qE=>af (some (v2,qE)) λeW Cc=>af (some (aV,Cc)) λdA pK=>af (au dA pK) λir Cd=>af (ak 8 ir Cd) λdX tB=>af (pS (aq dX tB) tB) λgC D9=>af (some (v0,D9)) λiS Aa=>af (au iS Aa) λgH qF=>af (ak 7 gH qF) λeQ nb=>af (pS (aq eQ nb) nb) λiZ rH=>af (pS (aE Tryz.prog 155 [(0,(cv 2)),(1,eW),(2,gC),(5,iZ)]) rH) λjU qD=>af (ay Tryz.prog 63 1 [(0,jU)] qD) λia nc=>af (df 155 13 120 eK ia nc) λfE lD=>af (au eC lD) λjV nT=>af (ak 5 jV nT) λfI uU=>af (bE 1 fI fE uU) λgR tv=>if(lA (some true) (some true) (pS (aq dR mo) mo) (pS (aq dR qD) qD) (pS (aq dR nc) nc)&&true)=true then(λH=>vD C n [v0,v2,x7,aV,dK] H) tv else none) (vD C n [v0,v2,x7,aV,dK] H)) pM else none) (fin (.exit 0) [v0,v2,x7,v3,xP] H)
def HV (C:ae)(n:Nat)(vs:List Value)(H:aa):bh:=xQ C n (qc vs 0) (qc vs 2) (qc vs 10) (qc vs 3) (qc vs 46) H
theorem Ky (C:ae)(n:Nat)(v0 v2 v10 v3 xP:Value)(H:aa):HV C n [v0,v2,v10,v3,xP] H=xQ C n v0 v2 v10 v3 xP H:=by
 kernel_rfl
def WL (C:ae)(n:Nat)(a0:Value)(H:aa):VH:= mv (cv 0) H λx0 H=>cl (iter n (HV C n) [a0,x0,undef,undef,undef] H) (dI 0 (ef Tryz.prog [] [0,2,10,3,46]))
theorem RA (G:ae)(n:Nat)(a0:Value)(H:aa):run G (n+1) 102 [a0] H=WL (run G n) n a0 H:=by
 unfold run;rw[ao (fn:=Tryz.f102) (keep:=[0,2,10,3,46]) (av 102 rfl) (by kernel_rfl) (by kernel_rfl)]
 kernel_rfl
def WM (C:ae)(n:Nat)(a0:Value)(H:aa):VH:= mv (Value.bool false) H λx0 H=>mv a0 H λx1 H=>af (C 132 [x1] H) λx2 H=>mv x2 H λx3 H=>af (gd (ag x3 true) (some (a0,H)) H) λx4 H=>af (gd (ag x3 true) (pS (cC x4) H) H) λx5 H=>af (gd (ag x3 true) (pS (ai Tryz.prog .leq 3 x5 (cv 16384)) H) H) λx6 H=>af (aK x3 x6 (Value.bool false) H) λx7 H=>mv x7 H λx8 H=>some (x8,H)
theorem RB (G:ae)(n:Nat)(a0:Value)(H:aa):run G (n+1) 107 [a0] H=WM (run G n) n a0 H:=by
 unfold run;rw[ao (fn:=Tryz.f107) (keep:=[0,2]) (av 107 rfl) (by kernel_rfl) (by kernel_rfl)]
 kernel_rfl
def WN (C:ae)(n:Nat)(a0:Value)(H:aa):VH:= mv (cv 0) H λx0 H=>mv a0 H λx1 H=>af (au x1 H) λx2 H=>af (ak 1 x2 H) λx3 H=>af (pS (aq x3 H) H) λx4 H=>af (pS (iC .not x4) H) λx5 H=>aX x5 (mv (cv 0) H λx6 H=>some (x6,H)) (mv a0 H λx7 H=>af (au x7 H) λx8 H=>af (ak 5 x8 H) λx9 H=>af (pS (aq x9 H) H) λaC H=>af (au aC H) λaO H=>af (ak 38 aO H) λaN H=>af (pS (aq aN H) H) λaI H=>mv aI H λaM H=>some (aM,H))
theorem RC (G:ae)(n:Nat)(a0:Value)(H:aa):run G (n+1) 129 [a0] H=WN (run G n) n a0 H:=by
 unfold run;rw[ao (fn:=Tryz.f129) (keep:=[0,2,7]) (av 129 rfl) (by kernel_rfl) (by kernel_rfl)]
 kernel_rfl
abbrev gM (vs:List Value)(i:Nat):Value:=sl [0,1,4,12,13,6,24,31,8,7,38,5] vs i
def xR (C:ae)(n:Nat)(v0 v1 v4 aY aT v6 fH nM v8 v7 sN v5:Value)(H:aa):VH:= mv v5 H λx5 H=>mv x5 H λx6 H=>some (x6,H)
def Cu (C:ae)(n:Nat)(vs:List Value)(H:aa):VH:=xR C n (gM vs 0) (gM vs 1) (gM vs 4) (gM vs 12) (gM vs 13) (gM vs 6) (gM vs 24) (gM vs 31) (gM vs 8) (gM vs 7) (gM vs 38) (gM vs 5) H
theorem Kz (C:ae)(n:Nat)(v0 v1 v4 aY aT v6 fH nM v8 v7 sN v5:Value)(H:aa):Cu C n [v0,v1,v4,aY,aT,v6,fH,nM,v8,v7,sN,v5] H=xR C n v0 v1 v4 aY aT v6 fH nM v8 v7 sN v5 H:=by
 kernel_rfl
def Od (C:ae)(n:Nat)(v0 v1 v4 aY aT v6 fH nM v8 v7 sN v5:Value)(H:aa):bh:= mv v8 H λcp H=>mv v7 H λdL H=>af (pS (ai Tryz.prog .lss 3 cp dL) H) λdr H=>aX dr (mv v5 H λcS H=>mv v0 H λcw H=>mv v0 H λcJ H=>mv v6 H λeE H=>mv v7 H λdE H=>mv v8 H λeh H=>af (C 103 [eE,dE,eh] H) λdK H=>af (C 53 [cJ,dK] H) λdq H=>af (C 134 [cw,dq] H) λdF H=>af (df 45 2 16 cS dF H) λcT H=>mv cT H λcM H=>mv v8 H λeC H=>af (pS (ai Tryz.prog .add 3 eC (cv 1)) H) λdS H=>mv dS H λdQ H=>fin .normal [v0,v1,v4,aY,aT,v6,fH,nM,dQ,v7,dr,cM] H) (fin (.exit 1) [v0,v1,v4,aY,aT,v6,fH,nM,v8,v7,dr,v5] H)
def RD (C:ae)(n:Nat)(vs:List Value)(H:aa):bh:=Od C n (gM vs 0) (gM vs 1) (gM vs 4) (gM vs 12) (gM vs 13) (gM vs 6) (gM vs 24) (gM vs 31) (gM vs 8) (gM vs 7) (gM vs 38) (gM vs 5) H
def RE (C:ae)(n:Nat)(a0 a1:Value)(H:aa):VH:= mv (Value.slice none 0 0) H λx0 H=>mv (Value.slice none 0 0) H λx1 H=>mv a1 H λx2 H=>af (C 83 [x2] H) λx3 H=>mv x3 H λx4 H=>mv a1 H λx7 H=>af (C 57 [x7] H) λx8 H=>af (pS (ai Tryz.prog .eql 3 x8 (cv 2)) H) λx9 H=>mv x9 H λaC H=>aX aC (mv a0 H λaO H=>mv x4 H λaN H=>af (C 33 [aO,aN] H) λaI H=>mv a0 H λaM H=>mv x4 H λaW H=>af (pS (ai Tryz.prog .add 3 aW (cv 1)) H) λaU H=>af (C 33 [aM,aU] H) λbf H=>af (pS (aE Tryz.prog 45 [(0,aI),(1,bf)]) H) λaV H=>af (ay Tryz.prog 31 1 [(0,aV)] H) λbt H=>mv bt H λbR H=>some (bR,H)) (af (pS (ai Tryz.prog .eql 3 x8 (cv 4)) H) λbn H=>mv bn H λbA H=>aX bA (mv a0 H λbJ H=>mv a0 H λbM H=>mv x4 H λbU H=>af (C 33 [bM,bU] H) λb9 H=>af (C 134 [bJ,b9] H) λcH H=>mv cH H λcd H=>some (cd,H)) (af (pS (ai Tryz.prog .eql 3 x8 (cv 3)) H) λbS H=>mv bS H λct H=>aX ct (mv a0 H λcP H=>mv x4 H λbP H=>af (C 33 [cP,bP] H) λcr H=>mv cr H λdx H=>mv (cv 0) H λbG H=>cl (iter n (RD C n) [a0,a1,x0,x8,aC,x4,bA,ct,bG,dx,undef,x1] H) (dI 1 (dI 0 (dP (Cu C n) (ef Tryz.prog [.tmp 4] [0,1,4,12,13,6,24,31,8,7,38,5]))))) (Cu C n [a0,a1,x0,x8,aC,x4,bA,ct,undef,undef,undef,x1] H)))
theorem RF (G:ae)(n:Nat)(a0 a1:Value)(H:aa):run G (n+1) 134 [a0,a1] H=RE (run G n) n a0 a1 H:=by
 unfold run;rw[ao (fn:=Tryz.f134) (keep:=[0,1,4,12,13,6,24,31,8,7,38,5]) (av 134 rfl) (by kernel_rfl) (by kernel_rfl)]
 kernel_rfl
abbrev lS (vs:List Value)(i:Nat):Value:=sl [0,2,10,12,4,22,3] vs i
def xS (C:ae)(n:Nat)(v0 v2 v10 aY v4 jw v3:Value)(H:aa):bh:= mv v4 H λbt H=>mv v0 H λbR H=>af (C 148 [bR] H) λbn H=>af (pS (ai Tryz.prog .lss 3 bt bn) H) λbA H=>aX bA (mv v3 H λbJ H=>mv v0 H λbM H=>mv v4 H λbU H=>af (C 150 [bM,bU] H) λb9 H=>af (C 135 [b9] H) λcH H=>af (pS (ai Tryz.prog .add 3 bJ cH) H) λcd H=>mv cd H λbS H=>mv v4 H λct H=>af (pS (ai Tryz.prog .add 3 ct (cv 1)) H) λcP H=>mv cP H λbP H=>fin .normal [v0,v2,v10,aY,bP,bA,bS] H) (fin (.exit 0) [v0,v2,v10,aY,v4,bA,v3] H)
def HW (C:ae)(n:Nat)(vs:List Value)(H:aa):bh:=xS C n (lS vs 0) (lS vs 2) (lS vs 10) (lS vs 12) (lS vs 4) (lS vs 22) (lS vs 3) H
theorem KA (C:ae)(n:Nat)(v0 v2 v10 aY v4 jw v3:Value)(H:aa):HW C n [v0,v2,v10,aY,v4,jw,v3] H=xS C n v0 v2 v10 aY v4 jw v3 H:=by
 kernel_rfl
def xT (C:ae)(n:Nat)(v0 v2 v10 aY v4 jw v3:Value)(H:aa):VH:= mv v3 H λcr H=>mv cr H λdx H=>some (dx,H)
def HX (C:ae)(n:Nat)(vs:List Value)(H:aa):VH:=xT C n (lS vs 0) (lS vs 2) (lS vs 10) (lS vs 12) (lS vs 4) (lS vs 22) (lS vs 3) H
theorem KC (C:ae)(n:Nat)(v0 v2 v10 aY v4 jw v3:Value)(H:aa):HX C n [v0,v2,v10,aY,v4,jw,v3] H=xT C n v0 v2 v10 aY v4 jw v3 H:=by
 kernel_rfl
def WO (C:ae)(n:Nat)(a0:Value)(H:aa):VH:= mv (cv 0) H λx0 H=>mv a0 H λx1 H=>af (pS (ai Tryz.prog .lss 3 x1 (cv 0)) H) λx2 H=>mv x2 H λx3 H=>af (gd (ag x3 false) (some (a0,H)) H) λx4 H=>af (gd (ag x3 false) (pS (ai Tryz.prog .gtr 3 x4 (cv 16384)) H) H) λx5 H=>af (aK x3 (Value.bool true) x5 H) λx6 H=>aX x6 (mv (cv 0) H λx7 H=>some (x7,H)) (mv a0 H λx8 H=>af (pS (ai Tryz.prog .lss 3 x8 (cv 2)) H) λx9 H=>aX x9 (mv a0 H λaC H=>af (pS (ai Tryz.prog .add 3 aC (cv 1)) H) λaO H=>mv aO H λaN H=>some (aN,H)) (mv a0 H λaI H=>af (C 148 [aI] H) λaM H=>af (pS (ai Tryz.prog .mul 3 (cv 2) aM) H) λaW H=>af (pS (ai Tryz.prog .add 3 (cv 4) aW) H) λaU H=>mv aU H λbf H=>mv (cv 0) H λaV H=>cl (iter n (HW C n) [a0,x0,x6,x9,aV,undef,bf] H) (dI 0 (dP (HX C n) (ef Tryz.prog [.tmp 2] [0,2,10,12,4,22,3])))))
theorem RG (G:ae)(n:Nat)(a0:Value)(H:aa):run G (n+1) 135 [a0] H=WO (run G n) n a0 H:=by
 unfold run;rw[ao (fn:=Tryz.f135) (keep:=[0,2,10,12,4,22,3]) (av 135 rfl) (by kernel_rfl) (by kernel_rfl)]
 kernel_rfl
abbrev nO (vs:List Value)(i:Nat):Value:=sl [0,1,2,6,7,13,8,9,10,33,40,11] vs i
def xU (C:ae)(n:Nat)(v0 v1 v2 v6 v7 aT v8 v9 v10 kr gD v11:Value)(H:aa):VH:= mv v0 H λcd H=>af (au cd H) λbS H=>af (ak 2 bS H) λct H=>af (pS (aq ct H) H) λcP H=>aX cP (mv (cv 0) H λbP H=>mv (Value.bool false) H λcr H=>some (Value.tuple #[bP,cr],H)) (mv v0 H λdx H=>mv v11 H λbG H=>af (C 123 [dx,bG] H) λcp H=>af (cm 0 cp H) λdL H=>af (cm 1 cp H) λdr H=>mv dL H λcS H=>mv dr H λcw H=>some (Value.tuple #[cS,cw],H))
def vE (C:ae)(n:Nat)(vs:List Value)(H:aa):VH:=xU C n (nO vs 0) (nO vs 1) (nO vs 2) (nO vs 6) (nO vs 7) (nO vs 13) (nO vs 8) (nO vs 9) (nO vs 10) (nO vs 33) (nO vs 40) (nO vs 11) H
theorem KD (C:ae)(n:Nat)(v0 v1 v2 v6 v7 aT v8 v9 v10 kr gD v11:Value)(H:aa):vE C n [v0,v1,v2,v6,v7,aT,v8,v9,v10,kr,gD,v11] H=xU C n v0 v1 v2 v6 v7 aT v8 v9 v10 kr gD v11 H:=by
 kernel_rfl
def WQ (C:ae)(n:Nat)(a0 a1 a2:Value)(H:aa):VH:= mv (cv 0) H λx0 H=>mv (Value.bool false) H λx1 H=>mv a2 H λx2 H=>af (pS (ai Tryz.prog .geq 3 x2 (cv 2)) H) λx3 H=>aX x3 (mv a2 H λx4 H=>af (C 148 [x4] H) λx5 H=>af (Nv x5 (cv 1) H) λx6 H=>mv x6 H λx7 H=>tu 1 H λhb H=>mv a0 H λx8 H=>mv a2 H λx9 H=>mv x7 H λaC H=>af (pS (ai Tryz.prog .sub 3 aC (cv 1)) H) λaO H=>af (VQ 2 1 8 [(cv 0)] aO aO H) λaN H=>mv x7 H λaI H=>af (JJ (hb+0) (msB 2 1 8 [(cv 0)] aI aI) H) λaM H=>af (C 131 [x9,aN,aM] H) λaW H=>af (C 141 [x8,aW] H) λaU H=>mv aU H λbf H=>af (cm 0 bf H) λaV H=>af (cm 1 bf H) λbt H=>mv aV H λbR H=>mv bt H λbn H=>mv bR H λbA H=>af (C 59 [(cv 3),bA] H) λbJ H=>mv bn H λbM H=>mv bJ H λbU H=>mv bM H λb9 H=>some (Value.tuple #[bU,b9],H)) (mv (Value.slice none 0 0) H λcH H=>mv a2 H λcJ H=>af (pS (ai Tryz.prog .eql 3 cJ (cv 1)) H) λeE H=>aX eE (mv a0 H λdE H=>mv a1 H λeh H=>af (C 122 [dE,eh,(cv 0),(cv 1),(Value.slice none 0 0)] H) λdK H=>mv dK H λdq H=>vE C n [a0,a1,a2,x0,x1,x3,undef,undef,undef,eE,undef,dq] H) (vE C n [a0,a1,a2,x0,x1,x3,undef,undef,undef,eE,undef,cH] H))
theorem RH (G:ae)(n:Nat)(a0 a1 a2:Value)(H:aa):run G (n+1) 151 [a0,a1,a2] H=WQ (run G n) n a0 a1 a2 H:=by
 unfold run;rw[ao (fn:=Tryz.f151) (keep:=[0,1,2,6,7,13,8,9,10,33,40,11]) (av 151 rfl) (by kernel_rfl) (by kernel_rfl)]
 kernel_rfl
end Go.Proofs.YtgfgglponbmgmaaGreat.Fun
end
