/- Texts of the proof of helpPlays_holds, put together by a small program of ours (names shortened, spaces taken out). No condition beyond the given statement. -/
import Derived.Test.YtgfgglponbmgmaaGreatHPL9
import Derived.Test.YtgfgglponbmgmaaGreatHPL8
set_option linter.unusedVariables false
set_option linter.unusedSimpArgs false
set_option linter.unnecessarySimpa false
noncomputable section
section
namespace Go.Proofs.YtgfgglponbmgmaaGreat.Fun
open Go.RowKit Go.Proofs.YtgfgglponbmgmaaGreatA.Am
set_option maxRecDepth 10000
abbrev sr (vs:List Value)(i:Nat):Value:=sl [0,1,2,6,7,8,9,40,10,11,13,66,12,81] vs i
def CW (C:ae)(n:Nat)(v0 v1 v2 v6 v7 v8 v9 gQ v10 v11 aT fQ aW v81:Value)(H:aa):VH:= mv v0 H λlE H=>af (C 37 [lE] H) λgn H=>mv aW H λpO H=>mv pO H λmC H=>some (mC,H)
def CX (C:ae)(n:Nat)(vs:List Value)(H:aa):VH:=CW C n (sr vs 0) (sr vs 1) (sr vs 2) (sr vs 6) (sr vs 7) (sr vs 8) (sr vs 9) (sr vs 40) (sr vs 10) (sr vs 11) (sr vs 13) (sr vs 66) (sr vs 12) (sr vs 81) H
theorem Pq (C:ae)(n:Nat)(v0 v1 v2 v6 v7 v8 v9 gQ v10 v11 aT fQ aW v81:Value)(H:aa):CX C n [v0,v1,v2,v6,v7,v8,v9,gQ,v10,v11,aT,fQ,aW,v81] H=CW C n v0 v1 v2 v6 v7 v8 v9 gQ v10 v11 aT fQ aW v81 H:=by
 kernel_rfl
def F13 (C:ae)(n:Nat)(a0 a1 a2:Value)(H:aa):VH:= mv (cv 0) H λx0 H=>mv a0 H λx1 H=>af (au x1 H) λx2 H=>af (ak 1 x2 H) λx3 H=>af (pS (aq x3 H) H) λx4 H=>af (au x4 H) λx5 H=>af (ak 3 x5 H) λx6 H=>af (pS (aq x6 H) H) λx7 H=>mv x7 H λx8 H=>mv x8 H λx9 H=>mv a1 H λaC H=>af (C 23 [x9,aC] H) λaO H=>af (some (aV H 69 1 [(cv 0),(cv 0)])) λaN H=>af (bE 2 aN aO H) λaI H=>mv x8 H λaM H=>af (ak 1 aN H) λaS H=>af (pS (aq aS H) H) λbf H=>af (C 33 [aM,bf] H) λaZ H=>mv aZ H λaX H=>mv aX H λbz H=>af (C 57 [bz] H) λbT H=>af (pS (ai Tryz.prog .eql 3 bT (cv 5)) H) λbl H=>mv bl H λbB H=>af (gd (ag bB false) (some (aX,H)) H) λbL H=>af (gd (ag bB false) (C 57 [bL] H) H) λbR H=>af (gd (ag bB false) (pS (ai Tryz.prog .eql 3 bR (cv 3)) H) H) λbX H=>af (aK bB (Value.bool true) bX H) λcg H=>mv cg H λcN H=>af (gd (ag cN false) (some (aX,H)) H) λcd H=>af (gd (ag cN false) (C 57 [cd] H) H) λbV H=>af (gd (ag cN false) (pS (ai Tryz.prog .eql 3 bV (cv 4)) H) H) λcq H=>af (aK cN (Value.bool true) cq H) λcR H=>aU cR (mv (cv 0) H λbN H=>some (bN,H)) (mv x8 H λcu H=>af (C 36 [] H) λdE H=>af (C 35 [cu,dE] H) λbJ H=>mv bJ H λcm H=>af (cx 0 cm H) λdM H=>af (cx 1 cm H) λdp H=>mv dM H λcU H=>mv dp H λcC H=>mv x8 H λcM rS=>af (ak 0 aN rS) λek pP=>af (pS (aq ek pP) pP) λdU mO=>af (pS (ai Tryz.prog .add 3 dU (cv 2)) mO) λeu tO=>af (ak 1 aN tO) λdQ pQ=>af (pS (aq dQ pQ) pQ) λdy nm=>af (some (aX,nm)) λde tP=>af (some (cU,tP)) λcV qH=>af (C 59 [(cv 1),cV] qH) λcH tY=>af (C 58 [eu,dy,de,cH] tY) λeG xL=>af (C 35 [cM,eG] xL) λeo lL=>af (some (eo,lL)) λdZ mQ=>af (cx 0 dZ mQ) λdT mD=>af (cx 1 dZ mD) λeI qI=>af (some (dT,qI)) λeZ Cy=>af (some (eI,Cy)) λdD pR=>if(kS (some true) (some true) (pS (aq ek pP) pP) (pS (aq ek qH) qH) (pS (aq ek tY) tY)&&(kS (some true) (some true) (pS (aq dQ pQ) pQ) (pS (aq dQ qH) qH) (pS (aq dQ tY) tY)&&true))=true then(λH=>mv cC H λiz H=>af (pS (iG .not iz) H) λer H=>mv er H λgE H=>af (gd (ag gE false) (some (dD,H)) H) λim H=>af (gd (ag gE false) (pS (iG .not im) H) H) λgD H=>af (aK gE (Value.bool true) gD H) λeU H=>aU eU (mv a0 H λiZ H=>af (C 37 [iZ] H) λj9 H=>mv (cv 0) H λjg H=>some (jg,H)) (mv x8 H λfI oO=>af (ak 1 aN oO) λka tV=>af (pS (aq ka tV) tV) λfM CD=>af (some (aX,CD)) λgR An=>af (some (eZ,An)) λlJ EM=>af (C 59 [(cv 5),lJ] EM) λmW CE=>af (C 60 [fI,fM,gR,mW] CE) λmX GQ=>if(kS (some true) (some true) (pS (aq ka tV) tV) (pS (aq ka EM) EM) (pS (aq ka CE) CE)&&true)=true then(λH=>mv a2 H λln H=>mv ln H λqV H=>af (gd (ag qV true) (ak 0 aN H) H) λiI H=>af (gd (ag qV true) (pS (aq iI H) H) H) λlF H=>af (gd (ag qV true) (pS (ai Tryz.prog .neq 3 lF (cv 1)) H) H) λsU H=>af (aK qV sU (Value.bool false) H) λkr H=>aU kr (mv x8 H λuB H=>af (ak 0 aN H) λpo H=>af (pS (aq po H) H) λxh H=>af (pS (ai Tryz.prog .add 3 xh (cv 2)) H) λuC H=>af (C 61 [uB,uC,(cv 1)] H) λva H=>CX C n [a0,a1,a2,x0,x8,aN,aX,cR,cU,cC,dD,eU,eZ,kr] H) (CX C n [a0,a1,a2,x0,x8,aN,aX,cR,cU,cC,dD,eU,eZ,kr] H)) GQ else none)) pR else none)
theorem Yg (G:ae)(n:Nat)(a0 a1 a2:Value)(H:aa):run G (n+1) 13 [a0,a1,a2] H=F13 (run G n) n a0 a1 a2 H:=by
 unfold run;rw[ao (fn:=Tryz.f13) (keep:=[0,1,2,6,7,8,9,40,10,11,13,66,12,81]) (av 13 rfl) (by kernel_rfl) (by kernel_rfl)]
 kernel_rfl
def F33 (C:ae)(n:Nat)(a0 a1:Value)(H:aa):VH:= mv (cv 0) H λx0 H=>mv a1 H λx1 H=>af (pS (ai Tryz.prog .lss 3 x1 (cv 1)) H) λx2 H=>mv x2 H λx3 H=>af (gd (ag x3 false) (some (a1,H)) H) λx4 H=>af (gd (ag x3 false) (some (a0,H)) H) λx5 H=>af (gd (ag x3 false) (au x5 H) H) λx6 H=>af (gd (ag x3 false) (ak 1 x6 H) H) λx7 H=>af (gd (ag x3 false) (pS (aq x7 H) H) H) λx8 H=>af (gd (ag x3 false) (pS (cE x8) H) H) λx9 H=>af (gd (ag x3 false) (pS (ai Tryz.prog .gtr 3 x4 x9) H) H) λaC H=>af (aK x3 (Value.bool true) aC H) λaO H=>aU aO (mv (cv 0) H λaN H=>some (aN,H)) (mv a0 H λaI H=>af (au aI H) λaM H=>af (ak 1 aM H) λaS H=>af (pS (aq aS H) H) λbf H=>mv a1 H λaZ H=>af (pS (ai Tryz.prog .sub 3 aZ (cv 1)) H) λaX H=>af (cK 1 bf aX H) λbz H=>af (pS (aq bz H) H) λbT H=>mv bT H λbl H=>some (bl,H))
theorem Yh (G:ae)(n:Nat)(a0 a1:Value)(H:aa):run G (n+1) 33 [a0,a1] H=F33 (run G n) n a0 a1 H:=by
 unfold run;rw[ao (fn:=Tryz.f33) (keep:=[0,1,4,15]) (av 33 rfl) (by kernel_rfl) (by kernel_rfl)]
 kernel_rfl
def F38 (C:ae)(n:Nat)(a0 a1:Value)(H:aa):VH:= mv (cv 0) H λx0 H=>mv a0 H λx1 H=>mv a1 H λx2 H=>af (C 79 [x1,x2] H) λx3 H=>af (pS (iG .not x3) H) λx4 H=>aU x4 (mv (cv 0) H λx5 H=>some (x5,H)) (mv a1 H λx6 H=>af (pS (ai Tryz.prog .shl 2 x6 (Value.int .u64 (3))) H) λx7 H=>mv a0 H λx8 H=>af (pS (ai Tryz.prog .or 2 x7 x8) H) λx9 H=>mv x9 H λaC H=>some (aC,H))
theorem Yi (G:ae)(n:Nat)(a0 a1:Value)(H:aa):run G (n+1) 38 [a0,a1] H=F38 (run G n) n a0 a1 H:=by
 unfold run;rw[ao (fn:=Tryz.f38) (keep:=[0,1,4,8]) (av 38 rfl) (by kernel_rfl) (by kernel_rfl)]
 kernel_rfl
def F85 (C:ae)(n:Nat)(a0 a1:Value)(H:aa):VH:= mv (cv 0) H λx0 H=>mv a0 H λx1 H=>af (C 106 [x1] H) λx2 H=>af (pS (iG .not x2) H) λx3 H=>mv x3 H λx4 H=>aU x4 (mv (cv 4) H λx5 H=>some (x5,H)) (mv a1 H λx6 H=>af (C 107 [x6] H) λx7 H=>af (pS (iG .not x7) H) λx8 H=>mv x8 H λx9 H=>aU x9 (mv (cv 6) H λaC H=>some (aC,H)) (mv a0 H λaO H=>af (au aO H) λaN H=>af (ak 3 aN H) λaI H=>af (pS (aq aI H) H) λaM H=>af (C 108 [aM] H) λaS H=>af (pS (cE aS) H) λbf H=>af (pS (ai Tryz.prog .gtr 3 bf (cv 0)) H) λaZ H=>mv aZ H λaX H=>aU aX (mv (cv 7) H λbz H=>some (bz,H)) (mv a0 H λbT H=>af (au bT H) λbl H=>af (ak 3 bl H) λbB H=>af (pS (aq bB H) H) λbL H=>mv a1 H λbR H=>af (C 109 [bL,bR] H) λbX H=>mv bX H λcg H=>af (cx 0 cg H) λcN H=>af (cx 1 cg H) λcd H=>mv cN H λbV H=>mv cd H λcq H=>mv cq H λcR H=>af (pS (iG .not cR) H) λbN H=>aU bN (mv (cv 8) H λcu H=>some (cu,H)) (mv a0 H λdE H=>af (au dE H) λbJ H=>af (ak 3 bJ H) λcm H=>af (pS (aq cm H) H) λdM H=>mv bV H λdp H=>af (C 61 [dM,(cv 6),dp] H) λcU H=>mv a0 H λcC oM=>af (some (a0,oM)) λcM rS=>af (au cM rS) λek pP=>af (ak 5 ek pP) λdU mO=>af (pS (aq dU mO) mO) λeu tO=>af (ay Tryz.prog 31 0 [] tO) λdQ pQ=>af (some (a1,pQ)) λdy nm=>af (dk 45 2 16 dQ dy nm) λde tP=>af (pS (aE Tryz.prog 47 [(4,de)]) tP) λcV qH=>af (some (a0,qH)) λcH tY=>af (au cH tY) λeG xL=>af (ak 7 eG xL) λeo lL=>af (pS (aq eo lL) lL) λdZ mQ=>af (pS (aE Tryz.prog 155 [(0,(cv 4)),(4,cV),(5,dZ)]) mQ) λdT mD=>af (ay Tryz.prog 63 1 [(0,dT)] mD) λeI qI=>af (dk 155 13 120 eu eI qI) λeZ Cy=>af (au cC Cy) λdD pR=>af (ak 5 dD pR) λiz Cz=>af (bE 1 iz eZ Cz) λer tQ=>if(kS (some true) (some true) (pS (aq dU mO) mO) (pS (aq dU tO) tO) (pS (aq dU pQ) pQ)&&(kS (some true) (some true) (pS (aq dU mO) mO) (pS (aq dU nm) nm) (pS (aq dU tP) tP)&&(kS (some true) (some true) (pS (aq dU mO) mO) (pS (aq dU mD) mD) (pS (aq dU qI) qI)&&(kS (some true) (some true) (pS (aq eo lL) lL) (pS (aq eo tO) tO) (pS (aq eo pQ) pQ)&&(kS (some true) (some true) (pS (aq eo lL) lL) (pS (aq eo nm) nm) (pS (aq eo tP) tP)&&true)))))=true then(λH=>mv (cv 0) H λgE H=>some (gE,H)) tQ else none))))
theorem Yj (G:ae)(n:Nat)(a0 a1:Value)(H:aa):run G (n+1) 85 [a0,a1] H=F85 (run G n) n a0 a1 H:=by
 unfold run;rw[ao (fn:=Tryz.f85) (keep:=[0,1,4,7,11,15,6,33,5]) (av 85 rfl) (by kernel_rfl) (by kernel_rfl)]
 kernel_rfl
def F94 (C:ae)(n:Nat)(a0 a1:Value)(H:aa):VH:= mv (Value.pointer none) H λx0 H=>mv a0 H λx1 H=>af (au x1 H) λx2 H=>af (ak 2 x2 H) λx3 H=>af (pS (aq x3 H) H) λx4 H=>af (pS (ai Tryz.prog .add 3 x4 (cv 1)) H) λx5 H=>af (au x1 H) λx6 H=>af (ak 2 x6 H) λx7 H=>af (bE 1 x7 x5 H) λx8 H=>mv a1 H λx9 H=>af (pS (ai Tryz.prog .lss 3 x9 (cv 1)) H) λaC H=>mv aC H λaO H=>af (gd (ag aO false) (some (a1,H)) H) λaN H=>af (gd (ag aO false) (some (a0,H)) H) λaI H=>af (gd (ag aO false) (au aI H) H) λaM H=>af (gd (ag aO false) (ak 0 aM H) H) λaS H=>af (gd (ag aO false) (pS (aq aS H) H) H) λbf H=>af (gd (ag aO false) (pS (cE bf) H) H) λaZ H=>af (gd (ag aO false) (pS (ai Tryz.prog .gtr 3 aN aZ) H) H) λaX H=>af (aK aO (Value.bool true) aX H) λbz H=>aU bz (mv a0 H λbT H=>af (au bT H) λbl H=>af (ak 3 bl H) λbB H=>af (pS (aq bB H) H) λbL H=>af (pS (ai Tryz.prog .add 3 bL (cv 1)) H) λbR H=>af (au bT H) λbX H=>af (ak 3 bX H) λcg H=>af (bE 1 cg bR H) λcN H=>mv (Value.pointer none) H λcd H=>some (cd,H)) (mv a0 H λbV H=>af (au bV H) λcq H=>af (ak 0 cq H) λcR H=>af (pS (aq cR H) H) λbN H=>mv a1 H λcu H=>af (pS (ai Tryz.prog .sub 3 cu (cv 1)) H) λdE H=>af (cK 1 bN dE H) λbJ H=>mv bJ H λcm H=>some (cm,H))
theorem Yk (G:ae)(n:Nat)(a0 a1:Value)(H:aa):run G (n+1) 94 [a0,a1] H=F94 (run G n) n a0 a1 H:=by
 unfold run;rw[ao (fn:=Tryz.f94) (keep:=[0,1,4,22]) (av 94 rfl) (by kernel_rfl) (by kernel_rfl)]
 kernel_rfl
abbrev su (vs:List Value)(i:Nat):Value:=sl [0,1,4,6,3,11,20,48,5] vs i
def yO (C:ae)(n:Nat)(v0 v1 v4 v6 v3 v11 v20 jW v5:Value)(H:aa):VH:= mv v0 H λeG H=>mv v5 H λeo H=>mv v0 H λdZ H=>af (au dZ H) λdT H=>af (ak 0 dT H) λeI H=>af (pS (aq eI H) H) λeZ H=>af (pS (dh 3 v3 H) H) λdD H=>af (pS (aE Tryz.prog 41 [(1,eZ),(10,dD)]) H) λiz H=>af (C 17 [eo,iz] H) λer H=>af (au eG H) λgE H=>af (ak 5 gE H) λim H=>af (bE 1 im er H) λgD H=>mv (cv 0) H λeU H=>some (eU,H)
def vX (C:ae)(n:Nat)(vs:List Value)(H:aa):VH:=yO C n (su vs 0) (su vs 1) (su vs 4) (su vs 6) (su vs 3) (su vs 11) (su vs 20) (su vs 48) (su vs 5) H
theorem Mw (C:ae)(n:Nat)(v0 v1 v4 v6 v3 v11 v20 jW v5:Value)(H:aa):vX C n [v0,v1,v4,v6,v3,v11,v20,jW,v5] H=yO C n v0 v1 v4 v6 v3 v11 v20 jW v5 H:=by
 kernel_rfl
def Yl (C:ae)(n:Nat)(a0 a1:Value)(H:aa):VH:= af (dL 39 a1 H) λx0 H=>mv (cv 0) H λx1 H=>mv a0 H λx2 H=>af (au x2 H) λx3 H=>af (ak 1 x3 H) λx4 H=>af (pS (aq x4 H) H) λx5 H=>mv x5 H λx6 H=>aU x6 (mv (cv 4) H λx7 H=>some (x7,H)) (af (ak 0 x0 H) λx8 H=>af (pS (aq x8 H) H) λx9 H=>af (pS (ai Tryz.prog .lss 3 x9 (cv 1)) H) λaC H=>mv aC H λaO H=>af (gd (ag aO false) (ak 0 x0 H) H) λaN H=>af (gd (ag aO false) (pS (aq aN H) H) H) λaI H=>af (gd (ag aO false) (pS (ai Tryz.prog .gtr 3 aI (cv 10)) H) H) λaM H=>af (aK aO (Value.bool true) aM H) λaS H=>mv aS H λbf H=>aU bf (mv (cv 5) H λaZ H=>some (aZ,H)) (mv a0 H λaX H=>af (au aX H) λbz H=>af (ak 0 bz H) λbT H=>af (pS (aq bT H) H) λbl H=>af (pS (ai Tryz.prog .lss 3 bl (cv 1)) H) λbB H=>mv bB H λbL H=>af (gd (ag bL false) (some (a0,H)) H) λbR H=>af (gd (ag bL false) (au bR H) H) λbX H=>af (gd (ag bL false) (ak 0 bX H) H) λcg H=>af (gd (ag bL false) (pS (aq cg H) H) H) λcN H=>af (gd (ag bL false) (pS (ai Tryz.prog .gtr 3 cN (cv 64)) H) H) λcd H=>af (aK bL (Value.bool true) cd H) λbV H=>mv bV H λcq H=>aU cq (mv (cv 2) H λcR H=>some (cR,H)) (mv a0 H λbN H=>af (au bN H) λcu H=>af (ak 1 cu H) λdE H=>af (bE 1 dE (Value.bool true) H) λbJ H=>mv a0 H λcm H=>af (pS (dh 3 x0 H) H) λdM H=>af (au cm H) λdp H=>af (ak 2 dp H) λcU H=>af (bE 3 cU dM H) λcC H=>mv a0 H λcM H=>af (au cM H) λek H=>af (ak 6 ek H) λdU H=>af (bE 1 dU (cv 0) H) λeu H=>mv a0 H λdQ H=>af (au dQ H) λdy H=>af (ak 7 dy H) λde H=>af (bE 1 de (Value.bool false) H) λcV H=>mv (cv 24) H λcH H=>af (ak 0 x0 H) λiZ H=>af (pS (aq iZ H) H) λj9 H=>af (pS (ai Tryz.prog .gtr 3 j9 (cv 3)) H) λjg H=>aU jg (mv (cv 25) H λfI H=>vX C n [a0,a1,x1,x6,x0,bf,cq,jg,fI] H) (vX C n [a0,a1,x1,x6,x0,bf,cq,jg,cH] H))))
theorem SR (G:ae)(n:Nat)(a0 a1:Value)(H:aa):run G (n+1) 100 [a0,a1] H=Yl (run G n) n a0 a1 H:=by
 unfold run;rw[ao (fn:=Tryz.f100) (keep:=[0,1,4,6,3,11,20,48,5]) (av 100 rfl) (by kernel_rfl) (by kernel_rfl)]
 kernel_rfl
def Ym (C:ae)(n:Nat)(a0 a1:Value)(H:aa):VH:= mv (cv 0) H λx0 H=>mv (Value.bool false) H λx1 H=>mv a1 H λx2 Hx2=>af (C 107 [x2] Hx2) λx3 Hx3=>af (pS (iG .not x3) Hx3) λx4 Hx4=>af (some (x4,Hx4)) λx5 W3=>af (gd (ag x5 false) (some (a1,W3)) W3) λx6 Hx6=>af (gd (ag x5 false) (pS (cE x6) Hx6) Hx6) λx7 UP=>af (gd (ag x5 false) (C 135 [x7] UP) UP) λx8 R0=>af (gd (ag x5 false) (some (a0,R0)) R0) λx9 W4=>af (gd (ag x5 false) (au x9 W4) W4) λaC GP=>af (gd (ag x5 false) (ak 0 aC GP) GP) λaO EL=>af (gd (ag x5 false) (pS (aq aO EL) EL) EL) λaN ON=>af (gd (ag x5 false) (some (a0,ON)) ON) λaI Al=>af (gd (ag x5 false) (au aI Al) Al) λaM Cu=>af (gd (ag x5 false) (ak 1 aM Cu) Cu) λaS vd=>af (gd (ag x5 false) (pS (aq aS vd) vd) vd) λbf EI=>af (gd (ag x5 false) (pS (cE bf) EI) EI) λaZ rX=>af (gd (ag x5 false) (pS (ai Tryz.prog .sub 3 aN aZ) rX) rX) λaX xB=>af (gd (ag x5 false) (pS (ai Tryz.prog .gtr 3 x8 aX) xB) xB) λbz rY=>af (aK x5 (Value.bool true) bz rY) λbT rZ=>if(kS (ag x5 false) (ag x5 false) (pS (aq aO EL) EL) (pS (aq aO UP) UP) (pS (aq aO R0) R0)&&(kS (ag x5 false) (ag x5 false) (pS (aq aS vd) vd) (pS (aq aS UP) UP) (pS (aq aS R0) R0)&&true))=true then(λH=>aU bT (mv (cv 0) H λbl H=>mv (Value.bool false) H λbB H=>some (Value.tuple #[bl,bB],H)) (mv a0 H λbL H=>mv a1 H λbR H=>af (C 136 [bL,bR] H) λbX H=>mv bX H λcg H=>mv (Value.bool true) H λcN H=>some (Value.tuple #[cg,cN],H))) rZ else none
theorem SS (G:ae)(n:Nat)(a0 a1:Value)(H:aa):run G (n+1) 109 [a0,a1] H=Ym (run G n) n a0 a1 H:=by
 unfold run;rw[ao (fn:=Tryz.f109) (keep:=[0,1,4,5,24]) (av 109 rfl) (by kernel_rfl) (by kernel_rfl)]
 kernel_rfl
abbrev jF (vs:List Value)(i:Nat):Value:=sl [0,1,4,15,5,6,30,7,8] vs i
def yP (C:ae)(n:Nat)(v0 v1 v4 bQ v5 v6 v30 v7 v8:Value)(H:aa):VH:= mv v0 H λbl H=>mv v7 H λbB H=>mv v1 H λbL H=>af (C 59 [(cv 5),bL] H) λbR H=>mv v8 H λbX H=>af (C 140 [bl,bB,bR,bX] H) λcg H=>some (Value.tuple #[],H)
def CY (C:ae)(n:Nat)(vs:List Value)(H:aa):VH:=yP C n (jF vs 0) (jF vs 1) (jF vs 4) (jF vs 15) (jF vs 5) (jF vs 6) (jF vs 30) (jF vs 7) (jF vs 8) H
theorem Mx (C:ae)(n:Nat)(v0 v1 v4 bQ v5 v6 v30 v7 v8:Value)(H:aa):CY C n [v0,v1,v4,bQ,v5,v6,v30,v7,v8] H=yP C n v0 v1 v4 bQ v5 v6 v30 v7 v8 H:=by
 kernel_rfl
def yQ (C:ae)(n:Nat)(v0 v1 v4 bQ v5 v6 v30 v7 v8:Value)(H:aa):VH:= mv v0 H λx5 H=>mv v1 H λx6 H=>af (pS (ai Tryz.prog .add 3 x6 (cv 4)) H) λx7 H=>mv v5 H λx8 H=>af (C 140 [x5,x7,(cv 0),x8] H) λx9 H=>mv v0 H λaC H=>mv v1 H λaO H=>af (pS (ai Tryz.prog .add 3 aO (cv 4)) H) λaN H=>af (C 139 [aC,aN] H) λaI H=>mv aI H λaM H=>mv v0 H λaS H=>mv v1 H λbf H=>af (pS (ai Tryz.prog .add 3 bf (cv 1)) H) λaZ H=>af (C 139 [aS,aZ] H) λaX H=>mv aX H λbz H=>mv (cv 0) H λbT H=>mv aM H λcN H=>af (pS (ai Tryz.prog .eql 2 cN (cv 1)) H) λcd H=>aU cd (mv v0 H λbV H=>mv v1 H λcq H=>af (pS (ai Tryz.prog .add 3 cq (cv 3)) H) λcR H=>af (C 139 [bV,cR] H) λbN H=>mv bN H λcu H=>CY C n [v0,v1,v4,bQ,v5,aM,cd,bz,cu] H) (mv v0 H λdE H=>mv v1 H λbJ H=>af (pS (ai Tryz.prog .add 3 bJ (cv 2)) H) λcm H=>af (C 139 [dE,cm] H) λdM H=>mv dM H λdp H=>CY C n [v0,v1,v4,bQ,v5,aM,cd,bz,dp] H)
def CZ (C:ae)(n:Nat)(vs:List Value)(H:aa):VH:=yQ C n (jF vs 0) (jF vs 1) (jF vs 4) (jF vs 15) (jF vs 5) (jF vs 6) (jF vs 30) (jF vs 7) (jF vs 8) H
theorem My (C:ae)(n:Nat)(v0 v1 v4 bQ v5 v6 v30 v7 v8:Value)(H:aa):CZ C n [v0,v1,v4,bQ,v5,v6,v30,v7,v8] H=yQ C n v0 v1 v4 bQ v5 v6 v30 v7 v8 H:=by
 kernel_rfl
def Yn (C:ae)(n:Nat)(a0 a1:Value)(H:aa):VH:= mv a0 H λx0 H=>mv a1 H λx1 H=>af (C 139 [x0,x1] H) λx2 H=>mv x2 H λx3 H=>mv (cv 1) H λx4 H=>mv a0 H λcU H=>mv x3 H λcC H=>af (C 139 [cU,cC] H) λcM H=>af (pS (ai Tryz.prog .neq 2 cM (cv 0)) H) λek H=>aU ek (mv (cv 2) H λdU H=>CZ C n [a0,a1,x3,ek,dU,undef,undef,undef,undef] H) (CZ C n [a0,a1,x3,ek,x4,undef,undef,undef,undef] H)
theorem SU (G:ae)(n:Nat)(a0 a1:Value)(H:aa):run G (n+1) 114 [a0,a1] H=Yn (run G n) n a0 a1 H:=by
 unfold run;rw[ao (fn:=Tryz.f114) (keep:=[0,1,4,15,5,6,30,7,8]) (av 114 rfl) (by kernel_rfl) (by kernel_rfl)]
 kernel_rfl
def Ps (C:ae)(n:Nat)(a0 a1:Value)(H:aa):VH:= mv (cv 0) H λx0 H=>mv a0 H λx1 H=>af (C 130 [x1] H) λx2 H=>af (pS (iG .not x2) H) λx3 H=>mv x3 H λx4 H=>af (gd (ag x4 false) (some (a1,H)) H) λx5 H=>af (gd (ag x4 false) (C 130 [x5] H) H) λx6 H=>af (gd (ag x4 false) (pS (iG .not x6) H) H) λx7 H=>af (aK x4 (Value.bool true) x7 H) λx8 H=>aU x8 (mv (cv 0) H λx9 H=>some (x9,H)) (mv a0 H λaC H=>af (pS (ai Tryz.prog .add 3 aC (cv 4)) H) λaO H=>mv a1 H λaN H=>af (pS (ai Tryz.prog .add 3 aO aN) H) λaI H=>mv aI H λaM H=>some (aM,H))
theorem Jj (G:ae)(n:Nat)(a0 a1:Value)(H:aa):run G (n+1) 142 [a0,a1] H=Ps (run G n) n a0 a1 H:=by
 unfold run;rw[ao (fn:=Tryz.f142) (keep:=[0,1,4,12]) (av 142 rfl) (by kernel_rfl) (by kernel_rfl)]
 kernel_rfl
def Yo (C:ae)(n:Nat)(a0:Value)(H:aa):VH:= mv (cv 0) H λx0 H=>mv a0 H λx1 H=>af (pS (ai Tryz.prog .lss 3 x1 (cv 2)) H) λx2 H=>mv x2 H λx3 H=>af (gd (ag x3 false) (some (a0,H)) H) λx4 H=>af (gd (ag x3 false) (pS (ai Tryz.prog .gtr 3 x4 (cv 16384)) H) H) λx5 H=>af (aK x3 (Value.bool true) x5 H) λx6 H=>aU x6 (mv (cv 0) H λx7 H=>some (x7,H)) (mv a0 H λx8 H=>af (C 164 [x8] H) λx9 H=>af (Oh (cv 2) x9 H) λaC H=>mv aC H λaO H=>some (aO,H))
theorem SV (G:ae)(n:Nat)(a0:Value)(H:aa):run G (n+1) 148 [a0] H=Yo (run G n) n a0 H:=by
 unfold run;rw[ao (fn:=Tryz.f148) (keep:=[0,2,8]) (av 148 rfl) (by kernel_rfl) (by kernel_rfl)]
 kernel_rfl
def Yp (C:ae)(n:Nat)(a0 a1:Value)(H:aa):VH:= mv (cv 0) H λx0 H=>mv a0 H λx1 H=>af (C 148 [x1] H) λx2 H=>mv x2 H λx3 H=>mv a1 H λx4 H=>af (pS (ai Tryz.prog .lss 3 x4 (cv 0)) H) λx5 H=>mv x5 H λx6 H=>af (gd (ag x6 false) (some (a1,H)) H) λx7 H=>af (gd (ag x6 false) (some (x3,H)) H) λx8 H=>af (gd (ag x6 false) (pS (ai Tryz.prog .geq 3 x7 x8) H) H) λx9 H=>af (aK x6 (Value.bool true) x9 H) λaC H=>aU aC (mv (cv 0) H λaO H=>some (aO,H)) (mv a1 H λaN H=>mv a0 H λaI H=>mv x3 H λaM H=>af (pS (ai Tryz.prog .rem 3 aI aM) H) λaS H=>af (pS (ai Tryz.prog .lss 3 aN aS) H) λbf H=>aU bf (mv a0 H λaZ H=>mv x3 H λaX H=>af (pS (ai Tryz.prog .quo 3 aZ aX) H) λbz H=>af (pS (ai Tryz.prog .add 3 bz (cv 1)) H) λbT H=>mv bT H λbl H=>some (bl,H)) (mv a0 H λbB H=>mv x3 H λbL H=>af (pS (ai Tryz.prog .quo 3 bB bL) H) λbR H=>mv bR H λbX H=>some (bX,H)))
theorem SW (G:ae)(n:Nat)(a0 a1:Value)(H:aa):run G (n+1) 150 [a0,a1] H=Yp (run G n) n a0 a1 H:=by
 unfold run;rw[ao (fn:=Tryz.f150) (keep:=[0,1,4,5,14,19]) (av 150 rfl) (by kernel_rfl) (by kernel_rfl)]
 kernel_rfl
abbrev bk (vs:List Value)(i:Nat):Value:=sl [0,1,2,3,4,10,21,12,11,28,32,40,13,50,14,66,74] vs i
def yR (C:ae)(n:Nat)(v0 v1 v2 v3 v4 v10 cL aW v11 lZ fS gQ aT uF bo fQ iA:Value)(H:aa):bd:= mv aT H λaS H=>af (pS (ai Tryz.prog .add 3 aS (cv 1)) H) λbf H=>mv bf H λaZ H=>fin .normal [v0,v1,v2,v3,v4,v10,cL,aW,v11,lZ,fS,gQ,aZ,uF,bo,fQ,iA] H
def vY (C:ae)(n:Nat)(vs:List Value)(H:aa):bd:=yR C n (bk vs 0) (bk vs 1) (bk vs 2) (bk vs 3) (bk vs 4) (bk vs 10) (bk vs 21) (bk vs 12) (bk vs 11) (bk vs 28) (bk vs 32) (bk vs 40) (bk vs 13) (bk vs 50) (bk vs 14) (bk vs 66) (bk vs 74) H
theorem Mz (C:ae)(n:Nat)(v0 v1 v2 v3 v4 v10 cL aW v11 lZ fS gQ aT uF bo fQ iA:Value)(H:aa):vY C n [v0,v1,v2,v3,v4,v10,cL,aW,v11,lZ,fS,gQ,aT,uF,bo,fQ,iA] H=yR C n v0 v1 v2 v3 v4 v10 cL aW v11 lZ fS gQ aT uF bo fQ iA H:=by
 kernel_rfl
def yS (C:ae)(n:Nat)(v0 v1 v2 v3 v4 v10 cL aW v11 lZ fS gQ aT uF bo fQ iA:Value)(H:aa):bd:= mv aT H λx5 H=>mv v11 H λx6 H=>af (pS (ai Tryz.prog .lss 3 x5 x6) H) λx7 H=>mv x7 H λx8 H=>af (gd (ag x8 true) (some (v0,H)) H) λx9 H=>af (gd (ag x8 true) (au x9 H) H) λaC H=>af (gd (ag x8 true) (ak 2 aC H) H) λaO H=>af (gd (ag x8 true) (pS (aq aO H) H) H) λaN H=>af (gd (ag x8 true) (pS (iG .not aN) H) H) λaI H=>af (aK x8 aI (Value.bool false) H) λaM H=>aU aM (mv v0 H λaX H=>mv v4 H λbz H=>mv v11 H λbT H=>mv aT H λbl H=>af (C 103 [bz,bT,bl] H) λbB H=>af (C 139 [aX,bB] H) λbL H=>mv bL H λbR H=>mv bR H λbX H=>af (pS (ai Tryz.prog .neq 2 bX (cv 0)) H) λcg H=>mv cg H λcN H=>af (gd (ag cN false) (some (v0,H)) H) λcd H=>af (gd (ag cN false) (au cd H) H) λbV H=>af (gd (ag cN false) (ak 2 bV H) H) λcq H=>af (gd (ag cN false) (pS (aq cq H) H) H) λcR H=>af (aK cN (Value.bool true) cR H) λbN H=>aU bN (vY C n [v0,v1,v2,v3,v4,v10,cL,aW,v11,lZ,fS,gQ,aT,aM,bR,bN,iA] H) (mv v0 H λcu H=>mv v2 H λdE H=>mv v3 H λbJ H=>mv v4 H λcm H=>mv v11 H λdM H=>mv aT H λdp H=>af (C 165 [cu,dE,bJ,cm,dM,dp] H) λcU H=>af (pS (iG .not cU) H) λcC H=>aU cC (mv (Value.bool false) H λcM H=>fin .ret [v0,v1,v2,v3,v4,cM,cL,aW,v11,lZ,fS,gQ,aT,aM,bR,bN,cC] H) (vY C n [v0,v1,v2,v3,v4,v10,cL,aW,v11,lZ,fS,gQ,aT,aM,bR,bN,cC] H))) (fin (.exit 2) [v0,v1,v2,v3,v4,v10,cL,aW,v11,lZ,fS,gQ,aT,aM,bo,fQ,iA] H)
def Jk (C:ae)(n:Nat)(vs:List Value)(H:aa):bd:=yS C n (bk vs 0) (bk vs 1) (bk vs 2) (bk vs 3) (bk vs 4) (bk vs 10) (bk vs 21) (bk vs 12) (bk vs 11) (bk vs 28) (bk vs 32) (bk vs 40) (bk vs 13) (bk vs 50) (bk vs 14) (bk vs 66) (bk vs 74) H
theorem MA (C:ae)(n:Nat)(v0 v1 v2 v3 v4 v10 cL aW v11 lZ fS gQ aT uF bo fQ iA:Value)(H:aa):Jk C n [v0,v1,v2,v3,v4,v10,cL,aW,v11,lZ,fS,gQ,aT,uF,bo,fQ,iA] H=yS C n v0 v1 v2 v3 v4 v10 cL aW v11 lZ fS gQ aT uF bo fQ iA H:=by
 kernel_rfl
def yT (C:ae)(n:Nat)(v0 v1 v2 v3 v4 v10 cL aW v11 lZ fS gQ aT uF bo fQ iA:Value)(H:aa):VH:= mv (Value.bool true) H λek H=>some (ek,H)
def Jl (C:ae)(n:Nat)(vs:List Value)(H:aa):VH:=yT C n (bk vs 0) (bk vs 1) (bk vs 2) (bk vs 3) (bk vs 4) (bk vs 10) (bk vs 21) (bk vs 12) (bk vs 11) (bk vs 28) (bk vs 32) (bk vs 40) (bk vs 13) (bk vs 50) (bk vs 14) (bk vs 66) (bk vs 74) H
theorem MB (C:ae)(n:Nat)(v0 v1 v2 v3 v4 v10 cL aW v11 lZ fS gQ aT uF bo fQ iA:Value)(H:aa):Jl C n [v0,v1,v2,v3,v4,v10,cL,aW,v11,lZ,fS,gQ,aT,uF,bo,fQ,iA] H=yT C n v0 v1 v2 v3 v4 v10 cL aW v11 lZ fS gQ aT uF bo fQ iA H:=by
 kernel_rfl
def yU (C:ae)(n:Nat)(v0 v1 v2 v3 v4 v10 cL aW v11 lZ fS gQ aT uF bo fQ iA:Value)(H:aa):VH:= mv (cv 0) H λx4 H=>cl (iter n (Jk C n) [v0,v1,v2,v3,v4,v10,cL,aW,v11,lZ,fS,gQ,x4,uF,bo,fQ,iA] H) (dK 2 (dS (Jl C n) (eh Tryz.prog [.tmp 10] [0,1,2,3,4,10,21,12,11,28,32,40,13,50,14,66,74])))
def Jm (C:ae)(n:Nat)(vs:List Value)(H:aa):VH:=yU C n (bk vs 0) (bk vs 1) (bk vs 2) (bk vs 3) (bk vs 4) (bk vs 10) (bk vs 21) (bk vs 12) (bk vs 11) (bk vs 28) (bk vs 32) (bk vs 40) (bk vs 13) (bk vs 50) (bk vs 14) (bk vs 66) (bk vs 74) H
theorem MC (C:ae)(n:Nat)(v0 v1 v2 v3 v4 v10 cL aW v11 lZ fS gQ aT uF bo fQ iA:Value)(H:aa):Jm C n [v0,v1,v2,v3,v4,v10,cL,aW,v11,lZ,fS,gQ,aT,uF,bo,fQ,iA] H=yU C n v0 v1 v2 v3 v4 v10 cL aW v11 lZ fS gQ aT uF bo fQ iA H:=by
 kernel_rfl
def yV (C:ae)(n:Nat)(v0 v1 v2 v3 v4 v10 cL aW v11 lZ fS gQ aT uF bo fQ iA:Value)(H:aa):bd:= mv v0 H λdU H=>af (au dU H) λeu H=>af (ak 2 eu H) λdQ H=>af (pS (aq dQ H) H) λdy H=>af (pS (iG .not dy) H) λde H=>aU de (mv v0 H λcV H=>mv v1 H λcH H=>af (pS (ai Tryz.prog .add 3 cH (cv 4)) H) λeG H=>af (C 154 [cV,eG,(cv 1)] H) λeo H=>mv eo H λdZ H=>mv dZ H λdT H=>mv v11 H λeI H=>af (pS (ai Tryz.prog .geq 3 dT eI) H) λeZ H=>aU eZ (fin (.exit 0) [v0,v1,v2,v3,v4,v10,de,dZ,v11,eZ,fS,gQ,aT,uF,bo,fQ,iA] H) (mv v0 H λdD H=>af (au dD H) λiz H=>af (ak 2 iz H) λer H=>af (pS (aq er H) H) λgE H=>aU gE (fin (.exit 0) [v0,v1,v2,v3,v4,v10,de,dZ,v11,eZ,gE,gQ,aT,uF,bo,fQ,iA] H) (mv v0 H λim H=>mv v2 H λgD H=>mv v3 H λeU H=>mv v4 H λiZ H=>mv v11 H λj9 H=>mv dZ H λjg H=>af (C 165 [im,gD,eU,iZ,j9,jg] H) λfI H=>af (pS (iG .not fI) H) λka H=>aU ka (mv (Value.bool false) H λfM H=>fin .ret [v0,v1,v2,v3,v4,fM,de,dZ,v11,eZ,gE,ka,aT,uF,bo,fQ,iA] H) (fin .normal [v0,v1,v2,v3,v4,v10,de,dZ,v11,eZ,gE,ka,aT,uF,bo,fQ,iA] H)))) (fin (.exit 0) [v0,v1,v2,v3,v4,v10,de,aW,v11,lZ,fS,gQ,aT,uF,bo,fQ,iA] H)
def Jn (C:ae)(n:Nat)(vs:List Value)(H:aa):bd:=yV C n (bk vs 0) (bk vs 1) (bk vs 2) (bk vs 3) (bk vs 4) (bk vs 10) (bk vs 21) (bk vs 12) (bk vs 11) (bk vs 28) (bk vs 32) (bk vs 40) (bk vs 13) (bk vs 50) (bk vs 14) (bk vs 66) (bk vs 74) H
theorem MD (C:ae)(n:Nat)(v0 v1 v2 v3 v4 v10 cL aW v11 lZ fS gQ aT uF bo fQ iA:Value)(H:aa):Jn C n [v0,v1,v2,v3,v4,v10,cL,aW,v11,lZ,fS,gQ,aT,uF,bo,fQ,iA] H=yV C n v0 v1 v2 v3 v4 v10 cL aW v11 lZ fS gQ aT uF bo fQ iA H:=by
 kernel_rfl
def Yq (C:ae)(n:Nat)(a0 a1 a2 a3 a4:Value)(H:aa):VH:= mv (Value.bool false) H λx0 H=>mv a3 H λx1 H=>af (C 148 [x1] H) λx2 H=>mv x2 H λx3 H=>cl (iter n (Jn C n) [a0,a1,a2,a3,a4,x0,undef,undef,x3,undef,undef,undef,undef,undef,undef,undef,undef] H) (dK 0 (dS (Jm C n) (eh Tryz.prog [.tmp 10] [0,1,2,3,4,10,21,12,11,28,32,40,13,50,14,66,74])))
theorem SX (G:ae)(n:Nat)(a0 a1 a2 a3 a4:Value)(H:aa):run G (n+1) 152 [a0,a1,a2,a3,a4] H=Yq (run G n) n a0 a1 a2 a3 a4 H:=by
 unfold run;rw[ao (fn:=Tryz.f152) (keep:=[0,1,2,3,4,10,21,12,11,28,32,40,13,50,14,66,74]) (av 152 rfl) (by kernel_rfl) (by kernel_rfl)]
 kernel_rfl
abbrev fO (vs:List Value)(i:Nat):Value:=sl [0,1,4,5,14,6,3,8,9,24,34,40,43,7] vs i
def yW (C:ae)(n:Nat)(v0 v1 v4 v5 bo v6 v3 v8 v9 eN UR gQ Q7 v7:Value)(H:aa):bd:= mv v0 H λx5 H=>af (au x5 H) λx6 H=>af (ak 2 x6 H) λx7 H=>af (pS (aq x7 H) H) λx8 H=>af (pS (iG .not x8) H) λx9 H=>aU x9 (mv v0 H λaC H=>mv v6 H λaO H=>af (ak 1 v3 H) λaN H=>af (pS (aq aN H) H) λaI H=>af (C 144 [aC,aO,aI] H) λaM H=>mv aM H λaS H=>mv v0 H λbf H=>mv aS H λaZ H=>af (C 115 [bf,aZ] H) λaX H=>mv aX H λbz H=>mv bz H λbT H=>af (C 57 [bT] H) λbl H=>af (pS (ai Tryz.prog .eql 3 bl (cv 4)) H) λbB H=>mv bB H λbL H=>aU bL (mv v0 H λbR H=>mv bz H λbX H=>af (C 83 [bX] H) λcg H=>af (C 124 [bR,cg] H) λcN H=>af (pS (iG .not cN) H) λcd H=>aU cd (af (C 166 [] H) λbV H=>af (bE 6 v4 bV H) λcq H=>mv (Value.bool true) H λcR H=>fin .ret [v0,v1,v4,cR,x9,v6,v3,aS,bz,bl,bL,cd,Q7,v7] H) (af (pS (aE Tryz.prog 47 []) H) λbN H=>af (bE 6 v4 bN H) λcu H=>mv (Value.bool false) H λdE H=>fin .ret [v0,v1,v4,dE,x9,v6,v3,aS,bz,bl,bL,cd,Q7,v7] H)) (af (pS (ai Tryz.prog .eql 3 bl (cv 3)) H) λbJ H=>mv bJ H λcm H=>aU cm (mv v7 H λdM H=>mv v6 H λdp H=>mv aS H λcU H=>mv bz H λcC H=>af (pS (aE Tryz.prog 37 [(0,dp),(1,cU),(2,cC)]) H) λcM H=>af (ay Tryz.prog 35 1 [(0,cM)] H) λek H=>af (dk 37 3 24 dM ek H) λdU H=>mv dU H λeu H=>mv bz H λdQ H=>af (C 83 [dQ] H) λdy H=>mv dy H λde H=>fin .normal [v0,v1,v4,v5,x9,de,v3,aS,bz,bl,bL,gQ,cm,eu] H) (mv v0 H λcV H=>af (pS (dh 3 v3 H) H) λcH H=>mv v6 H λeG H=>mv aS H λeo H=>mv bz H λdZ H=>mv v7 H λdT H=>af (C 167 [cV,cH,eG,eo,dZ,dT] H) λeI H=>af (cx 0 eI H) λeZ H=>af (cx 1 eI H) λdD H=>af (bE 6 v4 eZ H) λiz H=>mv dD H λer H=>fin .ret [v0,v1,v4,er,x9,v6,v3,aS,bz,bl,bL,gQ,cm,v7] H))) (fin (.exit 0) [v0,v1,v4,v5,x9,v6,v3,v8,v9,eN,UR,gQ,Q7,v7] H)
def Jo (C:ae)(n:Nat)(vs:List Value)(H:aa):bd:=yW C n (fO vs 0) (fO vs 1) (fO vs 4) (fO vs 5) (fO vs 14) (fO vs 6) (fO vs 3) (fO vs 8) (fO vs 9) (fO vs 24) (fO vs 34) (fO vs 40) (fO vs 43) (fO vs 7) H
theorem ME (C:ae)(n:Nat)(v0 v1 v4 v5 bo v6 v3 v8 v9 eN UR gQ Q7 v7:Value)(H:aa):Jo C n [v0,v1,v4,v5,bo,v6,v3,v8,v9,eN,UR,gQ,Q7,v7] H=yW C n v0 v1 v4 v5 bo v6 v3 v8 v9 eN UR gQ Q7 v7 H:=by
 kernel_rfl
def yX (C:ae)(n:Nat)(v0 v1 v4 v5 bo v6 v3 v8 v9 eN UR gQ Q7 v7:Value)(H:aa):VH:= af (pS (aE Tryz.prog 47 []) H) λgE H=>af (bE 6 v4 gE H) λim H=>mv (Value.bool true) H λgD H=>af (pS (dh 6 v4 H) H) λr0 _=>some (Value.tuple #[r0,gD],H)
def Jp (C:ae)(n:Nat)(vs:List Value)(H:aa):VH:=yX C n (fO vs 0) (fO vs 1) (fO vs 4) (fO vs 5) (fO vs 14) (fO vs 6) (fO vs 3) (fO vs 8) (fO vs 9) (fO vs 24) (fO vs 34) (fO vs 40) (fO vs 43) (fO vs 7) H
theorem MF (C:ae)(n:Nat)(v0 v1 v4 v5 bo v6 v3 v8 v9 eN UR gQ Q7 v7:Value)(H:aa):Jp C n [v0,v1,v4,v5,bo,v6,v3,v8,v9,eN,UR,gQ,Q7,v7] H=yX C n v0 v1 v4 v5 bo v6 v3 v8 v9 eN UR gQ Q7 v7 H:=by
 kernel_rfl
def Yr (C:ae)(n:Nat)(a0 a1:Value)(H:aa):VH:= af (dL 39 a1 H) λx0 H=>af (some (aV H 47 1 [(cv 0),(Value.bool false),(cv 0),(cv 0),(cv 0),(Value.slice none 0 0)])) λx1 H=>mv (Value.bool false) H λx2 H=>mv (cv 1) H λx3 H=>mv (Value.slice none 0 0) H λx4 H=>cl (iter n (Jo C n) [a0,a1,x1,x2,undef,x3,x0,undef,undef,undef,undef,undef,undef,x4] H) (dK 0 (dS (Jp C n) (eh Tryz.prog [.cell 4 47,.tmp 5] [0,1,4,5,14,6,3,8,9,24,34,40,43,7])))
theorem SY (G:ae)(n:Nat)(a0 a1:Value)(H:aa):run G (n+1) 156 [a0,a1] H=Yr (run G n) n a0 a1 H:=by
 unfold run;rw[ao (fn:=Tryz.f156) (keep:=[0,1,4,5,14,6,3,8,9,24,34,40,43,7]) (av 156 rfl) (by kernel_rfl) (by kernel_rfl)]
 kernel_rfl
end Go.Proofs.YtgfgglponbmgmaaGreat.Fun
end
section
open Go.RowKit
namespace Go.Proofs.YtgfgglponbmgmaaGreatA.Am
variable {P:Program} {μ:Mu} {H H':aa} {w:World} {B:Nat}
theorem cQ.below {w':World}(h:cQ P μ H w B)(b:Below w.heap.size w w'):cQ P μ H w' B:=
 ⟨Nat.le_trans h.base b.size,λi c hi=>by
  obtain⟨l,hl,hb⟩:=h.ok i c hi;exact⟨l,hl,hb.heap (b.block _ hb.lt)⟩,h.BI,h.inj,h.own,h.ef.keep μ.le_refl (λ_ _ h=>h) (λk x hk _=>(b.block _ (Array.getElem?_eq_some_iff.1 hk).1).trans hk),h.wB⟩
theorem EV {bad:List FuncId}{m:Nat}{k:FuncId}{Hk:aa}(dR:nb P bad=true)(hk:gC P bad Ny m k [] []=some (.bool true,Hk))(B:Nat)(H:aa):
  (∃fn,P.funcs[k]? =some fn∧fn.body.isSome=true∧(fn.name== "runtime.NumGoroutine")=false)∧BY P B k [] H (.bool true) H:=by
 have gH:k<P.funcs.size:=Eo (cQ.empty default) (λ_ h=>by simp[Ny] at h) hk
 refine⟨(((oK (B:=0) dR (G:=Ny) Ep (λf args H v H' _ h=>by simp[Ny] at h) m).told k [] [] _ Hk hk).1 gH).1,?_⟩
 intro μ w fC hS ha;have hs:=oK (B:=w.heap.size) dR (G:=Ny) Ep (λf args H v H' _ h=>by simp[Ny] at h) m |>.told k [] [] _ Hk hk
 have ha0:fC=[]:=by
  have:=ha.1
  simpa using this.symm
 subst ha0;refine((hs.1 gH).2 _ w [] (cQ.empty w) .nil).mono ?_;rintro e w' ⟨v',μ',rfl,_,hv,_,hb⟩;rw[hv.bool];exact⟨_,μ,rfl,μ.le_refl,.plain _ rfl,hS.below hb.below,⟨hb.below.mono hS.base,hb.loops,hb.Z9,hb.size⟩⟩
def qK (ks:List FuncId):ae:=λf args H=>if ks.contains f=true∧args.isEmpty=true then some (.bool true,H) else none
theorem EW {ks:List FuncId}:gK (qK ks):=λf args H i b hf v H' h=>by
 unfold qK at h ⊢;split at h
 ·rename_i hc;cases h;rw[if_pos hc];exact⟨hf,rfl⟩
 ·cases h
theorem yY {bad ks:List FuncId}{m n:Nat}{f:FuncId}{args fC:List Value}(dR:nb P bad=true)(MG:nb P (ks++bad)=true)(hk:(ks.all λk=>(gC P bad Ny m k [] []).any λr=>ot r.1 (.bool true))=true)(h:gC P (ks++bad) (qK ks) n f args H=some (.bool true,H'))(hS:cQ P μ H w w.heap.size)(ha:cY μ args fC):
  Calls P f fC.toArray w λe w'=>e= .returned (.bool true)∧Below w.heap.size w w':=by
 have hG: ∀f1 Jq H1 v1 Q8,(ks++bad).contains f1=true→qK ks f1 Jq H1=some (v1,Q8)→
   (∃fn,P.funcs[f1]? =some fn∧fn.body.isSome=true∧(fn.name== "runtime.NumGoroutine")=false)∧BY P w.heap.size f1 Jq H1 v1 Q8:=λf1 Jq H1 v1 Q8 _ h1=>by
  unfold qK at h1;split at h1
  ·rename_i h2;obtain⟨h3,h2⟩:=h2;have h2:Jq=[]:=by simpa using h2
   subst h2;cases h1;have hm:=List.all_eq_true.1 hk f1 (by simpa using h3)
   cases hr:gC P bad Ny m f1 [] [] with
   |none=>rw[hr] at hm;simp at hm
   |some r=>
    obtain⟨v,Hk⟩:=r;rw[hr] at hm;have hv:v= .bool true:=by
     simp only[Option.any_some,ot] at hm;cases v<;>simp_all [zU]
    subst hv;exact EV dR hr _ _
  ·cases h1
 have hs:=(oK (B:=w.heap.size) MG EW hG n).told f args H _ H' h;have gH:f<P.funcs.size:=Eo hS (λhb h=>by
  obtain⟨⟨fn,zP,_⟩,_⟩:=hG _ _ _ _ _ hb h;exact(Array.getElem?_eq_some_iff.1 zP).1) h
 refine((hs.1 gH).2 μ w fC hS ha).mono ?_;rintro e w' ⟨v',μ',rfl,_,hv,_,hb⟩;exact⟨by rw[hv.bool],hb.below⟩
theorem get_none {i:Nat}:aa.get (H++[.dead]) i=H.get i:=by
 unfold aa.get;by_cases h:i<H.length
 ·rw[List.getElem?_append_left h]
 ·rw[List.getElem?_append_right (by omega),List.getElem?_eq_none (show H.length≤i by omega)]
  by_cases h2:i-H.length=0
  ·rw[h2];rfl
  ·rw[List.getElem?_eq_none (by simp;omega)]
theorem Pt {i:Nat}:aa.ef (H++[.dead]) i=H.ef i:=by
 unfold aa.ef;by_cases h:i<H.length
 ·rw[List.getElem?_append_left h]
 ·rw[List.getElem?_append_right (by omega),List.getElem?_eq_none (show H.length≤i by omega)]
  by_cases h2:i-H.length=0
  ·rw[h2];rfl
  ·rw[List.getElem?_eq_none (by simp;omega)]
theorem cQ.none (h:cQ P μ H w B)(jy: ∀i b,H.get i=some b→b.ro=true)(a:Addr):
  cQ P μ (H++[.dead]) w B∧(∀i b,aa.get (H++[.dead]) i=some b→b.ro=true)∧VR μ (.slice (some ⟨H.length,0,none⟩) 0 0) (.slice (some a) 0 0):=by
 refine⟨⟨h.base,λi b hb=>h.ok i b (by rwa [get_none] at hb),λi hi=>h.BI i (by simp at hi;omega),λi j b c l m hb hc=>?_,λi b l hb=>?_,h.ef.keep μ.le_refl (λi o hi=>by rwa [Pt] at hi) (λ_ _ h _=>h),λk hk=>h.wB k (by
  by_cases e:k<H.length
  ·rwa [List.getElem?_append_left e] at hk
  ·have hl:=(List.getElem?_eq_some_iff.1 hk).1;have:k=H.length:=by simp at hl;omega
   subst this;simp at hk)⟩,λi b hb=>jy i b (by rwa [get_none] at hb),.mo _ _ _⟩
 ·rw[get_none] at hb hc;exact h.inj i j b c l m hb hc
 ·rw[get_none] at hb;exact h.own i b l hb
end Go.Proofs.YtgfgglponbmgmaaGreatA.Am
end
