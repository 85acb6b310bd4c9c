/- Pruned: Hb. -/
import Derived.Test.YtokjhbmmdmeafaaGreatQHg
import Derived.Test.YtokjhbmmdmeafaaGreatQHa
import Derived.Test.YtokjhbmmdmeafaaGreatQE2
set_option linter.unusedSimpArgs false
set_option linter.unusedVariables false
set_option maxHeartbeats 4000000
namespace Go.Proofs.YtokjhbmmdmeafaaGreat
open Go.Ev Go.RowKit
open Tryz
theorem LB {P : Program} {f : FuncId} {args : List XV} {l : List Ch} {x : Nat} (h : Gives P f args (.ag l)) (hc : qG 4 l = some (x, [])) : Gives P f args (.ag [.n 4 x]) :=
 h.same (G9 hc)
def eRS : Entry := y8 50 [(none, .ag [.c (.int .u64 18446744069414584321), .c (.int .u64 6034159408538082302), .c (.int .u64 3691218898639771653), .c (.int .u64 8353516859464449352)])]
theorem zq : eRS.OK prog := wh (fun args w => Go.Proofs.enters_of (P := prog) func50 (by kernel_rfl) rfl args w)
 (only (pX (P := prog) (env := []) trivial func50 0 o0 (by kernel_rfl) tt0))
end Go.Proofs.YtokjhbmmdmeafaaGreat
set_option linter.unusedSimpArgs false
set_option linter.unusedVariables false
namespace Go.Proofs.YtokjhbmmdmeafaaGreat
open Go.Ev Go.RowKit
open Tryz
set_option maxHeartbeats 4000000 in
theorem acZ (a : Nat) (ha : a < 115792089237316195423570985008687907853269984665640564039457584007913129639936) : ∃ v, v < 52435875175126190479447740508185965837690552500527637822603658699938581184513 /\ (v * 115792089237316195423570985008687907853269984665640564039457584007913129639936) % 52435875175126190479447740508185965837690552500527637822603658699938581184513 = (a * 3294906474794265442129797520630710739278575682199800681788903916070560242797) % 52435875175126190479447740508185965837690552500527637822603658699938581184513 /\ Gives prog 112 [.t (.ag [.n 4 a])] (.ag [.n 4 v]) := by
 have hB : 3294906474794265442129797520630710739278575682199800681788903916070560242797 = 14526898881837571181 % 18446744073709551616 + 18446744073709551616 * (3129137299524312099 % 18446744073709551616 + 18446744073709551616 * (419701826671360399 % 18446744073709551616 + 18446744073709551616 * (524908885293268753 % 18446744073709551616 + 18446744073709551616 * (0)))) := by simp only [Nat.reduceMod, Nat.reduceMul, Nat.reduceAdd]
 have hT0 : 0 = 0 % 18446744073709551616 + 18446744073709551616 * (0 % 18446744073709551616 + 18446744073709551616 * (0 % 18446744073709551616 + 18446744073709551616 * (0 % 18446744073709551616 + 18446744073709551616 * (0 % 18446744073709551616 + 18446744073709551616 * (0))))) := by simp only [Nat.zero_mod, Nat.mul_zero, Nat.add_zero]
 obtain ⟨ao, ap, eI⟩ := pW (a / 1) (14526898881837571181)
 obtain ⟨aq, ar, eJ⟩ := pV (ap) (0) 0 (by decide)
 obtain ⟨ab, au, eK⟩ := pV (aq) (0) 0 (by decide)
 obtain ⟨aw, ax, eL⟩ := pW (a / 1) (3129137299524312099)
 obtain ⟨ay, az, eM⟩ := pV (ax) (0) 0 (by decide)
 obtain ⟨aB, aC, eN⟩ := pV (ay) (ao + ar + au) 0 (by decide)
 obtain ⟨aD, aE, eO⟩ := pW (a / 1) (419701826671360399)
 obtain ⟨aF, aG, eP⟩ := pV (aE) (0) 0 (by decide)
 obtain ⟨aH, aI, eQ⟩ := pV (aF) (aw + az + aC) 0 (by decide)
 obtain ⟨aJ, aK, eR⟩ := pW (a / 1) (524908885293268753)
 obtain ⟨aL, aM, eS⟩ := pV (aK) (0) 0 (by decide)
 obtain ⟨aN, aO, eT⟩ := pV (aL) (aD + aG + aI) 0 (by decide)
 obtain ⟨aP, aQ, eU⟩ := pV (0) (aJ + aM + aO) 0 (by decide)
 obtain ⟨aR, aS, eV⟩ := pW (ab * 18446744069414584319) (18446744069414584321)
 obtain ⟨eW, aT, eX⟩ := pV (aS) (ab) 0 (by decide)
 obtain ⟨aU, aV, eY⟩ := pW (ab * 18446744069414584319) (6034159408538082302)
 obtain ⟨aW, aX, eZ⟩ := pV (aV) (aB) 0 (by decide)
 obtain ⟨aY, aZ, fa⟩ := pV (aW) (aR + aT) 0 (by decide)
 obtain ⟨ba, bb, fc⟩ := pW (ab * 18446744069414584319) (3691218898639771653)
 obtain ⟨bc, be, fe⟩ := pV (bb) (aH) 0 (by decide)
 obtain ⟨bf, bg, fg⟩ := pV (bc) (aU + aX + aZ) 0 (by decide)
 obtain ⟨bh, bl, fh⟩ := pW (ab * 18446744069414584319) (8353516859464449352)
 obtain ⟨bm, bn, fi⟩ := pV (bl) (aN) 0 (by decide)
 obtain ⟨bo, bp, fj⟩ := pV (bm) (ba + be + bg) 0 (by decide)
 obtain ⟨bq, br, fk⟩ := pV (aP) (bh + bn + bp) 0 (by decide)
 obtain ⟨T1, Q0, hT1, hE0, hL1, hQ0⟩ := vG hT0 hB (by omega) (by decide) eI eJ eK eL eM eN eO eP eQ eR eS eT eU eV eX eY eZ fa fc fe fg fh fi fj fk
 obtain ⟨bu, bv, fl⟩ := pW (a / 18446744073709551616) (14526898881837571181)
 obtain ⟨bx, bz, fm⟩ := pV (bv) (aY) 0 (by decide)
 obtain ⟨ac, bA, fo⟩ := pV (bx) (0) 0 (by decide)
 obtain ⟨bB, bC, fq⟩ := pW (a / 18446744073709551616) (3129137299524312099)
 obtain ⟨bD, bE, ft⟩ := pV (bC) (bf) 0 (by decide)
 obtain ⟨bF, bG, fu⟩ := pV (bD) (bu + bz + bA) 0 (by decide)
 obtain ⟨bH, bI, fw⟩ := pW (a / 18446744073709551616) (419701826671360399)
 obtain ⟨bJ, bK, fx⟩ := pV (bI) (bo) 0 (by decide)
 obtain ⟨bL, bM, fy⟩ := pV (bJ) (bB + bE + bG) 0 (by decide)
 obtain ⟨bN, bO, fA⟩ := pW (a / 18446744073709551616) (524908885293268753)
 obtain ⟨bP, bQ, fB⟩ := pV (bO) (bq) 0 (by decide)
 obtain ⟨bR, bS, fC⟩ := pV (bP) (bH + bK + bM) 0 (by decide)
 obtain ⟨bT, bU, fD⟩ := pV (aQ + br) (bN + bQ + bS) 0 (by decide)
 obtain ⟨bV, bW, fE⟩ := pW (ac * 18446744069414584319) (18446744069414584321)
 obtain ⟨fF, bX, fG⟩ := pV (bW) (ac) 0 (by decide)
 obtain ⟨bY, bZ, fH⟩ := pW (ac * 18446744069414584319) (6034159408538082302)
 obtain ⟨b9, ca, fI⟩ := pV (bZ) (bF) 0 (by decide)
 obtain ⟨cb, cc, fJ⟩ := pV (b9) (bV + bX) 0 (by decide)
 obtain ⟨cd, ce, fK⟩ := pW (ac * 18446744069414584319) (3691218898639771653)
 obtain ⟨cf, cg, fL⟩ := pV (ce) (bL) 0 (by decide)
 obtain ⟨ck, cm, fM⟩ := pV (cf) (bY + ca + cc) 0 (by decide)
 obtain ⟨co, cq, fN⟩ := pW (ac * 18446744069414584319) (8353516859464449352)
 obtain ⟨cr, ct, fO⟩ := pV (cq) (bR) 0 (by decide)
 obtain ⟨cu, cv, fP⟩ := pV (cr) (cd + cg + cm) 0 (by decide)
 obtain ⟨cx, cy, fQ⟩ := pV (bT) (co + ct + cv) 0 (by decide)
 obtain ⟨T2, Q1, hT2, hE1, hL2, hQ1⟩ := vG hT1 hB hL1 (by decide) fl fm fo fq ft fu fw fx fy fA fB fC fD fE fG fH fI fJ fK fL fM fN fO fP fQ
 obtain ⟨cz, cA, fR⟩ := pW (a / 340282366920938463463374607431768211456) (14526898881837571181)
 obtain ⟨cB, cC, fS⟩ := pV (cA) (cb) 0 (by decide)
 obtain ⟨ae, cD, fT⟩ := pV (cB) (0) 0 (by decide)
 obtain ⟨cF, cG, fU⟩ := pW (a / 340282366920938463463374607431768211456) (3129137299524312099)
 obtain ⟨cH, cI, fV⟩ := pV (cG) (ck) 0 (by decide)
 obtain ⟨cJ, cK, fW⟩ := pV (cH) (cz + cC + cD) 0 (by decide)
 obtain ⟨cL, cM, fX⟩ := pW (a / 340282366920938463463374607431768211456) (419701826671360399)
 obtain ⟨cN, cO, fY⟩ := pV (cM) (cu) 0 (by decide)
 obtain ⟨cP, cQ, fZ⟩ := pV (cN) (cF + cI + cK) 0 (by decide)
 obtain ⟨cR, cT, ga⟩ := pW (a / 340282366920938463463374607431768211456) (524908885293268753)
 obtain ⟨cU, cV, gb⟩ := pV (cT) (cx) 0 (by decide)
 obtain ⟨cW, cX, gd⟩ := pV (cU) (cL + cO + cQ) 0 (by decide)
 obtain ⟨cY, cZ, ge⟩ := pV (bU + cy) (cR + cV + cX) 0 (by decide)
 obtain ⟨da, db, gg⟩ := pW (ae * 18446744069414584319) (18446744069414584321)
 obtain ⟨gh, dc, gk⟩ := pV (db) (ae) 0 (by decide)
 obtain ⟨dd, de, gl⟩ := pW (ae * 18446744069414584319) (6034159408538082302)
 obtain ⟨df, dh, gm⟩ := pV (de) (cJ) 0 (by decide)
 obtain ⟨di, dj, gn⟩ := pV (df) (da + dc) 0 (by decide)
 obtain ⟨dk, dl, gp⟩ := pW (ae * 18446744069414584319) (3691218898639771653)
 obtain ⟨dm, dn, gq⟩ := pV (dl) (cP) 0 (by decide)
 obtain ⟨dp, dq, gt⟩ := pV (dm) (dd + dh + dj) 0 (by decide)
 obtain ⟨dr, dt, gu⟩ := pW (ae * 18446744069414584319) (8353516859464449352)
 obtain ⟨du, dv, gv⟩ := pV (dt) (cW) 0 (by decide)
 obtain ⟨dw, dx, gx⟩ := pV (du) (dk + dn + dq) 0 (by decide)
 obtain ⟨dy, dz, gy⟩ := pV (cY) (dr + dv + dx) 0 (by decide)
 obtain ⟨T3, Q2, hT3, hE2, hL3, hQ2⟩ := vG hT2 hB hL2 (by decide) fR fS fT fU fV fW fX fY fZ ga gb gd ge gg gk gl gm gn gp gq gt gu gv gx gy
 obtain ⟨dD, dE, gA⟩ := pW (a / 6277101735386680763835789423207666416102355444464034512896) (14526898881837571181)
 obtain ⟨dF, dG, gD⟩ := pV (dE) (di) 0 (by decide)
 obtain ⟨af, dH, gF⟩ := pV (dF) (0) 0 (by decide)
 obtain ⟨dI, dJ, gG⟩ := pW (a / 6277101735386680763835789423207666416102355444464034512896) (3129137299524312099)
 obtain ⟨dK, dL, gH⟩ := pV (dJ) (dp) 0 (by decide)
 obtain ⟨dN, dO, gI⟩ := pV (dK) (dD + dG + dH) 0 (by decide)
 obtain ⟨dP, dQ, gJ⟩ := pW (a / 6277101735386680763835789423207666416102355444464034512896) (419701826671360399)
 obtain ⟨dR, dT, gK⟩ := pV (dQ) (dw) 0 (by decide)
 obtain ⟨dU, dV, gL⟩ := pV (dR) (dI + dL + dO) 0 (by decide)
 obtain ⟨dW, dX, gM⟩ := pW (a / 6277101735386680763835789423207666416102355444464034512896) (524908885293268753)
 obtain ⟨dY, dZ, gO⟩ := pV (dX) (dy) 0 (by decide)
 obtain ⟨d9, ea, gQ⟩ := pV (dY) (dP + dT + dV) 0 (by decide)
 obtain ⟨ee, am, gR⟩ := pV (cZ + dz) (dW + dZ + ea) 0 (by decide)
 obtain ⟨ef, eh, gT⟩ := pW (af * 18446744069414584319) (18446744069414584321)
 obtain ⟨gU, ei, gW⟩ := pV (eh) (af) 0 (by decide)
 obtain ⟨ej, ek, gX⟩ := pW (af * 18446744069414584319) (6034159408538082302)
 obtain ⟨eo, er, gY⟩ := pV (ek) (dN) 0 (by decide)
 obtain ⟨ah, eu, gZ⟩ := pV (eo) (ef + ei) 0 (by decide)
 obtain ⟨ew, ez, hE⟩ := pW (af * 18446744069414584319) (3691218898639771653)
 obtain ⟨eA, eB, hG⟩ := pV (ez) (dU) 0 (by decide)
 obtain ⟨aj, eC, hH⟩ := pV (eA) (ej + er + eu) 0 (by decide)
 obtain ⟨eD, eE, hI⟩ := pW (af * 18446744069414584319) (8353516859464449352)
 obtain ⟨eF, eG, hJ⟩ := pV (eE) (d9) 0 (by decide)
 obtain ⟨ak, eH, hM⟩ := pV (eF) (ew + eB + eC) 0 (by decide)
 obtain ⟨al, an, hP⟩ := pV (ee) (eD + eG + eH) 0 (by decide)
 obtain ⟨T4, Q3, hT4, hE3, hL4, hQ3⟩ := vG hT3 hB hL3 (by decide) gA gD gF gG gH gI gJ gK gL gM gO gQ gR gT gW gX gY gZ hE hG hH hI hJ hM hP
 obtain ⟨d0, k0, q0⟩ := qP (ah) 18446744069414584321 0 (by decide)
 obtain ⟨d1, k1, q1⟩ := qP (aj) 6034159408538082302 k0 q0.2.2.2
 obtain ⟨d2, k2, q2⟩ := qP (ak) 3691218898639771653 k1 q1.2.2.2
 obtain ⟨d3, k3, q3⟩ := qP (al) 8353516859464449352 k2 q2.2.2.2
 obtain ⟨h1, h2, h3, h4⟩ := Wj q0 q1 q2 q3
 simp only [Nat.reduceMod, Nat.reduceMul, Nat.reduceAdd] at h1
 have hm : (am + an) % 18446744073709551616 = 0 /\ ah % 18446744073709551616 + 18446744073709551616 * (aj % 18446744073709551616 + 18446744073709551616 * (ak % 18446744073709551616 + 18446744073709551616 * (al % 18446744073709551616 + 18446744073709551616 * (0)))) = T4 := by
  have e := hT4
  have l := hL4
  clear q0 q1 q2 q3 h1 h2 h4 hT1 hL1 hT2 hL2 hT3 hL3 hT4 hL4 hE0 hE1 hE2 hE3
  generalize ah % 18446744073709551616 = Z0 at *
  generalize aj % 18446744073709551616 = Z1 at *
  generalize ak % 18446744073709551616 = Z2 at *
  generalize al % 18446744073709551616 = Z3 at *
  generalize (am + an) % 18446744073709551616 = Zm at *
  omega
 rw [hm.2] at h1
 refine ⟨T4 % 52435875175126190479447740508185965837690552500527637822603658699938581184513, Nat.mod_lt _ (by decide), aaD (aax a ha) hE0 hE1 hE2 hE3, ?_⟩
 have hC := ai (dS q3) (ai (dS q2) (ai (dS q1) (ai (dS q0) (ai (dB hP) (ai hM (ai (dA hJ) (ai (dM hI) (ai hH (ai (dA hG) (ai (dM hE) (ai gZ (ai (dA gY) (ai (dM gX) (ai (dA gW) (ai (dM gT) (ai (dC gR) (ai gQ (ai (dA gO) (ai gM (ai gL (ai (dA gK) (ai gJ (ai gI (ai (dA gH) (ai gG (ai gF (ai (dA gD) (ai gA (ai (dB gy) (ai gx (ai (dA gv) (ai (dM gu) (ai gt (ai (dA gq) (ai (dM gp) (ai gn (ai (dA gm) (ai (dM gl) (ai (dA gk) (ai (dM gg) (ai (dC ge) (ai gd (ai (dA gb) (ai ga (ai fZ (ai (dA fY) (ai fX (ai fW (ai (dA fV) (ai fU (ai fT (ai (dA fS) (ai fR (ai (dB fQ) (ai fP (ai (dA fO) (ai (dM fN) (ai fM (ai (dA fL) (ai (dM fK) (ai fJ (ai (dA fI) (ai (dM fH) (ai (dA fG) (ai (dM fE) (ai (dC fD) (ai fC (ai (dA fB) (ai fA (ai fy (ai (dA fx) (ai fw (ai fu (ai (dA ft) (ai fq (ai fo (ai (dA fm) (ai fl (ai (dB fk) (ai fj (ai (dA fi) (ai (dM fh) (ai fg (ai (dA fe) (ai (dM fc) (ai fa (ai (dA eZ) (ai (dM eY) (ai (dA eX) (ai (dM eV) (ai eU (ai eT (ai eS (ai eR (ai eQ (ai eP (ai eO (ai eN (ai eM (ai eL (ai eK (ai eJ (ai eI tt0)))))))))))))))))))))))))))))))))))))))))))))))))))))))))))))))))))))))))))))))))))))))))))))))))))))))
 by_cases hk : k3 = 0
 ·have hv : T4 % 52435875175126190479447740508185965837690552500527637822603658699938581184513 = d0 % 18446744073709551616 + 18446744073709551616 * (d1 % 18446744073709551616 + 18446744073709551616 * (d2 % 18446744073709551616 + 18446744073709551616 * (d3 % 18446744073709551616 + 18446744073709551616 * (0)))) := by
   rw [h2]
   generalize d0 + 18446744073709551616 * (d1 + 18446744073709551616 * (d2 + 18446744073709551616 * (d3 + 18446744073709551616 * (0)))) = D at *
   have l := hL4
   clear hC q0 q1 q2 q3 hm hT1 hL1 hT2 hL2 hT3 hL3 hT4 hL4 hE0 hE1 hE2 hE3
   omega
  rw [hv]
  refine LB (l := [.n 1 d0, .n 1 d1, .n 1 d2, .n 1 d3]) ?_ rfl
  exact pX (P := prog) (env := [tQ, tJ, vh, eRS]) ⟨rP, rN, s6, zq, tt0⟩ func112 2 (oN [(39, ao, ap), (49, aq, ar), (61, ab, au), (85, aw, ax), (95, ay, az), (107, aB, aC), (131, aD, aE), (141, aF, aG), (153, aH, aI), (177, aJ, aK), (187, aL, aM), (199, aN, aO), (222, aP, aQ), (243, aR, aS), (252, eW, aT), (270, aU, aV), (280, aW, aX), (292, aY, aZ), (318, ba, bb), (328, bc, be), (340, bf, bg), (366, bh, bl), (376, bm, bn), (388, bo, bp), (415, bq, br), (452, bu, bv), (462, bx, bz), (474, ac, bA), (498, bB, bC), (508, bD, bE), (520, bF, bG), (544, bH, bI), (554, bJ, bK), (566, bL, bM), (590, bN, bO), (600, bP, bQ), (612, bR, bS), (635, bT, bU), (656, bV, bW), (665, fF, bX), (683, bY, bZ), (693, b9, ca), (705, cb, cc), (731, cd, ce), (741, cf, cg), (753, ck, cm), (779, co, cq), (789, cr, ct), (801, cu, cv), (828, cx, cy), (865, cz, cA), (875, cB, cC), (887, ae, cD), (911, cF, cG), (921, cH, cI), (933, cJ, cK), (957, cL, cM), (967, cN, cO), (979, cP, cQ), (1003, cR, cT), (1013, cU, cV), (1025, cW, cX), (1048, cY, cZ), (1069, da, db), (1078, gh, dc), (1096, dd, de), (1106, df, dh), (1118, di, dj), (1144, dk, dl), (1154, dm, dn), (1166, dp, dq), (1192, dr, dt), (1202, du, dv), (1214, dw, dx), (1241, dy, dz), (1278, dD, dE), (1288, dF, dG), (1300, af, dH), (1324, dI, dJ), (1334, dK, dL), (1346, dN, dO), (1370, dP, dQ), (1380, dR, dT), (1392, dU, dV), (1416, dW, dX), (1426, dY, dZ), (1438, d9, ea), (1461, ee, am), (1482, ef, eh), (1491, gU, ei), (1509, ej, ek), (1519, eo, er), (1531, ah, eu), (1557, ew, ez), (1567, eA, eB), (1579, aj, eC), (1605, eD, eE), (1615, eF, eG), (1627, ak, eH), (1654, al, an), (1699, d0, k0), (1721, d1, k1), (1743, d2, k2), (1765, d3, k3)] [(1777, 1)]) (by kernel_rfl) (ai (show decide (k3 % 18446744073709551616 <= ((am / 1 + an) / 1) % 18446744073709551616) = true by simp only [Nat.div_one, hk, hm.1]; rfl) hC)
 ·have hv : T4 % 52435875175126190479447740508185965837690552500527637822603658699938581184513 = ah % 18446744073709551616 + 18446744073709551616 * (aj % 18446744073709551616 + 18446744073709551616 * (ak % 18446744073709551616 + 18446744073709551616 * (al % 18446744073709551616 + 18446744073709551616 * (0)))) := by
   rw [hm.2]
   generalize d0 + 18446744073709551616 * (d1 + 18446744073709551616 * (d2 + 18446744073709551616 * (d3 + 18446744073709551616 * (0)))) = D at *
   have l := hL4
   clear hC q0 q1 q2 q3 hm hT1 hL1 hT2 hL2 hT3 hL3 hT4 hL4 hE0 hE1 hE2 hE3
   omega
  rw [hv]
  refine LB (l := [.n 1 ah, .n 1 aj, .n 1 ak, .n 1 al]) ?_ rfl
  exact pX (P := prog) (env := [tQ, tJ, vh, eRS]) ⟨rP, rN, s6, zq, tt0⟩ func112 2 (oN [(39, ao, ap), (49, aq, ar), (61, ab, au), (85, aw, ax), (95, ay, az), (107, aB, aC), (131, aD, aE), (141, aF, aG), (153, aH, aI), (177, aJ, aK), (187, aL, aM), (199, aN, aO), (222, aP, aQ), (243, aR, aS), (252, eW, aT), (270, aU, aV), (280, aW, aX), (292, aY, aZ), (318, ba, bb), (328, bc, be), (340, bf, bg), (366, bh, bl), (376, bm, bn), (388, bo, bp), (415, bq, br), (452, bu, bv), (462, bx, bz), (474, ac, bA), (498, bB, bC), (508, bD, bE), (520, bF, bG), (544, bH, bI), (554, bJ, bK), (566, bL, bM), (590, bN, bO), (600, bP, bQ), (612, bR, bS), (635, bT, bU), (656, bV, bW), (665, fF, bX), (683, bY, bZ), (693, b9, ca), (705, cb, cc), (731, cd, ce), (741, cf, cg), (753, ck, cm), (779, co, cq), (789, cr, ct), (801, cu, cv), (828, cx, cy), (865, cz, cA), (875, cB, cC), (887, ae, cD), (911, cF, cG), (921, cH, cI), (933, cJ, cK), (957, cL, cM), (967, cN, cO), (979, cP, cQ), (1003, cR, cT), (1013, cU, cV), (1025, cW, cX), (1048, cY, cZ), (1069, da, db), (1078, gh, dc), (1096, dd, de), (1106, df, dh), (1118, di, dj), (1144, dk, dl), (1154, dm, dn), (1166, dp, dq), (1192, dr, dt), (1202, du, dv), (1214, dw, dx), (1241, dy, dz), (1278, dD, dE), (1288, dF, dG), (1300, af, dH), (1324, dI, dJ), (1334, dK, dL), (1346, dN, dO), (1370, dP, dQ), (1380, dR, dT), (1392, dU, dV), (1416, dW, dX), (1426, dY, dZ), (1438, d9, ea), (1461, ee, am), (1482, ef, eh), (1491, gU, ei), (1509, ej, ek), (1519, eo, er), (1531, ah, eu), (1557, ew, ez), (1567, eA, eB), (1579, aj, eC), (1605, eD, eE), (1615, eF, eG), (1627, ak, eH), (1654, al, an), (1699, d0, k0), (1721, d1, k1), (1743, d2, k2), (1765, d3, k3)] [(1777, 2)]) (by kernel_rfl) (ai (show decide (k3 % 18446744073709551616 <= ((am / 1 + an) / 1) % 18446744073709551616) = false by have k1 : k3 = 1 := Nat.le_antisymm h3 (Nat.one_le_iff_ne_zero.2 hk); simp only [Nat.div_one, k1, hm.1]; rfl) hC)
end Go.Proofs.YtokjhbmmdmeafaaGreat
set_option linter.unusedSimpArgs false
set_option linter.unusedVariables false
namespace Go.Proofs.YtokjhbmmdmeafaaGreat
open Go.Ev Go.RowKit
open Tryz
set_option maxHeartbeats 4000000 in
theorem ab1 (a : Nat) (ha : a < 115792089237316195423570985008687907853269984665640564039457584007913129639936) : ∃ v, v < 52435875175126190479447740508185965837690552500527637822603658699938581184513 /\ (v * 115792089237316195423570985008687907853269984665640564039457584007913129639936) % 52435875175126190479447740508185965837690552500527637822603658699938581184513 = (a * 1) % 52435875175126190479447740508185965837690552500527637822603658699938581184513 /\ Gives prog 113 [.t (.ag [.n 4 a])] (.ag [.n 4 v]) := by
 have hB : 1 = 1 % 18446744073709551616 + 18446744073709551616 * (0 % 18446744073709551616 + 18446744073709551616 * (0 % 18446744073709551616 + 18446744073709551616 * (0 % 18446744073709551616 + 18446744073709551616 * (0)))) := by simp only [Nat.reduceMod, Nat.reduceMul, Nat.reduceAdd]
 have hT0 : 0 = 0 % 18446744073709551616 + 18446744073709551616 * (0 % 18446744073709551616 + 18446744073709551616 * (0 % 18446744073709551616 + 18446744073709551616 * (0 % 18446744073709551616 + 18446744073709551616 * (0 % 18446744073709551616 + 18446744073709551616 * (0))))) := by simp only [Nat.zero_mod, Nat.mul_zero, Nat.add_zero]
 obtain ⟨ao, ap, eI⟩ := pW (a / 1) (1)
 obtain ⟨aq, ar, eJ⟩ := pV (ap) (0) 0 (by decide)
 obtain ⟨ab, au, eK⟩ := pV (aq) (0) 0 (by decide)
 obtain ⟨aw, ax, eL⟩ := pW (a / 1) (0)
 obtain ⟨ay, az, eM⟩ := pV (ax) (0) 0 (by decide)
 obtain ⟨aB, aC, eN⟩ := pV (ay) (ao + ar + au) 0 (by decide)
 obtain ⟨aD, aE, eO⟩ := pW (a / 1) (0)
 obtain ⟨aF, aG, eP⟩ := pV (aE) (0) 0 (by decide)
 obtain ⟨aH, aI, eQ⟩ := pV (aF) (aw + az + aC) 0 (by decide)
 obtain ⟨aJ, aK, eR⟩ := pW (a / 1) (0)
 obtain ⟨aL, aM, eS⟩ := pV (aK) (0) 0 (by decide)
 obtain ⟨aN, aO, eT⟩ := pV (aL) (aD + aG + aI) 0 (by decide)
 obtain ⟨aP, aQ, eU⟩ := pV (0) (aJ + aM + aO) 0 (by decide)
 obtain ⟨aR, aS, eV⟩ := pW (ab * 18446744069414584319) (18446744069414584321)
 obtain ⟨eW, aT, eX⟩ := pV (aS) (ab) 0 (by decide)
 obtain ⟨aU, aV, eY⟩ := pW (ab * 18446744069414584319) (6034159408538082302)
 obtain ⟨aW, aX, eZ⟩ := pV (aV) (aB) 0 (by decide)
 obtain ⟨aY, aZ, fa⟩ := pV (aW) (aR + aT) 0 (by decide)
 obtain ⟨ba, bb, fc⟩ := pW (ab * 18446744069414584319) (3691218898639771653)
 obtain ⟨bc, be, fe⟩ := pV (bb) (aH) 0 (by decide)
 obtain ⟨bf, bg, fg⟩ := pV (bc) (aU + aX + aZ) 0 (by decide)
 obtain ⟨bh, bl, fh⟩ := pW (ab * 18446744069414584319) (8353516859464449352)
 obtain ⟨bm, bn, fi⟩ := pV (bl) (aN) 0 (by decide)
 obtain ⟨bo, bp, fj⟩ := pV (bm) (ba + be + bg) 0 (by decide)
 obtain ⟨bq, br, fk⟩ := pV (aP) (bh + bn + bp) 0 (by decide)
 obtain ⟨T1, Q0, hT1, hE0, hL1, hQ0⟩ := vG hT0 hB (by omega) (by decide) eI eJ eK eL eM eN eO eP eQ eR eS eT eU eV eX eY eZ fa fc fe fg fh fi fj fk
 obtain ⟨bu, bv, fl⟩ := pW (a / 18446744073709551616) (1)
 obtain ⟨bx, bz, fm⟩ := pV (bv) (aY) 0 (by decide)
 obtain ⟨ac, bA, fo⟩ := pV (bx) (0) 0 (by decide)
 obtain ⟨bB, bC, fq⟩ := pW (a / 18446744073709551616) (0)
 obtain ⟨bD, bE, ft⟩ := pV (bC) (bf) 0 (by decide)
 obtain ⟨bF, bG, fu⟩ := pV (bD) (bu + bz + bA) 0 (by decide)
 obtain ⟨bH, bI, fw⟩ := pW (a / 18446744073709551616) (0)
 obtain ⟨bJ, bK, fx⟩ := pV (bI) (bo) 0 (by decide)
 obtain ⟨bL, bM, fy⟩ := pV (bJ) (bB + bE + bG) 0 (by decide)
 obtain ⟨bN, bO, fA⟩ := pW (a / 18446744073709551616) (0)
 obtain ⟨bP, bQ, fB⟩ := pV (bO) (bq) 0 (by decide)
 obtain ⟨bR, bS, fC⟩ := pV (bP) (bH + bK + bM) 0 (by decide)
 obtain ⟨bT, bU, fD⟩ := pV (aQ + br) (bN + bQ + bS) 0 (by decide)
 obtain ⟨bV, bW, fE⟩ := pW (ac * 18446744069414584319) (18446744069414584321)
 obtain ⟨fF, bX, fG⟩ := pV (bW) (ac) 0 (by decide)
 obtain ⟨bY, bZ, fH⟩ := pW (ac * 18446744069414584319) (6034159408538082302)
 obtain ⟨b9, ca, fI⟩ := pV (bZ) (bF) 0 (by decide)
 obtain ⟨cb, cc, fJ⟩ := pV (b9) (bV + bX) 0 (by decide)
 obtain ⟨cd, ce, fK⟩ := pW (ac * 18446744069414584319) (3691218898639771653)
 obtain ⟨cf, cg, fL⟩ := pV (ce) (bL) 0 (by decide)
 obtain ⟨ck, cm, fM⟩ := pV (cf) (bY + ca + cc) 0 (by decide)
 obtain ⟨co, cq, fN⟩ := pW (ac * 18446744069414584319) (8353516859464449352)
 obtain ⟨cr, ct, fO⟩ := pV (cq) (bR) 0 (by decide)
 obtain ⟨cu, cv, fP⟩ := pV (cr) (cd + cg + cm) 0 (by decide)
 obtain ⟨cx, cy, fQ⟩ := pV (bT) (co + ct + cv) 0 (by decide)
 obtain ⟨T2, Q1, hT2, hE1, hL2, hQ1⟩ := vG hT1 hB hL1 (by decide) fl fm fo fq ft fu fw fx fy fA fB fC fD fE fG fH fI fJ fK fL fM fN fO fP fQ
 obtain ⟨cz, cA, fR⟩ := pW (a / 340282366920938463463374607431768211456) (1)
 obtain ⟨cB, cC, fS⟩ := pV (cA) (cb) 0 (by decide)
 obtain ⟨ae, cD, fT⟩ := pV (cB) (0) 0 (by decide)
 obtain ⟨cF, cG, fU⟩ := pW (a / 340282366920938463463374607431768211456) (0)
 obtain ⟨cH, cI, fV⟩ := pV (cG) (ck) 0 (by decide)
 obtain ⟨cJ, cK, fW⟩ := pV (cH) (cz + cC + cD) 0 (by decide)
 obtain ⟨cL, cM, fX⟩ := pW (a / 340282366920938463463374607431768211456) (0)
 obtain ⟨cN, cO, fY⟩ := pV (cM) (cu) 0 (by decide)
 obtain ⟨cP, cQ, fZ⟩ := pV (cN) (cF + cI + cK) 0 (by decide)
 obtain ⟨cR, cT, ga⟩ := pW (a / 340282366920938463463374607431768211456) (0)
 obtain ⟨cU, cV, gb⟩ := pV (cT) (cx) 0 (by decide)
 obtain ⟨cW, cX, gd⟩ := pV (cU) (cL + cO + cQ) 0 (by decide)
 obtain ⟨cY, cZ, ge⟩ := pV (bU + cy) (cR + cV + cX) 0 (by decide)
 obtain ⟨da, db, gg⟩ := pW (ae * 18446744069414584319) (18446744069414584321)
 obtain ⟨gh, dc, gk⟩ := pV (db) (ae) 0 (by decide)
 obtain ⟨dd, de, gl⟩ := pW (ae * 18446744069414584319) (6034159408538082302)
 obtain ⟨df, dh, gm⟩ := pV (de) (cJ) 0 (by decide)
 obtain ⟨di, dj, gn⟩ := pV (df) (da + dc) 0 (by decide)
 obtain ⟨dk, dl, gp⟩ := pW (ae * 18446744069414584319) (3691218898639771653)
 obtain ⟨dm, dn, gq⟩ := pV (dl) (cP) 0 (by decide)
 obtain ⟨dp, dq, gt⟩ := pV (dm) (dd + dh + dj) 0 (by decide)
 obtain ⟨dr, dt, gu⟩ := pW (ae * 18446744069414584319) (8353516859464449352)
 obtain ⟨du, dv, gv⟩ := pV (dt) (cW) 0 (by decide)
 obtain ⟨dw, dx, gx⟩ := pV (du) (dk + dn + dq) 0 (by decide)
 obtain ⟨dy, dz, gy⟩ := pV (cY) (dr + dv + dx) 0 (by decide)
 obtain ⟨T3, Q2, hT3, hE2, hL3, hQ2⟩ := vG hT2 hB hL2 (by decide) fR fS fT fU fV fW fX fY fZ ga gb gd ge gg gk gl gm gn gp gq gt gu gv gx gy
 obtain ⟨dD, dE, gA⟩ := pW (a / 6277101735386680763835789423207666416102355444464034512896) (1)
 obtain ⟨dF, dG, gD⟩ := pV (dE) (di) 0 (by decide)
 obtain ⟨af, dH, gF⟩ := pV (dF) (0) 0 (by decide)
 obtain ⟨dI, dJ, gG⟩ := pW (a / 6277101735386680763835789423207666416102355444464034512896) (0)
 obtain ⟨dK, dL, gH⟩ := pV (dJ) (dp) 0 (by decide)
 obtain ⟨dN, dO, gI⟩ := pV (dK) (dD + dG + dH) 0 (by decide)
 obtain ⟨dP, dQ, gJ⟩ := pW (a / 6277101735386680763835789423207666416102355444464034512896) (0)
 obtain ⟨dR, dT, gK⟩ := pV (dQ) (dw) 0 (by decide)
 obtain ⟨dU, dV, gL⟩ := pV (dR) (dI + dL + dO) 0 (by decide)
 obtain ⟨dW, dX, gM⟩ := pW (a / 6277101735386680763835789423207666416102355444464034512896) (0)
 obtain ⟨dY, dZ, gO⟩ := pV (dX) (dy) 0 (by decide)
 obtain ⟨d9, ea, gQ⟩ := pV (dY) (dP + dT + dV) 0 (by decide)
 obtain ⟨ee, am, gR⟩ := pV (cZ + dz) (dW + dZ + ea) 0 (by decide)
 obtain ⟨ef, eh, gT⟩ := pW (af * 18446744069414584319) (18446744069414584321)
 obtain ⟨gU, ei, gW⟩ := pV (eh) (af) 0 (by decide)
 obtain ⟨ej, ek, gX⟩ := pW (af * 18446744069414584319) (6034159408538082302)
 obtain ⟨eo, er, gY⟩ := pV (ek) (dN) 0 (by decide)
 obtain ⟨ah, eu, gZ⟩ := pV (eo) (ef + ei) 0 (by decide)
 obtain ⟨ew, ez, hE⟩ := pW (af * 18446744069414584319) (3691218898639771653)
 obtain ⟨eA, eB, hG⟩ := pV (ez) (dU) 0 (by decide)
 obtain ⟨aj, eC, hH⟩ := pV (eA) (ej + er + eu) 0 (by decide)
 obtain ⟨eD, eE, hI⟩ := pW (af * 18446744069414584319) (8353516859464449352)
 obtain ⟨eF, eG, hJ⟩ := pV (eE) (d9) 0 (by decide)
 obtain ⟨ak, eH, hM⟩ := pV (eF) (ew + eB + eC) 0 (by decide)
 obtain ⟨al, an, hP⟩ := pV (ee) (eD + eG + eH) 0 (by decide)
 obtain ⟨T4, Q3, hT4, hE3, hL4, hQ3⟩ := vG hT3 hB hL3 (by decide) gA gD gF gG gH gI gJ gK gL gM gO gQ gR gT gW gX gY gZ hE hG hH hI hJ hM hP
 obtain ⟨d0, k0, q0⟩ := qP (ah) 18446744069414584321 0 (by decide)
 obtain ⟨d1, k1, q1⟩ := qP (aj) 6034159408538082302 k0 q0.2.2.2
 obtain ⟨d2, k2, q2⟩ := qP (ak) 3691218898639771653 k1 q1.2.2.2
 obtain ⟨d3, k3, q3⟩ := qP (al) 8353516859464449352 k2 q2.2.2.2
 obtain ⟨h1, h2, h3, h4⟩ := Wj q0 q1 q2 q3
 simp only [Nat.reduceMod, Nat.reduceMul, Nat.reduceAdd] at h1
 have hm : (am + an) % 18446744073709551616 = 0 /\ ah % 18446744073709551616 + 18446744073709551616 * (aj % 18446744073709551616 + 18446744073709551616 * (ak % 18446744073709551616 + 18446744073709551616 * (al % 18446744073709551616 + 18446744073709551616 * (0)))) = T4 := by
  have e := hT4
  have l := hL4
  clear q0 q1 q2 q3 h1 h2 h4 hT1 hL1 hT2 hL2 hT3 hL3 hT4 hL4 hE0 hE1 hE2 hE3
  generalize ah % 18446744073709551616 = Z0 at *
  generalize aj % 18446744073709551616 = Z1 at *
  generalize ak % 18446744073709551616 = Z2 at *
  generalize al % 18446744073709551616 = Z3 at *
  generalize (am + an) % 18446744073709551616 = Zm at *
  omega
 rw [hm.2] at h1
 refine ⟨T4 % 52435875175126190479447740508185965837690552500527637822603658699938581184513, Nat.mod_lt _ (by decide), aaD (aax a ha) hE0 hE1 hE2 hE3, ?_⟩
 have hC := ai (dS q3) (ai (dS q2) (ai (dS q1) (ai (dS q0) (ai (dB hP) (ai hM (ai (dA hJ) (ai (dM hI) (ai hH (ai (dA hG) (ai (dM hE) (ai gZ (ai (dA gY) (ai (dM gX) (ai (dA gW) (ai (dM gT) (ai (dC gR) (ai gQ (ai (dA gO) (ai gM (ai gL (ai (dA gK) (ai gJ (ai gI (ai (dA gH) (ai gG (ai gF (ai (dA gD) (ai gA (ai (dB gy) (ai gx (ai (dA gv) (ai (dM gu) (ai gt (ai (dA gq) (ai (dM gp) (ai gn (ai (dA gm) (ai (dM gl) (ai (dA gk) (ai (dM gg) (ai (dC ge) (ai gd (ai (dA gb) (ai ga (ai fZ (ai (dA fY) (ai fX (ai fW (ai (dA fV) (ai fU (ai fT (ai (dA fS) (ai fR (ai (dB fQ) (ai fP (ai (dA fO) (ai (dM fN) (ai fM (ai (dA fL) (ai (dM fK) (ai fJ (ai (dA fI) (ai (dM fH) (ai (dA fG) (ai (dM fE) (ai (dC fD) (ai fC (ai (dA fB) (ai fA (ai fy (ai (dA fx) (ai fw (ai fu (ai (dA ft) (ai fq (ai fo (ai (dA fm) (ai fl (ai (dB fk) (ai fj (ai (dA fi) (ai (dM fh) (ai fg (ai (dA fe) (ai (dM fc) (ai fa (ai (dA eZ) (ai (dM eY) (ai (dA eX) (ai (dM eV) (ai eU (ai eT (ai eS (ai eR (ai eQ (ai eP (ai eO (ai eN (ai eM (ai eL (ai eK (ai eJ (ai eI tt0)))))))))))))))))))))))))))))))))))))))))))))))))))))))))))))))))))))))))))))))))))))))))))))))))))))))
 by_cases hk : k3 = 0
 ·have hv : T4 % 52435875175126190479447740508185965837690552500527637822603658699938581184513 = d0 % 18446744073709551616 + 18446744073709551616 * (d1 % 18446744073709551616 + 18446744073709551616 * (d2 % 18446744073709551616 + 18446744073709551616 * (d3 % 18446744073709551616 + 18446744073709551616 * (0)))) := by
   rw [h2]
   generalize d0 + 18446744073709551616 * (d1 + 18446744073709551616 * (d2 + 18446744073709551616 * (d3 + 18446744073709551616 * (0)))) = D at *
   have l := hL4
   clear hC q0 q1 q2 q3 hm hT1 hL1 hT2 hL2 hT3 hL3 hT4 hL4 hE0 hE1 hE2 hE3
   omega
  rw [hv]
  refine LB (l := [.n 1 d0, .n 1 d1, .n 1 d2, .n 1 d3]) ?_ rfl
  exact pX (P := prog) (env := [tQ, tJ, vh, eRS]) ⟨rP, rN, s6, zq, tt0⟩ func113 2 (oN [(39, ao, ap), (49, aq, ar), (61, ab, au), (85, aw, ax), (95, ay, az), (107, aB, aC), (131, aD, aE), (141, aF, aG), (153, aH, aI), (177, aJ, aK), (187, aL, aM), (199, aN, aO), (222, aP, aQ), (243, aR, aS), (252, eW, aT), (270, aU, aV), (280, aW, aX), (292, aY, aZ), (318, ba, bb), (328, bc, be), (340, bf, bg), (366, bh, bl), (376, bm, bn), (388, bo, bp), (415, bq, br), (452, bu, bv), (462, bx, bz), (474, ac, bA), (498, bB, bC), (508, bD, bE), (520, bF, bG), (544, bH, bI), (554, bJ, bK), (566, bL, bM), (590, bN, bO), (600, bP, bQ), (612, bR, bS), (635, bT, bU), (656, bV, bW), (665, fF, bX), (683, bY, bZ), (693, b9, ca), (705, cb, cc), (731, cd, ce), (741, cf, cg), (753, ck, cm), (779, co, cq), (789, cr, ct), (801, cu, cv), (828, cx, cy), (865, cz, cA), (875, cB, cC), (887, ae, cD), (911, cF, cG), (921, cH, cI), (933, cJ, cK), (957, cL, cM), (967, cN, cO), (979, cP, cQ), (1003, cR, cT), (1013, cU, cV), (1025, cW, cX), (1048, cY, cZ), (1069, da, db), (1078, gh, dc), (1096, dd, de), (1106, df, dh), (1118, di, dj), (1144, dk, dl), (1154, dm, dn), (1166, dp, dq), (1192, dr, dt), (1202, du, dv), (1214, dw, dx), (1241, dy, dz), (1278, dD, dE), (1288, dF, dG), (1300, af, dH), (1324, dI, dJ), (1334, dK, dL), (1346, dN, dO), (1370, dP, dQ), (1380, dR, dT), (1392, dU, dV), (1416, dW, dX), (1426, dY, dZ), (1438, d9, ea), (1461, ee, am), (1482, ef, eh), (1491, gU, ei), (1509, ej, ek), (1519, eo, er), (1531, ah, eu), (1557, ew, ez), (1567, eA, eB), (1579, aj, eC), (1605, eD, eE), (1615, eF, eG), (1627, ak, eH), (1654, al, an), (1699, d0, k0), (1721, d1, k1), (1743, d2, k2), (1765, d3, k3)] [(1777, 1)]) (by kernel_rfl) (ai (show decide (k3 % 18446744073709551616 <= ((am / 1 + an) / 1) % 18446744073709551616) = true by simp only [Nat.div_one, hk, hm.1]; rfl) hC)
 ·have hv : T4 % 52435875175126190479447740508185965837690552500527637822603658699938581184513 = ah % 18446744073709551616 + 18446744073709551616 * (aj % 18446744073709551616 + 18446744073709551616 * (ak % 18446744073709551616 + 18446744073709551616 * (al % 18446744073709551616 + 18446744073709551616 * (0)))) := by
   rw [hm.2]
   generalize d0 + 18446744073709551616 * (d1 + 18446744073709551616 * (d2 + 18446744073709551616 * (d3 + 18446744073709551616 * (0)))) = D at *
   have l := hL4
   clear hC q0 q1 q2 q3 hm hT1 hL1 hT2 hL2 hT3 hL3 hT4 hL4 hE0 hE1 hE2 hE3
   omega
  rw [hv]
  refine LB (l := [.n 1 ah, .n 1 aj, .n 1 ak, .n 1 al]) ?_ rfl
  exact pX (P := prog) (env := [tQ, tJ, vh, eRS]) ⟨rP, rN, s6, zq, tt0⟩ func113 2 (oN [(39, ao, ap), (49, aq, ar), (61, ab, au), (85, aw, ax), (95, ay, az), (107, aB, aC), (131, aD, aE), (141, aF, aG), (153, aH, aI), (177, aJ, aK), (187, aL, aM), (199, aN, aO), (222, aP, aQ), (243, aR, aS), (252, eW, aT), (270, aU, aV), (280, aW, aX), (292, aY, aZ), (318, ba, bb), (328, bc, be), (340, bf, bg), (366, bh, bl), (376, bm, bn), (388, bo, bp), (415, bq, br), (452, bu, bv), (462, bx, bz), (474, ac, bA), (498, bB, bC), (508, bD, bE), (520, bF, bG), (544, bH, bI), (554, bJ, bK), (566, bL, bM), (590, bN, bO), (600, bP, bQ), (612, bR, bS), (635, bT, bU), (656, bV, bW), (665, fF, bX), (683, bY, bZ), (693, b9, ca), (705, cb, cc), (731, cd, ce), (741, cf, cg), (753, ck, cm), (779, co, cq), (789, cr, ct), (801, cu, cv), (828, cx, cy), (865, cz, cA), (875, cB, cC), (887, ae, cD), (911, cF, cG), (921, cH, cI), (933, cJ, cK), (957, cL, cM), (967, cN, cO), (979, cP, cQ), (1003, cR, cT), (1013, cU, cV), (1025, cW, cX), (1048, cY, cZ), (1069, da, db), (1078, gh, dc), (1096, dd, de), (1106, df, dh), (1118, di, dj), (1144, dk, dl), (1154, dm, dn), (1166, dp, dq), (1192, dr, dt), (1202, du, dv), (1214, dw, dx), (1241, dy, dz), (1278, dD, dE), (1288, dF, dG), (1300, af, dH), (1324, dI, dJ), (1334, dK, dL), (1346, dN, dO), (1370, dP, dQ), (1380, dR, dT), (1392, dU, dV), (1416, dW, dX), (1426, dY, dZ), (1438, d9, ea), (1461, ee, am), (1482, ef, eh), (1491, gU, ei), (1509, ej, ek), (1519, eo, er), (1531, ah, eu), (1557, ew, ez), (1567, eA, eB), (1579, aj, eC), (1605, eD, eE), (1615, eF, eG), (1627, ak, eH), (1654, al, an), (1699, d0, k0), (1721, d1, k1), (1743, d2, k2), (1765, d3, k3)] [(1777, 2)]) (by kernel_rfl) (ai (show decide (k3 % 18446744073709551616 <= ((am / 1 + an) / 1) % 18446744073709551616) = false by have k1 : k3 = 1 := Nat.le_antisymm h3 (Nat.one_le_iff_ne_zero.2 hk); simp only [Nat.div_one, k1, hm.1]; rfl) hC)
end Go.Proofs.YtokjhbmmdmeafaaGreat
set_option linter.unusedSimpArgs false
set_option linter.unusedVariables false
namespace Go.Proofs.YtokjhbmmdmeafaaGreat
open Go.Ev Go.RowKit
open Tryz
theorem aah {P : Program} {f : FuncId} {x x' : XV} {r : AV} (h : Gives P f [x] r) (e : ∀ w v, XRep w x' v -> XRep w x v) : Gives P f [x'] r := by
 obtain ⟨v, h1, h2⟩ := h
 refine ⟨v, h1, fun w vs hx => ?_⟩
 match vs, hx with
 | [y], hx => exact h2 w [y] ⟨e _ _ hx.1, tt0⟩
theorem aaj : 115792089237316195423570985008687907853269984665640564039457584007913129639936 * 12549076656233958353659347336803947287922716146853412054870763148006372261952 % 52435875175126190479447740508185965837690552500527637822603658699938581184513 = 1 % 52435875175126190479447740508185965837690552500527637822603658699938581184513 := by decide
theorem W9 (x : Fin Rr) : toS x < 52435875175126190479447740508185965837690552500527637822603658699938581184513 := Nat.mod_lt _ (by decide)
theorem inS (a : Nat) (ha : a < 115792089237316195423570985008687907853269984665640564039457584007913129639936) : Gives prog 112 [.t (.ag [.n 4 a])] (.ag [.s (ofR a)]) := by
 obtain ⟨v, h1, h2, h3⟩ := acZ a ha
 have e : v = toS (ofR a) := Lm (m := 52435875175126190479447740508185965837690552500527637822603658699938581184513) (R := 115792089237316195423570985008687907853269984665640564039457584007913129639936) aaj h1 h2
 refine h3.same ?_
 exact rK rfl rfl (by simp only [flat, Ch.cells, e])
theorem adv (x : Fin Rr) : Gives prog 113 [.t (.ag [.s x])] (.ag [.e x]) := by
 obtain ⟨v, h1, h2, h3⟩ := ab1 (toS x) (Nat.lt_trans (W9 x) (by decide))
 have e : v = x.val := Hr (m := 52435875175126190479447740508185965837690552500527637822603658699938581184513) (R := 115792089237316195423570985008687907853269984665640564039457584007913129639936) aaj x.isLt h1 h2
 have h := aah (x' := .t (.ag [.s x])) h3 (fun _ _ h => h)
 refine h.same ?_
 exact rK rfl rfl (by simp only [flat, Ch.cells, e])
def R0 : Entry := ql 113 adI.x (fun x => [(none, .ag [.e x])])
theorem Ht : R0.OK prog := qb (fun args w => Go.Proofs.enters_of (P := prog) func113 (by kernel_rfl) rfl args w) (fun x => only (adv x))
end Go.Proofs.YtokjhbmmdmeafaaGreat
set_option linter.unusedSimpArgs false
set_option linter.unusedVariables false
namespace Go.Proofs.YtokjhbmmdmeafaaGreat
open Go.Ev Go.RowKit
open Tryz
structure minusSY (a b : Nat) where
 i : Nat
 β : Nat
 o : Nat
 hi : i <= 4
 inv : acd a b i β o
structure plusSY (a b : Nat) where
 i : Nat
 β : Nat
 o : Nat
 hi : i <= 4
 inv : Ze a b i β o
end Go.Proofs.YtokjhbmmdmeafaaGreat
set_option linter.unusedSimpArgs false
set_option linter.unusedVariables false
namespace Go.Proofs.YtokjhbmmdmeafaaGreat
open Go.Ev Go.RowKit
open Tryz
theorem adY (x : Fin Rr) : Gives prog 112 [.t (.ag [.e x])] (.ag [.s x]) := by
 have h := aah (x' := .t (.ag [.e x])) (inS x.val (Nat.lt_trans x.isLt (by decide))) (fun _ _ h => h)
 rw [Tn] at h
 exact h
def O9 : Entry := xE 112 V2.x yX.x (fun x => [(none, .ag [.s x])]) (fun a => [(some (smS a), .ag [.s (ofR a)])])
theorem Ho : O9.OK prog := xr (qb (fun args w => Go.Proofs.enters_of (P := prog) func112 (by kernel_rfl) rfl args w) (fun x => only (adY x))) (qb (fun args w => Go.Proofs.enters_of (P := prog) func112 (by kernel_rfl) rfl args w) (fun a => sd (fun h => inS a h)))
end Go.Proofs.YtokjhbmmdmeafaaGreat
set_option linter.unusedSimpArgs false
set_option linter.unusedVariables false
namespace Go.Proofs.YtokjhbmmdmeafaaGreat
open Go.Ev Go.RowKit
open Tryz
def C4 : Entry := ql 83 Wb (fun a => [(some (DH a), .ag [.e (Ys a)])])
theorem Bz : C4.OK prog := qb (fun args w => Go.Proofs.enters_of (P := prog) func83 (by kernel_rfl) rfl args w) (fun a => match a with
 | .inl a => sd (fun h => pX (P := prog) (env := [O9, R0]) ⟨Ho, Ht, tt0⟩ func83 1 o0 (by kernel_rfl) tt0)
 | .inr a => sd (fun h => pX (P := prog) (env := [O9, R0]) ⟨Ho, Ht, tt0⟩ func83 1 o0 (by kernel_rfl) (ai h tt0)))
end Go.Proofs.YtokjhbmmdmeafaaGreat
set_option linter.unusedSimpArgs false
set_option linter.unusedVariables false
namespace Go.Proofs.YtokjhbmmdmeafaaGreat
open Go.Ev Go.RowKit
open Tryz
end Go.Proofs.YtokjhbmmdmeafaaGreat
