/- Pruned: Hb. -/
import Derived.Test.YtokjhbmmdmeafaaGreatQHg
import Derived.Test.YtokjhbmmdmeafaaGreatQHa
import Derived.Test.YtokjhbmmdmeafaaGreatQE2
set_option linter.unusedSimpArgs false
set_option linter.unusedVariables false
set_option maxHeartbeats 4000000
namespace Go.Proofs.YtokjhbmmdmeafaaGreat
open Go.Ev Go.RowKit
open Tryz
theorem Me {P : Program} {f : FuncId} {args : List XV} {l : List Ch} {x : Nat} (h : Gives P f args (.ag l)) (hc : qu 4 l = some (x, [])) : Gives P f args (.ag [.n 4 x]) :=
 h.same (Hm hc)
def eRS : Entry := zq 50 [(none, .ag [.c (.int .u64 18446744069414584321), .c (.int .u64 6034159408538082302), .c (.int .u64 3691218898639771653), .c (.int .u64 8353516859464449352)])]
theorem zu : eRS.OK prog := vV (fun args w => Go.Proofs.enters_of (P := prog) func50 (by kernel_rfl) rfl args w)
 (only (pI (P := prog) (env := []) trivial func50 0 o0 (by kernel_rfl) tt0))
end Go.Proofs.YtokjhbmmdmeafaaGreat
set_option linter.unusedSimpArgs false
set_option linter.unusedVariables false
namespace Go.Proofs.YtokjhbmmdmeafaaGreat
open Go.Ev Go.RowKit
open Tryz
set_option maxHeartbeats 4000000 in
theorem afa (a : Nat) (ha : a < 115792089237316195423570985008687907853269984665640564039457584007913129639936) : ∃ v, v < 52435875175126190479447740508185965837690552500527637822603658699938581184513 /\ (v * 115792089237316195423570985008687907853269984665640564039457584007913129639936) % 52435875175126190479447740508185965837690552500527637822603658699938581184513 = (a * 3294906474794265442129797520630710739278575682199800681788903916070560242797) % 52435875175126190479447740508185965837690552500527637822603658699938581184513 /\ Gives prog 112 [.t (.ag [.n 4 a])] (.ag [.n 4 v]) := by
 have hB : 3294906474794265442129797520630710739278575682199800681788903916070560242797 = 14526898881837571181 % 18446744073709551616 + 18446744073709551616 * (3129137299524312099 % 18446744073709551616 + 18446744073709551616 * (419701826671360399 % 18446744073709551616 + 18446744073709551616 * (524908885293268753 % 18446744073709551616 + 18446744073709551616 * (0)))) := by simp only [Nat.reduceMod, Nat.reduceMul, Nat.reduceAdd]
 have hT0 : 0 = 0 % 18446744073709551616 + 18446744073709551616 * (0 % 18446744073709551616 + 18446744073709551616 * (0 % 18446744073709551616 + 18446744073709551616 * (0 % 18446744073709551616 + 18446744073709551616 * (0 % 18446744073709551616 + 18446744073709551616 * (0))))) := by simp only [Nat.zero_mod, Nat.mul_zero, Nat.add_zero]
 obtain ⟨an, ao, ep⟩ := pH (a / 1) (14526898881837571181)
 obtain ⟨ap, aq, er⟩ := pG (ao) (0) 0 (by decide)
 obtain ⟨ab, ar, es⟩ := pG (ap) (0) 0 (by decide)
 obtain ⟨au, aw, et⟩ := pH (a / 1) (3129137299524312099)
 obtain ⟨ax, ay, eu⟩ := pG (aw) (0) 0 (by decide)
 obtain ⟨az, aA, ez⟩ := pG (ax) (an + aq + ar) 0 (by decide)
 obtain ⟨aB, aC, eA⟩ := pH (a / 1) (419701826671360399)
 obtain ⟨aD, aE, eB⟩ := pG (aC) (0) 0 (by decide)
 obtain ⟨aF, aG, eD⟩ := pG (aD) (au + ay + aA) 0 (by decide)
 obtain ⟨aH, aI, eE⟩ := pH (a / 1) (524908885293268753)
 obtain ⟨aJ, aK, eF⟩ := pG (aI) (0) 0 (by decide)
 obtain ⟨aL, aM, eG⟩ := pG (aJ) (aB + aE + aG) 0 (by decide)
 obtain ⟨aN, aO, eH⟩ := pG (0) (aH + aK + aM) 0 (by decide)
 obtain ⟨aP, aQ, eI⟩ := pH (ab * 18446744069414584319) (18446744069414584321)
 obtain ⟨eJ, aR, eL⟩ := pG (aQ) (ab) 0 (by decide)
 obtain ⟨aS, aT, eM⟩ := pH (ab * 18446744069414584319) (6034159408538082302)
 obtain ⟨aU, aV, eN⟩ := pG (aT) (az) 0 (by decide)
 obtain ⟨aW, aX, eO⟩ := pG (aU) (aP + aR) 0 (by decide)
 obtain ⟨aY, aZ, eQ⟩ := pH (ab * 18446744069414584319) (3691218898639771653)
 obtain ⟨a9, ba, eR⟩ := pG (aZ) (aF) 0 (by decide)
 obtain ⟨bb, bc, eS⟩ := pG (a9) (aS + aV + aX) 0 (by decide)
 obtain ⟨be, bf, eT⟩ := pH (ab * 18446744069414584319) (8353516859464449352)
 obtain ⟨bg, bh, eU⟩ := pG (bf) (aL) 0 (by decide)
 obtain ⟨bl, bm, eX⟩ := pG (bg) (aY + ba + bc) 0 (by decide)
 obtain ⟨bn, bo, eY⟩ := pG (aN) (be + bh + bm) 0 (by decide)
 obtain ⟨T1, Q0, hT1, hE0, hL1, hQ0⟩ := vh hT0 hB (by omega) (by decide) ep er es et eu ez eA eB eD eE eF eG eH eI eL eM eN eO eQ eR eS eT eU eX eY
 obtain ⟨bp, bq, eZ⟩ := pH (a / 18446744073709551616) (14526898881837571181)
 obtain ⟨br, bu, e7⟩ := pG (bq) (aW) 0 (by decide)
 obtain ⟨ac, bv, fa⟩ := pG (br) (0) 0 (by decide)
 obtain ⟨bx, bz, fc⟩ := pH (a / 18446744073709551616) (3129137299524312099)
 obtain ⟨bA, bB, fe⟩ := pG (bz) (bb) 0 (by decide)
 obtain ⟨bC, bD, fg⟩ := pG (bA) (bp + bu + bv) 0 (by decide)
 obtain ⟨bE, bF, fh⟩ := pH (a / 18446744073709551616) (419701826671360399)
 obtain ⟨bG, bH, fi⟩ := pG (bF) (bl) 0 (by decide)
 obtain ⟨bI, bJ, fj⟩ := pG (bG) (bx + bB + bD) 0 (by decide)
 obtain ⟨bK, bL, fk⟩ := pH (a / 18446744073709551616) (524908885293268753)
 obtain ⟨bM, bN, fl⟩ := pG (bL) (bn) 0 (by decide)
 obtain ⟨bO, bP, fm⟩ := pG (bM) (bE + bH + bJ) 0 (by decide)
 obtain ⟨bQ, bR, fo⟩ := pG (aO + bo) (bK + bN + bP) 0 (by decide)
 obtain ⟨bS, bT, fq⟩ := pH (ac * 18446744069414584319) (18446744069414584321)
 obtain ⟨ft, bU, fu⟩ := pG (bT) (ac) 0 (by decide)
 obtain ⟨bV, bW, fw⟩ := pH (ac * 18446744069414584319) (6034159408538082302)
 obtain ⟨bX, bY, fx⟩ := pG (bW) (bC) 0 (by decide)
 obtain ⟨bZ, b6, fy⟩ := pG (bX) (bS + bU) 0 (by decide)
 obtain ⟨b7, b8, fA⟩ := pH (ac * 18446744069414584319) (3691218898639771653)
 obtain ⟨b9, ca, fB⟩ := pG (b8) (bI) 0 (by decide)
 obtain ⟨cb, cc, fC⟩ := pG (b9) (bV + bY + b6) 0 (by decide)
 obtain ⟨cd, ce, fD⟩ := pH (ac * 18446744069414584319) (8353516859464449352)
 obtain ⟨cf, cg, fE⟩ := pG (ce) (bO) 0 (by decide)
 obtain ⟨ck, cl, fF⟩ := pG (cf) (b7 + ca + cc) 0 (by decide)
 obtain ⟨cm, co, fG⟩ := pG (bQ) (cd + cg + cl) 0 (by decide)
 obtain ⟨T2, Q1, hT2, hE1, hL2, hQ1⟩ := vh hT1 hB hL1 (by decide) eZ e7 fa fc fe fg fh fi fj fk fl fm fo fq fu fw fx fy fA fB fC fD fE fF fG
 obtain ⟨cq, cr, fH⟩ := pH (a / 340282366920938463463374607431768211456) (14526898881837571181)
 obtain ⟨ct, cu, fI⟩ := pG (cr) (bZ) 0 (by decide)
 obtain ⟨ad, cv, fJ⟩ := pG (ct) (0) 0 (by decide)
 obtain ⟨cx, cy, fK⟩ := pH (a / 340282366920938463463374607431768211456) (3129137299524312099)
 obtain ⟨cz, cA, fL⟩ := pG (cy) (cb) 0 (by decide)
 obtain ⟨cB, cC, fM⟩ := pG (cz) (cq + cu + cv) 0 (by decide)
 obtain ⟨cD, cE, fN⟩ := pH (a / 340282366920938463463374607431768211456) (419701826671360399)
 obtain ⟨cF, cG, fO⟩ := pG (cE) (ck) 0 (by decide)
 obtain ⟨cH, cI, fP⟩ := pG (cF) (cx + cA + cC) 0 (by decide)
 obtain ⟨cJ, cK, fQ⟩ := pH (a / 340282366920938463463374607431768211456) (524908885293268753)
 obtain ⟨cL, cM, fR⟩ := pG (cK) (cm) 0 (by decide)
 obtain ⟨cN, cO, fS⟩ := pG (cL) (cD + cG + cI) 0 (by decide)
 obtain ⟨cP, cQ, fT⟩ := pG (bR + co) (cJ + cM + cO) 0 (by decide)
 obtain ⟨cR, cS, fU⟩ := pH (ad * 18446744069414584319) (18446744069414584321)
 obtain ⟨fV, cT, fW⟩ := pG (cS) (ad) 0 (by decide)
 obtain ⟨cU, cV, fX⟩ := pH (ad * 18446744069414584319) (6034159408538082302)
 obtain ⟨cW, cX, fY⟩ := pG (cV) (cB) 0 (by decide)
 obtain ⟨cY, cZ, fZ⟩ := pG (cW) (cR + cT) 0 (by decide)
 obtain ⟨c9, da, ga⟩ := pH (ad * 18446744069414584319) (3691218898639771653)
 obtain ⟨db, dc, gb⟩ := pG (da) (cH) 0 (by decide)
 obtain ⟨dd, de, gd⟩ := pG (db) (cU + cX + cZ) 0 (by decide)
 obtain ⟨df, dh, ge⟩ := pH (ad * 18446744069414584319) (8353516859464449352)
 obtain ⟨di, dj, gg⟩ := pG (dh) (cN) 0 (by decide)
 obtain ⟨dk, dl, gh⟩ := pG (di) (c9 + dc + de) 0 (by decide)
 obtain ⟨dm, dn, gk⟩ := pG (cP) (df + dj + dl) 0 (by decide)
 obtain ⟨T3, Q2, hT3, hE2, hL3, hQ2⟩ := vh hT2 hB hL2 (by decide) fH fI fJ fK fL fM fN fO fP fQ fR fS fT fU fW fX fY fZ ga gb gd ge gg gh gk
 obtain ⟨dp, dq, gl⟩ := pH (a / 6277101735386680763835789423207666416102355444464034512896) (14526898881837571181)
 obtain ⟨dr, dt, gm⟩ := pG (dq) (cY) 0 (by decide)
 obtain ⟨ae, du, gn⟩ := pG (dr) (0) 0 (by decide)
 obtain ⟨dv, dw, gp⟩ := pH (a / 6277101735386680763835789423207666416102355444464034512896) (3129137299524312099)
 obtain ⟨dx, dy, gq⟩ := pG (dw) (dd) 0 (by decide)
 obtain ⟨dz, dD, gt⟩ := pG (dx) (dp + dt + du) 0 (by decide)
 obtain ⟨dE, dF, gu⟩ := pH (a / 6277101735386680763835789423207666416102355444464034512896) (419701826671360399)
 obtain ⟨dG, dH, gv⟩ := pG (dF) (dk) 0 (by decide)
 obtain ⟨dI, dJ, gx⟩ := pG (dG) (dv + dy + dD) 0 (by decide)
 obtain ⟨dK, dL, gy⟩ := pH (a / 6277101735386680763835789423207666416102355444464034512896) (524908885293268753)
 obtain ⟨dN, dO, gA⟩ := pG (dL) (dm) 0 (by decide)
 obtain ⟨dP, dQ, gD⟩ := pG (dN) (dE + dH + dJ) 0 (by decide)
 obtain ⟨dR, al, gF⟩ := pG (cQ + dn) (dK + dO + dQ) 0 (by decide)
 obtain ⟨dT, dU, gG⟩ := pH (ae * 18446744069414584319) (18446744069414584321)
 obtain ⟨gH, dV, gI⟩ := pG (dU) (ae) 0 (by decide)
 obtain ⟨dW, dX, gJ⟩ := pH (ae * 18446744069414584319) (6034159408538082302)
 obtain ⟨dY, dZ, gL⟩ := pG (dX) (dz) 0 (by decide)
 obtain ⟨af, d9, gM⟩ := pG (dY) (dT + dV) 0 (by decide)
 obtain ⟨ea, eb, gO⟩ := pH (ae * 18446744069414584319) (3691218898639771653)
 obtain ⟨ed, ee, gQ⟩ := pG (eb) (dI) 0 (by decide)
 obtain ⟨ah, ef, gR⟩ := pG (ed) (dW + dZ + d9) 0 (by decide)
 obtain ⟨eg, ei, gT⟩ := pH (ae * 18446744069414584319) (8353516859464449352)
 obtain ⟨ej, ek, gU⟩ := pG (ei) (dP) 0 (by decide)
 obtain ⟨aj, eo, gX⟩ := pG (ej) (ea + ee + ef) 0 (by decide)
 obtain ⟨ak, am, gY⟩ := pG (dR) (eg + ek + eo) 0 (by decide)
 obtain ⟨T4, Q3, hT4, hE3, hL4, hQ3⟩ := vh hT3 hB hL3 (by decide) gl gm gn gp gq gt gu gv gx gy gA gD gF gG gI gJ gL gM gO gQ gR gT gU gX gY
 obtain ⟨d0, k0, q0⟩ := qB (af) 18446744069414584321 0 (by decide)
 obtain ⟨d1, k1, q1⟩ := qB (ah) 6034159408538082302 k0 q0.2.2.2
 obtain ⟨d2, k2, q2⟩ := qB (aj) 3691218898639771653 k1 q1.2.2.2
 obtain ⟨d3, k3, q3⟩ := qB (ak) 8353516859464449352 k2 q2.2.2.2
 obtain ⟨h1, h2, h3, h4⟩ := WV q0 q1 q2 q3
 simp only [Nat.reduceMod, Nat.reduceMul, Nat.reduceAdd] at h1
 have hm : (al + am) % 18446744073709551616 = 0 /\ af % 18446744073709551616 + 18446744073709551616 * (ah % 18446744073709551616 + 18446744073709551616 * (aj % 18446744073709551616 + 18446744073709551616 * (ak % 18446744073709551616 + 18446744073709551616 * (0)))) = T4 := by
  have e := hT4
  have l := hL4
  clear q0 q1 q2 q3 h1 h2 h4 hT1 hL1 hT2 hL2 hT3 hL3 hT4 hL4 hE0 hE1 hE2 hE3
  generalize af % 18446744073709551616 = Z0 at *
  generalize ah % 18446744073709551616 = Z1 at *
  generalize aj % 18446744073709551616 = Z2 at *
  generalize ak % 18446744073709551616 = Z3 at *
  generalize (al + am) % 18446744073709551616 = Zm at *
  omega
 rw [hm.2] at h1
 refine ⟨T4 % 52435875175126190479447740508185965837690552500527637822603658699938581184513, Nat.mod_lt _ (by decide), acC (acn a ha) hE0 hE1 hE2 hE3, ?_⟩
 have hC := ai (dS q3) (ai (dS q2) (ai (dS q1) (ai (dS q0) (ai (dB gY) (ai gX (ai (dA gU) (ai (dM gT) (ai gR (ai (dA gQ) (ai (dM gO) (ai gM (ai (dA gL) (ai (dM gJ) (ai (dA gI) (ai (dM gG) (ai (dC gF) (ai gD (ai (dA gA) (ai gy (ai gx (ai (dA gv) (ai gu (ai gt (ai (dA gq) (ai gp (ai gn (ai (dA gm) (ai gl (ai (dB gk) (ai gh (ai (dA gg) (ai (dM ge) (ai gd (ai (dA gb) (ai (dM ga) (ai fZ (ai (dA fY) (ai (dM fX) (ai (dA fW) (ai (dM fU) (ai (dC fT) (ai fS (ai (dA fR) (ai fQ (ai fP (ai (dA fO) (ai fN (ai fM (ai (dA fL) (ai fK (ai fJ (ai (dA fI) (ai fH (ai (dB fG) (ai fF (ai (dA fE) (ai (dM fD) (ai fC (ai (dA fB) (ai (dM fA) (ai fy (ai (dA fx) (ai (dM fw) (ai (dA fu) (ai (dM fq) (ai (dC fo) (ai fm (ai (dA fl) (ai fk (ai fj (ai (dA fi) (ai fh (ai fg (ai (dA fe) (ai fc (ai fa (ai (dA e7) (ai eZ (ai (dB eY) (ai eX (ai (dA eU) (ai (dM eT) (ai eS (ai (dA eR) (ai (dM eQ) (ai eO (ai (dA eN) (ai (dM eM) (ai (dA eL) (ai (dM eI) (ai eH (ai eG (ai eF (ai eE (ai eD (ai eB (ai eA (ai ez (ai eu (ai et (ai es (ai er (ai ep tt0)))))))))))))))))))))))))))))))))))))))))))))))))))))))))))))))))))))))))))))))))))))))))))))))))))))))
 by_cases hk : k3 = 0
 ·have hv : T4 % 52435875175126190479447740508185965837690552500527637822603658699938581184513 = d0 % 18446744073709551616 + 18446744073709551616 * (d1 % 18446744073709551616 + 18446744073709551616 * (d2 % 18446744073709551616 + 18446744073709551616 * (d3 % 18446744073709551616 + 18446744073709551616 * (0)))) := by
   rw [h2]
   generalize d0 + 18446744073709551616 * (d1 + 18446744073709551616 * (d2 + 18446744073709551616 * (d3 + 18446744073709551616 * (0)))) = D at *
   have l := hL4
   clear hC q0 q1 q2 q3 hm hT1 hL1 hT2 hL2 hT3 hL3 hT4 hL4 hE0 hE1 hE2 hE3
   omega
  rw [hv]
  refine Me (l := [.n 1 d0, .n 1 d1, .n 1 d2, .n 1 d3]) ?_ rfl
  exact pI (P := prog) (env := [tm, ts, uJ, eRS]) ⟨rC, rD, sJ, zu, tt0⟩ func112 2 (oN [(39, an, ao), (49, ap, aq), (61, ab, ar), (85, au, aw), (95, ax, ay), (107, az, aA), (131, aB, aC), (141, aD, aE), (153, aF, aG), (177, aH, aI), (187, aJ, aK), (199, aL, aM), (222, aN, aO), (243, aP, aQ), (252, eJ, aR), (270, aS, aT), (280, aU, aV), (292, aW, aX), (318, aY, aZ), (328, a9, ba), (340, bb, bc), (366, be, bf), (376, bg, bh), (388, bl, bm), (415, bn, bo), (452, bp, bq), (462, br, bu), (474, ac, bv), (498, bx, bz), (508, bA, bB), (520, bC, bD), (544, bE, bF), (554, bG, bH), (566, bI, bJ), (590, bK, bL), (600, bM, bN), (612, bO, bP), (635, bQ, bR), (656, bS, bT), (665, ft, bU), (683, bV, bW), (693, bX, bY), (705, bZ, b6), (731, b7, b8), (741, b9, ca), (753, cb, cc), (779, cd, ce), (789, cf, cg), (801, ck, cl), (828, cm, co), (865, cq, cr), (875, ct, cu), (887, ad, cv), (911, cx, cy), (921, cz, cA), (933, cB, cC), (957, cD, cE), (967, cF, cG), (979, cH, cI), (1003, cJ, cK), (1013, cL, cM), (1025, cN, cO), (1048, cP, cQ), (1069, cR, cS), (1078, fV, cT), (1096, cU, cV), (1106, cW, cX), (1118, cY, cZ), (1144, c9, da), (1154, db, dc), (1166, dd, de), (1192, df, dh), (1202, di, dj), (1214, dk, dl), (1241, dm, dn), (1278, dp, dq), (1288, dr, dt), (1300, ae, du), (1324, dv, dw), (1334, dx, dy), (1346, dz, dD), (1370, dE, dF), (1380, dG, dH), (1392, dI, dJ), (1416, dK, dL), (1426, dN, dO), (1438, dP, dQ), (1461, dR, al), (1482, dT, dU), (1491, gH, dV), (1509, dW, dX), (1519, dY, dZ), (1531, af, d9), (1557, ea, eb), (1567, ed, ee), (1579, ah, ef), (1605, eg, ei), (1615, ej, ek), (1627, aj, eo), (1654, ak, am), (1699, d0, k0), (1721, d1, k1), (1743, d2, k2), (1765, d3, k3)] [(1777, 1)]) (by kernel_rfl) (ai (show decide (k3 % 18446744073709551616 <= ((al / 1 + am) / 1) % 18446744073709551616) = true by simp only [Nat.div_one, hk, hm.1]; rfl) hC)
 ·have hv : T4 % 52435875175126190479447740508185965837690552500527637822603658699938581184513 = af % 18446744073709551616 + 18446744073709551616 * (ah % 18446744073709551616 + 18446744073709551616 * (aj % 18446744073709551616 + 18446744073709551616 * (ak % 18446744073709551616 + 18446744073709551616 * (0)))) := by
   rw [hm.2]
   generalize d0 + 18446744073709551616 * (d1 + 18446744073709551616 * (d2 + 18446744073709551616 * (d3 + 18446744073709551616 * (0)))) = D at *
   have l := hL4
   clear hC q0 q1 q2 q3 hm hT1 hL1 hT2 hL2 hT3 hL3 hT4 hL4 hE0 hE1 hE2 hE3
   omega
  rw [hv]
  refine Me (l := [.n 1 af, .n 1 ah, .n 1 aj, .n 1 ak]) ?_ rfl
  exact pI (P := prog) (env := [tm, ts, uJ, eRS]) ⟨rC, rD, sJ, zu, tt0⟩ func112 2 (oN [(39, an, ao), (49, ap, aq), (61, ab, ar), (85, au, aw), (95, ax, ay), (107, az, aA), (131, aB, aC), (141, aD, aE), (153, aF, aG), (177, aH, aI), (187, aJ, aK), (199, aL, aM), (222, aN, aO), (243, aP, aQ), (252, eJ, aR), (270, aS, aT), (280, aU, aV), (292, aW, aX), (318, aY, aZ), (328, a9, ba), (340, bb, bc), (366, be, bf), (376, bg, bh), (388, bl, bm), (415, bn, bo), (452, bp, bq), (462, br, bu), (474, ac, bv), (498, bx, bz), (508, bA, bB), (520, bC, bD), (544, bE, bF), (554, bG, bH), (566, bI, bJ), (590, bK, bL), (600, bM, bN), (612, bO, bP), (635, bQ, bR), (656, bS, bT), (665, ft, bU), (683, bV, bW), (693, bX, bY), (705, bZ, b6), (731, b7, b8), (741, b9, ca), (753, cb, cc), (779, cd, ce), (789, cf, cg), (801, ck, cl), (828, cm, co), (865, cq, cr), (875, ct, cu), (887, ad, cv), (911, cx, cy), (921, cz, cA), (933, cB, cC), (957, cD, cE), (967, cF, cG), (979, cH, cI), (1003, cJ, cK), (1013, cL, cM), (1025, cN, cO), (1048, cP, cQ), (1069, cR, cS), (1078, fV, cT), (1096, cU, cV), (1106, cW, cX), (1118, cY, cZ), (1144, c9, da), (1154, db, dc), (1166, dd, de), (1192, df, dh), (1202, di, dj), (1214, dk, dl), (1241, dm, dn), (1278, dp, dq), (1288, dr, dt), (1300, ae, du), (1324, dv, dw), (1334, dx, dy), (1346, dz, dD), (1370, dE, dF), (1380, dG, dH), (1392, dI, dJ), (1416, dK, dL), (1426, dN, dO), (1438, dP, dQ), (1461, dR, al), (1482, dT, dU), (1491, gH, dV), (1509, dW, dX), (1519, dY, dZ), (1531, af, d9), (1557, ea, eb), (1567, ed, ee), (1579, ah, ef), (1605, eg, ei), (1615, ej, ek), (1627, aj, eo), (1654, ak, am), (1699, d0, k0), (1721, d1, k1), (1743, d2, k2), (1765, d3, k3)] [(1777, 2)]) (by kernel_rfl) (ai (show decide (k3 % 18446744073709551616 <= ((al / 1 + am) / 1) % 18446744073709551616) = false by have k1 : k3 = 1 := Nat.le_antisymm h3 (Nat.one_le_iff_ne_zero.2 hk); simp only [Nat.div_one, k1, hm.1]; rfl) hC)
end Go.Proofs.YtokjhbmmdmeafaaGreat
set_option linter.unusedSimpArgs false
set_option linter.unusedVariables false
namespace Go.Proofs.YtokjhbmmdmeafaaGreat
open Go.Ev Go.RowKit
open Tryz
set_option maxHeartbeats 4000000 in
theorem adO (a : Nat) (ha : a < 115792089237316195423570985008687907853269984665640564039457584007913129639936) : ∃ v, v < 52435875175126190479447740508185965837690552500527637822603658699938581184513 /\ (v * 115792089237316195423570985008687907853269984665640564039457584007913129639936) % 52435875175126190479447740508185965837690552500527637822603658699938581184513 = (a * 1) % 52435875175126190479447740508185965837690552500527637822603658699938581184513 /\ Gives prog 113 [.t (.ag [.n 4 a])] (.ag [.n 4 v]) := by
 have hB : 1 = 1 % 18446744073709551616 + 18446744073709551616 * (0 % 18446744073709551616 + 18446744073709551616 * (0 % 18446744073709551616 + 18446744073709551616 * (0 % 18446744073709551616 + 18446744073709551616 * (0)))) := by simp only [Nat.reduceMod, Nat.reduceMul, Nat.reduceAdd]
 have hT0 : 0 = 0 % 18446744073709551616 + 18446744073709551616 * (0 % 18446744073709551616 + 18446744073709551616 * (0 % 18446744073709551616 + 18446744073709551616 * (0 % 18446744073709551616 + 18446744073709551616 * (0 % 18446744073709551616 + 18446744073709551616 * (0))))) := by simp only [Nat.zero_mod, Nat.mul_zero, Nat.add_zero]
 obtain ⟨an, ao, ep⟩ := pH (a / 1) (1)
 obtain ⟨ap, aq, er⟩ := pG (ao) (0) 0 (by decide)
 obtain ⟨ab, ar, es⟩ := pG (ap) (0) 0 (by decide)
 obtain ⟨au, aw, et⟩ := pH (a / 1) (0)
 obtain ⟨ax, ay, eu⟩ := pG (aw) (0) 0 (by decide)
 obtain ⟨az, aA, ez⟩ := pG (ax) (an + aq + ar) 0 (by decide)
 obtain ⟨aB, aC, eA⟩ := pH (a / 1) (0)
 obtain ⟨aD, aE, eB⟩ := pG (aC) (0) 0 (by decide)
 obtain ⟨aF, aG, eD⟩ := pG (aD) (au + ay + aA) 0 (by decide)
 obtain ⟨aH, aI, eE⟩ := pH (a / 1) (0)
 obtain ⟨aJ, aK, eF⟩ := pG (aI) (0) 0 (by decide)
 obtain ⟨aL, aM, eG⟩ := pG (aJ) (aB + aE + aG) 0 (by decide)
 obtain ⟨aN, aO, eH⟩ := pG (0) (aH + aK + aM) 0 (by decide)
 obtain ⟨aP, aQ, eI⟩ := pH (ab * 18446744069414584319) (18446744069414584321)
 obtain ⟨eJ, aR, eL⟩ := pG (aQ) (ab) 0 (by decide)
 obtain ⟨aS, aT, eM⟩ := pH (ab * 18446744069414584319) (6034159408538082302)
 obtain ⟨aU, aV, eN⟩ := pG (aT) (az) 0 (by decide)
 obtain ⟨aW, aX, eO⟩ := pG (aU) (aP + aR) 0 (by decide)
 obtain ⟨aY, aZ, eQ⟩ := pH (ab * 18446744069414584319) (3691218898639771653)
 obtain ⟨a9, ba, eR⟩ := pG (aZ) (aF) 0 (by decide)
 obtain ⟨bb, bc, eS⟩ := pG (a9) (aS + aV + aX) 0 (by decide)
 obtain ⟨be, bf, eT⟩ := pH (ab * 18446744069414584319) (8353516859464449352)
 obtain ⟨bg, bh, eU⟩ := pG (bf) (aL) 0 (by decide)
 obtain ⟨bl, bm, eX⟩ := pG (bg) (aY + ba + bc) 0 (by decide)
 obtain ⟨bn, bo, eY⟩ := pG (aN) (be + bh + bm) 0 (by decide)
 obtain ⟨T1, Q0, hT1, hE0, hL1, hQ0⟩ := vh hT0 hB (by omega) (by decide) ep er es et eu ez eA eB eD eE eF eG eH eI eL eM eN eO eQ eR eS eT eU eX eY
 obtain ⟨bp, bq, eZ⟩ := pH (a / 18446744073709551616) (1)
 obtain ⟨br, bu, e7⟩ := pG (bq) (aW) 0 (by decide)
 obtain ⟨ac, bv, fa⟩ := pG (br) (0) 0 (by decide)
 obtain ⟨bx, bz, fc⟩ := pH (a / 18446744073709551616) (0)
 obtain ⟨bA, bB, fe⟩ := pG (bz) (bb) 0 (by decide)
 obtain ⟨bC, bD, fg⟩ := pG (bA) (bp + bu + bv) 0 (by decide)
 obtain ⟨bE, bF, fh⟩ := pH (a / 18446744073709551616) (0)
 obtain ⟨bG, bH, fi⟩ := pG (bF) (bl) 0 (by decide)
 obtain ⟨bI, bJ, fj⟩ := pG (bG) (bx + bB + bD) 0 (by decide)
 obtain ⟨bK, bL, fk⟩ := pH (a / 18446744073709551616) (0)
 obtain ⟨bM, bN, fl⟩ := pG (bL) (bn) 0 (by decide)
 obtain ⟨bO, bP, fm⟩ := pG (bM) (bE + bH + bJ) 0 (by decide)
 obtain ⟨bQ, bR, fo⟩ := pG (aO + bo) (bK + bN + bP) 0 (by decide)
 obtain ⟨bS, bT, fq⟩ := pH (ac * 18446744069414584319) (18446744069414584321)
 obtain ⟨ft, bU, fu⟩ := pG (bT) (ac) 0 (by decide)
 obtain ⟨bV, bW, fw⟩ := pH (ac * 18446744069414584319) (6034159408538082302)
 obtain ⟨bX, bY, fx⟩ := pG (bW) (bC) 0 (by decide)
 obtain ⟨bZ, b6, fy⟩ := pG (bX) (bS + bU) 0 (by decide)
 obtain ⟨b7, b8, fA⟩ := pH (ac * 18446744069414584319) (3691218898639771653)
 obtain ⟨b9, ca, fB⟩ := pG (b8) (bI) 0 (by decide)
 obtain ⟨cb, cc, fC⟩ := pG (b9) (bV + bY + b6) 0 (by decide)
 obtain ⟨cd, ce, fD⟩ := pH (ac * 18446744069414584319) (8353516859464449352)
 obtain ⟨cf, cg, fE⟩ := pG (ce) (bO) 0 (by decide)
 obtain ⟨ck, cl, fF⟩ := pG (cf) (b7 + ca + cc) 0 (by decide)
 obtain ⟨cm, co, fG⟩ := pG (bQ) (cd + cg + cl) 0 (by decide)
 obtain ⟨T2, Q1, hT2, hE1, hL2, hQ1⟩ := vh hT1 hB hL1 (by decide) eZ e7 fa fc fe fg fh fi fj fk fl fm fo fq fu fw fx fy fA fB fC fD fE fF fG
 obtain ⟨cq, cr, fH⟩ := pH (a / 340282366920938463463374607431768211456) (1)
 obtain ⟨ct, cu, fI⟩ := pG (cr) (bZ) 0 (by decide)
 obtain ⟨ad, cv, fJ⟩ := pG (ct) (0) 0 (by decide)
 obtain ⟨cx, cy, fK⟩ := pH (a / 340282366920938463463374607431768211456) (0)
 obtain ⟨cz, cA, fL⟩ := pG (cy) (cb) 0 (by decide)
 obtain ⟨cB, cC, fM⟩ := pG (cz) (cq + cu + cv) 0 (by decide)
 obtain ⟨cD, cE, fN⟩ := pH (a / 340282366920938463463374607431768211456) (0)
 obtain ⟨cF, cG, fO⟩ := pG (cE) (ck) 0 (by decide)
 obtain ⟨cH, cI, fP⟩ := pG (cF) (cx + cA + cC) 0 (by decide)
 obtain ⟨cJ, cK, fQ⟩ := pH (a / 340282366920938463463374607431768211456) (0)
 obtain ⟨cL, cM, fR⟩ := pG (cK) (cm) 0 (by decide)
 obtain ⟨cN, cO, fS⟩ := pG (cL) (cD + cG + cI) 0 (by decide)
 obtain ⟨cP, cQ, fT⟩ := pG (bR + co) (cJ + cM + cO) 0 (by decide)
 obtain ⟨cR, cS, fU⟩ := pH (ad * 18446744069414584319) (18446744069414584321)
 obtain ⟨fV, cT, fW⟩ := pG (cS) (ad) 0 (by decide)
 obtain ⟨cU, cV, fX⟩ := pH (ad * 18446744069414584319) (6034159408538082302)
 obtain ⟨cW, cX, fY⟩ := pG (cV) (cB) 0 (by decide)
 obtain ⟨cY, cZ, fZ⟩ := pG (cW) (cR + cT) 0 (by decide)
 obtain ⟨c9, da, ga⟩ := pH (ad * 18446744069414584319) (3691218898639771653)
 obtain ⟨db, dc, gb⟩ := pG (da) (cH) 0 (by decide)
 obtain ⟨dd, de, gd⟩ := pG (db) (cU + cX + cZ) 0 (by decide)
 obtain ⟨df, dh, ge⟩ := pH (ad * 18446744069414584319) (8353516859464449352)
 obtain ⟨di, dj, gg⟩ := pG (dh) (cN) 0 (by decide)
 obtain ⟨dk, dl, gh⟩ := pG (di) (c9 + dc + de) 0 (by decide)
 obtain ⟨dm, dn, gk⟩ := pG (cP) (df + dj + dl) 0 (by decide)
 obtain ⟨T3, Q2, hT3, hE2, hL3, hQ2⟩ := vh hT2 hB hL2 (by decide) fH fI fJ fK fL fM fN fO fP fQ fR fS fT fU fW fX fY fZ ga gb gd ge gg gh gk
 obtain ⟨dp, dq, gl⟩ := pH (a / 6277101735386680763835789423207666416102355444464034512896) (1)
 obtain ⟨dr, dt, gm⟩ := pG (dq) (cY) 0 (by decide)
 obtain ⟨ae, du, gn⟩ := pG (dr) (0) 0 (by decide)
 obtain ⟨dv, dw, gp⟩ := pH (a / 6277101735386680763835789423207666416102355444464034512896) (0)
 obtain ⟨dx, dy, gq⟩ := pG (dw) (dd) 0 (by decide)
 obtain ⟨dz, dD, gt⟩ := pG (dx) (dp + dt + du) 0 (by decide)
 obtain ⟨dE, dF, gu⟩ := pH (a / 6277101735386680763835789423207666416102355444464034512896) (0)
 obtain ⟨dG, dH, gv⟩ := pG (dF) (dk) 0 (by decide)
 obtain ⟨dI, dJ, gx⟩ := pG (dG) (dv + dy + dD) 0 (by decide)
 obtain ⟨dK, dL, gy⟩ := pH (a / 6277101735386680763835789423207666416102355444464034512896) (0)
 obtain ⟨dN, dO, gA⟩ := pG (dL) (dm) 0 (by decide)
 obtain ⟨dP, dQ, gD⟩ := pG (dN) (dE + dH + dJ) 0 (by decide)
 obtain ⟨dR, al, gF⟩ := pG (cQ + dn) (dK + dO + dQ) 0 (by decide)
 obtain ⟨dT, dU, gG⟩ := pH (ae * 18446744069414584319) (18446744069414584321)
 obtain ⟨gH, dV, gI⟩ := pG (dU) (ae) 0 (by decide)
 obtain ⟨dW, dX, gJ⟩ := pH (ae * 18446744069414584319) (6034159408538082302)
 obtain ⟨dY, dZ, gL⟩ := pG (dX) (dz) 0 (by decide)
 obtain ⟨af, d9, gM⟩ := pG (dY) (dT + dV) 0 (by decide)
 obtain ⟨ea, eb, gO⟩ := pH (ae * 18446744069414584319) (3691218898639771653)
 obtain ⟨ed, ee, gQ⟩ := pG (eb) (dI) 0 (by decide)
 obtain ⟨ah, ef, gR⟩ := pG (ed) (dW + dZ + d9) 0 (by decide)
 obtain ⟨eg, ei, gT⟩ := pH (ae * 18446744069414584319) (8353516859464449352)
 obtain ⟨ej, ek, gU⟩ := pG (ei) (dP) 0 (by decide)
 obtain ⟨aj, eo, gX⟩ := pG (ej) (ea + ee + ef) 0 (by decide)
 obtain ⟨ak, am, gY⟩ := pG (dR) (eg + ek + eo) 0 (by decide)
 obtain ⟨T4, Q3, hT4, hE3, hL4, hQ3⟩ := vh hT3 hB hL3 (by decide) gl gm gn gp gq gt gu gv gx gy gA gD gF gG gI gJ gL gM gO gQ gR gT gU gX gY
 obtain ⟨d0, k0, q0⟩ := qB (af) 18446744069414584321 0 (by decide)
 obtain ⟨d1, k1, q1⟩ := qB (ah) 6034159408538082302 k0 q0.2.2.2
 obtain ⟨d2, k2, q2⟩ := qB (aj) 3691218898639771653 k1 q1.2.2.2
 obtain ⟨d3, k3, q3⟩ := qB (ak) 8353516859464449352 k2 q2.2.2.2
 obtain ⟨h1, h2, h3, h4⟩ := WV q0 q1 q2 q3
 simp only [Nat.reduceMod, Nat.reduceMul, Nat.reduceAdd] at h1
 have hm : (al + am) % 18446744073709551616 = 0 /\ af % 18446744073709551616 + 18446744073709551616 * (ah % 18446744073709551616 + 18446744073709551616 * (aj % 18446744073709551616 + 18446744073709551616 * (ak % 18446744073709551616 + 18446744073709551616 * (0)))) = T4 := by
  have e := hT4
  have l := hL4
  clear q0 q1 q2 q3 h1 h2 h4 hT1 hL1 hT2 hL2 hT3 hL3 hT4 hL4 hE0 hE1 hE2 hE3
  generalize af % 18446744073709551616 = Z0 at *
  generalize ah % 18446744073709551616 = Z1 at *
  generalize aj % 18446744073709551616 = Z2 at *
  generalize ak % 18446744073709551616 = Z3 at *
  generalize (al + am) % 18446744073709551616 = Zm at *
  omega
 rw [hm.2] at h1
 refine ⟨T4 % 52435875175126190479447740508185965837690552500527637822603658699938581184513, Nat.mod_lt _ (by decide), acC (acn a ha) hE0 hE1 hE2 hE3, ?_⟩
 have hC := ai (dS q3) (ai (dS q2) (ai (dS q1) (ai (dS q0) (ai (dB gY) (ai gX (ai (dA gU) (ai (dM gT) (ai gR (ai (dA gQ) (ai (dM gO) (ai gM (ai (dA gL) (ai (dM gJ) (ai (dA gI) (ai (dM gG) (ai (dC gF) (ai gD (ai (dA gA) (ai gy (ai gx (ai (dA gv) (ai gu (ai gt (ai (dA gq) (ai gp (ai gn (ai (dA gm) (ai gl (ai (dB gk) (ai gh (ai (dA gg) (ai (dM ge) (ai gd (ai (dA gb) (ai (dM ga) (ai fZ (ai (dA fY) (ai (dM fX) (ai (dA fW) (ai (dM fU) (ai (dC fT) (ai fS (ai (dA fR) (ai fQ (ai fP (ai (dA fO) (ai fN (ai fM (ai (dA fL) (ai fK (ai fJ (ai (dA fI) (ai fH (ai (dB fG) (ai fF (ai (dA fE) (ai (dM fD) (ai fC (ai (dA fB) (ai (dM fA) (ai fy (ai (dA fx) (ai (dM fw) (ai (dA fu) (ai (dM fq) (ai (dC fo) (ai fm (ai (dA fl) (ai fk (ai fj (ai (dA fi) (ai fh (ai fg (ai (dA fe) (ai fc (ai fa (ai (dA e7) (ai eZ (ai (dB eY) (ai eX (ai (dA eU) (ai (dM eT) (ai eS (ai (dA eR) (ai (dM eQ) (ai eO (ai (dA eN) (ai (dM eM) (ai (dA eL) (ai (dM eI) (ai eH (ai eG (ai eF (ai eE (ai eD (ai eB (ai eA (ai ez (ai eu (ai et (ai es (ai er (ai ep tt0)))))))))))))))))))))))))))))))))))))))))))))))))))))))))))))))))))))))))))))))))))))))))))))))))))))))
 by_cases hk : k3 = 0
 ·have hv : T4 % 52435875175126190479447740508185965837690552500527637822603658699938581184513 = d0 % 18446744073709551616 + 18446744073709551616 * (d1 % 18446744073709551616 + 18446744073709551616 * (d2 % 18446744073709551616 + 18446744073709551616 * (d3 % 18446744073709551616 + 18446744073709551616 * (0)))) := by
   rw [h2]
   generalize d0 + 18446744073709551616 * (d1 + 18446744073709551616 * (d2 + 18446744073709551616 * (d3 + 18446744073709551616 * (0)))) = D at *
   have l := hL4
   clear hC q0 q1 q2 q3 hm hT1 hL1 hT2 hL2 hT3 hL3 hT4 hL4 hE0 hE1 hE2 hE3
   omega
  rw [hv]
  refine Me (l := [.n 1 d0, .n 1 d1, .n 1 d2, .n 1 d3]) ?_ rfl
  exact pI (P := prog) (env := [tm, ts, uJ, eRS]) ⟨rC, rD, sJ, zu, tt0⟩ func113 2 (oN [(39, an, ao), (49, ap, aq), (61, ab, ar), (85, au, aw), (95, ax, ay), (107, az, aA), (131, aB, aC), (141, aD, aE), (153, aF, aG), (177, aH, aI), (187, aJ, aK), (199, aL, aM), (222, aN, aO), (243, aP, aQ), (252, eJ, aR), (270, aS, aT), (280, aU, aV), (292, aW, aX), (318, aY, aZ), (328, a9, ba), (340, bb, bc), (366, be, bf), (376, bg, bh), (388, bl, bm), (415, bn, bo), (452, bp, bq), (462, br, bu), (474, ac, bv), (498, bx, bz), (508, bA, bB), (520, bC, bD), (544, bE, bF), (554, bG, bH), (566, bI, bJ), (590, bK, bL), (600, bM, bN), (612, bO, bP), (635, bQ, bR), (656, bS, bT), (665, ft, bU), (683, bV, bW), (693, bX, bY), (705, bZ, b6), (731, b7, b8), (741, b9, ca), (753, cb, cc), (779, cd, ce), (789, cf, cg), (801, ck, cl), (828, cm, co), (865, cq, cr), (875, ct, cu), (887, ad, cv), (911, cx, cy), (921, cz, cA), (933, cB, cC), (957, cD, cE), (967, cF, cG), (979, cH, cI), (1003, cJ, cK), (1013, cL, cM), (1025, cN, cO), (1048, cP, cQ), (1069, cR, cS), (1078, fV, cT), (1096, cU, cV), (1106, cW, cX), (1118, cY, cZ), (1144, c9, da), (1154, db, dc), (1166, dd, de), (1192, df, dh), (1202, di, dj), (1214, dk, dl), (1241, dm, dn), (1278, dp, dq), (1288, dr, dt), (1300, ae, du), (1324, dv, dw), (1334, dx, dy), (1346, dz, dD), (1370, dE, dF), (1380, dG, dH), (1392, dI, dJ), (1416, dK, dL), (1426, dN, dO), (1438, dP, dQ), (1461, dR, al), (1482, dT, dU), (1491, gH, dV), (1509, dW, dX), (1519, dY, dZ), (1531, af, d9), (1557, ea, eb), (1567, ed, ee), (1579, ah, ef), (1605, eg, ei), (1615, ej, ek), (1627, aj, eo), (1654, ak, am), (1699, d0, k0), (1721, d1, k1), (1743, d2, k2), (1765, d3, k3)] [(1777, 1)]) (by kernel_rfl) (ai (show decide (k3 % 18446744073709551616 <= ((al / 1 + am) / 1) % 18446744073709551616) = true by simp only [Nat.div_one, hk, hm.1]; rfl) hC)
 ·have hv : T4 % 52435875175126190479447740508185965837690552500527637822603658699938581184513 = af % 18446744073709551616 + 18446744073709551616 * (ah % 18446744073709551616 + 18446744073709551616 * (aj % 18446744073709551616 + 18446744073709551616 * (ak % 18446744073709551616 + 18446744073709551616 * (0)))) := by
   rw [hm.2]
   generalize d0 + 18446744073709551616 * (d1 + 18446744073709551616 * (d2 + 18446744073709551616 * (d3 + 18446744073709551616 * (0)))) = D at *
   have l := hL4
   clear hC q0 q1 q2 q3 hm hT1 hL1 hT2 hL2 hT3 hL3 hT4 hL4 hE0 hE1 hE2 hE3
   omega
  rw [hv]
  refine Me (l := [.n 1 af, .n 1 ah, .n 1 aj, .n 1 ak]) ?_ rfl
  exact pI (P := prog) (env := [tm, ts, uJ, eRS]) ⟨rC, rD, sJ, zu, tt0⟩ func113 2 (oN [(39, an, ao), (49, ap, aq), (61, ab, ar), (85, au, aw), (95, ax, ay), (107, az, aA), (131, aB, aC), (141, aD, aE), (153, aF, aG), (177, aH, aI), (187, aJ, aK), (199, aL, aM), (222, aN, aO), (243, aP, aQ), (252, eJ, aR), (270, aS, aT), (280, aU, aV), (292, aW, aX), (318, aY, aZ), (328, a9, ba), (340, bb, bc), (366, be, bf), (376, bg, bh), (388, bl, bm), (415, bn, bo), (452, bp, bq), (462, br, bu), (474, ac, bv), (498, bx, bz), (508, bA, bB), (520, bC, bD), (544, bE, bF), (554, bG, bH), (566, bI, bJ), (590, bK, bL), (600, bM, bN), (612, bO, bP), (635, bQ, bR), (656, bS, bT), (665, ft, bU), (683, bV, bW), (693, bX, bY), (705, bZ, b6), (731, b7, b8), (741, b9, ca), (753, cb, cc), (779, cd, ce), (789, cf, cg), (801, ck, cl), (828, cm, co), (865, cq, cr), (875, ct, cu), (887, ad, cv), (911, cx, cy), (921, cz, cA), (933, cB, cC), (957, cD, cE), (967, cF, cG), (979, cH, cI), (1003, cJ, cK), (1013, cL, cM), (1025, cN, cO), (1048, cP, cQ), (1069, cR, cS), (1078, fV, cT), (1096, cU, cV), (1106, cW, cX), (1118, cY, cZ), (1144, c9, da), (1154, db, dc), (1166, dd, de), (1192, df, dh), (1202, di, dj), (1214, dk, dl), (1241, dm, dn), (1278, dp, dq), (1288, dr, dt), (1300, ae, du), (1324, dv, dw), (1334, dx, dy), (1346, dz, dD), (1370, dE, dF), (1380, dG, dH), (1392, dI, dJ), (1416, dK, dL), (1426, dN, dO), (1438, dP, dQ), (1461, dR, al), (1482, dT, dU), (1491, gH, dV), (1509, dW, dX), (1519, dY, dZ), (1531, af, d9), (1557, ea, eb), (1567, ed, ee), (1579, ah, ef), (1605, eg, ei), (1615, ej, ek), (1627, aj, eo), (1654, ak, am), (1699, d0, k0), (1721, d1, k1), (1743, d2, k2), (1765, d3, k3)] [(1777, 2)]) (by kernel_rfl) (ai (show decide (k3 % 18446744073709551616 <= ((al / 1 + am) / 1) % 18446744073709551616) = false by have k1 : k3 = 1 := Nat.le_antisymm h3 (Nat.one_le_iff_ne_zero.2 hk); simp only [Nat.div_one, k1, hm.1]; rfl) hC)
end Go.Proofs.YtokjhbmmdmeafaaGreat
set_option linter.unusedSimpArgs false
set_option linter.unusedVariables false
namespace Go.Proofs.YtokjhbmmdmeafaaGreat
open Go.Ev Go.RowKit
open Tryz
theorem aa9 {P : Program} {f : FuncId} {x x' : XV} {r : AV} (h : Gives P f [x] r) (e : ∀ w v, XRep w x' v -> XRep w x v) : Gives P f [x'] r := by
 obtain ⟨v, h1, h2⟩ := h
 refine ⟨v, h1, fun w vs hx => ?_⟩
 match vs, hx with
 | [y], hx => exact h2 w [y] ⟨e _ _ hx.1, tt0⟩
theorem abA : 115792089237316195423570985008687907853269984665640564039457584007913129639936 * 12549076656233958353659347336803947287922716146853412054870763148006372261952 % 52435875175126190479447740508185965837690552500527637822603658699938581184513 = 1 % 52435875175126190479447740508185965837690552500527637822603658699938581184513 := by decide
theorem Yb (x : Fin Rr) : toS x < 52435875175126190479447740508185965837690552500527637822603658699938581184513 := Nat.mod_lt _ (by decide)
theorem inS (a : Nat) (ha : a < 115792089237316195423570985008687907853269984665640564039457584007913129639936) : Gives prog 112 [.t (.ag [.n 4 a])] (.ag [.s (ofR a)]) := by
 obtain ⟨v, h1, h2, h3⟩ := afa a ha
 have e : v = toS (ofR a) := L6 (m := 52435875175126190479447740508185965837690552500527637822603658699938581184513) (R := 115792089237316195423570985008687907853269984665640564039457584007913129639936) abA h1 h2
 refine h3.same ?_
 exact ry rfl rfl (by simp only [flat, Ch.cells, e])
theorem agO (x : Fin Rr) : Gives prog 113 [.t (.ag [.s x])] (.ag [.e x]) := by
 obtain ⟨v, h1, h2, h3⟩ := adO (toS x) (Nat.lt_trans (Yb x) (by decide))
 have e : v = x.val := H3 (m := 52435875175126190479447740508185965837690552500527637822603658699938581184513) (R := 115792089237316195423570985008687907853269984665640564039457584007913129639936) abA x.isLt h1 h2
 have h := aa9 (x' := .t (.ag [.s x])) h3 (fun _ _ h => h)
 refine h.same ?_
 exact ry rfl rfl (by simp only [flat, Ch.cells, e])
def QE : Entry := p7 113 afD.x (fun x => [(none, .ag [.e x])])
theorem IS : QE.OK prog := pQ (fun args w => Go.Proofs.enters_of (P := prog) func113 (by kernel_rfl) rfl args w) (fun x => only (agO x))
end Go.Proofs.YtokjhbmmdmeafaaGreat
set_option linter.unusedSimpArgs false
set_option linter.unusedVariables false
namespace Go.Proofs.YtokjhbmmdmeafaaGreat
open Go.Ev Go.RowKit
open Tryz
structure minusSY (a b : Nat) where
 i : Nat
 β : Nat
 o : Nat
 hi : i <= 4
 inv : abC a b i β o
structure plusSY (a b : Nat) where
 i : Nat
 β : Nat
 o : Nat
 hi : i <= 4
 inv : aef a b i β o
end Go.Proofs.YtokjhbmmdmeafaaGreat
set_option linter.unusedSimpArgs false
set_option linter.unusedVariables false
namespace Go.Proofs.YtokjhbmmdmeafaaGreat
open Go.Ev Go.RowKit
open Tryz
theorem afX (x : Fin Rr) : Gives prog 112 [.t (.ag [.e x])] (.ag [.s x]) := by
 have h := aa9 (x' := .t (.ag [.e x])) (inS x.val (Nat.lt_trans x.isLt (by decide))) (fun _ _ h => h)
 rw [Wd] at h
 exact h
def RG : Entry := w8 112 XS.x yR.x (fun x => [(none, .ag [.s x])]) (fun a => [(some (smS a), .ag [.s (ofR a)])])
theorem HH : RG.OK prog := xw (pQ (fun args w => Go.Proofs.enters_of (P := prog) func112 (by kernel_rfl) rfl args w) (fun x => only (afX x))) (pQ (fun args w => Go.Proofs.enters_of (P := prog) func112 (by kernel_rfl) rfl args w) (fun a => rT (fun h => inS a h)))
end Go.Proofs.YtokjhbmmdmeafaaGreat
set_option linter.unusedSimpArgs false
set_option linter.unusedVariables false
namespace Go.Proofs.YtokjhbmmdmeafaaGreat
open Go.Ev Go.RowKit
open Tryz
def Cg : Entry := p7 83 WS (fun a => [(some (DG a), .ag [.e (YN a)])])
theorem BQ : Cg.OK prog := pQ (fun args w => Go.Proofs.enters_of (P := prog) func83 (by kernel_rfl) rfl args w) (fun a => match a with
 | .inl a => rT (fun h => pI (P := prog) (env := [RG, QE]) ⟨HH, IS, tt0⟩ func83 1 o0 (by kernel_rfl) tt0)
 | .inr a => rT (fun h => pI (P := prog) (env := [RG, QE]) ⟨HH, IS, tt0⟩ func83 1 o0 (by kernel_rfl) (ai h tt0)))
end Go.Proofs.YtokjhbmmdmeafaaGreat
set_option linter.unusedSimpArgs false
set_option linter.unusedVariables false
namespace Go.Proofs.YtokjhbmmdmeafaaGreat
open Go.Ev Go.RowKit
open Tryz
end Go.Proofs.YtokjhbmmdmeafaaGreat
