/- Pruned: ZhCiP. -/
import Derived.Test.YtokjhbmmdmeafaaGreatQZhCoP
set_option linter.unusedSimpArgs false
set_option linter.unusedVariables false
namespace Go.Proofs.YtokjhbmmdmeafaaGreat
open Go.Ev Go.RowKit
open Tryz
set_option maxHeartbeats 4000000 in
theorem agJ (a : Nat) (ha : a < 39402006196394479212279040100143613805079739270465446667948293404245721771497210611414266254884915640806627990306816) : ∃ v, v < 4002409555221667393417789825735904156556882819939007885332058136124031650490837864442687629129015664037894272559787 /\ (v * 39402006196394479212279040100143613805079739270465446667948293404245721771497210611414266254884915640806627990306816) % 4002409555221667393417789825735904156556882819939007885332058136124031650490837864442687629129015664037894272559787 = (a * 2708263910654730174793787626328176511836455197166317677006154293982164122222515399004018013397331347120527951271750) % 4002409555221667393417789825735904156556882819939007885332058136124031650490837864442687629129015664037894272559787 /\ Gives prog 60 [.t (.ag [.n 6 a])] (.ag [.n 6 v]) := by
 have hB : 2708263910654730174793787626328176511836455197166317677006154293982164122222515399004018013397331347120527951271750 = 17644856173732828998 % 18446744073709551616 + 18446744073709551616 * (754043588434789617 % 18446744073709551616 + 18446744073709551616 * (10224657059481499349 % 18446744073709551616 + 18446744073709551616 * (7488229067341005760 % 18446744073709551616 + 18446744073709551616 * (11130996698012816685 % 18446744073709551616 + 18446744073709551616 * (1267921511277847466 % 18446744073709551616 + 18446744073709551616 * (0)))))) := by simp only [Nat.reduceMod, Nat.reduceMul, Nat.reduceAdd]
 have hT0 : 0 = 0 % 18446744073709551616 + 18446744073709551616 * (0 % 18446744073709551616 + 18446744073709551616 * (0 % 18446744073709551616 + 18446744073709551616 * (0 % 18446744073709551616 + 18446744073709551616 * (0 % 18446744073709551616 + 18446744073709551616 * (0 % 18446744073709551616 + 18446744073709551616 * (0 % 18446744073709551616 + 18446744073709551616 * (0))))))) := by simp only [Nat.zero_mod, Nat.mul_zero, Nat.add_zero]
 obtain ⟨ar, au, kM⟩ := pH (a / 1) (17644856173732828998)
 obtain ⟨aw, ax, kN⟩ := pG (au) (0) 0 (by decide)
 obtain ⟨ab, ay, kO⟩ := pG (aw) (0) 0 (by decide)
 obtain ⟨az, aA, kP⟩ := pH (a / 1) (754043588434789617)
 obtain ⟨aB, aC, kQ⟩ := pG (aA) (0) 0 (by decide)
 obtain ⟨aD, aE, kR⟩ := pG (aB) (ar + ax + ay) 0 (by decide)
 obtain ⟨aF, aG, kS⟩ := pH (a / 1) (10224657059481499349)
 obtain ⟨aH, aI, kT⟩ := pG (aG) (0) 0 (by decide)
 obtain ⟨aJ, aK, kU⟩ := pG (aH) (az + aC + aE) 0 (by decide)
 obtain ⟨aL, aM, kV⟩ := pH (a / 1) (7488229067341005760)
 obtain ⟨aN, aO, kW⟩ := pG (aM) (0) 0 (by decide)
 obtain ⟨aP, aQ, kX⟩ := pG (aN) (aF + aI + aK) 0 (by decide)
 obtain ⟨aR, aS, kY⟩ := pH (a / 1) (11130996698012816685)
 obtain ⟨aT, aU, kZ⟩ := pG (aS) (0) 0 (by decide)
 obtain ⟨aV, aW, k6⟩ := pG (aT) (aL + aO + aQ) 0 (by decide)
 obtain ⟨aX, aY, k7⟩ := pH (a / 1) (1267921511277847466)
 obtain ⟨aZ, a9, k9⟩ := pG (aY) (0) 0 (by decide)
 obtain ⟨ba, bb, la⟩ := pG (aZ) (aR + aU + aW) 0 (by decide)
 obtain ⟨bc, be, lb⟩ := pG (0) (aX + a9 + bb) 0 (by decide)
 obtain ⟨bf, bg, lc⟩ := pH (ab * 9940570264628428797) (13402431016077863595)
 obtain ⟨ld, bh, lf⟩ := pG (bg) (ab) 0 (by decide)
 obtain ⟨bl, bm, lg⟩ := pH (ab * 9940570264628428797) (2210141511517208575)
 obtain ⟨bn, bo, lh⟩ := pG (bm) (aD) 0 (by decide)
 obtain ⟨bp, bq, ll⟩ := pG (bn) (bf + bh) 0 (by decide)
 obtain ⟨br, bu, lm⟩ := pH (ab * 9940570264628428797) (7435674573564081700)
 obtain ⟨bv, bx, ln⟩ := pG (bu) (aJ) 0 (by decide)
 obtain ⟨bz, bA, lq⟩ := pG (bv) (bl + bo + bq) 0 (by decide)
 obtain ⟨bB, bC, lr⟩ := pH (ab * 9940570264628428797) (7239337960414712511)
 obtain ⟨bD, bE, ls⟩ := pG (bC) (aP) 0 (by decide)
 obtain ⟨bF, bG, lu⟩ := pG (bD) (br + bx + bA) 0 (by decide)
 obtain ⟨bH, bI, lv⟩ := pH (ab * 9940570264628428797) (5412103778470702295)
 obtain ⟨bJ, bK, lw⟩ := pG (bI) (aV) 0 (by decide)
 obtain ⟨bL, bM, lx⟩ := pG (bJ) (bB + bE + bG) 0 (by decide)
 obtain ⟨bN, bO, ly⟩ := pH (ab * 9940570264628428797) (1873798617647539866)
 obtain ⟨bP, bQ, lz⟩ := pG (bO) (ba) 0 (by decide)
 obtain ⟨bR, bS, lA⟩ := pG (bP) (bH + bK + bM) 0 (by decide)
 obtain ⟨bT, bU, lB⟩ := pG (bc) (bN + bQ + bS) 0 (by decide)
 obtain ⟨T1, Q0, hT1, hE0, hL1, hQ0⟩ := sW hT0 hB (by omega) (by decide) kM kN kO kP kQ kR kS kT kU kV kW kX kY kZ k6 k7 k9 la lb lc lf lg lh ll lm ln lq lr ls lu lv lw lx ly lz lA lB
 obtain ⟨bV, bW, lC⟩ := pH (a / 18446744073709551616) (17644856173732828998)
 obtain ⟨bX, bY, lD⟩ := pG (bW) (bp) 0 (by decide)
 obtain ⟨ac, bZ, lE⟩ := pG (bX) (0) 0 (by decide)
 obtain ⟨b6, b7, lF⟩ := pH (a / 18446744073709551616) (754043588434789617)
 obtain ⟨b8, b9, lG⟩ := pG (b7) (bz) 0 (by decide)
 obtain ⟨ca, cb, lH⟩ := pG (b8) (bV + bY + bZ) 0 (by decide)
 obtain ⟨cc, cd, lI⟩ := pH (a / 18446744073709551616) (10224657059481499349)
 obtain ⟨ce, cf, lJ⟩ := pG (cd) (bF) 0 (by decide)
 obtain ⟨cg, ck, lK⟩ := pG (ce) (b6 + b9 + cb) 0 (by decide)
 obtain ⟨cl, cm, lL⟩ := pH (a / 18446744073709551616) (7488229067341005760)
 obtain ⟨co, cq, lM⟩ := pG (cm) (bL) 0 (by decide)
 obtain ⟨cr, ct, lN⟩ := pG (co) (cc + cf + ck) 0 (by decide)
 obtain ⟨cu, cv, lO⟩ := pH (a / 18446744073709551616) (11130996698012816685)
 obtain ⟨cx, cy, lP⟩ := pG (cv) (bR) 0 (by decide)
 obtain ⟨cz, cA, lQ⟩ := pG (cx) (cl + cq + ct) 0 (by decide)
 obtain ⟨cB, cC, lR⟩ := pH (a / 18446744073709551616) (1267921511277847466)
 obtain ⟨cD, cE, lS⟩ := pG (cC) (bT) 0 (by decide)
 obtain ⟨cF, cG, lT⟩ := pG (cD) (cu + cy + cA) 0 (by decide)
 obtain ⟨cH, cI, lU⟩ := pG (be + bU) (cB + cE + cG) 0 (by decide)
 obtain ⟨cJ, cK, lV⟩ := pH (ac * 9940570264628428797) (13402431016077863595)
 obtain ⟨lW, cL, lX⟩ := pG (cK) (ac) 0 (by decide)
 obtain ⟨cM, cN, lY⟩ := pH (ac * 9940570264628428797) (2210141511517208575)
 obtain ⟨cO, cP, lZ⟩ := pG (cN) (ca) 0 (by decide)
 obtain ⟨cQ, cR, l6⟩ := pG (cO) (cJ + cL) 0 (by decide)
 obtain ⟨cS, cT, l7⟩ := pH (ac * 9940570264628428797) (7435674573564081700)
 obtain ⟨cU, cV, l9⟩ := pG (cT) (cg) 0 (by decide)
 obtain ⟨cW, cX, ma⟩ := pG (cU) (cM + cP + cR) 0 (by decide)
 obtain ⟨cY, cZ, mb⟩ := pH (ac * 9940570264628428797) (7239337960414712511)
 obtain ⟨c9, da, mc⟩ := pG (cZ) (cr) 0 (by decide)
 obtain ⟨db, dc, me⟩ := pG (c9) (cS + cV + cX) 0 (by decide)
 obtain ⟨dd, de, mf⟩ := pH (ac * 9940570264628428797) (5412103778470702295)
 obtain ⟨df, dh, mg⟩ := pG (de) (cz) 0 (by decide)
 obtain ⟨di, dj, mh⟩ := pG (df) (cY + da + dc) 0 (by decide)
 obtain ⟨dk, dl, mi⟩ := pH (ac * 9940570264628428797) (1873798617647539866)
 obtain ⟨dm, dn, mj⟩ := pG (dl) (cF) 0 (by decide)
 obtain ⟨dp, dq, ml⟩ := pG (dm) (dd + dh + dj) 0 (by decide)
 obtain ⟨dr, dt, mm⟩ := pG (cH) (dk + dn + dq) 0 (by decide)
 obtain ⟨T2, Q1, hT2, hE1, hL2, hQ1⟩ := sW hT1 hB hL1 (by decide) lC lD lE lF lG lH lI lJ lK lL lM lN lO lP lQ lR lS lT lU lV lX lY lZ l6 l7 l9 ma mb mc me mf mg mh mi mj ml mm
 obtain ⟨du, dv, mo⟩ := pH (a / 340282366920938463463374607431768211456) (17644856173732828998)
 obtain ⟨dw, dx, mq⟩ := pG (dv) (cQ) 0 (by decide)
 obtain ⟨ad, dy, mr⟩ := pG (dw) (0) 0 (by decide)
 obtain ⟨dz, dD, ms⟩ := pH (a / 340282366920938463463374607431768211456) (754043588434789617)
 obtain ⟨dE, dF, mt⟩ := pG (dD) (cW) 0 (by decide)
 obtain ⟨dG, dH, mu⟩ := pG (dE) (du + dx + dy) 0 (by decide)
 obtain ⟨dI, dJ, mv⟩ := pH (a / 340282366920938463463374607431768211456) (10224657059481499349)
 obtain ⟨dK, dL, mw⟩ := pG (dJ) (db) 0 (by decide)
 obtain ⟨dN, dO, my⟩ := pG (dK) (dz + dF + dH) 0 (by decide)
 obtain ⟨dP, dQ, mz⟩ := pH (a / 340282366920938463463374607431768211456) (7488229067341005760)
 obtain ⟨dR, dT, mA⟩ := pG (dQ) (di) 0 (by decide)
 obtain ⟨dU, dV, mB⟩ := pG (dR) (dI + dL + dO) 0 (by decide)
 obtain ⟨dW, dX, mC⟩ := pH (a / 340282366920938463463374607431768211456) (11130996698012816685)
 obtain ⟨dY, dZ, mD⟩ := pG (dX) (dp) 0 (by decide)
 obtain ⟨d9, ea, mE⟩ := pG (dY) (dP + dT + dV) 0 (by decide)
 obtain ⟨eb, ed, mF⟩ := pH (a / 340282366920938463463374607431768211456) (1267921511277847466)
 obtain ⟨ee, ef, mG⟩ := pG (ed) (dr) 0 (by decide)
 obtain ⟨eg, ei, mH⟩ := pG (ee) (dW + dZ + ea) 0 (by decide)
 obtain ⟨ej, ek, mI⟩ := pG (cI + dt) (eb + ef + ei) 0 (by decide)
 obtain ⟨eo, ep, mJ⟩ := pH (ad * 9940570264628428797) (13402431016077863595)
 obtain ⟨mK, er, mL⟩ := pG (ep) (ad) 0 (by decide)
 obtain ⟨es, et, mM⟩ := pH (ad * 9940570264628428797) (2210141511517208575)
 obtain ⟨eu, ez, mN⟩ := pG (et) (dG) 0 (by decide)
 obtain ⟨eA, eB, mO⟩ := pG (eu) (eo + er) 0 (by decide)
 obtain ⟨eD, eE, mP⟩ := pH (ad * 9940570264628428797) (7435674573564081700)
 obtain ⟨eF, eG, mQ⟩ := pG (eE) (dN) 0 (by decide)
 obtain ⟨eH, eI, mR⟩ := pG (eF) (es + ez + eB) 0 (by decide)
 obtain ⟨eJ, eL, mS⟩ := pH (ad * 9940570264628428797) (7239337960414712511)
 obtain ⟨eM, eN, mT⟩ := pG (eL) (dU) 0 (by decide)
 obtain ⟨eO, eQ, mU⟩ := pG (eM) (eD + eG + eI) 0 (by decide)
 obtain ⟨eR, eS, mV⟩ := pH (ad * 9940570264628428797) (5412103778470702295)
 obtain ⟨eT, eU, mW⟩ := pG (eS) (d9) 0 (by decide)
 obtain ⟨eX, eY, mX⟩ := pG (eT) (eJ + eN + eQ) 0 (by decide)
 obtain ⟨eZ, e7, mY⟩ := pH (ad * 9940570264628428797) (1873798617647539866)
 obtain ⟨fa, fc, mZ⟩ := pG (e7) (eg) 0 (by decide)
 obtain ⟨fe, fg, m0⟩ := pG (fa) (eR + eU + eY) 0 (by decide)
 obtain ⟨fh, fi, m6⟩ := pG (ej) (eZ + fc + fg) 0 (by decide)
 obtain ⟨T3, Q2, hT3, hE2, hL3, hQ2⟩ := sW hT2 hB hL2 (by decide) mo mq mr ms mt mu mv mw my mz mA mB mC mD mE mF mG mH mI mJ mL mM mN mO mP mQ mR mS mT mU mV mW mX mY mZ m0 m6
 obtain ⟨fj, fk, m7⟩ := pH (a / 6277101735386680763835789423207666416102355444464034512896) (17644856173732828998)
 obtain ⟨fl, fm, m8⟩ := pG (fk) (eA) 0 (by decide)
 obtain ⟨ae, fo, m9⟩ := pG (fl) (0) 0 (by decide)
 obtain ⟨fq, ft, na⟩ := pH (a / 6277101735386680763835789423207666416102355444464034512896) (754043588434789617)
 obtain ⟨fu, fw, ne⟩ := pG (ft) (eH) 0 (by decide)
 obtain ⟨fx, fy, nf⟩ := pG (fu) (fj + fm + fo) 0 (by decide)
 obtain ⟨fA, fB, ng⟩ := pH (a / 6277101735386680763835789423207666416102355444464034512896) (10224657059481499349)
 obtain ⟨fC, fD, nh⟩ := pG (fB) (eO) 0 (by decide)
 obtain ⟨fE, fF, nk⟩ := pG (fC) (fq + fw + fy) 0 (by decide)
 obtain ⟨fG, fH, nl⟩ := pH (a / 6277101735386680763835789423207666416102355444464034512896) (7488229067341005760)
 obtain ⟨fI, fJ, np⟩ := pG (fH) (eX) 0 (by decide)
 obtain ⟨fK, fL, nq⟩ := pG (fI) (fA + fD + fF) 0 (by decide)
 obtain ⟨fM, fN, nr⟩ := pH (a / 6277101735386680763835789423207666416102355444464034512896) (11130996698012816685)
 obtain ⟨fO, fP, nt⟩ := pG (fN) (fe) 0 (by decide)
 obtain ⟨fQ, fR, nu⟩ := pG (fO) (fG + fJ + fL) 0 (by decide)
 obtain ⟨fS, fT, nv⟩ := pH (a / 6277101735386680763835789423207666416102355444464034512896) (1267921511277847466)
 obtain ⟨fU, fV, nw⟩ := pG (fT) (fh) 0 (by decide)
 obtain ⟨fW, fX, nx⟩ := pG (fU) (fM + fP + fR) 0 (by decide)
 obtain ⟨fY, fZ, ny⟩ := pG (ek + fi) (fS + fV + fX) 0 (by decide)
 obtain ⟨ga, gb, nz⟩ := pH (ae * 9940570264628428797) (13402431016077863595)
 obtain ⟨nA, gd, nB⟩ := pG (gb) (ae) 0 (by decide)
 obtain ⟨ge, gg, nC⟩ := pH (ae * 9940570264628428797) (2210141511517208575)
 obtain ⟨gh, gk, nD⟩ := pG (gg) (fx) 0 (by decide)
 obtain ⟨gl, gm, nE⟩ := pG (gh) (ga + gd) 0 (by decide)
 obtain ⟨gn, gp, nF⟩ := pH (ae * 9940570264628428797) (7435674573564081700)
 obtain ⟨gq, gt, nG⟩ := pG (gp) (fE) 0 (by decide)
 obtain ⟨gu, gv, nH⟩ := pG (gq) (ge + gk + gm) 0 (by decide)
 obtain ⟨gx, gy, nI⟩ := pH (ae * 9940570264628428797) (7239337960414712511)
 obtain ⟨gA, gD, nJ⟩ := pG (gy) (fK) 0 (by decide)
 obtain ⟨gF, gG, nK⟩ := pG (gA) (gn + gt + gv) 0 (by decide)
 obtain ⟨gH, gI, nL⟩ := pH (ae * 9940570264628428797) (5412103778470702295)
 obtain ⟨gJ, gL, nM⟩ := pG (gI) (fQ) 0 (by decide)
 obtain ⟨gM, gO, nN⟩ := pG (gJ) (gx + gD + gG) 0 (by decide)
 obtain ⟨gQ, gR, nO⟩ := pH (ae * 9940570264628428797) (1873798617647539866)
 obtain ⟨gT, gU, nP⟩ := pG (gR) (fW) 0 (by decide)
 obtain ⟨gX, gY, nQ⟩ := pG (gT) (gH + gL + gO) 0 (by decide)
 obtain ⟨gZ, hG, nR⟩ := pG (fY) (gQ + gU + gY) 0 (by decide)
 obtain ⟨T4, Q3, hT4, hE3, hL4, hQ3⟩ := sW hT3 hB hL3 (by decide) m7 m8 m9 na ne nf ng nh nk nl np nq nr nt nu nv nw nx ny nz nB nC nD nE nF nG nH nI nJ nK nL nM nN nO nP nQ nR
 obtain ⟨hH, hI, nS⟩ := pH (a / 115792089237316195423570985008687907853269984665640564039457584007913129639936) (17644856173732828998)
 obtain ⟨hJ, hM, nT⟩ := pG (hI) (gl) 0 (by decide)
 obtain ⟨af, hZ, nU⟩ := pG (hJ) (0) 0 (by decide)
 obtain ⟨ia, ib, nW⟩ := pH (a / 115792089237316195423570985008687907853269984665640564039457584007913129639936) (754043588434789617)
 obtain ⟨ic, ig, nZ⟩ := pG (ib) (gu) 0 (by decide)
 obtain ⟨ii, ij, n6⟩ := pG (ic) (hH + hM + hZ) 0 (by decide)
 obtain ⟨ik, il, n7⟩ := pH (a / 115792089237316195423570985008687907853269984665640564039457584007913129639936) (10224657059481499349)
 obtain ⟨im, io, n8⟩ := pG (il) (gF) 0 (by decide)
 obtain ⟨ip, iq, n9⟩ := pG (im) (ia + ig + ij) 0 (by decide)
 obtain ⟨ir, iu, oa⟩ := pH (a / 115792089237316195423570985008687907853269984665640564039457584007913129639936) (7488229067341005760)
 obtain ⟨iv, iw, oc⟩ := pG (iu) (gM) 0 (by decide)
 obtain ⟨ix, iy, od⟩ := pG (iv) (ik + io + iq) 0 (by decide)
 obtain ⟨iz, iA, oe⟩ := pH (a / 115792089237316195423570985008687907853269984665640564039457584007913129639936) (11130996698012816685)
 obtain ⟨iB, iC, og⟩ := pG (iA) (gX) 0 (by decide)
 obtain ⟨iD, iE, oh⟩ := pG (iB) (ir + iw + iy) 0 (by decide)
 obtain ⟨iF, iG, ol⟩ := pH (a / 115792089237316195423570985008687907853269984665640564039457584007913129639936) (1267921511277847466)
 obtain ⟨iH, iI, om⟩ := pG (iG) (gZ) 0 (by decide)
 obtain ⟨iJ, iK, oo⟩ := pG (iH) (iz + iC + iE) 0 (by decide)
 obtain ⟨iL, iM, oq⟩ := pG (fZ + hG) (iF + iI + iK) 0 (by decide)
 obtain ⟨iN, iO, ou⟩ := pH (af * 9940570264628428797) (13402431016077863595)
 obtain ⟨ow, iP, ox⟩ := pG (iO) (af) 0 (by decide)
 obtain ⟨iQ, iR, oy⟩ := pH (af * 9940570264628428797) (2210141511517208575)
 obtain ⟨iS, iT, oz⟩ := pG (iR) (ii) 0 (by decide)
 obtain ⟨iU, iV, oA⟩ := pG (iS) (iN + iP) 0 (by decide)
 obtain ⟨iW, iX, oB⟩ := pH (af * 9940570264628428797) (7435674573564081700)
 obtain ⟨iY, iZ, oC⟩ := pG (iX) (ip) 0 (by decide)
 obtain ⟨i6, i7, oD⟩ := pG (iY) (iQ + iT + iV) 0 (by decide)
 obtain ⟨i8, i9, oE⟩ := pH (af * 9940570264628428797) (7239337960414712511)
 obtain ⟨ja, jb, oF⟩ := pG (i9) (ix) 0 (by decide)
 obtain ⟨jc, jd, oG⟩ := pG (ja) (iW + iZ + i7) 0 (by decide)
 obtain ⟨je, jf, oH⟩ := pH (af * 9940570264628428797) (5412103778470702295)
 obtain ⟨jg, jh, oI⟩ := pG (jf) (iD) 0 (by decide)
 obtain ⟨ji, jj, oJ⟩ := pG (jg) (i8 + jb + jd) 0 (by decide)
 obtain ⟨jk, jl, oK⟩ := pH (af * 9940570264628428797) (1873798617647539866)
 obtain ⟨jm, jn, oM⟩ := pG (jl) (iJ) 0 (by decide)
 obtain ⟨jo, jp, oO⟩ := pG (jm) (je + jh + jj) 0 (by decide)
 obtain ⟨jq, jr, oP⟩ := pG (iL) (jk + jn + jp) 0 (by decide)
 obtain ⟨T5, Q4, hT5, hE4, hL5, hQ4⟩ := sW hT4 hB hL4 (by decide) nS nT nU nW nZ n6 n7 n8 n9 oa oc od oe og oh ol om oo oq ou ox oy oz oA oB oC oD oE oF oG oH oI oJ oK oM oO oP
 obtain ⟨js, jt, oQ⟩ := pH (a / 2135987035920910082395021706169552114602704522356652769947041607822219725780640550022962086936576) (17644856173732828998)
 obtain ⟨ju, jv, oR⟩ := pG (jt) (iU) 0 (by decide)
 obtain ⟨ah, jw, oS⟩ := pG (ju) (0) 0 (by decide)
 obtain ⟨jx, jy, oT⟩ := pH (a / 2135987035920910082395021706169552114602704522356652769947041607822219725780640550022962086936576) (754043588434789617)
 obtain ⟨jz, jA, oU⟩ := pG (jy) (i6) 0 (by decide)
 obtain ⟨jB, jC, oV⟩ := pG (jz) (js + jv + jw) 0 (by decide)
 obtain ⟨jD, jE, oW⟩ := pH (a / 2135987035920910082395021706169552114602704522356652769947041607822219725780640550022962086936576) (10224657059481499349)
 obtain ⟨jF, jG, oX⟩ := pG (jE) (jc) 0 (by decide)
 obtain ⟨jH, jI, oY⟩ := pG (jF) (jx + jA + jC) 0 (by decide)
 obtain ⟨jJ, jK, oZ⟩ := pH (a / 2135987035920910082395021706169552114602704522356652769947041607822219725780640550022962086936576) (7488229067341005760)
 obtain ⟨jL, jM, o6⟩ := pG (jK) (ji) 0 (by decide)
 obtain ⟨jN, jO, o7⟩ := pG (jL) (jD + jG + jI) 0 (by decide)
 obtain ⟨jP, jQ, o8⟩ := pH (a / 2135987035920910082395021706169552114602704522356652769947041607822219725780640550022962086936576) (11130996698012816685)
 obtain ⟨jR, jS, o9⟩ := pG (jQ) (jo) 0 (by decide)
 obtain ⟨jT, jU, pa⟩ := pG (jR) (jJ + jM + jO) 0 (by decide)
 obtain ⟨jV, jW, pb⟩ := pH (a / 2135987035920910082395021706169552114602704522356652769947041607822219725780640550022962086936576) (1267921511277847466)
 obtain ⟨jX, jY, pd⟩ := pG (jW) (jq) 0 (by decide)
 obtain ⟨jZ, j0, pf⟩ := pG (jX) (jP + jS + jU) 0 (by decide)
 obtain ⟨j7, ap, pg⟩ := pG (iM + jr) (jV + jY + j0) 0 (by decide)
 obtain ⟨j8, j9, ph⟩ := pH (ah * 9940570264628428797) (13402431016077863595)
 obtain ⟨pi, kg, pj⟩ := pG (j9) (ah) 0 (by decide)
 obtain ⟨ki, kj, pm⟩ := pH (ah * 9940570264628428797) (2210141511517208575)
 obtain ⟨kk, km, pn⟩ := pG (kj) (jB) 0 (by decide)
 obtain ⟨aj, kn, po⟩ := pG (kk) (j8 + kg) 0 (by decide)
 obtain ⟨ko, kp, pp⟩ := pH (ah * 9940570264628428797) (7435674573564081700)
 obtain ⟨kq, kt, pq⟩ := pG (kp) (jH) 0 (by decide)
 obtain ⟨ak, ku, pr⟩ := pG (kq) (ki + km + kn) 0 (by decide)
 obtain ⟨kv, kw, pt⟩ := pH (ah * 9940570264628428797) (7239337960414712511)
 obtain ⟨kx, kA, px⟩ := pG (kw) (jN) 0 (by decide)
 obtain ⟨al, kB, py⟩ := pG (kx) (ko + kt + ku) 0 (by decide)
 obtain ⟨kC, kD, pz⟩ := pH (ah * 9940570264628428797) (5412103778470702295)
 obtain ⟨kE, kF, pA⟩ := pG (kD) (jT) 0 (by decide)
 obtain ⟨am, kG, pB⟩ := pG (kE) (kv + kA + kB) 0 (by decide)
 obtain ⟨kH, kI, pC⟩ := pH (ah * 9940570264628428797) (1873798617647539866)
 obtain ⟨kJ, kK, pD⟩ := pG (kI) (jZ) 0 (by decide)
 obtain ⟨an, kL, pE⟩ := pG (kJ) (kC + kF + kG) 0 (by decide)
 obtain ⟨ao, aq, pF⟩ := pG (j7) (kH + kK + kL) 0 (by decide)
 obtain ⟨T6, Q5, hT6, hE5, hL6, hQ5⟩ := sW hT5 hB hL5 (by decide) oQ oR oS oT oU oV oW oX oY oZ o6 o7 o8 o9 pa pb pd pf pg ph pj pm pn po pp pq pr pt px py pz pA pB pC pD pE pF
 obtain ⟨d0, k0, q0⟩ := qB (aj) 13402431016077863595 0 (by decide)
 obtain ⟨d1, k1, q1⟩ := qB (ak) 2210141511517208575 k0 q0.2.2.2
 obtain ⟨d2, k2, q2⟩ := qB (al) 7435674573564081700 k1 q1.2.2.2
 obtain ⟨d3, k3, q3⟩ := qB (am) 7239337960414712511 k2 q2.2.2.2
 obtain ⟨d4, k4, q4⟩ := qB (an) 5412103778470702295 k3 q3.2.2.2
 obtain ⟨d5, k5, q5⟩ := qB (ao) 1873798617647539866 k4 q4.2.2.2
 obtain ⟨h1, h2, h3, h4⟩ := Mq q0 q1 q2 q3 q4 q5
 simp only [Nat.reduceMod, Nat.reduceMul, Nat.reduceAdd] at h1
 have hm : (ap + aq) % 18446744073709551616 = 0 /\ aj % 18446744073709551616 + 18446744073709551616 * (ak % 18446744073709551616 + 18446744073709551616 * (al % 18446744073709551616 + 18446744073709551616 * (am % 18446744073709551616 + 18446744073709551616 * (an % 18446744073709551616 + 18446744073709551616 * (ao % 18446744073709551616 + 18446744073709551616 * (0)))))) = T6 := by
  have e := hT6
  have l := hL6
  clear q0 q1 q2 q3 q4 q5 h1 h2 h4 hT1 hL1 hT2 hL2 hT3 hL3 hT4 hL4 hT5 hL5 hT6 hL6 hE0 hE1 hE2 hE3 hE4 hE5
  generalize aj % 18446744073709551616 = Z0 at *
  generalize ak % 18446744073709551616 = Z1 at *
  generalize al % 18446744073709551616 = Z2 at *
  generalize am % 18446744073709551616 = Z3 at *
  generalize an % 18446744073709551616 = Z4 at *
  generalize ao % 18446744073709551616 = Z5 at *
  generalize (ap + aq) % 18446744073709551616 = Zm at *
  omega
 rw [hm.2] at h1
 refine ⟨T6 % 4002409555221667393417789825735904156556882819939007885332058136124031650490837864442687629129015664037894272559787, Nat.mod_lt _ (by decide), aaZ (Fq a ha) hE0 hE1 hE2 hE3 hE4 hE5, ?_⟩
 have hC := ai (dS q5) (ai (dS q4) (ai (dS q3) (ai (dS q2) (ai (dS q1) (ai (dS q0) (ai (dB pF) (ai pE (ai (dA pD) (ai (dM pC) (ai pB (ai (dA pA) (ai (dM pz) (ai py (ai (dA px) (ai (dM pt) (ai pr (ai (dA pq) (ai (dM pp) (ai po (ai (dA pn) (ai (dM pm) (ai (dA pj) (ai (dM ph) (ai (dC pg) (ai pf (ai (dA pd) (ai pb (ai pa (ai (dA o9) (ai o8 (ai o7 (ai (dA o6) (ai oZ (ai oY (ai (dA oX) (ai oW (ai oV (ai (dA oU) (ai oT (ai oS (ai (dA oR) (ai oQ (ai (dB oP) (ai oO (ai (dA oM) (ai (dM oK) (ai oJ (ai (dA oI) (ai (dM oH) (ai oG (ai (dA oF) (ai (dM oE) (ai oD (ai (dA oC) (ai (dM oB) (ai oA (ai (dA oz) (ai (dM oy) (ai (dA ox) (ai (dM ou) (ai (dC oq) (ai oo (ai (dA om) (ai ol (ai oh (ai (dA og) (ai oe (ai od (ai (dA oc) (ai oa (ai n9 (ai (dA n8) (ai n7 (ai n6 (ai (dA nZ) (ai nW (ai nU (ai (dA nT) (ai nS (ai (dB nR) (ai nQ (ai (dA nP) (ai (dM nO) (ai nN (ai (dA nM) (ai (dM nL) (ai nK (ai (dA nJ) (ai (dM nI) (ai nH (ai (dA nG) (ai (dM nF) (ai nE (ai (dA nD) (ai (dM nC) (ai (dA nB) (ai (dM nz) (ai (dC ny) (ai nx (ai (dA nw) (ai nv (ai nu (ai (dA nt) (ai nr (ai nq (ai (dA np) (ai nl (ai nk (ai (dA nh) (ai ng (ai nf (ai (dA ne) (ai na (ai m9 (ai (dA m8) (ai m7 (ai (dB m6) (ai m0 (ai (dA mZ) (ai (dM mY) (ai mX (ai (dA mW) (ai (dM mV) (ai mU (ai (dA mT) (ai (dM mS) (ai mR (ai (dA mQ) (ai (dM mP) (ai mO (ai (dA mN) (ai (dM mM) (ai (dA mL) (ai (dM mJ) (ai (dC mI) (ai mH (ai (dA mG) (ai mF (ai mE (ai (dA mD) (ai mC (ai mB (ai (dA mA) (ai mz (ai my (ai (dA mw) (ai mv (ai mu (ai (dA mt) (ai ms (ai mr (ai (dA mq) (ai mo (ai (dB mm) (ai ml (ai (dA mj) (ai (dM mi) (ai mh (ai (dA mg) (ai (dM mf) (ai me (ai (dA mc) (ai (dM mb) (ai ma (ai (dA l9) (ai (dM l7) (ai l6 (ai (dA lZ) (ai (dM lY) (ai (dA lX) (ai (dM lV) (ai (dC lU) (ai lT (ai (dA lS) (ai lR (ai lQ (ai (dA lP) (ai lO (ai lN (ai (dA lM) (ai lL (ai lK (ai (dA lJ) (ai lI (ai lH (ai (dA lG) (ai lF (ai lE (ai (dA lD) (ai lC (ai (dB lB) (ai lA (ai (dA lz) (ai (dM ly) (ai lx (ai (dA lw) (ai (dM lv) (ai lu (ai (dA ls) (ai (dM lr) (ai lq (ai (dA ln) (ai (dM lm) (ai ll (ai (dA lh) (ai (dM lg) (ai (dA lf) (ai (dM lc) (ai lb (ai la (ai k9 (ai k7 (ai k6 (ai kZ (ai kY (ai kX (ai kW (ai kV (ai kU (ai kT (ai kS (ai kR (ai kQ (ai kP (ai kO (ai kN (ai kM tt0)))))))))))))))))))))))))))))))))))))))))))))))))))))))))))))))))))))))))))))))))))))))))))))))))))))))))))))))))))))))))))))))))))))))))))))))))))))))))))))))))))))))))))))))))))))))))))))))))))))))))))))))))))))))))))))))))))
 by_cases hk : k5 = 0
 ·have hv : T6 % 4002409555221667393417789825735904156556882819939007885332058136124031650490837864442687629129015664037894272559787 = d0 % 18446744073709551616 + 18446744073709551616 * (d1 % 18446744073709551616 + 18446744073709551616 * (d2 % 18446744073709551616 + 18446744073709551616 * (d3 % 18446744073709551616 + 18446744073709551616 * (d4 % 18446744073709551616 + 18446744073709551616 * (d5 % 18446744073709551616 + 18446744073709551616 * (0)))))) := by
   rw [h2]
   generalize d0 + 18446744073709551616 * (d1 + 18446744073709551616 * (d2 + 18446744073709551616 * (d3 + 18446744073709551616 * (d4 + 18446744073709551616 * (d5 + 18446744073709551616 * (0)))))) = D at *
   have l := hL6
   clear hC q0 q1 q2 q3 q4 q5 hm hT1 hL1 hT2 hL2 hT3 hL3 hT4 hL4 hT5 hL5 hT6 hL6 hE0 hE1 hE2 hE3 hE4 hE5
   omega
  rw [hv]
  refine C2 (l := [.n 1 d0, .n 1 d1, .n 1 d2, .n 1 d3, .n 1 d4, .n 1 d5]) ?_ rfl
  exact pI (P := prog) (env := [tm, ts, uJ, eRP]) ⟨rC, rD, sJ, wM, tt0⟩ func60 2 (oN [(39, ar, au), (49, aw, ax), (61, ab, ay), (85, az, aA), (95, aB, aC), (107, aD, aE), (131, aF, aG), (141, aH, aI), (153, aJ, aK), (177, aL, aM), (187, aN, aO), (199, aP, aQ), (223, aR, aS), (233, aT, aU), (245, aV, aW), (269, aX, aY), (279, aZ, a9), (291, ba, bb), (314, bc, be), (335, bf, bg), (344, ld, bh), (362, bl, bm), (372, bn, bo), (384, bp, bq), (410, br, bu), (420, bv, bx), (432, bz, bA), (458, bB, bC), (468, bD, bE), (480, bF, bG), (506, bH, bI), (516, bJ, bK), (528, bL, bM), (554, bN, bO), (564, bP, bQ), (576, bR, bS), (603, bT, bU), (640, bV, bW), (650, bX, bY), (662, ac, bZ), (686, b6, b7), (696, b8, b9), (708, ca, cb), (732, cc, cd), (742, ce, cf), (754, cg, ck), (778, cl, cm), (788, co, cq), (800, cr, ct), (824, cu, cv), (834, cx, cy), (846, cz, cA), (870, cB, cC), (880, cD, cE), (892, cF, cG), (915, cH, cI), (936, cJ, cK), (945, lW, cL), (963, cM, cN), (973, cO, cP), (985, cQ, cR), (1011, cS, cT), (1021, cU, cV), (1033, cW, cX), (1059, cY, cZ), (1069, c9, da), (1081, db, dc), (1107, dd, de), (1117, df, dh), (1129, di, dj), (1155, dk, dl), (1165, dm, dn), (1177, dp, dq), (1204, dr, dt), (1241, du, dv), (1251, dw, dx), (1263, ad, dy), (1287, dz, dD), (1297, dE, dF), (1309, dG, dH), (1333, dI, dJ), (1343, dK, dL), (1355, dN, dO), (1379, dP, dQ), (1389, dR, dT), (1401, dU, dV), (1425, dW, dX), (1435, dY, dZ), (1447, d9, ea), (1471, eb, ed), (1481, ee, ef), (1493, eg, ei), (1516, ej, ek), (1537, eo, ep), (1546, mK, er), (1564, es, et), (1574, eu, ez), (1586, eA, eB), (1612, eD, eE), (1622, eF, eG), (1634, eH, eI), (1660, eJ, eL), (1670, eM, eN), (1682, eO, eQ), (1708, eR, eS), (1718, eT, eU), (1730, eX, eY), (1756, eZ, e7), (1766, fa, fc), (1778, fe, fg), (1805, fh, fi), (1842, fj, fk), (1852, fl, fm), (1864, ae, fo), (1888, fq, ft), (1898, fu, fw), (1910, fx, fy), (1934, fA, fB), (1944, fC, fD), (1956, fE, fF), (1980, fG, fH), (1990, fI, fJ), (2002, fK, fL), (2026, fM, fN), (2036, fO, fP), (2048, fQ, fR), (2072, fS, fT), (2082, fU, fV), (2094, fW, fX), (2117, fY, fZ), (2138, ga, gb), (2147, nA, gd), (2165, ge, gg), (2175, gh, gk), (2187, gl, gm), (2213, gn, gp), (2223, gq, gt), (2235, gu, gv), (2261, gx, gy), (2271, gA, gD), (2283, gF, gG), (2309, gH, gI), (2319, gJ, gL), (2331, gM, gO), (2357, gQ, gR), (2367, gT, gU), (2379, gX, gY), (2406, gZ, hG), (2443, hH, hI), (2453, hJ, hM), (2465, af, hZ), (2489, ia, ib), (2499, ic, ig), (2511, ii, ij), (2535, ik, il), (2545, im, io), (2557, ip, iq), (2581, ir, iu), (2591, iv, iw), (2603, ix, iy), (2627, iz, iA), (2637, iB, iC), (2649, iD, iE), (2673, iF, iG), (2683, iH, iI), (2695, iJ, iK), (2718, iL, iM), (2739, iN, iO), (2748, ow, iP), (2766, iQ, iR), (2776, iS, iT), (2788, iU, iV), (2814, iW, iX), (2824, iY, iZ), (2836, i6, i7), (2862, i8, i9), (2872, ja, jb), (2884, jc, jd), (2910, je, jf), (2920, jg, jh), (2932, ji, jj), (2958, jk, jl), (2968, jm, jn), (2980, jo, jp), (3007, jq, jr), (3044, js, jt), (3054, ju, jv), (3066, ah, jw), (3090, jx, jy), (3100, jz, jA), (3112, jB, jC), (3136, jD, jE), (3146, jF, jG), (3158, jH, jI), (3182, jJ, jK), (3192, jL, jM), (3204, jN, jO), (3228, jP, jQ), (3238, jR, jS), (3250, jT, jU), (3274, jV, jW), (3284, jX, jY), (3296, jZ, j0), (3319, j7, ap), (3340, j8, j9), (3349, pi, kg), (3367, ki, kj), (3377, kk, km), (3389, aj, kn), (3415, ko, kp), (3425, kq, kt), (3437, ak, ku), (3463, kv, kw), (3473, kx, kA), (3485, al, kB), (3511, kC, kD), (3521, kE, kF), (3533, am, kG), (3559, kH, kI), (3569, kJ, kK), (3581, an, kL), (3608, ao, aq), (3653, d0, k0), (3675, d1, k1), (3697, d2, k2), (3719, d3, k3), (3741, d4, k4), (3763, d5, k5)] [(3775, 1)]) (by kernel_rfl) (ai (show decide (k5 % 18446744073709551616 <= ((ap / 1 + aq) / 1) % 18446744073709551616) = true by simp only [Nat.div_one, hk, hm.1]; rfl) hC)
 ·have hv : T6 % 4002409555221667393417789825735904156556882819939007885332058136124031650490837864442687629129015664037894272559787 = aj % 18446744073709551616 + 18446744073709551616 * (ak % 18446744073709551616 + 18446744073709551616 * (al % 18446744073709551616 + 18446744073709551616 * (am % 18446744073709551616 + 18446744073709551616 * (an % 18446744073709551616 + 18446744073709551616 * (ao % 18446744073709551616 + 18446744073709551616 * (0)))))) := by
   rw [hm.2]
   generalize d0 + 18446744073709551616 * (d1 + 18446744073709551616 * (d2 + 18446744073709551616 * (d3 + 18446744073709551616 * (d4 + 18446744073709551616 * (d5 + 18446744073709551616 * (0)))))) = D at *
   have l := hL6
   clear hC q0 q1 q2 q3 q4 q5 hm hT1 hL1 hT2 hL2 hT3 hL3 hT4 hL4 hT5 hL5 hT6 hL6 hE0 hE1 hE2 hE3 hE4 hE5
   omega
  rw [hv]
  refine C2 (l := [.n 1 aj, .n 1 ak, .n 1 al, .n 1 am, .n 1 an, .n 1 ao]) ?_ rfl
  exact pI (P := prog) (env := [tm, ts, uJ, eRP]) ⟨rC, rD, sJ, wM, tt0⟩ func60 2 (oN [(39, ar, au), (49, aw, ax), (61, ab, ay), (85, az, aA), (95, aB, aC), (107, aD, aE), (131, aF, aG), (141, aH, aI), (153, aJ, aK), (177, aL, aM), (187, aN, aO), (199, aP, aQ), (223, aR, aS), (233, aT, aU), (245, aV, aW), (269, aX, aY), (279, aZ, a9), (291, ba, bb), (314, bc, be), (335, bf, bg), (344, ld, bh), (362, bl, bm), (372, bn, bo), (384, bp, bq), (410, br, bu), (420, bv, bx), (432, bz, bA), (458, bB, bC), (468, bD, bE), (480, bF, bG), (506, bH, bI), (516, bJ, bK), (528, bL, bM), (554, bN, bO), (564, bP, bQ), (576, bR, bS), (603, bT, bU), (640, bV, bW), (650, bX, bY), (662, ac, bZ), (686, b6, b7), (696, b8, b9), (708, ca, cb), (732, cc, cd), (742, ce, cf), (754, cg, ck), (778, cl, cm), (788, co, cq), (800, cr, ct), (824, cu, cv), (834, cx, cy), (846, cz, cA), (870, cB, cC), (880, cD, cE), (892, cF, cG), (915, cH, cI), (936, cJ, cK), (945, lW, cL), (963, cM, cN), (973, cO, cP), (985, cQ, cR), (1011, cS, cT), (1021, cU, cV), (1033, cW, cX), (1059, cY, cZ), (1069, c9, da), (1081, db, dc), (1107, dd, de), (1117, df, dh), (1129, di, dj), (1155, dk, dl), (1165, dm, dn), (1177, dp, dq), (1204, dr, dt), (1241, du, dv), (1251, dw, dx), (1263, ad, dy), (1287, dz, dD), (1297, dE, dF), (1309, dG, dH), (1333, dI, dJ), (1343, dK, dL), (1355, dN, dO), (1379, dP, dQ), (1389, dR, dT), (1401, dU, dV), (1425, dW, dX), (1435, dY, dZ), (1447, d9, ea), (1471, eb, ed), (1481, ee, ef), (1493, eg, ei), (1516, ej, ek), (1537, eo, ep), (1546, mK, er), (1564, es, et), (1574, eu, ez), (1586, eA, eB), (1612, eD, eE), (1622, eF, eG), (1634, eH, eI), (1660, eJ, eL), (1670, eM, eN), (1682, eO, eQ), (1708, eR, eS), (1718, eT, eU), (1730, eX, eY), (1756, eZ, e7), (1766, fa, fc), (1778, fe, fg), (1805, fh, fi), (1842, fj, fk), (1852, fl, fm), (1864, ae, fo), (1888, fq, ft), (1898, fu, fw), (1910, fx, fy), (1934, fA, fB), (1944, fC, fD), (1956, fE, fF), (1980, fG, fH), (1990, fI, fJ), (2002, fK, fL), (2026, fM, fN), (2036, fO, fP), (2048, fQ, fR), (2072, fS, fT), (2082, fU, fV), (2094, fW, fX), (2117, fY, fZ), (2138, ga, gb), (2147, nA, gd), (2165, ge, gg), (2175, gh, gk), (2187, gl, gm), (2213, gn, gp), (2223, gq, gt), (2235, gu, gv), (2261, gx, gy), (2271, gA, gD), (2283, gF, gG), (2309, gH, gI), (2319, gJ, gL), (2331, gM, gO), (2357, gQ, gR), (2367, gT, gU), (2379, gX, gY), (2406, gZ, hG), (2443, hH, hI), (2453, hJ, hM), (2465, af, hZ), (2489, ia, ib), (2499, ic, ig), (2511, ii, ij), (2535, ik, il), (2545, im, io), (2557, ip, iq), (2581, ir, iu), (2591, iv, iw), (2603, ix, iy), (2627, iz, iA), (2637, iB, iC), (2649, iD, iE), (2673, iF, iG), (2683, iH, iI), (2695, iJ, iK), (2718, iL, iM), (2739, iN, iO), (2748, ow, iP), (2766, iQ, iR), (2776, iS, iT), (2788, iU, iV), (2814, iW, iX), (2824, iY, iZ), (2836, i6, i7), (2862, i8, i9), (2872, ja, jb), (2884, jc, jd), (2910, je, jf), (2920, jg, jh), (2932, ji, jj), (2958, jk, jl), (2968, jm, jn), (2980, jo, jp), (3007, jq, jr), (3044, js, jt), (3054, ju, jv), (3066, ah, jw), (3090, jx, jy), (3100, jz, jA), (3112, jB, jC), (3136, jD, jE), (3146, jF, jG), (3158, jH, jI), (3182, jJ, jK), (3192, jL, jM), (3204, jN, jO), (3228, jP, jQ), (3238, jR, jS), (3250, jT, jU), (3274, jV, jW), (3284, jX, jY), (3296, jZ, j0), (3319, j7, ap), (3340, j8, j9), (3349, pi, kg), (3367, ki, kj), (3377, kk, km), (3389, aj, kn), (3415, ko, kp), (3425, kq, kt), (3437, ak, ku), (3463, kv, kw), (3473, kx, kA), (3485, al, kB), (3511, kC, kD), (3521, kE, kF), (3533, am, kG), (3559, kH, kI), (3569, kJ, kK), (3581, an, kL), (3608, ao, aq), (3653, d0, k0), (3675, d1, k1), (3697, d2, k2), (3719, d3, k3), (3741, d4, k4), (3763, d5, k5)] [(3775, 2)]) (by kernel_rfl) (ai (show decide (k5 % 18446744073709551616 <= ((ap / 1 + aq) / 1) % 18446744073709551616) = false by have k1 : k5 = 1 := Nat.le_antisymm h3 (Nat.one_le_iff_ne_zero.2 hk); simp only [Nat.div_one, k1, hm.1]; rfl) hC)
end Go.Proofs.YtokjhbmmdmeafaaGreat
