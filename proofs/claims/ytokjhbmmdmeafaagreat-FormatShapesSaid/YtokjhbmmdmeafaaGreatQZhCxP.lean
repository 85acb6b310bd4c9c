/- Pruned: ZhCxP. -/
import Derived.Test.YtokjhbmmdmeafaaGreatQZhCoP
set_option linter.unusedSimpArgs false
set_option linter.unusedVariables false
namespace Go.Proofs.YtokjhbmmdmeafaaGreat
open Go.Ev Go.RowKit
open Tryz
set_option maxHeartbeats 4000000 in
theorem aa4 (a : Nat) (ha : a < 39402006196394479212279040100143613805079739270465446667948293404245721771497210611414266254884915640806627990306816) : ∃ v, v < 4002409555221667393417789825735904156556882819939007885332058136124031650490837864442687629129015664037894272559787 /\ (v * 39402006196394479212279040100143613805079739270465446667948293404245721771497210611414266254884915640806627990306816) % 4002409555221667393417789825735904156556882819939007885332058136124031650490837864442687629129015664037894272559787 = (a * 1) % 4002409555221667393417789825735904156556882819939007885332058136124031650490837864442687629129015664037894272559787 /\ Gives prog 66 [.t (.ag [.n 6 a])] (.ag [.n 6 v]) := by
 have hB : 1 = 1 % 18446744073709551616 + 18446744073709551616 * (0 % 18446744073709551616 + 18446744073709551616 * (0 % 18446744073709551616 + 18446744073709551616 * (0 % 18446744073709551616 + 18446744073709551616 * (0 % 18446744073709551616 + 18446744073709551616 * (0 % 18446744073709551616 + 18446744073709551616 * (0)))))) := by simp only [Nat.reduceMod, Nat.reduceMul, Nat.reduceAdd]
 have hT0 : 0 = 0 % 18446744073709551616 + 18446744073709551616 * (0 % 18446744073709551616 + 18446744073709551616 * (0 % 18446744073709551616 + 18446744073709551616 * (0 % 18446744073709551616 + 18446744073709551616 * (0 % 18446744073709551616 + 18446744073709551616 * (0 % 18446744073709551616 + 18446744073709551616 * (0 % 18446744073709551616 + 18446744073709551616 * (0))))))) := by simp only [Nat.zero_mod, Nat.mul_zero, Nat.add_zero]
 obtain ⟨ar, au, kx⟩ := pp (a / 1) (1)
 obtain ⟨aw, ax, kA⟩ := po (au) (0) 0 (by decide)
 obtain ⟨ab, ay, kB⟩ := po (aw) (0) 0 (by decide)
 obtain ⟨az, aA, kC⟩ := pp (a / 1) (0)
 obtain ⟨aB, aC, kD⟩ := po (aA) (0) 0 (by decide)
 obtain ⟨aD, aE, kE⟩ := po (aB) (ar + ax + ay) 0 (by decide)
 obtain ⟨aF, aG, kF⟩ := pp (a / 1) (0)
 obtain ⟨aH, aI, kG⟩ := po (aG) (0) 0 (by decide)
 obtain ⟨aJ, aK, kH⟩ := po (aH) (az + aC + aE) 0 (by decide)
 obtain ⟨aL, aM, kI⟩ := pp (a / 1) (0)
 obtain ⟨aN, aO, kJ⟩ := po (aM) (0) 0 (by decide)
 obtain ⟨aP, aQ, kK⟩ := po (aN) (aF + aI + aK) 0 (by decide)
 obtain ⟨aR, aS, kL⟩ := pp (a / 1) (0)
 obtain ⟨aT, aU, kM⟩ := po (aS) (0) 0 (by decide)
 obtain ⟨aV, aW, kN⟩ := po (aT) (aL + aO + aQ) 0 (by decide)
 obtain ⟨aX, aY, kO⟩ := pp (a / 1) (0)
 obtain ⟨aZ, a9, kP⟩ := po (aY) (0) 0 (by decide)
 obtain ⟨ba, bb, kQ⟩ := po (aZ) (aR + aU + aW) 0 (by decide)
 obtain ⟨bc, bd, kR⟩ := po (0) (aX + a9 + bb) 0 (by decide)
 obtain ⟨be, bf, kS⟩ := pp (ab * 9940570264628428797) (13402431016077863595)
 obtain ⟨kT, bg, kU⟩ := po (bf) (ab) 0 (by decide)
 obtain ⟨bh, bl, kV⟩ := pp (ab * 9940570264628428797) (2210141511517208575)
 obtain ⟨bm, bn, kW⟩ := po (bl) (aD) 0 (by decide)
 obtain ⟨bo, bp, kX⟩ := po (bm) (be + bg) 0 (by decide)
 obtain ⟨bq, br, kY⟩ := pp (ab * 9940570264628428797) (7435674573564081700)
 obtain ⟨bt, bu, kZ⟩ := po (br) (aJ) 0 (by decide)
 obtain ⟨bv, bx, k6⟩ := po (bt) (bh + bn + bp) 0 (by decide)
 obtain ⟨bz, bA, k7⟩ := pp (ab * 9940570264628428797) (7239337960414712511)
 obtain ⟨bB, bC, k8⟩ := po (bA) (aP) 0 (by decide)
 obtain ⟨bD, bE, k9⟩ := po (bB) (bq + bu + bx) 0 (by decide)
 obtain ⟨bF, bG, la⟩ := pp (ab * 9940570264628428797) (5412103778470702295)
 obtain ⟨bH, bI, lb⟩ := po (bG) (aV) 0 (by decide)
 obtain ⟨bJ, bK, lc⟩ := po (bH) (bz + bC + bE) 0 (by decide)
 obtain ⟨bL, bM, ld⟩ := pp (ab * 9940570264628428797) (1873798617647539866)
 obtain ⟨bN, bO, lf⟩ := po (bM) (ba) 0 (by decide)
 obtain ⟨bP, bQ, lg⟩ := po (bN) (bF + bI + bK) 0 (by decide)
 obtain ⟨bR, bS, lh⟩ := po (bc) (bL + bO + bQ) 0 (by decide)
 obtain ⟨T1, Q0, hT1, hE0, hL1, hQ0⟩ := sh hT0 hB (by omega) (by decide) kx kA kB kC kD kE kF kG kH kI kJ kK kL kM kN kO kP kQ kR kS kU kV kW kX kY kZ k6 k7 k8 k9 la lb lc ld lf lg lh
 obtain ⟨bT, bU, ll⟩ := pp (a / 18446744073709551616) (1)
 obtain ⟨bV, bW, lm⟩ := po (bU) (bo) 0 (by decide)
 obtain ⟨ac, bX, ln⟩ := po (bV) (0) 0 (by decide)
 obtain ⟨bY, bZ, lq⟩ := pp (a / 18446744073709551616) (0)
 obtain ⟨b6, b7, lr⟩ := po (bZ) (bv) 0 (by decide)
 obtain ⟨b8, b9, ls⟩ := po (b6) (bT + bW + bX) 0 (by decide)
 obtain ⟨ca, cb, lu⟩ := pp (a / 18446744073709551616) (0)
 obtain ⟨cc, cd, lv⟩ := po (cb) (bD) 0 (by decide)
 obtain ⟨ce, cf, lw⟩ := po (cc) (bY + b7 + b9) 0 (by decide)
 obtain ⟨cg, ck, lx⟩ := pp (a / 18446744073709551616) (0)
 obtain ⟨cl, cm, ly⟩ := po (ck) (bJ) 0 (by decide)
 obtain ⟨co, cq, lz⟩ := po (cl) (ca + cd + cf) 0 (by decide)
 obtain ⟨cr, ct, lA⟩ := pp (a / 18446744073709551616) (0)
 obtain ⟨cu, cv, lB⟩ := po (ct) (bP) 0 (by decide)
 obtain ⟨cx, cy, lC⟩ := po (cu) (cg + cm + cq) 0 (by decide)
 obtain ⟨cz, cA, lD⟩ := pp (a / 18446744073709551616) (0)
 obtain ⟨cB, cC, lE⟩ := po (cA) (bR) 0 (by decide)
 obtain ⟨cD, cE, lF⟩ := po (cB) (cr + cv + cy) 0 (by decide)
 obtain ⟨cF, cG, lG⟩ := po (bd + bS) (cz + cC + cE) 0 (by decide)
 obtain ⟨cH, cI, lH⟩ := pp (ac * 9940570264628428797) (13402431016077863595)
 obtain ⟨lI, cJ, lJ⟩ := po (cI) (ac) 0 (by decide)
 obtain ⟨cK, cL, lK⟩ := pp (ac * 9940570264628428797) (2210141511517208575)
 obtain ⟨cM, cN, lL⟩ := po (cL) (b8) 0 (by decide)
 obtain ⟨cO, cP, lM⟩ := po (cM) (cH + cJ) 0 (by decide)
 obtain ⟨cQ, cR, lN⟩ := pp (ac * 9940570264628428797) (7435674573564081700)
 obtain ⟨cS, cT, lO⟩ := po (cR) (ce) 0 (by decide)
 obtain ⟨cU, cV, lP⟩ := po (cS) (cK + cN + cP) 0 (by decide)
 obtain ⟨cW, cX, lQ⟩ := pp (ac * 9940570264628428797) (7239337960414712511)
 obtain ⟨cY, cZ, lR⟩ := po (cX) (co) 0 (by decide)
 obtain ⟨c9, da, lS⟩ := po (cY) (cQ + cT + cV) 0 (by decide)
 obtain ⟨db, dc, lT⟩ := pp (ac * 9940570264628428797) (5412103778470702295)
 obtain ⟨dd, de, lU⟩ := po (dc) (cx) 0 (by decide)
 obtain ⟨df, dg, lV⟩ := po (dd) (cW + cZ + da) 0 (by decide)
 obtain ⟨dh, di, lW⟩ := pp (ac * 9940570264628428797) (1873798617647539866)
 obtain ⟨dj, dk, lX⟩ := po (di) (cD) 0 (by decide)
 obtain ⟨dl, dm, lY⟩ := po (dj) (db + de + dg) 0 (by decide)
 obtain ⟨dn, dp, lZ⟩ := po (cF) (dh + dk + dm) 0 (by decide)
 obtain ⟨T2, Q1, hT2, hE1, hL2, hQ1⟩ := sh hT1 hB hL1 (by decide) ll lm ln lq lr ls lu lv lw lx ly lz lA lB lC lD lE lF lG lH lJ lK lL lM lN lO lP lQ lR lS lT lU lV lW lX lY lZ
 obtain ⟨dq, dr, l6⟩ := pp (a / 340282366920938463463374607431768211456) (1)
 obtain ⟨dt, du, l7⟩ := po (dr) (cO) 0 (by decide)
 obtain ⟨ad, dv, l9⟩ := po (dt) (0) 0 (by decide)
 obtain ⟨dw, dx, ma⟩ := pp (a / 340282366920938463463374607431768211456) (0)
 obtain ⟨dy, dz, mb⟩ := po (dx) (cU) 0 (by decide)
 obtain ⟨dD, dE, mc⟩ := po (dy) (dq + du + dv) 0 (by decide)
 obtain ⟨dF, dG, me⟩ := pp (a / 340282366920938463463374607431768211456) (0)
 obtain ⟨dH, dI, mf⟩ := po (dG) (c9) 0 (by decide)
 obtain ⟨dJ, dK, mg⟩ := po (dH) (dw + dz + dE) 0 (by decide)
 obtain ⟨dL, dN, mh⟩ := pp (a / 340282366920938463463374607431768211456) (0)
 obtain ⟨dO, dP, mi⟩ := po (dN) (df) 0 (by decide)
 obtain ⟨dQ, dR, mj⟩ := po (dO) (dF + dI + dK) 0 (by decide)
 obtain ⟨dT, dU, ml⟩ := pp (a / 340282366920938463463374607431768211456) (0)
 obtain ⟨dV, dW, mm⟩ := po (dU) (dl) 0 (by decide)
 obtain ⟨dX, dY, mo⟩ := po (dV) (dL + dP + dR) 0 (by decide)
 obtain ⟨dZ, d9, mq⟩ := pp (a / 340282366920938463463374607431768211456) (0)
 obtain ⟨ea, eb, mr⟩ := po (d9) (dn) 0 (by decide)
 obtain ⟨ed, ee, ms⟩ := po (ea) (dT + dW + dY) 0 (by decide)
 obtain ⟨ef, eg, mt⟩ := po (cG + dp) (dZ + eb + ee) 0 (by decide)
 obtain ⟨eh, ei, mu⟩ := pp (ad * 9940570264628428797) (13402431016077863595)
 obtain ⟨mv, ej, mw⟩ := po (ei) (ad) 0 (by decide)
 obtain ⟨ek, eo, my⟩ := pp (ad * 9940570264628428797) (2210141511517208575)
 obtain ⟨ep, er, mz⟩ := po (eo) (dD) 0 (by decide)
 obtain ⟨es, et, mA⟩ := po (ep) (eh + ej) 0 (by decide)
 obtain ⟨eu, ew, mB⟩ := pp (ad * 9940570264628428797) (7435674573564081700)
 obtain ⟨ez, eA, mC⟩ := po (ew) (dJ) 0 (by decide)
 obtain ⟨eB, eC, mD⟩ := po (ez) (ek + er + et) 0 (by decide)
 obtain ⟨eD, eE, mE⟩ := pp (ad * 9940570264628428797) (7239337960414712511)
 obtain ⟨eF, eG, mF⟩ := po (eE) (dQ) 0 (by decide)
 obtain ⟨eH, eI, mG⟩ := po (eF) (eu + eA + eC) 0 (by decide)
 obtain ⟨eJ, eK, mH⟩ := pp (ad * 9940570264628428797) (5412103778470702295)
 obtain ⟨eL, eM, mI⟩ := po (eK) (dX) 0 (by decide)
 obtain ⟨eN, eO, mJ⟩ := po (eL) (eD + eG + eI) 0 (by decide)
 obtain ⟨eP, eQ, mK⟩ := pp (ad * 9940570264628428797) (1873798617647539866)
 obtain ⟨eR, eS, mL⟩ := po (eQ) (ed) 0 (by decide)
 obtain ⟨eT, eU, mM⟩ := po (eR) (eJ + eM + eO) 0 (by decide)
 obtain ⟨eV, eW, mN⟩ := po (ef) (eP + eS + eU) 0 (by decide)
 obtain ⟨T3, Q2, hT3, hE2, hL3, hQ2⟩ := sh hT2 hB hL2 (by decide) l6 l7 l9 ma mb mc me mf mg mh mi mj ml mm mo mq mr ms mt mu mw my mz mA mB mC mD mE mF mG mH mI mJ mK mL mM mN
 obtain ⟨eX, eY, mO⟩ := pp (a / 6277101735386680763835789423207666416102355444464034512896) (1)
 obtain ⟨eZ, e7, mP⟩ := po (eY) (es) 0 (by decide)
 obtain ⟨ae, fa, mQ⟩ := po (eZ) (0) 0 (by decide)
 obtain ⟨fe, fg, mR⟩ := pp (a / 6277101735386680763835789423207666416102355444464034512896) (0)
 obtain ⟨fh, fi, mS⟩ := po (fg) (eB) 0 (by decide)
 obtain ⟨fk, fl, mT⟩ := po (fh) (eX + e7 + fa) 0 (by decide)
 obtain ⟨fm, fq, mU⟩ := pp (a / 6277101735386680763835789423207666416102355444464034512896) (0)
 obtain ⟨ft, fu, mV⟩ := po (fq) (eH) 0 (by decide)
 obtain ⟨fw, fx, mW⟩ := po (ft) (fe + fi + fl) 0 (by decide)
 obtain ⟨fy, fA, mX⟩ := pp (a / 6277101735386680763835789423207666416102355444464034512896) (0)
 obtain ⟨fB, fC, mY⟩ := po (fA) (eN) 0 (by decide)
 obtain ⟨fD, fE, mZ⟩ := po (fB) (fm + fu + fx) 0 (by decide)
 obtain ⟨fF, fG, m0⟩ := pp (a / 6277101735386680763835789423207666416102355444464034512896) (0)
 obtain ⟨fH, fI, m6⟩ := po (fG) (eT) 0 (by decide)
 obtain ⟨fJ, fK, m7⟩ := po (fH) (fy + fC + fE) 0 (by decide)
 obtain ⟨fL, fM, m8⟩ := pp (a / 6277101735386680763835789423207666416102355444464034512896) (0)
 obtain ⟨fN, fO, m9⟩ := po (fM) (eV) 0 (by decide)
 obtain ⟨fP, fQ, na⟩ := po (fN) (fF + fI + fK) 0 (by decide)
 obtain ⟨fR, fS, nc⟩ := po (eg + eW) (fL + fO + fQ) 0 (by decide)
 obtain ⟨fT, fU, ne⟩ := pp (ae * 9940570264628428797) (13402431016077863595)
 obtain ⟨nf, fV, ng⟩ := po (fU) (ae) 0 (by decide)
 obtain ⟨fW, fX, nh⟩ := pp (ae * 9940570264628428797) (2210141511517208575)
 obtain ⟨fY, fZ, nk⟩ := po (fX) (fk) 0 (by decide)
 obtain ⟨ga, gb, nl⟩ := po (fY) (fT + fV) 0 (by decide)
 obtain ⟨gc, gd, np⟩ := pp (ae * 9940570264628428797) (7435674573564081700)
 obtain ⟨ge, gg, nq⟩ := po (gd) (fw) 0 (by decide)
 obtain ⟨gh, gk, nr⟩ := po (ge) (fW + fZ + gb) 0 (by decide)
 obtain ⟨gl, gm, nt⟩ := pp (ae * 9940570264628428797) (7239337960414712511)
 obtain ⟨gn, go, nu⟩ := po (gm) (fD) 0 (by decide)
 obtain ⟨gp, gq, nv⟩ := po (gn) (gc + gg + gk) 0 (by decide)
 obtain ⟨gt, gu, nw⟩ := pp (ae * 9940570264628428797) (5412103778470702295)
 obtain ⟨gx, gy, nx⟩ := po (gu) (fJ) 0 (by decide)
 obtain ⟨gA, gB, ny⟩ := po (gx) (gl + go + gq) 0 (by decide)
 obtain ⟨gD, gF, nz⟩ := pp (ae * 9940570264628428797) (1873798617647539866)
 obtain ⟨gG, gH, nA⟩ := po (gF) (fP) 0 (by decide)
 obtain ⟨gI, gJ, nB⟩ := po (gG) (gt + gy + gB) 0 (by decide)
 obtain ⟨gK, gL, nD⟩ := po (fR) (gD + gH + gJ) 0 (by decide)
 obtain ⟨T4, Q3, hT4, hE3, hL4, hQ3⟩ := sh hT3 hB hL3 (by decide) mO mP mQ mR mS mT mU mV mW mX mY mZ m0 m6 m7 m8 m9 na nc ne ng nh nk nl np nq nr nt nu nv nw nx ny nz nA nB nD
 obtain ⟨gM, gO, nE⟩ := pp (a / 115792089237316195423570985008687907853269984665640564039457584007913129639936) (1)
 obtain ⟨gQ, gR, nF⟩ := po (gO) (ga) 0 (by decide)
 obtain ⟨af, gS, nG⟩ := po (gQ) (0) 0 (by decide)
 obtain ⟨gT, gU, nH⟩ := pp (a / 115792089237316195423570985008687907853269984665640564039457584007913129639936) (0)
 obtain ⟨gW, gX, nI⟩ := po (gU) (gh) 0 (by decide)
 obtain ⟨gY, gZ, nJ⟩ := po (gW) (gM + gR + gS) 0 (by decide)
 obtain ⟨hG, hH, nL⟩ := pp (a / 115792089237316195423570985008687907853269984665640564039457584007913129639936) (0)
 obtain ⟨hI, hJ, nM⟩ := po (hH) (gp) 0 (by decide)
 obtain ⟨hM, hO, nN⟩ := po (hI) (gT + gX + gZ) 0 (by decide)
 obtain ⟨hZ, ia, nO⟩ := pp (a / 115792089237316195423570985008687907853269984665640564039457584007913129639936) (0)
 obtain ⟨ib, ic, nQ⟩ := po (ia) (gA) 0 (by decide)
 obtain ⟨ig, ii, nR⟩ := po (ib) (hG + hJ + hO) 0 (by decide)
 obtain ⟨ij, ik, nS⟩ := pp (a / 115792089237316195423570985008687907853269984665640564039457584007913129639936) (0)
 obtain ⟨il, im, nT⟩ := po (ik) (gI) 0 (by decide)
 obtain ⟨io, ip, nU⟩ := po (il) (hZ + ic + ii) 0 (by decide)
 obtain ⟨iq, ir, nZ⟩ := pp (a / 115792089237316195423570985008687907853269984665640564039457584007913129639936) (0)
 obtain ⟨iu, iv, n6⟩ := po (ir) (gK) 0 (by decide)
 obtain ⟨iw, ix, n7⟩ := po (iu) (ij + im + ip) 0 (by decide)
 obtain ⟨iy, iz, n8⟩ := po (fS + gL) (iq + iv + ix) 0 (by decide)
 obtain ⟨iA, iB, n9⟩ := pp (af * 9940570264628428797) (13402431016077863595)
 obtain ⟨oa, iC, oc⟩ := po (iB) (af) 0 (by decide)
 obtain ⟨iD, iE, od⟩ := pp (af * 9940570264628428797) (2210141511517208575)
 obtain ⟨iF, iG, oe⟩ := po (iE) (gY) 0 (by decide)
 obtain ⟨iH, iI, of⟩ := po (iF) (iA + iC) 0 (by decide)
 obtain ⟨iJ, iK, og⟩ := pp (af * 9940570264628428797) (7435674573564081700)
 obtain ⟨iL, iM, oh⟩ := po (iK) (hM) 0 (by decide)
 obtain ⟨iN, iO, ol⟩ := po (iL) (iD + iG + iI) 0 (by decide)
 obtain ⟨iP, iQ, om⟩ := pp (af * 9940570264628428797) (7239337960414712511)
 obtain ⟨iR, iS, oo⟩ := po (iQ) (ig) 0 (by decide)
 obtain ⟨iT, iU, oq⟩ := po (iR) (iJ + iM + iO) 0 (by decide)
 obtain ⟨iV, iW, ou⟩ := pp (af * 9940570264628428797) (5412103778470702295)
 obtain ⟨iX, iY, ov⟩ := po (iW) (io) 0 (by decide)
 obtain ⟨iZ, i6, ow⟩ := po (iX) (iP + iS + iU) 0 (by decide)
 obtain ⟨i7, i8, ox⟩ := pp (af * 9940570264628428797) (1873798617647539866)
 obtain ⟨i9, ja, oy⟩ := po (i8) (iw) 0 (by decide)
 obtain ⟨jb, jc, oz⟩ := po (i9) (iV + iY + i6) 0 (by decide)
 obtain ⟨jd, je, oA⟩ := po (iy) (i7 + ja + jc) 0 (by decide)
 obtain ⟨T5, Q4, hT5, hE4, hL5, hQ4⟩ := sh hT4 hB hL4 (by decide) nE nF nG nH nI nJ nL nM nN nO nQ nR nS nT nU nZ n6 n7 n8 n9 oc od oe of og oh ol om oo oq ou ov ow ox oy oz oA
 obtain ⟨jf, jg, oB⟩ := pp (a / 2135987035920910082395021706169552114602704522356652769947041607822219725780640550022962086936576) (1)
 obtain ⟨jh, ji, oC⟩ := po (jg) (iH) 0 (by decide)
 obtain ⟨ah, jj, oD⟩ := po (jh) (0) 0 (by decide)
 obtain ⟨jk, jl, oE⟩ := pp (a / 2135987035920910082395021706169552114602704522356652769947041607822219725780640550022962086936576) (0)
 obtain ⟨jm, jn, oF⟩ := po (jl) (iN) 0 (by decide)
 obtain ⟨jo, jp, oG⟩ := po (jm) (jf + ji + jj) 0 (by decide)
 obtain ⟨jq, jr, oH⟩ := pp (a / 2135987035920910082395021706169552114602704522356652769947041607822219725780640550022962086936576) (0)
 obtain ⟨js, jt, oI⟩ := po (jr) (iT) 0 (by decide)
 obtain ⟨ju, jv, oJ⟩ := po (js) (jk + jn + jp) 0 (by decide)
 obtain ⟨jw, jx, oK⟩ := pp (a / 2135987035920910082395021706169552114602704522356652769947041607822219725780640550022962086936576) (0)
 obtain ⟨jy, jz, oM⟩ := po (jx) (iZ) 0 (by decide)
 obtain ⟨jA, jB, oO⟩ := po (jy) (jq + jt + jv) 0 (by decide)
 obtain ⟨jC, jD, oP⟩ := pp (a / 2135987035920910082395021706169552114602704522356652769947041607822219725780640550022962086936576) (0)
 obtain ⟨jE, jF, oQ⟩ := po (jD) (jb) 0 (by decide)
 obtain ⟨jG, jH, oR⟩ := po (jE) (jw + jz + jB) 0 (by decide)
 obtain ⟨jI, jJ, oS⟩ := pp (a / 2135987035920910082395021706169552114602704522356652769947041607822219725780640550022962086936576) (0)
 obtain ⟨jK, jL, oT⟩ := po (jJ) (jd) 0 (by decide)
 obtain ⟨jM, jN, oU⟩ := po (jK) (jC + jF + jH) 0 (by decide)
 obtain ⟨jO, ap, oV⟩ := po (iz + je) (jI + jL + jN) 0 (by decide)
 obtain ⟨jP, jQ, oW⟩ := pp (ah * 9940570264628428797) (13402431016077863595)
 obtain ⟨oX, jR, oY⟩ := po (jQ) (ah) 0 (by decide)
 obtain ⟨jS, jT, oZ⟩ := pp (ah * 9940570264628428797) (2210141511517208575)
 obtain ⟨jU, jV, o6⟩ := po (jT) (jo) 0 (by decide)
 obtain ⟨aj, jW, o7⟩ := po (jU) (jP + jR) 0 (by decide)
 obtain ⟨jX, jY, o8⟩ := pp (ah * 9940570264628428797) (7435674573564081700)
 obtain ⟨jZ, j0, o9⟩ := po (jY) (ju) 0 (by decide)
 obtain ⟨ak, j7, pa⟩ := po (jZ) (jS + jV + jW) 0 (by decide)
 obtain ⟨j8, j9, pb⟩ := pp (ah * 9940570264628428797) (7239337960414712511)
 obtain ⟨kg, ki, pc⟩ := po (j9) (jA) 0 (by decide)
 obtain ⟨al, kj, pd⟩ := po (kg) (jX + j0 + j7) 0 (by decide)
 obtain ⟨kk, km, pf⟩ := pp (ah * 9940570264628428797) (5412103778470702295)
 obtain ⟨kn, ko, pg⟩ := po (km) (jG) 0 (by decide)
 obtain ⟨am, kp, ph⟩ := po (kn) (j8 + ki + kj) 0 (by decide)
 obtain ⟨kq, kt, pi⟩ := pp (ah * 9940570264628428797) (1873798617647539866)
 obtain ⟨ku, kv, pj⟩ := po (kt) (jM) 0 (by decide)
 obtain ⟨an, kw, pm⟩ := po (ku) (kk + ko + kp) 0 (by decide)
 obtain ⟨ao, aq, pn⟩ := po (jO) (kq + kv + kw) 0 (by decide)
 obtain ⟨T6, Q5, hT6, hE5, hL6, hQ5⟩ := sh hT5 hB hL5 (by decide) oB oC oD oE oF oG oH oI oJ oK oM oO oP oQ oR oS oT oU oV oW oY oZ o6 o7 o8 o9 pa pb pc pd pf pg ph pi pj pm pn
 obtain ⟨d0, k0, q0⟩ := qC (aj) 13402431016077863595 0 (by decide)
 obtain ⟨d1, k1, q1⟩ := qC (ak) 2210141511517208575 k0 q0.2.2.2
 obtain ⟨d2, k2, q2⟩ := qC (al) 7435674573564081700 k1 q1.2.2.2
 obtain ⟨d3, k3, q3⟩ := qC (am) 7239337960414712511 k2 q2.2.2.2
 obtain ⟨d4, k4, q4⟩ := qC (an) 5412103778470702295 k3 q3.2.2.2
 obtain ⟨d5, k5, q5⟩ := qC (ao) 1873798617647539866 k4 q4.2.2.2
 obtain ⟨h1, h2, h3, h4⟩ := IL q0 q1 q2 q3 q4 q5
 simp only [Nat.reduceMod, Nat.reduceMul, Nat.reduceAdd] at h1
 have hm : (ap + aq) % 18446744073709551616 = 0 /\ aj % 18446744073709551616 + 18446744073709551616 * (ak % 18446744073709551616 + 18446744073709551616 * (al % 18446744073709551616 + 18446744073709551616 * (am % 18446744073709551616 + 18446744073709551616 * (an % 18446744073709551616 + 18446744073709551616 * (ao % 18446744073709551616 + 18446744073709551616 * (0)))))) = T6 := by
  have e := hT6
  have l := hL6
  clear q0 q1 q2 q3 q4 q5 h1 h2 h4 hT1 hL1 hT2 hL2 hT3 hL3 hT4 hL4 hT5 hL5 hT6 hL6 hE0 hE1 hE2 hE3 hE4 hE5
  generalize aj % 18446744073709551616 = Z0 at *
  generalize ak % 18446744073709551616 = Z1 at *
  generalize al % 18446744073709551616 = Z2 at *
  generalize am % 18446744073709551616 = Z3 at *
  generalize an % 18446744073709551616 = Z4 at *
  generalize ao % 18446744073709551616 = Z5 at *
  generalize (ap + aq) % 18446744073709551616 = Zm at *
  omega
 rw [hm.2] at h1
 refine ⟨T6 % 4002409555221667393417789825735904156556882819939007885332058136124031650490837864442687629129015664037894272559787, Nat.mod_lt _ (by decide), VM (Dp a ha) hE0 hE1 hE2 hE3 hE4 hE5, ?_⟩
 have hC := ai (dS q5) (ai (dS q4) (ai (dS q3) (ai (dS q2) (ai (dS q1) (ai (dS q0) (ai (dB pn) (ai pm (ai (dA pj) (ai (dM pi) (ai ph (ai (dA pg) (ai (dM pf) (ai pd (ai (dA pc) (ai (dM pb) (ai pa (ai (dA o9) (ai (dM o8) (ai o7 (ai (dA o6) (ai (dM oZ) (ai (dA oY) (ai (dM oW) (ai (dC oV) (ai oU (ai (dA oT) (ai oS (ai oR (ai (dA oQ) (ai oP (ai oO (ai (dA oM) (ai oK (ai oJ (ai (dA oI) (ai oH (ai oG (ai (dA oF) (ai oE (ai oD (ai (dA oC) (ai oB (ai (dB oA) (ai oz (ai (dA oy) (ai (dM ox) (ai ow (ai (dA ov) (ai (dM ou) (ai oq (ai (dA oo) (ai (dM om) (ai ol (ai (dA oh) (ai (dM og) (ai of (ai (dA oe) (ai (dM od) (ai (dA oc) (ai (dM n9) (ai (dC n8) (ai n7 (ai (dA n6) (ai nZ (ai nU (ai (dA nT) (ai nS (ai nR (ai (dA nQ) (ai nO (ai nN (ai (dA nM) (ai nL (ai nJ (ai (dA nI) (ai nH (ai nG (ai (dA nF) (ai nE (ai (dB nD) (ai nB (ai (dA nA) (ai (dM nz) (ai ny (ai (dA nx) (ai (dM nw) (ai nv (ai (dA nu) (ai (dM nt) (ai nr (ai (dA nq) (ai (dM np) (ai nl (ai (dA nk) (ai (dM nh) (ai (dA ng) (ai (dM ne) (ai (dC nc) (ai na (ai (dA m9) (ai m8 (ai m7 (ai (dA m6) (ai m0 (ai mZ (ai (dA mY) (ai mX (ai mW (ai (dA mV) (ai mU (ai mT (ai (dA mS) (ai mR (ai mQ (ai (dA mP) (ai mO (ai (dB mN) (ai mM (ai (dA mL) (ai (dM mK) (ai mJ (ai (dA mI) (ai (dM mH) (ai mG (ai (dA mF) (ai (dM mE) (ai mD (ai (dA mC) (ai (dM mB) (ai mA (ai (dA mz) (ai (dM my) (ai (dA mw) (ai (dM mu) (ai (dC mt) (ai ms (ai (dA mr) (ai mq (ai mo (ai (dA mm) (ai ml (ai mj (ai (dA mi) (ai mh (ai mg (ai (dA mf) (ai me (ai mc (ai (dA mb) (ai ma (ai l9 (ai (dA l7) (ai l6 (ai (dB lZ) (ai lY (ai (dA lX) (ai (dM lW) (ai lV (ai (dA lU) (ai (dM lT) (ai lS (ai (dA lR) (ai (dM lQ) (ai lP (ai (dA lO) (ai (dM lN) (ai lM (ai (dA lL) (ai (dM lK) (ai (dA lJ) (ai (dM lH) (ai (dC lG) (ai lF (ai (dA lE) (ai lD (ai lC (ai (dA lB) (ai lA (ai lz (ai (dA ly) (ai lx (ai lw (ai (dA lv) (ai lu (ai ls (ai (dA lr) (ai lq (ai ln (ai (dA lm) (ai ll (ai (dB lh) (ai lg (ai (dA lf) (ai (dM ld) (ai lc (ai (dA lb) (ai (dM la) (ai k9 (ai (dA k8) (ai (dM k7) (ai k6 (ai (dA kZ) (ai (dM kY) (ai kX (ai (dA kW) (ai (dM kV) (ai (dA kU) (ai (dM kS) (ai kR (ai kQ (ai kP (ai kO (ai kN (ai kM (ai kL (ai kK (ai kJ (ai kI (ai kH (ai kG (ai kF (ai kE (ai kD (ai kC (ai kB (ai kA (ai kx tt0)))))))))))))))))))))))))))))))))))))))))))))))))))))))))))))))))))))))))))))))))))))))))))))))))))))))))))))))))))))))))))))))))))))))))))))))))))))))))))))))))))))))))))))))))))))))))))))))))))))))))))))))))))))))))))))))))))
 by_cases hk : k5 = 0
 ·have hv : T6 % 4002409555221667393417789825735904156556882819939007885332058136124031650490837864442687629129015664037894272559787 = d0 % 18446744073709551616 + 18446744073709551616 * (d1 % 18446744073709551616 + 18446744073709551616 * (d2 % 18446744073709551616 + 18446744073709551616 * (d3 % 18446744073709551616 + 18446744073709551616 * (d4 % 18446744073709551616 + 18446744073709551616 * (d5 % 18446744073709551616 + 18446744073709551616 * (0)))))) := by
   rw [h2]
   generalize d0 + 18446744073709551616 * (d1 + 18446744073709551616 * (d2 + 18446744073709551616 * (d3 + 18446744073709551616 * (d4 + 18446744073709551616 * (d5 + 18446744073709551616 * (0)))))) = D at *
   have l := hL6
   clear hC q0 q1 q2 q3 q4 q5 hm hT1 hL1 hT2 hL2 hT3 hL3 hT4 hL4 hT5 hL5 hT6 hL6 hE0 hE1 hE2 hE3 hE4 hE5
   omega
  rw [hv]
  refine Av (l := [.n 1 d0, .n 1 d1, .n 1 d2, .n 1 d3, .n 1 d4, .n 1 d5]) ?_ rfl
  exact pq (P := prog) (env := [uw, uJ, xH, eRP]) ⟨ss, sr, uS, vl, tt0⟩ func66 2 (oN [(39, ar, au), (49, aw, ax), (61, ab, ay), (85, az, aA), (95, aB, aC), (107, aD, aE), (131, aF, aG), (141, aH, aI), (153, aJ, aK), (177, aL, aM), (187, aN, aO), (199, aP, aQ), (223, aR, aS), (233, aT, aU), (245, aV, aW), (269, aX, aY), (279, aZ, a9), (291, ba, bb), (314, bc, bd), (335, be, bf), (344, kT, bg), (362, bh, bl), (372, bm, bn), (384, bo, bp), (410, bq, br), (420, bt, bu), (432, bv, bx), (458, bz, bA), (468, bB, bC), (480, bD, bE), (506, bF, bG), (516, bH, bI), (528, bJ, bK), (554, bL, bM), (564, bN, bO), (576, bP, bQ), (603, bR, bS), (640, bT, bU), (650, bV, bW), (662, ac, bX), (686, bY, bZ), (696, b6, b7), (708, b8, b9), (732, ca, cb), (742, cc, cd), (754, ce, cf), (778, cg, ck), (788, cl, cm), (800, co, cq), (824, cr, ct), (834, cu, cv), (846, cx, cy), (870, cz, cA), (880, cB, cC), (892, cD, cE), (915, cF, cG), (936, cH, cI), (945, lI, cJ), (963, cK, cL), (973, cM, cN), (985, cO, cP), (1011, cQ, cR), (1021, cS, cT), (1033, cU, cV), (1059, cW, cX), (1069, cY, cZ), (1081, c9, da), (1107, db, dc), (1117, dd, de), (1129, df, dg), (1155, dh, di), (1165, dj, dk), (1177, dl, dm), (1204, dn, dp), (1241, dq, dr), (1251, dt, du), (1263, ad, dv), (1287, dw, dx), (1297, dy, dz), (1309, dD, dE), (1333, dF, dG), (1343, dH, dI), (1355, dJ, dK), (1379, dL, dN), (1389, dO, dP), (1401, dQ, dR), (1425, dT, dU), (1435, dV, dW), (1447, dX, dY), (1471, dZ, d9), (1481, ea, eb), (1493, ed, ee), (1516, ef, eg), (1537, eh, ei), (1546, mv, ej), (1564, ek, eo), (1574, ep, er), (1586, es, et), (1612, eu, ew), (1622, ez, eA), (1634, eB, eC), (1660, eD, eE), (1670, eF, eG), (1682, eH, eI), (1708, eJ, eK), (1718, eL, eM), (1730, eN, eO), (1756, eP, eQ), (1766, eR, eS), (1778, eT, eU), (1805, eV, eW), (1842, eX, eY), (1852, eZ, e7), (1864, ae, fa), (1888, fe, fg), (1898, fh, fi), (1910, fk, fl), (1934, fm, fq), (1944, ft, fu), (1956, fw, fx), (1980, fy, fA), (1990, fB, fC), (2002, fD, fE), (2026, fF, fG), (2036, fH, fI), (2048, fJ, fK), (2072, fL, fM), (2082, fN, fO), (2094, fP, fQ), (2117, fR, fS), (2138, fT, fU), (2147, nf, fV), (2165, fW, fX), (2175, fY, fZ), (2187, ga, gb), (2213, gc, gd), (2223, ge, gg), (2235, gh, gk), (2261, gl, gm), (2271, gn, go), (2283, gp, gq), (2309, gt, gu), (2319, gx, gy), (2331, gA, gB), (2357, gD, gF), (2367, gG, gH), (2379, gI, gJ), (2406, gK, gL), (2443, gM, gO), (2453, gQ, gR), (2465, af, gS), (2489, gT, gU), (2499, gW, gX), (2511, gY, gZ), (2535, hG, hH), (2545, hI, hJ), (2557, hM, hO), (2581, hZ, ia), (2591, ib, ic), (2603, ig, ii), (2627, ij, ik), (2637, il, im), (2649, io, ip), (2673, iq, ir), (2683, iu, iv), (2695, iw, ix), (2718, iy, iz), (2739, iA, iB), (2748, oa, iC), (2766, iD, iE), (2776, iF, iG), (2788, iH, iI), (2814, iJ, iK), (2824, iL, iM), (2836, iN, iO), (2862, iP, iQ), (2872, iR, iS), (2884, iT, iU), (2910, iV, iW), (2920, iX, iY), (2932, iZ, i6), (2958, i7, i8), (2968, i9, ja), (2980, jb, jc), (3007, jd, je), (3044, jf, jg), (3054, jh, ji), (3066, ah, jj), (3090, jk, jl), (3100, jm, jn), (3112, jo, jp), (3136, jq, jr), (3146, js, jt), (3158, ju, jv), (3182, jw, jx), (3192, jy, jz), (3204, jA, jB), (3228, jC, jD), (3238, jE, jF), (3250, jG, jH), (3274, jI, jJ), (3284, jK, jL), (3296, jM, jN), (3319, jO, ap), (3340, jP, jQ), (3349, oX, jR), (3367, jS, jT), (3377, jU, jV), (3389, aj, jW), (3415, jX, jY), (3425, jZ, j0), (3437, ak, j7), (3463, j8, j9), (3473, kg, ki), (3485, al, kj), (3511, kk, km), (3521, kn, ko), (3533, am, kp), (3559, kq, kt), (3569, ku, kv), (3581, an, kw), (3608, ao, aq), (3653, d0, k0), (3675, d1, k1), (3697, d2, k2), (3719, d3, k3), (3741, d4, k4), (3763, d5, k5)] [(3775, 1)]) (by kernel_rfl) (ai (show decide (k5 % 18446744073709551616 <= ((ap / 1 + aq) / 1) % 18446744073709551616) = true by simp only [Nat.div_one, hk, hm.1]; rfl) hC)
 ·have hv : T6 % 4002409555221667393417789825735904156556882819939007885332058136124031650490837864442687629129015664037894272559787 = aj % 18446744073709551616 + 18446744073709551616 * (ak % 18446744073709551616 + 18446744073709551616 * (al % 18446744073709551616 + 18446744073709551616 * (am % 18446744073709551616 + 18446744073709551616 * (an % 18446744073709551616 + 18446744073709551616 * (ao % 18446744073709551616 + 18446744073709551616 * (0)))))) := by
   rw [hm.2]
   generalize d0 + 18446744073709551616 * (d1 + 18446744073709551616 * (d2 + 18446744073709551616 * (d3 + 18446744073709551616 * (d4 + 18446744073709551616 * (d5 + 18446744073709551616 * (0)))))) = D at *
   have l := hL6
   clear hC q0 q1 q2 q3 q4 q5 hm hT1 hL1 hT2 hL2 hT3 hL3 hT4 hL4 hT5 hL5 hT6 hL6 hE0 hE1 hE2 hE3 hE4 hE5
   omega
  rw [hv]
  refine Av (l := [.n 1 aj, .n 1 ak, .n 1 al, .n 1 am, .n 1 an, .n 1 ao]) ?_ rfl
  exact pq (P := prog) (env := [uw, uJ, xH, eRP]) ⟨ss, sr, uS, vl, tt0⟩ func66 2 (oN [(39, ar, au), (49, aw, ax), (61, ab, ay), (85, az, aA), (95, aB, aC), (107, aD, aE), (131, aF, aG), (141, aH, aI), (153, aJ, aK), (177, aL, aM), (187, aN, aO), (199, aP, aQ), (223, aR, aS), (233, aT, aU), (245, aV, aW), (269, aX, aY), (279, aZ, a9), (291, ba, bb), (314, bc, bd), (335, be, bf), (344, kT, bg), (362, bh, bl), (372, bm, bn), (384, bo, bp), (410, bq, br), (420, bt, bu), (432, bv, bx), (458, bz, bA), (468, bB, bC), (480, bD, bE), (506, bF, bG), (516, bH, bI), (528, bJ, bK), (554, bL, bM), (564, bN, bO), (576, bP, bQ), (603, bR, bS), (640, bT, bU), (650, bV, bW), (662, ac, bX), (686, bY, bZ), (696, b6, b7), (708, b8, b9), (732, ca, cb), (742, cc, cd), (754, ce, cf), (778, cg, ck), (788, cl, cm), (800, co, cq), (824, cr, ct), (834, cu, cv), (846, cx, cy), (870, cz, cA), (880, cB, cC), (892, cD, cE), (915, cF, cG), (936, cH, cI), (945, lI, cJ), (963, cK, cL), (973, cM, cN), (985, cO, cP), (1011, cQ, cR), (1021, cS, cT), (1033, cU, cV), (1059, cW, cX), (1069, cY, cZ), (1081, c9, da), (1107, db, dc), (1117, dd, de), (1129, df, dg), (1155, dh, di), (1165, dj, dk), (1177, dl, dm), (1204, dn, dp), (1241, dq, dr), (1251, dt, du), (1263, ad, dv), (1287, dw, dx), (1297, dy, dz), (1309, dD, dE), (1333, dF, dG), (1343, dH, dI), (1355, dJ, dK), (1379, dL, dN), (1389, dO, dP), (1401, dQ, dR), (1425, dT, dU), (1435, dV, dW), (1447, dX, dY), (1471, dZ, d9), (1481, ea, eb), (1493, ed, ee), (1516, ef, eg), (1537, eh, ei), (1546, mv, ej), (1564, ek, eo), (1574, ep, er), (1586, es, et), (1612, eu, ew), (1622, ez, eA), (1634, eB, eC), (1660, eD, eE), (1670, eF, eG), (1682, eH, eI), (1708, eJ, eK), (1718, eL, eM), (1730, eN, eO), (1756, eP, eQ), (1766, eR, eS), (1778, eT, eU), (1805, eV, eW), (1842, eX, eY), (1852, eZ, e7), (1864, ae, fa), (1888, fe, fg), (1898, fh, fi), (1910, fk, fl), (1934, fm, fq), (1944, ft, fu), (1956, fw, fx), (1980, fy, fA), (1990, fB, fC), (2002, fD, fE), (2026, fF, fG), (2036, fH, fI), (2048, fJ, fK), (2072, fL, fM), (2082, fN, fO), (2094, fP, fQ), (2117, fR, fS), (2138, fT, fU), (2147, nf, fV), (2165, fW, fX), (2175, fY, fZ), (2187, ga, gb), (2213, gc, gd), (2223, ge, gg), (2235, gh, gk), (2261, gl, gm), (2271, gn, go), (2283, gp, gq), (2309, gt, gu), (2319, gx, gy), (2331, gA, gB), (2357, gD, gF), (2367, gG, gH), (2379, gI, gJ), (2406, gK, gL), (2443, gM, gO), (2453, gQ, gR), (2465, af, gS), (2489, gT, gU), (2499, gW, gX), (2511, gY, gZ), (2535, hG, hH), (2545, hI, hJ), (2557, hM, hO), (2581, hZ, ia), (2591, ib, ic), (2603, ig, ii), (2627, ij, ik), (2637, il, im), (2649, io, ip), (2673, iq, ir), (2683, iu, iv), (2695, iw, ix), (2718, iy, iz), (2739, iA, iB), (2748, oa, iC), (2766, iD, iE), (2776, iF, iG), (2788, iH, iI), (2814, iJ, iK), (2824, iL, iM), (2836, iN, iO), (2862, iP, iQ), (2872, iR, iS), (2884, iT, iU), (2910, iV, iW), (2920, iX, iY), (2932, iZ, i6), (2958, i7, i8), (2968, i9, ja), (2980, jb, jc), (3007, jd, je), (3044, jf, jg), (3054, jh, ji), (3066, ah, jj), (3090, jk, jl), (3100, jm, jn), (3112, jo, jp), (3136, jq, jr), (3146, js, jt), (3158, ju, jv), (3182, jw, jx), (3192, jy, jz), (3204, jA, jB), (3228, jC, jD), (3238, jE, jF), (3250, jG, jH), (3274, jI, jJ), (3284, jK, jL), (3296, jM, jN), (3319, jO, ap), (3340, jP, jQ), (3349, oX, jR), (3367, jS, jT), (3377, jU, jV), (3389, aj, jW), (3415, jX, jY), (3425, jZ, j0), (3437, ak, j7), (3463, j8, j9), (3473, kg, ki), (3485, al, kj), (3511, kk, km), (3521, kn, ko), (3533, am, kp), (3559, kq, kt), (3569, ku, kv), (3581, an, kw), (3608, ao, aq), (3653, d0, k0), (3675, d1, k1), (3697, d2, k2), (3719, d3, k3), (3741, d4, k4), (3763, d5, k5)] [(3775, 2)]) (by kernel_rfl) (ai (show decide (k5 % 18446744073709551616 <= ((ap / 1 + aq) / 1) % 18446744073709551616) = false by have k1 : k5 = 1 := Nat.le_antisymm h3 (Nat.one_le_iff_ne_zero.2 hk); simp only [Nat.div_one, k1, hm.1]; rfl) hC)
end Go.Proofs.YtokjhbmmdmeafaaGreat
