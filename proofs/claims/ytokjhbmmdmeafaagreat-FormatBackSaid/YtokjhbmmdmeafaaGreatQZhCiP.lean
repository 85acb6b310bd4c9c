/- Pruned: ZhCiP. -/
import Derived.Test.YtokjhbmmdmeafaaGreatQZhCoP
set_option linter.unusedSimpArgs false
set_option linter.unusedVariables false
namespace Go.Proofs.YtokjhbmmdmeafaaGreat
open Go.Ev Go.RowKit
open Tryz
set_option maxHeartbeats 4000000 in
theorem adJ (a : Nat) (ha : a < 39402006196394479212279040100143613805079739270465446667948293404245721771497210611414266254884915640806627990306816) : ∃ v, v < 4002409555221667393417789825735904156556882819939007885332058136124031650490837864442687629129015664037894272559787 /\ (v * 39402006196394479212279040100143613805079739270465446667948293404245721771497210611414266254884915640806627990306816) % 4002409555221667393417789825735904156556882819939007885332058136124031650490837864442687629129015664037894272559787 = (a * 2708263910654730174793787626328176511836455197166317677006154293982164122222515399004018013397331347120527951271750) % 4002409555221667393417789825735904156556882819939007885332058136124031650490837864442687629129015664037894272559787 /\ Gives prog 60 [.t (.ag [.n 6 a])] (.ag [.n 6 v]) := by
 have hB : 2708263910654730174793787626328176511836455197166317677006154293982164122222515399004018013397331347120527951271750 = 17644856173732828998 % 18446744073709551616 + 18446744073709551616 * (754043588434789617 % 18446744073709551616 + 18446744073709551616 * (10224657059481499349 % 18446744073709551616 + 18446744073709551616 * (7488229067341005760 % 18446744073709551616 + 18446744073709551616 * (11130996698012816685 % 18446744073709551616 + 18446744073709551616 * (1267921511277847466 % 18446744073709551616 + 18446744073709551616 * (0)))))) := by simp only [Nat.reduceMod, Nat.reduceMul, Nat.reduceAdd]
 have hT0 : 0 = 0 % 18446744073709551616 + 18446744073709551616 * (0 % 18446744073709551616 + 18446744073709551616 * (0 % 18446744073709551616 + 18446744073709551616 * (0 % 18446744073709551616 + 18446744073709551616 * (0 % 18446744073709551616 + 18446744073709551616 * (0 % 18446744073709551616 + 18446744073709551616 * (0 % 18446744073709551616 + 18446744073709551616 * (0))))))) := by simp only [Nat.zero_mod, Nat.mul_zero, Nat.add_zero]
 obtain ⟨au, aw, kU⟩ := pW (a / 1) (17644856173732828998)
 obtain ⟨ax, ay, kV⟩ := pV (aw) (0) 0 (by decide)
 obtain ⟨ab, az, kW⟩ := pV (ax) (0) 0 (by decide)
 obtain ⟨aB, aC, kX⟩ := pW (a / 1) (754043588434789617)
 obtain ⟨aD, aE, kY⟩ := pV (aC) (0) 0 (by decide)
 obtain ⟨aF, aG, kZ⟩ := pV (aD) (au + ay + az) 0 (by decide)
 obtain ⟨aH, aI, la⟩ := pW (a / 1) (10224657059481499349)
 obtain ⟨aJ, aK, lb⟩ := pV (aI) (0) 0 (by decide)
 obtain ⟨aL, aM, lc⟩ := pV (aJ) (aB + aE + aG) 0 (by decide)
 obtain ⟨aN, aO, ld⟩ := pW (a / 1) (7488229067341005760)
 obtain ⟨aP, aQ, lf⟩ := pV (aO) (0) 0 (by decide)
 obtain ⟨aR, aS, lg⟩ := pV (aP) (aH + aK + aM) 0 (by decide)
 obtain ⟨aT, aU, lh⟩ := pW (a / 1) (11130996698012816685)
 obtain ⟨aV, aW, ll⟩ := pV (aU) (0) 0 (by decide)
 obtain ⟨aX, aY, lm⟩ := pV (aV) (aN + aQ + aS) 0 (by decide)
 obtain ⟨aZ, ba, ln⟩ := pW (a / 1) (1267921511277847466)
 obtain ⟨bb, bc, lq⟩ := pV (ba) (0) 0 (by decide)
 obtain ⟨be, bf, lr⟩ := pV (bb) (aT + aW + aY) 0 (by decide)
 obtain ⟨bg, bh, ls⟩ := pV (0) (aZ + bc + bf) 0 (by decide)
 obtain ⟨bl, bm, lu⟩ := pW (ab * 9940570264628428797) (13402431016077863595)
 obtain ⟨lv, bn, lw⟩ := pV (bm) (ab) 0 (by decide)
 obtain ⟨bo, bp, lx⟩ := pW (ab * 9940570264628428797) (2210141511517208575)
 obtain ⟨bq, br, ly⟩ := pV (bp) (aF) 0 (by decide)
 obtain ⟨bu, bv, lz⟩ := pV (bq) (bl + bn) 0 (by decide)
 obtain ⟨bx, bz, lA⟩ := pW (ab * 9940570264628428797) (7435674573564081700)
 obtain ⟨bA, bB, lB⟩ := pV (bz) (aL) 0 (by decide)
 obtain ⟨bC, bD, lC⟩ := pV (bA) (bo + br + bv) 0 (by decide)
 obtain ⟨bE, bF, lD⟩ := pW (ab * 9940570264628428797) (7239337960414712511)
 obtain ⟨bG, bH, lE⟩ := pV (bF) (aR) 0 (by decide)
 obtain ⟨bI, bJ, lF⟩ := pV (bG) (bx + bB + bD) 0 (by decide)
 obtain ⟨bK, bL, lG⟩ := pW (ab * 9940570264628428797) (5412103778470702295)
 obtain ⟨bM, bN, lH⟩ := pV (bL) (aX) 0 (by decide)
 obtain ⟨bO, bP, lI⟩ := pV (bM) (bE + bH + bJ) 0 (by decide)
 obtain ⟨bQ, bR, lJ⟩ := pW (ab * 9940570264628428797) (1873798617647539866)
 obtain ⟨bS, bT, lK⟩ := pV (bR) (be) 0 (by decide)
 obtain ⟨bU, bV, lL⟩ := pV (bS) (bK + bN + bP) 0 (by decide)
 obtain ⟨bW, bX, lM⟩ := pV (bg) (bQ + bT + bV) 0 (by decide)
 obtain ⟨T1, Q0, hT1, hE0, hL1, hQ0⟩ := ti hT0 hB (by omega) (by decide) kU kV kW kX kY kZ la lb lc ld lf lg lh ll lm ln lq lr ls lu lw lx ly lz lA lB lC lD lE lF lG lH lI lJ lK lL lM
 obtain ⟨bY, bZ, lN⟩ := pW (a / 18446744073709551616) (17644856173732828998)
 obtain ⟨b9, ca, lO⟩ := pV (bZ) (bu) 0 (by decide)
 obtain ⟨ac, cb, lP⟩ := pV (b9) (0) 0 (by decide)
 obtain ⟨cc, cd, lQ⟩ := pW (a / 18446744073709551616) (754043588434789617)
 obtain ⟨ce, cf, lR⟩ := pV (cd) (bC) 0 (by decide)
 obtain ⟨cg, ck, lS⟩ := pV (ce) (bY + ca + cb) 0 (by decide)
 obtain ⟨cm, co, lT⟩ := pW (a / 18446744073709551616) (10224657059481499349)
 obtain ⟨cq, cr, lU⟩ := pV (co) (bI) 0 (by decide)
 obtain ⟨ct, cu, lV⟩ := pV (cq) (cc + cf + ck) 0 (by decide)
 obtain ⟨cv, cx, lW⟩ := pW (a / 18446744073709551616) (7488229067341005760)
 obtain ⟨cy, cz, lX⟩ := pV (cx) (bO) 0 (by decide)
 obtain ⟨cA, cB, lY⟩ := pV (cy) (cm + cr + cu) 0 (by decide)
 obtain ⟨cC, cD, lZ⟩ := pW (a / 18446744073709551616) (11130996698012816685)
 obtain ⟨cF, cG, l6⟩ := pV (cD) (bU) 0 (by decide)
 obtain ⟨cH, cI, l7⟩ := pV (cF) (cv + cz + cB) 0 (by decide)
 obtain ⟨cJ, cK, l8⟩ := pW (a / 18446744073709551616) (1267921511277847466)
 obtain ⟨cL, cM, l9⟩ := pV (cK) (bW) 0 (by decide)
 obtain ⟨cN, cO, ma⟩ := pV (cL) (cC + cG + cI) 0 (by decide)
 obtain ⟨cP, cQ, mb⟩ := pV (bh + bX) (cJ + cM + cO) 0 (by decide)
 obtain ⟨cR, cT, mc⟩ := pW (ac * 9940570264628428797) (13402431016077863595)
 obtain ⟨me, cU, mf⟩ := pV (cT) (ac) 0 (by decide)
 obtain ⟨cV, cW, mg⟩ := pW (ac * 9940570264628428797) (2210141511517208575)
 obtain ⟨cX, cY, mh⟩ := pV (cW) (cg) 0 (by decide)
 obtain ⟨cZ, da, mi⟩ := pV (cX) (cR + cU) 0 (by decide)
 obtain ⟨db, dc, mj⟩ := pW (ac * 9940570264628428797) (7435674573564081700)
 obtain ⟨dd, de, ml⟩ := pV (dc) (ct) 0 (by decide)
 obtain ⟨df, dh, mm⟩ := pV (dd) (cV + cY + da) 0 (by decide)
 obtain ⟨di, dj, mo⟩ := pW (ac * 9940570264628428797) (7239337960414712511)
 obtain ⟨dk, dl, mq⟩ := pV (dj) (cA) 0 (by decide)
 obtain ⟨dm, dn, mr⟩ := pV (dk) (db + de + dh) 0 (by decide)
 obtain ⟨dp, dq, ms⟩ := pW (ac * 9940570264628428797) (5412103778470702295)
 obtain ⟨dr, dt, mt⟩ := pV (dq) (cH) 0 (by decide)
 obtain ⟨du, dv, mu⟩ := pV (dr) (di + dl + dn) 0 (by decide)
 obtain ⟨dw, dx, mv⟩ := pW (ac * 9940570264628428797) (1873798617647539866)
 obtain ⟨dy, dz, mw⟩ := pV (dx) (cN) 0 (by decide)
 obtain ⟨dD, dE, my⟩ := pV (dy) (dp + dt + dv) 0 (by decide)
 obtain ⟨dF, dG, mz⟩ := pV (cP) (dw + dz + dE) 0 (by decide)
 obtain ⟨T2, Q1, hT2, hE1, hL2, hQ1⟩ := ti hT1 hB hL1 (by decide) lN lO lP lQ lR lS lT lU lV lW lX lY lZ l6 l7 l8 l9 ma mb mc mf mg mh mi mj ml mm mo mq mr ms mt mu mv mw my mz
 obtain ⟨dH, dI, mA⟩ := pW (a / 340282366920938463463374607431768211456) (17644856173732828998)
 obtain ⟨dJ, dK, mB⟩ := pV (dI) (cZ) 0 (by decide)
 obtain ⟨ae, dL, mC⟩ := pV (dJ) (0) 0 (by decide)
 obtain ⟨dN, dO, mD⟩ := pW (a / 340282366920938463463374607431768211456) (754043588434789617)
 obtain ⟨dP, dQ, mE⟩ := pV (dO) (df) 0 (by decide)
 obtain ⟨dR, dT, mF⟩ := pV (dP) (dH + dK + dL) 0 (by decide)
 obtain ⟨dU, dV, mG⟩ := pW (a / 340282366920938463463374607431768211456) (10224657059481499349)
 obtain ⟨dW, dX, mH⟩ := pV (dV) (dm) 0 (by decide)
 obtain ⟨dY, dZ, mI⟩ := pV (dW) (dN + dQ + dT) 0 (by decide)
 obtain ⟨d9, ea, mJ⟩ := pW (a / 340282366920938463463374607431768211456) (7488229067341005760)
 obtain ⟨ee, ef, mK⟩ := pV (ea) (du) 0 (by decide)
 obtain ⟨eh, ei, mL⟩ := pV (ee) (dU + dX + dZ) 0 (by decide)
 obtain ⟨ej, ek, mM⟩ := pW (a / 340282366920938463463374607431768211456) (11130996698012816685)
 obtain ⟨eo, er, mN⟩ := pV (ek) (dD) 0 (by decide)
 obtain ⟨eu, ew, mO⟩ := pV (eo) (d9 + ef + ei) 0 (by decide)
 obtain ⟨ez, eA, mP⟩ := pW (a / 340282366920938463463374607431768211456) (1267921511277847466)
 obtain ⟨eB, eC, mQ⟩ := pV (eA) (dF) 0 (by decide)
 obtain ⟨eD, eE, mR⟩ := pV (eB) (ej + er + ew) 0 (by decide)
 obtain ⟨eF, eG, mS⟩ := pV (cQ + dG) (ez + eC + eE) 0 (by decide)
 obtain ⟨eH, eI, mT⟩ := pW (ae * 9940570264628428797) (13402431016077863595)
 obtain ⟨mU, eJ, mV⟩ := pV (eI) (ae) 0 (by decide)
 obtain ⟨eK, eL, mW⟩ := pW (ae * 9940570264628428797) (2210141511517208575)
 obtain ⟨eM, eN, mX⟩ := pV (eL) (dR) 0 (by decide)
 obtain ⟨eO, eP, mY⟩ := pV (eM) (eH + eJ) 0 (by decide)
 obtain ⟨eQ, eR, mZ⟩ := pW (ae * 9940570264628428797) (7435674573564081700)
 obtain ⟨eS, eT, na⟩ := pV (eR) (dY) 0 (by decide)
 obtain ⟨eU, eV, ne⟩ := pV (eS) (eK + eN + eP) 0 (by decide)
 obtain ⟨eW, eX, nf⟩ := pW (ae * 9940570264628428797) (7239337960414712511)
 obtain ⟨eY, eZ, ng⟩ := pV (eX) (eh) 0 (by decide)
 obtain ⟨fa, fc, nh⟩ := pV (eY) (eQ + eT + eV) 0 (by decide)
 obtain ⟨fe, fg, nk⟩ := pW (ae * 9940570264628428797) (5412103778470702295)
 obtain ⟨fh, fi, nl⟩ := pV (fg) (eu) 0 (by decide)
 obtain ⟨fj, fk, np⟩ := pV (fh) (eW + eZ + fc) 0 (by decide)
 obtain ⟨fl, fm, nq⟩ := pW (ae * 9940570264628428797) (1873798617647539866)
 obtain ⟨fo, fq, nr⟩ := pV (fm) (eD) 0 (by decide)
 obtain ⟨ft, fu, nt⟩ := pV (fo) (fe + fi + fk) 0 (by decide)
 obtain ⟨fw, fx, nu⟩ := pV (eF) (fl + fq + fu) 0 (by decide)
 obtain ⟨T3, Q2, hT3, hE2, hL3, hQ2⟩ := ti hT2 hB hL2 (by decide) mA mB mC mD mE mF mG mH mI mJ mK mL mM mN mO mP mQ mR mS mT mV mW mX mY mZ na ne nf ng nh nk nl np nq nr nt nu
 obtain ⟨fy, fA, nv⟩ := pW (a / 6277101735386680763835789423207666416102355444464034512896) (17644856173732828998)
 obtain ⟨fB, fC, nw⟩ := pV (fA) (eO) 0 (by decide)
 obtain ⟨af, fD, nx⟩ := pV (fB) (0) 0 (by decide)
 obtain ⟨fE, fF, ny⟩ := pW (a / 6277101735386680763835789423207666416102355444464034512896) (754043588434789617)
 obtain ⟨fG, fH, nz⟩ := pV (fF) (eU) 0 (by decide)
 obtain ⟨fI, fJ, nA⟩ := pV (fG) (fy + fC + fD) 0 (by decide)
 obtain ⟨fK, fL, nB⟩ := pW (a / 6277101735386680763835789423207666416102355444464034512896) (10224657059481499349)
 obtain ⟨fM, fN, nC⟩ := pV (fL) (fa) 0 (by decide)
 obtain ⟨fO, fP, nD⟩ := pV (fM) (fE + fH + fJ) 0 (by decide)
 obtain ⟨fQ, fR, nE⟩ := pW (a / 6277101735386680763835789423207666416102355444464034512896) (7488229067341005760)
 obtain ⟨fS, fT, nF⟩ := pV (fR) (fj) 0 (by decide)
 obtain ⟨fU, fV, nG⟩ := pV (fS) (fK + fN + fP) 0 (by decide)
 obtain ⟨fW, fX, nH⟩ := pW (a / 6277101735386680763835789423207666416102355444464034512896) (11130996698012816685)
 obtain ⟨fY, fZ, nI⟩ := pV (fX) (ft) 0 (by decide)
 obtain ⟨ga, gb, nJ⟩ := pV (fY) (fQ + fT + fV) 0 (by decide)
 obtain ⟨gd, ge, nK⟩ := pW (a / 6277101735386680763835789423207666416102355444464034512896) (1267921511277847466)
 obtain ⟨gg, gh, nL⟩ := pV (ge) (fw) 0 (by decide)
 obtain ⟨gk, gl, nM⟩ := pV (gg) (fW + fZ + gb) 0 (by decide)
 obtain ⟨gm, gn, nN⟩ := pV (eG + fx) (gd + gh + gl) 0 (by decide)
 obtain ⟨gp, gq, nO⟩ := pW (af * 9940570264628428797) (13402431016077863595)
 obtain ⟨nP, gt, nQ⟩ := pV (gq) (af) 0 (by decide)
 obtain ⟨gu, gv, nR⟩ := pW (af * 9940570264628428797) (2210141511517208575)
 obtain ⟨gx, gy, nS⟩ := pV (gv) (fI) 0 (by decide)
 obtain ⟨gA, gD, nT⟩ := pV (gx) (gp + gt) 0 (by decide)
 obtain ⟨gF, gG, nU⟩ := pW (af * 9940570264628428797) (7435674573564081700)
 obtain ⟨gH, gI, nW⟩ := pV (gG) (fO) 0 (by decide)
 obtain ⟨gJ, gK, nZ⟩ := pV (gH) (gu + gy + gD) 0 (by decide)
 obtain ⟨gL, gM, n6⟩ := pW (af * 9940570264628428797) (7239337960414712511)
 obtain ⟨gO, gQ, n7⟩ := pV (gM) (fU) 0 (by decide)
 obtain ⟨gR, gT, n8⟩ := pV (gO) (gF + gI + gK) 0 (by decide)
 obtain ⟨gU, gW, n9⟩ := pW (af * 9940570264628428797) (5412103778470702295)
 obtain ⟨gX, gY, oa⟩ := pV (gW) (ga) 0 (by decide)
 obtain ⟨gZ, hE, oc⟩ := pV (gX) (gL + gQ + gT) 0 (by decide)
 obtain ⟨hG, hH, od⟩ := pW (af * 9940570264628428797) (1873798617647539866)
 obtain ⟨hI, hJ, oe⟩ := pV (hH) (gk) 0 (by decide)
 obtain ⟨hM, hP, og⟩ := pV (hI) (gU + gY + hE) 0 (by decide)
 obtain ⟨hZ, ia, oh⟩ := pV (gm) (hG + hJ + hP) 0 (by decide)
 obtain ⟨T4, Q3, hT4, hE3, hL4, hQ3⟩ := ti hT3 hB hL3 (by decide) nv nw nx ny nz nA nB nC nD nE nF nG nH nI nJ nK nL nM nN nO nQ nR nS nT nU nW nZ n6 n7 n8 n9 oa oc od oe og oh
 obtain ⟨ib, ic, om⟩ := pW (a / 115792089237316195423570985008687907853269984665640564039457584007913129639936) (17644856173732828998)
 obtain ⟨ig, ii, oo⟩ := pV (ic) (gA) 0 (by decide)
 obtain ⟨ah, ij, oq⟩ := pV (ig) (0) 0 (by decide)
 obtain ⟨ik, il, ou⟩ := pW (a / 115792089237316195423570985008687907853269984665640564039457584007913129639936) (754043588434789617)
 obtain ⟨im, io, ow⟩ := pV (il) (gJ) 0 (by decide)
 obtain ⟨ip, iq, ox⟩ := pV (im) (ib + ii + ij) 0 (by decide)
 obtain ⟨ir, iu, oy⟩ := pW (a / 115792089237316195423570985008687907853269984665640564039457584007913129639936) (10224657059481499349)
 obtain ⟨iv, iw, oz⟩ := pV (iu) (gR) 0 (by decide)
 obtain ⟨ix, iy, oA⟩ := pV (iv) (ik + io + iq) 0 (by decide)
 obtain ⟨iz, iA, oB⟩ := pW (a / 115792089237316195423570985008687907853269984665640564039457584007913129639936) (7488229067341005760)
 obtain ⟨iB, iC, oC⟩ := pV (iA) (gZ) 0 (by decide)
 obtain ⟨iD, iE, oD⟩ := pV (iB) (ir + iw + iy) 0 (by decide)
 obtain ⟨iF, iG, oE⟩ := pW (a / 115792089237316195423570985008687907853269984665640564039457584007913129639936) (11130996698012816685)
 obtain ⟨iH, iI, oF⟩ := pV (iG) (hM) 0 (by decide)
 obtain ⟨iJ, iK, oG⟩ := pV (iH) (iz + iC + iE) 0 (by decide)
 obtain ⟨iL, iM, oH⟩ := pW (a / 115792089237316195423570985008687907853269984665640564039457584007913129639936) (1267921511277847466)
 obtain ⟨iN, iO, oI⟩ := pV (iM) (hZ) 0 (by decide)
 obtain ⟨iP, iQ, oJ⟩ := pV (iN) (iF + iI + iK) 0 (by decide)
 obtain ⟨iR, iS, oK⟩ := pV (gn + ia) (iL + iO + iQ) 0 (by decide)
 obtain ⟨iT, iU, oM⟩ := pW (ah * 9940570264628428797) (13402431016077863595)
 obtain ⟨oO, iV, oP⟩ := pV (iU) (ah) 0 (by decide)
 obtain ⟨iW, iX, oQ⟩ := pW (ah * 9940570264628428797) (2210141511517208575)
 obtain ⟨iY, iZ, oR⟩ := pV (iX) (ip) 0 (by decide)
 obtain ⟨i6, i7, oS⟩ := pV (iY) (iT + iV) 0 (by decide)
 obtain ⟨i8, i9, oT⟩ := pW (ah * 9940570264628428797) (7435674573564081700)
 obtain ⟨ja, jb, oU⟩ := pV (i9) (ix) 0 (by decide)
 obtain ⟨jc, jd, oV⟩ := pV (ja) (iW + iZ + i7) 0 (by decide)
 obtain ⟨je, jf, oW⟩ := pW (ah * 9940570264628428797) (7239337960414712511)
 obtain ⟨jg, jh, oX⟩ := pV (jf) (iD) 0 (by decide)
 obtain ⟨ji, jj, oY⟩ := pV (jg) (i8 + jb + jd) 0 (by decide)
 obtain ⟨jk, jl, oZ⟩ := pW (ah * 9940570264628428797) (5412103778470702295)
 obtain ⟨jm, jn, o6⟩ := pV (jl) (iJ) 0 (by decide)
 obtain ⟨jo, jp, o7⟩ := pV (jm) (je + jh + jj) 0 (by decide)
 obtain ⟨jq, jr, o8⟩ := pW (ah * 9940570264628428797) (1873798617647539866)
 obtain ⟨js, jt, o9⟩ := pV (jr) (iP) 0 (by decide)
 obtain ⟨ju, jv, pa⟩ := pV (js) (jk + jn + jp) 0 (by decide)
 obtain ⟨jw, jx, pb⟩ := pV (iR) (jq + jt + jv) 0 (by decide)
 obtain ⟨T5, Q4, hT5, hE4, hL5, hQ4⟩ := ti hT4 hB hL4 (by decide) om oo oq ou ow ox oy oz oA oB oC oD oE oF oG oH oI oJ oK oM oP oQ oR oS oT oU oV oW oX oY oZ o6 o7 o8 o9 pa pb
 obtain ⟨jy, jz, pd⟩ := pW (a / 2135987035920910082395021706169552114602704522356652769947041607822219725780640550022962086936576) (17644856173732828998)
 obtain ⟨jA, jB, pf⟩ := pV (jz) (i6) 0 (by decide)
 obtain ⟨aj, jC, pg⟩ := pV (jA) (0) 0 (by decide)
 obtain ⟨jD, jE, ph⟩ := pW (a / 2135987035920910082395021706169552114602704522356652769947041607822219725780640550022962086936576) (754043588434789617)
 obtain ⟨jF, jG, pi⟩ := pV (jE) (jc) 0 (by decide)
 obtain ⟨jH, jI, pj⟩ := pV (jF) (jy + jB + jC) 0 (by decide)
 obtain ⟨jJ, jK, pm⟩ := pW (a / 2135987035920910082395021706169552114602704522356652769947041607822219725780640550022962086936576) (10224657059481499349)
 obtain ⟨jL, jM, pn⟩ := pV (jK) (ji) 0 (by decide)
 obtain ⟨jN, jO, po⟩ := pV (jL) (jD + jG + jI) 0 (by decide)
 obtain ⟨jP, jQ, pp⟩ := pW (a / 2135987035920910082395021706169552114602704522356652769947041607822219725780640550022962086936576) (7488229067341005760)
 obtain ⟨jR, jS, pq⟩ := pV (jQ) (jo) 0 (by decide)
 obtain ⟨jT, jU, pt⟩ := pV (jR) (jJ + jM + jO) 0 (by decide)
 obtain ⟨jV, jW, pu⟩ := pW (a / 2135987035920910082395021706169552114602704522356652769947041607822219725780640550022962086936576) (11130996698012816685)
 obtain ⟨jX, jY, pv⟩ := pV (jW) (ju) 0 (by decide)
 obtain ⟨jZ, j0, px⟩ := pV (jX) (jP + jS + jU) 0 (by decide)
 obtain ⟨j7, j8, py⟩ := pW (a / 2135987035920910082395021706169552114602704522356652769947041607822219725780640550022962086936576) (1267921511277847466)
 obtain ⟨j9, kg, pz⟩ := pV (j8) (jw) 0 (by decide)
 obtain ⟨ki, kj, pA⟩ := pV (j9) (jV + jY + j0) 0 (by decide)
 obtain ⟨km, aq, pB⟩ := pV (iS + jx) (j7 + kg + kj) 0 (by decide)
 obtain ⟨kn, ko, pC⟩ := pW (aj * 9940570264628428797) (13402431016077863595)
 obtain ⟨pD, kp, pE⟩ := pV (ko) (aj) 0 (by decide)
 obtain ⟨kq, kt, pF⟩ := pW (aj * 9940570264628428797) (2210141511517208575)
 obtain ⟨ku, kv, pG⟩ := pV (kt) (jH) 0 (by decide)
 obtain ⟨ak, kw, pH⟩ := pV (ku) (kn + kp) 0 (by decide)
 obtain ⟨kx, kA, pI⟩ := pW (aj * 9940570264628428797) (7435674573564081700)
 obtain ⟨kB, kC, pJ⟩ := pV (kA) (jN) 0 (by decide)
 obtain ⟨al, kD, pK⟩ := pV (kB) (kq + kv + kw) 0 (by decide)
 obtain ⟨kE, kF, pL⟩ := pW (aj * 9940570264628428797) (7239337960414712511)
 obtain ⟨kG, kH, pM⟩ := pV (kF) (jT) 0 (by decide)
 obtain ⟨am, kI, pN⟩ := pV (kG) (kx + kC + kD) 0 (by decide)
 obtain ⟨kJ, kK, pO⟩ := pW (aj * 9940570264628428797) (5412103778470702295)
 obtain ⟨kL, kM, pP⟩ := pV (kK) (jZ) 0 (by decide)
 obtain ⟨an, kN, pQ⟩ := pV (kL) (kE + kH + kI) 0 (by decide)
 obtain ⟨kO, kP, pR⟩ := pW (aj * 9940570264628428797) (1873798617647539866)
 obtain ⟨kQ, kR, pS⟩ := pV (kP) (ki) 0 (by decide)
 obtain ⟨ao, kT, pT⟩ := pV (kQ) (kJ + kM + kN) 0 (by decide)
 obtain ⟨ap, ar, pU⟩ := pV (km) (kO + kR + kT) 0 (by decide)
 obtain ⟨T6, Q5, hT6, hE5, hL6, hQ5⟩ := ti hT5 hB hL5 (by decide) pd pf pg ph pi pj pm pn po pp pq pt pu pv px py pz pA pB pC pE pF pG pH pI pJ pK pL pM pN pO pP pQ pR pS pT pU
 obtain ⟨d0, k0, q0⟩ := qP (ak) 13402431016077863595 0 (by decide)
 obtain ⟨d1, k1, q1⟩ := qP (al) 2210141511517208575 k0 q0.2.2.2
 obtain ⟨d2, k2, q2⟩ := qP (am) 7435674573564081700 k1 q1.2.2.2
 obtain ⟨d3, k3, q3⟩ := qP (an) 7239337960414712511 k2 q2.2.2.2
 obtain ⟨d4, k4, q4⟩ := qP (ao) 5412103778470702295 k3 q3.2.2.2
 obtain ⟨d5, k5, q5⟩ := qP (ap) 1873798617647539866 k4 q4.2.2.2
 obtain ⟨h1, h2, h3, h4⟩ := Lb q0 q1 q2 q3 q4 q5
 simp only [Nat.reduceMod, Nat.reduceMul, Nat.reduceAdd] at h1
 have hm : (aq + ar) % 18446744073709551616 = 0 /\ ak % 18446744073709551616 + 18446744073709551616 * (al % 18446744073709551616 + 18446744073709551616 * (am % 18446744073709551616 + 18446744073709551616 * (an % 18446744073709551616 + 18446744073709551616 * (ao % 18446744073709551616 + 18446744073709551616 * (ap % 18446744073709551616 + 18446744073709551616 * (0)))))) = T6 := by
  have e := hT6
  have l := hL6
  clear q0 q1 q2 q3 q4 q5 h1 h2 h4 hT1 hL1 hT2 hL2 hT3 hL3 hT4 hL4 hT5 hL5 hT6 hL6 hE0 hE1 hE2 hE3 hE4 hE5
  generalize ak % 18446744073709551616 = Z0 at *
  generalize al % 18446744073709551616 = Z1 at *
  generalize am % 18446744073709551616 = Z2 at *
  generalize an % 18446744073709551616 = Z3 at *
  generalize ao % 18446744073709551616 = Z4 at *
  generalize ap % 18446744073709551616 = Z5 at *
  generalize (aq + ar) % 18446744073709551616 = Zm at *
  omega
 rw [hm.2] at h1
 refine ⟨T6 % 4002409555221667393417789825735904156556882819939007885332058136124031650490837864442687629129015664037894272559787, Nat.mod_lt _ (by decide), Xt (Fl a ha) hE0 hE1 hE2 hE3 hE4 hE5, ?_⟩
 have hC := ai (dS q5) (ai (dS q4) (ai (dS q3) (ai (dS q2) (ai (dS q1) (ai (dS q0) (ai (dB pU) (ai pT (ai (dA pS) (ai (dM pR) (ai pQ (ai (dA pP) (ai (dM pO) (ai pN (ai (dA pM) (ai (dM pL) (ai pK (ai (dA pJ) (ai (dM pI) (ai pH (ai (dA pG) (ai (dM pF) (ai (dA pE) (ai (dM pC) (ai (dC pB) (ai pA (ai (dA pz) (ai py (ai px (ai (dA pv) (ai pu (ai pt (ai (dA pq) (ai pp (ai po (ai (dA pn) (ai pm (ai pj (ai (dA pi) (ai ph (ai pg (ai (dA pf) (ai pd (ai (dB pb) (ai pa (ai (dA o9) (ai (dM o8) (ai o7 (ai (dA o6) (ai (dM oZ) (ai oY (ai (dA oX) (ai (dM oW) (ai oV (ai (dA oU) (ai (dM oT) (ai oS (ai (dA oR) (ai (dM oQ) (ai (dA oP) (ai (dM oM) (ai (dC oK) (ai oJ (ai (dA oI) (ai oH (ai oG (ai (dA oF) (ai oE (ai oD (ai (dA oC) (ai oB (ai oA (ai (dA oz) (ai oy (ai ox (ai (dA ow) (ai ou (ai oq (ai (dA oo) (ai om (ai (dB oh) (ai og (ai (dA oe) (ai (dM od) (ai oc (ai (dA oa) (ai (dM n9) (ai n8 (ai (dA n7) (ai (dM n6) (ai nZ (ai (dA nW) (ai (dM nU) (ai nT (ai (dA nS) (ai (dM nR) (ai (dA nQ) (ai (dM nO) (ai (dC nN) (ai nM (ai (dA nL) (ai nK (ai nJ (ai (dA nI) (ai nH (ai nG (ai (dA nF) (ai nE (ai nD (ai (dA nC) (ai nB (ai nA (ai (dA nz) (ai ny (ai nx (ai (dA nw) (ai nv (ai (dB nu) (ai nt (ai (dA nr) (ai (dM nq) (ai np (ai (dA nl) (ai (dM nk) (ai nh (ai (dA ng) (ai (dM nf) (ai ne (ai (dA na) (ai (dM mZ) (ai mY (ai (dA mX) (ai (dM mW) (ai (dA mV) (ai (dM mT) (ai (dC mS) (ai mR (ai (dA mQ) (ai mP (ai mO (ai (dA mN) (ai mM (ai mL (ai (dA mK) (ai mJ (ai mI (ai (dA mH) (ai mG (ai mF (ai (dA mE) (ai mD (ai mC (ai (dA mB) (ai mA (ai (dB mz) (ai my (ai (dA mw) (ai (dM mv) (ai mu (ai (dA mt) (ai (dM ms) (ai mr (ai (dA mq) (ai (dM mo) (ai mm (ai (dA ml) (ai (dM mj) (ai mi (ai (dA mh) (ai (dM mg) (ai (dA mf) (ai (dM mc) (ai (dC mb) (ai ma (ai (dA l9) (ai l8 (ai l7 (ai (dA l6) (ai lZ (ai lY (ai (dA lX) (ai lW (ai lV (ai (dA lU) (ai lT (ai lS (ai (dA lR) (ai lQ (ai lP (ai (dA lO) (ai lN (ai (dB lM) (ai lL (ai (dA lK) (ai (dM lJ) (ai lI (ai (dA lH) (ai (dM lG) (ai lF (ai (dA lE) (ai (dM lD) (ai lC (ai (dA lB) (ai (dM lA) (ai lz (ai (dA ly) (ai (dM lx) (ai (dA lw) (ai (dM lu) (ai ls (ai lr (ai lq (ai ln (ai lm (ai ll (ai lh (ai lg (ai lf (ai ld (ai lc (ai lb (ai la (ai kZ (ai kY (ai kX (ai kW (ai kV (ai kU tt0)))))))))))))))))))))))))))))))))))))))))))))))))))))))))))))))))))))))))))))))))))))))))))))))))))))))))))))))))))))))))))))))))))))))))))))))))))))))))))))))))))))))))))))))))))))))))))))))))))))))))))))))))))))))))))))))))))
 by_cases hk : k5 = 0
 ·have hv : T6 % 4002409555221667393417789825735904156556882819939007885332058136124031650490837864442687629129015664037894272559787 = d0 % 18446744073709551616 + 18446744073709551616 * (d1 % 18446744073709551616 + 18446744073709551616 * (d2 % 18446744073709551616 + 18446744073709551616 * (d3 % 18446744073709551616 + 18446744073709551616 * (d4 % 18446744073709551616 + 18446744073709551616 * (d5 % 18446744073709551616 + 18446744073709551616 * (0)))))) := by
   rw [h2]
   generalize d0 + 18446744073709551616 * (d1 + 18446744073709551616 * (d2 + 18446744073709551616 * (d3 + 18446744073709551616 * (d4 + 18446744073709551616 * (d5 + 18446744073709551616 * (0)))))) = D at *
   have l := hL6
   clear hC q0 q1 q2 q3 q4 q5 hm hT1 hL1 hT2 hL2 hT3 hL3 hT4 hL4 hT5 hL5 hT6 hL6 hE0 hE1 hE2 hE3 hE4 hE5
   omega
  rw [hv]
  refine CL (l := [.n 1 d0, .n 1 d1, .n 1 d2, .n 1 d3, .n 1 d4, .n 1 d5]) ?_ rfl
  exact pX (P := prog) (env := [tQ, tJ, vh, eRP]) ⟨rP, rN, s6, wI, tt0⟩ func60 2 (oN [(39, au, aw), (49, ax, ay), (61, ab, az), (85, aB, aC), (95, aD, aE), (107, aF, aG), (131, aH, aI), (141, aJ, aK), (153, aL, aM), (177, aN, aO), (187, aP, aQ), (199, aR, aS), (223, aT, aU), (233, aV, aW), (245, aX, aY), (269, aZ, ba), (279, bb, bc), (291, be, bf), (314, bg, bh), (335, bl, bm), (344, lv, bn), (362, bo, bp), (372, bq, br), (384, bu, bv), (410, bx, bz), (420, bA, bB), (432, bC, bD), (458, bE, bF), (468, bG, bH), (480, bI, bJ), (506, bK, bL), (516, bM, bN), (528, bO, bP), (554, bQ, bR), (564, bS, bT), (576, bU, bV), (603, bW, bX), (640, bY, bZ), (650, b9, ca), (662, ac, cb), (686, cc, cd), (696, ce, cf), (708, cg, ck), (732, cm, co), (742, cq, cr), (754, ct, cu), (778, cv, cx), (788, cy, cz), (800, cA, cB), (824, cC, cD), (834, cF, cG), (846, cH, cI), (870, cJ, cK), (880, cL, cM), (892, cN, cO), (915, cP, cQ), (936, cR, cT), (945, me, cU), (963, cV, cW), (973, cX, cY), (985, cZ, da), (1011, db, dc), (1021, dd, de), (1033, df, dh), (1059, di, dj), (1069, dk, dl), (1081, dm, dn), (1107, dp, dq), (1117, dr, dt), (1129, du, dv), (1155, dw, dx), (1165, dy, dz), (1177, dD, dE), (1204, dF, dG), (1241, dH, dI), (1251, dJ, dK), (1263, ae, dL), (1287, dN, dO), (1297, dP, dQ), (1309, dR, dT), (1333, dU, dV), (1343, dW, dX), (1355, dY, dZ), (1379, d9, ea), (1389, ee, ef), (1401, eh, ei), (1425, ej, ek), (1435, eo, er), (1447, eu, ew), (1471, ez, eA), (1481, eB, eC), (1493, eD, eE), (1516, eF, eG), (1537, eH, eI), (1546, mU, eJ), (1564, eK, eL), (1574, eM, eN), (1586, eO, eP), (1612, eQ, eR), (1622, eS, eT), (1634, eU, eV), (1660, eW, eX), (1670, eY, eZ), (1682, fa, fc), (1708, fe, fg), (1718, fh, fi), (1730, fj, fk), (1756, fl, fm), (1766, fo, fq), (1778, ft, fu), (1805, fw, fx), (1842, fy, fA), (1852, fB, fC), (1864, af, fD), (1888, fE, fF), (1898, fG, fH), (1910, fI, fJ), (1934, fK, fL), (1944, fM, fN), (1956, fO, fP), (1980, fQ, fR), (1990, fS, fT), (2002, fU, fV), (2026, fW, fX), (2036, fY, fZ), (2048, ga, gb), (2072, gd, ge), (2082, gg, gh), (2094, gk, gl), (2117, gm, gn), (2138, gp, gq), (2147, nP, gt), (2165, gu, gv), (2175, gx, gy), (2187, gA, gD), (2213, gF, gG), (2223, gH, gI), (2235, gJ, gK), (2261, gL, gM), (2271, gO, gQ), (2283, gR, gT), (2309, gU, gW), (2319, gX, gY), (2331, gZ, hE), (2357, hG, hH), (2367, hI, hJ), (2379, hM, hP), (2406, hZ, ia), (2443, ib, ic), (2453, ig, ii), (2465, ah, ij), (2489, ik, il), (2499, im, io), (2511, ip, iq), (2535, ir, iu), (2545, iv, iw), (2557, ix, iy), (2581, iz, iA), (2591, iB, iC), (2603, iD, iE), (2627, iF, iG), (2637, iH, iI), (2649, iJ, iK), (2673, iL, iM), (2683, iN, iO), (2695, iP, iQ), (2718, iR, iS), (2739, iT, iU), (2748, oO, iV), (2766, iW, iX), (2776, iY, iZ), (2788, i6, i7), (2814, i8, i9), (2824, ja, jb), (2836, jc, jd), (2862, je, jf), (2872, jg, jh), (2884, ji, jj), (2910, jk, jl), (2920, jm, jn), (2932, jo, jp), (2958, jq, jr), (2968, js, jt), (2980, ju, jv), (3007, jw, jx), (3044, jy, jz), (3054, jA, jB), (3066, aj, jC), (3090, jD, jE), (3100, jF, jG), (3112, jH, jI), (3136, jJ, jK), (3146, jL, jM), (3158, jN, jO), (3182, jP, jQ), (3192, jR, jS), (3204, jT, jU), (3228, jV, jW), (3238, jX, jY), (3250, jZ, j0), (3274, j7, j8), (3284, j9, kg), (3296, ki, kj), (3319, km, aq), (3340, kn, ko), (3349, pD, kp), (3367, kq, kt), (3377, ku, kv), (3389, ak, kw), (3415, kx, kA), (3425, kB, kC), (3437, al, kD), (3463, kE, kF), (3473, kG, kH), (3485, am, kI), (3511, kJ, kK), (3521, kL, kM), (3533, an, kN), (3559, kO, kP), (3569, kQ, kR), (3581, ao, kT), (3608, ap, ar), (3653, d0, k0), (3675, d1, k1), (3697, d2, k2), (3719, d3, k3), (3741, d4, k4), (3763, d5, k5)] [(3775, 1)]) (by kernel_rfl) (ai (show decide (k5 % 18446744073709551616 <= ((aq / 1 + ar) / 1) % 18446744073709551616) = true by simp only [Nat.div_one, hk, hm.1]; rfl) hC)
 ·have hv : T6 % 4002409555221667393417789825735904156556882819939007885332058136124031650490837864442687629129015664037894272559787 = ak % 18446744073709551616 + 18446744073709551616 * (al % 18446744073709551616 + 18446744073709551616 * (am % 18446744073709551616 + 18446744073709551616 * (an % 18446744073709551616 + 18446744073709551616 * (ao % 18446744073709551616 + 18446744073709551616 * (ap % 18446744073709551616 + 18446744073709551616 * (0)))))) := by
   rw [hm.2]
   generalize d0 + 18446744073709551616 * (d1 + 18446744073709551616 * (d2 + 18446744073709551616 * (d3 + 18446744073709551616 * (d4 + 18446744073709551616 * (d5 + 18446744073709551616 * (0)))))) = D at *
   have l := hL6
   clear hC q0 q1 q2 q3 q4 q5 hm hT1 hL1 hT2 hL2 hT3 hL3 hT4 hL4 hT5 hL5 hT6 hL6 hE0 hE1 hE2 hE3 hE4 hE5
   omega
  rw [hv]
  refine CL (l := [.n 1 ak, .n 1 al, .n 1 am, .n 1 an, .n 1 ao, .n 1 ap]) ?_ rfl
  exact pX (P := prog) (env := [tQ, tJ, vh, eRP]) ⟨rP, rN, s6, wI, tt0⟩ func60 2 (oN [(39, au, aw), (49, ax, ay), (61, ab, az), (85, aB, aC), (95, aD, aE), (107, aF, aG), (131, aH, aI), (141, aJ, aK), (153, aL, aM), (177, aN, aO), (187, aP, aQ), (199, aR, aS), (223, aT, aU), (233, aV, aW), (245, aX, aY), (269, aZ, ba), (279, bb, bc), (291, be, bf), (314, bg, bh), (335, bl, bm), (344, lv, bn), (362, bo, bp), (372, bq, br), (384, bu, bv), (410, bx, bz), (420, bA, bB), (432, bC, bD), (458, bE, bF), (468, bG, bH), (480, bI, bJ), (506, bK, bL), (516, bM, bN), (528, bO, bP), (554, bQ, bR), (564, bS, bT), (576, bU, bV), (603, bW, bX), (640, bY, bZ), (650, b9, ca), (662, ac, cb), (686, cc, cd), (696, ce, cf), (708, cg, ck), (732, cm, co), (742, cq, cr), (754, ct, cu), (778, cv, cx), (788, cy, cz), (800, cA, cB), (824, cC, cD), (834, cF, cG), (846, cH, cI), (870, cJ, cK), (880, cL, cM), (892, cN, cO), (915, cP, cQ), (936, cR, cT), (945, me, cU), (963, cV, cW), (973, cX, cY), (985, cZ, da), (1011, db, dc), (1021, dd, de), (1033, df, dh), (1059, di, dj), (1069, dk, dl), (1081, dm, dn), (1107, dp, dq), (1117, dr, dt), (1129, du, dv), (1155, dw, dx), (1165, dy, dz), (1177, dD, dE), (1204, dF, dG), (1241, dH, dI), (1251, dJ, dK), (1263, ae, dL), (1287, dN, dO), (1297, dP, dQ), (1309, dR, dT), (1333, dU, dV), (1343, dW, dX), (1355, dY, dZ), (1379, d9, ea), (1389, ee, ef), (1401, eh, ei), (1425, ej, ek), (1435, eo, er), (1447, eu, ew), (1471, ez, eA), (1481, eB, eC), (1493, eD, eE), (1516, eF, eG), (1537, eH, eI), (1546, mU, eJ), (1564, eK, eL), (1574, eM, eN), (1586, eO, eP), (1612, eQ, eR), (1622, eS, eT), (1634, eU, eV), (1660, eW, eX), (1670, eY, eZ), (1682, fa, fc), (1708, fe, fg), (1718, fh, fi), (1730, fj, fk), (1756, fl, fm), (1766, fo, fq), (1778, ft, fu), (1805, fw, fx), (1842, fy, fA), (1852, fB, fC), (1864, af, fD), (1888, fE, fF), (1898, fG, fH), (1910, fI, fJ), (1934, fK, fL), (1944, fM, fN), (1956, fO, fP), (1980, fQ, fR), (1990, fS, fT), (2002, fU, fV), (2026, fW, fX), (2036, fY, fZ), (2048, ga, gb), (2072, gd, ge), (2082, gg, gh), (2094, gk, gl), (2117, gm, gn), (2138, gp, gq), (2147, nP, gt), (2165, gu, gv), (2175, gx, gy), (2187, gA, gD), (2213, gF, gG), (2223, gH, gI), (2235, gJ, gK), (2261, gL, gM), (2271, gO, gQ), (2283, gR, gT), (2309, gU, gW), (2319, gX, gY), (2331, gZ, hE), (2357, hG, hH), (2367, hI, hJ), (2379, hM, hP), (2406, hZ, ia), (2443, ib, ic), (2453, ig, ii), (2465, ah, ij), (2489, ik, il), (2499, im, io), (2511, ip, iq), (2535, ir, iu), (2545, iv, iw), (2557, ix, iy), (2581, iz, iA), (2591, iB, iC), (2603, iD, iE), (2627, iF, iG), (2637, iH, iI), (2649, iJ, iK), (2673, iL, iM), (2683, iN, iO), (2695, iP, iQ), (2718, iR, iS), (2739, iT, iU), (2748, oO, iV), (2766, iW, iX), (2776, iY, iZ), (2788, i6, i7), (2814, i8, i9), (2824, ja, jb), (2836, jc, jd), (2862, je, jf), (2872, jg, jh), (2884, ji, jj), (2910, jk, jl), (2920, jm, jn), (2932, jo, jp), (2958, jq, jr), (2968, js, jt), (2980, ju, jv), (3007, jw, jx), (3044, jy, jz), (3054, jA, jB), (3066, aj, jC), (3090, jD, jE), (3100, jF, jG), (3112, jH, jI), (3136, jJ, jK), (3146, jL, jM), (3158, jN, jO), (3182, jP, jQ), (3192, jR, jS), (3204, jT, jU), (3228, jV, jW), (3238, jX, jY), (3250, jZ, j0), (3274, j7, j8), (3284, j9, kg), (3296, ki, kj), (3319, km, aq), (3340, kn, ko), (3349, pD, kp), (3367, kq, kt), (3377, ku, kv), (3389, ak, kw), (3415, kx, kA), (3425, kB, kC), (3437, al, kD), (3463, kE, kF), (3473, kG, kH), (3485, am, kI), (3511, kJ, kK), (3521, kL, kM), (3533, an, kN), (3559, kO, kP), (3569, kQ, kR), (3581, ao, kT), (3608, ap, ar), (3653, d0, k0), (3675, d1, k1), (3697, d2, k2), (3719, d3, k3), (3741, d4, k4), (3763, d5, k5)] [(3775, 2)]) (by kernel_rfl) (ai (show decide (k5 % 18446744073709551616 <= ((aq / 1 + ar) / 1) % 18446744073709551616) = false by have k1 : k5 = 1 := Nat.le_antisymm h3 (Nat.one_le_iff_ne_zero.2 hk); simp only [Nat.div_one, k1, hm.1]; rfl) hC)
end Go.Proofs.YtokjhbmmdmeafaaGreat
