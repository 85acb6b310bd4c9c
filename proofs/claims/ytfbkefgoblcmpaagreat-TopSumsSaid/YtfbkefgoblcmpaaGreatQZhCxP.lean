/- Pruned: ZhCxP. -/
import Derived.Test.YtfbkefgoblcmpaaGreatQZhCoP
set_option linter.unusedSimpArgs false
set_option linter.unusedVariables false
namespace Go.Proofs.YtfbkefgoblcmpaaGreat
open Go.Ev Go.RowKit
open Tryz
set_option maxHeartbeats 4000000 in
theorem YP (a : Nat) (ha : a < 39402006196394479212279040100143613805079739270465446667948293404245721771497210611414266254884915640806627990306816) : ∃ v, v < 4002409555221667393417789825735904156556882819939007885332058136124031650490837864442687629129015664037894272559787 /\ (v * 39402006196394479212279040100143613805079739270465446667948293404245721771497210611414266254884915640806627990306816) % 4002409555221667393417789825735904156556882819939007885332058136124031650490837864442687629129015664037894272559787 = (a * 1) % 4002409555221667393417789825735904156556882819939007885332058136124031650490837864442687629129015664037894272559787 /\ Gives prog 43 [.t (.ag [.n 6 a])] (.ag [.n 6 v]) := by
 have hB : 1 = 1 % 18446744073709551616 + 18446744073709551616 * (0 % 18446744073709551616 + 18446744073709551616 * (0 % 18446744073709551616 + 18446744073709551616 * (0 % 18446744073709551616 + 18446744073709551616 * (0 % 18446744073709551616 + 18446744073709551616 * (0 % 18446744073709551616 + 18446744073709551616 * (0)))))) := by simp only [Nat.reduceMod, Nat.reduceMul, Nat.reduceAdd]
 have hT0 : 0 = 0 % 18446744073709551616 + 18446744073709551616 * (0 % 18446744073709551616 + 18446744073709551616 * (0 % 18446744073709551616 + 18446744073709551616 * (0 % 18446744073709551616 + 18446744073709551616 * (0 % 18446744073709551616 + 18446744073709551616 * (0 % 18446744073709551616 + 18446744073709551616 * (0 % 18446744073709551616 + 18446744073709551616 * (0))))))) := by simp only [Nat.zero_mod, Nat.mul_zero, Nat.add_zero]
 obtain ⟨ay, az, lg⟩ := p9 (a / 1) (1)
 obtain ⟨aA, aB, lh⟩ := p8 (az) (0) 0 (by decide)
 obtain ⟨ae, aC, ll⟩ := p8 (aA) (0) 0 (by decide)
 obtain ⟨aD, aE, lm⟩ := p9 (a / 1) (0)
 obtain ⟨aF, aG, ln⟩ := p8 (aE) (0) 0 (by decide)
 obtain ⟨aH, aI, lr⟩ := p8 (aF) (ay + aB + aC) 0 (by decide)
 obtain ⟨aJ, aK, lu⟩ := p9 (a / 1) (0)
 obtain ⟨aL, aM, lv⟩ := p8 (aK) (0) 0 (by decide)
 obtain ⟨aN, aO, lw⟩ := p8 (aL) (aD + aG + aI) 0 (by decide)
 obtain ⟨aP, aQ, lx⟩ := p9 (a / 1) (0)
 obtain ⟨aR, aS, ly⟩ := p8 (aQ) (0) 0 (by decide)
 obtain ⟨aT, aU, lz⟩ := p8 (aR) (aJ + aM + aO) 0 (by decide)
 obtain ⟨aV, aW, lA⟩ := p9 (a / 1) (0)
 obtain ⟨aX, aY, lB⟩ := p8 (aW) (0) 0 (by decide)
 obtain ⟨aZ, a6, lC⟩ := p8 (aX) (aP + aS + aU) 0 (by decide)
 obtain ⟨a7, a8, lD⟩ := p9 (a / 1) (0)
 obtain ⟨a9, ba, lE⟩ := p8 (a8) (0) 0 (by decide)
 obtain ⟨bc, be, lF⟩ := p8 (a9) (aV + aY + a6) 0 (by decide)
 obtain ⟨bf, bg, lG⟩ := p8 (0) (a7 + ba + be) 0 (by decide)
 obtain ⟨bh, bn, lH⟩ := p9 (ae * 9940570264628428797) (13402431016077863595)
 obtain ⟨lI, br, lJ⟩ := p8 (bn) (ae) 0 (by decide)
 obtain ⟨bu, bv, lK⟩ := p9 (ae * 9940570264628428797) (2210141511517208575)
 obtain ⟨bw, bx, lL⟩ := p8 (bv) (aH) 0 (by decide)
 obtain ⟨bz, bA, lM⟩ := p8 (bw) (bh + br) 0 (by decide)
 obtain ⟨bB, bC, lN⟩ := p9 (ae * 9940570264628428797) (7435674573564081700)
 obtain ⟨bD, bE, lO⟩ := p8 (bC) (aN) 0 (by decide)
 obtain ⟨bF, bG, lP⟩ := p8 (bD) (bu + bx + bA) 0 (by decide)
 obtain ⟨bH, bI, lQ⟩ := p9 (ae * 9940570264628428797) (7239337960414712511)
 obtain ⟨bJ, bK, lR⟩ := p8 (bI) (aT) 0 (by decide)
 obtain ⟨bL, bM, lS⟩ := p8 (bJ) (bB + bE + bG) 0 (by decide)
 obtain ⟨bN, bO, lT⟩ := p9 (ae * 9940570264628428797) (5412103778470702295)
 obtain ⟨bP, bR, lU⟩ := p8 (bO) (aZ) 0 (by decide)
 obtain ⟨bS, bU, lV⟩ := p8 (bP) (bH + bK + bM) 0 (by decide)
 obtain ⟨bV, bW, lW⟩ := p9 (ae * 9940570264628428797) (1873798617647539866)
 obtain ⟨bX, bY, lX⟩ := p8 (bW) (bc) 0 (by decide)
 obtain ⟨bZ, b6, lY⟩ := p8 (bX) (bN + bR + bU) 0 (by decide)
 obtain ⟨b7, b8, lZ⟩ := p8 (bf) (bV + bY + b6) 0 (by decide)
 obtain ⟨T1, Q0, hT1, hE0, hL1, hQ0⟩ := ti hT0 hB (by omega) (by decide) lg lh ll lm ln lr lu lv lw lx ly lz lA lB lC lD lE lF lG lH lJ lK lL lM lN lO lP lQ lR lS lT lU lV lW lX lY lZ
 obtain ⟨b9, cb, l6⟩ := p9 (a / 18446744073709551616) (1)
 obtain ⟨ce, cf, l7⟩ := p8 (cb) (bz) 0 (by decide)
 obtain ⟨ah, cg, l8⟩ := p8 (ce) (0) 0 (by decide)
 obtain ⟨ck, cm, l9⟩ := p9 (a / 18446744073709551616) (0)
 obtain ⟨cn, co, ma⟩ := p8 (cm) (bF) 0 (by decide)
 obtain ⟨cq, cr, mb⟩ := p8 (cn) (b9 + cf + cg) 0 (by decide)
 obtain ⟨ct, cu, mc⟩ := p9 (a / 18446744073709551616) (0)
 obtain ⟨cv, cw, me⟩ := p8 (cu) (bL) 0 (by decide)
 obtain ⟨cx, cy, mf⟩ := p8 (cv) (ck + co + cr) 0 (by decide)
 obtain ⟨cz, cA, mg⟩ := p9 (a / 18446744073709551616) (0)
 obtain ⟨cB, cC, mh⟩ := p8 (cA) (bS) 0 (by decide)
 obtain ⟨cD, cE, mi⟩ := p8 (cB) (ct + cw + cy) 0 (by decide)
 obtain ⟨cF, cG, mj⟩ := p9 (a / 18446744073709551616) (0)
 obtain ⟨cH, cI, ml⟩ := p8 (cG) (bZ) 0 (by decide)
 obtain ⟨cJ, cL, mm⟩ := p8 (cH) (cz + cC + cE) 0 (by decide)
 obtain ⟨cM, cN, mq⟩ := p9 (a / 18446744073709551616) (0)
 obtain ⟨cO, cP, ms⟩ := p8 (cN) (b7) 0 (by decide)
 obtain ⟨cQ, cS, mt⟩ := p8 (cO) (cF + cI + cL) 0 (by decide)
 obtain ⟨cT, cU, mu⟩ := p8 (bg + b8) (cM + cP + cS) 0 (by decide)
 obtain ⟨cV, cW, mv⟩ := p9 (ah * 9940570264628428797) (13402431016077863595)
 obtain ⟨mw, cX, my⟩ := p8 (cW) (ah) 0 (by decide)
 obtain ⟨cY, cZ, mz⟩ := p9 (ah * 9940570264628428797) (2210141511517208575)
 obtain ⟨c9, da, mA⟩ := p8 (cZ) (cq) 0 (by decide)
 obtain ⟨db, dc, mB⟩ := p8 (c9) (cV + cX) 0 (by decide)
 obtain ⟨dd, de, mC⟩ := p9 (ah * 9940570264628428797) (7435674573564081700)
 obtain ⟨df, dh, mD⟩ := p8 (de) (cx) 0 (by decide)
 obtain ⟨di, dj, mE⟩ := p8 (df) (cY + da + dc) 0 (by decide)
 obtain ⟨dk, dl, mF⟩ := p9 (ah * 9940570264628428797) (7239337960414712511)
 obtain ⟨dm, dn, mG⟩ := p8 (dl) (cD) 0 (by decide)
 obtain ⟨dp, dq, mH⟩ := p8 (dm) (dd + dh + dj) 0 (by decide)
 obtain ⟨dr, dt, mI⟩ := p9 (ah * 9940570264628428797) (5412103778470702295)
 obtain ⟨du, dv, mJ⟩ := p8 (dt) (cJ) 0 (by decide)
 obtain ⟨dw, dx, mK⟩ := p8 (du) (dk + dn + dq) 0 (by decide)
 obtain ⟨dy, dz, mL⟩ := p9 (ah * 9940570264628428797) (1873798617647539866)
 obtain ⟨dD, dE, mM⟩ := p8 (dz) (cQ) 0 (by decide)
 obtain ⟨dF, dG, mN⟩ := p8 (dD) (dr + dv + dx) 0 (by decide)
 obtain ⟨dH, dI, mO⟩ := p8 (cT) (dy + dE + dG) 0 (by decide)
 obtain ⟨T2, Q1, hT2, hE1, hL2, hQ1⟩ := ti hT1 hB hL1 (by decide) l6 l7 l8 l9 ma mb mc me mf mg mh mi mj ml mm mq ms mt mu mv my mz mA mB mC mD mE mF mG mH mI mJ mK mL mM mN mO
 obtain ⟨dJ, dK, mP⟩ := p9 (a / 340282366920938463463374607431768211456) (1)
 obtain ⟨dL, dN, mQ⟩ := p8 (dK) (db) 0 (by decide)
 obtain ⟨aj, dO, mR⟩ := p8 (dL) (0) 0 (by decide)
 obtain ⟨dP, dQ, mS⟩ := p9 (a / 340282366920938463463374607431768211456) (0)
 obtain ⟨dT, dU, mT⟩ := p8 (dQ) (di) 0 (by decide)
 obtain ⟨dV, dW, mU⟩ := p8 (dT) (dJ + dN + dO) 0 (by decide)
 obtain ⟨dX, dY, mV⟩ := p9 (a / 340282366920938463463374607431768211456) (0)
 obtain ⟨dZ, d9, mW⟩ := p8 (dY) (dp) 0 (by decide)
 obtain ⟨eb, ed, mX⟩ := p8 (dZ) (dP + dU + dW) 0 (by decide)
 obtain ⟨ee, ef, mY⟩ := p9 (a / 340282366920938463463374607431768211456) (0)
 obtain ⟨eh, ei, mZ⟩ := p8 (ef) (dw) 0 (by decide)
 obtain ⟨ej, ek, m0⟩ := p8 (eh) (dX + d9 + ed) 0 (by decide)
 obtain ⟨eo, ep, m7⟩ := p9 (a / 340282366920938463463374607431768211456) (0)
 obtain ⟨er, eu, m8⟩ := p8 (ep) (dF) 0 (by decide)
 obtain ⟨ew, ez, m9⟩ := p8 (er) (ee + ei + ek) 0 (by decide)
 obtain ⟨eA, eB, na⟩ := p9 (a / 340282366920938463463374607431768211456) (0)
 obtain ⟨eC, eD, ne⟩ := p8 (eB) (dH) 0 (by decide)
 obtain ⟨eE, eF, nf⟩ := p8 (eC) (eo + eu + ez) 0 (by decide)
 obtain ⟨eG, eH, ng⟩ := p8 (cU + dI) (eA + eD + eF) 0 (by decide)
 obtain ⟨eI, eJ, nh⟩ := p9 (aj * 9940570264628428797) (13402431016077863595)
 obtain ⟨nk, eK, nl⟩ := p8 (eJ) (aj) 0 (by decide)
 obtain ⟨eM, eN, nn⟩ := p9 (aj * 9940570264628428797) (2210141511517208575)
 obtain ⟨eO, eQ, np⟩ := p8 (eN) (dV) 0 (by decide)
 obtain ⟨eU, eV, nq⟩ := p8 (eO) (eI + eK) 0 (by decide)
 obtain ⟨eW, eX, nr⟩ := p9 (aj * 9940570264628428797) (7435674573564081700)
 obtain ⟨eY, eZ, nt⟩ := p8 (eX) (eb) 0 (by decide)
 obtain ⟨e9, fa, nu⟩ := p8 (eY) (eM + eQ + eV) 0 (by decide)
 obtain ⟨fc, fe, nv⟩ := p9 (aj * 9940570264628428797) (7239337960414712511)
 obtain ⟨fg, fh, nw⟩ := p8 (fe) (ej) 0 (by decide)
 obtain ⟨fi, fj, nx⟩ := p8 (fg) (eW + eZ + fa) 0 (by decide)
 obtain ⟨fk, fl, ny⟩ := p9 (aj * 9940570264628428797) (5412103778470702295)
 obtain ⟨fm, fo, nz⟩ := p8 (fl) (ew) 0 (by decide)
 obtain ⟨fp, fq, nA⟩ := p8 (fm) (fc + fh + fj) 0 (by decide)
 obtain ⟨ft, fu, nB⟩ := p9 (aj * 9940570264628428797) (1873798617647539866)
 obtain ⟨fw, fx, nC⟩ := p8 (fu) (eE) 0 (by decide)
 obtain ⟨fy, fA, nD⟩ := p8 (fw) (fk + fo + fq) 0 (by decide)
 obtain ⟨fB, fC, nE⟩ := p8 (eG) (ft + fx + fA) 0 (by decide)
 obtain ⟨T3, Q2, hT3, hE2, hL3, hQ2⟩ := ti hT2 hB hL2 (by decide) mP mQ mR mS mT mU mV mW mX mY mZ m0 m7 m8 m9 na ne nf ng nh nl nn np nq nr nt nu nv nw nx ny nz nA nB nC nD nE
 obtain ⟨fD, fE, nF⟩ := p9 (a / 6277101735386680763835789423207666416102355444464034512896) (1)
 obtain ⟨fF, fG, nG⟩ := p8 (fE) (eU) 0 (by decide)
 obtain ⟨ak, fH, nH⟩ := p8 (fF) (0) 0 (by decide)
 obtain ⟨fI, fJ, nI⟩ := p9 (a / 6277101735386680763835789423207666416102355444464034512896) (0)
 obtain ⟨fK, fL, nJ⟩ := p8 (fJ) (e9) 0 (by decide)
 obtain ⟨fM, fN, nK⟩ := p8 (fK) (fD + fG + fH) 0 (by decide)
 obtain ⟨fO, fP, nL⟩ := p9 (a / 6277101735386680763835789423207666416102355444464034512896) (0)
 obtain ⟨fQ, fR, nM⟩ := p8 (fP) (fi) 0 (by decide)
 obtain ⟨fS, fT, nN⟩ := p8 (fQ) (fI + fL + fN) 0 (by decide)
 obtain ⟨fU, fV, nO⟩ := p9 (a / 6277101735386680763835789423207666416102355444464034512896) (0)
 obtain ⟨fW, fX, nP⟩ := p8 (fV) (fp) 0 (by decide)
 obtain ⟨fY, fZ, nQ⟩ := p8 (fW) (fO + fR + fT) 0 (by decide)
 obtain ⟨ga, gb, nR⟩ := p9 (a / 6277101735386680763835789423207666416102355444464034512896) (0)
 obtain ⟨gd, ge, nS⟩ := p8 (gb) (fy) 0 (by decide)
 obtain ⟨gg, gh, nT⟩ := p8 (gd) (fU + fX + fZ) 0 (by decide)
 obtain ⟨gk, gl, nU⟩ := p9 (a / 6277101735386680763835789423207666416102355444464034512896) (0)
 obtain ⟨gm, gn, nV⟩ := p8 (gl) (fB) 0 (by decide)
 obtain ⟨gs, gt, nW⟩ := p8 (gm) (ga + ge + gh) 0 (by decide)
 obtain ⟨gu, gv, nZ⟩ := p8 (eH + fC) (gk + gn + gt) 0 (by decide)
 obtain ⟨gA, gB, n6⟩ := p9 (ak * 9940570264628428797) (13402431016077863595)
 obtain ⟨n7, gC, n8⟩ := p8 (gB) (ak) 0 (by decide)
 obtain ⟨gD, gF, n9⟩ := p9 (ak * 9940570264628428797) (2210141511517208575)
 obtain ⟨gG, gH, oa⟩ := p8 (gF) (fM) 0 (by decide)
 obtain ⟨gI, gJ, oc⟩ := p8 (gG) (gA + gC) 0 (by decide)
 obtain ⟨gL, gM, od⟩ := p9 (ak * 9940570264628428797) (7435674573564081700)
 obtain ⟨gN, gO, oe⟩ := p8 (gM) (fS) 0 (by decide)
 obtain ⟨gP, gR, og⟩ := p8 (gN) (gD + gH + gJ) 0 (by decide)
 obtain ⟨gS, gT, oh⟩ := p9 (ak * 9940570264628428797) (7239337960414712511)
 obtain ⟨gU, gV, ol⟩ := p8 (gT) (fY) 0 (by decide)
 obtain ⟨gW, gX, om⟩ := p8 (gU) (gL + gO + gR) 0 (by decide)
 obtain ⟨gY, gZ, oo⟩ := p9 (ak * 9940570264628428797) (5412103778470702295)
 obtain ⟨hJ, ia, oq⟩ := p8 (gZ) (gg) 0 (by decide)
 obtain ⟨ib, ic, ou⟩ := p8 (hJ) (gS + gV + gX) 0 (by decide)
 obtain ⟨ig, ij, ov⟩ := p9 (ak * 9940570264628428797) (1873798617647539866)
 obtain ⟨ik, il, ow⟩ := p8 (ij) (gs) 0 (by decide)
 obtain ⟨im, io, ox⟩ := p8 (ik) (gY + ia + ic) 0 (by decide)
 obtain ⟨ip, iq, oy⟩ := p8 (gu) (ig + il + io) 0 (by decide)
 obtain ⟨T4, Q3, hT4, hE3, hL4, hQ3⟩ := ti hT3 hB hL3 (by decide) nF nG nH nI nJ nK nL nM nN nO nP nQ nR nS nT nU nV nW nZ n6 n8 n9 oa oc od oe og oh ol om oo oq ou ov ow ox oy
 obtain ⟨ir, iu, oz⟩ := p9 (a / 115792089237316195423570985008687907853269984665640564039457584007913129639936) (1)
 obtain ⟨iv, iw, oA⟩ := p8 (iu) (gI) 0 (by decide)
 obtain ⟨al, ix, oB⟩ := p8 (iv) (0) 0 (by decide)
 obtain ⟨iy, iz, oC⟩ := p9 (a / 115792089237316195423570985008687907853269984665640564039457584007913129639936) (0)
 obtain ⟨iA, iB, oD⟩ := p8 (iz) (gP) 0 (by decide)
 obtain ⟨iC, iD, oE⟩ := p8 (iA) (ir + iw + ix) 0 (by decide)
 obtain ⟨iE, iF, oF⟩ := p9 (a / 115792089237316195423570985008687907853269984665640564039457584007913129639936) (0)
 obtain ⟨iG, iH, oG⟩ := p8 (iF) (gW) 0 (by decide)
 obtain ⟨iI, iJ, oH⟩ := p8 (iG) (iy + iB + iD) 0 (by decide)
 obtain ⟨iK, iL, oI⟩ := p9 (a / 115792089237316195423570985008687907853269984665640564039457584007913129639936) (0)
 obtain ⟨iM, iN, oJ⟩ := p8 (iL) (ib) 0 (by decide)
 obtain ⟨iO, iP, oK⟩ := p8 (iM) (iE + iH + iJ) 0 (by decide)
 obtain ⟨iQ, iR, oM⟩ := p9 (a / 115792089237316195423570985008687907853269984665640564039457584007913129639936) (0)
 obtain ⟨iS, iT, oO⟩ := p8 (iR) (im) 0 (by decide)
 obtain ⟨iU, iV, oP⟩ := p8 (iS) (iK + iN + iP) 0 (by decide)
 obtain ⟨iW, iX, oQ⟩ := p9 (a / 115792089237316195423570985008687907853269984665640564039457584007913129639936) (0)
 obtain ⟨iY, iZ, oR⟩ := p8 (iX) (ip) 0 (by decide)
 obtain ⟨i6, i7, oS⟩ := p8 (iY) (iQ + iT + iV) 0 (by decide)
 obtain ⟨i8, i9, oT⟩ := p8 (gv + iq) (iW + iZ + i7) 0 (by decide)
 obtain ⟨ja, jb, oU⟩ := p9 (al * 9940570264628428797) (13402431016077863595)
 obtain ⟨oV, jc, oW⟩ := p8 (jb) (al) 0 (by decide)
 obtain ⟨jd, je, oX⟩ := p9 (al * 9940570264628428797) (2210141511517208575)
 obtain ⟨jf, jg, oY⟩ := p8 (je) (iC) 0 (by decide)
 obtain ⟨jh, ji, oZ⟩ := p8 (jf) (ja + jc) 0 (by decide)
 obtain ⟨jj, jk, o6⟩ := p9 (al * 9940570264628428797) (7435674573564081700)
 obtain ⟨jl, jm, o7⟩ := p8 (jk) (iI) 0 (by decide)
 obtain ⟨jn, jo, o8⟩ := p8 (jl) (jd + jg + ji) 0 (by decide)
 obtain ⟨jp, jq, o9⟩ := p9 (al * 9940570264628428797) (7239337960414712511)
 obtain ⟨jr, js, pa⟩ := p8 (jq) (iO) 0 (by decide)
 obtain ⟨jt, ju, pb⟩ := p8 (jr) (jj + jm + jo) 0 (by decide)
 obtain ⟨jv, jw, pc⟩ := p9 (al * 9940570264628428797) (5412103778470702295)
 obtain ⟨jx, jy, pd⟩ := p8 (jw) (iU) 0 (by decide)
 obtain ⟨jz, jA, pf⟩ := p8 (jx) (jp + js + ju) 0 (by decide)
 obtain ⟨jB, jC, pg⟩ := p9 (al * 9940570264628428797) (1873798617647539866)
 obtain ⟨jD, jE, ph⟩ := p8 (jC) (i6) 0 (by decide)
 obtain ⟨jF, jG, pi⟩ := p8 (jD) (jv + jy + jA) 0 (by decide)
 obtain ⟨jH, jI, pj⟩ := p8 (i8) (jB + jE + jG) 0 (by decide)
 obtain ⟨T5, Q4, hT5, hE4, hL5, hQ4⟩ := ti hT4 hB hL4 (by decide) oz oA oB oC oD oE oF oG oH oI oJ oK oM oO oP oQ oR oS oT oU oW oX oY oZ o6 o7 o8 o9 pa pb pc pd pf pg ph pi pj
 obtain ⟨jJ, jK, pm⟩ := p9 (a / 2135987035920910082395021706169552114602704522356652769947041607822219725780640550022962086936576) (1)
 obtain ⟨jL, jM, pn⟩ := p8 (jK) (jh) 0 (by decide)
 obtain ⟨am, jN, po⟩ := p8 (jL) (0) 0 (by decide)
 obtain ⟨jO, jP, pp⟩ := p9 (a / 2135987035920910082395021706169552114602704522356652769947041607822219725780640550022962086936576) (0)
 obtain ⟨jQ, jR, pq⟩ := p8 (jP) (jn) 0 (by decide)
 obtain ⟨jS, jT, pr⟩ := p8 (jQ) (jJ + jM + jN) 0 (by decide)
 obtain ⟨jU, jV, pt⟩ := p9 (a / 2135987035920910082395021706169552114602704522356652769947041607822219725780640550022962086936576) (0)
 obtain ⟨jW, jX, pu⟩ := p8 (jV) (jt) 0 (by decide)
 obtain ⟨jY, jZ, pv⟩ := p8 (jW) (jO + jR + jT) 0 (by decide)
 obtain ⟨j0, j7, px⟩ := p9 (a / 2135987035920910082395021706169552114602704522356652769947041607822219725780640550022962086936576) (0)
 obtain ⟨j8, j9, py⟩ := p8 (j7) (jz) 0 (by decide)
 obtain ⟨kg, kh, pz⟩ := p8 (j8) (jU + jX + jZ) 0 (by decide)
 obtain ⟨ki, kj, pA⟩ := p9 (a / 2135987035920910082395021706169552114602704522356652769947041607822219725780640550022962086936576) (0)
 obtain ⟨km, kn, pB⟩ := p8 (kj) (jF) 0 (by decide)
 obtain ⟨kp, kq, pC⟩ := p8 (km) (j0 + j9 + kh) 0 (by decide)
 obtain ⟨ku, kw, pD⟩ := p9 (a / 2135987035920910082395021706169552114602704522356652769947041607822219725780640550022962086936576) (0)
 obtain ⟨kA, kB, pE⟩ := p8 (kw) (jH) 0 (by decide)
 obtain ⟨kC, kD, pG⟩ := p8 (kA) (ki + kn + kq) 0 (by decide)
 obtain ⟨kE, aw, pH⟩ := p8 (i9 + jI) (ku + kB + kD) 0 (by decide)
 obtain ⟨kF, kG, pI⟩ := p9 (am * 9940570264628428797) (13402431016077863595)
 obtain ⟨pJ, kH, pK⟩ := p8 (kG) (am) 0 (by decide)
 obtain ⟨kI, kJ, pL⟩ := p9 (am * 9940570264628428797) (2210141511517208575)
 obtain ⟨kK, kL, pM⟩ := p8 (kJ) (jS) 0 (by decide)
 obtain ⟨an, kM, pO⟩ := p8 (kK) (kF + kH) 0 (by decide)
 obtain ⟨kN, kO, pP⟩ := p9 (am * 9940570264628428797) (7435674573564081700)
 obtain ⟨kP, kQ, pQ⟩ := p8 (kO) (jY) 0 (by decide)
 obtain ⟨ao, kR, pR⟩ := p8 (kP) (kI + kL + kM) 0 (by decide)
 obtain ⟨kT, kU, pS⟩ := p9 (am * 9940570264628428797) (7239337960414712511)
 obtain ⟨kV, kW, pT⟩ := p8 (kU) (kg) 0 (by decide)
 obtain ⟨ap, kX, pU⟩ := p8 (kV) (kN + kQ + kR) 0 (by decide)
 obtain ⟨kY, kZ, pV⟩ := p9 (am * 9940570264628428797) (5412103778470702295)
 obtain ⟨k6, k7, pW⟩ := p8 (kZ) (kp) 0 (by decide)
 obtain ⟨aq, k8, pX⟩ := p8 (k6) (kT + kW + kX) 0 (by decide)
 obtain ⟨k9, lb, pY⟩ := p9 (am * 9940570264628428797) (1873798617647539866)
 obtain ⟨lc, ld, pZ⟩ := p8 (lb) (kC) 0 (by decide)
 obtain ⟨ar, lf, p6⟩ := p8 (lc) (kY + k7 + k8) 0 (by decide)
 obtain ⟨au, ax, p7⟩ := p8 (kE) (k9 + ld + lf) 0 (by decide)
 obtain ⟨T6, Q5, hT6, hE5, hL6, hQ5⟩ := ti hT5 hB hL5 (by decide) pm pn po pp pq pr pt pu pv px py pz pA pB pC pD pE pG pH pI pK pL pM pO pP pQ pR pS pT pU pV pW pX pY pZ p6 p7
 obtain ⟨d0, k0, q0⟩ := qM (an) 13402431016077863595 0 (by decide)
 obtain ⟨d1, k1, q1⟩ := qM (ao) 2210141511517208575 k0 q0.2.2.2
 obtain ⟨d2, k2, q2⟩ := qM (ap) 7435674573564081700 k1 q1.2.2.2
 obtain ⟨d3, k3, q3⟩ := qM (aq) 7239337960414712511 k2 q2.2.2.2
 obtain ⟨d4, k4, q4⟩ := qM (ar) 5412103778470702295 k3 q3.2.2.2
 obtain ⟨d5, k5, q5⟩ := qM (au) 1873798617647539866 k4 q4.2.2.2
 obtain ⟨h1, h2, h3, h4⟩ := JU q0 q1 q2 q3 q4 q5
 simp only [Nat.reduceMod, Nat.reduceMul, Nat.reduceAdd] at h1
 have hm : (aw + ax) % 18446744073709551616 = 0 /\ an % 18446744073709551616 + 18446744073709551616 * (ao % 18446744073709551616 + 18446744073709551616 * (ap % 18446744073709551616 + 18446744073709551616 * (aq % 18446744073709551616 + 18446744073709551616 * (ar % 18446744073709551616 + 18446744073709551616 * (au % 18446744073709551616 + 18446744073709551616 * (0)))))) = T6 := by
  have e := hT6
  have l := hL6
  clear q0 q1 q2 q3 q4 q5 h1 h2 h4 hT1 hL1 hT2 hL2 hT3 hL3 hT4 hL4 hT5 hL5 hT6 hL6 hE0 hE1 hE2 hE3 hE4 hE5
  generalize an % 18446744073709551616 = Z0 at *
  generalize ao % 18446744073709551616 = Z1 at *
  generalize ap % 18446744073709551616 = Z2 at *
  generalize aq % 18446744073709551616 = Z3 at *
  generalize ar % 18446744073709551616 = Z4 at *
  generalize au % 18446744073709551616 = Z5 at *
  generalize (aw + ax) % 18446744073709551616 = Zm at *
  omega
 rw [hm.2] at h1
 refine ⟨T6 % 4002409555221667393417789825735904156556882819939007885332058136124031650490837864442687629129015664037894272559787, Nat.mod_lt _ (by decide), A6 (DZ a ha) hE0 hE1 hE2 hE3 hE4 hE5, ?_⟩
 have hC := ai (dS q5) (ai (dS q4) (ai (dS q3) (ai (dS q2) (ai (dS q1) (ai (dS q0) (ai (dB p7) (ai p6 (ai (dA pZ) (ai (dM pY) (ai pX (ai (dA pW) (ai (dM pV) (ai pU (ai (dA pT) (ai (dM pS) (ai pR (ai (dA pQ) (ai (dM pP) (ai pO (ai (dA pM) (ai (dM pL) (ai (dA pK) (ai (dM pI) (ai (dC pH) (ai pG (ai (dA pE) (ai pD (ai pC (ai (dA pB) (ai pA (ai pz (ai (dA py) (ai px (ai pv (ai (dA pu) (ai pt (ai pr (ai (dA pq) (ai pp (ai po (ai (dA pn) (ai pm (ai (dB pj) (ai pi (ai (dA ph) (ai (dM pg) (ai pf (ai (dA pd) (ai (dM pc) (ai pb (ai (dA pa) (ai (dM o9) (ai o8 (ai (dA o7) (ai (dM o6) (ai oZ (ai (dA oY) (ai (dM oX) (ai (dA oW) (ai (dM oU) (ai (dC oT) (ai oS (ai (dA oR) (ai oQ (ai oP (ai (dA oO) (ai oM (ai oK (ai (dA oJ) (ai oI (ai oH (ai (dA oG) (ai oF (ai oE (ai (dA oD) (ai oC (ai oB (ai (dA oA) (ai oz (ai (dB oy) (ai ox (ai (dA ow) (ai (dM ov) (ai ou (ai (dA oq) (ai (dM oo) (ai om (ai (dA ol) (ai (dM oh) (ai og (ai (dA oe) (ai (dM od) (ai oc (ai (dA oa) (ai (dM n9) (ai (dA n8) (ai (dM n6) (ai (dC nZ) (ai nW (ai (dA nV) (ai nU (ai nT (ai (dA nS) (ai nR (ai nQ (ai (dA nP) (ai nO (ai nN (ai (dA nM) (ai nL (ai nK (ai (dA nJ) (ai nI (ai nH (ai (dA nG) (ai nF (ai (dB nE) (ai nD (ai (dA nC) (ai (dM nB) (ai nA (ai (dA nz) (ai (dM ny) (ai nx (ai (dA nw) (ai (dM nv) (ai nu (ai (dA nt) (ai (dM nr) (ai nq (ai (dA np) (ai (dM nn) (ai (dA nl) (ai (dM nh) (ai (dC ng) (ai nf (ai (dA ne) (ai na (ai m9 (ai (dA m8) (ai m7 (ai m0 (ai (dA mZ) (ai mY (ai mX (ai (dA mW) (ai mV (ai mU (ai (dA mT) (ai mS (ai mR (ai (dA mQ) (ai mP (ai (dB mO) (ai mN (ai (dA mM) (ai (dM mL) (ai mK (ai (dA mJ) (ai (dM mI) (ai mH (ai (dA mG) (ai (dM mF) (ai mE (ai (dA mD) (ai (dM mC) (ai mB (ai (dA mA) (ai (dM mz) (ai (dA my) (ai (dM mv) (ai (dC mu) (ai mt (ai (dA ms) (ai mq (ai mm (ai (dA ml) (ai mj (ai mi (ai (dA mh) (ai mg (ai mf (ai (dA me) (ai mc (ai mb (ai (dA ma) (ai l9 (ai l8 (ai (dA l7) (ai l6 (ai (dB lZ) (ai lY (ai (dA lX) (ai (dM lW) (ai lV (ai (dA lU) (ai (dM lT) (ai lS (ai (dA lR) (ai (dM lQ) (ai lP (ai (dA lO) (ai (dM lN) (ai lM (ai (dA lL) (ai (dM lK) (ai (dA lJ) (ai (dM lH) (ai lG (ai lF (ai lE (ai lD (ai lC (ai lB (ai lA (ai lz (ai ly (ai lx (ai lw (ai lv (ai lu (ai lr (ai ln (ai lm (ai ll (ai lh (ai lg tt0)))))))))))))))))))))))))))))))))))))))))))))))))))))))))))))))))))))))))))))))))))))))))))))))))))))))))))))))))))))))))))))))))))))))))))))))))))))))))))))))))))))))))))))))))))))))))))))))))))))))))))))))))))))))))))))))))))
 by_cases hk : k5 = 0
 ·have hv : T6 % 4002409555221667393417789825735904156556882819939007885332058136124031650490837864442687629129015664037894272559787 = d0 % 18446744073709551616 + 18446744073709551616 * (d1 % 18446744073709551616 + 18446744073709551616 * (d2 % 18446744073709551616 + 18446744073709551616 * (d3 % 18446744073709551616 + 18446744073709551616 * (d4 % 18446744073709551616 + 18446744073709551616 * (d5 % 18446744073709551616 + 18446744073709551616 * (0)))))) := by
   rw [h2]
   generalize d0 + 18446744073709551616 * (d1 + 18446744073709551616 * (d2 + 18446744073709551616 * (d3 + 18446744073709551616 * (d4 + 18446744073709551616 * (d5 + 18446744073709551616 * (0)))))) = D at *
   have l := hL6
   clear hC q0 q1 q2 q3 q4 q5 hm hT1 hL1 hT2 hL2 hT3 hL3 hT4 hL4 hT5 hL5 hT6 hL6 hE0 hE1 hE2 hE3 hE4 hE5
   omega
  rw [hv]
  refine BF (l := [.n 1 d0, .n 1 d1, .n 1 d2, .n 1 d3, .n 1 d4, .n 1 d5]) ?_ rfl
  exact qa (P := prog) (env := [sX, tl, vk, eRP]) ⟨rA, rF, sS, wU, tt0⟩ func43 2 (oN [(39, ay, az), (49, aA, aB), (61, ae, aC), (85, aD, aE), (95, aF, aG), (107, aH, aI), (131, aJ, aK), (141, aL, aM), (153, aN, aO), (177, aP, aQ), (187, aR, aS), (199, aT, aU), (223, aV, aW), (233, aX, aY), (245, aZ, a6), (269, a7, a8), (279, a9, ba), (291, bc, be), (314, bf, bg), (335, bh, bn), (344, lI, br), (362, bu, bv), (372, bw, bx), (384, bz, bA), (410, bB, bC), (420, bD, bE), (432, bF, bG), (458, bH, bI), (468, bJ, bK), (480, bL, bM), (506, bN, bO), (516, bP, bR), (528, bS, bU), (554, bV, bW), (564, bX, bY), (576, bZ, b6), (603, b7, b8), (640, b9, cb), (650, ce, cf), (662, ah, cg), (686, ck, cm), (696, cn, co), (708, cq, cr), (732, ct, cu), (742, cv, cw), (754, cx, cy), (778, cz, cA), (788, cB, cC), (800, cD, cE), (824, cF, cG), (834, cH, cI), (846, cJ, cL), (870, cM, cN), (880, cO, cP), (892, cQ, cS), (915, cT, cU), (936, cV, cW), (945, mw, cX), (963, cY, cZ), (973, c9, da), (985, db, dc), (1011, dd, de), (1021, df, dh), (1033, di, dj), (1059, dk, dl), (1069, dm, dn), (1081, dp, dq), (1107, dr, dt), (1117, du, dv), (1129, dw, dx), (1155, dy, dz), (1165, dD, dE), (1177, dF, dG), (1204, dH, dI), (1241, dJ, dK), (1251, dL, dN), (1263, aj, dO), (1287, dP, dQ), (1297, dT, dU), (1309, dV, dW), (1333, dX, dY), (1343, dZ, d9), (1355, eb, ed), (1379, ee, ef), (1389, eh, ei), (1401, ej, ek), (1425, eo, ep), (1435, er, eu), (1447, ew, ez), (1471, eA, eB), (1481, eC, eD), (1493, eE, eF), (1516, eG, eH), (1537, eI, eJ), (1546, nk, eK), (1564, eM, eN), (1574, eO, eQ), (1586, eU, eV), (1612, eW, eX), (1622, eY, eZ), (1634, e9, fa), (1660, fc, fe), (1670, fg, fh), (1682, fi, fj), (1708, fk, fl), (1718, fm, fo), (1730, fp, fq), (1756, ft, fu), (1766, fw, fx), (1778, fy, fA), (1805, fB, fC), (1842, fD, fE), (1852, fF, fG), (1864, ak, fH), (1888, fI, fJ), (1898, fK, fL), (1910, fM, fN), (1934, fO, fP), (1944, fQ, fR), (1956, fS, fT), (1980, fU, fV), (1990, fW, fX), (2002, fY, fZ), (2026, ga, gb), (2036, gd, ge), (2048, gg, gh), (2072, gk, gl), (2082, gm, gn), (2094, gs, gt), (2117, gu, gv), (2138, gA, gB), (2147, n7, gC), (2165, gD, gF), (2175, gG, gH), (2187, gI, gJ), (2213, gL, gM), (2223, gN, gO), (2235, gP, gR), (2261, gS, gT), (2271, gU, gV), (2283, gW, gX), (2309, gY, gZ), (2319, hJ, ia), (2331, ib, ic), (2357, ig, ij), (2367, ik, il), (2379, im, io), (2406, ip, iq), (2443, ir, iu), (2453, iv, iw), (2465, al, ix), (2489, iy, iz), (2499, iA, iB), (2511, iC, iD), (2535, iE, iF), (2545, iG, iH), (2557, iI, iJ), (2581, iK, iL), (2591, iM, iN), (2603, iO, iP), (2627, iQ, iR), (2637, iS, iT), (2649, iU, iV), (2673, iW, iX), (2683, iY, iZ), (2695, i6, i7), (2718, i8, i9), (2739, ja, jb), (2748, oV, jc), (2766, jd, je), (2776, jf, jg), (2788, jh, ji), (2814, jj, jk), (2824, jl, jm), (2836, jn, jo), (2862, jp, jq), (2872, jr, js), (2884, jt, ju), (2910, jv, jw), (2920, jx, jy), (2932, jz, jA), (2958, jB, jC), (2968, jD, jE), (2980, jF, jG), (3007, jH, jI), (3044, jJ, jK), (3054, jL, jM), (3066, am, jN), (3090, jO, jP), (3100, jQ, jR), (3112, jS, jT), (3136, jU, jV), (3146, jW, jX), (3158, jY, jZ), (3182, j0, j7), (3192, j8, j9), (3204, kg, kh), (3228, ki, kj), (3238, km, kn), (3250, kp, kq), (3274, ku, kw), (3284, kA, kB), (3296, kC, kD), (3319, kE, aw), (3340, kF, kG), (3349, pJ, kH), (3367, kI, kJ), (3377, kK, kL), (3389, an, kM), (3415, kN, kO), (3425, kP, kQ), (3437, ao, kR), (3463, kT, kU), (3473, kV, kW), (3485, ap, kX), (3511, kY, kZ), (3521, k6, k7), (3533, aq, k8), (3559, k9, lb), (3569, lc, ld), (3581, ar, lf), (3608, au, ax), (3653, d0, k0), (3675, d1, k1), (3697, d2, k2), (3719, d3, k3), (3741, d4, k4), (3763, d5, k5)] [(3775, 1)]) (by kernel_rfl) (ai (show decide (k5 % 18446744073709551616 <= ((aw / 1 + ax) / 1) % 18446744073709551616) = true by simp only [Nat.div_one, hk, hm.1]; rfl) hC)
 ·have hv : T6 % 4002409555221667393417789825735904156556882819939007885332058136124031650490837864442687629129015664037894272559787 = an % 18446744073709551616 + 18446744073709551616 * (ao % 18446744073709551616 + 18446744073709551616 * (ap % 18446744073709551616 + 18446744073709551616 * (aq % 18446744073709551616 + 18446744073709551616 * (ar % 18446744073709551616 + 18446744073709551616 * (au % 18446744073709551616 + 18446744073709551616 * (0)))))) := by
   rw [hm.2]
   generalize d0 + 18446744073709551616 * (d1 + 18446744073709551616 * (d2 + 18446744073709551616 * (d3 + 18446744073709551616 * (d4 + 18446744073709551616 * (d5 + 18446744073709551616 * (0)))))) = D at *
   have l := hL6
   clear hC q0 q1 q2 q3 q4 q5 hm hT1 hL1 hT2 hL2 hT3 hL3 hT4 hL4 hT5 hL5 hT6 hL6 hE0 hE1 hE2 hE3 hE4 hE5
   omega
  rw [hv]
  refine BF (l := [.n 1 an, .n 1 ao, .n 1 ap, .n 1 aq, .n 1 ar, .n 1 au]) ?_ rfl
  exact qa (P := prog) (env := [sX, tl, vk, eRP]) ⟨rA, rF, sS, wU, tt0⟩ func43 2 (oN [(39, ay, az), (49, aA, aB), (61, ae, aC), (85, aD, aE), (95, aF, aG), (107, aH, aI), (131, aJ, aK), (141, aL, aM), (153, aN, aO), (177, aP, aQ), (187, aR, aS), (199, aT, aU), (223, aV, aW), (233, aX, aY), (245, aZ, a6), (269, a7, a8), (279, a9, ba), (291, bc, be), (314, bf, bg), (335, bh, bn), (344, lI, br), (362, bu, bv), (372, bw, bx), (384, bz, bA), (410, bB, bC), (420, bD, bE), (432, bF, bG), (458, bH, bI), (468, bJ, bK), (480, bL, bM), (506, bN, bO), (516, bP, bR), (528, bS, bU), (554, bV, bW), (564, bX, bY), (576, bZ, b6), (603, b7, b8), (640, b9, cb), (650, ce, cf), (662, ah, cg), (686, ck, cm), (696, cn, co), (708, cq, cr), (732, ct, cu), (742, cv, cw), (754, cx, cy), (778, cz, cA), (788, cB, cC), (800, cD, cE), (824, cF, cG), (834, cH, cI), (846, cJ, cL), (870, cM, cN), (880, cO, cP), (892, cQ, cS), (915, cT, cU), (936, cV, cW), (945, mw, cX), (963, cY, cZ), (973, c9, da), (985, db, dc), (1011, dd, de), (1021, df, dh), (1033, di, dj), (1059, dk, dl), (1069, dm, dn), (1081, dp, dq), (1107, dr, dt), (1117, du, dv), (1129, dw, dx), (1155, dy, dz), (1165, dD, dE), (1177, dF, dG), (1204, dH, dI), (1241, dJ, dK), (1251, dL, dN), (1263, aj, dO), (1287, dP, dQ), (1297, dT, dU), (1309, dV, dW), (1333, dX, dY), (1343, dZ, d9), (1355, eb, ed), (1379, ee, ef), (1389, eh, ei), (1401, ej, ek), (1425, eo, ep), (1435, er, eu), (1447, ew, ez), (1471, eA, eB), (1481, eC, eD), (1493, eE, eF), (1516, eG, eH), (1537, eI, eJ), (1546, nk, eK), (1564, eM, eN), (1574, eO, eQ), (1586, eU, eV), (1612, eW, eX), (1622, eY, eZ), (1634, e9, fa), (1660, fc, fe), (1670, fg, fh), (1682, fi, fj), (1708, fk, fl), (1718, fm, fo), (1730, fp, fq), (1756, ft, fu), (1766, fw, fx), (1778, fy, fA), (1805, fB, fC), (1842, fD, fE), (1852, fF, fG), (1864, ak, fH), (1888, fI, fJ), (1898, fK, fL), (1910, fM, fN), (1934, fO, fP), (1944, fQ, fR), (1956, fS, fT), (1980, fU, fV), (1990, fW, fX), (2002, fY, fZ), (2026, ga, gb), (2036, gd, ge), (2048, gg, gh), (2072, gk, gl), (2082, gm, gn), (2094, gs, gt), (2117, gu, gv), (2138, gA, gB), (2147, n7, gC), (2165, gD, gF), (2175, gG, gH), (2187, gI, gJ), (2213, gL, gM), (2223, gN, gO), (2235, gP, gR), (2261, gS, gT), (2271, gU, gV), (2283, gW, gX), (2309, gY, gZ), (2319, hJ, ia), (2331, ib, ic), (2357, ig, ij), (2367, ik, il), (2379, im, io), (2406, ip, iq), (2443, ir, iu), (2453, iv, iw), (2465, al, ix), (2489, iy, iz), (2499, iA, iB), (2511, iC, iD), (2535, iE, iF), (2545, iG, iH), (2557, iI, iJ), (2581, iK, iL), (2591, iM, iN), (2603, iO, iP), (2627, iQ, iR), (2637, iS, iT), (2649, iU, iV), (2673, iW, iX), (2683, iY, iZ), (2695, i6, i7), (2718, i8, i9), (2739, ja, jb), (2748, oV, jc), (2766, jd, je), (2776, jf, jg), (2788, jh, ji), (2814, jj, jk), (2824, jl, jm), (2836, jn, jo), (2862, jp, jq), (2872, jr, js), (2884, jt, ju), (2910, jv, jw), (2920, jx, jy), (2932, jz, jA), (2958, jB, jC), (2968, jD, jE), (2980, jF, jG), (3007, jH, jI), (3044, jJ, jK), (3054, jL, jM), (3066, am, jN), (3090, jO, jP), (3100, jQ, jR), (3112, jS, jT), (3136, jU, jV), (3146, jW, jX), (3158, jY, jZ), (3182, j0, j7), (3192, j8, j9), (3204, kg, kh), (3228, ki, kj), (3238, km, kn), (3250, kp, kq), (3274, ku, kw), (3284, kA, kB), (3296, kC, kD), (3319, kE, aw), (3340, kF, kG), (3349, pJ, kH), (3367, kI, kJ), (3377, kK, kL), (3389, an, kM), (3415, kN, kO), (3425, kP, kQ), (3437, ao, kR), (3463, kT, kU), (3473, kV, kW), (3485, ap, kX), (3511, kY, kZ), (3521, k6, k7), (3533, aq, k8), (3559, k9, lb), (3569, lc, ld), (3581, ar, lf), (3608, au, ax), (3653, d0, k0), (3675, d1, k1), (3697, d2, k2), (3719, d3, k3), (3741, d4, k4), (3763, d5, k5)] [(3775, 2)]) (by kernel_rfl) (ai (show decide (k5 % 18446744073709551616 <= ((aw / 1 + ax) / 1) % 18446744073709551616) = false by have k1 : k5 = 1 := Nat.le_antisymm h3 (Nat.one_le_iff_ne_zero.2 hk); simp only [Nat.div_one, k1, hm.1]; rfl) hC)
end Go.Proofs.YtfbkefgoblcmpaaGreat
