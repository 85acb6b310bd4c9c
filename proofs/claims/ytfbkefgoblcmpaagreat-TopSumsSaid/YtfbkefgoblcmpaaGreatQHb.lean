/- Pruned: Hb. -/
import Derived.Test.YtfbkefgoblcmpaaGreatQHg
import Derived.Test.YtfbkefgoblcmpaaGreatQHa
import Derived.Test.YtfbkefgoblcmpaaGreatQE2
set_option linter.unusedSimpArgs false
set_option linter.unusedVariables false
set_option maxHeartbeats 4000000
namespace Go.Proofs.YtfbkefgoblcmpaaGreat
open Go.Ev Go.RowKit
open Tryz
theorem Ft {P : Program} {f : FuncId} {args : List XV} {l : List Ch} {x : Nat} (h : Gives P f args (.ag l)) (hc : qL 4 l = some (x, [])) : Gives P f args (.ag [.n 4 x]) :=
 h.same (FH hc)
def eRS : Entry := wL 73 [(none, .ag [.c (.int .u64 18446744069414584321), .c (.int .u64 6034159408538082302), .c (.int .u64 3691218898639771653), .c (.int .u64 8353516859464449352)])]
theorem z7 : eRS.OK prog := ud (fun args w => Go.Proofs.enters_of (P := prog) func73 (by kernel_rfl) rfl args w)
 (only (qa (P := prog) (env := []) trivial func73 0 o0 (by kernel_rfl) tt0))
theorem aak (x : Nat) (hx : x < 2 * 52435875175126190479447740508185965837690552500527637822603658699938581184513) : Gives prog 87 [.t (.ag [.n 4 x])] (.ag [.n 4 (x % 52435875175126190479447740508185965837690552500527637822603658699938581184513)]) := by
 obtain ⟨d0, k0, q0⟩ := qM (x / 1) 18446744069414584321 0 (by decide)
 obtain ⟨d1, k1, q1⟩ := qM (x / 18446744073709551616) 6034159408538082302 k0 q0.2.2.2
 obtain ⟨d2, k2, q2⟩ := qM (x / 340282366920938463463374607431768211456) 3691218898639771653 k1 q1.2.2.2
 obtain ⟨d3, k3, q3⟩ := qM (x / 6277101735386680763835789423207666416102355444464034512896) 8353516859464449352 k2 q2.2.2.2
 obtain ⟨h1, h2, h3, h4⟩ := Mz q0 q1 q2 q3
 rw [LP x (by omega)] at h1
 simp only [Nat.reduceMod, Nat.reduceMul, Nat.reduceAdd] at h1
 have hC := ai q3 (ai q2 (ai q1 (ai q0 tt0)))
 by_cases hk : k3 = 0
 ·have hg := qa (P := prog) (env := [sX, eRS]) ⟨rA, z7, tt0⟩ func87 0 (oN [(19, d0, k0), (39, d1, k1), (59, d2, k2), (79, d3, k3)] [(90, 1)]) (args := [.t (.ag [.n 4 x])]) (r := .ag [.n 1 d0, .n 1 d1, .n 1 d2, .n 1 d3]) (by kernel_rfl) (ai (show decide (k3 % 18446744073709551616 = 0 % 18446744073709551616) = true by simp [hk]) hC)
  have hv : x % 52435875175126190479447740508185965837690552500527637822603658699938581184513 = d0 % 18446744073709551616 + 18446744073709551616 * (d1 % 18446744073709551616 + 18446744073709551616 * (d2 % 18446744073709551616 + 18446744073709551616 * (d3 % 18446744073709551616 + 18446744073709551616 * (0)))) := by
   rw [h2]
   generalize d0 + 18446744073709551616 * (d1 + 18446744073709551616 * (d2 + 18446744073709551616 * (d3 + 18446744073709551616 * (0)))) = D at *
   clear hg q0 q1 q2 q3
   omega
  rw [hv]
  exact Ft hg rfl
 ·have hg := qa (P := prog) (env := [sX, eRS]) ⟨rA, z7, tt0⟩ func87 0 (oN [(19, d0, k0), (39, d1, k1), (59, d2, k2), (79, d3, k3)] [(90, 2)]) (args := [.t (.ag [.n 4 x])]) (r := .ag [.n 4 x]) (by kernel_rfl) (ai (show decide (k3 % 18446744073709551616 = 0 % 18446744073709551616) = false by have h := q3.2.2.2; simp; omega) hC)
  have hv : x % 52435875175126190479447740508185965837690552500527637822603658699938581184513 = x := by
   generalize d0 + 18446744073709551616 * (d1 + 18446744073709551616 * (d2 + 18446744073709551616 * (d3 + 18446744073709551616 * (0)))) = D at *
   clear hg q0 q1 q2 q3
   omega
  rw [hv]
  exact hg
def eNS : Entry := qA 87 GR.x (fun x => [(some (x < 2 * 52435875175126190479447740508185965837690552500527637822603658699938581184513), .ag [.n 4 (x % 52435875175126190479447740508185965837690552500527637822603658699938581184513)])])
theorem VL : eNS.OK prog := qj (fun args w => Go.Proofs.enters_of (P := prog) func87 (by kernel_rfl) rfl args w) (fun u c r hm hc => by
 simp only [List.mem_singleton, pi0] at hm
 obtain ⟨rfl, rfl⟩ := hm
 exact aak u hc)
theorem SM (a b : Nat) (ha : a < 52435875175126190479447740508185965837690552500527637822603658699938581184513) (hb : b < 52435875175126190479447740508185965837690552500527637822603658699938581184513) : Gives prog 63 [.t (.ag [.n 4 a]), .t (.ag [.n 4 b])] (.ag [.n 4 ((a + b) % 52435875175126190479447740508185965837690552500527637822603658699938581184513)]) := by
 obtain ⟨d0, k0, q0⟩ := p8 (a / 1) (b / 1) 0 (by decide)
 obtain ⟨d1, k1, q1⟩ := p8 (a / 18446744073709551616) (b / 18446744073709551616) k0 q0.2.2.2
 obtain ⟨d2, k2, q2⟩ := p8 (a / 340282366920938463463374607431768211456) (b / 340282366920938463463374607431768211456) k1 q1.2.2.2
 obtain ⟨d3, k3, q3⟩ := p8 (a / 6277101735386680763835789423207666416102355444464034512896) (b / 6277101735386680763835789423207666416102355444464034512896) k2 q2.2.2.2
 obtain ⟨h1, h2, h3, h4⟩ := YY q0 q1 q2 q3
 rw [LP a (by omega), LP b (by omega)] at h1
 have hv : d0 % 18446744073709551616 + 18446744073709551616 * (d1 % 18446744073709551616 + 18446744073709551616 * (d2 % 18446744073709551616 + 18446744073709551616 * (d3 % 18446744073709551616 + 18446744073709551616 * (0)))) = a + b := by
  rw [h2]
  generalize d0 + 18446744073709551616 * (d1 + 18446744073709551616 * (d2 + 18446744073709551616 * (d3 + 18446744073709551616 * (0)))) = D at *
  clear q0 q1 q2 q3
  omega
 rw [← hv]
 exact qa (P := prog) (env := [tl, eNS]) ⟨rF, VL, tt0⟩ func63 0 (oN [(9, d0, k0), (21, d1, k1), (33, d2, k2), (45, d3, k3)] []) (by kernel_rfl) (ai (show d0 % 18446744073709551616 + 18446744073709551616 * (d1 % 18446744073709551616 + 18446744073709551616 * (d2 % 18446744073709551616 + 18446744073709551616 * (d3 % 18446744073709551616 + 18446744073709551616 * (0)))) < 2 * 52435875175126190479447740508185965837690552500527637822603658699938581184513 by rw [hv]; omega) (ai q3 (ai q2 (ai q1 (ai q0 tt0)))))
end Go.Proofs.YtfbkefgoblcmpaaGreat
set_option linter.unusedSimpArgs false
set_option linter.unusedVariables false
namespace Go.Proofs.YtfbkefgoblcmpaaGreat
open Go.Ev Go.RowKit
open Tryz
set_option maxHeartbeats 4000000 in
theorem aah (a : Nat) (ha : a < 115792089237316195423570985008687907853269984665640564039457584007913129639936) : ∃ v, v < 52435875175126190479447740508185965837690552500527637822603658699938581184513 /\ (v * 115792089237316195423570985008687907853269984665640564039457584007913129639936) % 52435875175126190479447740508185965837690552500527637822603658699938581184513 = (a * 3294906474794265442129797520630710739278575682199800681788903916070560242797) % 52435875175126190479447740508185965837690552500527637822603658699938581184513 /\ Gives prog 62 [.t (.ag [.n 4 a])] (.ag [.n 4 v]) := by
 have hB : 3294906474794265442129797520630710739278575682199800681788903916070560242797 = 14526898881837571181 % 18446744073709551616 + 18446744073709551616 * (3129137299524312099 % 18446744073709551616 + 18446744073709551616 * (419701826671360399 % 18446744073709551616 + 18446744073709551616 * (524908885293268753 % 18446744073709551616 + 18446744073709551616 * (0)))) := by simp only [Nat.reduceMod, Nat.reduceMul, Nat.reduceAdd]
 have hT0 : 0 = 0 % 18446744073709551616 + 18446744073709551616 * (0 % 18446744073709551616 + 18446744073709551616 * (0 % 18446744073709551616 + 18446744073709551616 * (0 % 18446744073709551616 + 18446744073709551616 * (0 % 18446744073709551616 + 18446744073709551616 * (0))))) := by simp only [Nat.zero_mod, Nat.mul_zero, Nat.add_zero]
 obtain ⟨ar, au, eJ⟩ := p9 (a / 1) (14526898881837571181)
 obtain ⟨aw, ax, eK⟩ := p8 (au) (0) 0 (by decide)
 obtain ⟨ae, ay, eM⟩ := p8 (aw) (0) 0 (by decide)
 obtain ⟨az, aA, eN⟩ := p9 (a / 1) (3129137299524312099)
 obtain ⟨aB, aC, eO⟩ := p8 (aA) (0) 0 (by decide)
 obtain ⟨aD, aE, eQ⟩ := p8 (aB) (ar + ax + ay) 0 (by decide)
 obtain ⟨aF, aG, eU⟩ := p9 (a / 1) (419701826671360399)
 obtain ⟨aH, aI, eV⟩ := p8 (aG) (0) 0 (by decide)
 obtain ⟨aJ, aK, eW⟩ := p8 (aH) (az + aC + aE) 0 (by decide)
 obtain ⟨aL, aM, eX⟩ := p9 (a / 1) (524908885293268753)
 obtain ⟨aN, aO, eY⟩ := p8 (aM) (0) 0 (by decide)
 obtain ⟨aP, aQ, eZ⟩ := p8 (aN) (aF + aI + aK) 0 (by decide)
 obtain ⟨aR, aS, e9⟩ := p8 (0) (aL + aO + aQ) 0 (by decide)
 obtain ⟨aT, aU, fa⟩ := p9 (ae * 18446744069414584319) (18446744069414584321)
 obtain ⟨fc, aV, fe⟩ := p8 (aU) (ae) 0 (by decide)
 obtain ⟨aW, aX, fg⟩ := p9 (ae * 18446744069414584319) (6034159408538082302)
 obtain ⟨aY, aZ, fh⟩ := p8 (aX) (aD) 0 (by decide)
 obtain ⟨a6, a7, fi⟩ := p8 (aY) (aT + aV) 0 (by decide)
 obtain ⟨a8, a9, fj⟩ := p9 (ae * 18446744069414584319) (3691218898639771653)
 obtain ⟨ba, bc, fk⟩ := p8 (a9) (aJ) 0 (by decide)
 obtain ⟨be, bf, fl⟩ := p8 (ba) (aW + aZ + a7) 0 (by decide)
 obtain ⟨bg, bh, fm⟩ := p9 (ae * 18446744069414584319) (8353516859464449352)
 obtain ⟨bn, br, fo⟩ := p8 (bh) (aP) 0 (by decide)
 obtain ⟨bu, bv, fp⟩ := p8 (bn) (a8 + bc + bf) 0 (by decide)
 obtain ⟨bw, bx, fq⟩ := p8 (aR) (bg + br + bv) 0 (by decide)
 obtain ⟨T1, Q0, hT1, hE0, hL1, hQ0⟩ := vI hT0 hB (by omega) (by decide) eJ eK eM eN eO eQ eU eV eW eX eY eZ e9 fa fe fg fh fi fj fk fl fm fo fp fq
 obtain ⟨bz, bA, ft⟩ := p9 (a / 18446744073709551616) (14526898881837571181)
 obtain ⟨bB, bC, fu⟩ := p8 (bA) (a6) 0 (by decide)
 obtain ⟨ah, bD, fw⟩ := p8 (bB) (0) 0 (by decide)
 obtain ⟨bE, bF, fx⟩ := p9 (a / 18446744073709551616) (3129137299524312099)
 obtain ⟨bG, bH, fy⟩ := p8 (bF) (be) 0 (by decide)
 obtain ⟨bI, bJ, fA⟩ := p8 (bG) (bz + bC + bD) 0 (by decide)
 obtain ⟨bK, bL, fB⟩ := p9 (a / 18446744073709551616) (419701826671360399)
 obtain ⟨bM, bN, fC⟩ := p8 (bL) (bu) 0 (by decide)
 obtain ⟨bO, bP, fD⟩ := p8 (bM) (bE + bH + bJ) 0 (by decide)
 obtain ⟨bR, bS, fE⟩ := p9 (a / 18446744073709551616) (524908885293268753)
 obtain ⟨bU, bV, fF⟩ := p8 (bS) (bw) 0 (by decide)
 obtain ⟨bW, bX, fG⟩ := p8 (bU) (bK + bN + bP) 0 (by decide)
 obtain ⟨bY, bZ, fH⟩ := p8 (aS + bx) (bR + bV + bX) 0 (by decide)
 obtain ⟨b6, b7, fI⟩ := p9 (ah * 18446744069414584319) (18446744069414584321)
 obtain ⟨fJ, b8, fK⟩ := p8 (b7) (ah) 0 (by decide)
 obtain ⟨b9, cb, fL⟩ := p9 (ah * 18446744069414584319) (6034159408538082302)
 obtain ⟨ce, cf, fM⟩ := p8 (cb) (bI) 0 (by decide)
 obtain ⟨cg, ck, fN⟩ := p8 (ce) (b6 + b8) 0 (by decide)
 obtain ⟨cm, cn, fO⟩ := p9 (ah * 18446744069414584319) (3691218898639771653)
 obtain ⟨co, cq, fP⟩ := p8 (cn) (bO) 0 (by decide)
 obtain ⟨cr, ct, fQ⟩ := p8 (co) (b9 + cf + ck) 0 (by decide)
 obtain ⟨cu, cv, fR⟩ := p9 (ah * 18446744069414584319) (8353516859464449352)
 obtain ⟨cw, cx, fS⟩ := p8 (cv) (bW) 0 (by decide)
 obtain ⟨cy, cz, fT⟩ := p8 (cw) (cm + cq + ct) 0 (by decide)
 obtain ⟨cA, cB, fU⟩ := p8 (bY) (cu + cx + cz) 0 (by decide)
 obtain ⟨T2, Q1, hT2, hE1, hL2, hQ1⟩ := vI hT1 hB hL1 (by decide) ft fu fw fx fy fA fB fC fD fE fF fG fH fI fK fL fM fN fO fP fQ fR fS fT fU
 obtain ⟨cC, cD, fV⟩ := p9 (a / 340282366920938463463374607431768211456) (14526898881837571181)
 obtain ⟨cE, cF, fW⟩ := p8 (cD) (cg) 0 (by decide)
 obtain ⟨aj, cG, fX⟩ := p8 (cE) (0) 0 (by decide)
 obtain ⟨cH, cI, fY⟩ := p9 (a / 340282366920938463463374607431768211456) (3129137299524312099)
 obtain ⟨cJ, cL, fZ⟩ := p8 (cI) (cr) 0 (by decide)
 obtain ⟨cM, cN, ga⟩ := p8 (cJ) (cC + cF + cG) 0 (by decide)
 obtain ⟨cO, cP, gb⟩ := p9 (a / 340282366920938463463374607431768211456) (419701826671360399)
 obtain ⟨cQ, cS, gd⟩ := p8 (cP) (cy) 0 (by decide)
 obtain ⟨cT, cU, ge⟩ := p8 (cQ) (cH + cL + cN) 0 (by decide)
 obtain ⟨cV, cW, gg⟩ := p9 (a / 340282366920938463463374607431768211456) (524908885293268753)
 obtain ⟨cX, cY, gh⟩ := p8 (cW) (cA) 0 (by decide)
 obtain ⟨cZ, c9, gk⟩ := p8 (cX) (cO + cS + cU) 0 (by decide)
 obtain ⟨da, db, gl⟩ := p8 (bZ + cB) (cV + cY + c9) 0 (by decide)
 obtain ⟨dc, dd, gm⟩ := p9 (aj * 18446744069414584319) (18446744069414584321)
 obtain ⟨gn, de, gs⟩ := p8 (dd) (aj) 0 (by decide)
 obtain ⟨df, dh, gt⟩ := p9 (aj * 18446744069414584319) (6034159408538082302)
 obtain ⟨di, dj, gu⟩ := p8 (dh) (cM) 0 (by decide)
 obtain ⟨dk, dl, gv⟩ := p8 (di) (dc + de) 0 (by decide)
 obtain ⟨dm, dn, gA⟩ := p9 (aj * 18446744069414584319) (3691218898639771653)
 obtain ⟨dp, dq, gB⟩ := p8 (dn) (cT) 0 (by decide)
 obtain ⟨dr, dt, gC⟩ := p8 (dp) (df + dj + dl) 0 (by decide)
 obtain ⟨du, dv, gD⟩ := p9 (aj * 18446744069414584319) (8353516859464449352)
 obtain ⟨dw, dx, gF⟩ := p8 (dv) (cZ) 0 (by decide)
 obtain ⟨dy, dz, gG⟩ := p8 (dw) (dm + dq + dt) 0 (by decide)
 obtain ⟨dD, dE, gH⟩ := p8 (da) (du + dx + dz) 0 (by decide)
 obtain ⟨T3, Q2, hT3, hE2, hL3, hQ2⟩ := vI hT2 hB hL2 (by decide) fV fW fX fY fZ ga gb gd ge gg gh gk gl gm gs gt gu gv gA gB gC gD gF gG gH
 obtain ⟨dF, dG, gI⟩ := p9 (a / 6277101735386680763835789423207666416102355444464034512896) (14526898881837571181)
 obtain ⟨dH, dI, gJ⟩ := p8 (dG) (dk) 0 (by decide)
 obtain ⟨ak, dJ, gL⟩ := p8 (dH) (0) 0 (by decide)
 obtain ⟨dK, dL, gM⟩ := p9 (a / 6277101735386680763835789423207666416102355444464034512896) (3129137299524312099)
 obtain ⟨dN, dO, gN⟩ := p8 (dL) (dr) 0 (by decide)
 obtain ⟨dP, dQ, gO⟩ := p8 (dN) (dF + dI + dJ) 0 (by decide)
 obtain ⟨dT, dU, gP⟩ := p9 (a / 6277101735386680763835789423207666416102355444464034512896) (419701826671360399)
 obtain ⟨dV, dW, gR⟩ := p8 (dU) (dy) 0 (by decide)
 obtain ⟨dX, dY, gS⟩ := p8 (dV) (dK + dO + dQ) 0 (by decide)
 obtain ⟨dZ, d9, gT⟩ := p9 (a / 6277101735386680763835789423207666416102355444464034512896) (524908885293268753)
 obtain ⟨eb, ed, gU⟩ := p8 (d9) (dD) 0 (by decide)
 obtain ⟨ee, ef, gV⟩ := p8 (eb) (dT + dW + dY) 0 (by decide)
 obtain ⟨eh, ap, gW⟩ := p8 (db + dE) (dZ + ed + ef) 0 (by decide)
 obtain ⟨ei, ej, gX⟩ := p9 (ak * 18446744069414584319) (18446744069414584321)
 obtain ⟨gY, ek, gZ⟩ := p8 (ej) (ak) 0 (by decide)
 obtain ⟨eo, ep, hJ⟩ := p9 (ak * 18446744069414584319) (6034159408538082302)
 obtain ⟨er, eu, ia⟩ := p8 (ep) (dP) 0 (by decide)
 obtain ⟨al, ew, ib⟩ := p8 (er) (ei + ek) 0 (by decide)
 obtain ⟨ez, eA, ic⟩ := p9 (ak * 18446744069414584319) (3691218898639771653)
 obtain ⟨eB, eC, ig⟩ := p8 (eA) (dX) 0 (by decide)
 obtain ⟨am, eD, ij⟩ := p8 (eB) (eo + eu + ew) 0 (by decide)
 obtain ⟨eE, eF, ik⟩ := p9 (ak * 18446744069414584319) (8353516859464449352)
 obtain ⟨eG, eH, il⟩ := p8 (eF) (ee) 0 (by decide)
 obtain ⟨an, eI, im⟩ := p8 (eG) (ez + eC + eD) 0 (by decide)
 obtain ⟨ao, aq, io⟩ := p8 (eh) (eE + eH + eI) 0 (by decide)
 obtain ⟨T4, Q3, hT4, hE3, hL4, hQ3⟩ := vI hT3 hB hL3 (by decide) gI gJ gL gM gN gO gP gR gS gT gU gV gW gX gZ hJ ia ib ic ig ij ik il im io
 obtain ⟨d0, k0, q0⟩ := qM (al) 18446744069414584321 0 (by decide)
 obtain ⟨d1, k1, q1⟩ := qM (am) 6034159408538082302 k0 q0.2.2.2
 obtain ⟨d2, k2, q2⟩ := qM (an) 3691218898639771653 k1 q1.2.2.2
 obtain ⟨d3, k3, q3⟩ := qM (ao) 8353516859464449352 k2 q2.2.2.2
 obtain ⟨h1, h2, h3, h4⟩ := Mz q0 q1 q2 q3
 simp only [Nat.reduceMod, Nat.reduceMul, Nat.reduceAdd] at h1
 have hm : (ap + aq) % 18446744073709551616 = 0 /\ al % 18446744073709551616 + 18446744073709551616 * (am % 18446744073709551616 + 18446744073709551616 * (an % 18446744073709551616 + 18446744073709551616 * (ao % 18446744073709551616 + 18446744073709551616 * (0)))) = T4 := by
  have e := hT4
  have l := hL4
  clear q0 q1 q2 q3 h1 h2 h4 hT1 hL1 hT2 hL2 hT3 hL3 hT4 hL4 hE0 hE1 hE2 hE3
  generalize al % 18446744073709551616 = Z0 at *
  generalize am % 18446744073709551616 = Z1 at *
  generalize an % 18446744073709551616 = Z2 at *
  generalize ao % 18446744073709551616 = Z3 at *
  generalize (ap + aq) % 18446744073709551616 = Zm at *
  omega
 rw [hm.2] at h1
 refine ⟨T4 % 52435875175126190479447740508185965837690552500527637822603658699938581184513, Nat.mod_lt _ (by decide), XO (LP a ha) hE0 hE1 hE2 hE3, ?_⟩
 have hC := ai (dS q3) (ai (dS q2) (ai (dS q1) (ai (dS q0) (ai (dB io) (ai im (ai (dA il) (ai (dM ik) (ai ij (ai (dA ig) (ai (dM ic) (ai ib (ai (dA ia) (ai (dM hJ) (ai (dA gZ) (ai (dM gX) (ai (dC gW) (ai gV (ai (dA gU) (ai gT (ai gS (ai (dA gR) (ai gP (ai gO (ai (dA gN) (ai gM (ai gL (ai (dA gJ) (ai gI (ai (dB gH) (ai gG (ai (dA gF) (ai (dM gD) (ai gC (ai (dA gB) (ai (dM gA) (ai gv (ai (dA gu) (ai (dM gt) (ai (dA gs) (ai (dM gm) (ai (dC gl) (ai gk (ai (dA gh) (ai gg (ai ge (ai (dA gd) (ai gb (ai ga (ai (dA fZ) (ai fY (ai fX (ai (dA fW) (ai fV (ai (dB fU) (ai fT (ai (dA fS) (ai (dM fR) (ai fQ (ai (dA fP) (ai (dM fO) (ai fN (ai (dA fM) (ai (dM fL) (ai (dA fK) (ai (dM fI) (ai (dC fH) (ai fG (ai (dA fF) (ai fE (ai fD (ai (dA fC) (ai fB (ai fA (ai (dA fy) (ai fx (ai fw (ai (dA fu) (ai ft (ai (dB fq) (ai fp (ai (dA fo) (ai (dM fm) (ai fl (ai (dA fk) (ai (dM fj) (ai fi (ai (dA fh) (ai (dM fg) (ai (dA fe) (ai (dM fa) (ai e9 (ai eZ (ai eY (ai eX (ai eW (ai eV (ai eU (ai eQ (ai eO (ai eN (ai eM (ai eK (ai eJ tt0)))))))))))))))))))))))))))))))))))))))))))))))))))))))))))))))))))))))))))))))))))))))))))))))))))))))
 by_cases hk : k3 = 0
 ·have hv : T4 % 52435875175126190479447740508185965837690552500527637822603658699938581184513 = d0 % 18446744073709551616 + 18446744073709551616 * (d1 % 18446744073709551616 + 18446744073709551616 * (d2 % 18446744073709551616 + 18446744073709551616 * (d3 % 18446744073709551616 + 18446744073709551616 * (0)))) := by
   rw [h2]
   generalize d0 + 18446744073709551616 * (d1 + 18446744073709551616 * (d2 + 18446744073709551616 * (d3 + 18446744073709551616 * (0)))) = D at *
   have l := hL4
   clear hC q0 q1 q2 q3 hm hT1 hL1 hT2 hL2 hT3 hL3 hT4 hL4 hE0 hE1 hE2 hE3
   omega
  rw [hv]
  refine Ft (l := [.n 1 d0, .n 1 d1, .n 1 d2, .n 1 d3]) ?_ rfl
  exact qa (P := prog) (env := [sX, tl, vk, eRS]) ⟨rA, rF, sS, z7, tt0⟩ func62 2 (oN [(39, ar, au), (49, aw, ax), (61, ae, ay), (85, az, aA), (95, aB, aC), (107, aD, aE), (131, aF, aG), (141, aH, aI), (153, aJ, aK), (177, aL, aM), (187, aN, aO), (199, aP, aQ), (222, aR, aS), (243, aT, aU), (252, fc, aV), (270, aW, aX), (280, aY, aZ), (292, a6, a7), (318, a8, a9), (328, ba, bc), (340, be, bf), (366, bg, bh), (376, bn, br), (388, bu, bv), (415, bw, bx), (452, bz, bA), (462, bB, bC), (474, ah, bD), (498, bE, bF), (508, bG, bH), (520, bI, bJ), (544, bK, bL), (554, bM, bN), (566, bO, bP), (590, bR, bS), (600, bU, bV), (612, bW, bX), (635, bY, bZ), (656, b6, b7), (665, fJ, b8), (683, b9, cb), (693, ce, cf), (705, cg, ck), (731, cm, cn), (741, co, cq), (753, cr, ct), (779, cu, cv), (789, cw, cx), (801, cy, cz), (828, cA, cB), (865, cC, cD), (875, cE, cF), (887, aj, cG), (911, cH, cI), (921, cJ, cL), (933, cM, cN), (957, cO, cP), (967, cQ, cS), (979, cT, cU), (1003, cV, cW), (1013, cX, cY), (1025, cZ, c9), (1048, da, db), (1069, dc, dd), (1078, gn, de), (1096, df, dh), (1106, di, dj), (1118, dk, dl), (1144, dm, dn), (1154, dp, dq), (1166, dr, dt), (1192, du, dv), (1202, dw, dx), (1214, dy, dz), (1241, dD, dE), (1278, dF, dG), (1288, dH, dI), (1300, ak, dJ), (1324, dK, dL), (1334, dN, dO), (1346, dP, dQ), (1370, dT, dU), (1380, dV, dW), (1392, dX, dY), (1416, dZ, d9), (1426, eb, ed), (1438, ee, ef), (1461, eh, ap), (1482, ei, ej), (1491, gY, ek), (1509, eo, ep), (1519, er, eu), (1531, al, ew), (1557, ez, eA), (1567, eB, eC), (1579, am, eD), (1605, eE, eF), (1615, eG, eH), (1627, an, eI), (1654, ao, aq), (1699, d0, k0), (1721, d1, k1), (1743, d2, k2), (1765, d3, k3)] [(1777, 1)]) (by kernel_rfl) (ai (show decide (k3 % 18446744073709551616 <= ((ap / 1 + aq) / 1) % 18446744073709551616) = true by simp only [Nat.div_one, hk, hm.1]; rfl) hC)
 ·have hv : T4 % 52435875175126190479447740508185965837690552500527637822603658699938581184513 = al % 18446744073709551616 + 18446744073709551616 * (am % 18446744073709551616 + 18446744073709551616 * (an % 18446744073709551616 + 18446744073709551616 * (ao % 18446744073709551616 + 18446744073709551616 * (0)))) := by
   rw [hm.2]
   generalize d0 + 18446744073709551616 * (d1 + 18446744073709551616 * (d2 + 18446744073709551616 * (d3 + 18446744073709551616 * (0)))) = D at *
   have l := hL4
   clear hC q0 q1 q2 q3 hm hT1 hL1 hT2 hL2 hT3 hL3 hT4 hL4 hE0 hE1 hE2 hE3
   omega
  rw [hv]
  refine Ft (l := [.n 1 al, .n 1 am, .n 1 an, .n 1 ao]) ?_ rfl
  exact qa (P := prog) (env := [sX, tl, vk, eRS]) ⟨rA, rF, sS, z7, tt0⟩ func62 2 (oN [(39, ar, au), (49, aw, ax), (61, ae, ay), (85, az, aA), (95, aB, aC), (107, aD, aE), (131, aF, aG), (141, aH, aI), (153, aJ, aK), (177, aL, aM), (187, aN, aO), (199, aP, aQ), (222, aR, aS), (243, aT, aU), (252, fc, aV), (270, aW, aX), (280, aY, aZ), (292, a6, a7), (318, a8, a9), (328, ba, bc), (340, be, bf), (366, bg, bh), (376, bn, br), (388, bu, bv), (415, bw, bx), (452, bz, bA), (462, bB, bC), (474, ah, bD), (498, bE, bF), (508, bG, bH), (520, bI, bJ), (544, bK, bL), (554, bM, bN), (566, bO, bP), (590, bR, bS), (600, bU, bV), (612, bW, bX), (635, bY, bZ), (656, b6, b7), (665, fJ, b8), (683, b9, cb), (693, ce, cf), (705, cg, ck), (731, cm, cn), (741, co, cq), (753, cr, ct), (779, cu, cv), (789, cw, cx), (801, cy, cz), (828, cA, cB), (865, cC, cD), (875, cE, cF), (887, aj, cG), (911, cH, cI), (921, cJ, cL), (933, cM, cN), (957, cO, cP), (967, cQ, cS), (979, cT, cU), (1003, cV, cW), (1013, cX, cY), (1025, cZ, c9), (1048, da, db), (1069, dc, dd), (1078, gn, de), (1096, df, dh), (1106, di, dj), (1118, dk, dl), (1144, dm, dn), (1154, dp, dq), (1166, dr, dt), (1192, du, dv), (1202, dw, dx), (1214, dy, dz), (1241, dD, dE), (1278, dF, dG), (1288, dH, dI), (1300, ak, dJ), (1324, dK, dL), (1334, dN, dO), (1346, dP, dQ), (1370, dT, dU), (1380, dV, dW), (1392, dX, dY), (1416, dZ, d9), (1426, eb, ed), (1438, ee, ef), (1461, eh, ap), (1482, ei, ej), (1491, gY, ek), (1509, eo, ep), (1519, er, eu), (1531, al, ew), (1557, ez, eA), (1567, eB, eC), (1579, am, eD), (1605, eE, eF), (1615, eG, eH), (1627, an, eI), (1654, ao, aq), (1699, d0, k0), (1721, d1, k1), (1743, d2, k2), (1765, d3, k3)] [(1777, 2)]) (by kernel_rfl) (ai (show decide (k3 % 18446744073709551616 <= ((ap / 1 + aq) / 1) % 18446744073709551616) = false by have k1 : k3 = 1 := Nat.le_antisymm h3 (Nat.one_le_iff_ne_zero.2 hk); simp only [Nat.div_one, k1, hm.1]; rfl) hC)
end Go.Proofs.YtfbkefgoblcmpaaGreat
set_option linter.unusedSimpArgs false
set_option linter.unusedVariables false
namespace Go.Proofs.YtfbkefgoblcmpaaGreat
open Go.Ev Go.RowKit
open Tryz
set_option maxHeartbeats 4000000 in
theorem X7 (a : Nat) (ha : a < 115792089237316195423570985008687907853269984665640564039457584007913129639936) : ∃ v, v < 52435875175126190479447740508185965837690552500527637822603658699938581184513 /\ (v * 115792089237316195423570985008687907853269984665640564039457584007913129639936) % 52435875175126190479447740508185965837690552500527637822603658699938581184513 = (a * 1) % 52435875175126190479447740508185965837690552500527637822603658699938581184513 /\ Gives prog 64 [.t (.ag [.n 4 a])] (.ag [.n 4 v]) := by
 have hB : 1 = 1 % 18446744073709551616 + 18446744073709551616 * (0 % 18446744073709551616 + 18446744073709551616 * (0 % 18446744073709551616 + 18446744073709551616 * (0 % 18446744073709551616 + 18446744073709551616 * (0)))) := by simp only [Nat.reduceMod, Nat.reduceMul, Nat.reduceAdd]
 have hT0 : 0 = 0 % 18446744073709551616 + 18446744073709551616 * (0 % 18446744073709551616 + 18446744073709551616 * (0 % 18446744073709551616 + 18446744073709551616 * (0 % 18446744073709551616 + 18446744073709551616 * (0 % 18446744073709551616 + 18446744073709551616 * (0))))) := by simp only [Nat.zero_mod, Nat.mul_zero, Nat.add_zero]
 obtain ⟨ar, au, eJ⟩ := p9 (a / 1) (1)
 obtain ⟨aw, ax, eK⟩ := p8 (au) (0) 0 (by decide)
 obtain ⟨ae, ay, eM⟩ := p8 (aw) (0) 0 (by decide)
 obtain ⟨az, aA, eN⟩ := p9 (a / 1) (0)
 obtain ⟨aB, aC, eO⟩ := p8 (aA) (0) 0 (by decide)
 obtain ⟨aD, aE, eQ⟩ := p8 (aB) (ar + ax + ay) 0 (by decide)
 obtain ⟨aF, aG, eU⟩ := p9 (a / 1) (0)
 obtain ⟨aH, aI, eV⟩ := p8 (aG) (0) 0 (by decide)
 obtain ⟨aJ, aK, eW⟩ := p8 (aH) (az + aC + aE) 0 (by decide)
 obtain ⟨aL, aM, eX⟩ := p9 (a / 1) (0)
 obtain ⟨aN, aO, eY⟩ := p8 (aM) (0) 0 (by decide)
 obtain ⟨aP, aQ, eZ⟩ := p8 (aN) (aF + aI + aK) 0 (by decide)
 obtain ⟨aR, aS, e9⟩ := p8 (0) (aL + aO + aQ) 0 (by decide)
 obtain ⟨aT, aU, fa⟩ := p9 (ae * 18446744069414584319) (18446744069414584321)
 obtain ⟨fc, aV, fe⟩ := p8 (aU) (ae) 0 (by decide)
 obtain ⟨aW, aX, fg⟩ := p9 (ae * 18446744069414584319) (6034159408538082302)
 obtain ⟨aY, aZ, fh⟩ := p8 (aX) (aD) 0 (by decide)
 obtain ⟨a6, a7, fi⟩ := p8 (aY) (aT + aV) 0 (by decide)
 obtain ⟨a8, a9, fj⟩ := p9 (ae * 18446744069414584319) (3691218898639771653)
 obtain ⟨ba, bc, fk⟩ := p8 (a9) (aJ) 0 (by decide)
 obtain ⟨be, bf, fl⟩ := p8 (ba) (aW + aZ + a7) 0 (by decide)
 obtain ⟨bg, bh, fm⟩ := p9 (ae * 18446744069414584319) (8353516859464449352)
 obtain ⟨bn, br, fo⟩ := p8 (bh) (aP) 0 (by decide)
 obtain ⟨bu, bv, fp⟩ := p8 (bn) (a8 + bc + bf) 0 (by decide)
 obtain ⟨bw, bx, fq⟩ := p8 (aR) (bg + br + bv) 0 (by decide)
 obtain ⟨T1, Q0, hT1, hE0, hL1, hQ0⟩ := vI hT0 hB (by omega) (by decide) eJ eK eM eN eO eQ eU eV eW eX eY eZ e9 fa fe fg fh fi fj fk fl fm fo fp fq
 obtain ⟨bz, bA, ft⟩ := p9 (a / 18446744073709551616) (1)
 obtain ⟨bB, bC, fu⟩ := p8 (bA) (a6) 0 (by decide)
 obtain ⟨ah, bD, fw⟩ := p8 (bB) (0) 0 (by decide)
 obtain ⟨bE, bF, fx⟩ := p9 (a / 18446744073709551616) (0)
 obtain ⟨bG, bH, fy⟩ := p8 (bF) (be) 0 (by decide)
 obtain ⟨bI, bJ, fA⟩ := p8 (bG) (bz + bC + bD) 0 (by decide)
 obtain ⟨bK, bL, fB⟩ := p9 (a / 18446744073709551616) (0)
 obtain ⟨bM, bN, fC⟩ := p8 (bL) (bu) 0 (by decide)
 obtain ⟨bO, bP, fD⟩ := p8 (bM) (bE + bH + bJ) 0 (by decide)
 obtain ⟨bR, bS, fE⟩ := p9 (a / 18446744073709551616) (0)
 obtain ⟨bU, bV, fF⟩ := p8 (bS) (bw) 0 (by decide)
 obtain ⟨bW, bX, fG⟩ := p8 (bU) (bK + bN + bP) 0 (by decide)
 obtain ⟨bY, bZ, fH⟩ := p8 (aS + bx) (bR + bV + bX) 0 (by decide)
 obtain ⟨b6, b7, fI⟩ := p9 (ah * 18446744069414584319) (18446744069414584321)
 obtain ⟨fJ, b8, fK⟩ := p8 (b7) (ah) 0 (by decide)
 obtain ⟨b9, cb, fL⟩ := p9 (ah * 18446744069414584319) (6034159408538082302)
 obtain ⟨ce, cf, fM⟩ := p8 (cb) (bI) 0 (by decide)
 obtain ⟨cg, ck, fN⟩ := p8 (ce) (b6 + b8) 0 (by decide)
 obtain ⟨cm, cn, fO⟩ := p9 (ah * 18446744069414584319) (3691218898639771653)
 obtain ⟨co, cq, fP⟩ := p8 (cn) (bO) 0 (by decide)
 obtain ⟨cr, ct, fQ⟩ := p8 (co) (b9 + cf + ck) 0 (by decide)
 obtain ⟨cu, cv, fR⟩ := p9 (ah * 18446744069414584319) (8353516859464449352)
 obtain ⟨cw, cx, fS⟩ := p8 (cv) (bW) 0 (by decide)
 obtain ⟨cy, cz, fT⟩ := p8 (cw) (cm + cq + ct) 0 (by decide)
 obtain ⟨cA, cB, fU⟩ := p8 (bY) (cu + cx + cz) 0 (by decide)
 obtain ⟨T2, Q1, hT2, hE1, hL2, hQ1⟩ := vI hT1 hB hL1 (by decide) ft fu fw fx fy fA fB fC fD fE fF fG fH fI fK fL fM fN fO fP fQ fR fS fT fU
 obtain ⟨cC, cD, fV⟩ := p9 (a / 340282366920938463463374607431768211456) (1)
 obtain ⟨cE, cF, fW⟩ := p8 (cD) (cg) 0 (by decide)
 obtain ⟨aj, cG, fX⟩ := p8 (cE) (0) 0 (by decide)
 obtain ⟨cH, cI, fY⟩ := p9 (a / 340282366920938463463374607431768211456) (0)
 obtain ⟨cJ, cL, fZ⟩ := p8 (cI) (cr) 0 (by decide)
 obtain ⟨cM, cN, ga⟩ := p8 (cJ) (cC + cF + cG) 0 (by decide)
 obtain ⟨cO, cP, gb⟩ := p9 (a / 340282366920938463463374607431768211456) (0)
 obtain ⟨cQ, cS, gd⟩ := p8 (cP) (cy) 0 (by decide)
 obtain ⟨cT, cU, ge⟩ := p8 (cQ) (cH + cL + cN) 0 (by decide)
 obtain ⟨cV, cW, gg⟩ := p9 (a / 340282366920938463463374607431768211456) (0)
 obtain ⟨cX, cY, gh⟩ := p8 (cW) (cA) 0 (by decide)
 obtain ⟨cZ, c9, gk⟩ := p8 (cX) (cO + cS + cU) 0 (by decide)
 obtain ⟨da, db, gl⟩ := p8 (bZ + cB) (cV + cY + c9) 0 (by decide)
 obtain ⟨dc, dd, gm⟩ := p9 (aj * 18446744069414584319) (18446744069414584321)
 obtain ⟨gn, de, gs⟩ := p8 (dd) (aj) 0 (by decide)
 obtain ⟨df, dh, gt⟩ := p9 (aj * 18446744069414584319) (6034159408538082302)
 obtain ⟨di, dj, gu⟩ := p8 (dh) (cM) 0 (by decide)
 obtain ⟨dk, dl, gv⟩ := p8 (di) (dc + de) 0 (by decide)
 obtain ⟨dm, dn, gA⟩ := p9 (aj * 18446744069414584319) (3691218898639771653)
 obtain ⟨dp, dq, gB⟩ := p8 (dn) (cT) 0 (by decide)
 obtain ⟨dr, dt, gC⟩ := p8 (dp) (df + dj + dl) 0 (by decide)
 obtain ⟨du, dv, gD⟩ := p9 (aj * 18446744069414584319) (8353516859464449352)
 obtain ⟨dw, dx, gF⟩ := p8 (dv) (cZ) 0 (by decide)
 obtain ⟨dy, dz, gG⟩ := p8 (dw) (dm + dq + dt) 0 (by decide)
 obtain ⟨dD, dE, gH⟩ := p8 (da) (du + dx + dz) 0 (by decide)
 obtain ⟨T3, Q2, hT3, hE2, hL3, hQ2⟩ := vI hT2 hB hL2 (by decide) fV fW fX fY fZ ga gb gd ge gg gh gk gl gm gs gt gu gv gA gB gC gD gF gG gH
 obtain ⟨dF, dG, gI⟩ := p9 (a / 6277101735386680763835789423207666416102355444464034512896) (1)
 obtain ⟨dH, dI, gJ⟩ := p8 (dG) (dk) 0 (by decide)
 obtain ⟨ak, dJ, gL⟩ := p8 (dH) (0) 0 (by decide)
 obtain ⟨dK, dL, gM⟩ := p9 (a / 6277101735386680763835789423207666416102355444464034512896) (0)
 obtain ⟨dN, dO, gN⟩ := p8 (dL) (dr) 0 (by decide)
 obtain ⟨dP, dQ, gO⟩ := p8 (dN) (dF + dI + dJ) 0 (by decide)
 obtain ⟨dT, dU, gP⟩ := p9 (a / 6277101735386680763835789423207666416102355444464034512896) (0)
 obtain ⟨dV, dW, gR⟩ := p8 (dU) (dy) 0 (by decide)
 obtain ⟨dX, dY, gS⟩ := p8 (dV) (dK + dO + dQ) 0 (by decide)
 obtain ⟨dZ, d9, gT⟩ := p9 (a / 6277101735386680763835789423207666416102355444464034512896) (0)
 obtain ⟨eb, ed, gU⟩ := p8 (d9) (dD) 0 (by decide)
 obtain ⟨ee, ef, gV⟩ := p8 (eb) (dT + dW + dY) 0 (by decide)
 obtain ⟨eh, ap, gW⟩ := p8 (db + dE) (dZ + ed + ef) 0 (by decide)
 obtain ⟨ei, ej, gX⟩ := p9 (ak * 18446744069414584319) (18446744069414584321)
 obtain ⟨gY, ek, gZ⟩ := p8 (ej) (ak) 0 (by decide)
 obtain ⟨eo, ep, hJ⟩ := p9 (ak * 18446744069414584319) (6034159408538082302)
 obtain ⟨er, eu, ia⟩ := p8 (ep) (dP) 0 (by decide)
 obtain ⟨al, ew, ib⟩ := p8 (er) (ei + ek) 0 (by decide)
 obtain ⟨ez, eA, ic⟩ := p9 (ak * 18446744069414584319) (3691218898639771653)
 obtain ⟨eB, eC, ig⟩ := p8 (eA) (dX) 0 (by decide)
 obtain ⟨am, eD, ij⟩ := p8 (eB) (eo + eu + ew) 0 (by decide)
 obtain ⟨eE, eF, ik⟩ := p9 (ak * 18446744069414584319) (8353516859464449352)
 obtain ⟨eG, eH, il⟩ := p8 (eF) (ee) 0 (by decide)
 obtain ⟨an, eI, im⟩ := p8 (eG) (ez + eC + eD) 0 (by decide)
 obtain ⟨ao, aq, io⟩ := p8 (eh) (eE + eH + eI) 0 (by decide)
 obtain ⟨T4, Q3, hT4, hE3, hL4, hQ3⟩ := vI hT3 hB hL3 (by decide) gI gJ gL gM gN gO gP gR gS gT gU gV gW gX gZ hJ ia ib ic ig ij ik il im io
 obtain ⟨d0, k0, q0⟩ := qM (al) 18446744069414584321 0 (by decide)
 obtain ⟨d1, k1, q1⟩ := qM (am) 6034159408538082302 k0 q0.2.2.2
 obtain ⟨d2, k2, q2⟩ := qM (an) 3691218898639771653 k1 q1.2.2.2
 obtain ⟨d3, k3, q3⟩ := qM (ao) 8353516859464449352 k2 q2.2.2.2
 obtain ⟨h1, h2, h3, h4⟩ := Mz q0 q1 q2 q3
 simp only [Nat.reduceMod, Nat.reduceMul, Nat.reduceAdd] at h1
 have hm : (ap + aq) % 18446744073709551616 = 0 /\ al % 18446744073709551616 + 18446744073709551616 * (am % 18446744073709551616 + 18446744073709551616 * (an % 18446744073709551616 + 18446744073709551616 * (ao % 18446744073709551616 + 18446744073709551616 * (0)))) = T4 := by
  have e := hT4
  have l := hL4
  clear q0 q1 q2 q3 h1 h2 h4 hT1 hL1 hT2 hL2 hT3 hL3 hT4 hL4 hE0 hE1 hE2 hE3
  generalize al % 18446744073709551616 = Z0 at *
  generalize am % 18446744073709551616 = Z1 at *
  generalize an % 18446744073709551616 = Z2 at *
  generalize ao % 18446744073709551616 = Z3 at *
  generalize (ap + aq) % 18446744073709551616 = Zm at *
  omega
 rw [hm.2] at h1
 refine ⟨T4 % 52435875175126190479447740508185965837690552500527637822603658699938581184513, Nat.mod_lt _ (by decide), XO (LP a ha) hE0 hE1 hE2 hE3, ?_⟩
 have hC := ai (dS q3) (ai (dS q2) (ai (dS q1) (ai (dS q0) (ai (dB io) (ai im (ai (dA il) (ai (dM ik) (ai ij (ai (dA ig) (ai (dM ic) (ai ib (ai (dA ia) (ai (dM hJ) (ai (dA gZ) (ai (dM gX) (ai (dC gW) (ai gV (ai (dA gU) (ai gT (ai gS (ai (dA gR) (ai gP (ai gO (ai (dA gN) (ai gM (ai gL (ai (dA gJ) (ai gI (ai (dB gH) (ai gG (ai (dA gF) (ai (dM gD) (ai gC (ai (dA gB) (ai (dM gA) (ai gv (ai (dA gu) (ai (dM gt) (ai (dA gs) (ai (dM gm) (ai (dC gl) (ai gk (ai (dA gh) (ai gg (ai ge (ai (dA gd) (ai gb (ai ga (ai (dA fZ) (ai fY (ai fX (ai (dA fW) (ai fV (ai (dB fU) (ai fT (ai (dA fS) (ai (dM fR) (ai fQ (ai (dA fP) (ai (dM fO) (ai fN (ai (dA fM) (ai (dM fL) (ai (dA fK) (ai (dM fI) (ai (dC fH) (ai fG (ai (dA fF) (ai fE (ai fD (ai (dA fC) (ai fB (ai fA (ai (dA fy) (ai fx (ai fw (ai (dA fu) (ai ft (ai (dB fq) (ai fp (ai (dA fo) (ai (dM fm) (ai fl (ai (dA fk) (ai (dM fj) (ai fi (ai (dA fh) (ai (dM fg) (ai (dA fe) (ai (dM fa) (ai e9 (ai eZ (ai eY (ai eX (ai eW (ai eV (ai eU (ai eQ (ai eO (ai eN (ai eM (ai eK (ai eJ tt0)))))))))))))))))))))))))))))))))))))))))))))))))))))))))))))))))))))))))))))))))))))))))))))))))))))))
 by_cases hk : k3 = 0
 ·have hv : T4 % 52435875175126190479447740508185965837690552500527637822603658699938581184513 = d0 % 18446744073709551616 + 18446744073709551616 * (d1 % 18446744073709551616 + 18446744073709551616 * (d2 % 18446744073709551616 + 18446744073709551616 * (d3 % 18446744073709551616 + 18446744073709551616 * (0)))) := by
   rw [h2]
   generalize d0 + 18446744073709551616 * (d1 + 18446744073709551616 * (d2 + 18446744073709551616 * (d3 + 18446744073709551616 * (0)))) = D at *
   have l := hL4
   clear hC q0 q1 q2 q3 hm hT1 hL1 hT2 hL2 hT3 hL3 hT4 hL4 hE0 hE1 hE2 hE3
   omega
  rw [hv]
  refine Ft (l := [.n 1 d0, .n 1 d1, .n 1 d2, .n 1 d3]) ?_ rfl
  exact qa (P := prog) (env := [sX, tl, vk, eRS]) ⟨rA, rF, sS, z7, tt0⟩ func64 2 (oN [(39, ar, au), (49, aw, ax), (61, ae, ay), (85, az, aA), (95, aB, aC), (107, aD, aE), (131, aF, aG), (141, aH, aI), (153, aJ, aK), (177, aL, aM), (187, aN, aO), (199, aP, aQ), (222, aR, aS), (243, aT, aU), (252, fc, aV), (270, aW, aX), (280, aY, aZ), (292, a6, a7), (318, a8, a9), (328, ba, bc), (340, be, bf), (366, bg, bh), (376, bn, br), (388, bu, bv), (415, bw, bx), (452, bz, bA), (462, bB, bC), (474, ah, bD), (498, bE, bF), (508, bG, bH), (520, bI, bJ), (544, bK, bL), (554, bM, bN), (566, bO, bP), (590, bR, bS), (600, bU, bV), (612, bW, bX), (635, bY, bZ), (656, b6, b7), (665, fJ, b8), (683, b9, cb), (693, ce, cf), (705, cg, ck), (731, cm, cn), (741, co, cq), (753, cr, ct), (779, cu, cv), (789, cw, cx), (801, cy, cz), (828, cA, cB), (865, cC, cD), (875, cE, cF), (887, aj, cG), (911, cH, cI), (921, cJ, cL), (933, cM, cN), (957, cO, cP), (967, cQ, cS), (979, cT, cU), (1003, cV, cW), (1013, cX, cY), (1025, cZ, c9), (1048, da, db), (1069, dc, dd), (1078, gn, de), (1096, df, dh), (1106, di, dj), (1118, dk, dl), (1144, dm, dn), (1154, dp, dq), (1166, dr, dt), (1192, du, dv), (1202, dw, dx), (1214, dy, dz), (1241, dD, dE), (1278, dF, dG), (1288, dH, dI), (1300, ak, dJ), (1324, dK, dL), (1334, dN, dO), (1346, dP, dQ), (1370, dT, dU), (1380, dV, dW), (1392, dX, dY), (1416, dZ, d9), (1426, eb, ed), (1438, ee, ef), (1461, eh, ap), (1482, ei, ej), (1491, gY, ek), (1509, eo, ep), (1519, er, eu), (1531, al, ew), (1557, ez, eA), (1567, eB, eC), (1579, am, eD), (1605, eE, eF), (1615, eG, eH), (1627, an, eI), (1654, ao, aq), (1699, d0, k0), (1721, d1, k1), (1743, d2, k2), (1765, d3, k3)] [(1777, 1)]) (by kernel_rfl) (ai (show decide (k3 % 18446744073709551616 <= ((ap / 1 + aq) / 1) % 18446744073709551616) = true by simp only [Nat.div_one, hk, hm.1]; rfl) hC)
 ·have hv : T4 % 52435875175126190479447740508185965837690552500527637822603658699938581184513 = al % 18446744073709551616 + 18446744073709551616 * (am % 18446744073709551616 + 18446744073709551616 * (an % 18446744073709551616 + 18446744073709551616 * (ao % 18446744073709551616 + 18446744073709551616 * (0)))) := by
   rw [hm.2]
   generalize d0 + 18446744073709551616 * (d1 + 18446744073709551616 * (d2 + 18446744073709551616 * (d3 + 18446744073709551616 * (0)))) = D at *
   have l := hL4
   clear hC q0 q1 q2 q3 hm hT1 hL1 hT2 hL2 hT3 hL3 hT4 hL4 hE0 hE1 hE2 hE3
   omega
  rw [hv]
  refine Ft (l := [.n 1 al, .n 1 am, .n 1 an, .n 1 ao]) ?_ rfl
  exact qa (P := prog) (env := [sX, tl, vk, eRS]) ⟨rA, rF, sS, z7, tt0⟩ func64 2 (oN [(39, ar, au), (49, aw, ax), (61, ae, ay), (85, az, aA), (95, aB, aC), (107, aD, aE), (131, aF, aG), (141, aH, aI), (153, aJ, aK), (177, aL, aM), (187, aN, aO), (199, aP, aQ), (222, aR, aS), (243, aT, aU), (252, fc, aV), (270, aW, aX), (280, aY, aZ), (292, a6, a7), (318, a8, a9), (328, ba, bc), (340, be, bf), (366, bg, bh), (376, bn, br), (388, bu, bv), (415, bw, bx), (452, bz, bA), (462, bB, bC), (474, ah, bD), (498, bE, bF), (508, bG, bH), (520, bI, bJ), (544, bK, bL), (554, bM, bN), (566, bO, bP), (590, bR, bS), (600, bU, bV), (612, bW, bX), (635, bY, bZ), (656, b6, b7), (665, fJ, b8), (683, b9, cb), (693, ce, cf), (705, cg, ck), (731, cm, cn), (741, co, cq), (753, cr, ct), (779, cu, cv), (789, cw, cx), (801, cy, cz), (828, cA, cB), (865, cC, cD), (875, cE, cF), (887, aj, cG), (911, cH, cI), (921, cJ, cL), (933, cM, cN), (957, cO, cP), (967, cQ, cS), (979, cT, cU), (1003, cV, cW), (1013, cX, cY), (1025, cZ, c9), (1048, da, db), (1069, dc, dd), (1078, gn, de), (1096, df, dh), (1106, di, dj), (1118, dk, dl), (1144, dm, dn), (1154, dp, dq), (1166, dr, dt), (1192, du, dv), (1202, dw, dx), (1214, dy, dz), (1241, dD, dE), (1278, dF, dG), (1288, dH, dI), (1300, ak, dJ), (1324, dK, dL), (1334, dN, dO), (1346, dP, dQ), (1370, dT, dU), (1380, dV, dW), (1392, dX, dY), (1416, dZ, d9), (1426, eb, ed), (1438, ee, ef), (1461, eh, ap), (1482, ei, ej), (1491, gY, ek), (1509, eo, ep), (1519, er, eu), (1531, al, ew), (1557, ez, eA), (1567, eB, eC), (1579, am, eD), (1605, eE, eF), (1615, eG, eH), (1627, an, eI), (1654, ao, aq), (1699, d0, k0), (1721, d1, k1), (1743, d2, k2), (1765, d3, k3)] [(1777, 2)]) (by kernel_rfl) (ai (show decide (k3 % 18446744073709551616 <= ((ap / 1 + aq) / 1) % 18446744073709551616) = false by have k1 : k3 = 1 := Nat.le_antisymm h3 (Nat.one_le_iff_ne_zero.2 hk); simp only [Nat.div_one, k1, hm.1]; rfl) hC)
end Go.Proofs.YtfbkefgoblcmpaaGreat
set_option linter.unusedSimpArgs false
set_option linter.unusedVariables false
namespace Go.Proofs.YtfbkefgoblcmpaaGreat
open Go.Ev Go.RowKit
open Tryz
theorem WF {P : Program} {f : FuncId} {x x' : XV} {r : AV} (h : Gives P f [x] r) (e : ∀ w v, XRep w x' v -> XRep w x v) : Gives P f [x'] r := by
 obtain ⟨v, h1, h2⟩ := h
 refine ⟨v, h1, fun w vs hx => ?_⟩
 match vs, hx with
 | [y], hx => exact h2 w [y] ⟨e _ _ hx.1, tt0⟩
theorem aaD {P : Program} {f : FuncId} {x x' y y' : XV} {r : AV} (h : Gives P f [x, y] r) (e : ∀ w v, XRep w x' v -> XRep w x v) (e' : ∀ w v, XRep w y' v -> XRep w y v) : Gives P f [x', y'] r := by
 obtain ⟨v, h1, h2⟩ := h
 refine ⟨v, h1, fun w vs hx => ?_⟩
 match vs, hx with
 | [p, q], hx => exact h2 w [p, q] ⟨e _ _ hx.1, e' _ _ hx.2.1, tt0⟩
theorem A4 : 115792089237316195423570985008687907853269984665640564039457584007913129639936 * 12549076656233958353659347336803947287922716146853412054870763148006372261952 % 52435875175126190479447740508185965837690552500527637822603658699938581184513 = 1 % 52435875175126190479447740508185965837690552500527637822603658699938581184513 := by decide
theorem Ie (x : Fin Rr) : toS x < 52435875175126190479447740508185965837690552500527637822603658699938581184513 := Nat.mod_lt _ (by decide)
theorem PE (x y : Fin Rr) : toS (x + y) = (toS x + toS y) % 52435875175126190479447740508185965837690552500527637822603658699938581184513 := by
 unfold toS
 rw [Fin.val_add]
 exact (Gz (m := 52435875175126190479447740508185965837690552500527637822603658699938581184513) (R := 115792089237316195423570985008687907853269984665640564039457584007913129639936) x.val y.val).symm
theorem WG (x y : Fin Rr) : Gives prog 63 [.t (.ag [.s x]), .t (.ag [.s y])] (.ag [.s (x + y)]) := by
 have h := aaD (x' := .t (.ag [.s x])) (y' := .t (.ag [.s y])) (SM (toS x) (toS y) (Ie x) (Ie y)) (fun _ _ h => h) (fun _ _ h => h)
 refine h.same ?_
 exact qX rfl rfl (by simp only [flat, Ch.cells, PE])
theorem inS (a : Nat) (ha : a < 115792089237316195423570985008687907853269984665640564039457584007913129639936) : Gives prog 62 [.t (.ag [.n 4 a])] (.ag [.s (ofR a)]) := by
 obtain ⟨v, h1, h2, h3⟩ := aah a ha
 have e : v = toS (ofR a) := Ju (m := 52435875175126190479447740508185965837690552500527637822603658699938581184513) (R := 115792089237316195423570985008687907853269984665640564039457584007913129639936) A4 h1 h2
 refine h3.same ?_
 exact qX rfl rfl (by simp only [flat, Ch.cells, e])
theorem aam (x : Fin Rr) : Gives prog 64 [.t (.ag [.s x])] (.ag [.e x]) := by
 obtain ⟨v, h1, h2, h3⟩ := X7 (toS x) (Nat.lt_trans (Ie x) (by decide))
 have e : v = x.val := FU (m := 52435875175126190479447740508185965837690552500527637822603658699938581184513) (R := 115792089237316195423570985008687907853269984665640564039457584007913129639936) A4 x.isLt h1 h2
 have h := WF (x' := .t (.ag [.s x])) h3 (fun _ _ h => h)
 refine h.same ?_
 exact qX rfl rfl (by simp only [flat, Ch.cells, e])
def BE : Entry := sq 63 VJ.x VJ.x (fun x y => [(none, .ag [.s (x + y)])])
theorem yF : BE.OK prog := q6 (fun args w => Go.Proofs.enters_of (P := prog) func63 (by kernel_rfl) rfl args w) (fun x y => only (WG x y))
def FY : Entry := qA 64 VJ.x (fun x => [(none, .ag [.e x])])
theorem zX : FY.OK prog := qj (fun args w => Go.Proofs.enters_of (P := prog) func64 (by kernel_rfl) rfl args w) (fun x => only (aam x))
end Go.Proofs.YtfbkefgoblcmpaaGreat
set_option linter.unusedSimpArgs false
set_option linter.unusedVariables false
namespace Go.Proofs.YtfbkefgoblcmpaaGreat
open Go.Ev Go.RowKit
open Tryz
structure minusSY (a b : Nat) where
 i : Nat
 β : Nat
 o : Nat
 hi : i <= 4
 inv : Wp a b i β o
structure plusSY (a b : Nat) where
 i : Nat
 β : Nat
 o : Nat
 hi : i <= 4
 inv : Xq a b i β o
end Go.Proofs.YtfbkefgoblcmpaaGreat
set_option linter.unusedSimpArgs false
set_option linter.unusedVariables false
namespace Go.Proofs.YtfbkefgoblcmpaaGreat
open Go.Ev Go.RowKit
open Tryz
theorem ZJ (x : Fin Rr) : Gives prog 62 [.t (.ag [.e x])] (.ag [.s x]) := by
 have h := WF (x' := .t (.ag [.e x])) (inS x.val (Nat.lt_trans x.isLt (by decide))) (fun _ _ h => h)
 rw [PA] at h
 exact h
def FS : Entry := xS 62 SD.x GR.x (fun x => [(none, .ag [.s x])]) (fun a => [(some (smS a), .ag [.s (ofR a)])])
theorem zu : FS.OK prog := xk (qj (fun args w => Go.Proofs.enters_of (P := prog) func62 (by kernel_rfl) rfl args w) (fun x => only (ZJ x))) (qj (fun args w => Go.Proofs.enters_of (P := prog) func62 (by kernel_rfl) rfl args w) (fun a => sZ (fun h => inS a h)))
end Go.Proofs.YtfbkefgoblcmpaaGreat
set_option linter.unusedSimpArgs false
set_option linter.unusedVariables false
namespace Go.Proofs.YtfbkefgoblcmpaaGreat
open Go.Ev Go.RowKit
open Tryz
def N9 : Entry := sq 32 SG SG (fun a b => [(some (ON a /\ ON b), .ag [.e ((Xl a) + (Xl b))])])
theorem Kq : N9.OK prog := q6 (fun args w => Go.Proofs.enters_of (P := prog) func32 (by kernel_rfl) rfl args w) (fun a b => match a, b with
 | .inl a, .inl b => sZ (fun h => qa (P := prog) (env := [FS, FY, BE]) ⟨zu, zX, yF, tt0⟩ func32 1 o0 (by kernel_rfl) tt0)
 | .inl a, .inr b => sZ (fun h => qa (P := prog) (env := [FS, FY, BE]) ⟨zu, zX, yF, tt0⟩ func32 1 o0 (by kernel_rfl) (ai h.2 tt0))
 | .inr a, .inl b => sZ (fun h => qa (P := prog) (env := [FS, FY, BE]) ⟨zu, zX, yF, tt0⟩ func32 1 o0 (by kernel_rfl) (ai h.1 tt0))
 | .inr a, .inr b => sZ (fun h => qa (P := prog) (env := [FS, FY, BE]) ⟨zu, zX, yF, tt0⟩ func32 1 o0 (by kernel_rfl) (ai h.2 (ai h.1 tt0))))
end Go.Proofs.YtfbkefgoblcmpaaGreat
