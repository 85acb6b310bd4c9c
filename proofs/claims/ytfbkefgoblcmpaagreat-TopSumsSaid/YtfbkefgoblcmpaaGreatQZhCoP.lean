/- Pruned: ZhCoP. -/
import Derived.Test.YtfbkefgoblcmpaaGreatQHg
set_option linter.unusedSimpArgs false
set_option linter.unusedVariables false
set_option maxHeartbeats 4000000
namespace Go.Proofs.YtfbkefgoblcmpaaGreat
open Go.Ev Go.RowKit
open Tryz
theorem BF {P : Program} {f : FuncId} {args : List XV} {l : List Ch} {x : Nat} (h : Gives P f args (.ag l)) (hc : qL 6 l = some (x, [])) : Gives P f args (.ag [.n 6 x]) :=
 h.same (FH hc)
def eRP : Entry := wL 70 [(none, .ag [.c (.int .u64 13402431016077863595), .c (.int .u64 2210141511517208575), .c (.int .u64 7435674573564081700), .c (.int .u64 7239337960414712511), .c (.int .u64 5412103778470702295), .c (.int .u64 1873798617647539866)])]
theorem wU : eRP.OK prog := ud (fun args w => Go.Proofs.enters_of (P := prog) func70 (by kernel_rfl) rfl args w)
 (only (qa (P := prog) (env := []) trivial func70 0 o0 (by kernel_rfl) tt0))
theorem aat (x : Nat) (hx : x < 2 * 4002409555221667393417789825735904156556882819939007885332058136124031650490837864442687629129015664037894272559787) : Gives prog 90 [.t (.ag [.n 6 x])] (.ag [.n 6 (x % 4002409555221667393417789825735904156556882819939007885332058136124031650490837864442687629129015664037894272559787)]) := by
 obtain ⟨d0, k0, q0⟩ := qM (x / 1) 13402431016077863595 0 (by decide)
 obtain ⟨d1, k1, q1⟩ := qM (x / 18446744073709551616) 2210141511517208575 k0 q0.2.2.2
 obtain ⟨d2, k2, q2⟩ := qM (x / 340282366920938463463374607431768211456) 7435674573564081700 k1 q1.2.2.2
 obtain ⟨d3, k3, q3⟩ := qM (x / 6277101735386680763835789423207666416102355444464034512896) 7239337960414712511 k2 q2.2.2.2
 obtain ⟨d4, k4, q4⟩ := qM (x / 115792089237316195423570985008687907853269984665640564039457584007913129639936) 5412103778470702295 k3 q3.2.2.2
 obtain ⟨d5, k5, q5⟩ := qM (x / 2135987035920910082395021706169552114602704522356652769947041607822219725780640550022962086936576) 1873798617647539866 k4 q4.2.2.2
 obtain ⟨h1, h2, h3, h4⟩ := JU q0 q1 q2 q3 q4 q5
 rw [DZ x (by omega)] at h1
 simp only [Nat.reduceMod, Nat.reduceMul, Nat.reduceAdd] at h1
 by_cases hk : k5 = 0
 ·have hg := qa (P := prog) (env := [sX, eRP]) ⟨rA, wU, tt0⟩ func90 0 (oN [(19, d0, k0), (39, d1, k1), (59, d2, k2), (79, d3, k3), (99, d4, k4), (119, d5, k5)] [(130, 1)]) (args := [.t (.ag [.n 6 x])]) (r := .ag [.n 1 d0, .n 1 d1, .n 1 d2, .n 1 d3, .n 1 d4, .n 1 d5]) (by kernel_rfl) (ai (show decide (k5 % 18446744073709551616 = 0 % 18446744073709551616) = true by simp [hk]) (ai q5 (ai q4 (ai q3 (ai q2 (ai q1 (ai q0 tt0)))))))
  have hv : x % 4002409555221667393417789825735904156556882819939007885332058136124031650490837864442687629129015664037894272559787 = d0 % 18446744073709551616 + 18446744073709551616 * (d1 % 18446744073709551616 + 18446744073709551616 * (d2 % 18446744073709551616 + 18446744073709551616 * (d3 % 18446744073709551616 + 18446744073709551616 * (d4 % 18446744073709551616 + 18446744073709551616 * (d5 % 18446744073709551616 + 18446744073709551616 * (0)))))) := by
   rw [h2]
   generalize d0 + 18446744073709551616 * (d1 + 18446744073709551616 * (d2 + 18446744073709551616 * (d3 + 18446744073709551616 * (d4 + 18446744073709551616 * (d5 + 18446744073709551616 * (0)))))) = D at *
   clear hg q0 q1 q2 q3 q4 q5
   omega
  rw [hv]
  exact BF hg rfl
 ·have hg := qa (P := prog) (env := [sX, eRP]) ⟨rA, wU, tt0⟩ func90 0 (oN [(19, d0, k0), (39, d1, k1), (59, d2, k2), (79, d3, k3), (99, d4, k4), (119, d5, k5)] [(130, 2)]) (args := [.t (.ag [.n 6 x])]) (r := .ag [.n 6 x]) (by kernel_rfl) (ai (show decide (k5 % 18446744073709551616 = 0 % 18446744073709551616) = false by have h := q5.2.2.2; simp; omega) (ai q5 (ai q4 (ai q3 (ai q2 (ai q1 (ai q0 tt0)))))))
  have hv : x % 4002409555221667393417789825735904156556882819939007885332058136124031650490837864442687629129015664037894272559787 = x := by
   generalize d0 + 18446744073709551616 * (d1 + 18446744073709551616 * (d2 + 18446744073709551616 * (d3 + 18446744073709551616 * (d4 + 18446744073709551616 * (d5 + 18446744073709551616 * (0)))))) = D at *
   clear hg q0 q1 q2 q3 q4 q5
   omega
  rw [hv]
  exact hg
def eNP : Entry := qA 90 zV.x (fun x => [(some (x < 2 * 4002409555221667393417789825735904156556882819939007885332058136124031650490837864442687629129015664037894272559787), .ag [.n 6 (x % 4002409555221667393417789825735904156556882819939007885332058136124031650490837864442687629129015664037894272559787)])])
theorem NV : eNP.OK prog := qj (fun args w => Go.Proofs.enters_of (P := prog) func90 (by kernel_rfl) rfl args w) (fun u c r hm hc => by
 simp only [List.mem_singleton, pi0] at hm
 obtain ⟨rfl, rfl⟩ := hm
 exact aat u hc)
theorem UM (a b : Nat) (ha : a < 4002409555221667393417789825735904156556882819939007885332058136124031650490837864442687629129015664037894272559787) (hb : b < 4002409555221667393417789825735904156556882819939007885332058136124031650490837864442687629129015664037894272559787) : Gives prog 69 [.t (.ag [.n 6 a]), .t (.ag [.n 6 b])] (.ag [.n 6 ((a + b) % 4002409555221667393417789825735904156556882819939007885332058136124031650490837864442687629129015664037894272559787)]) := by
 obtain ⟨d0, k0, q0⟩ := p8 (a / 1) (b / 1) 0 (by decide)
 obtain ⟨d1, k1, q1⟩ := p8 (a / 18446744073709551616) (b / 18446744073709551616) k0 q0.2.2.2
 obtain ⟨d2, k2, q2⟩ := p8 (a / 340282366920938463463374607431768211456) (b / 340282366920938463463374607431768211456) k1 q1.2.2.2
 obtain ⟨d3, k3, q3⟩ := p8 (a / 6277101735386680763835789423207666416102355444464034512896) (b / 6277101735386680763835789423207666416102355444464034512896) k2 q2.2.2.2
 obtain ⟨d4, k4, q4⟩ := p8 (a / 115792089237316195423570985008687907853269984665640564039457584007913129639936) (b / 115792089237316195423570985008687907853269984665640564039457584007913129639936) k3 q3.2.2.2
 obtain ⟨d5, k5, q5⟩ := p8 (a / 2135987035920910082395021706169552114602704522356652769947041607822219725780640550022962086936576) (b / 2135987035920910082395021706169552114602704522356652769947041607822219725780640550022962086936576) k4 q4.2.2.2
 obtain ⟨h1, h2, h3, h4⟩ := SC q0 q1 q2 q3 q4 q5
 rw [DZ a (by omega), DZ b (by omega)] at h1
 have hv : d0 % 18446744073709551616 + 18446744073709551616 * (d1 % 18446744073709551616 + 18446744073709551616 * (d2 % 18446744073709551616 + 18446744073709551616 * (d3 % 18446744073709551616 + 18446744073709551616 * (d4 % 18446744073709551616 + 18446744073709551616 * (d5 % 18446744073709551616 + 18446744073709551616 * (0)))))) = a + b := by
  rw [h2]
  generalize d0 + 18446744073709551616 * (d1 + 18446744073709551616 * (d2 + 18446744073709551616 * (d3 + 18446744073709551616 * (d4 + 18446744073709551616 * (d5 + 18446744073709551616 * (0)))))) = D at *
  clear q0 q1 q2 q3 q4 q5
  omega
 rw [← hv]
 exact qa (P := prog) (env := [tl, eNP]) ⟨rF, NV, tt0⟩ func69 0 (oN [(9, d0, k0), (21, d1, k1), (33, d2, k2), (45, d3, k3), (57, d4, k4), (69, d5, k5)] []) (by kernel_rfl) (ai (show d0 % 18446744073709551616 + 18446744073709551616 * (d1 % 18446744073709551616 + 18446744073709551616 * (d2 % 18446744073709551616 + 18446744073709551616 * (d3 % 18446744073709551616 + 18446744073709551616 * (d4 % 18446744073709551616 + 18446744073709551616 * (d5 % 18446744073709551616 + 18446744073709551616 * (0)))))) < 2 * 4002409555221667393417789825735904156556882819939007885332058136124031650490837864442687629129015664037894272559787 by rw [hv]; omega) (ai q5 (ai q4 (ai q3 (ai q2 (ai q1 (ai q0 tt0)))))))
theorem Rn (a b : Nat) (ha : a < 4002409555221667393417789825735904156556882819939007885332058136124031650490837864442687629129015664037894272559787) (hb : b < 4002409555221667393417789825735904156556882819939007885332058136124031650490837864442687629129015664037894272559787) : Gives prog 88 [.t (.ag [.n 6 a]), .t (.ag [.n 6 b])] (.ag [.n 6 ((a + (4002409555221667393417789825735904156556882819939007885332058136124031650490837864442687629129015664037894272559787 - b)) % 4002409555221667393417789825735904156556882819939007885332058136124031650490837864442687629129015664037894272559787)]) := by
 obtain ⟨d0, k0, q0⟩ := qM (a / 1) (b / 1) 0 (by decide)
 obtain ⟨d1, k1, q1⟩ := qM (a / 18446744073709551616) (b / 18446744073709551616) k0 q0.2.2.2
 obtain ⟨d2, k2, q2⟩ := qM (a / 340282366920938463463374607431768211456) (b / 340282366920938463463374607431768211456) k1 q1.2.2.2
 obtain ⟨d3, k3, q3⟩ := qM (a / 6277101735386680763835789423207666416102355444464034512896) (b / 6277101735386680763835789423207666416102355444464034512896) k2 q2.2.2.2
 obtain ⟨d4, k4, q4⟩ := qM (a / 115792089237316195423570985008687907853269984665640564039457584007913129639936) (b / 115792089237316195423570985008687907853269984665640564039457584007913129639936) k3 q3.2.2.2
 obtain ⟨d5, k5, q5⟩ := qM (a / 2135987035920910082395021706169552114602704522356652769947041607822219725780640550022962086936576) (b / 2135987035920910082395021706169552114602704522356652769947041607822219725780640550022962086936576) k4 q4.2.2.2
 obtain ⟨h1, h2, h3, h4⟩ := JU q0 q1 q2 q3 q4 q5
 rw [DZ a (by omega), DZ b (by omega)] at h1
 by_cases hk : k5 = 0
 ·have hg := qa (P := prog) (env := [sX, tl, eRP]) ⟨rA, rF, wU, tt0⟩ func88 0 (oN [(9, d0, k0), (21, d1, k1), (33, d2, k2), (45, d3, k3), (57, d4, k4), (69, d5, k5)] [(77, 1)]) (args := [.t (.ag [.n 6 a]), .t (.ag [.n 6 b])]) (r := .ag [.n 1 d0, .n 1 d1, .n 1 d2, .n 1 d3, .n 1 d4, .n 1 d5]) (by kernel_rfl) (ai (show decide (k5 % 18446744073709551616 = 0 % 18446744073709551616) = true by simp [hk]) (ai q5 (ai q4 (ai q3 (ai q2 (ai q1 (ai q0 tt0)))))))
  have hv : (a + (4002409555221667393417789825735904156556882819939007885332058136124031650490837864442687629129015664037894272559787 - b)) % 4002409555221667393417789825735904156556882819939007885332058136124031650490837864442687629129015664037894272559787 = d0 % 18446744073709551616 + 18446744073709551616 * (d1 % 18446744073709551616 + 18446744073709551616 * (d2 % 18446744073709551616 + 18446744073709551616 * (d3 % 18446744073709551616 + 18446744073709551616 * (d4 % 18446744073709551616 + 18446744073709551616 * (d5 % 18446744073709551616 + 18446744073709551616 * (0)))))) := by
   rw [h2]
   generalize d0 + 18446744073709551616 * (d1 + 18446744073709551616 * (d2 + 18446744073709551616 * (d3 + 18446744073709551616 * (d4 + 18446744073709551616 * (d5 + 18446744073709551616 * (0)))))) = D at *
   clear hg q0 q1 q2 q3 q4 q5
   omega
  rw [hv]
  exact BF hg rfl
 ·obtain ⟨s0, c0, w0⟩ := p8 (d0 / 1) 13402431016077863595 0 (by decide)
  obtain ⟨s1, c1, w1⟩ := p8 (d1 / 1) 2210141511517208575 c0 w0.2.2.2
  obtain ⟨s2, c2, w2⟩ := p8 (d2 / 1) 7435674573564081700 c1 w1.2.2.2
  obtain ⟨s3, c3, w3⟩ := p8 (d3 / 1) 7239337960414712511 c2 w2.2.2.2
  obtain ⟨s4, c4, w4⟩ := p8 (d4 / 1) 5412103778470702295 c3 w3.2.2.2
  obtain ⟨s5, c5, w5⟩ := p8 (d5 / 1) 1873798617647539866 c4 w4.2.2.2
  have hg := qa (P := prog) (env := [sX, tl, eRP]) ⟨rA, rF, wU, tt0⟩ func88 0 (oN [(9, d0, k0), (21, d1, k1), (33, d2, k2), (45, d3, k3), (57, d4, k4), (69, d5, k5), (85, s0, c0), (97, s1, c1), (109, s2, c2), (121, s3, c3), (133, s4, c4), (145, s5, c5)] [(77, 2)]) (args := [.t (.ag [.n 6 a]), .t (.ag [.n 6 b])]) (r := .ag [.n 1 s0, .n 1 s1, .n 1 s2, .n 1 s3, .n 1 s4, .n 1 s5]) (by kernel_rfl) (ai w5 (ai w4 (ai w3 (ai w2 (ai w1 (ai w0 (ai (show decide (k5 % 18446744073709551616 = 0 % 18446744073709551616) = false by have h := q5.2.2.2; simp; omega) (ai q5 (ai q4 (ai q3 (ai q2 (ai q1 (ai q0 tt0)))))))))))))
  obtain ⟨g1, g2, g3, g4⟩ := SC w0 w1 w2 w3 w4 w5
  simp only [Nat.div_one, Nat.reduceMod, Nat.reduceMul, Nat.reduceAdd] at g1
  rw [h2] at g1
  have hv : (a + (4002409555221667393417789825735904156556882819939007885332058136124031650490837864442687629129015664037894272559787 - b)) % 4002409555221667393417789825735904156556882819939007885332058136124031650490837864442687629129015664037894272559787 = s0 % 18446744073709551616 + 18446744073709551616 * (s1 % 18446744073709551616 + 18446744073709551616 * (s2 % 18446744073709551616 + 18446744073709551616 * (s3 % 18446744073709551616 + 18446744073709551616 * (s4 % 18446744073709551616 + 18446744073709551616 * (s5 % 18446744073709551616 + 18446744073709551616 * (0)))))) := by
   rw [g2]
   generalize d0 + 18446744073709551616 * (d1 + 18446744073709551616 * (d2 + 18446744073709551616 * (d3 + 18446744073709551616 * (d4 + 18446744073709551616 * (d5 + 18446744073709551616 * (0)))))) = D at *
   generalize s0 + 18446744073709551616 * (s1 + 18446744073709551616 * (s2 + 18446744073709551616 * (s3 + 18446744073709551616 * (s4 + 18446744073709551616 * (s5 + 18446744073709551616 * (0)))))) = E at *
   clear hg q0 q1 q2 q3 q4 q5 w0 w1 w2 w3 w4 w5
   omega
  rw [hv]
  exact BF hg rfl
theorem Pf (a b : Nat) (ha : a < 39402006196394479212279040100143613805079739270465446667948293404245721771497210611414266254884915640806627990306816) (hb : b <= 4002409555221667393417789825735904156556882819939007885332058136124031650490837864442687629129015664037894272559787) : ∃ v, v < 4002409555221667393417789825735904156556882819939007885332058136124031650490837864442687629129015664037894272559787 /\ (v * 39402006196394479212279040100143613805079739270465446667948293404245721771497210611414266254884915640806627990306816) % 4002409555221667393417789825735904156556882819939007885332058136124031650490837864442687629129015664037894272559787 = (a * b) % 4002409555221667393417789825735904156556882819939007885332058136124031650490837864442687629129015664037894272559787 /\ Gives prog 68 [.t (.ag [.n 6 a]), .t (.ag [.n 6 b])] (.ag [.n 6 v]) := by
 have hB := (DZ b (by omega)).symm
 have hT0 : 0 = 0 % 18446744073709551616 + 18446744073709551616 * (0 % 18446744073709551616 + 18446744073709551616 * (0 % 18446744073709551616 + 18446744073709551616 * (0 % 18446744073709551616 + 18446744073709551616 * (0 % 18446744073709551616 + 18446744073709551616 * (0 % 18446744073709551616 + 18446744073709551616 * (0)))))) := by simp only [Nat.zero_mod, Nat.mul_zero, Nat.add_zero]
 obtain ⟨an, ao, ap⟩ := p9 (a / 1) (b / 1)
 obtain ⟨ae, aq, ar⟩ := p8 (ao) (0) 0 (by decide)
 obtain ⟨au, aw, ax⟩ := p9 (ae * 9940570264628428797) (13402431016077863595)
 obtain ⟨oR, ay, az⟩ := p8 (aw) (ae) 0 (by decide)
 obtain ⟨aA, aB, aC⟩ := p9 (a / 1) (b / 18446744073709551616)
 obtain ⟨aD, aE, aF⟩ := p8 (aB) (0) 0 (by decide)
 obtain ⟨aG, aH, aI⟩ := p8 (aD) (an + aq) 0 (by decide)
 obtain ⟨aJ, aK, aL⟩ := p9 (ae * 9940570264628428797) (2210141511517208575)
 obtain ⟨aM, aN, aO⟩ := p8 (aK) (aG) 0 (by decide)
 obtain ⟨aP, aQ, aR⟩ := p8 (aM) (au + ay) 0 (by decide)
 obtain ⟨aS, aT, aU⟩ := p9 (a / 1) (b / 340282366920938463463374607431768211456)
 obtain ⟨aV, aW, aX⟩ := p8 (aT) (0) 0 (by decide)
 obtain ⟨aY, aZ, a6⟩ := p8 (aV) (aA + aE + aH) 0 (by decide)
 obtain ⟨a7, a8, a9⟩ := p9 (ae * 9940570264628428797) (7435674573564081700)
 obtain ⟨ba, bc, be⟩ := p8 (a8) (aY) 0 (by decide)
 obtain ⟨bf, bg, bh⟩ := p8 (ba) (aJ + aN + aQ) 0 (by decide)
 obtain ⟨bn, br, bu⟩ := p9 (a / 1) (b / 6277101735386680763835789423207666416102355444464034512896)
 obtain ⟨bv, bw, bx⟩ := p8 (br) (0) 0 (by decide)
 obtain ⟨bz, bA, bB⟩ := p8 (bv) (aS + aW + aZ) 0 (by decide)
 obtain ⟨bC, bD, bE⟩ := p9 (ae * 9940570264628428797) (7239337960414712511)
 obtain ⟨bF, bG, bH⟩ := p8 (bD) (bz) 0 (by decide)
 obtain ⟨bI, bJ, bK⟩ := p8 (bF) (a7 + bc + bg) 0 (by decide)
 obtain ⟨bL, bM, bN⟩ := p9 (a / 1) (b / 115792089237316195423570985008687907853269984665640564039457584007913129639936)
 obtain ⟨bO, bP, bR⟩ := p8 (bM) (0) 0 (by decide)
 obtain ⟨bS, bU, bV⟩ := p8 (bO) (bn + bw + bA) 0 (by decide)
 obtain ⟨bW, bX, bY⟩ := p9 (ae * 9940570264628428797) (5412103778470702295)
 obtain ⟨bZ, b6, b7⟩ := p8 (bX) (bS) 0 (by decide)
 obtain ⟨b8, b9, cb⟩ := p8 (bZ) (bC + bG + bJ) 0 (by decide)
 obtain ⟨ce, cf, cg⟩ := p9 (a / 1) (b / 2135987035920910082395021706169552114602704522356652769947041607822219725780640550022962086936576)
 obtain ⟨ck, cm, cn⟩ := p8 (cf) (0) 0 (by decide)
 obtain ⟨co, cq, cr⟩ := p8 (ck) (bL + bP + bU) 0 (by decide)
 obtain ⟨ct, cu, cv⟩ := p9 (ae * 9940570264628428797) (1873798617647539866)
 obtain ⟨cw, cx, cy⟩ := p8 (cu) (co) 0 (by decide)
 obtain ⟨cz, cA, cB⟩ := p8 (cw) (bW + b6 + b9) 0 (by decide)
 obtain ⟨T1, Q0, hT1, hE0, hL1, hQ0⟩ := yr hT0 hB (by omega) hb ap ar ax az aC aF aI aL aO aR aU aX a6 a9 be bh bu bx bB bE bH bK bN bR bV bY b7 cb cg cn cr cv cy cB
 obtain ⟨cC, cD, cE⟩ := p9 (a / 18446744073709551616) (b / 1)
 obtain ⟨ah, cF, cG⟩ := p8 (cD) (aP) 0 (by decide)
 obtain ⟨cH, cI, cJ⟩ := p9 (ah * 9940570264628428797) (13402431016077863595)
 obtain ⟨oS, cL, cM⟩ := p8 (cI) (ah) 0 (by decide)
 obtain ⟨cN, cO, cP⟩ := p9 (a / 18446744073709551616) (b / 18446744073709551616)
 obtain ⟨cQ, cS, cT⟩ := p8 (cO) (bf) 0 (by decide)
 obtain ⟨cU, cV, cW⟩ := p8 (cQ) (cC + cF) 0 (by decide)
 obtain ⟨cX, cY, cZ⟩ := p9 (ah * 9940570264628428797) (2210141511517208575)
 obtain ⟨c9, da, db⟩ := p8 (cY) (cU) 0 (by decide)
 obtain ⟨dc, dd, de⟩ := p8 (c9) (cH + cL) 0 (by decide)
 obtain ⟨df, dh, di⟩ := p9 (a / 18446744073709551616) (b / 340282366920938463463374607431768211456)
 obtain ⟨dj, dk, dl⟩ := p8 (dh) (bI) 0 (by decide)
 obtain ⟨dm, dn, dp⟩ := p8 (dj) (cN + cS + cV) 0 (by decide)
 obtain ⟨dq, dr, dt⟩ := p9 (ah * 9940570264628428797) (7435674573564081700)
 obtain ⟨du, dv, dw⟩ := p8 (dr) (dm) 0 (by decide)
 obtain ⟨dx, dy, dz⟩ := p8 (du) (cX + da + dd) 0 (by decide)
 obtain ⟨dD, dE, dF⟩ := p9 (a / 18446744073709551616) (b / 6277101735386680763835789423207666416102355444464034512896)
 obtain ⟨dG, dH, dI⟩ := p8 (dE) (b8) 0 (by decide)
 obtain ⟨dJ, dK, dL⟩ := p8 (dG) (df + dk + dn) 0 (by decide)
 obtain ⟨dN, dO, dP⟩ := p9 (ah * 9940570264628428797) (7239337960414712511)
 obtain ⟨dQ, dT, dU⟩ := p8 (dO) (dJ) 0 (by decide)
 obtain ⟨dV, dW, dX⟩ := p8 (dQ) (dq + dv + dy) 0 (by decide)
 obtain ⟨dY, dZ, d9⟩ := p9 (a / 18446744073709551616) (b / 115792089237316195423570985008687907853269984665640564039457584007913129639936)
 obtain ⟨eb, ed, ee⟩ := p8 (dZ) (cz) 0 (by decide)
 obtain ⟨ef, eh, ei⟩ := p8 (eb) (dD + dH + dK) 0 (by decide)
 obtain ⟨ej, ek, eo⟩ := p9 (ah * 9940570264628428797) (5412103778470702295)
 obtain ⟨ep, er, eu⟩ := p8 (ek) (ef) 0 (by decide)
 obtain ⟨ew, ez, eA⟩ := p8 (ep) (dN + dT + dW) 0 (by decide)
 obtain ⟨eB, eC, eD⟩ := p9 (a / 18446744073709551616) (b / 2135987035920910082395021706169552114602704522356652769947041607822219725780640550022962086936576)
 obtain ⟨eE, eF, eG⟩ := p8 (eC) (ct + cx + cA + (ce + cm + cq)) 0 (by decide)
 obtain ⟨eH, eI, eJ⟩ := p8 (eE) (dY + ed + eh) 0 (by decide)
 obtain ⟨eK, eM, eN⟩ := p9 (ah * 9940570264628428797) (1873798617647539866)
 obtain ⟨eO, eQ, eU⟩ := p8 (eM) (eH) 0 (by decide)
 obtain ⟨eV, eW, eX⟩ := p8 (eO) (ej + er + ez) 0 (by decide)
 obtain ⟨T2, Q1, hT2, hE1, hL2, hQ1⟩ := yr hT1 hB hL1 hb cE cG cJ cM cP cT cW cZ db de di dl dp dt dw dz dF dI dL dP dU dX d9 ee ei eo eu eA eD eG eJ eN eU eX
 obtain ⟨eY, eZ, e9⟩ := p9 (a / 340282366920938463463374607431768211456) (b / 1)
 obtain ⟨aj, fa, fc⟩ := p8 (eZ) (dc) 0 (by decide)
 obtain ⟨fe, fg, fh⟩ := p9 (aj * 9940570264628428797) (13402431016077863595)
 obtain ⟨oT, fi, fj⟩ := p8 (fg) (aj) 0 (by decide)
 obtain ⟨fk, fl, fm⟩ := p9 (a / 340282366920938463463374607431768211456) (b / 18446744073709551616)
 obtain ⟨fo, fp, fq⟩ := p8 (fl) (dx) 0 (by decide)
 obtain ⟨ft, fu, fw⟩ := p8 (fo) (eY + fa) 0 (by decide)
 obtain ⟨fx, fy, fA⟩ := p9 (aj * 9940570264628428797) (2210141511517208575)
 obtain ⟨fB, fC, fD⟩ := p8 (fy) (ft) 0 (by decide)
 obtain ⟨fE, fF, fG⟩ := p8 (fB) (fe + fi) 0 (by decide)
 obtain ⟨fH, fI, fJ⟩ := p9 (a / 340282366920938463463374607431768211456) (b / 340282366920938463463374607431768211456)
 obtain ⟨fK, fL, fM⟩ := p8 (fI) (dV) 0 (by decide)
 obtain ⟨fN, fO, fP⟩ := p8 (fK) (fk + fp + fu) 0 (by decide)
 obtain ⟨fQ, fR, fS⟩ := p9 (aj * 9940570264628428797) (7435674573564081700)
 obtain ⟨fT, fU, fV⟩ := p8 (fR) (fN) 0 (by decide)
 obtain ⟨fW, fX, fY⟩ := p8 (fT) (fx + fC + fF) 0 (by decide)
 obtain ⟨fZ, ga, gb⟩ := p9 (a / 340282366920938463463374607431768211456) (b / 6277101735386680763835789423207666416102355444464034512896)
 obtain ⟨gd, ge, gg⟩ := p8 (ga) (ew) 0 (by decide)
 obtain ⟨gh, gk, gl⟩ := p8 (gd) (fH + fL + fO) 0 (by decide)
 obtain ⟨gm, gn, gs⟩ := p9 (aj * 9940570264628428797) (7239337960414712511)
 obtain ⟨gt, gu, gv⟩ := p8 (gn) (gh) 0 (by decide)
 obtain ⟨gA, gB, gC⟩ := p8 (gt) (fQ + fU + fX) 0 (by decide)
 obtain ⟨gD, gF, gG⟩ := p9 (a / 340282366920938463463374607431768211456) (b / 115792089237316195423570985008687907853269984665640564039457584007913129639936)
 obtain ⟨gH, gI, gJ⟩ := p8 (gF) (eV) 0 (by decide)
 obtain ⟨gL, gM, gN⟩ := p8 (gH) (fZ + ge + gk) 0 (by decide)
 obtain ⟨gO, gP, gR⟩ := p9 (aj * 9940570264628428797) (5412103778470702295)
 obtain ⟨gS, gT, gU⟩ := p8 (gP) (gL) 0 (by decide)
 obtain ⟨gV, gW, gX⟩ := p8 (gS) (gm + gu + gB) 0 (by decide)
 obtain ⟨gY, gZ, hJ⟩ := p9 (a / 340282366920938463463374607431768211456) (b / 2135987035920910082395021706169552114602704522356652769947041607822219725780640550022962086936576)
 obtain ⟨ia, ib, ic⟩ := p8 (gZ) (eK + eQ + eW + (eB + eF + eI)) 0 (by decide)
 obtain ⟨ig, ij, ik⟩ := p8 (ia) (gD + gI + gM) 0 (by decide)
 obtain ⟨il, im, io⟩ := p9 (aj * 9940570264628428797) (1873798617647539866)
 obtain ⟨ip, iq, ir⟩ := p8 (im) (ig) 0 (by decide)
 obtain ⟨iu, iv, iw⟩ := p8 (ip) (gO + gT + gW) 0 (by decide)
 obtain ⟨T3, Q2, hT3, hE2, hL3, hQ2⟩ := yr hT2 hB hL2 hb e9 fc fh fj fm fq fw fA fD fG fJ fM fP fS fV fY gb gg gl gs gv gC gG gJ gN gR gU gX hJ ic ik io ir iw
 obtain ⟨ix, iy, iz⟩ := p9 (a / 6277101735386680763835789423207666416102355444464034512896) (b / 1)
 obtain ⟨ak, iA, iB⟩ := p8 (iy) (fE) 0 (by decide)
 obtain ⟨iC, iD, iE⟩ := p9 (ak * 9940570264628428797) (13402431016077863595)
 obtain ⟨oU, iF, iG⟩ := p8 (iD) (ak) 0 (by decide)
 obtain ⟨iH, iI, iJ⟩ := p9 (a / 6277101735386680763835789423207666416102355444464034512896) (b / 18446744073709551616)
 obtain ⟨iK, iL, iM⟩ := p8 (iI) (fW) 0 (by decide)
 obtain ⟨iN, iO, iP⟩ := p8 (iK) (ix + iA) 0 (by decide)
 obtain ⟨iQ, iR, iS⟩ := p9 (ak * 9940570264628428797) (2210141511517208575)
 obtain ⟨iT, iU, iV⟩ := p8 (iR) (iN) 0 (by decide)
 obtain ⟨iW, iX, iY⟩ := p8 (iT) (iC + iF) 0 (by decide)
 obtain ⟨iZ, i6, i7⟩ := p9 (a / 6277101735386680763835789423207666416102355444464034512896) (b / 340282366920938463463374607431768211456)
 obtain ⟨i8, i9, ja⟩ := p8 (i6) (gA) 0 (by decide)
 obtain ⟨jb, jc, jd⟩ := p8 (i8) (iH + iL + iO) 0 (by decide)
 obtain ⟨je, jf, jg⟩ := p9 (ak * 9940570264628428797) (7435674573564081700)
 obtain ⟨jh, ji, jj⟩ := p8 (jf) (jb) 0 (by decide)
 obtain ⟨jk, jl, jm⟩ := p8 (jh) (iQ + iU + iX) 0 (by decide)
 obtain ⟨jn, jo, jp⟩ := p9 (a / 6277101735386680763835789423207666416102355444464034512896) (b / 6277101735386680763835789423207666416102355444464034512896)
 obtain ⟨jq, jr, js⟩ := p8 (jo) (gV) 0 (by decide)
 obtain ⟨jt, ju, jv⟩ := p8 (jq) (iZ + i9 + jc) 0 (by decide)
 obtain ⟨jw, jx, jy⟩ := p9 (ak * 9940570264628428797) (7239337960414712511)
 obtain ⟨jz, jA, jB⟩ := p8 (jx) (jt) 0 (by decide)
 obtain ⟨jC, jD, jE⟩ := p8 (jz) (je + ji + jl) 0 (by decide)
 obtain ⟨jF, jG, jH⟩ := p9 (a / 6277101735386680763835789423207666416102355444464034512896) (b / 115792089237316195423570985008687907853269984665640564039457584007913129639936)
 obtain ⟨jI, jJ, jK⟩ := p8 (jG) (iu) 0 (by decide)
 obtain ⟨jL, jM, jN⟩ := p8 (jI) (jn + jr + ju) 0 (by decide)
 obtain ⟨jO, jP, jQ⟩ := p9 (ak * 9940570264628428797) (5412103778470702295)
 obtain ⟨jR, jS, jT⟩ := p8 (jP) (jL) 0 (by decide)
 obtain ⟨jU, jV, jW⟩ := p8 (jR) (jw + jA + jD) 0 (by decide)
 obtain ⟨jX, jY, jZ⟩ := p9 (a / 6277101735386680763835789423207666416102355444464034512896) (b / 2135987035920910082395021706169552114602704522356652769947041607822219725780640550022962086936576)
 obtain ⟨j0, j7, j8⟩ := p8 (jY) (il + iq + iv + (gY + ib + ij)) 0 (by decide)
 obtain ⟨j9, kg, kh⟩ := p8 (j0) (jF + jJ + jM) 0 (by decide)
 obtain ⟨ki, kj, km⟩ := p9 (ak * 9940570264628428797) (1873798617647539866)
 obtain ⟨kn, kp, kq⟩ := p8 (kj) (j9) 0 (by decide)
 obtain ⟨ku, kw, kA⟩ := p8 (kn) (jO + jS + jV) 0 (by decide)
 obtain ⟨T4, Q3, hT4, hE3, hL4, hQ3⟩ := yr hT3 hB hL3 hb iz iB iE iG iJ iM iP iS iV iY i7 ja jd jg jj jm jp js jv jy jB jE jH jK jN jQ jT jW jZ j8 kh km kq kA
 obtain ⟨kB, kC, kD⟩ := p9 (a / 115792089237316195423570985008687907853269984665640564039457584007913129639936) (b / 1)
 obtain ⟨al, kE, kF⟩ := p8 (kC) (iW) 0 (by decide)
 obtain ⟨kG, kH, kI⟩ := p9 (al * 9940570264628428797) (13402431016077863595)
 obtain ⟨oV, kJ, kK⟩ := p8 (kH) (al) 0 (by decide)
 obtain ⟨kL, kM, kN⟩ := p9 (a / 115792089237316195423570985008687907853269984665640564039457584007913129639936) (b / 18446744073709551616)
 obtain ⟨kO, kP, kQ⟩ := p8 (kM) (jk) 0 (by decide)
 obtain ⟨kR, kT, kU⟩ := p8 (kO) (kB + kE) 0 (by decide)
 obtain ⟨kV, kW, kX⟩ := p9 (al * 9940570264628428797) (2210141511517208575)
 obtain ⟨kY, kZ, k6⟩ := p8 (kW) (kR) 0 (by decide)
 obtain ⟨k7, k8, k9⟩ := p8 (kY) (kG + kJ) 0 (by decide)
 obtain ⟨lb, lc, ld⟩ := p9 (a / 115792089237316195423570985008687907853269984665640564039457584007913129639936) (b / 340282366920938463463374607431768211456)
 obtain ⟨lf, lg, lh⟩ := p8 (lc) (jC) 0 (by decide)
 obtain ⟨ll, lm, ln⟩ := p8 (lf) (kL + kP + kT) 0 (by decide)
 obtain ⟨lr, lu, lv⟩ := p9 (al * 9940570264628428797) (7435674573564081700)
 obtain ⟨lw, lx, ly⟩ := p8 (lu) (ll) 0 (by decide)
 obtain ⟨lz, lA, lB⟩ := p8 (lw) (kV + kZ + k8) 0 (by decide)
 obtain ⟨lC, lD, lE⟩ := p9 (a / 115792089237316195423570985008687907853269984665640564039457584007913129639936) (b / 6277101735386680763835789423207666416102355444464034512896)
 obtain ⟨lF, lG, lH⟩ := p8 (lD) (jU) 0 (by decide)
 obtain ⟨lI, lJ, lK⟩ := p8 (lF) (lb + lg + lm) 0 (by decide)
 obtain ⟨lL, lM, lN⟩ := p9 (al * 9940570264628428797) (7239337960414712511)
 obtain ⟨lO, lP, lQ⟩ := p8 (lM) (lI) 0 (by decide)
 obtain ⟨lR, lS, lT⟩ := p8 (lO) (lr + lx + lA) 0 (by decide)
 obtain ⟨lU, lV, lW⟩ := p9 (a / 115792089237316195423570985008687907853269984665640564039457584007913129639936) (b / 115792089237316195423570985008687907853269984665640564039457584007913129639936)
 obtain ⟨lX, lY, lZ⟩ := p8 (lV) (ku) 0 (by decide)
 obtain ⟨l6, l7, l8⟩ := p8 (lX) (lC + lG + lJ) 0 (by decide)
 obtain ⟨l9, ma, mb⟩ := p9 (al * 9940570264628428797) (5412103778470702295)
 obtain ⟨mc, me, mf⟩ := p8 (ma) (l6) 0 (by decide)
 obtain ⟨mg, mh, mi⟩ := p8 (mc) (lL + lP + lS) 0 (by decide)
 obtain ⟨mj, ml, mm⟩ := p9 (a / 115792089237316195423570985008687907853269984665640564039457584007913129639936) (b / 2135987035920910082395021706169552114602704522356652769947041607822219725780640550022962086936576)
 obtain ⟨mq, ms, mt⟩ := p8 (ml) (ki + kp + kw + (jX + j7 + kg)) 0 (by decide)
 obtain ⟨mu, mv, mw⟩ := p8 (mq) (lU + lY + l7) 0 (by decide)
 obtain ⟨my, mz, mA⟩ := p9 (al * 9940570264628428797) (1873798617647539866)
 obtain ⟨mB, mC, mD⟩ := p8 (mz) (mu) 0 (by decide)
 obtain ⟨mE, mF, mG⟩ := p8 (mB) (l9 + me + mh) 0 (by decide)
 obtain ⟨T5, Q4, hT5, hE4, hL5, hQ4⟩ := yr hT4 hB hL4 hb kD kF kI kK kN kQ kU kX k6 k9 ld lh ln lv ly lB lE lH lK lN lQ lT lW lZ l8 mb mf mi mm mt mw mA mD mG
 obtain ⟨mH, mI, mJ⟩ := p9 (a / 2135987035920910082395021706169552114602704522356652769947041607822219725780640550022962086936576) (b / 1)
 obtain ⟨am, mK, mL⟩ := p8 (mI) (k7) 0 (by decide)
 obtain ⟨mM, mN, mO⟩ := p9 (am * 9940570264628428797) (13402431016077863595)
 obtain ⟨oW, mP, mQ⟩ := p8 (mN) (am) 0 (by decide)
 obtain ⟨mR, mS, mT⟩ := p9 (a / 2135987035920910082395021706169552114602704522356652769947041607822219725780640550022962086936576) (b / 18446744073709551616)
 obtain ⟨mU, mV, mW⟩ := p8 (mS) (lz) 0 (by decide)
 obtain ⟨mX, mY, mZ⟩ := p8 (mU) (mH + mK) 0 (by decide)
 obtain ⟨m0, m7, m8⟩ := p9 (am * 9940570264628428797) (2210141511517208575)
 obtain ⟨m9, na, ne⟩ := p8 (m7) (mX) 0 (by decide)
 obtain ⟨nf, ng, nh⟩ := p8 (m9) (mM + mP) 0 (by decide)
 obtain ⟨nk, nl, nn⟩ := p9 (a / 2135987035920910082395021706169552114602704522356652769947041607822219725780640550022962086936576) (b / 340282366920938463463374607431768211456)
 obtain ⟨np, nq, nr⟩ := p8 (nl) (lR) 0 (by decide)
 obtain ⟨nt, nu, nv⟩ := p8 (np) (mR + mV + mY) 0 (by decide)
 obtain ⟨nw, nx, ny⟩ := p9 (am * 9940570264628428797) (7435674573564081700)
 obtain ⟨nz, nA, nB⟩ := p8 (nx) (nt) 0 (by decide)
 obtain ⟨nC, nD, nE⟩ := p8 (nz) (m0 + na + ng) 0 (by decide)
 obtain ⟨nF, nG, nH⟩ := p9 (a / 2135987035920910082395021706169552114602704522356652769947041607822219725780640550022962086936576) (b / 6277101735386680763835789423207666416102355444464034512896)
 obtain ⟨nI, nJ, nK⟩ := p8 (nG) (mg) 0 (by decide)
 obtain ⟨nL, nM, nN⟩ := p8 (nI) (nk + nq + nu) 0 (by decide)
 obtain ⟨nO, nP, nQ⟩ := p9 (am * 9940570264628428797) (7239337960414712511)
 obtain ⟨nR, nS, nT⟩ := p8 (nP) (nL) 0 (by decide)
 obtain ⟨nU, nV, nW⟩ := p8 (nR) (nw + nA + nD) 0 (by decide)
 obtain ⟨nZ, n6, n7⟩ := p9 (a / 2135987035920910082395021706169552114602704522356652769947041607822219725780640550022962086936576) (b / 115792089237316195423570985008687907853269984665640564039457584007913129639936)
 obtain ⟨n8, n9, oa⟩ := p8 (n6) (mE) 0 (by decide)
 obtain ⟨oc, od, oe⟩ := p8 (n8) (nF + nJ + nM) 0 (by decide)
 obtain ⟨og, oh, ol⟩ := p9 (am * 9940570264628428797) (5412103778470702295)
 obtain ⟨om, oo, oq⟩ := p8 (oh) (oc) 0 (by decide)
 obtain ⟨ou, ov, ow⟩ := p8 (om) (nO + nS + nV) 0 (by decide)
 obtain ⟨ox, oy, oz⟩ := p9 (a / 2135987035920910082395021706169552114602704522356652769947041607822219725780640550022962086936576) (b / 2135987035920910082395021706169552114602704522356652769947041607822219725780640550022962086936576)
 obtain ⟨oA, oB, oC⟩ := p8 (oy) (my + mC + mF + (mj + ms + mv)) 0 (by decide)
 obtain ⟨oD, oE, oF⟩ := p8 (oA) (nZ + n9 + od) 0 (by decide)
 obtain ⟨oG, oH, oI⟩ := p9 (am * 9940570264628428797) (1873798617647539866)
 obtain ⟨oJ, oK, oM⟩ := p8 (oH) (oD) 0 (by decide)
 obtain ⟨oO, oP, oQ⟩ := p8 (oJ) (og + oo + ov) 0 (by decide)
 obtain ⟨T6, Q5, hT6, hE5, hL6, hQ5⟩ := yr hT5 hB hL5 hb mJ mL mO mQ mT mW mZ m8 ne nh nn nr nv ny nB nE nH nK nN nQ nT nW n7 oa oe ol oq ow oz oC oF oI oM oQ
 refine ⟨T6 % 4002409555221667393417789825735904156556882819939007885332058136124031650490837864442687629129015664037894272559787, Nat.mod_lt _ (by decide), A6 (DZ a ha) hE0 hE1 hE2 hE3 hE4 hE5, ?_⟩
 have hc : nf % 18446744073709551616 + 18446744073709551616 * (nC % 18446744073709551616 + 18446744073709551616 * (nU % 18446744073709551616 + 18446744073709551616 * (ou % 18446744073709551616 + 18446744073709551616 * (oO % 18446744073709551616 + 18446744073709551616 * ((oG + oK + oP + (ox + oB + oE)) % 18446744073709551616 + 18446744073709551616 * (0)))))) < 2 * 4002409555221667393417789825735904156556882819939007885332058136124031650490837864442687629129015664037894272559787 := by rw [← hT6]; omega
 rw [hT6]
 exact qa (P := prog) (env := [tl, vk, eNP]) ⟨rF, sS, NV, tt0⟩ func68 0 (oN [(17, an, ao), (25, ae, aq), (39, au, aw), (47, oR, ay), (59, aA, aB), (67, aD, aE), (79, aG, aH), (90, aJ, aK), (98, aM, aN), (110, aP, aQ), (123, aS, aT), (131, aV, aW), (143, aY, aZ), (154, a7, a8), (162, ba, bc), (174, bf, bg), (187, bn, br), (195, bv, bw), (207, bz, bA), (218, bC, bD), (226, bF, bG), (238, bI, bJ), (251, bL, bM), (259, bO, bP), (271, bS, bU), (282, bW, bX), (290, bZ, b6), (302, b8, b9), (315, ce, cf), (323, ck, cm), (335, co, cq), (346, ct, cu), (354, cw, cx), (366, cz, cA), (388, cC, cD), (396, ah, cF), (410, cH, cI), (418, oS, cL), (430, cN, cO), (438, cQ, cS), (450, cU, cV), (461, cX, cY), (469, c9, da), (481, dc, dd), (494, df, dh), (502, dj, dk), (514, dm, dn), (525, dq, dr), (533, du, dv), (545, dx, dy), (558, dD, dE), (566, dG, dH), (578, dJ, dK), (589, dN, dO), (597, dQ, dT), (609, dV, dW), (622, dY, dZ), (630, eb, ed), (642, ef, eh), (653, ej, ek), (661, ep, er), (673, ew, ez), (686, eB, eC), (694, eE, eF), (706, eH, eI), (717, eK, eM), (725, eO, eQ), (737, eV, eW), (759, eY, eZ), (767, aj, fa), (781, fe, fg), (789, oT, fi), (801, fk, fl), (809, fo, fp), (821, ft, fu), (832, fx, fy), (840, fB, fC), (852, fE, fF), (865, fH, fI), (873, fK, fL), (885, fN, fO), (896, fQ, fR), (904, fT, fU), (916, fW, fX), (929, fZ, ga), (937, gd, ge), (949, gh, gk), (960, gm, gn), (968, gt, gu), (980, gA, gB), (993, gD, gF), (1001, gH, gI), (1013, gL, gM), (1024, gO, gP), (1032, gS, gT), (1044, gV, gW), (1057, gY, gZ), (1065, ia, ib), (1077, ig, ij), (1088, il, im), (1096, ip, iq), (1108, iu, iv), (1130, ix, iy), (1138, ak, iA), (1152, iC, iD), (1160, oU, iF), (1172, iH, iI), (1180, iK, iL), (1192, iN, iO), (1203, iQ, iR), (1211, iT, iU), (1223, iW, iX), (1236, iZ, i6), (1244, i8, i9), (1256, jb, jc), (1267, je, jf), (1275, jh, ji), (1287, jk, jl), (1300, jn, jo), (1308, jq, jr), (1320, jt, ju), (1331, jw, jx), (1339, jz, jA), (1351, jC, jD), (1364, jF, jG), (1372, jI, jJ), (1384, jL, jM), (1395, jO, jP), (1403, jR, jS), (1415, jU, jV), (1428, jX, jY), (1436, j0, j7), (1448, j9, kg), (1459, ki, kj), (1467, kn, kp), (1479, ku, kw), (1501, kB, kC), (1509, al, kE), (1523, kG, kH), (1531, oV, kJ), (1543, kL, kM), (1551, kO, kP), (1563, kR, kT), (1574, kV, kW), (1582, kY, kZ), (1594, k7, k8), (1607, lb, lc), (1615, lf, lg), (1627, ll, lm), (1638, lr, lu), (1646, lw, lx), (1658, lz, lA), (1671, lC, lD), (1679, lF, lG), (1691, lI, lJ), (1702, lL, lM), (1710, lO, lP), (1722, lR, lS), (1735, lU, lV), (1743, lX, lY), (1755, l6, l7), (1766, l9, ma), (1774, mc, me), (1786, mg, mh), (1799, mj, ml), (1807, mq, ms), (1819, mu, mv), (1830, my, mz), (1838, mB, mC), (1850, mE, mF), (1872, mH, mI), (1880, am, mK), (1894, mM, mN), (1902, oW, mP), (1914, mR, mS), (1922, mU, mV), (1934, mX, mY), (1945, m0, m7), (1953, m9, na), (1965, nf, ng), (1978, nk, nl), (1986, np, nq), (1998, nt, nu), (2009, nw, nx), (2017, nz, nA), (2029, nC, nD), (2042, nF, nG), (2050, nI, nJ), (2062, nL, nM), (2073, nO, nP), (2081, nR, nS), (2093, nU, nV), (2106, nZ, n6), (2114, n8, n9), (2126, oc, od), (2137, og, oh), (2145, om, oo), (2157, ou, ov), (2170, ox, oy), (2178, oA, oB), (2190, oD, oE), (2201, oG, oH), (2209, oJ, oK), (2221, oO, oP)] []) (by kernel_rfl) (ai hc (ai oQ (ai oM (ai oI (ai oF (ai oC (ai oz (ai ow (ai oq (ai ol (ai oe (ai oa (ai n7 (ai nW (ai nT (ai nQ (ai nN (ai nK (ai nH (ai nE (ai nB (ai ny (ai nv (ai nr (ai nn (ai nh (ai ne (ai m8 (ai mZ (ai mW (ai mT (ai mQ (ai mO (ai mL (ai mJ (ai mG (ai mD (ai mA (ai mw (ai mt (ai mm (ai mi (ai mf (ai mb (ai l8 (ai lZ (ai lW (ai lT (ai lQ (ai lN (ai lK (ai lH (ai lE (ai lB (ai ly (ai lv (ai ln (ai lh (ai ld (ai k9 (ai k6 (ai kX (ai kU (ai kQ (ai kN (ai kK (ai kI (ai kF (ai kD (ai kA (ai kq (ai km (ai kh (ai j8 (ai jZ (ai jW (ai jT (ai jQ (ai jN (ai jK (ai jH (ai jE (ai jB (ai jy (ai jv (ai js (ai jp (ai jm (ai jj (ai jg (ai jd (ai ja (ai i7 (ai iY (ai iV (ai iS (ai iP (ai iM (ai iJ (ai iG (ai iE (ai iB (ai iz (ai iw (ai ir (ai io (ai ik (ai ic (ai hJ (ai gX (ai gU (ai gR (ai gN (ai gJ (ai gG (ai gC (ai gv (ai gs (ai gl (ai gg (ai gb (ai fY (ai fV (ai fS (ai fP (ai fM (ai fJ (ai fG (ai fD (ai fA (ai fw (ai fq (ai fm (ai fj (ai fh (ai fc (ai e9 (ai eX (ai eU (ai eN (ai eJ (ai eG (ai eD (ai eA (ai eu (ai eo (ai ei (ai ee (ai d9 (ai dX (ai dU (ai dP (ai dL (ai dI (ai dF (ai dz (ai dw (ai dt (ai dp (ai dl (ai di (ai de (ai db (ai cZ (ai cW (ai cT (ai cP (ai cM (ai cJ (ai cG (ai cE (ai cB (ai cy (ai cv (ai cr (ai cn (ai cg (ai cb (ai b7 (ai bY (ai bV (ai bR (ai bN (ai bK (ai bH (ai bE (ai bB (ai bx (ai bu (ai bh (ai be (ai a9 (ai a6 (ai aX (ai aU (ai aR (ai aO (ai aL (ai aI (ai aF (ai aC (ai az (ai ax (ai ar (ai ap tt0)))))))))))))))))))))))))))))))))))))))))))))))))))))))))))))))))))))))))))))))))))))))))))))))))))))))))))))))))))))))))))))))))))))))))))))))))))))))))))))))))))))))))))))))))))))))))))))))))))))))))))))
end Go.Proofs.YtfbkefgoblcmpaaGreat
