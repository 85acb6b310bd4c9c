/- Pruned: ZhCoP. -/
import Derived.Test.YtokjhbmmdmeafaaGreatQHg
set_option linter.unusedSimpArgs false
set_option linter.unusedVariables false
set_option maxHeartbeats 4000000
namespace Go.Proofs.YtokjhbmmdmeafaaGreat
open Go.Ev Go.RowKit
open Tryz
theorem Av {P : Program} {f : FuncId} {args : List XV} {l : List Ch} {x : Nat} (h : Gives P f args (.ag l)) (hc : qi 6 l = some (x, [])) : Gives P f args (.ag [.n 6 x]) :=
 h.same (Mk hc)
def eRP : Entry := xI 95 [(none, .ag [.c (.int .u64 13402431016077863595), .c (.int .u64 2210141511517208575), .c (.int .u64 7435674573564081700), .c (.int .u64 7239337960414712511), .c (.int .u64 5412103778470702295), .c (.int .u64 1873798617647539866)])]
theorem vl : eRP.OK prog := va (fun args w => Go.Proofs.enters_of (P := prog) func95 (by kernel_rfl) rfl args w)
 (only (pq (P := prog) (env := []) trivial func95 0 o0 (by kernel_rfl) tt0))
theorem abN (x : Nat) (hx : x < 2 * 4002409555221667393417789825735904156556882819939007885332058136124031650490837864442687629129015664037894272559787) : Gives prog 99 [.t (.ag [.n 6 x])] (.ag [.n 6 (x % 4002409555221667393417789825735904156556882819939007885332058136124031650490837864442687629129015664037894272559787)]) := by
 obtain ⟨d0, k0, q0⟩ := qC (x / 1) 13402431016077863595 0 (by decide)
 obtain ⟨d1, k1, q1⟩ := qC (x / 18446744073709551616) 2210141511517208575 k0 q0.2.2.2
 obtain ⟨d2, k2, q2⟩ := qC (x / 340282366920938463463374607431768211456) 7435674573564081700 k1 q1.2.2.2
 obtain ⟨d3, k3, q3⟩ := qC (x / 6277101735386680763835789423207666416102355444464034512896) 7239337960414712511 k2 q2.2.2.2
 obtain ⟨d4, k4, q4⟩ := qC (x / 115792089237316195423570985008687907853269984665640564039457584007913129639936) 5412103778470702295 k3 q3.2.2.2
 obtain ⟨d5, k5, q5⟩ := qC (x / 2135987035920910082395021706169552114602704522356652769947041607822219725780640550022962086936576) 1873798617647539866 k4 q4.2.2.2
 obtain ⟨h1, h2, h3, h4⟩ := IL q0 q1 q2 q3 q4 q5
 rw [Dp x (by omega)] at h1
 simp only [Nat.reduceMod, Nat.reduceMul, Nat.reduceAdd] at h1
 by_cases hk : k5 = 0
 ·have hg := pq (P := prog) (env := [uw, eRP]) ⟨ss, vl, tt0⟩ func99 0 (oN [(19, d0, k0), (39, d1, k1), (59, d2, k2), (79, d3, k3), (99, d4, k4), (119, d5, k5)] [(130, 1)]) (args := [.t (.ag [.n 6 x])]) (r := .ag [.n 1 d0, .n 1 d1, .n 1 d2, .n 1 d3, .n 1 d4, .n 1 d5]) (by kernel_rfl) (ai (show decide (k5 % 18446744073709551616 = 0 % 18446744073709551616) = true by simp [hk]) (ai q5 (ai q4 (ai q3 (ai q2 (ai q1 (ai q0 tt0)))))))
  have hv : x % 4002409555221667393417789825735904156556882819939007885332058136124031650490837864442687629129015664037894272559787 = d0 % 18446744073709551616 + 18446744073709551616 * (d1 % 18446744073709551616 + 18446744073709551616 * (d2 % 18446744073709551616 + 18446744073709551616 * (d3 % 18446744073709551616 + 18446744073709551616 * (d4 % 18446744073709551616 + 18446744073709551616 * (d5 % 18446744073709551616 + 18446744073709551616 * (0)))))) := by
   rw [h2]
   generalize d0 + 18446744073709551616 * (d1 + 18446744073709551616 * (d2 + 18446744073709551616 * (d3 + 18446744073709551616 * (d4 + 18446744073709551616 * (d5 + 18446744073709551616 * (0)))))) = D at *
   clear hg q0 q1 q2 q3 q4 q5
   omega
  rw [hv]
  exact Av hg rfl
 ·have hg := pq (P := prog) (env := [uw, eRP]) ⟨ss, vl, tt0⟩ func99 0 (oN [(19, d0, k0), (39, d1, k1), (59, d2, k2), (79, d3, k3), (99, d4, k4), (119, d5, k5)] [(130, 2)]) (args := [.t (.ag [.n 6 x])]) (r := .ag [.n 6 x]) (by kernel_rfl) (ai (show decide (k5 % 18446744073709551616 = 0 % 18446744073709551616) = false by have h := q5.2.2.2; simp; omega) (ai q5 (ai q4 (ai q3 (ai q2 (ai q1 (ai q0 tt0)))))))
  have hv : x % 4002409555221667393417789825735904156556882819939007885332058136124031650490837864442687629129015664037894272559787 = x := by
   generalize d0 + 18446744073709551616 * (d1 + 18446744073709551616 * (d2 + 18446744073709551616 * (d3 + 18446744073709551616 * (d4 + 18446744073709551616 * (d5 + 18446744073709551616 * (0)))))) = D at *
   clear hg q0 q1 q2 q3 q4 q5
   omega
  rw [hv]
  exact hg
def eNP : Entry := pS 99 u6.x (fun x => [(some (x < 2 * 4002409555221667393417789825735904156556882819939007885332058136124031650490837864442687629129015664037894272559787), .ag [.n 6 (x % 4002409555221667393417789825735904156556882819939007885332058136124031650490837864442687629129015664037894272559787)])])
theorem Nf : eNP.OK prog := pE (fun args w => Go.Proofs.enters_of (P := prog) func99 (by kernel_rfl) rfl args w) (fun u c r hm hc => by
 simp only [List.mem_singleton, pi0] at hm
 obtain ⟨rfl, rfl⟩ := hm
 exact abN u hc)
theorem VW (a b : Nat) (ha : a < 4002409555221667393417789825735904156556882819939007885332058136124031650490837864442687629129015664037894272559787) (hb : b < 4002409555221667393417789825735904156556882819939007885332058136124031650490837864442687629129015664037894272559787) : Gives prog 62 [.t (.ag [.n 6 a]), .t (.ag [.n 6 b])] (.ag [.n 6 ((a + b) % 4002409555221667393417789825735904156556882819939007885332058136124031650490837864442687629129015664037894272559787)]) := by
 obtain ⟨d0, k0, q0⟩ := po (a / 1) (b / 1) 0 (by decide)
 obtain ⟨d1, k1, q1⟩ := po (a / 18446744073709551616) (b / 18446744073709551616) k0 q0.2.2.2
 obtain ⟨d2, k2, q2⟩ := po (a / 340282366920938463463374607431768211456) (b / 340282366920938463463374607431768211456) k1 q1.2.2.2
 obtain ⟨d3, k3, q3⟩ := po (a / 6277101735386680763835789423207666416102355444464034512896) (b / 6277101735386680763835789423207666416102355444464034512896) k2 q2.2.2.2
 obtain ⟨d4, k4, q4⟩ := po (a / 115792089237316195423570985008687907853269984665640564039457584007913129639936) (b / 115792089237316195423570985008687907853269984665640564039457584007913129639936) k3 q3.2.2.2
 obtain ⟨d5, k5, q5⟩ := po (a / 2135987035920910082395021706169552114602704522356652769947041607822219725780640550022962086936576) (b / 2135987035920910082395021706169552114602704522356652769947041607822219725780640550022962086936576) k4 q4.2.2.2
 obtain ⟨h1, h2, h3, h4⟩ := TI q0 q1 q2 q3 q4 q5
 rw [Dp a (by omega), Dp b (by omega)] at h1
 have hv : d0 % 18446744073709551616 + 18446744073709551616 * (d1 % 18446744073709551616 + 18446744073709551616 * (d2 % 18446744073709551616 + 18446744073709551616 * (d3 % 18446744073709551616 + 18446744073709551616 * (d4 % 18446744073709551616 + 18446744073709551616 * (d5 % 18446744073709551616 + 18446744073709551616 * (0)))))) = a + b := by
  rw [h2]
  generalize d0 + 18446744073709551616 * (d1 + 18446744073709551616 * (d2 + 18446744073709551616 * (d3 + 18446744073709551616 * (d4 + 18446744073709551616 * (d5 + 18446744073709551616 * (0)))))) = D at *
  clear q0 q1 q2 q3 q4 q5
  omega
 rw [← hv]
 exact pq (P := prog) (env := [uJ, eNP]) ⟨sr, Nf, tt0⟩ func62 0 (oN [(9, d0, k0), (21, d1, k1), (33, d2, k2), (45, d3, k3), (57, d4, k4), (69, d5, k5)] []) (by kernel_rfl) (ai (show d0 % 18446744073709551616 + 18446744073709551616 * (d1 % 18446744073709551616 + 18446744073709551616 * (d2 % 18446744073709551616 + 18446744073709551616 * (d3 % 18446744073709551616 + 18446744073709551616 * (d4 % 18446744073709551616 + 18446744073709551616 * (d5 % 18446744073709551616 + 18446744073709551616 * (0)))))) < 2 * 4002409555221667393417789825735904156556882819939007885332058136124031650490837864442687629129015664037894272559787 by rw [hv]; omega) (ai q5 (ai q4 (ai q3 (ai q2 (ai q1 (ai q0 tt0)))))))
theorem Rl (a b : Nat) (ha : a < 4002409555221667393417789825735904156556882819939007885332058136124031650490837864442687629129015664037894272559787) (hb : b < 4002409555221667393417789825735904156556882819939007885332058136124031650490837864442687629129015664037894272559787) : Gives prog 102 [.t (.ag [.n 6 a]), .t (.ag [.n 6 b])] (.ag [.n 6 ((a + (4002409555221667393417789825735904156556882819939007885332058136124031650490837864442687629129015664037894272559787 - b)) % 4002409555221667393417789825735904156556882819939007885332058136124031650490837864442687629129015664037894272559787)]) := by
 obtain ⟨d0, k0, q0⟩ := qC (a / 1) (b / 1) 0 (by decide)
 obtain ⟨d1, k1, q1⟩ := qC (a / 18446744073709551616) (b / 18446744073709551616) k0 q0.2.2.2
 obtain ⟨d2, k2, q2⟩ := qC (a / 340282366920938463463374607431768211456) (b / 340282366920938463463374607431768211456) k1 q1.2.2.2
 obtain ⟨d3, k3, q3⟩ := qC (a / 6277101735386680763835789423207666416102355444464034512896) (b / 6277101735386680763835789423207666416102355444464034512896) k2 q2.2.2.2
 obtain ⟨d4, k4, q4⟩ := qC (a / 115792089237316195423570985008687907853269984665640564039457584007913129639936) (b / 115792089237316195423570985008687907853269984665640564039457584007913129639936) k3 q3.2.2.2
 obtain ⟨d5, k5, q5⟩ := qC (a / 2135987035920910082395021706169552114602704522356652769947041607822219725780640550022962086936576) (b / 2135987035920910082395021706169552114602704522356652769947041607822219725780640550022962086936576) k4 q4.2.2.2
 obtain ⟨h1, h2, h3, h4⟩ := IL q0 q1 q2 q3 q4 q5
 rw [Dp a (by omega), Dp b (by omega)] at h1
 by_cases hk : k5 = 0
 ·have hg := pq (P := prog) (env := [uw, uJ, eRP]) ⟨ss, sr, vl, tt0⟩ func102 0 (oN [(9, d0, k0), (21, d1, k1), (33, d2, k2), (45, d3, k3), (57, d4, k4), (69, d5, k5)] [(77, 1)]) (args := [.t (.ag [.n 6 a]), .t (.ag [.n 6 b])]) (r := .ag [.n 1 d0, .n 1 d1, .n 1 d2, .n 1 d3, .n 1 d4, .n 1 d5]) (by kernel_rfl) (ai (show decide (k5 % 18446744073709551616 = 0 % 18446744073709551616) = true by simp [hk]) (ai q5 (ai q4 (ai q3 (ai q2 (ai q1 (ai q0 tt0)))))))
  have hv : (a + (4002409555221667393417789825735904156556882819939007885332058136124031650490837864442687629129015664037894272559787 - b)) % 4002409555221667393417789825735904156556882819939007885332058136124031650490837864442687629129015664037894272559787 = d0 % 18446744073709551616 + 18446744073709551616 * (d1 % 18446744073709551616 + 18446744073709551616 * (d2 % 18446744073709551616 + 18446744073709551616 * (d3 % 18446744073709551616 + 18446744073709551616 * (d4 % 18446744073709551616 + 18446744073709551616 * (d5 % 18446744073709551616 + 18446744073709551616 * (0)))))) := by
   rw [h2]
   generalize d0 + 18446744073709551616 * (d1 + 18446744073709551616 * (d2 + 18446744073709551616 * (d3 + 18446744073709551616 * (d4 + 18446744073709551616 * (d5 + 18446744073709551616 * (0)))))) = D at *
   clear hg q0 q1 q2 q3 q4 q5
   omega
  rw [hv]
  exact Av hg rfl
 ·obtain ⟨s0, c0, w0⟩ := po (d0 / 1) 13402431016077863595 0 (by decide)
  obtain ⟨s1, c1, w1⟩ := po (d1 / 1) 2210141511517208575 c0 w0.2.2.2
  obtain ⟨s2, c2, w2⟩ := po (d2 / 1) 7435674573564081700 c1 w1.2.2.2
  obtain ⟨s3, c3, w3⟩ := po (d3 / 1) 7239337960414712511 c2 w2.2.2.2
  obtain ⟨s4, c4, w4⟩ := po (d4 / 1) 5412103778470702295 c3 w3.2.2.2
  obtain ⟨s5, c5, w5⟩ := po (d5 / 1) 1873798617647539866 c4 w4.2.2.2
  have hg := pq (P := prog) (env := [uw, uJ, eRP]) ⟨ss, sr, vl, tt0⟩ func102 0 (oN [(9, d0, k0), (21, d1, k1), (33, d2, k2), (45, d3, k3), (57, d4, k4), (69, d5, k5), (85, s0, c0), (97, s1, c1), (109, s2, c2), (121, s3, c3), (133, s4, c4), (145, s5, c5)] [(77, 2)]) (args := [.t (.ag [.n 6 a]), .t (.ag [.n 6 b])]) (r := .ag [.n 1 s0, .n 1 s1, .n 1 s2, .n 1 s3, .n 1 s4, .n 1 s5]) (by kernel_rfl) (ai w5 (ai w4 (ai w3 (ai w2 (ai w1 (ai w0 (ai (show decide (k5 % 18446744073709551616 = 0 % 18446744073709551616) = false by have h := q5.2.2.2; simp; omega) (ai q5 (ai q4 (ai q3 (ai q2 (ai q1 (ai q0 tt0)))))))))))))
  obtain ⟨g1, g2, g3, g4⟩ := TI w0 w1 w2 w3 w4 w5
  simp only [Nat.div_one, Nat.reduceMod, Nat.reduceMul, Nat.reduceAdd] at g1
  rw [h2] at g1
  have hv : (a + (4002409555221667393417789825735904156556882819939007885332058136124031650490837864442687629129015664037894272559787 - b)) % 4002409555221667393417789825735904156556882819939007885332058136124031650490837864442687629129015664037894272559787 = s0 % 18446744073709551616 + 18446744073709551616 * (s1 % 18446744073709551616 + 18446744073709551616 * (s2 % 18446744073709551616 + 18446744073709551616 * (s3 % 18446744073709551616 + 18446744073709551616 * (s4 % 18446744073709551616 + 18446744073709551616 * (s5 % 18446744073709551616 + 18446744073709551616 * (0)))))) := by
   rw [g2]
   generalize d0 + 18446744073709551616 * (d1 + 18446744073709551616 * (d2 + 18446744073709551616 * (d3 + 18446744073709551616 * (d4 + 18446744073709551616 * (d5 + 18446744073709551616 * (0)))))) = D at *
   generalize s0 + 18446744073709551616 * (s1 + 18446744073709551616 * (s2 + 18446744073709551616 * (s3 + 18446744073709551616 * (s4 + 18446744073709551616 * (s5 + 18446744073709551616 * (0)))))) = E at *
   clear hg q0 q1 q2 q3 q4 q5 w0 w1 w2 w3 w4 w5
   omega
  rw [hv]
  exact Av hg rfl
theorem SG (a b : Nat) (ha : a < 39402006196394479212279040100143613805079739270465446667948293404245721771497210611414266254884915640806627990306816) (hb : b <= 4002409555221667393417789825735904156556882819939007885332058136124031650490837864442687629129015664037894272559787) : ∃ v, v < 4002409555221667393417789825735904156556882819939007885332058136124031650490837864442687629129015664037894272559787 /\ (v * 39402006196394479212279040100143613805079739270465446667948293404245721771497210611414266254884915640806627990306816) % 4002409555221667393417789825735904156556882819939007885332058136124031650490837864442687629129015664037894272559787 = (a * b) % 4002409555221667393417789825735904156556882819939007885332058136124031650490837864442687629129015664037894272559787 /\ Gives prog 61 [.t (.ag [.n 6 a]), .t (.ag [.n 6 b])] (.ag [.n 6 v]) := by
 have hB := (Dp b (by omega)).symm
 have hT0 : 0 = 0 % 18446744073709551616 + 18446744073709551616 * (0 % 18446744073709551616 + 18446744073709551616 * (0 % 18446744073709551616 + 18446744073709551616 * (0 % 18446744073709551616 + 18446744073709551616 * (0 % 18446744073709551616 + 18446744073709551616 * (0 % 18446744073709551616 + 18446744073709551616 * (0)))))) := by simp only [Nat.zero_mod, Nat.mul_zero, Nat.add_zero]
 obtain ⟨aj, ak, al⟩ := pp (a / 1) (b / 1)
 obtain ⟨ab, am, an⟩ := po (ak) (0) 0 (by decide)
 obtain ⟨ao, ap, aq⟩ := pp (ab * 9940570264628428797) (13402431016077863595)
 obtain ⟨n6, ar, au⟩ := po (ap) (ab) 0 (by decide)
 obtain ⟨aw, ax, ay⟩ := pp (a / 1) (b / 18446744073709551616)
 obtain ⟨az, aA, aB⟩ := po (ax) (0) 0 (by decide)
 obtain ⟨aC, aD, aE⟩ := po (az) (aj + am) 0 (by decide)
 obtain ⟨aF, aG, aH⟩ := pp (ab * 9940570264628428797) (2210141511517208575)
 obtain ⟨aI, aJ, aK⟩ := po (aG) (aC) 0 (by decide)
 obtain ⟨aL, aM, aN⟩ := po (aI) (ao + ar) 0 (by decide)
 obtain ⟨aO, aP, aQ⟩ := pp (a / 1) (b / 340282366920938463463374607431768211456)
 obtain ⟨aR, aS, aT⟩ := po (aP) (0) 0 (by decide)
 obtain ⟨aU, aV, aW⟩ := po (aR) (aw + aA + aD) 0 (by decide)
 obtain ⟨aX, aY, aZ⟩ := pp (ab * 9940570264628428797) (7435674573564081700)
 obtain ⟨a9, ba, bb⟩ := po (aY) (aU) 0 (by decide)
 obtain ⟨bc, bd, be⟩ := po (a9) (aF + aJ + aM) 0 (by decide)
 obtain ⟨bf, bg, bh⟩ := pp (a / 1) (b / 6277101735386680763835789423207666416102355444464034512896)
 obtain ⟨bl, bm, bn⟩ := po (bg) (0) 0 (by decide)
 obtain ⟨bo, bp, bq⟩ := po (bl) (aO + aS + aV) 0 (by decide)
 obtain ⟨br, bt, bu⟩ := pp (ab * 9940570264628428797) (7239337960414712511)
 obtain ⟨bv, bx, bz⟩ := po (bt) (bo) 0 (by decide)
 obtain ⟨bA, bB, bC⟩ := po (bv) (aX + ba + bd) 0 (by decide)
 obtain ⟨bD, bE, bF⟩ := pp (a / 1) (b / 115792089237316195423570985008687907853269984665640564039457584007913129639936)
 obtain ⟨bG, bH, bI⟩ := po (bE) (0) 0 (by decide)
 obtain ⟨bJ, bK, bL⟩ := po (bG) (bf + bm + bp) 0 (by decide)
 obtain ⟨bM, bN, bO⟩ := pp (ab * 9940570264628428797) (5412103778470702295)
 obtain ⟨bP, bQ, bR⟩ := po (bN) (bJ) 0 (by decide)
 obtain ⟨bS, bT, bU⟩ := po (bP) (br + bx + bB) 0 (by decide)
 obtain ⟨bV, bW, bX⟩ := pp (a / 1) (b / 2135987035920910082395021706169552114602704522356652769947041607822219725780640550022962086936576)
 obtain ⟨bY, bZ, b6⟩ := po (bW) (0) 0 (by decide)
 obtain ⟨b7, b8, b9⟩ := po (bY) (bD + bH + bK) 0 (by decide)
 obtain ⟨ca, cb, cc⟩ := pp (ab * 9940570264628428797) (1873798617647539866)
 obtain ⟨cd, ce, cf⟩ := po (cb) (b7) 0 (by decide)
 obtain ⟨cg, ck, cl⟩ := po (cd) (bM + bQ + bT) 0 (by decide)
 obtain ⟨T1, Q0, hT1, hE0, hL1, hQ0⟩ := w8 hT0 hB (by omega) hb al an aq au ay aB aE aH aK aN aQ aT aW aZ bb be bh bn bq bu bz bC bF bI bL bO bR bU bX b6 b9 cc cf cl
 obtain ⟨cm, co, cq⟩ := pp (a / 18446744073709551616) (b / 1)
 obtain ⟨ac, cr, ct⟩ := po (co) (aL) 0 (by decide)
 obtain ⟨cu, cv, cx⟩ := pp (ac * 9940570264628428797) (13402431016077863595)
 obtain ⟨n7, cy, cz⟩ := po (cv) (ac) 0 (by decide)
 obtain ⟨cA, cB, cC⟩ := pp (a / 18446744073709551616) (b / 18446744073709551616)
 obtain ⟨cD, cE, cF⟩ := po (cB) (bc) 0 (by decide)
 obtain ⟨cG, cH, cI⟩ := po (cD) (cm + cr) 0 (by decide)
 obtain ⟨cJ, cK, cL⟩ := pp (ac * 9940570264628428797) (2210141511517208575)
 obtain ⟨cM, cN, cO⟩ := po (cK) (cG) 0 (by decide)
 obtain ⟨cP, cQ, cR⟩ := po (cM) (cu + cy) 0 (by decide)
 obtain ⟨cS, cT, cU⟩ := pp (a / 18446744073709551616) (b / 340282366920938463463374607431768211456)
 obtain ⟨cV, cW, cX⟩ := po (cT) (bA) 0 (by decide)
 obtain ⟨cY, cZ, c9⟩ := po (cV) (cA + cE + cH) 0 (by decide)
 obtain ⟨da, db, dc⟩ := pp (ac * 9940570264628428797) (7435674573564081700)
 obtain ⟨dd, de, df⟩ := po (db) (cY) 0 (by decide)
 obtain ⟨dg, dh, di⟩ := po (dd) (cJ + cN + cQ) 0 (by decide)
 obtain ⟨dj, dk, dl⟩ := pp (a / 18446744073709551616) (b / 6277101735386680763835789423207666416102355444464034512896)
 obtain ⟨dm, dn, dp⟩ := po (dk) (bS) 0 (by decide)
 obtain ⟨dq, dr, dt⟩ := po (dm) (cS + cW + cZ) 0 (by decide)
 obtain ⟨du, dv, dw⟩ := pp (ac * 9940570264628428797) (7239337960414712511)
 obtain ⟨dx, dy, dz⟩ := po (dv) (dq) 0 (by decide)
 obtain ⟨dD, dE, dF⟩ := po (dx) (da + de + dh) 0 (by decide)
 obtain ⟨dG, dH, dI⟩ := pp (a / 18446744073709551616) (b / 115792089237316195423570985008687907853269984665640564039457584007913129639936)
 obtain ⟨dJ, dK, dL⟩ := po (dH) (cg) 0 (by decide)
 obtain ⟨dN, dO, dP⟩ := po (dJ) (dj + dn + dr) 0 (by decide)
 obtain ⟨dQ, dR, dT⟩ := pp (ac * 9940570264628428797) (5412103778470702295)
 obtain ⟨dU, dV, dW⟩ := po (dR) (dN) 0 (by decide)
 obtain ⟨dX, dY, dZ⟩ := po (dU) (du + dy + dE) 0 (by decide)
 obtain ⟨d9, ea, eb⟩ := pp (a / 18446744073709551616) (b / 2135987035920910082395021706169552114602704522356652769947041607822219725780640550022962086936576)
 obtain ⟨ed, ee, ef⟩ := po (ea) (ca + ce + ck + (bV + bZ + b8)) 0 (by decide)
 obtain ⟨eg, eh, ei⟩ := po (ed) (dG + dK + dO) 0 (by decide)
 obtain ⟨ej, ek, eo⟩ := pp (ac * 9940570264628428797) (1873798617647539866)
 obtain ⟨ep, er, es⟩ := po (ek) (eg) 0 (by decide)
 obtain ⟨et, eu, ew⟩ := po (ep) (dQ + dV + dY) 0 (by decide)
 obtain ⟨T2, Q1, hT2, hE1, hL2, hQ1⟩ := w8 hT1 hB hL1 hb cq ct cx cz cC cF cI cL cO cR cU cX c9 dc df di dl dp dt dw dz dF dI dL dP dT dW dZ eb ef ei eo es ew
 obtain ⟨ez, eA, eB⟩ := pp (a / 340282366920938463463374607431768211456) (b / 1)
 obtain ⟨ad, eC, eD⟩ := po (eA) (cP) 0 (by decide)
 obtain ⟨eE, eF, eG⟩ := pp (ad * 9940570264628428797) (13402431016077863595)
 obtain ⟨n8, eH, eI⟩ := po (eF) (ad) 0 (by decide)
 obtain ⟨eJ, eK, eL⟩ := pp (a / 340282366920938463463374607431768211456) (b / 18446744073709551616)
 obtain ⟨eM, eN, eO⟩ := po (eK) (dg) 0 (by decide)
 obtain ⟨eP, eQ, eR⟩ := po (eM) (ez + eC) 0 (by decide)
 obtain ⟨eS, eT, eU⟩ := pp (ad * 9940570264628428797) (2210141511517208575)
 obtain ⟨eV, eW, eX⟩ := po (eT) (eP) 0 (by decide)
 obtain ⟨eY, eZ, e7⟩ := po (eV) (eE + eH) 0 (by decide)
 obtain ⟨fa, fe, fg⟩ := pp (a / 340282366920938463463374607431768211456) (b / 340282366920938463463374607431768211456)
 obtain ⟨fh, fi, fk⟩ := po (fe) (dD) 0 (by decide)
 obtain ⟨fl, fm, fq⟩ := po (fh) (eJ + eN + eQ) 0 (by decide)
 obtain ⟨ft, fu, fw⟩ := pp (ad * 9940570264628428797) (7435674573564081700)
 obtain ⟨fx, fy, fA⟩ := po (fu) (fl) 0 (by decide)
 obtain ⟨fB, fC, fD⟩ := po (fx) (eS + eW + eZ) 0 (by decide)
 obtain ⟨fE, fF, fG⟩ := pp (a / 340282366920938463463374607431768211456) (b / 6277101735386680763835789423207666416102355444464034512896)
 obtain ⟨fH, fI, fJ⟩ := po (fF) (dX) 0 (by decide)
 obtain ⟨fK, fL, fM⟩ := po (fH) (fa + fi + fm) 0 (by decide)
 obtain ⟨fN, fO, fP⟩ := pp (ad * 9940570264628428797) (7239337960414712511)
 obtain ⟨fQ, fR, fS⟩ := po (fO) (fK) 0 (by decide)
 obtain ⟨fT, fU, fV⟩ := po (fQ) (ft + fy + fC) 0 (by decide)
 obtain ⟨fW, fX, fY⟩ := pp (a / 340282366920938463463374607431768211456) (b / 115792089237316195423570985008687907853269984665640564039457584007913129639936)
 obtain ⟨fZ, ga, gb⟩ := po (fX) (et) 0 (by decide)
 obtain ⟨gc, gd, ge⟩ := po (fZ) (fE + fI + fL) 0 (by decide)
 obtain ⟨gg, gh, gk⟩ := pp (ad * 9940570264628428797) (5412103778470702295)
 obtain ⟨gl, gm, gn⟩ := po (gh) (gc) 0 (by decide)
 obtain ⟨go, gp, gq⟩ := po (gl) (fN + fR + fU) 0 (by decide)
 obtain ⟨gt, gu, gx⟩ := pp (a / 340282366920938463463374607431768211456) (b / 2135987035920910082395021706169552114602704522356652769947041607822219725780640550022962086936576)
 obtain ⟨gy, gA, gB⟩ := po (gu) (ej + er + eu + (d9 + ee + eh)) 0 (by decide)
 obtain ⟨gD, gF, gG⟩ := po (gy) (fW + ga + gd) 0 (by decide)
 obtain ⟨gH, gI, gJ⟩ := pp (ad * 9940570264628428797) (1873798617647539866)
 obtain ⟨gK, gL, gM⟩ := po (gI) (gD) 0 (by decide)
 obtain ⟨gO, gQ, gR⟩ := po (gK) (gg + gm + gp) 0 (by decide)
 obtain ⟨T3, Q2, hT3, hE2, hL3, hQ2⟩ := w8 hT2 hB hL2 hb eB eD eG eI eL eO eR eU eX e7 fg fk fq fw fA fD fG fJ fM fP fS fV fY gb ge gk gn gq gx gB gG gJ gM gR
 obtain ⟨gS, gT, gU⟩ := pp (a / 6277101735386680763835789423207666416102355444464034512896) (b / 1)
 obtain ⟨ae, gW, gX⟩ := po (gT) (eY) 0 (by decide)
 obtain ⟨gY, gZ, hG⟩ := pp (ae * 9940570264628428797) (13402431016077863595)
 obtain ⟨n9, hH, hI⟩ := po (gZ) (ae) 0 (by decide)
 obtain ⟨hJ, hM, hO⟩ := pp (a / 6277101735386680763835789423207666416102355444464034512896) (b / 18446744073709551616)
 obtain ⟨hZ, ia, ib⟩ := po (hM) (fB) 0 (by decide)
 obtain ⟨ic, ig, ii⟩ := po (hZ) (gS + gW) 0 (by decide)
 obtain ⟨ij, ik, il⟩ := pp (ae * 9940570264628428797) (2210141511517208575)
 obtain ⟨im, io, ip⟩ := po (ik) (ic) 0 (by decide)
 obtain ⟨iq, ir, iu⟩ := po (im) (gY + hH) 0 (by decide)
 obtain ⟨iv, iw, ix⟩ := pp (a / 6277101735386680763835789423207666416102355444464034512896) (b / 340282366920938463463374607431768211456)
 obtain ⟨iy, iz, iA⟩ := po (iw) (fT) 0 (by decide)
 obtain ⟨iB, iC, iD⟩ := po (iy) (hJ + ia + ig) 0 (by decide)
 obtain ⟨iE, iF, iG⟩ := pp (ae * 9940570264628428797) (7435674573564081700)
 obtain ⟨iH, iI, iJ⟩ := po (iF) (iB) 0 (by decide)
 obtain ⟨iK, iL, iM⟩ := po (iH) (ij + io + ir) 0 (by decide)
 obtain ⟨iN, iO, iP⟩ := pp (a / 6277101735386680763835789423207666416102355444464034512896) (b / 6277101735386680763835789423207666416102355444464034512896)
 obtain ⟨iQ, iR, iS⟩ := po (iO) (go) 0 (by decide)
 obtain ⟨iT, iU, iV⟩ := po (iQ) (iv + iz + iC) 0 (by decide)
 obtain ⟨iW, iX, iY⟩ := pp (ae * 9940570264628428797) (7239337960414712511)
 obtain ⟨iZ, i6, i7⟩ := po (iX) (iT) 0 (by decide)
 obtain ⟨i8, i9, ja⟩ := po (iZ) (iE + iI + iL) 0 (by decide)
 obtain ⟨jb, jc, jd⟩ := pp (a / 6277101735386680763835789423207666416102355444464034512896) (b / 115792089237316195423570985008687907853269984665640564039457584007913129639936)
 obtain ⟨je, jf, jg⟩ := po (jc) (gO) 0 (by decide)
 obtain ⟨jh, ji, jj⟩ := po (je) (iN + iR + iU) 0 (by decide)
 obtain ⟨jk, jl, jm⟩ := pp (ae * 9940570264628428797) (5412103778470702295)
 obtain ⟨jn, jo, jp⟩ := po (jl) (jh) 0 (by decide)
 obtain ⟨jq, jr, js⟩ := po (jn) (iW + i6 + i9) 0 (by decide)
 obtain ⟨jt, ju, jv⟩ := pp (a / 6277101735386680763835789423207666416102355444464034512896) (b / 2135987035920910082395021706169552114602704522356652769947041607822219725780640550022962086936576)
 obtain ⟨jw, jx, jy⟩ := po (ju) (gH + gL + gQ + (gt + gA + gF)) 0 (by decide)
 obtain ⟨jz, jA, jB⟩ := po (jw) (jb + jf + ji) 0 (by decide)
 obtain ⟨jC, jD, jE⟩ := pp (ae * 9940570264628428797) (1873798617647539866)
 obtain ⟨jF, jG, jH⟩ := po (jD) (jz) 0 (by decide)
 obtain ⟨jI, jJ, jK⟩ := po (jF) (jk + jo + jr) 0 (by decide)
 obtain ⟨T4, Q3, hT4, hE3, hL4, hQ3⟩ := w8 hT3 hB hL3 hb gU gX hG hI hO ib ii il ip iu ix iA iD iG iJ iM iP iS iV iY i7 ja jd jg jj jm jp js jv jy jB jE jH jK
 obtain ⟨jL, jM, jN⟩ := pp (a / 115792089237316195423570985008687907853269984665640564039457584007913129639936) (b / 1)
 obtain ⟨af, jO, jP⟩ := po (jM) (iq) 0 (by decide)
 obtain ⟨jQ, jR, jS⟩ := pp (af * 9940570264628428797) (13402431016077863595)
 obtain ⟨oa, jT, jU⟩ := po (jR) (af) 0 (by decide)
 obtain ⟨jV, jW, jX⟩ := pp (a / 115792089237316195423570985008687907853269984665640564039457584007913129639936) (b / 18446744073709551616)
 obtain ⟨jY, jZ, j0⟩ := po (jW) (iK) 0 (by decide)
 obtain ⟨j7, j8, j9⟩ := po (jY) (jL + jO) 0 (by decide)
 obtain ⟨kg, ki, kj⟩ := pp (af * 9940570264628428797) (2210141511517208575)
 obtain ⟨kk, km, kn⟩ := po (ki) (j7) 0 (by decide)
 obtain ⟨ko, kp, kq⟩ := po (kk) (jQ + jT) 0 (by decide)
 obtain ⟨kt, ku, kv⟩ := pp (a / 115792089237316195423570985008687907853269984665640564039457584007913129639936) (b / 340282366920938463463374607431768211456)
 obtain ⟨kw, kx, kA⟩ := po (ku) (i8) 0 (by decide)
 obtain ⟨kB, kC, kD⟩ := po (kw) (jV + jZ + j8) 0 (by decide)
 obtain ⟨kE, kF, kG⟩ := pp (af * 9940570264628428797) (7435674573564081700)
 obtain ⟨kH, kI, kJ⟩ := po (kF) (kB) 0 (by decide)
 obtain ⟨kK, kL, kM⟩ := po (kH) (kg + km + kp) 0 (by decide)
 obtain ⟨kN, kO, kP⟩ := pp (a / 115792089237316195423570985008687907853269984665640564039457584007913129639936) (b / 6277101735386680763835789423207666416102355444464034512896)
 obtain ⟨kQ, kR, kS⟩ := po (kO) (jq) 0 (by decide)
 obtain ⟨kT, kU, kV⟩ := po (kQ) (kt + kx + kC) 0 (by decide)
 obtain ⟨kW, kX, kY⟩ := pp (af * 9940570264628428797) (7239337960414712511)
 obtain ⟨kZ, k6, k7⟩ := po (kX) (kT) 0 (by decide)
 obtain ⟨k8, k9, la⟩ := po (kZ) (kE + kI + kL) 0 (by decide)
 obtain ⟨lb, lc, ld⟩ := pp (a / 115792089237316195423570985008687907853269984665640564039457584007913129639936) (b / 115792089237316195423570985008687907853269984665640564039457584007913129639936)
 obtain ⟨lf, lg, lh⟩ := po (lc) (jI) 0 (by decide)
 obtain ⟨ll, lm, ln⟩ := po (lf) (kN + kR + kU) 0 (by decide)
 obtain ⟨lq, lr, ls⟩ := pp (af * 9940570264628428797) (5412103778470702295)
 obtain ⟨lu, lv, lw⟩ := po (lr) (ll) 0 (by decide)
 obtain ⟨lx, ly, lz⟩ := po (lu) (kW + k6 + k9) 0 (by decide)
 obtain ⟨lA, lB, lC⟩ := pp (a / 115792089237316195423570985008687907853269984665640564039457584007913129639936) (b / 2135987035920910082395021706169552114602704522356652769947041607822219725780640550022962086936576)
 obtain ⟨lD, lE, lF⟩ := po (lB) (jC + jG + jJ + (jt + jx + jA)) 0 (by decide)
 obtain ⟨lG, lH, lI⟩ := po (lD) (lb + lg + lm) 0 (by decide)
 obtain ⟨lJ, lK, lL⟩ := pp (af * 9940570264628428797) (1873798617647539866)
 obtain ⟨lM, lN, lO⟩ := po (lK) (lG) 0 (by decide)
 obtain ⟨lP, lQ, lR⟩ := po (lM) (lq + lv + ly) 0 (by decide)
 obtain ⟨T5, Q4, hT5, hE4, hL5, hQ4⟩ := w8 hT4 hB hL4 hb jN jP jS jU jX j0 j9 kj kn kq kv kA kD kG kJ kM kP kS kV kY k7 la ld lh ln ls lw lz lC lF lI lL lO lR
 obtain ⟨lS, lT, lU⟩ := pp (a / 2135987035920910082395021706169552114602704522356652769947041607822219725780640550022962086936576) (b / 1)
 obtain ⟨ah, lV, lW⟩ := po (lT) (ko) 0 (by decide)
 obtain ⟨lX, lY, lZ⟩ := pp (ah * 9940570264628428797) (13402431016077863595)
 obtain ⟨oc, l6, l7⟩ := po (lY) (ah) 0 (by decide)
 obtain ⟨l9, ma, mb⟩ := pp (a / 2135987035920910082395021706169552114602704522356652769947041607822219725780640550022962086936576) (b / 18446744073709551616)
 obtain ⟨mc, me, mf⟩ := po (ma) (kK) 0 (by decide)
 obtain ⟨mg, mh, mi⟩ := po (mc) (lS + lV) 0 (by decide)
 obtain ⟨mj, ml, mm⟩ := pp (ah * 9940570264628428797) (2210141511517208575)
 obtain ⟨mo, mq, mr⟩ := po (ml) (mg) 0 (by decide)
 obtain ⟨ms, mt, mu⟩ := po (mo) (lX + l6) 0 (by decide)
 obtain ⟨mv, mw, my⟩ := pp (a / 2135987035920910082395021706169552114602704522356652769947041607822219725780640550022962086936576) (b / 340282366920938463463374607431768211456)
 obtain ⟨mz, mA, mB⟩ := po (mw) (k8) 0 (by decide)
 obtain ⟨mC, mD, mE⟩ := po (mz) (l9 + me + mh) 0 (by decide)
 obtain ⟨mF, mG, mH⟩ := pp (ah * 9940570264628428797) (7435674573564081700)
 obtain ⟨mI, mJ, mK⟩ := po (mG) (mC) 0 (by decide)
 obtain ⟨mL, mM, mN⟩ := po (mI) (mj + mq + mt) 0 (by decide)
 obtain ⟨mO, mP, mQ⟩ := pp (a / 2135987035920910082395021706169552114602704522356652769947041607822219725780640550022962086936576) (b / 6277101735386680763835789423207666416102355444464034512896)
 obtain ⟨mR, mS, mT⟩ := po (mP) (lx) 0 (by decide)
 obtain ⟨mU, mV, mW⟩ := po (mR) (mv + mA + mD) 0 (by decide)
 obtain ⟨mX, mY, mZ⟩ := pp (ah * 9940570264628428797) (7239337960414712511)
 obtain ⟨m0, m6, m7⟩ := po (mY) (mU) 0 (by decide)
 obtain ⟨m8, m9, na⟩ := po (m0) (mF + mJ + mM) 0 (by decide)
 obtain ⟨nc, ne, nf⟩ := pp (a / 2135987035920910082395021706169552114602704522356652769947041607822219725780640550022962086936576) (b / 115792089237316195423570985008687907853269984665640564039457584007913129639936)
 obtain ⟨ng, nh, nk⟩ := po (ne) (lP) 0 (by decide)
 obtain ⟨nl, np, nq⟩ := po (ng) (mO + mS + mV) 0 (by decide)
 obtain ⟨nr, nt, nu⟩ := pp (ah * 9940570264628428797) (5412103778470702295)
 obtain ⟨nv, nw, nx⟩ := po (nt) (nl) 0 (by decide)
 obtain ⟨ny, nz, nA⟩ := po (nv) (mX + m6 + m9) 0 (by decide)
 obtain ⟨nB, nD, nE⟩ := pp (a / 2135987035920910082395021706169552114602704522356652769947041607822219725780640550022962086936576) (b / 2135987035920910082395021706169552114602704522356652769947041607822219725780640550022962086936576)
 obtain ⟨nF, nG, nH⟩ := po (nD) (lJ + lN + lQ + (lA + lE + lH)) 0 (by decide)
 obtain ⟨nI, nJ, nL⟩ := po (nF) (nc + nh + np) 0 (by decide)
 obtain ⟨nM, nN, nO⟩ := pp (ah * 9940570264628428797) (1873798617647539866)
 obtain ⟨nQ, nR, nS⟩ := po (nN) (nI) 0 (by decide)
 obtain ⟨nT, nU, nZ⟩ := po (nQ) (nr + nw + nz) 0 (by decide)
 obtain ⟨T6, Q5, hT6, hE5, hL6, hQ5⟩ := w8 hT5 hB hL5 hb lU lW lZ l7 mb mf mi mm mr mu my mB mE mH mK mN mQ mT mW mZ m7 na nf nk nq nu nx nA nE nH nL nO nS nZ
 refine ⟨T6 % 4002409555221667393417789825735904156556882819939007885332058136124031650490837864442687629129015664037894272559787, Nat.mod_lt _ (by decide), VM (Dp a ha) hE0 hE1 hE2 hE3 hE4 hE5, ?_⟩
 have hc : ms % 18446744073709551616 + 18446744073709551616 * (mL % 18446744073709551616 + 18446744073709551616 * (m8 % 18446744073709551616 + 18446744073709551616 * (ny % 18446744073709551616 + 18446744073709551616 * (nT % 18446744073709551616 + 18446744073709551616 * ((nM + nR + nU + (nB + nG + nJ)) % 18446744073709551616 + 18446744073709551616 * (0)))))) < 2 * 4002409555221667393417789825735904156556882819939007885332058136124031650490837864442687629129015664037894272559787 := by rw [← hT6]; omega
 rw [hT6]
 exact pq (P := prog) (env := [uJ, xH, eNP]) ⟨sr, uS, Nf, tt0⟩ func61 0 (oN [(17, aj, ak), (25, ab, am), (39, ao, ap), (47, n6, ar), (59, aw, ax), (67, az, aA), (79, aC, aD), (90, aF, aG), (98, aI, aJ), (110, aL, aM), (123, aO, aP), (131, aR, aS), (143, aU, aV), (154, aX, aY), (162, a9, ba), (174, bc, bd), (187, bf, bg), (195, bl, bm), (207, bo, bp), (218, br, bt), (226, bv, bx), (238, bA, bB), (251, bD, bE), (259, bG, bH), (271, bJ, bK), (282, bM, bN), (290, bP, bQ), (302, bS, bT), (315, bV, bW), (323, bY, bZ), (335, b7, b8), (346, ca, cb), (354, cd, ce), (366, cg, ck), (388, cm, co), (396, ac, cr), (410, cu, cv), (418, n7, cy), (430, cA, cB), (438, cD, cE), (450, cG, cH), (461, cJ, cK), (469, cM, cN), (481, cP, cQ), (494, cS, cT), (502, cV, cW), (514, cY, cZ), (525, da, db), (533, dd, de), (545, dg, dh), (558, dj, dk), (566, dm, dn), (578, dq, dr), (589, du, dv), (597, dx, dy), (609, dD, dE), (622, dG, dH), (630, dJ, dK), (642, dN, dO), (653, dQ, dR), (661, dU, dV), (673, dX, dY), (686, d9, ea), (694, ed, ee), (706, eg, eh), (717, ej, ek), (725, ep, er), (737, et, eu), (759, ez, eA), (767, ad, eC), (781, eE, eF), (789, n8, eH), (801, eJ, eK), (809, eM, eN), (821, eP, eQ), (832, eS, eT), (840, eV, eW), (852, eY, eZ), (865, fa, fe), (873, fh, fi), (885, fl, fm), (896, ft, fu), (904, fx, fy), (916, fB, fC), (929, fE, fF), (937, fH, fI), (949, fK, fL), (960, fN, fO), (968, fQ, fR), (980, fT, fU), (993, fW, fX), (1001, fZ, ga), (1013, gc, gd), (1024, gg, gh), (1032, gl, gm), (1044, go, gp), (1057, gt, gu), (1065, gy, gA), (1077, gD, gF), (1088, gH, gI), (1096, gK, gL), (1108, gO, gQ), (1130, gS, gT), (1138, ae, gW), (1152, gY, gZ), (1160, n9, hH), (1172, hJ, hM), (1180, hZ, ia), (1192, ic, ig), (1203, ij, ik), (1211, im, io), (1223, iq, ir), (1236, iv, iw), (1244, iy, iz), (1256, iB, iC), (1267, iE, iF), (1275, iH, iI), (1287, iK, iL), (1300, iN, iO), (1308, iQ, iR), (1320, iT, iU), (1331, iW, iX), (1339, iZ, i6), (1351, i8, i9), (1364, jb, jc), (1372, je, jf), (1384, jh, ji), (1395, jk, jl), (1403, jn, jo), (1415, jq, jr), (1428, jt, ju), (1436, jw, jx), (1448, jz, jA), (1459, jC, jD), (1467, jF, jG), (1479, jI, jJ), (1501, jL, jM), (1509, af, jO), (1523, jQ, jR), (1531, oa, jT), (1543, jV, jW), (1551, jY, jZ), (1563, j7, j8), (1574, kg, ki), (1582, kk, km), (1594, ko, kp), (1607, kt, ku), (1615, kw, kx), (1627, kB, kC), (1638, kE, kF), (1646, kH, kI), (1658, kK, kL), (1671, kN, kO), (1679, kQ, kR), (1691, kT, kU), (1702, kW, kX), (1710, kZ, k6), (1722, k8, k9), (1735, lb, lc), (1743, lf, lg), (1755, ll, lm), (1766, lq, lr), (1774, lu, lv), (1786, lx, ly), (1799, lA, lB), (1807, lD, lE), (1819, lG, lH), (1830, lJ, lK), (1838, lM, lN), (1850, lP, lQ), (1872, lS, lT), (1880, ah, lV), (1894, lX, lY), (1902, oc, l6), (1914, l9, ma), (1922, mc, me), (1934, mg, mh), (1945, mj, ml), (1953, mo, mq), (1965, ms, mt), (1978, mv, mw), (1986, mz, mA), (1998, mC, mD), (2009, mF, mG), (2017, mI, mJ), (2029, mL, mM), (2042, mO, mP), (2050, mR, mS), (2062, mU, mV), (2073, mX, mY), (2081, m0, m6), (2093, m8, m9), (2106, nc, ne), (2114, ng, nh), (2126, nl, np), (2137, nr, nt), (2145, nv, nw), (2157, ny, nz), (2170, nB, nD), (2178, nF, nG), (2190, nI, nJ), (2201, nM, nN), (2209, nQ, nR), (2221, nT, nU)] []) (by kernel_rfl) (ai hc (ai nZ (ai nS (ai nO (ai nL (ai nH (ai nE (ai nA (ai nx (ai nu (ai nq (ai nk (ai nf (ai na (ai m7 (ai mZ (ai mW (ai mT (ai mQ (ai mN (ai mK (ai mH (ai mE (ai mB (ai my (ai mu (ai mr (ai mm (ai mi (ai mf (ai mb (ai l7 (ai lZ (ai lW (ai lU (ai lR (ai lO (ai lL (ai lI (ai lF (ai lC (ai lz (ai lw (ai ls (ai ln (ai lh (ai ld (ai la (ai k7 (ai kY (ai kV (ai kS (ai kP (ai kM (ai kJ (ai kG (ai kD (ai kA (ai kv (ai kq (ai kn (ai kj (ai j9 (ai j0 (ai jX (ai jU (ai jS (ai jP (ai jN (ai jK (ai jH (ai jE (ai jB (ai jy (ai jv (ai js (ai jp (ai jm (ai jj (ai jg (ai jd (ai ja (ai i7 (ai iY (ai iV (ai iS (ai iP (ai iM (ai iJ (ai iG (ai iD (ai iA (ai ix (ai iu (ai ip (ai il (ai ii (ai ib (ai hO (ai hI (ai hG (ai gX (ai gU (ai gR (ai gM (ai gJ (ai gG (ai gB (ai gx (ai gq (ai gn (ai gk (ai ge (ai gb (ai fY (ai fV (ai fS (ai fP (ai fM (ai fJ (ai fG (ai fD (ai fA (ai fw (ai fq (ai fk (ai fg (ai e7 (ai eX (ai eU (ai eR (ai eO (ai eL (ai eI (ai eG (ai eD (ai eB (ai ew (ai es (ai eo (ai ei (ai ef (ai eb (ai dZ (ai dW (ai dT (ai dP (ai dL (ai dI (ai dF (ai dz (ai dw (ai dt (ai dp (ai dl (ai di (ai df (ai dc (ai c9 (ai cX (ai cU (ai cR (ai cO (ai cL (ai cI (ai cF (ai cC (ai cz (ai cx (ai ct (ai cq (ai cl (ai cf (ai cc (ai b9 (ai b6 (ai bX (ai bU (ai bR (ai bO (ai bL (ai bI (ai bF (ai bC (ai bz (ai bu (ai bq (ai bn (ai bh (ai be (ai bb (ai aZ (ai aW (ai aT (ai aQ (ai aN (ai aK (ai aH (ai aE (ai aB (ai ay (ai au (ai aq (ai an (ai al tt0)))))))))))))))))))))))))))))))))))))))))))))))))))))))))))))))))))))))))))))))))))))))))))))))))))))))))))))))))))))))))))))))))))))))))))))))))))))))))))))))))))))))))))))))))))))))))))))))))))))))))))))
end Go.Proofs.YtokjhbmmdmeafaaGreat
