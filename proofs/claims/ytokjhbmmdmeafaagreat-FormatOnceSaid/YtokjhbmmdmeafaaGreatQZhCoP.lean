/- Pruned: ZhCoP. -/
import Derived.Test.YtokjhbmmdmeafaaGreatQHg
set_option linter.unusedSimpArgs false
set_option linter.unusedVariables false
set_option maxHeartbeats 4000000
namespace Go.Proofs.YtokjhbmmdmeafaaGreat
open Go.Ev Go.RowKit
open Tryz
theorem C2 {P : Program} {f : FuncId} {args : List XV} {l : List Ch} {x : Nat} (h : Gives P f args (.ag l)) (hc : qu 6 l = some (x, [])) : Gives P f args (.ag [.n 6 x]) :=
 h.same (Hm hc)
def eRP : Entry := zq 95 [(none, .ag [.c (.int .u64 13402431016077863595), .c (.int .u64 2210141511517208575), .c (.int .u64 7435674573564081700), .c (.int .u64 7239337960414712511), .c (.int .u64 5412103778470702295), .c (.int .u64 1873798617647539866)])]
theorem wM : eRP.OK prog := vV (fun args w => Go.Proofs.enters_of (P := prog) func95 (by kernel_rfl) rfl args w)
 (only (pI (P := prog) (env := []) trivial func95 0 o0 (by kernel_rfl) tt0))
theorem afJ (x : Nat) (hx : x < 2 * 4002409555221667393417789825735904156556882819939007885332058136124031650490837864442687629129015664037894272559787) : Gives prog 99 [.t (.ag [.n 6 x])] (.ag [.n 6 (x % 4002409555221667393417789825735904156556882819939007885332058136124031650490837864442687629129015664037894272559787)]) := by
 obtain ⟨d0, k0, q0⟩ := qB (x / 1) 13402431016077863595 0 (by decide)
 obtain ⟨d1, k1, q1⟩ := qB (x / 18446744073709551616) 2210141511517208575 k0 q0.2.2.2
 obtain ⟨d2, k2, q2⟩ := qB (x / 340282366920938463463374607431768211456) 7435674573564081700 k1 q1.2.2.2
 obtain ⟨d3, k3, q3⟩ := qB (x / 6277101735386680763835789423207666416102355444464034512896) 7239337960414712511 k2 q2.2.2.2
 obtain ⟨d4, k4, q4⟩ := qB (x / 115792089237316195423570985008687907853269984665640564039457584007913129639936) 5412103778470702295 k3 q3.2.2.2
 obtain ⟨d5, k5, q5⟩ := qB (x / 2135987035920910082395021706169552114602704522356652769947041607822219725780640550022962086936576) 1873798617647539866 k4 q4.2.2.2
 obtain ⟨h1, h2, h3, h4⟩ := Mq q0 q1 q2 q3 q4 q5
 rw [Fq x (by omega)] at h1
 simp only [Nat.reduceMod, Nat.reduceMul, Nat.reduceAdd] at h1
 by_cases hk : k5 = 0
 ·have hg := pI (P := prog) (env := [tm, eRP]) ⟨rC, wM, tt0⟩ func99 0 (oN [(19, d0, k0), (39, d1, k1), (59, d2, k2), (79, d3, k3), (99, d4, k4), (119, d5, k5)] [(130, 1)]) (args := [.t (.ag [.n 6 x])]) (r := .ag [.n 1 d0, .n 1 d1, .n 1 d2, .n 1 d3, .n 1 d4, .n 1 d5]) (by kernel_rfl) (ai (show decide (k5 % 18446744073709551616 = 0 % 18446744073709551616) = true by simp [hk]) (ai q5 (ai q4 (ai q3 (ai q2 (ai q1 (ai q0 tt0)))))))
  have hv : x % 4002409555221667393417789825735904156556882819939007885332058136124031650490837864442687629129015664037894272559787 = d0 % 18446744073709551616 + 18446744073709551616 * (d1 % 18446744073709551616 + 18446744073709551616 * (d2 % 18446744073709551616 + 18446744073709551616 * (d3 % 18446744073709551616 + 18446744073709551616 * (d4 % 18446744073709551616 + 18446744073709551616 * (d5 % 18446744073709551616 + 18446744073709551616 * (0)))))) := by
   rw [h2]
   generalize d0 + 18446744073709551616 * (d1 + 18446744073709551616 * (d2 + 18446744073709551616 * (d3 + 18446744073709551616 * (d4 + 18446744073709551616 * (d5 + 18446744073709551616 * (0)))))) = D at *
   clear hg q0 q1 q2 q3 q4 q5
   omega
  rw [hv]
  exact C2 hg rfl
 ·have hg := pI (P := prog) (env := [tm, eRP]) ⟨rC, wM, tt0⟩ func99 0 (oN [(19, d0, k0), (39, d1, k1), (59, d2, k2), (79, d3, k3), (99, d4, k4), (119, d5, k5)] [(130, 2)]) (args := [.t (.ag [.n 6 x])]) (r := .ag [.n 6 x]) (by kernel_rfl) (ai (show decide (k5 % 18446744073709551616 = 0 % 18446744073709551616) = false by have h := q5.2.2.2; simp; omega) (ai q5 (ai q4 (ai q3 (ai q2 (ai q1 (ai q0 tt0)))))))
  have hv : x % 4002409555221667393417789825735904156556882819939007885332058136124031650490837864442687629129015664037894272559787 = x := by
   generalize d0 + 18446744073709551616 * (d1 + 18446744073709551616 * (d2 + 18446744073709551616 * (d3 + 18446744073709551616 * (d4 + 18446744073709551616 * (d5 + 18446744073709551616 * (0)))))) = D at *
   clear hg q0 q1 q2 q3 q4 q5
   omega
  rw [hv]
  exact hg
def eNP : Entry := p7 99 vy.x (fun x => [(some (x < 2 * 4002409555221667393417789825735904156556882819939007885332058136124031650490837864442687629129015664037894272559787), .ag [.n 6 (x % 4002409555221667393417789825735904156556882819939007885332058136124031650490837864442687629129015664037894272559787)])])
theorem Qd : eNP.OK prog := pQ (fun args w => Go.Proofs.enters_of (P := prog) func99 (by kernel_rfl) rfl args w) (fun u c r hm hc => by
 simp only [List.mem_singleton, pi0] at hm
 obtain ⟨rfl, rfl⟩ := hm
 exact afJ u hc)
theorem aaE (a b : Nat) (ha : a < 4002409555221667393417789825735904156556882819939007885332058136124031650490837864442687629129015664037894272559787) (hb : b < 4002409555221667393417789825735904156556882819939007885332058136124031650490837864442687629129015664037894272559787) : Gives prog 62 [.t (.ag [.n 6 a]), .t (.ag [.n 6 b])] (.ag [.n 6 ((a + b) % 4002409555221667393417789825735904156556882819939007885332058136124031650490837864442687629129015664037894272559787)]) := by
 obtain ⟨d0, k0, q0⟩ := pG (a / 1) (b / 1) 0 (by decide)
 obtain ⟨d1, k1, q1⟩ := pG (a / 18446744073709551616) (b / 18446744073709551616) k0 q0.2.2.2
 obtain ⟨d2, k2, q2⟩ := pG (a / 340282366920938463463374607431768211456) (b / 340282366920938463463374607431768211456) k1 q1.2.2.2
 obtain ⟨d3, k3, q3⟩ := pG (a / 6277101735386680763835789423207666416102355444464034512896) (b / 6277101735386680763835789423207666416102355444464034512896) k2 q2.2.2.2
 obtain ⟨d4, k4, q4⟩ := pG (a / 115792089237316195423570985008687907853269984665640564039457584007913129639936) (b / 115792089237316195423570985008687907853269984665640564039457584007913129639936) k3 q3.2.2.2
 obtain ⟨d5, k5, q5⟩ := pG (a / 2135987035920910082395021706169552114602704522356652769947041607822219725780640550022962086936576) (b / 2135987035920910082395021706169552114602704522356652769947041607822219725780640550022962086936576) k4 q4.2.2.2
 obtain ⟨h1, h2, h3, h4⟩ := Xm q0 q1 q2 q3 q4 q5
 rw [Fq a (by omega), Fq b (by omega)] at h1
 have hv : d0 % 18446744073709551616 + 18446744073709551616 * (d1 % 18446744073709551616 + 18446744073709551616 * (d2 % 18446744073709551616 + 18446744073709551616 * (d3 % 18446744073709551616 + 18446744073709551616 * (d4 % 18446744073709551616 + 18446744073709551616 * (d5 % 18446744073709551616 + 18446744073709551616 * (0)))))) = a + b := by
  rw [h2]
  generalize d0 + 18446744073709551616 * (d1 + 18446744073709551616 * (d2 + 18446744073709551616 * (d3 + 18446744073709551616 * (d4 + 18446744073709551616 * (d5 + 18446744073709551616 * (0)))))) = D at *
  clear q0 q1 q2 q3 q4 q5
  omega
 rw [← hv]
 exact pI (P := prog) (env := [ts, eNP]) ⟨rD, Qd, tt0⟩ func62 0 (oN [(9, d0, k0), (21, d1, k1), (33, d2, k2), (45, d3, k3), (57, d4, k4), (69, d5, k5)] []) (by kernel_rfl) (ai (show d0 % 18446744073709551616 + 18446744073709551616 * (d1 % 18446744073709551616 + 18446744073709551616 * (d2 % 18446744073709551616 + 18446744073709551616 * (d3 % 18446744073709551616 + 18446744073709551616 * (d4 % 18446744073709551616 + 18446744073709551616 * (d5 % 18446744073709551616 + 18446744073709551616 * (0)))))) < 2 * 4002409555221667393417789825735904156556882819939007885332058136124031650490837864442687629129015664037894272559787 by rw [hv]; omega) (ai q5 (ai q4 (ai q3 (ai q2 (ai q1 (ai q0 tt0)))))))
theorem VJ (a b : Nat) (ha : a < 4002409555221667393417789825735904156556882819939007885332058136124031650490837864442687629129015664037894272559787) (hb : b < 4002409555221667393417789825735904156556882819939007885332058136124031650490837864442687629129015664037894272559787) : Gives prog 102 [.t (.ag [.n 6 a]), .t (.ag [.n 6 b])] (.ag [.n 6 ((a + (4002409555221667393417789825735904156556882819939007885332058136124031650490837864442687629129015664037894272559787 - b)) % 4002409555221667393417789825735904156556882819939007885332058136124031650490837864442687629129015664037894272559787)]) := by
 obtain ⟨d0, k0, q0⟩ := qB (a / 1) (b / 1) 0 (by decide)
 obtain ⟨d1, k1, q1⟩ := qB (a / 18446744073709551616) (b / 18446744073709551616) k0 q0.2.2.2
 obtain ⟨d2, k2, q2⟩ := qB (a / 340282366920938463463374607431768211456) (b / 340282366920938463463374607431768211456) k1 q1.2.2.2
 obtain ⟨d3, k3, q3⟩ := qB (a / 6277101735386680763835789423207666416102355444464034512896) (b / 6277101735386680763835789423207666416102355444464034512896) k2 q2.2.2.2
 obtain ⟨d4, k4, q4⟩ := qB (a / 115792089237316195423570985008687907853269984665640564039457584007913129639936) (b / 115792089237316195423570985008687907853269984665640564039457584007913129639936) k3 q3.2.2.2
 obtain ⟨d5, k5, q5⟩ := qB (a / 2135987035920910082395021706169552114602704522356652769947041607822219725780640550022962086936576) (b / 2135987035920910082395021706169552114602704522356652769947041607822219725780640550022962086936576) k4 q4.2.2.2
 obtain ⟨h1, h2, h3, h4⟩ := Mq q0 q1 q2 q3 q4 q5
 rw [Fq a (by omega), Fq b (by omega)] at h1
 by_cases hk : k5 = 0
 ·have hg := pI (P := prog) (env := [tm, ts, eRP]) ⟨rC, rD, wM, tt0⟩ func102 0 (oN [(9, d0, k0), (21, d1, k1), (33, d2, k2), (45, d3, k3), (57, d4, k4), (69, d5, k5)] [(77, 1)]) (args := [.t (.ag [.n 6 a]), .t (.ag [.n 6 b])]) (r := .ag [.n 1 d0, .n 1 d1, .n 1 d2, .n 1 d3, .n 1 d4, .n 1 d5]) (by kernel_rfl) (ai (show decide (k5 % 18446744073709551616 = 0 % 18446744073709551616) = true by simp [hk]) (ai q5 (ai q4 (ai q3 (ai q2 (ai q1 (ai q0 tt0)))))))
  have hv : (a + (4002409555221667393417789825735904156556882819939007885332058136124031650490837864442687629129015664037894272559787 - b)) % 4002409555221667393417789825735904156556882819939007885332058136124031650490837864442687629129015664037894272559787 = d0 % 18446744073709551616 + 18446744073709551616 * (d1 % 18446744073709551616 + 18446744073709551616 * (d2 % 18446744073709551616 + 18446744073709551616 * (d3 % 18446744073709551616 + 18446744073709551616 * (d4 % 18446744073709551616 + 18446744073709551616 * (d5 % 18446744073709551616 + 18446744073709551616 * (0)))))) := by
   rw [h2]
   generalize d0 + 18446744073709551616 * (d1 + 18446744073709551616 * (d2 + 18446744073709551616 * (d3 + 18446744073709551616 * (d4 + 18446744073709551616 * (d5 + 18446744073709551616 * (0)))))) = D at *
   clear hg q0 q1 q2 q3 q4 q5
   omega
  rw [hv]
  exact C2 hg rfl
 ·obtain ⟨s0, c0, w0⟩ := pG (d0 / 1) 13402431016077863595 0 (by decide)
  obtain ⟨s1, c1, w1⟩ := pG (d1 / 1) 2210141511517208575 c0 w0.2.2.2
  obtain ⟨s2, c2, w2⟩ := pG (d2 / 1) 7435674573564081700 c1 w1.2.2.2
  obtain ⟨s3, c3, w3⟩ := pG (d3 / 1) 7239337960414712511 c2 w2.2.2.2
  obtain ⟨s4, c4, w4⟩ := pG (d4 / 1) 5412103778470702295 c3 w3.2.2.2
  obtain ⟨s5, c5, w5⟩ := pG (d5 / 1) 1873798617647539866 c4 w4.2.2.2
  have hg := pI (P := prog) (env := [tm, ts, eRP]) ⟨rC, rD, wM, tt0⟩ func102 0 (oN [(9, d0, k0), (21, d1, k1), (33, d2, k2), (45, d3, k3), (57, d4, k4), (69, d5, k5), (85, s0, c0), (97, s1, c1), (109, s2, c2), (121, s3, c3), (133, s4, c4), (145, s5, c5)] [(77, 2)]) (args := [.t (.ag [.n 6 a]), .t (.ag [.n 6 b])]) (r := .ag [.n 1 s0, .n 1 s1, .n 1 s2, .n 1 s3, .n 1 s4, .n 1 s5]) (by kernel_rfl) (ai w5 (ai w4 (ai w3 (ai w2 (ai w1 (ai w0 (ai (show decide (k5 % 18446744073709551616 = 0 % 18446744073709551616) = false by have h := q5.2.2.2; simp; omega) (ai q5 (ai q4 (ai q3 (ai q2 (ai q1 (ai q0 tt0)))))))))))))
  obtain ⟨g1, g2, g3, g4⟩ := Xm w0 w1 w2 w3 w4 w5
  simp only [Nat.div_one, Nat.reduceMod, Nat.reduceMul, Nat.reduceAdd] at g1
  rw [h2] at g1
  have hv : (a + (4002409555221667393417789825735904156556882819939007885332058136124031650490837864442687629129015664037894272559787 - b)) % 4002409555221667393417789825735904156556882819939007885332058136124031650490837864442687629129015664037894272559787 = s0 % 18446744073709551616 + 18446744073709551616 * (s1 % 18446744073709551616 + 18446744073709551616 * (s2 % 18446744073709551616 + 18446744073709551616 * (s3 % 18446744073709551616 + 18446744073709551616 * (s4 % 18446744073709551616 + 18446744073709551616 * (s5 % 18446744073709551616 + 18446744073709551616 * (0)))))) := by
   rw [g2]
   generalize d0 + 18446744073709551616 * (d1 + 18446744073709551616 * (d2 + 18446744073709551616 * (d3 + 18446744073709551616 * (d4 + 18446744073709551616 * (d5 + 18446744073709551616 * (0)))))) = D at *
   generalize s0 + 18446744073709551616 * (s1 + 18446744073709551616 * (s2 + 18446744073709551616 * (s3 + 18446744073709551616 * (s4 + 18446744073709551616 * (s5 + 18446744073709551616 * (0)))))) = E at *
   clear hg q0 q1 q2 q3 q4 q5 w0 w1 w2 w3 w4 w5
   omega
  rw [hv]
  exact C2 hg rfl
theorem V9 (a b : Nat) (ha : a < 39402006196394479212279040100143613805079739270465446667948293404245721771497210611414266254884915640806627990306816) (hb : b <= 4002409555221667393417789825735904156556882819939007885332058136124031650490837864442687629129015664037894272559787) : ∃ v, v < 4002409555221667393417789825735904156556882819939007885332058136124031650490837864442687629129015664037894272559787 /\ (v * 39402006196394479212279040100143613805079739270465446667948293404245721771497210611414266254884915640806627990306816) % 4002409555221667393417789825735904156556882819939007885332058136124031650490837864442687629129015664037894272559787 = (a * b) % 4002409555221667393417789825735904156556882819939007885332058136124031650490837864442687629129015664037894272559787 /\ Gives prog 61 [.t (.ag [.n 6 a]), .t (.ag [.n 6 b])] (.ag [.n 6 v]) := by
 have hB := (Fq b (by omega)).symm
 have hT0 : 0 = 0 % 18446744073709551616 + 18446744073709551616 * (0 % 18446744073709551616 + 18446744073709551616 * (0 % 18446744073709551616 + 18446744073709551616 * (0 % 18446744073709551616 + 18446744073709551616 * (0 % 18446744073709551616 + 18446744073709551616 * (0 % 18446744073709551616 + 18446744073709551616 * (0)))))) := by simp only [Nat.zero_mod, Nat.mul_zero, Nat.add_zero]
 obtain ⟨aj, ak, al⟩ := pH (a / 1) (b / 1)
 obtain ⟨ab, am, an⟩ := pG (ak) (0) 0 (by decide)
 obtain ⟨ao, ap, aq⟩ := pH (ab * 9940570264628428797) (13402431016077863595)
 obtain ⟨om, ar, au⟩ := pG (ap) (ab) 0 (by decide)
 obtain ⟨aw, ax, ay⟩ := pH (a / 1) (b / 18446744073709551616)
 obtain ⟨az, aA, aB⟩ := pG (ax) (0) 0 (by decide)
 obtain ⟨aC, aD, aE⟩ := pG (az) (aj + am) 0 (by decide)
 obtain ⟨aF, aG, aH⟩ := pH (ab * 9940570264628428797) (2210141511517208575)
 obtain ⟨aI, aJ, aK⟩ := pG (aG) (aC) 0 (by decide)
 obtain ⟨aL, aM, aN⟩ := pG (aI) (ao + ar) 0 (by decide)
 obtain ⟨aO, aP, aQ⟩ := pH (a / 1) (b / 340282366920938463463374607431768211456)
 obtain ⟨aR, aS, aT⟩ := pG (aP) (0) 0 (by decide)
 obtain ⟨aU, aV, aW⟩ := pG (aR) (aw + aA + aD) 0 (by decide)
 obtain ⟨aX, aY, aZ⟩ := pH (ab * 9940570264628428797) (7435674573564081700)
 obtain ⟨a9, ba, bb⟩ := pG (aY) (aU) 0 (by decide)
 obtain ⟨bc, be, bf⟩ := pG (a9) (aF + aJ + aM) 0 (by decide)
 obtain ⟨bg, bh, bl⟩ := pH (a / 1) (b / 6277101735386680763835789423207666416102355444464034512896)
 obtain ⟨bm, bn, bo⟩ := pG (bh) (0) 0 (by decide)
 obtain ⟨bp, bq, br⟩ := pG (bm) (aO + aS + aV) 0 (by decide)
 obtain ⟨bu, bv, bx⟩ := pH (ab * 9940570264628428797) (7239337960414712511)
 obtain ⟨bz, bA, bB⟩ := pG (bv) (bp) 0 (by decide)
 obtain ⟨bC, bD, bE⟩ := pG (bz) (aX + ba + be) 0 (by decide)
 obtain ⟨bF, bG, bH⟩ := pH (a / 1) (b / 115792089237316195423570985008687907853269984665640564039457584007913129639936)
 obtain ⟨bI, bJ, bK⟩ := pG (bG) (0) 0 (by decide)
 obtain ⟨bL, bM, bN⟩ := pG (bI) (bg + bn + bq) 0 (by decide)
 obtain ⟨bO, bP, bQ⟩ := pH (ab * 9940570264628428797) (5412103778470702295)
 obtain ⟨bR, bS, bT⟩ := pG (bP) (bL) 0 (by decide)
 obtain ⟨bU, bV, bW⟩ := pG (bR) (bu + bA + bD) 0 (by decide)
 obtain ⟨bX, bY, bZ⟩ := pH (a / 1) (b / 2135987035920910082395021706169552114602704522356652769947041607822219725780640550022962086936576)
 obtain ⟨b6, b7, b8⟩ := pG (bY) (0) 0 (by decide)
 obtain ⟨b9, ca, cb⟩ := pG (b6) (bF + bJ + bM) 0 (by decide)
 obtain ⟨cc, cd, ce⟩ := pH (ab * 9940570264628428797) (1873798617647539866)
 obtain ⟨cf, cg, ck⟩ := pG (cd) (b9) 0 (by decide)
 obtain ⟨cl, cm, co⟩ := pG (cf) (bO + bS + bV) 0 (by decide)
 obtain ⟨T1, Q0, hT1, hE0, hL1, hQ0⟩ := yw hT0 hB (by omega) hb al an aq au ay aB aE aH aK aN aQ aT aW aZ bb bf bl bo br bx bB bE bH bK bN bQ bT bW bZ b8 cb ce ck co
 obtain ⟨cq, cr, ct⟩ := pH (a / 18446744073709551616) (b / 1)
 obtain ⟨ac, cu, cv⟩ := pG (cr) (aL) 0 (by decide)
 obtain ⟨cx, cy, cz⟩ := pH (ac * 9940570264628428797) (13402431016077863595)
 obtain ⟨oo, cA, cB⟩ := pG (cy) (ac) 0 (by decide)
 obtain ⟨cC, cD, cE⟩ := pH (a / 18446744073709551616) (b / 18446744073709551616)
 obtain ⟨cF, cG, cH⟩ := pG (cD) (bc) 0 (by decide)
 obtain ⟨cI, cJ, cK⟩ := pG (cF) (cq + cu) 0 (by decide)
 obtain ⟨cL, cM, cN⟩ := pH (ac * 9940570264628428797) (2210141511517208575)
 obtain ⟨cO, cP, cQ⟩ := pG (cM) (cI) 0 (by decide)
 obtain ⟨cR, cS, cT⟩ := pG (cO) (cx + cA) 0 (by decide)
 obtain ⟨cU, cV, cW⟩ := pH (a / 18446744073709551616) (b / 340282366920938463463374607431768211456)
 obtain ⟨cX, cY, cZ⟩ := pG (cV) (bC) 0 (by decide)
 obtain ⟨c9, da, db⟩ := pG (cX) (cC + cG + cJ) 0 (by decide)
 obtain ⟨dc, dd, de⟩ := pH (ac * 9940570264628428797) (7435674573564081700)
 obtain ⟨df, dh, di⟩ := pG (dd) (c9) 0 (by decide)
 obtain ⟨dj, dk, dl⟩ := pG (df) (cL + cP + cS) 0 (by decide)
 obtain ⟨dm, dn, dp⟩ := pH (a / 18446744073709551616) (b / 6277101735386680763835789423207666416102355444464034512896)
 obtain ⟨dq, dr, dt⟩ := pG (dn) (bU) 0 (by decide)
 obtain ⟨du, dv, dw⟩ := pG (dq) (cU + cY + da) 0 (by decide)
 obtain ⟨dx, dy, dz⟩ := pH (ac * 9940570264628428797) (7239337960414712511)
 obtain ⟨dD, dE, dF⟩ := pG (dy) (du) 0 (by decide)
 obtain ⟨dG, dH, dI⟩ := pG (dD) (dc + dh + dk) 0 (by decide)
 obtain ⟨dJ, dK, dL⟩ := pH (a / 18446744073709551616) (b / 115792089237316195423570985008687907853269984665640564039457584007913129639936)
 obtain ⟨dN, dO, dP⟩ := pG (dK) (cl) 0 (by decide)
 obtain ⟨dQ, dR, dT⟩ := pG (dN) (dm + dr + dv) 0 (by decide)
 obtain ⟨dU, dV, dW⟩ := pH (ac * 9940570264628428797) (5412103778470702295)
 obtain ⟨dX, dY, dZ⟩ := pG (dV) (dQ) 0 (by decide)
 obtain ⟨d9, ea, eb⟩ := pG (dX) (dx + dE + dH) 0 (by decide)
 obtain ⟨ed, ee, ef⟩ := pH (a / 18446744073709551616) (b / 2135987035920910082395021706169552114602704522356652769947041607822219725780640550022962086936576)
 obtain ⟨eg, ei, ej⟩ := pG (ee) (cc + cg + cm + (bX + b7 + ca)) 0 (by decide)
 obtain ⟨ek, eo, ep⟩ := pG (eg) (dJ + dO + dR) 0 (by decide)
 obtain ⟨er, es, et⟩ := pH (ac * 9940570264628428797) (1873798617647539866)
 obtain ⟨eu, ez, eA⟩ := pG (es) (ek) 0 (by decide)
 obtain ⟨eB, eD, eE⟩ := pG (eu) (dU + dY + ea) 0 (by decide)
 obtain ⟨T2, Q1, hT2, hE1, hL2, hQ1⟩ := yw hT1 hB hL1 hb ct cv cz cB cE cH cK cN cQ cT cW cZ db de di dl dp dt dw dz dF dI dL dP dT dW dZ eb ef ej ep et eA eE
 obtain ⟨eF, eG, eH⟩ := pH (a / 340282366920938463463374607431768211456) (b / 1)
 obtain ⟨ad, eI, eJ⟩ := pG (eG) (cR) 0 (by decide)
 obtain ⟨eL, eM, eN⟩ := pH (ad * 9940570264628428797) (13402431016077863595)
 obtain ⟨oq, eO, eQ⟩ := pG (eM) (ad) 0 (by decide)
 obtain ⟨eR, eS, eT⟩ := pH (a / 340282366920938463463374607431768211456) (b / 18446744073709551616)
 obtain ⟨eU, eX, eY⟩ := pG (eS) (dj) 0 (by decide)
 obtain ⟨eZ, e7, fa⟩ := pG (eU) (eF + eI) 0 (by decide)
 obtain ⟨fc, fe, fg⟩ := pH (ad * 9940570264628428797) (2210141511517208575)
 obtain ⟨fh, fi, fj⟩ := pG (fe) (eZ) 0 (by decide)
 obtain ⟨fk, fl, fm⟩ := pG (fh) (eL + eO) 0 (by decide)
 obtain ⟨fo, fq, ft⟩ := pH (a / 340282366920938463463374607431768211456) (b / 340282366920938463463374607431768211456)
 obtain ⟨fu, fw, fx⟩ := pG (fq) (dG) 0 (by decide)
 obtain ⟨fy, fA, fB⟩ := pG (fu) (eR + eX + e7) 0 (by decide)
 obtain ⟨fC, fD, fE⟩ := pH (ad * 9940570264628428797) (7435674573564081700)
 obtain ⟨fF, fG, fH⟩ := pG (fD) (fy) 0 (by decide)
 obtain ⟨fI, fJ, fK⟩ := pG (fF) (fc + fi + fl) 0 (by decide)
 obtain ⟨fL, fM, fN⟩ := pH (a / 340282366920938463463374607431768211456) (b / 6277101735386680763835789423207666416102355444464034512896)
 obtain ⟨fO, fP, fQ⟩ := pG (fM) (d9) 0 (by decide)
 obtain ⟨fR, fS, fT⟩ := pG (fO) (fo + fw + fA) 0 (by decide)
 obtain ⟨fU, fV, fW⟩ := pH (ad * 9940570264628428797) (7239337960414712511)
 obtain ⟨fX, fY, fZ⟩ := pG (fV) (fR) 0 (by decide)
 obtain ⟨ga, gb, gd⟩ := pG (fX) (fC + fG + fJ) 0 (by decide)
 obtain ⟨ge, gg, gh⟩ := pH (a / 340282366920938463463374607431768211456) (b / 115792089237316195423570985008687907853269984665640564039457584007913129639936)
 obtain ⟨gk, gl, gm⟩ := pG (gg) (eB) 0 (by decide)
 obtain ⟨gn, gp, gq⟩ := pG (gk) (fL + fP + fS) 0 (by decide)
 obtain ⟨gt, gu, gv⟩ := pH (ad * 9940570264628428797) (5412103778470702295)
 obtain ⟨gx, gy, gA⟩ := pG (gu) (gn) 0 (by decide)
 obtain ⟨gD, gF, gG⟩ := pG (gx) (fU + fY + gb) 0 (by decide)
 obtain ⟨gH, gI, gJ⟩ := pH (a / 340282366920938463463374607431768211456) (b / 2135987035920910082395021706169552114602704522356652769947041607822219725780640550022962086936576)
 obtain ⟨gL, gM, gO⟩ := pG (gI) (er + ez + eD + (ed + ei + eo)) 0 (by decide)
 obtain ⟨gQ, gR, gT⟩ := pG (gL) (ge + gl + gp) 0 (by decide)
 obtain ⟨gU, gX, gY⟩ := pH (ad * 9940570264628428797) (1873798617647539866)
 obtain ⟨gZ, hG, hH⟩ := pG (gX) (gQ) 0 (by decide)
 obtain ⟨hI, hJ, hM⟩ := pG (gZ) (gt + gy + gF) 0 (by decide)
 obtain ⟨T3, Q2, hT3, hE2, hL3, hQ2⟩ := yw hT2 hB hL2 hb eH eJ eN eQ eT eY fa fg fj fm ft fx fB fE fH fK fN fQ fT fW fZ gd gh gm gq gv gA gG gJ gO gT gY hH hM
 obtain ⟨hZ, ia, ib⟩ := pH (a / 6277101735386680763835789423207666416102355444464034512896) (b / 1)
 obtain ⟨ae, ic, ig⟩ := pG (ia) (fk) 0 (by decide)
 obtain ⟨ii, ij, ik⟩ := pH (ae * 9940570264628428797) (13402431016077863595)
 obtain ⟨ou, il, im⟩ := pG (ij) (ae) 0 (by decide)
 obtain ⟨io, ip, iq⟩ := pH (a / 6277101735386680763835789423207666416102355444464034512896) (b / 18446744073709551616)
 obtain ⟨ir, iu, iv⟩ := pG (ip) (fI) 0 (by decide)
 obtain ⟨iw, ix, iy⟩ := pG (ir) (hZ + ic) 0 (by decide)
 obtain ⟨iz, iA, iB⟩ := pH (ae * 9940570264628428797) (2210141511517208575)
 obtain ⟨iC, iD, iE⟩ := pG (iA) (iw) 0 (by decide)
 obtain ⟨iF, iG, iH⟩ := pG (iC) (ii + il) 0 (by decide)
 obtain ⟨iI, iJ, iK⟩ := pH (a / 6277101735386680763835789423207666416102355444464034512896) (b / 340282366920938463463374607431768211456)
 obtain ⟨iL, iM, iN⟩ := pG (iJ) (ga) 0 (by decide)
 obtain ⟨iO, iP, iQ⟩ := pG (iL) (io + iu + ix) 0 (by decide)
 obtain ⟨iR, iS, iT⟩ := pH (ae * 9940570264628428797) (7435674573564081700)
 obtain ⟨iU, iV, iW⟩ := pG (iS) (iO) 0 (by decide)
 obtain ⟨iX, iY, iZ⟩ := pG (iU) (iz + iD + iG) 0 (by decide)
 obtain ⟨i6, i7, i8⟩ := pH (a / 6277101735386680763835789423207666416102355444464034512896) (b / 6277101735386680763835789423207666416102355444464034512896)
 obtain ⟨i9, ja, jb⟩ := pG (i7) (gD) 0 (by decide)
 obtain ⟨jc, jd, je⟩ := pG (i9) (iI + iM + iP) 0 (by decide)
 obtain ⟨jf, jg, jh⟩ := pH (ae * 9940570264628428797) (7239337960414712511)
 obtain ⟨ji, jj, jk⟩ := pG (jg) (jc) 0 (by decide)
 obtain ⟨jl, jm, jn⟩ := pG (ji) (iR + iV + iY) 0 (by decide)
 obtain ⟨jo, jp, jq⟩ := pH (a / 6277101735386680763835789423207666416102355444464034512896) (b / 115792089237316195423570985008687907853269984665640564039457584007913129639936)
 obtain ⟨jr, js, jt⟩ := pG (jp) (hI) 0 (by decide)
 obtain ⟨ju, jv, jw⟩ := pG (jr) (i6 + ja + jd) 0 (by decide)
 obtain ⟨jx, jy, jz⟩ := pH (ae * 9940570264628428797) (5412103778470702295)
 obtain ⟨jA, jB, jC⟩ := pG (jy) (ju) 0 (by decide)
 obtain ⟨jD, jE, jF⟩ := pG (jA) (jf + jj + jm) 0 (by decide)
 obtain ⟨jG, jH, jI⟩ := pH (a / 6277101735386680763835789423207666416102355444464034512896) (b / 2135987035920910082395021706169552114602704522356652769947041607822219725780640550022962086936576)
 obtain ⟨jJ, jK, jL⟩ := pG (jH) (gU + hG + hJ + (gH + gM + gR)) 0 (by decide)
 obtain ⟨jM, jN, jO⟩ := pG (jJ) (jo + js + jv) 0 (by decide)
 obtain ⟨jP, jQ, jR⟩ := pH (ae * 9940570264628428797) (1873798617647539866)
 obtain ⟨jS, jT, jU⟩ := pG (jQ) (jM) 0 (by decide)
 obtain ⟨jV, jW, jX⟩ := pG (jS) (jx + jB + jE) 0 (by decide)
 obtain ⟨T4, Q3, hT4, hE3, hL4, hQ3⟩ := yw hT3 hB hL3 hb ib ig ik im iq iv iy iB iE iH iK iN iQ iT iW iZ i8 jb je jh jk jn jq jt jw jz jC jF jI jL jO jR jU jX
 obtain ⟨jY, jZ, j0⟩ := pH (a / 115792089237316195423570985008687907853269984665640564039457584007913129639936) (b / 1)
 obtain ⟨af, j7, j8⟩ := pG (jZ) (iF) 0 (by decide)
 obtain ⟨j9, kg, ki⟩ := pH (af * 9940570264628428797) (13402431016077863595)
 obtain ⟨ow, kj, kk⟩ := pG (kg) (af) 0 (by decide)
 obtain ⟨km, kn, ko⟩ := pH (a / 115792089237316195423570985008687907853269984665640564039457584007913129639936) (b / 18446744073709551616)
 obtain ⟨kp, kq, kt⟩ := pG (kn) (iX) 0 (by decide)
 obtain ⟨ku, kv, kw⟩ := pG (kp) (jY + j7) 0 (by decide)
 obtain ⟨kx, kA, kB⟩ := pH (af * 9940570264628428797) (2210141511517208575)
 obtain ⟨kC, kD, kE⟩ := pG (kA) (ku) 0 (by decide)
 obtain ⟨kF, kG, kH⟩ := pG (kC) (j9 + kj) 0 (by decide)
 obtain ⟨kI, kJ, kK⟩ := pH (a / 115792089237316195423570985008687907853269984665640564039457584007913129639936) (b / 340282366920938463463374607431768211456)
 obtain ⟨kL, kM, kN⟩ := pG (kJ) (jl) 0 (by decide)
 obtain ⟨kO, kP, kQ⟩ := pG (kL) (km + kq + kv) 0 (by decide)
 obtain ⟨kR, kS, kT⟩ := pH (af * 9940570264628428797) (7435674573564081700)
 obtain ⟨kU, kV, kW⟩ := pG (kS) (kO) 0 (by decide)
 obtain ⟨kX, kY, kZ⟩ := pG (kU) (kx + kD + kG) 0 (by decide)
 obtain ⟨k6, k7, k9⟩ := pH (a / 115792089237316195423570985008687907853269984665640564039457584007913129639936) (b / 6277101735386680763835789423207666416102355444464034512896)
 obtain ⟨la, lb, lc⟩ := pG (k7) (jD) 0 (by decide)
 obtain ⟨ld, lf, lg⟩ := pG (la) (kI + kM + kP) 0 (by decide)
 obtain ⟨lh, ll, lm⟩ := pH (af * 9940570264628428797) (7239337960414712511)
 obtain ⟨ln, lq, lr⟩ := pG (ll) (ld) 0 (by decide)
 obtain ⟨ls, lu, lv⟩ := pG (ln) (kR + kV + kY) 0 (by decide)
 obtain ⟨lw, lx, ly⟩ := pH (a / 115792089237316195423570985008687907853269984665640564039457584007913129639936) (b / 115792089237316195423570985008687907853269984665640564039457584007913129639936)
 obtain ⟨lz, lA, lB⟩ := pG (lx) (jV) 0 (by decide)
 obtain ⟨lC, lD, lE⟩ := pG (lz) (k6 + lb + lf) 0 (by decide)
 obtain ⟨lF, lG, lH⟩ := pH (af * 9940570264628428797) (5412103778470702295)
 obtain ⟨lI, lJ, lK⟩ := pG (lG) (lC) 0 (by decide)
 obtain ⟨lL, lM, lN⟩ := pG (lI) (lh + lq + lu) 0 (by decide)
 obtain ⟨lO, lP, lQ⟩ := pH (a / 115792089237316195423570985008687907853269984665640564039457584007913129639936) (b / 2135987035920910082395021706169552114602704522356652769947041607822219725780640550022962086936576)
 obtain ⟨lR, lS, lT⟩ := pG (lP) (jP + jT + jW + (jG + jK + jN)) 0 (by decide)
 obtain ⟨lU, lV, lW⟩ := pG (lR) (lw + lA + lD) 0 (by decide)
 obtain ⟨lX, lY, lZ⟩ := pH (af * 9940570264628428797) (1873798617647539866)
 obtain ⟨l6, l7, l9⟩ := pG (lY) (lU) 0 (by decide)
 obtain ⟨ma, mb, mc⟩ := pG (l6) (lF + lJ + lM) 0 (by decide)
 obtain ⟨T5, Q4, hT5, hE4, hL5, hQ4⟩ := yw hT4 hB hL4 hb j0 j8 ki kk ko kt kw kB kE kH kK kN kQ kT kW kZ k9 lc lg lm lr lv ly lB lE lH lK lN lQ lT lW lZ l9 mc
 obtain ⟨me, mf, mg⟩ := pH (a / 2135987035920910082395021706169552114602704522356652769947041607822219725780640550022962086936576) (b / 1)
 obtain ⟨ah, mh, mi⟩ := pG (mf) (kF) 0 (by decide)
 obtain ⟨mj, ml, mm⟩ := pH (ah * 9940570264628428797) (13402431016077863595)
 obtain ⟨ox, mo, mq⟩ := pG (ml) (ah) 0 (by decide)
 obtain ⟨mr, ms, mt⟩ := pH (a / 2135987035920910082395021706169552114602704522356652769947041607822219725780640550022962086936576) (b / 18446744073709551616)
 obtain ⟨mu, mv, mw⟩ := pG (ms) (kX) 0 (by decide)
 obtain ⟨my, mz, mA⟩ := pG (mu) (me + mh) 0 (by decide)
 obtain ⟨mB, mC, mD⟩ := pH (ah * 9940570264628428797) (2210141511517208575)
 obtain ⟨mE, mF, mG⟩ := pG (mC) (my) 0 (by decide)
 obtain ⟨mH, mI, mJ⟩ := pG (mE) (mj + mo) 0 (by decide)
 obtain ⟨mK, mL, mM⟩ := pH (a / 2135987035920910082395021706169552114602704522356652769947041607822219725780640550022962086936576) (b / 340282366920938463463374607431768211456)
 obtain ⟨mN, mO, mP⟩ := pG (mL) (ls) 0 (by decide)
 obtain ⟨mQ, mR, mS⟩ := pG (mN) (mr + mv + mz) 0 (by decide)
 obtain ⟨mT, mU, mV⟩ := pH (ah * 9940570264628428797) (7435674573564081700)
 obtain ⟨mW, mX, mY⟩ := pG (mU) (mQ) 0 (by decide)
 obtain ⟨mZ, m0, m6⟩ := pG (mW) (mB + mF + mI) 0 (by decide)
 obtain ⟨m7, m8, m9⟩ := pH (a / 2135987035920910082395021706169552114602704522356652769947041607822219725780640550022962086936576) (b / 6277101735386680763835789423207666416102355444464034512896)
 obtain ⟨na, ne, nf⟩ := pG (m8) (lL) 0 (by decide)
 obtain ⟨ng, nh, nk⟩ := pG (na) (mK + mO + mR) 0 (by decide)
 obtain ⟨nl, np, nq⟩ := pH (ah * 9940570264628428797) (7239337960414712511)
 obtain ⟨nr, nt, nu⟩ := pG (np) (ng) 0 (by decide)
 obtain ⟨nv, nw, nx⟩ := pG (nr) (mT + mX + m0) 0 (by decide)
 obtain ⟨ny, nz, nA⟩ := pH (a / 2135987035920910082395021706169552114602704522356652769947041607822219725780640550022962086936576) (b / 115792089237316195423570985008687907853269984665640564039457584007913129639936)
 obtain ⟨nB, nC, nD⟩ := pG (nz) (ma) 0 (by decide)
 obtain ⟨nE, nF, nG⟩ := pG (nB) (m7 + ne + nh) 0 (by decide)
 obtain ⟨nH, nI, nJ⟩ := pH (ah * 9940570264628428797) (5412103778470702295)
 obtain ⟨nK, nL, nM⟩ := pG (nI) (nE) 0 (by decide)
 obtain ⟨nN, nO, nP⟩ := pG (nK) (nl + nt + nw) 0 (by decide)
 obtain ⟨nQ, nR, nS⟩ := pH (a / 2135987035920910082395021706169552114602704522356652769947041607822219725780640550022962086936576) (b / 2135987035920910082395021706169552114602704522356652769947041607822219725780640550022962086936576)
 obtain ⟨nT, nU, nW⟩ := pG (nR) (lX + l7 + mb + (lO + lS + lV)) 0 (by decide)
 obtain ⟨nZ, n6, n7⟩ := pG (nT) (ny + nC + nF) 0 (by decide)
 obtain ⟨n8, n9, oa⟩ := pH (ah * 9940570264628428797) (1873798617647539866)
 obtain ⟨oc, od, oe⟩ := pG (n9) (nZ) 0 (by decide)
 obtain ⟨og, oh, ol⟩ := pG (oc) (nH + nL + nO) 0 (by decide)
 obtain ⟨T6, Q5, hT6, hE5, hL6, hQ5⟩ := yw hT5 hB hL5 hb mg mi mm mq mt mw mA mD mG mJ mM mP mS mV mY m6 m9 nf nk nq nu nx nA nD nG nJ nM nP nS nW n7 oa oe ol
 refine ⟨T6 % 4002409555221667393417789825735904156556882819939007885332058136124031650490837864442687629129015664037894272559787, Nat.mod_lt _ (by decide), aaZ (Fq a ha) hE0 hE1 hE2 hE3 hE4 hE5, ?_⟩
 have hc : mH % 18446744073709551616 + 18446744073709551616 * (mZ % 18446744073709551616 + 18446744073709551616 * (nv % 18446744073709551616 + 18446744073709551616 * (nN % 18446744073709551616 + 18446744073709551616 * (og % 18446744073709551616 + 18446744073709551616 * ((n8 + od + oh + (nQ + nU + n6)) % 18446744073709551616 + 18446744073709551616 * (0)))))) < 2 * 4002409555221667393417789825735904156556882819939007885332058136124031650490837864442687629129015664037894272559787 := by rw [← hT6]; omega
 rw [hT6]
 exact pI (P := prog) (env := [ts, uJ, eNP]) ⟨rD, sJ, Qd, tt0⟩ func61 0 (oN [(17, aj, ak), (25, ab, am), (39, ao, ap), (47, om, ar), (59, aw, ax), (67, az, aA), (79, aC, aD), (90, aF, aG), (98, aI, aJ), (110, aL, aM), (123, aO, aP), (131, aR, aS), (143, aU, aV), (154, aX, aY), (162, a9, ba), (174, bc, be), (187, bg, bh), (195, bm, bn), (207, bp, bq), (218, bu, bv), (226, bz, bA), (238, bC, bD), (251, bF, bG), (259, bI, bJ), (271, bL, bM), (282, bO, bP), (290, bR, bS), (302, bU, bV), (315, bX, bY), (323, b6, b7), (335, b9, ca), (346, cc, cd), (354, cf, cg), (366, cl, cm), (388, cq, cr), (396, ac, cu), (410, cx, cy), (418, oo, cA), (430, cC, cD), (438, cF, cG), (450, cI, cJ), (461, cL, cM), (469, cO, cP), (481, cR, cS), (494, cU, cV), (502, cX, cY), (514, c9, da), (525, dc, dd), (533, df, dh), (545, dj, dk), (558, dm, dn), (566, dq, dr), (578, du, dv), (589, dx, dy), (597, dD, dE), (609, dG, dH), (622, dJ, dK), (630, dN, dO), (642, dQ, dR), (653, dU, dV), (661, dX, dY), (673, d9, ea), (686, ed, ee), (694, eg, ei), (706, ek, eo), (717, er, es), (725, eu, ez), (737, eB, eD), (759, eF, eG), (767, ad, eI), (781, eL, eM), (789, oq, eO), (801, eR, eS), (809, eU, eX), (821, eZ, e7), (832, fc, fe), (840, fh, fi), (852, fk, fl), (865, fo, fq), (873, fu, fw), (885, fy, fA), (896, fC, fD), (904, fF, fG), (916, fI, fJ), (929, fL, fM), (937, fO, fP), (949, fR, fS), (960, fU, fV), (968, fX, fY), (980, ga, gb), (993, ge, gg), (1001, gk, gl), (1013, gn, gp), (1024, gt, gu), (1032, gx, gy), (1044, gD, gF), (1057, gH, gI), (1065, gL, gM), (1077, gQ, gR), (1088, gU, gX), (1096, gZ, hG), (1108, hI, hJ), (1130, hZ, ia), (1138, ae, ic), (1152, ii, ij), (1160, ou, il), (1172, io, ip), (1180, ir, iu), (1192, iw, ix), (1203, iz, iA), (1211, iC, iD), (1223, iF, iG), (1236, iI, iJ), (1244, iL, iM), (1256, iO, iP), (1267, iR, iS), (1275, iU, iV), (1287, iX, iY), (1300, i6, i7), (1308, i9, ja), (1320, jc, jd), (1331, jf, jg), (1339, ji, jj), (1351, jl, jm), (1364, jo, jp), (1372, jr, js), (1384, ju, jv), (1395, jx, jy), (1403, jA, jB), (1415, jD, jE), (1428, jG, jH), (1436, jJ, jK), (1448, jM, jN), (1459, jP, jQ), (1467, jS, jT), (1479, jV, jW), (1501, jY, jZ), (1509, af, j7), (1523, j9, kg), (1531, ow, kj), (1543, km, kn), (1551, kp, kq), (1563, ku, kv), (1574, kx, kA), (1582, kC, kD), (1594, kF, kG), (1607, kI, kJ), (1615, kL, kM), (1627, kO, kP), (1638, kR, kS), (1646, kU, kV), (1658, kX, kY), (1671, k6, k7), (1679, la, lb), (1691, ld, lf), (1702, lh, ll), (1710, ln, lq), (1722, ls, lu), (1735, lw, lx), (1743, lz, lA), (1755, lC, lD), (1766, lF, lG), (1774, lI, lJ), (1786, lL, lM), (1799, lO, lP), (1807, lR, lS), (1819, lU, lV), (1830, lX, lY), (1838, l6, l7), (1850, ma, mb), (1872, me, mf), (1880, ah, mh), (1894, mj, ml), (1902, ox, mo), (1914, mr, ms), (1922, mu, mv), (1934, my, mz), (1945, mB, mC), (1953, mE, mF), (1965, mH, mI), (1978, mK, mL), (1986, mN, mO), (1998, mQ, mR), (2009, mT, mU), (2017, mW, mX), (2029, mZ, m0), (2042, m7, m8), (2050, na, ne), (2062, ng, nh), (2073, nl, np), (2081, nr, nt), (2093, nv, nw), (2106, ny, nz), (2114, nB, nC), (2126, nE, nF), (2137, nH, nI), (2145, nK, nL), (2157, nN, nO), (2170, nQ, nR), (2178, nT, nU), (2190, nZ, n6), (2201, n8, n9), (2209, oc, od), (2221, og, oh)] []) (by kernel_rfl) (ai hc (ai ol (ai oe (ai oa (ai n7 (ai nW (ai nS (ai nP (ai nM (ai nJ (ai nG (ai nD (ai nA (ai nx (ai nu (ai nq (ai nk (ai nf (ai m9 (ai m6 (ai mY (ai mV (ai mS (ai mP (ai mM (ai mJ (ai mG (ai mD (ai mA (ai mw (ai mt (ai mq (ai mm (ai mi (ai mg (ai mc (ai l9 (ai lZ (ai lW (ai lT (ai lQ (ai lN (ai lK (ai lH (ai lE (ai lB (ai ly (ai lv (ai lr (ai lm (ai lg (ai lc (ai k9 (ai kZ (ai kW (ai kT (ai kQ (ai kN (ai kK (ai kH (ai kE (ai kB (ai kw (ai kt (ai ko (ai kk (ai ki (ai j8 (ai j0 (ai jX (ai jU (ai jR (ai jO (ai jL (ai jI (ai jF (ai jC (ai jz (ai jw (ai jt (ai jq (ai jn (ai jk (ai jh (ai je (ai jb (ai i8 (ai iZ (ai iW (ai iT (ai iQ (ai iN (ai iK (ai iH (ai iE (ai iB (ai iy (ai iv (ai iq (ai im (ai ik (ai ig (ai ib (ai hM (ai hH (ai gY (ai gT (ai gO (ai gJ (ai gG (ai gA (ai gv (ai gq (ai gm (ai gh (ai gd (ai fZ (ai fW (ai fT (ai fQ (ai fN (ai fK (ai fH (ai fE (ai fB (ai fx (ai ft (ai fm (ai fj (ai fg (ai fa (ai eY (ai eT (ai eQ (ai eN (ai eJ (ai eH (ai eE (ai eA (ai et (ai ep (ai ej (ai ef (ai eb (ai dZ (ai dW (ai dT (ai dP (ai dL (ai dI (ai dF (ai dz (ai dw (ai dt (ai dp (ai dl (ai di (ai de (ai db (ai cZ (ai cW (ai cT (ai cQ (ai cN (ai cK (ai cH (ai cE (ai cB (ai cz (ai cv (ai ct (ai co (ai ck (ai ce (ai cb (ai b8 (ai bZ (ai bW (ai bT (ai bQ (ai bN (ai bK (ai bH (ai bE (ai bB (ai bx (ai br (ai bo (ai bl (ai bf (ai bb (ai aZ (ai aW (ai aT (ai aQ (ai aN (ai aK (ai aH (ai aE (ai aB (ai ay (ai au (ai aq (ai an (ai al tt0)))))))))))))))))))))))))))))))))))))))))))))))))))))))))))))))))))))))))))))))))))))))))))))))))))))))))))))))))))))))))))))))))))))))))))))))))))))))))))))))))))))))))))))))))))))))))))))))))))))))))))))
end Go.Proofs.YtokjhbmmdmeafaaGreat
