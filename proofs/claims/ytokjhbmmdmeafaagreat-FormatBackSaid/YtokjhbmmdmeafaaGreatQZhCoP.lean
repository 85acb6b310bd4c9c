/- Pruned: ZhCoP. -/
import Derived.Test.YtokjhbmmdmeafaaGreatQHg
set_option linter.unusedSimpArgs false
set_option linter.unusedVariables false
set_option maxHeartbeats 4000000
namespace Go.Proofs.YtokjhbmmdmeafaaGreat
open Go.Ev Go.RowKit
open Tryz
theorem CL {P : Program} {f : FuncId} {args : List XV} {l : List Ch} {x : Nat} (h : Gives P f args (.ag l)) (hc : qG 6 l = some (x, [])) : Gives P f args (.ag [.n 6 x]) :=
 h.same (G9 hc)
def eRP : Entry := y8 95 [(none, .ag [.c (.int .u64 13402431016077863595), .c (.int .u64 2210141511517208575), .c (.int .u64 7435674573564081700), .c (.int .u64 7239337960414712511), .c (.int .u64 5412103778470702295), .c (.int .u64 1873798617647539866)])]
theorem wI : eRP.OK prog := wh (fun args w => Go.Proofs.enters_of (P := prog) func95 (by kernel_rfl) rfl args w)
 (only (pX (P := prog) (env := []) trivial func95 0 o0 (by kernel_rfl) tt0))
theorem adw (x : Nat) (hx : x < 2 * 4002409555221667393417789825735904156556882819939007885332058136124031650490837864442687629129015664037894272559787) : Gives prog 99 [.t (.ag [.n 6 x])] (.ag [.n 6 (x % 4002409555221667393417789825735904156556882819939007885332058136124031650490837864442687629129015664037894272559787)]) := by
 obtain ⟨d0, k0, q0⟩ := qP (x / 1) 13402431016077863595 0 (by decide)
 obtain ⟨d1, k1, q1⟩ := qP (x / 18446744073709551616) 2210141511517208575 k0 q0.2.2.2
 obtain ⟨d2, k2, q2⟩ := qP (x / 340282366920938463463374607431768211456) 7435674573564081700 k1 q1.2.2.2
 obtain ⟨d3, k3, q3⟩ := qP (x / 6277101735386680763835789423207666416102355444464034512896) 7239337960414712511 k2 q2.2.2.2
 obtain ⟨d4, k4, q4⟩ := qP (x / 115792089237316195423570985008687907853269984665640564039457584007913129639936) 5412103778470702295 k3 q3.2.2.2
 obtain ⟨d5, k5, q5⟩ := qP (x / 2135987035920910082395021706169552114602704522356652769947041607822219725780640550022962086936576) 1873798617647539866 k4 q4.2.2.2
 obtain ⟨h1, h2, h3, h4⟩ := Lb q0 q1 q2 q3 q4 q5
 rw [Fl x (by omega)] at h1
 simp only [Nat.reduceMod, Nat.reduceMul, Nat.reduceAdd] at h1
 by_cases hk : k5 = 0
 ·have hg := pX (P := prog) (env := [tQ, eRP]) ⟨rP, wI, tt0⟩ func99 0 (oN [(19, d0, k0), (39, d1, k1), (59, d2, k2), (79, d3, k3), (99, d4, k4), (119, d5, k5)] [(130, 1)]) (args := [.t (.ag [.n 6 x])]) (r := .ag [.n 1 d0, .n 1 d1, .n 1 d2, .n 1 d3, .n 1 d4, .n 1 d5]) (by kernel_rfl) (ai (show decide (k5 % 18446744073709551616 = 0 % 18446744073709551616) = true by simp [hk]) (ai q5 (ai q4 (ai q3 (ai q2 (ai q1 (ai q0 tt0)))))))
  have hv : x % 4002409555221667393417789825735904156556882819939007885332058136124031650490837864442687629129015664037894272559787 = d0 % 18446744073709551616 + 18446744073709551616 * (d1 % 18446744073709551616 + 18446744073709551616 * (d2 % 18446744073709551616 + 18446744073709551616 * (d3 % 18446744073709551616 + 18446744073709551616 * (d4 % 18446744073709551616 + 18446744073709551616 * (d5 % 18446744073709551616 + 18446744073709551616 * (0)))))) := by
   rw [h2]
   generalize d0 + 18446744073709551616 * (d1 + 18446744073709551616 * (d2 + 18446744073709551616 * (d3 + 18446744073709551616 * (d4 + 18446744073709551616 * (d5 + 18446744073709551616 * (0)))))) = D at *
   clear hg q0 q1 q2 q3 q4 q5
   omega
  rw [hv]
  exact CL hg rfl
 ·have hg := pX (P := prog) (env := [tQ, eRP]) ⟨rP, wI, tt0⟩ func99 0 (oN [(19, d0, k0), (39, d1, k1), (59, d2, k2), (79, d3, k3), (99, d4, k4), (119, d5, k5)] [(130, 2)]) (args := [.t (.ag [.n 6 x])]) (r := .ag [.n 6 x]) (by kernel_rfl) (ai (show decide (k5 % 18446744073709551616 = 0 % 18446744073709551616) = false by have h := q5.2.2.2; simp; omega) (ai q5 (ai q4 (ai q3 (ai q2 (ai q1 (ai q0 tt0)))))))
  have hv : x % 4002409555221667393417789825735904156556882819939007885332058136124031650490837864442687629129015664037894272559787 = x := by
   generalize d0 + 18446744073709551616 * (d1 + 18446744073709551616 * (d2 + 18446744073709551616 * (d3 + 18446744073709551616 * (d4 + 18446744073709551616 * (d5 + 18446744073709551616 * (0)))))) = D at *
   clear hg q0 q1 q2 q3 q4 q5
   omega
  rw [hv]
  exact hg
def eNP : Entry := ql 99 vF.x (fun x => [(some (x < 2 * 4002409555221667393417789825735904156556882819939007885332058136124031650490837864442687629129015664037894272559787), .ag [.n 6 (x % 4002409555221667393417789825735904156556882819939007885332058136124031650490837864442687629129015664037894272559787)])])
theorem Qb : eNP.OK prog := qb (fun args w => Go.Proofs.enters_of (P := prog) func99 (by kernel_rfl) rfl args w) (fun u c r hm hc => by
 simp only [List.mem_singleton, pi0] at hm
 obtain ⟨rfl, rfl⟩ := hm
 exact adw u hc)
theorem YP (a b : Nat) (ha : a < 4002409555221667393417789825735904156556882819939007885332058136124031650490837864442687629129015664037894272559787) (hb : b < 4002409555221667393417789825735904156556882819939007885332058136124031650490837864442687629129015664037894272559787) : Gives prog 62 [.t (.ag [.n 6 a]), .t (.ag [.n 6 b])] (.ag [.n 6 ((a + b) % 4002409555221667393417789825735904156556882819939007885332058136124031650490837864442687629129015664037894272559787)]) := by
 obtain ⟨d0, k0, q0⟩ := pV (a / 1) (b / 1) 0 (by decide)
 obtain ⟨d1, k1, q1⟩ := pV (a / 18446744073709551616) (b / 18446744073709551616) k0 q0.2.2.2
 obtain ⟨d2, k2, q2⟩ := pV (a / 340282366920938463463374607431768211456) (b / 340282366920938463463374607431768211456) k1 q1.2.2.2
 obtain ⟨d3, k3, q3⟩ := pV (a / 6277101735386680763835789423207666416102355444464034512896) (b / 6277101735386680763835789423207666416102355444464034512896) k2 q2.2.2.2
 obtain ⟨d4, k4, q4⟩ := pV (a / 115792089237316195423570985008687907853269984665640564039457584007913129639936) (b / 115792089237316195423570985008687907853269984665640564039457584007913129639936) k3 q3.2.2.2
 obtain ⟨d5, k5, q5⟩ := pV (a / 2135987035920910082395021706169552114602704522356652769947041607822219725780640550022962086936576) (b / 2135987035920910082395021706169552114602704522356652769947041607822219725780640550022962086936576) k4 q4.2.2.2
 obtain ⟨h1, h2, h3, h4⟩ := V1 q0 q1 q2 q3 q4 q5
 rw [Fl a (by omega), Fl b (by omega)] at h1
 have hv : d0 % 18446744073709551616 + 18446744073709551616 * (d1 % 18446744073709551616 + 18446744073709551616 * (d2 % 18446744073709551616 + 18446744073709551616 * (d3 % 18446744073709551616 + 18446744073709551616 * (d4 % 18446744073709551616 + 18446744073709551616 * (d5 % 18446744073709551616 + 18446744073709551616 * (0)))))) = a + b := by
  rw [h2]
  generalize d0 + 18446744073709551616 * (d1 + 18446744073709551616 * (d2 + 18446744073709551616 * (d3 + 18446744073709551616 * (d4 + 18446744073709551616 * (d5 + 18446744073709551616 * (0)))))) = D at *
  clear q0 q1 q2 q3 q4 q5
  omega
 rw [← hv]
 exact pX (P := prog) (env := [tJ, eNP]) ⟨rN, Qb, tt0⟩ func62 0 (oN [(9, d0, k0), (21, d1, k1), (33, d2, k2), (45, d3, k3), (57, d4, k4), (69, d5, k5)] []) (by kernel_rfl) (ai (show d0 % 18446744073709551616 + 18446744073709551616 * (d1 % 18446744073709551616 + 18446744073709551616 * (d2 % 18446744073709551616 + 18446744073709551616 * (d3 % 18446744073709551616 + 18446744073709551616 * (d4 % 18446744073709551616 + 18446744073709551616 * (d5 % 18446744073709551616 + 18446744073709551616 * (0)))))) < 2 * 4002409555221667393417789825735904156556882819939007885332058136124031650490837864442687629129015664037894272559787 by rw [hv]; omega) (ai q5 (ai q4 (ai q3 (ai q2 (ai q1 (ai q0 tt0)))))))
theorem TI (a b : Nat) (ha : a < 4002409555221667393417789825735904156556882819939007885332058136124031650490837864442687629129015664037894272559787) (hb : b < 4002409555221667393417789825735904156556882819939007885332058136124031650490837864442687629129015664037894272559787) : Gives prog 102 [.t (.ag [.n 6 a]), .t (.ag [.n 6 b])] (.ag [.n 6 ((a + (4002409555221667393417789825735904156556882819939007885332058136124031650490837864442687629129015664037894272559787 - b)) % 4002409555221667393417789825735904156556882819939007885332058136124031650490837864442687629129015664037894272559787)]) := by
 obtain ⟨d0, k0, q0⟩ := qP (a / 1) (b / 1) 0 (by decide)
 obtain ⟨d1, k1, q1⟩ := qP (a / 18446744073709551616) (b / 18446744073709551616) k0 q0.2.2.2
 obtain ⟨d2, k2, q2⟩ := qP (a / 340282366920938463463374607431768211456) (b / 340282366920938463463374607431768211456) k1 q1.2.2.2
 obtain ⟨d3, k3, q3⟩ := qP (a / 6277101735386680763835789423207666416102355444464034512896) (b / 6277101735386680763835789423207666416102355444464034512896) k2 q2.2.2.2
 obtain ⟨d4, k4, q4⟩ := qP (a / 115792089237316195423570985008687907853269984665640564039457584007913129639936) (b / 115792089237316195423570985008687907853269984665640564039457584007913129639936) k3 q3.2.2.2
 obtain ⟨d5, k5, q5⟩ := qP (a / 2135987035920910082395021706169552114602704522356652769947041607822219725780640550022962086936576) (b / 2135987035920910082395021706169552114602704522356652769947041607822219725780640550022962086936576) k4 q4.2.2.2
 obtain ⟨h1, h2, h3, h4⟩ := Lb q0 q1 q2 q3 q4 q5
 rw [Fl a (by omega), Fl b (by omega)] at h1
 by_cases hk : k5 = 0
 ·have hg := pX (P := prog) (env := [tQ, tJ, eRP]) ⟨rP, rN, wI, tt0⟩ func102 0 (oN [(9, d0, k0), (21, d1, k1), (33, d2, k2), (45, d3, k3), (57, d4, k4), (69, d5, k5)] [(77, 1)]) (args := [.t (.ag [.n 6 a]), .t (.ag [.n 6 b])]) (r := .ag [.n 1 d0, .n 1 d1, .n 1 d2, .n 1 d3, .n 1 d4, .n 1 d5]) (by kernel_rfl) (ai (show decide (k5 % 18446744073709551616 = 0 % 18446744073709551616) = true by simp [hk]) (ai q5 (ai q4 (ai q3 (ai q2 (ai q1 (ai q0 tt0)))))))
  have hv : (a + (4002409555221667393417789825735904156556882819939007885332058136124031650490837864442687629129015664037894272559787 - b)) % 4002409555221667393417789825735904156556882819939007885332058136124031650490837864442687629129015664037894272559787 = d0 % 18446744073709551616 + 18446744073709551616 * (d1 % 18446744073709551616 + 18446744073709551616 * (d2 % 18446744073709551616 + 18446744073709551616 * (d3 % 18446744073709551616 + 18446744073709551616 * (d4 % 18446744073709551616 + 18446744073709551616 * (d5 % 18446744073709551616 + 18446744073709551616 * (0)))))) := by
   rw [h2]
   generalize d0 + 18446744073709551616 * (d1 + 18446744073709551616 * (d2 + 18446744073709551616 * (d3 + 18446744073709551616 * (d4 + 18446744073709551616 * (d5 + 18446744073709551616 * (0)))))) = D at *
   clear hg q0 q1 q2 q3 q4 q5
   omega
  rw [hv]
  exact CL hg rfl
 ·obtain ⟨s0, c0, w0⟩ := pV (d0 / 1) 13402431016077863595 0 (by decide)
  obtain ⟨s1, c1, w1⟩ := pV (d1 / 1) 2210141511517208575 c0 w0.2.2.2
  obtain ⟨s2, c2, w2⟩ := pV (d2 / 1) 7435674573564081700 c1 w1.2.2.2
  obtain ⟨s3, c3, w3⟩ := pV (d3 / 1) 7239337960414712511 c2 w2.2.2.2
  obtain ⟨s4, c4, w4⟩ := pV (d4 / 1) 5412103778470702295 c3 w3.2.2.2
  obtain ⟨s5, c5, w5⟩ := pV (d5 / 1) 1873798617647539866 c4 w4.2.2.2
  have hg := pX (P := prog) (env := [tQ, tJ, eRP]) ⟨rP, rN, wI, tt0⟩ func102 0 (oN [(9, d0, k0), (21, d1, k1), (33, d2, k2), (45, d3, k3), (57, d4, k4), (69, d5, k5), (85, s0, c0), (97, s1, c1), (109, s2, c2), (121, s3, c3), (133, s4, c4), (145, s5, c5)] [(77, 2)]) (args := [.t (.ag [.n 6 a]), .t (.ag [.n 6 b])]) (r := .ag [.n 1 s0, .n 1 s1, .n 1 s2, .n 1 s3, .n 1 s4, .n 1 s5]) (by kernel_rfl) (ai w5 (ai w4 (ai w3 (ai w2 (ai w1 (ai w0 (ai (show decide (k5 % 18446744073709551616 = 0 % 18446744073709551616) = false by have h := q5.2.2.2; simp; omega) (ai q5 (ai q4 (ai q3 (ai q2 (ai q1 (ai q0 tt0)))))))))))))
  obtain ⟨g1, g2, g3, g4⟩ := V1 w0 w1 w2 w3 w4 w5
  simp only [Nat.div_one, Nat.reduceMod, Nat.reduceMul, Nat.reduceAdd] at g1
  rw [h2] at g1
  have hv : (a + (4002409555221667393417789825735904156556882819939007885332058136124031650490837864442687629129015664037894272559787 - b)) % 4002409555221667393417789825735904156556882819939007885332058136124031650490837864442687629129015664037894272559787 = s0 % 18446744073709551616 + 18446744073709551616 * (s1 % 18446744073709551616 + 18446744073709551616 * (s2 % 18446744073709551616 + 18446744073709551616 * (s3 % 18446744073709551616 + 18446744073709551616 * (s4 % 18446744073709551616 + 18446744073709551616 * (s5 % 18446744073709551616 + 18446744073709551616 * (0)))))) := by
   rw [g2]
   generalize d0 + 18446744073709551616 * (d1 + 18446744073709551616 * (d2 + 18446744073709551616 * (d3 + 18446744073709551616 * (d4 + 18446744073709551616 * (d5 + 18446744073709551616 * (0)))))) = D at *
   generalize s0 + 18446744073709551616 * (s1 + 18446744073709551616 * (s2 + 18446744073709551616 * (s3 + 18446744073709551616 * (s4 + 18446744073709551616 * (s5 + 18446744073709551616 * (0)))))) = E at *
   clear hg q0 q1 q2 q3 q4 q5 w0 w1 w2 w3 w4 w5
   omega
  rw [hv]
  exact CL hg rfl
theorem UB (a b : Nat) (ha : a < 39402006196394479212279040100143613805079739270465446667948293404245721771497210611414266254884915640806627990306816) (hb : b <= 4002409555221667393417789825735904156556882819939007885332058136124031650490837864442687629129015664037894272559787) : ∃ v, v < 4002409555221667393417789825735904156556882819939007885332058136124031650490837864442687629129015664037894272559787 /\ (v * 39402006196394479212279040100143613805079739270465446667948293404245721771497210611414266254884915640806627990306816) % 4002409555221667393417789825735904156556882819939007885332058136124031650490837864442687629129015664037894272559787 = (a * b) % 4002409555221667393417789825735904156556882819939007885332058136124031650490837864442687629129015664037894272559787 /\ Gives prog 61 [.t (.ag [.n 6 a]), .t (.ag [.n 6 b])] (.ag [.n 6 v]) := by
 have hB := (Fl b (by omega)).symm
 have hT0 : 0 = 0 % 18446744073709551616 + 18446744073709551616 * (0 % 18446744073709551616 + 18446744073709551616 * (0 % 18446744073709551616 + 18446744073709551616 * (0 % 18446744073709551616 + 18446744073709551616 * (0 % 18446744073709551616 + 18446744073709551616 * (0 % 18446744073709551616 + 18446744073709551616 * (0)))))) := by simp only [Nat.zero_mod, Nat.mul_zero, Nat.add_zero]
 obtain ⟨ak, al, am⟩ := pW (a / 1) (b / 1)
 obtain ⟨ab, an, ao⟩ := pV (al) (0) 0 (by decide)
 obtain ⟨ap, aq, ar⟩ := pW (ab * 9940570264628428797) (13402431016077863595)
 obtain ⟨oI, au, aw⟩ := pV (aq) (ab) 0 (by decide)
 obtain ⟨ax, ay, az⟩ := pW (a / 1) (b / 18446744073709551616)
 obtain ⟨aB, aC, aD⟩ := pV (ay) (0) 0 (by decide)
 obtain ⟨aE, aF, aG⟩ := pV (aB) (ak + an) 0 (by decide)
 obtain ⟨aH, aI, aJ⟩ := pW (ab * 9940570264628428797) (2210141511517208575)
 obtain ⟨aK, aL, aM⟩ := pV (aI) (aE) 0 (by decide)
 obtain ⟨aN, aO, aP⟩ := pV (aK) (ap + au) 0 (by decide)
 obtain ⟨aQ, aR, aS⟩ := pW (a / 1) (b / 340282366920938463463374607431768211456)
 obtain ⟨aT, aU, aV⟩ := pV (aR) (0) 0 (by decide)
 obtain ⟨aW, aX, aY⟩ := pV (aT) (ax + aC + aF) 0 (by decide)
 obtain ⟨aZ, ba, bb⟩ := pW (ab * 9940570264628428797) (7435674573564081700)
 obtain ⟨bc, be, bf⟩ := pV (ba) (aW) 0 (by decide)
 obtain ⟨bg, bh, bl⟩ := pV (bc) (aH + aL + aO) 0 (by decide)
 obtain ⟨bm, bn, bo⟩ := pW (a / 1) (b / 6277101735386680763835789423207666416102355444464034512896)
 obtain ⟨bp, bq, br⟩ := pV (bn) (0) 0 (by decide)
 obtain ⟨bu, bv, bx⟩ := pV (bp) (aQ + aU + aX) 0 (by decide)
 obtain ⟨bz, bA, bB⟩ := pW (ab * 9940570264628428797) (7239337960414712511)
 obtain ⟨bC, bD, bE⟩ := pV (bA) (bu) 0 (by decide)
 obtain ⟨bF, bG, bH⟩ := pV (bC) (aZ + be + bh) 0 (by decide)
 obtain ⟨bI, bJ, bK⟩ := pW (a / 1) (b / 115792089237316195423570985008687907853269984665640564039457584007913129639936)
 obtain ⟨bL, bM, bN⟩ := pV (bJ) (0) 0 (by decide)
 obtain ⟨bO, bP, bQ⟩ := pV (bL) (bm + bq + bv) 0 (by decide)
 obtain ⟨bR, bS, bT⟩ := pW (ab * 9940570264628428797) (5412103778470702295)
 obtain ⟨bU, bV, bW⟩ := pV (bS) (bO) 0 (by decide)
 obtain ⟨bX, bY, bZ⟩ := pV (bU) (bz + bD + bG) 0 (by decide)
 obtain ⟨b9, ca, cb⟩ := pW (a / 1) (b / 2135987035920910082395021706169552114602704522356652769947041607822219725780640550022962086936576)
 obtain ⟨cc, cd, ce⟩ := pV (ca) (0) 0 (by decide)
 obtain ⟨cf, cg, ck⟩ := pV (cc) (bI + bM + bP) 0 (by decide)
 obtain ⟨cm, co, cq⟩ := pW (ab * 9940570264628428797) (1873798617647539866)
 obtain ⟨cr, ct, cu⟩ := pV (co) (cf) 0 (by decide)
 obtain ⟨cv, cx, cy⟩ := pV (cr) (bR + bV + bY) 0 (by decide)
 obtain ⟨T1, Q0, hT1, hE0, hL1, hQ0⟩ := yx hT0 hB (by omega) hb am ao ar aw az aD aG aJ aM aP aS aV aY bb bf bl bo br bx bB bE bH bK bN bQ bT bW bZ cb ce ck cq cu cy
 obtain ⟨cz, cA, cB⟩ := pW (a / 18446744073709551616) (b / 1)
 obtain ⟨ac, cC, cD⟩ := pV (cA) (aN) 0 (by decide)
 obtain ⟨cF, cG, cH⟩ := pW (ac * 9940570264628428797) (13402431016077863595)
 obtain ⟨oJ, cI, cJ⟩ := pV (cG) (ac) 0 (by decide)
 obtain ⟨cK, cL, cM⟩ := pW (a / 18446744073709551616) (b / 18446744073709551616)
 obtain ⟨cN, cO, cP⟩ := pV (cL) (bg) 0 (by decide)
 obtain ⟨cQ, cR, cT⟩ := pV (cN) (cz + cC) 0 (by decide)
 obtain ⟨cU, cV, cW⟩ := pW (ac * 9940570264628428797) (2210141511517208575)
 obtain ⟨cX, cY, cZ⟩ := pV (cV) (cQ) 0 (by decide)
 obtain ⟨da, db, dc⟩ := pV (cX) (cF + cI) 0 (by decide)
 obtain ⟨dd, de, df⟩ := pW (a / 18446744073709551616) (b / 340282366920938463463374607431768211456)
 obtain ⟨dh, di, dj⟩ := pV (de) (bF) 0 (by decide)
 obtain ⟨dk, dl, dm⟩ := pV (dh) (cK + cO + cR) 0 (by decide)
 obtain ⟨dn, dp, dq⟩ := pW (ac * 9940570264628428797) (7435674573564081700)
 obtain ⟨dr, dt, du⟩ := pV (dp) (dk) 0 (by decide)
 obtain ⟨dv, dw, dx⟩ := pV (dr) (cU + cY + db) 0 (by decide)
 obtain ⟨dy, dz, dD⟩ := pW (a / 18446744073709551616) (b / 6277101735386680763835789423207666416102355444464034512896)
 obtain ⟨dE, dF, dG⟩ := pV (dz) (bX) 0 (by decide)
 obtain ⟨dH, dI, dJ⟩ := pV (dE) (dd + di + dl) 0 (by decide)
 obtain ⟨dK, dL, dN⟩ := pW (ac * 9940570264628428797) (7239337960414712511)
 obtain ⟨dO, dP, dQ⟩ := pV (dL) (dH) 0 (by decide)
 obtain ⟨dR, dT, dU⟩ := pV (dO) (dn + dt + dw) 0 (by decide)
 obtain ⟨dV, dW, dX⟩ := pW (a / 18446744073709551616) (b / 115792089237316195423570985008687907853269984665640564039457584007913129639936)
 obtain ⟨dY, dZ, d9⟩ := pV (dW) (cv) 0 (by decide)
 obtain ⟨ea, ee, ef⟩ := pV (dY) (dy + dF + dI) 0 (by decide)
 obtain ⟨eh, ei, ej⟩ := pW (ac * 9940570264628428797) (5412103778470702295)
 obtain ⟨ek, eo, er⟩ := pV (ei) (ea) 0 (by decide)
 obtain ⟨eu, ew, ez⟩ := pV (ek) (dK + dP + dT) 0 (by decide)
 obtain ⟨eA, eB, eC⟩ := pW (a / 18446744073709551616) (b / 2135987035920910082395021706169552114602704522356652769947041607822219725780640550022962086936576)
 obtain ⟨eD, eE, eF⟩ := pV (eB) (cm + ct + cx + (b9 + cd + cg)) 0 (by decide)
 obtain ⟨eG, eH, eI⟩ := pV (eD) (dV + dZ + ee) 0 (by decide)
 obtain ⟨eJ, eK, eL⟩ := pW (ac * 9940570264628428797) (1873798617647539866)
 obtain ⟨eM, eN, eO⟩ := pV (eK) (eG) 0 (by decide)
 obtain ⟨eP, eQ, eR⟩ := pV (eM) (eh + eo + ew) 0 (by decide)
 obtain ⟨T2, Q1, hT2, hE1, hL2, hQ1⟩ := yx hT1 hB hL1 hb cB cD cH cJ cM cP cT cW cZ dc df dj dm dq du dx dD dG dJ dN dQ dU dX d9 ef ej er ez eC eF eI eL eO eR
 obtain ⟨eS, eT, eU⟩ := pW (a / 340282366920938463463374607431768211456) (b / 1)
 obtain ⟨ae, eV, eW⟩ := pV (eT) (da) 0 (by decide)
 obtain ⟨eX, eY, eZ⟩ := pW (ae * 9940570264628428797) (13402431016077863595)
 obtain ⟨oK, fa, fc⟩ := pV (eY) (ae) 0 (by decide)
 obtain ⟨fe, fg, fh⟩ := pW (a / 340282366920938463463374607431768211456) (b / 18446744073709551616)
 obtain ⟨fi, fj, fk⟩ := pV (fg) (dv) 0 (by decide)
 obtain ⟨fl, fm, fo⟩ := pV (fi) (eS + eV) 0 (by decide)
 obtain ⟨fq, ft, fu⟩ := pW (ae * 9940570264628428797) (2210141511517208575)
 obtain ⟨fw, fx, fy⟩ := pV (ft) (fl) 0 (by decide)
 obtain ⟨fA, fB, fC⟩ := pV (fw) (eX + fa) 0 (by decide)
 obtain ⟨fD, fE, fF⟩ := pW (a / 340282366920938463463374607431768211456) (b / 340282366920938463463374607431768211456)
 obtain ⟨fG, fH, fI⟩ := pV (fE) (dR) 0 (by decide)
 obtain ⟨fJ, fK, fL⟩ := pV (fG) (fe + fj + fm) 0 (by decide)
 obtain ⟨fM, fN, fO⟩ := pW (ae * 9940570264628428797) (7435674573564081700)
 obtain ⟨fP, fQ, fR⟩ := pV (fN) (fJ) 0 (by decide)
 obtain ⟨fS, fT, fU⟩ := pV (fP) (fq + fx + fB) 0 (by decide)
 obtain ⟨fV, fW, fX⟩ := pW (a / 340282366920938463463374607431768211456) (b / 6277101735386680763835789423207666416102355444464034512896)
 obtain ⟨fY, fZ, ga⟩ := pV (fW) (eu) 0 (by decide)
 obtain ⟨gb, gd, ge⟩ := pV (fY) (fD + fH + fK) 0 (by decide)
 obtain ⟨gg, gh, gk⟩ := pW (ae * 9940570264628428797) (7239337960414712511)
 obtain ⟨gl, gm, gn⟩ := pV (gh) (gb) 0 (by decide)
 obtain ⟨gp, gq, gt⟩ := pV (gl) (fM + fQ + fT) 0 (by decide)
 obtain ⟨gu, gv, gx⟩ := pW (a / 340282366920938463463374607431768211456) (b / 115792089237316195423570985008687907853269984665640564039457584007913129639936)
 obtain ⟨gy, gA, gD⟩ := pV (gv) (eP) 0 (by decide)
 obtain ⟨gF, gG, gH⟩ := pV (gy) (fV + fZ + gd) 0 (by decide)
 obtain ⟨gI, gJ, gK⟩ := pW (ae * 9940570264628428797) (5412103778470702295)
 obtain ⟨gL, gM, gO⟩ := pV (gJ) (gF) 0 (by decide)
 obtain ⟨gQ, gR, gT⟩ := pV (gL) (gg + gm + gq) 0 (by decide)
 obtain ⟨gU, gW, gX⟩ := pW (a / 340282366920938463463374607431768211456) (b / 2135987035920910082395021706169552114602704522356652769947041607822219725780640550022962086936576)
 obtain ⟨gY, gZ, hE⟩ := pV (gW) (eJ + eN + eQ + (eA + eE + eH)) 0 (by decide)
 obtain ⟨hG, hH, hI⟩ := pV (gY) (gu + gA + gG) 0 (by decide)
 obtain ⟨hJ, hM, hP⟩ := pW (ae * 9940570264628428797) (1873798617647539866)
 obtain ⟨hZ, ia, ib⟩ := pV (hM) (hG) 0 (by decide)
 obtain ⟨ic, ig, ii⟩ := pV (hZ) (gI + gM + gR) 0 (by decide)
 obtain ⟨T3, Q2, hT3, hE2, hL3, hQ2⟩ := yx hT2 hB hL2 hb eU eW eZ fc fh fk fo fu fy fC fF fI fL fO fR fU fX ga ge gk gn gt gx gD gH gK gO gT gX hE hI hP ib ii
 obtain ⟨ij, ik, il⟩ := pW (a / 6277101735386680763835789423207666416102355444464034512896) (b / 1)
 obtain ⟨af, im, io⟩ := pV (ik) (fA) 0 (by decide)
 obtain ⟨ip, iq, ir⟩ := pW (af * 9940570264628428797) (13402431016077863595)
 obtain ⟨oM, iu, iv⟩ := pV (iq) (af) 0 (by decide)
 obtain ⟨iw, ix, iy⟩ := pW (a / 6277101735386680763835789423207666416102355444464034512896) (b / 18446744073709551616)
 obtain ⟨iz, iA, iB⟩ := pV (ix) (fS) 0 (by decide)
 obtain ⟨iC, iD, iE⟩ := pV (iz) (ij + im) 0 (by decide)
 obtain ⟨iF, iG, iH⟩ := pW (af * 9940570264628428797) (2210141511517208575)
 obtain ⟨iI, iJ, iK⟩ := pV (iG) (iC) 0 (by decide)
 obtain ⟨iL, iM, iN⟩ := pV (iI) (ip + iu) 0 (by decide)
 obtain ⟨iO, iP, iQ⟩ := pW (a / 6277101735386680763835789423207666416102355444464034512896) (b / 340282366920938463463374607431768211456)
 obtain ⟨iR, iS, iT⟩ := pV (iP) (gp) 0 (by decide)
 obtain ⟨iU, iV, iW⟩ := pV (iR) (iw + iA + iD) 0 (by decide)
 obtain ⟨iX, iY, iZ⟩ := pW (af * 9940570264628428797) (7435674573564081700)
 obtain ⟨i6, i7, i8⟩ := pV (iY) (iU) 0 (by decide)
 obtain ⟨i9, ja, jb⟩ := pV (i6) (iF + iJ + iM) 0 (by decide)
 obtain ⟨jc, jd, je⟩ := pW (a / 6277101735386680763835789423207666416102355444464034512896) (b / 6277101735386680763835789423207666416102355444464034512896)
 obtain ⟨jf, jg, jh⟩ := pV (jd) (gQ) 0 (by decide)
 obtain ⟨ji, jj, jk⟩ := pV (jf) (iO + iS + iV) 0 (by decide)
 obtain ⟨jl, jm, jn⟩ := pW (af * 9940570264628428797) (7239337960414712511)
 obtain ⟨jo, jp, jq⟩ := pV (jm) (ji) 0 (by decide)
 obtain ⟨jr, js, jt⟩ := pV (jo) (iX + i7 + ja) 0 (by decide)
 obtain ⟨ju, jv, jw⟩ := pW (a / 6277101735386680763835789423207666416102355444464034512896) (b / 115792089237316195423570985008687907853269984665640564039457584007913129639936)
 obtain ⟨jx, jy, jz⟩ := pV (jv) (ic) 0 (by decide)
 obtain ⟨jA, jB, jC⟩ := pV (jx) (jc + jg + jj) 0 (by decide)
 obtain ⟨jD, jE, jF⟩ := pW (af * 9940570264628428797) (5412103778470702295)
 obtain ⟨jG, jH, jI⟩ := pV (jE) (jA) 0 (by decide)
 obtain ⟨jJ, jK, jL⟩ := pV (jG) (jl + jp + js) 0 (by decide)
 obtain ⟨jM, jN, jO⟩ := pW (a / 6277101735386680763835789423207666416102355444464034512896) (b / 2135987035920910082395021706169552114602704522356652769947041607822219725780640550022962086936576)
 obtain ⟨jP, jQ, jR⟩ := pV (jN) (hJ + ia + ig + (gU + gZ + hH)) 0 (by decide)
 obtain ⟨jS, jT, jU⟩ := pV (jP) (ju + jy + jB) 0 (by decide)
 obtain ⟨jV, jW, jX⟩ := pW (af * 9940570264628428797) (1873798617647539866)
 obtain ⟨jY, jZ, j0⟩ := pV (jW) (jS) 0 (by decide)
 obtain ⟨j7, j8, j9⟩ := pV (jY) (jD + jH + jK) 0 (by decide)
 obtain ⟨T4, Q3, hT4, hE3, hL4, hQ3⟩ := yx hT3 hB hL3 hb il io ir iv iy iB iE iH iK iN iQ iT iW iZ i8 jb je jh jk jn jq jt jw jz jC jF jI jL jO jR jU jX j0 j9
 obtain ⟨kg, ki, kj⟩ := pW (a / 115792089237316195423570985008687907853269984665640564039457584007913129639936) (b / 1)
 obtain ⟨ah, km, kn⟩ := pV (ki) (iL) 0 (by decide)
 obtain ⟨ko, kp, kq⟩ := pW (ah * 9940570264628428797) (13402431016077863595)
 obtain ⟨oO, kt, ku⟩ := pV (kp) (ah) 0 (by decide)
 obtain ⟨kv, kw, kx⟩ := pW (a / 115792089237316195423570985008687907853269984665640564039457584007913129639936) (b / 18446744073709551616)
 obtain ⟨kA, kB, kC⟩ := pV (kw) (i9) 0 (by decide)
 obtain ⟨kD, kE, kF⟩ := pV (kA) (kg + km) 0 (by decide)
 obtain ⟨kG, kH, kI⟩ := pW (ah * 9940570264628428797) (2210141511517208575)
 obtain ⟨kJ, kK, kL⟩ := pV (kH) (kD) 0 (by decide)
 obtain ⟨kM, kN, kO⟩ := pV (kJ) (ko + kt) 0 (by decide)
 obtain ⟨kP, kQ, kR⟩ := pW (a / 115792089237316195423570985008687907853269984665640564039457584007913129639936) (b / 340282366920938463463374607431768211456)
 obtain ⟨kT, kU, kV⟩ := pV (kQ) (jr) 0 (by decide)
 obtain ⟨kW, kX, kY⟩ := pV (kT) (kv + kB + kE) 0 (by decide)
 obtain ⟨kZ, la, lb⟩ := pW (ah * 9940570264628428797) (7435674573564081700)
 obtain ⟨lc, ld, lf⟩ := pV (la) (kW) 0 (by decide)
 obtain ⟨lg, lh, ll⟩ := pV (lc) (kG + kK + kN) 0 (by decide)
 obtain ⟨lm, ln, lq⟩ := pW (a / 115792089237316195423570985008687907853269984665640564039457584007913129639936) (b / 6277101735386680763835789423207666416102355444464034512896)
 obtain ⟨lr, ls, lu⟩ := pV (ln) (jJ) 0 (by decide)
 obtain ⟨lv, lw, lx⟩ := pV (lr) (kP + kU + kX) 0 (by decide)
 obtain ⟨ly, lz, lA⟩ := pW (ah * 9940570264628428797) (7239337960414712511)
 obtain ⟨lB, lC, lD⟩ := pV (lz) (lv) 0 (by decide)
 obtain ⟨lE, lF, lG⟩ := pV (lB) (kZ + ld + lh) 0 (by decide)
 obtain ⟨lH, lI, lJ⟩ := pW (a / 115792089237316195423570985008687907853269984665640564039457584007913129639936) (b / 115792089237316195423570985008687907853269984665640564039457584007913129639936)
 obtain ⟨lK, lL, lM⟩ := pV (lI) (j7) 0 (by decide)
 obtain ⟨lN, lO, lP⟩ := pV (lK) (lm + ls + lw) 0 (by decide)
 obtain ⟨lQ, lR, lS⟩ := pW (ah * 9940570264628428797) (5412103778470702295)
 obtain ⟨lT, lU, lV⟩ := pV (lR) (lN) 0 (by decide)
 obtain ⟨lW, lX, lY⟩ := pV (lT) (ly + lC + lF) 0 (by decide)
 obtain ⟨lZ, l6, l7⟩ := pW (a / 115792089237316195423570985008687907853269984665640564039457584007913129639936) (b / 2135987035920910082395021706169552114602704522356652769947041607822219725780640550022962086936576)
 obtain ⟨l8, l9, ma⟩ := pV (l6) (jV + jZ + j8 + (jM + jQ + jT)) 0 (by decide)
 obtain ⟨mb, mc, me⟩ := pV (l8) (lH + lL + lO) 0 (by decide)
 obtain ⟨mf, mg, mh⟩ := pW (ah * 9940570264628428797) (1873798617647539866)
 obtain ⟨mi, mj, ml⟩ := pV (mg) (mb) 0 (by decide)
 obtain ⟨mm, mo, mq⟩ := pV (mi) (lQ + lU + lX) 0 (by decide)
 obtain ⟨T5, Q4, hT5, hE4, hL5, hQ4⟩ := yx hT4 hB hL4 hb kj kn kq ku kx kC kF kI kL kO kR kV kY lb lf ll lq lu lx lA lD lG lJ lM lP lS lV lY l7 ma me mh ml mq
 obtain ⟨mr, ms, mt⟩ := pW (a / 2135987035920910082395021706169552114602704522356652769947041607822219725780640550022962086936576) (b / 1)
 obtain ⟨aj, mu, mv⟩ := pV (ms) (kM) 0 (by decide)
 obtain ⟨mw, my, mz⟩ := pW (aj * 9940570264628428797) (13402431016077863595)
 obtain ⟨oP, mA, mB⟩ := pV (my) (aj) 0 (by decide)
 obtain ⟨mC, mD, mE⟩ := pW (a / 2135987035920910082395021706169552114602704522356652769947041607822219725780640550022962086936576) (b / 18446744073709551616)
 obtain ⟨mF, mG, mH⟩ := pV (mD) (lg) 0 (by decide)
 obtain ⟨mI, mJ, mK⟩ := pV (mF) (mr + mu) 0 (by decide)
 obtain ⟨mL, mM, mN⟩ := pW (aj * 9940570264628428797) (2210141511517208575)
 obtain ⟨mO, mP, mQ⟩ := pV (mM) (mI) 0 (by decide)
 obtain ⟨mR, mS, mT⟩ := pV (mO) (mw + mA) 0 (by decide)
 obtain ⟨mU, mV, mW⟩ := pW (a / 2135987035920910082395021706169552114602704522356652769947041607822219725780640550022962086936576) (b / 340282366920938463463374607431768211456)
 obtain ⟨mX, mY, mZ⟩ := pV (mV) (lE) 0 (by decide)
 obtain ⟨na, ne, nf⟩ := pV (mX) (mC + mG + mJ) 0 (by decide)
 obtain ⟨ng, nh, nk⟩ := pW (aj * 9940570264628428797) (7435674573564081700)
 obtain ⟨nl, np, nq⟩ := pV (nh) (na) 0 (by decide)
 obtain ⟨nr, nt, nu⟩ := pV (nl) (mL + mP + mS) 0 (by decide)
 obtain ⟨nv, nw, nx⟩ := pW (a / 2135987035920910082395021706169552114602704522356652769947041607822219725780640550022962086936576) (b / 6277101735386680763835789423207666416102355444464034512896)
 obtain ⟨ny, nz, nA⟩ := pV (nw) (lW) 0 (by decide)
 obtain ⟨nB, nC, nD⟩ := pV (ny) (mU + mY + ne) 0 (by decide)
 obtain ⟨nE, nF, nG⟩ := pW (aj * 9940570264628428797) (7239337960414712511)
 obtain ⟨nH, nI, nJ⟩ := pV (nF) (nB) 0 (by decide)
 obtain ⟨nK, nL, nM⟩ := pV (nH) (ng + np + nt) 0 (by decide)
 obtain ⟨nN, nO, nP⟩ := pW (a / 2135987035920910082395021706169552114602704522356652769947041607822219725780640550022962086936576) (b / 115792089237316195423570985008687907853269984665640564039457584007913129639936)
 obtain ⟨nQ, nR, nS⟩ := pV (nO) (mm) 0 (by decide)
 obtain ⟨nT, nU, nW⟩ := pV (nQ) (nv + nz + nC) 0 (by decide)
 obtain ⟨nZ, n6, n7⟩ := pW (aj * 9940570264628428797) (5412103778470702295)
 obtain ⟨n8, n9, oa⟩ := pV (n6) (nT) 0 (by decide)
 obtain ⟨oc, od, oe⟩ := pV (n8) (nE + nI + nL) 0 (by decide)
 obtain ⟨og, oh, om⟩ := pW (a / 2135987035920910082395021706169552114602704522356652769947041607822219725780640550022962086936576) (b / 2135987035920910082395021706169552114602704522356652769947041607822219725780640550022962086936576)
 obtain ⟨oo, oq, ou⟩ := pV (oh) (mf + mj + mo + (lZ + l9 + mc)) 0 (by decide)
 obtain ⟨ow, ox, oy⟩ := pV (oo) (nN + nR + nU) 0 (by decide)
 obtain ⟨oz, oA, oB⟩ := pW (aj * 9940570264628428797) (1873798617647539866)
 obtain ⟨oC, oD, oE⟩ := pV (oA) (ow) 0 (by decide)
 obtain ⟨oF, oG, oH⟩ := pV (oC) (nZ + n9 + od) 0 (by decide)
 obtain ⟨T6, Q5, hT6, hE5, hL6, hQ5⟩ := yx hT5 hB hL5 hb mt mv mz mB mE mH mK mN mQ mT mW mZ nf nk nq nu nx nA nD nG nJ nM nP nS nW n7 oa oe om ou oy oB oE oH
 refine ⟨T6 % 4002409555221667393417789825735904156556882819939007885332058136124031650490837864442687629129015664037894272559787, Nat.mod_lt _ (by decide), Xt (Fl a ha) hE0 hE1 hE2 hE3 hE4 hE5, ?_⟩
 have hc : mR % 18446744073709551616 + 18446744073709551616 * (nr % 18446744073709551616 + 18446744073709551616 * (nK % 18446744073709551616 + 18446744073709551616 * (oc % 18446744073709551616 + 18446744073709551616 * (oF % 18446744073709551616 + 18446744073709551616 * ((oz + oD + oG + (og + oq + ox)) % 18446744073709551616 + 18446744073709551616 * (0)))))) < 2 * 4002409555221667393417789825735904156556882819939007885332058136124031650490837864442687629129015664037894272559787 := by rw [← hT6]; omega
 rw [hT6]
 exact pX (P := prog) (env := [tJ, vh, eNP]) ⟨rN, s6, Qb, tt0⟩ func61 0 (oN [(17, ak, al), (25, ab, an), (39, ap, aq), (47, oI, au), (59, ax, ay), (67, aB, aC), (79, aE, aF), (90, aH, aI), (98, aK, aL), (110, aN, aO), (123, aQ, aR), (131, aT, aU), (143, aW, aX), (154, aZ, ba), (162, bc, be), (174, bg, bh), (187, bm, bn), (195, bp, bq), (207, bu, bv), (218, bz, bA), (226, bC, bD), (238, bF, bG), (251, bI, bJ), (259, bL, bM), (271, bO, bP), (282, bR, bS), (290, bU, bV), (302, bX, bY), (315, b9, ca), (323, cc, cd), (335, cf, cg), (346, cm, co), (354, cr, ct), (366, cv, cx), (388, cz, cA), (396, ac, cC), (410, cF, cG), (418, oJ, cI), (430, cK, cL), (438, cN, cO), (450, cQ, cR), (461, cU, cV), (469, cX, cY), (481, da, db), (494, dd, de), (502, dh, di), (514, dk, dl), (525, dn, dp), (533, dr, dt), (545, dv, dw), (558, dy, dz), (566, dE, dF), (578, dH, dI), (589, dK, dL), (597, dO, dP), (609, dR, dT), (622, dV, dW), (630, dY, dZ), (642, ea, ee), (653, eh, ei), (661, ek, eo), (673, eu, ew), (686, eA, eB), (694, eD, eE), (706, eG, eH), (717, eJ, eK), (725, eM, eN), (737, eP, eQ), (759, eS, eT), (767, ae, eV), (781, eX, eY), (789, oK, fa), (801, fe, fg), (809, fi, fj), (821, fl, fm), (832, fq, ft), (840, fw, fx), (852, fA, fB), (865, fD, fE), (873, fG, fH), (885, fJ, fK), (896, fM, fN), (904, fP, fQ), (916, fS, fT), (929, fV, fW), (937, fY, fZ), (949, gb, gd), (960, gg, gh), (968, gl, gm), (980, gp, gq), (993, gu, gv), (1001, gy, gA), (1013, gF, gG), (1024, gI, gJ), (1032, gL, gM), (1044, gQ, gR), (1057, gU, gW), (1065, gY, gZ), (1077, hG, hH), (1088, hJ, hM), (1096, hZ, ia), (1108, ic, ig), (1130, ij, ik), (1138, af, im), (1152, ip, iq), (1160, oM, iu), (1172, iw, ix), (1180, iz, iA), (1192, iC, iD), (1203, iF, iG), (1211, iI, iJ), (1223, iL, iM), (1236, iO, iP), (1244, iR, iS), (1256, iU, iV), (1267, iX, iY), (1275, i6, i7), (1287, i9, ja), (1300, jc, jd), (1308, jf, jg), (1320, ji, jj), (1331, jl, jm), (1339, jo, jp), (1351, jr, js), (1364, ju, jv), (1372, jx, jy), (1384, jA, jB), (1395, jD, jE), (1403, jG, jH), (1415, jJ, jK), (1428, jM, jN), (1436, jP, jQ), (1448, jS, jT), (1459, jV, jW), (1467, jY, jZ), (1479, j7, j8), (1501, kg, ki), (1509, ah, km), (1523, ko, kp), (1531, oO, kt), (1543, kv, kw), (1551, kA, kB), (1563, kD, kE), (1574, kG, kH), (1582, kJ, kK), (1594, kM, kN), (1607, kP, kQ), (1615, kT, kU), (1627, kW, kX), (1638, kZ, la), (1646, lc, ld), (1658, lg, lh), (1671, lm, ln), (1679, lr, ls), (1691, lv, lw), (1702, ly, lz), (1710, lB, lC), (1722, lE, lF), (1735, lH, lI), (1743, lK, lL), (1755, lN, lO), (1766, lQ, lR), (1774, lT, lU), (1786, lW, lX), (1799, lZ, l6), (1807, l8, l9), (1819, mb, mc), (1830, mf, mg), (1838, mi, mj), (1850, mm, mo), (1872, mr, ms), (1880, aj, mu), (1894, mw, my), (1902, oP, mA), (1914, mC, mD), (1922, mF, mG), (1934, mI, mJ), (1945, mL, mM), (1953, mO, mP), (1965, mR, mS), (1978, mU, mV), (1986, mX, mY), (1998, na, ne), (2009, ng, nh), (2017, nl, np), (2029, nr, nt), (2042, nv, nw), (2050, ny, nz), (2062, nB, nC), (2073, nE, nF), (2081, nH, nI), (2093, nK, nL), (2106, nN, nO), (2114, nQ, nR), (2126, nT, nU), (2137, nZ, n6), (2145, n8, n9), (2157, oc, od), (2170, og, oh), (2178, oo, oq), (2190, ow, ox), (2201, oz, oA), (2209, oC, oD), (2221, oF, oG)] []) (by kernel_rfl) (ai hc (ai oH (ai oE (ai oB (ai oy (ai ou (ai om (ai oe (ai oa (ai n7 (ai nW (ai nS (ai nP (ai nM (ai nJ (ai nG (ai nD (ai nA (ai nx (ai nu (ai nq (ai nk (ai nf (ai mZ (ai mW (ai mT (ai mQ (ai mN (ai mK (ai mH (ai mE (ai mB (ai mz (ai mv (ai mt (ai mq (ai ml (ai mh (ai me (ai ma (ai l7 (ai lY (ai lV (ai lS (ai lP (ai lM (ai lJ (ai lG (ai lD (ai lA (ai lx (ai lu (ai lq (ai ll (ai lf (ai lb (ai kY (ai kV (ai kR (ai kO (ai kL (ai kI (ai kF (ai kC (ai kx (ai ku (ai kq (ai kn (ai kj (ai j9 (ai j0 (ai jX (ai jU (ai jR (ai jO (ai jL (ai jI (ai jF (ai jC (ai jz (ai jw (ai jt (ai jq (ai jn (ai jk (ai jh (ai je (ai jb (ai i8 (ai iZ (ai iW (ai iT (ai iQ (ai iN (ai iK (ai iH (ai iE (ai iB (ai iy (ai iv (ai ir (ai io (ai il (ai ii (ai ib (ai hP (ai hI (ai hE (ai gX (ai gT (ai gO (ai gK (ai gH (ai gD (ai gx (ai gt (ai gn (ai gk (ai ge (ai ga (ai fX (ai fU (ai fR (ai fO (ai fL (ai fI (ai fF (ai fC (ai fy (ai fu (ai fo (ai fk (ai fh (ai fc (ai eZ (ai eW (ai eU (ai eR (ai eO (ai eL (ai eI (ai eF (ai eC (ai ez (ai er (ai ej (ai ef (ai d9 (ai dX (ai dU (ai dQ (ai dN (ai dJ (ai dG (ai dD (ai dx (ai du (ai dq (ai dm (ai dj (ai df (ai dc (ai cZ (ai cW (ai cT (ai cP (ai cM (ai cJ (ai cH (ai cD (ai cB (ai cy (ai cu (ai cq (ai ck (ai ce (ai cb (ai bZ (ai bW (ai bT (ai bQ (ai bN (ai bK (ai bH (ai bE (ai bB (ai bx (ai br (ai bo (ai bl (ai bf (ai bb (ai aY (ai aV (ai aS (ai aP (ai aM (ai aJ (ai aG (ai aD (ai az (ai aw (ai ar (ai ao (ai am tt0)))))))))))))))))))))))))))))))))))))))))))))))))))))))))))))))))))))))))))))))))))))))))))))))))))))))))))))))))))))))))))))))))))))))))))))))))))))))))))))))))))))))))))))))))))))))))))))))))))))))))))))
end Go.Proofs.YtokjhbmmdmeafaaGreat
