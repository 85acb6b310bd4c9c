/- Pruned: ZhCoP. -/
import Derived.Test.YtobgpmclgacbmaaQHg
set_option linter.unusedSimpArgs false
set_option linter.unusedVariables false
set_option maxHeartbeats 4000000
namespace Go.Proofs.Ytobgpmclgacbmaa
open Go.Ev Go.RowKit

theorem joinP {P : Program} {f : FuncId} {args : List XV} {l : List Ch} {x : Nat} (h : Gives P f args (.ag l)) (hc : cells64 6 l = some (x, [])) : Gives P f args (.ag [.n 6 x]) :=
  h.same (join_val hc)

def eRP : Entry := entry0 45 [(none, .ag [.c (.int .u64 13402431016077863595), .c (.int .u64 2210141511517208575), .c (.int .u64 7435674573564081700), .c (.int .u64 7239337960414712511), .c (.int .u64 5412103778470702295), .c (.int .u64 1873798617647539866)])]
theorem eRP_ok : eRP.OK Try.prog := entry0_ok (fun args w => Go.Proofs.enters_of (P := Try.prog) Try.func45 (by kernel_rfl) rfl args w)
  (only (fn_gives (P := Try.prog) (env := []) trivial Try.func45 0 o0 (by kernel_rfl) trivial))

theorem redP (x : Nat) (hx : x < 2 * 4002409555221667393417789825735904156556882819939007885332058136124031650490837864442687629129015664037894272559787) : Gives Try.prog 49 [.t (.ag [.n 6 x])] (.ag [.n 6 (x % 4002409555221667393417789825735904156556882819939007885332058136124031650490837864442687629129015664037894272559787)]) := by
  obtain ⟨d0, k0, q0⟩ := sub_ex (x / 1) 13402431016077863595 0 (by decide)
  obtain ⟨d1, k1, q1⟩ := sub_ex (x / 18446744073709551616) 2210141511517208575 k0 q0.2.2.2
  obtain ⟨d2, k2, q2⟩ := sub_ex (x / 340282366920938463463374607431768211456) 7435674573564081700 k1 q1.2.2.2
  obtain ⟨d3, k3, q3⟩ := sub_ex (x / 6277101735386680763835789423207666416102355444464034512896) 7239337960414712511 k2 q2.2.2.2
  obtain ⟨d4, k4, q4⟩ := sub_ex (x / 115792089237316195423570985008687907853269984665640564039457584007913129639936) 5412103778470702295 k3 q3.2.2.2
  obtain ⟨d5, k5, q5⟩ := sub_ex (x / 2135987035920910082395021706169552114602704522356652769947041607822219725780640550022962086936576) 1873798617647539866 k4 q4.2.2.2
  obtain ⟨h1, h2, h3, h4⟩ := subs6 q0 q1 q2 q3 q4 q5
  rw [hor6 x (by omega)] at h1
  simp only [Nat.reduceMod, Nat.reduceMul, Nat.reduceAdd] at h1
  by_cases hk : k5 = 0
  · have hg := fn_gives (P := Try.prog) (env := [eSub64, eRP]) ⟨eSub64_ok, eRP_ok, trivial⟩ Try.func49 0 (oN [(19, d0, k0), (39, d1, k1), (59, d2, k2), (79, d3, k3), (99, d4, k4), (119, d5, k5)] [(130, 1)]) (args := [.t (.ag [.n 6 x])]) (r := .ag [.n 1 d0, .n 1 d1, .n 1 d2, .n 1 d3, .n 1 d4, .n 1 d5]) (by kernel_rfl)
      (And.intro (show decide (k5 % 18446744073709551616 = 0 % 18446744073709551616) = true by simp [hk]) (And.intro q5 (And.intro q4 (And.intro q3 (And.intro q2 (And.intro q1 (And.intro q0 trivial)))))))
    have hv : x % 4002409555221667393417789825735904156556882819939007885332058136124031650490837864442687629129015664037894272559787 = d0 % 18446744073709551616 + 18446744073709551616 * (d1 % 18446744073709551616 + 18446744073709551616 * (d2 % 18446744073709551616 + 18446744073709551616 * (d3 % 18446744073709551616 + 18446744073709551616 * (d4 % 18446744073709551616 + 18446744073709551616 * (d5 % 18446744073709551616 + 18446744073709551616 * (0)))))) := by
      rw [h2]
      generalize d0 + 18446744073709551616 * (d1 + 18446744073709551616 * (d2 + 18446744073709551616 * (d3 + 18446744073709551616 * (d4 + 18446744073709551616 * (d5 + 18446744073709551616 * (0)))))) = D at *
      clear hg q0 q1 q2 q3 q4 q5
      omega
    rw [hv]
    exact joinP hg rfl
  · have hg := fn_gives (P := Try.prog) (env := [eSub64, eRP]) ⟨eSub64_ok, eRP_ok, trivial⟩ Try.func49 0 (oN [(19, d0, k0), (39, d1, k1), (59, d2, k2), (79, d3, k3), (99, d4, k4), (119, d5, k5)] [(130, 2)]) (args := [.t (.ag [.n 6 x])]) (r := .ag [.n 6 x]) (by kernel_rfl)
      (And.intro (show decide (k5 % 18446744073709551616 = 0 % 18446744073709551616) = false by have h := q5.2.2.2; simp; omega) (And.intro q5 (And.intro q4 (And.intro q3 (And.intro q2 (And.intro q1 (And.intro q0 trivial)))))))
    have hv : x % 4002409555221667393417789825735904156556882819939007885332058136124031650490837864442687629129015664037894272559787 = x := by
      generalize d0 + 18446744073709551616 * (d1 + 18446744073709551616 * (d2 + 18446744073709551616 * (d3 + 18446744073709551616 * (d4 + 18446744073709551616 * (d5 + 18446744073709551616 * (0)))))) = D at *
      clear hg q0 q1 q2 q3 q4 q5
      omega
    rw [hv]
    exact hg

def eNP : Entry := entry1 49 parN6.x (fun x => [(some (x < 2 * 4002409555221667393417789825735904156556882819939007885332058136124031650490837864442687629129015664037894272559787), .ag [.n 6 (x % 4002409555221667393417789825735904156556882819939007885332058136124031650490837864442687629129015664037894272559787)])])
theorem eNP_ok : eNP.OK Try.prog := entry1_ok (fun args w => Go.Proofs.enters_of (P := Try.prog) Try.func49 (by kernel_rfl) rfl args w) (fun u c r hm hc => by
  simp only [List.mem_singleton, Prod.mk.injEq] at hm
  obtain ⟨rfl, rfl⟩ := hm
  exact redP u hc)

theorem plusPN (a b : Nat) (ha : a < 4002409555221667393417789825735904156556882819939007885332058136124031650490837864442687629129015664037894272559787) (hb : b < 4002409555221667393417789825735904156556882819939007885332058136124031650490837864442687629129015664037894272559787) : Gives Try.prog 23 [.t (.ag [.n 6 a]), .t (.ag [.n 6 b])] (.ag [.n 6 ((a + b) % 4002409555221667393417789825735904156556882819939007885332058136124031650490837864442687629129015664037894272559787)]) := by
  obtain ⟨d0, k0, q0⟩ := add_ex (a / 1) (b / 1) 0 (by decide)
  obtain ⟨d1, k1, q1⟩ := add_ex (a / 18446744073709551616) (b / 18446744073709551616) k0 q0.2.2.2
  obtain ⟨d2, k2, q2⟩ := add_ex (a / 340282366920938463463374607431768211456) (b / 340282366920938463463374607431768211456) k1 q1.2.2.2
  obtain ⟨d3, k3, q3⟩ := add_ex (a / 6277101735386680763835789423207666416102355444464034512896) (b / 6277101735386680763835789423207666416102355444464034512896) k2 q2.2.2.2
  obtain ⟨d4, k4, q4⟩ := add_ex (a / 115792089237316195423570985008687907853269984665640564039457584007913129639936) (b / 115792089237316195423570985008687907853269984665640564039457584007913129639936) k3 q3.2.2.2
  obtain ⟨d5, k5, q5⟩ := add_ex (a / 2135987035920910082395021706169552114602704522356652769947041607822219725780640550022962086936576) (b / 2135987035920910082395021706169552114602704522356652769947041607822219725780640550022962086936576) k4 q4.2.2.2
  obtain ⟨h1, h2, h3, h4⟩ := adds6 q0 q1 q2 q3 q4 q5
  rw [hor6 a (by omega), hor6 b (by omega)] at h1
  have hv : d0 % 18446744073709551616 + 18446744073709551616 * (d1 % 18446744073709551616 + 18446744073709551616 * (d2 % 18446744073709551616 + 18446744073709551616 * (d3 % 18446744073709551616 + 18446744073709551616 * (d4 % 18446744073709551616 + 18446744073709551616 * (d5 % 18446744073709551616 + 18446744073709551616 * (0)))))) = a + b := by
    rw [h2]
    generalize d0 + 18446744073709551616 * (d1 + 18446744073709551616 * (d2 + 18446744073709551616 * (d3 + 18446744073709551616 * (d4 + 18446744073709551616 * (d5 + 18446744073709551616 * (0)))))) = D at *
    clear q0 q1 q2 q3 q4 q5
    omega
  rw [← hv]
  exact fn_gives (P := Try.prog) (env := [eAdd64, eNP]) ⟨eAdd64_ok, eNP_ok, trivial⟩ Try.func23 0 (oN [(9, d0, k0), (21, d1, k1), (33, d2, k2), (45, d3, k3), (57, d4, k4), (69, d5, k5)] []) (by kernel_rfl)
    (And.intro (show d0 % 18446744073709551616 + 18446744073709551616 * (d1 % 18446744073709551616 + 18446744073709551616 * (d2 % 18446744073709551616 + 18446744073709551616 * (d3 % 18446744073709551616 + 18446744073709551616 * (d4 % 18446744073709551616 + 18446744073709551616 * (d5 % 18446744073709551616 + 18446744073709551616 * (0)))))) < 2 * 4002409555221667393417789825735904156556882819939007885332058136124031650490837864442687629129015664037894272559787 by rw [hv]; omega) (And.intro q5 (And.intro q4 (And.intro q3 (And.intro q2 (And.intro q1 (And.intro q0 trivial)))))))

theorem minusPN (a b : Nat) (ha : a < 4002409555221667393417789825735904156556882819939007885332058136124031650490837864442687629129015664037894272559787) (hb : b < 4002409555221667393417789825735904156556882819939007885332058136124031650490837864442687629129015664037894272559787) : Gives Try.prog 52 [.t (.ag [.n 6 a]), .t (.ag [.n 6 b])] (.ag [.n 6 ((a + (4002409555221667393417789825735904156556882819939007885332058136124031650490837864442687629129015664037894272559787 - b)) % 4002409555221667393417789825735904156556882819939007885332058136124031650490837864442687629129015664037894272559787)]) := by
  obtain ⟨d0, k0, q0⟩ := sub_ex (a / 1) (b / 1) 0 (by decide)
  obtain ⟨d1, k1, q1⟩ := sub_ex (a / 18446744073709551616) (b / 18446744073709551616) k0 q0.2.2.2
  obtain ⟨d2, k2, q2⟩ := sub_ex (a / 340282366920938463463374607431768211456) (b / 340282366920938463463374607431768211456) k1 q1.2.2.2
  obtain ⟨d3, k3, q3⟩ := sub_ex (a / 6277101735386680763835789423207666416102355444464034512896) (b / 6277101735386680763835789423207666416102355444464034512896) k2 q2.2.2.2
  obtain ⟨d4, k4, q4⟩ := sub_ex (a / 115792089237316195423570985008687907853269984665640564039457584007913129639936) (b / 115792089237316195423570985008687907853269984665640564039457584007913129639936) k3 q3.2.2.2
  obtain ⟨d5, k5, q5⟩ := sub_ex (a / 2135987035920910082395021706169552114602704522356652769947041607822219725780640550022962086936576) (b / 2135987035920910082395021706169552114602704522356652769947041607822219725780640550022962086936576) k4 q4.2.2.2
  obtain ⟨h1, h2, h3, h4⟩ := subs6 q0 q1 q2 q3 q4 q5
  rw [hor6 a (by omega), hor6 b (by omega)] at h1
  by_cases hk : k5 = 0
  · have hg := fn_gives (P := Try.prog) (env := [eSub64, eAdd64, eRP]) ⟨eSub64_ok, eAdd64_ok, eRP_ok, trivial⟩ Try.func52 0 (oN [(9, d0, k0), (21, d1, k1), (33, d2, k2), (45, d3, k3), (57, d4, k4), (69, d5, k5)] [(77, 1)]) (args := [.t (.ag [.n 6 a]), .t (.ag [.n 6 b])]) (r := .ag [.n 1 d0, .n 1 d1, .n 1 d2, .n 1 d3, .n 1 d4, .n 1 d5]) (by kernel_rfl)
      (And.intro (show decide (k5 % 18446744073709551616 = 0 % 18446744073709551616) = true by simp [hk]) (And.intro q5 (And.intro q4 (And.intro q3 (And.intro q2 (And.intro q1 (And.intro q0 trivial)))))))
    have hv : (a + (4002409555221667393417789825735904156556882819939007885332058136124031650490837864442687629129015664037894272559787 - b)) % 4002409555221667393417789825735904156556882819939007885332058136124031650490837864442687629129015664037894272559787 = d0 % 18446744073709551616 + 18446744073709551616 * (d1 % 18446744073709551616 + 18446744073709551616 * (d2 % 18446744073709551616 + 18446744073709551616 * (d3 % 18446744073709551616 + 18446744073709551616 * (d4 % 18446744073709551616 + 18446744073709551616 * (d5 % 18446744073709551616 + 18446744073709551616 * (0)))))) := by
      rw [h2]
      generalize d0 + 18446744073709551616 * (d1 + 18446744073709551616 * (d2 + 18446744073709551616 * (d3 + 18446744073709551616 * (d4 + 18446744073709551616 * (d5 + 18446744073709551616 * (0)))))) = D at *
      clear hg q0 q1 q2 q3 q4 q5
      omega
    rw [hv]
    exact joinP hg rfl
  · obtain ⟨s0, c0, w0⟩ := add_ex (d0 / 1) 13402431016077863595 0 (by decide)
    obtain ⟨s1, c1, w1⟩ := add_ex (d1 / 1) 2210141511517208575 c0 w0.2.2.2
    obtain ⟨s2, c2, w2⟩ := add_ex (d2 / 1) 7435674573564081700 c1 w1.2.2.2
    obtain ⟨s3, c3, w3⟩ := add_ex (d3 / 1) 7239337960414712511 c2 w2.2.2.2
    obtain ⟨s4, c4, w4⟩ := add_ex (d4 / 1) 5412103778470702295 c3 w3.2.2.2
    obtain ⟨s5, c5, w5⟩ := add_ex (d5 / 1) 1873798617647539866 c4 w4.2.2.2
    have hg := fn_gives (P := Try.prog) (env := [eSub64, eAdd64, eRP]) ⟨eSub64_ok, eAdd64_ok, eRP_ok, trivial⟩ Try.func52 0 (oN [(9, d0, k0), (21, d1, k1), (33, d2, k2), (45, d3, k3), (57, d4, k4), (69, d5, k5), (85, s0, c0), (97, s1, c1), (109, s2, c2), (121, s3, c3), (133, s4, c4), (145, s5, c5)] [(77, 2)]) (args := [.t (.ag [.n 6 a]), .t (.ag [.n 6 b])]) (r := .ag [.n 1 s0, .n 1 s1, .n 1 s2, .n 1 s3, .n 1 s4, .n 1 s5]) (by kernel_rfl)
      (And.intro w5 (And.intro w4 (And.intro w3 (And.intro w2 (And.intro w1 (And.intro w0 (And.intro (show decide (k5 % 18446744073709551616 = 0 % 18446744073709551616) = false by have h := q5.2.2.2; simp; omega) (And.intro q5 (And.intro q4 (And.intro q3 (And.intro q2 (And.intro q1 (And.intro q0 trivial)))))))))))))
    obtain ⟨g1, g2, g3, g4⟩ := adds6 w0 w1 w2 w3 w4 w5
    simp only [Nat.div_one, Nat.reduceMod, Nat.reduceMul, Nat.reduceAdd] at g1
    rw [h2] at g1
    have hv : (a + (4002409555221667393417789825735904156556882819939007885332058136124031650490837864442687629129015664037894272559787 - b)) % 4002409555221667393417789825735904156556882819939007885332058136124031650490837864442687629129015664037894272559787 = s0 % 18446744073709551616 + 18446744073709551616 * (s1 % 18446744073709551616 + 18446744073709551616 * (s2 % 18446744073709551616 + 18446744073709551616 * (s3 % 18446744073709551616 + 18446744073709551616 * (s4 % 18446744073709551616 + 18446744073709551616 * (s5 % 18446744073709551616 + 18446744073709551616 * (0)))))) := by
      rw [g2]
      generalize d0 + 18446744073709551616 * (d1 + 18446744073709551616 * (d2 + 18446744073709551616 * (d3 + 18446744073709551616 * (d4 + 18446744073709551616 * (d5 + 18446744073709551616 * (0)))))) = D at *
      generalize s0 + 18446744073709551616 * (s1 + 18446744073709551616 * (s2 + 18446744073709551616 * (s3 + 18446744073709551616 * (s4 + 18446744073709551616 * (s5 + 18446744073709551616 * (0)))))) = E at *
      clear hg q0 q1 q2 q3 q4 q5 w0 w1 w2 w3 w4 w5
      omega
    rw [hv]
    exact joinP hg rfl

theorem timesPN (a b : Nat) (ha : a < 39402006196394479212279040100143613805079739270465446667948293404245721771497210611414266254884915640806627990306816) (hb : b ≤ 4002409555221667393417789825735904156556882819939007885332058136124031650490837864442687629129015664037894272559787) : ∃ v, v < 4002409555221667393417789825735904156556882819939007885332058136124031650490837864442687629129015664037894272559787 ∧ (v * 39402006196394479212279040100143613805079739270465446667948293404245721771497210611414266254884915640806627990306816) % 4002409555221667393417789825735904156556882819939007885332058136124031650490837864442687629129015664037894272559787 = (a * b) % 4002409555221667393417789825735904156556882819939007885332058136124031650490837864442687629129015664037894272559787 ∧ Gives Try.prog 22 [.t (.ag [.n 6 a]), .t (.ag [.n 6 b])] (.ag [.n 6 v]) := by
  have hB := (hor6 b (by omega)).symm
  have hT0 : 0 = 0 % 18446744073709551616 + 18446744073709551616 * (0 % 18446744073709551616 + 18446744073709551616 * (0 % 18446744073709551616 + 18446744073709551616 * (0 % 18446744073709551616 + 18446744073709551616 * (0 % 18446744073709551616 + 18446744073709551616 * (0 % 18446744073709551616 + 18446744073709551616 * (0)))))) := by simp only [Nat.zero_mod, Nat.mul_zero, Nat.add_zero]
  obtain ⟨ap00, bp00, qp00⟩ := mul_ex (a / 1) (b / 1)
  obtain ⟨aa00, ba00, qa00⟩ := add_ex (bp00) (0) 0 (by decide)
  obtain ⟨ar00, br00, qr00⟩ := mul_ex (aa00 * 9940570264628428797) (13402431016077863595)
  obtain ⟨au00, bu00, qu00⟩ := add_ex (br00) (aa00) 0 (by decide)
  obtain ⟨ap10, bp10, qp10⟩ := mul_ex (a / 1) (b / 18446744073709551616)
  obtain ⟨aa10, ba10, qa10⟩ := add_ex (bp10) (0) 0 (by decide)
  obtain ⟨ai10, bi10, qi10⟩ := add_ex (aa10) (ap00 + ba00) 0 (by decide)
  obtain ⟨am10, bm10, qm10⟩ := mul_ex (aa00 * 9940570264628428797) (2210141511517208575)
  obtain ⟨an10, bn10, qn10⟩ := add_ex (bm10) (ai10) 0 (by decide)
  obtain ⟨ay10, by10, qy10⟩ := add_ex (an10) (ar00 + bu00) 0 (by decide)
  obtain ⟨ap20, bp20, qp20⟩ := mul_ex (a / 1) (b / 340282366920938463463374607431768211456)
  obtain ⟨aa20, ba20, qa20⟩ := add_ex (bp20) (0) 0 (by decide)
  obtain ⟨ai20, bi20, qi20⟩ := add_ex (aa20) (ap10 + ba10 + bi10) 0 (by decide)
  obtain ⟨am20, bm20, qm20⟩ := mul_ex (aa00 * 9940570264628428797) (7435674573564081700)
  obtain ⟨an20, bn20, qn20⟩ := add_ex (bm20) (ai20) 0 (by decide)
  obtain ⟨ay20, by20, qy20⟩ := add_ex (an20) (am10 + bn10 + by10) 0 (by decide)
  obtain ⟨ap30, bp30, qp30⟩ := mul_ex (a / 1) (b / 6277101735386680763835789423207666416102355444464034512896)
  obtain ⟨aa30, ba30, qa30⟩ := add_ex (bp30) (0) 0 (by decide)
  obtain ⟨ai30, bi30, qi30⟩ := add_ex (aa30) (ap20 + ba20 + bi20) 0 (by decide)
  obtain ⟨am30, bm30, qm30⟩ := mul_ex (aa00 * 9940570264628428797) (7239337960414712511)
  obtain ⟨an30, bn30, qn30⟩ := add_ex (bm30) (ai30) 0 (by decide)
  obtain ⟨ay30, by30, qy30⟩ := add_ex (an30) (am20 + bn20 + by20) 0 (by decide)
  obtain ⟨ap40, bp40, qp40⟩ := mul_ex (a / 1) (b / 115792089237316195423570985008687907853269984665640564039457584007913129639936)
  obtain ⟨aa40, ba40, qa40⟩ := add_ex (bp40) (0) 0 (by decide)
  obtain ⟨ai40, bi40, qi40⟩ := add_ex (aa40) (ap30 + ba30 + bi30) 0 (by decide)
  obtain ⟨am40, bm40, qm40⟩ := mul_ex (aa00 * 9940570264628428797) (5412103778470702295)
  obtain ⟨an40, bn40, qn40⟩ := add_ex (bm40) (ai40) 0 (by decide)
  obtain ⟨ay40, by40, qy40⟩ := add_ex (an40) (am30 + bn30 + by30) 0 (by decide)
  obtain ⟨ap50, bp50, qp50⟩ := mul_ex (a / 1) (b / 2135987035920910082395021706169552114602704522356652769947041607822219725780640550022962086936576)
  obtain ⟨aa50, ba50, qa50⟩ := add_ex (bp50) (0) 0 (by decide)
  obtain ⟨ai50, bi50, qi50⟩ := add_ex (aa50) (ap40 + ba40 + bi40) 0 (by decide)
  obtain ⟨am50, bm50, qm50⟩ := mul_ex (aa00 * 9940570264628428797) (1873798617647539866)
  obtain ⟨an50, bn50, qn50⟩ := add_ex (bm50) (ai50) 0 (by decide)
  obtain ⟨ay50, by50, qy50⟩ := add_ex (an50) (am40 + bn40 + by40) 0 (by decide)
  obtain ⟨T1, Q0, hT1, hE0, hL1, hQ0⟩ := roundAP hT0 hB (by omega) hb qp00 qa00 qr00 qu00 qp10 qa10 qi10 qm10 qn10 qy10 qp20 qa20 qi20 qm20 qn20 qy20 qp30 qa30 qi30 qm30 qn30 qy30 qp40 qa40 qi40 qm40 qn40 qy40 qp50 qa50 qi50 qm50 qn50 qy50
  obtain ⟨ap01, bp01, qp01⟩ := mul_ex (a / 18446744073709551616) (b / 1)
  obtain ⟨aa01, ba01, qa01⟩ := add_ex (bp01) (ay10) 0 (by decide)
  obtain ⟨ar01, br01, qr01⟩ := mul_ex (aa01 * 9940570264628428797) (13402431016077863595)
  obtain ⟨au01, bu01, qu01⟩ := add_ex (br01) (aa01) 0 (by decide)
  obtain ⟨ap11, bp11, qp11⟩ := mul_ex (a / 18446744073709551616) (b / 18446744073709551616)
  obtain ⟨aa11, ba11, qa11⟩ := add_ex (bp11) (ay20) 0 (by decide)
  obtain ⟨ai11, bi11, qi11⟩ := add_ex (aa11) (ap01 + ba01) 0 (by decide)
  obtain ⟨am11, bm11, qm11⟩ := mul_ex (aa01 * 9940570264628428797) (2210141511517208575)
  obtain ⟨an11, bn11, qn11⟩ := add_ex (bm11) (ai11) 0 (by decide)
  obtain ⟨ay11, by11, qy11⟩ := add_ex (an11) (ar01 + bu01) 0 (by decide)
  obtain ⟨ap21, bp21, qp21⟩ := mul_ex (a / 18446744073709551616) (b / 340282366920938463463374607431768211456)
  obtain ⟨aa21, ba21, qa21⟩ := add_ex (bp21) (ay30) 0 (by decide)
  obtain ⟨ai21, bi21, qi21⟩ := add_ex (aa21) (ap11 + ba11 + bi11) 0 (by decide)
  obtain ⟨am21, bm21, qm21⟩ := mul_ex (aa01 * 9940570264628428797) (7435674573564081700)
  obtain ⟨an21, bn21, qn21⟩ := add_ex (bm21) (ai21) 0 (by decide)
  obtain ⟨ay21, by21, qy21⟩ := add_ex (an21) (am11 + bn11 + by11) 0 (by decide)
  obtain ⟨ap31, bp31, qp31⟩ := mul_ex (a / 18446744073709551616) (b / 6277101735386680763835789423207666416102355444464034512896)
  obtain ⟨aa31, ba31, qa31⟩ := add_ex (bp31) (ay40) 0 (by decide)
  obtain ⟨ai31, bi31, qi31⟩ := add_ex (aa31) (ap21 + ba21 + bi21) 0 (by decide)
  obtain ⟨am31, bm31, qm31⟩ := mul_ex (aa01 * 9940570264628428797) (7239337960414712511)
  obtain ⟨an31, bn31, qn31⟩ := add_ex (bm31) (ai31) 0 (by decide)
  obtain ⟨ay31, by31, qy31⟩ := add_ex (an31) (am21 + bn21 + by21) 0 (by decide)
  obtain ⟨ap41, bp41, qp41⟩ := mul_ex (a / 18446744073709551616) (b / 115792089237316195423570985008687907853269984665640564039457584007913129639936)
  obtain ⟨aa41, ba41, qa41⟩ := add_ex (bp41) (ay50) 0 (by decide)
  obtain ⟨ai41, bi41, qi41⟩ := add_ex (aa41) (ap31 + ba31 + bi31) 0 (by decide)
  obtain ⟨am41, bm41, qm41⟩ := mul_ex (aa01 * 9940570264628428797) (5412103778470702295)
  obtain ⟨an41, bn41, qn41⟩ := add_ex (bm41) (ai41) 0 (by decide)
  obtain ⟨ay41, by41, qy41⟩ := add_ex (an41) (am31 + bn31 + by31) 0 (by decide)
  obtain ⟨ap51, bp51, qp51⟩ := mul_ex (a / 18446744073709551616) (b / 2135987035920910082395021706169552114602704522356652769947041607822219725780640550022962086936576)
  obtain ⟨aa51, ba51, qa51⟩ := add_ex (bp51) (am50 + bn50 + by50 + (ap50 + ba50 + bi50)) 0 (by decide)
  obtain ⟨ai51, bi51, qi51⟩ := add_ex (aa51) (ap41 + ba41 + bi41) 0 (by decide)
  obtain ⟨am51, bm51, qm51⟩ := mul_ex (aa01 * 9940570264628428797) (1873798617647539866)
  obtain ⟨an51, bn51, qn51⟩ := add_ex (bm51) (ai51) 0 (by decide)
  obtain ⟨ay51, by51, qy51⟩ := add_ex (an51) (am41 + bn41 + by41) 0 (by decide)
  obtain ⟨T2, Q1, hT2, hE1, hL2, hQ1⟩ := roundAP hT1 hB hL1 hb qp01 qa01 qr01 qu01 qp11 qa11 qi11 qm11 qn11 qy11 qp21 qa21 qi21 qm21 qn21 qy21 qp31 qa31 qi31 qm31 qn31 qy31 qp41 qa41 qi41 qm41 qn41 qy41 qp51 qa51 qi51 qm51 qn51 qy51
  obtain ⟨ap02, bp02, qp02⟩ := mul_ex (a / 340282366920938463463374607431768211456) (b / 1)
  obtain ⟨aa02, ba02, qa02⟩ := add_ex (bp02) (ay11) 0 (by decide)
  obtain ⟨ar02, br02, qr02⟩ := mul_ex (aa02 * 9940570264628428797) (13402431016077863595)
  obtain ⟨au02, bu02, qu02⟩ := add_ex (br02) (aa02) 0 (by decide)
  obtain ⟨ap12, bp12, qp12⟩ := mul_ex (a / 340282366920938463463374607431768211456) (b / 18446744073709551616)
  obtain ⟨aa12, ba12, qa12⟩ := add_ex (bp12) (ay21) 0 (by decide)
  obtain ⟨ai12, bi12, qi12⟩ := add_ex (aa12) (ap02 + ba02) 0 (by decide)
  obtain ⟨am12, bm12, qm12⟩ := mul_ex (aa02 * 9940570264628428797) (2210141511517208575)
  obtain ⟨an12, bn12, qn12⟩ := add_ex (bm12) (ai12) 0 (by decide)
  obtain ⟨ay12, by12, qy12⟩ := add_ex (an12) (ar02 + bu02) 0 (by decide)
  obtain ⟨ap22, bp22, qp22⟩ := mul_ex (a / 340282366920938463463374607431768211456) (b / 340282366920938463463374607431768211456)
  obtain ⟨aa22, ba22, qa22⟩ := add_ex (bp22) (ay31) 0 (by decide)
  obtain ⟨ai22, bi22, qi22⟩ := add_ex (aa22) (ap12 + ba12 + bi12) 0 (by decide)
  obtain ⟨am22, bm22, qm22⟩ := mul_ex (aa02 * 9940570264628428797) (7435674573564081700)
  obtain ⟨an22, bn22, qn22⟩ := add_ex (bm22) (ai22) 0 (by decide)
  obtain ⟨ay22, by22, qy22⟩ := add_ex (an22) (am12 + bn12 + by12) 0 (by decide)
  obtain ⟨ap32, bp32, qp32⟩ := mul_ex (a / 340282366920938463463374607431768211456) (b / 6277101735386680763835789423207666416102355444464034512896)
  obtain ⟨aa32, ba32, qa32⟩ := add_ex (bp32) (ay41) 0 (by decide)
  obtain ⟨ai32, bi32, qi32⟩ := add_ex (aa32) (ap22 + ba22 + bi22) 0 (by decide)
  obtain ⟨am32, bm32, qm32⟩ := mul_ex (aa02 * 9940570264628428797) (7239337960414712511)
  obtain ⟨an32, bn32, qn32⟩ := add_ex (bm32) (ai32) 0 (by decide)
  obtain ⟨ay32, by32, qy32⟩ := add_ex (an32) (am22 + bn22 + by22) 0 (by decide)
  obtain ⟨ap42, bp42, qp42⟩ := mul_ex (a / 340282366920938463463374607431768211456) (b / 115792089237316195423570985008687907853269984665640564039457584007913129639936)
  obtain ⟨aa42, ba42, qa42⟩ := add_ex (bp42) (ay51) 0 (by decide)
  obtain ⟨ai42, bi42, qi42⟩ := add_ex (aa42) (ap32 + ba32 + bi32) 0 (by decide)
  obtain ⟨am42, bm42, qm42⟩ := mul_ex (aa02 * 9940570264628428797) (5412103778470702295)
  obtain ⟨an42, bn42, qn42⟩ := add_ex (bm42) (ai42) 0 (by decide)
  obtain ⟨ay42, by42, qy42⟩ := add_ex (an42) (am32 + bn32 + by32) 0 (by decide)
  obtain ⟨ap52, bp52, qp52⟩ := mul_ex (a / 340282366920938463463374607431768211456) (b / 2135987035920910082395021706169552114602704522356652769947041607822219725780640550022962086936576)
  obtain ⟨aa52, ba52, qa52⟩ := add_ex (bp52) (am51 + bn51 + by51 + (ap51 + ba51 + bi51)) 0 (by decide)
  obtain ⟨ai52, bi52, qi52⟩ := add_ex (aa52) (ap42 + ba42 + bi42) 0 (by decide)
  obtain ⟨am52, bm52, qm52⟩ := mul_ex (aa02 * 9940570264628428797) (1873798617647539866)
  obtain ⟨an52, bn52, qn52⟩ := add_ex (bm52) (ai52) 0 (by decide)
  obtain ⟨ay52, by52, qy52⟩ := add_ex (an52) (am42 + bn42 + by42) 0 (by decide)
  obtain ⟨T3, Q2, hT3, hE2, hL3, hQ2⟩ := roundAP hT2 hB hL2 hb qp02 qa02 qr02 qu02 qp12 qa12 qi12 qm12 qn12 qy12 qp22 qa22 qi22 qm22 qn22 qy22 qp32 qa32 qi32 qm32 qn32 qy32 qp42 qa42 qi42 qm42 qn42 qy42 qp52 qa52 qi52 qm52 qn52 qy52
  obtain ⟨ap03, bp03, qp03⟩ := mul_ex (a / 6277101735386680763835789423207666416102355444464034512896) (b / 1)
  obtain ⟨aa03, ba03, qa03⟩ := add_ex (bp03) (ay12) 0 (by decide)
  obtain ⟨ar03, br03, qr03⟩ := mul_ex (aa03 * 9940570264628428797) (13402431016077863595)
  obtain ⟨au03, bu03, qu03⟩ := add_ex (br03) (aa03) 0 (by decide)
  obtain ⟨ap13, bp13, qp13⟩ := mul_ex (a / 6277101735386680763835789423207666416102355444464034512896) (b / 18446744073709551616)
  obtain ⟨aa13, ba13, qa13⟩ := add_ex (bp13) (ay22) 0 (by decide)
  obtain ⟨ai13, bi13, qi13⟩ := add_ex (aa13) (ap03 + ba03) 0 (by decide)
  obtain ⟨am13, bm13, qm13⟩ := mul_ex (aa03 * 9940570264628428797) (2210141511517208575)
  obtain ⟨an13, bn13, qn13⟩ := add_ex (bm13) (ai13) 0 (by decide)
  obtain ⟨ay13, by13, qy13⟩ := add_ex (an13) (ar03 + bu03) 0 (by decide)
  obtain ⟨ap23, bp23, qp23⟩ := mul_ex (a / 6277101735386680763835789423207666416102355444464034512896) (b / 340282366920938463463374607431768211456)
  obtain ⟨aa23, ba23, qa23⟩ := add_ex (bp23) (ay32) 0 (by decide)
  obtain ⟨ai23, bi23, qi23⟩ := add_ex (aa23) (ap13 + ba13 + bi13) 0 (by decide)
  obtain ⟨am23, bm23, qm23⟩ := mul_ex (aa03 * 9940570264628428797) (7435674573564081700)
  obtain ⟨an23, bn23, qn23⟩ := add_ex (bm23) (ai23) 0 (by decide)
  obtain ⟨ay23, by23, qy23⟩ := add_ex (an23) (am13 + bn13 + by13) 0 (by decide)
  obtain ⟨ap33, bp33, qp33⟩ := mul_ex (a / 6277101735386680763835789423207666416102355444464034512896) (b / 6277101735386680763835789423207666416102355444464034512896)
  obtain ⟨aa33, ba33, qa33⟩ := add_ex (bp33) (ay42) 0 (by decide)
  obtain ⟨ai33, bi33, qi33⟩ := add_ex (aa33) (ap23 + ba23 + bi23) 0 (by decide)
  obtain ⟨am33, bm33, qm33⟩ := mul_ex (aa03 * 9940570264628428797) (7239337960414712511)
  obtain ⟨an33, bn33, qn33⟩ := add_ex (bm33) (ai33) 0 (by decide)
  obtain ⟨ay33, by33, qy33⟩ := add_ex (an33) (am23 + bn23 + by23) 0 (by decide)
  obtain ⟨ap43, bp43, qp43⟩ := mul_ex (a / 6277101735386680763835789423207666416102355444464034512896) (b / 115792089237316195423570985008687907853269984665640564039457584007913129639936)
  obtain ⟨aa43, ba43, qa43⟩ := add_ex (bp43) (ay52) 0 (by decide)
  obtain ⟨ai43, bi43, qi43⟩ := add_ex (aa43) (ap33 + ba33 + bi33) 0 (by decide)
  obtain ⟨am43, bm43, qm43⟩ := mul_ex (aa03 * 9940570264628428797) (5412103778470702295)
  obtain ⟨an43, bn43, qn43⟩ := add_ex (bm43) (ai43) 0 (by decide)
  obtain ⟨ay43, by43, qy43⟩ := add_ex (an43) (am33 + bn33 + by33) 0 (by decide)
  obtain ⟨ap53, bp53, qp53⟩ := mul_ex (a / 6277101735386680763835789423207666416102355444464034512896) (b / 2135987035920910082395021706169552114602704522356652769947041607822219725780640550022962086936576)
  obtain ⟨aa53, ba53, qa53⟩ := add_ex (bp53) (am52 + bn52 + by52 + (ap52 + ba52 + bi52)) 0 (by decide)
  obtain ⟨ai53, bi53, qi53⟩ := add_ex (aa53) (ap43 + ba43 + bi43) 0 (by decide)
  obtain ⟨am53, bm53, qm53⟩ := mul_ex (aa03 * 9940570264628428797) (1873798617647539866)
  obtain ⟨an53, bn53, qn53⟩ := add_ex (bm53) (ai53) 0 (by decide)
  obtain ⟨ay53, by53, qy53⟩ := add_ex (an53) (am43 + bn43 + by43) 0 (by decide)
  obtain ⟨T4, Q3, hT4, hE3, hL4, hQ3⟩ := roundAP hT3 hB hL3 hb qp03 qa03 qr03 qu03 qp13 qa13 qi13 qm13 qn13 qy13 qp23 qa23 qi23 qm23 qn23 qy23 qp33 qa33 qi33 qm33 qn33 qy33 qp43 qa43 qi43 qm43 qn43 qy43 qp53 qa53 qi53 qm53 qn53 qy53
  obtain ⟨ap04, bp04, qp04⟩ := mul_ex (a / 115792089237316195423570985008687907853269984665640564039457584007913129639936) (b / 1)
  obtain ⟨aa04, ba04, qa04⟩ := add_ex (bp04) (ay13) 0 (by decide)
  obtain ⟨ar04, br04, qr04⟩ := mul_ex (aa04 * 9940570264628428797) (13402431016077863595)
  obtain ⟨au04, bu04, qu04⟩ := add_ex (br04) (aa04) 0 (by decide)
  obtain ⟨ap14, bp14, qp14⟩ := mul_ex (a / 115792089237316195423570985008687907853269984665640564039457584007913129639936) (b / 18446744073709551616)
  obtain ⟨aa14, ba14, qa14⟩ := add_ex (bp14) (ay23) 0 (by decide)
  obtain ⟨ai14, bi14, qi14⟩ := add_ex (aa14) (ap04 + ba04) 0 (by decide)
  obtain ⟨am14, bm14, qm14⟩ := mul_ex (aa04 * 9940570264628428797) (2210141511517208575)
  obtain ⟨an14, bn14, qn14⟩ := add_ex (bm14) (ai14) 0 (by decide)
  obtain ⟨ay14, by14, qy14⟩ := add_ex (an14) (ar04 + bu04) 0 (by decide)
  obtain ⟨ap24, bp24, qp24⟩ := mul_ex (a / 115792089237316195423570985008687907853269984665640564039457584007913129639936) (b / 340282366920938463463374607431768211456)
  obtain ⟨aa24, ba24, qa24⟩ := add_ex (bp24) (ay33) 0 (by decide)
  obtain ⟨ai24, bi24, qi24⟩ := add_ex (aa24) (ap14 + ba14 + bi14) 0 (by decide)
  obtain ⟨am24, bm24, qm24⟩ := mul_ex (aa04 * 9940570264628428797) (7435674573564081700)
  obtain ⟨an24, bn24, qn24⟩ := add_ex (bm24) (ai24) 0 (by decide)
  obtain ⟨ay24, by24, qy24⟩ := add_ex (an24) (am14 + bn14 + by14) 0 (by decide)
  obtain ⟨ap34, bp34, qp34⟩ := mul_ex (a / 115792089237316195423570985008687907853269984665640564039457584007913129639936) (b / 6277101735386680763835789423207666416102355444464034512896)
  obtain ⟨aa34, ba34, qa34⟩ := add_ex (bp34) (ay43) 0 (by decide)
  obtain ⟨ai34, bi34, qi34⟩ := add_ex (aa34) (ap24 + ba24 + bi24) 0 (by decide)
  obtain ⟨am34, bm34, qm34⟩ := mul_ex (aa04 * 9940570264628428797) (7239337960414712511)
  obtain ⟨an34, bn34, qn34⟩ := add_ex (bm34) (ai34) 0 (by decide)
  obtain ⟨ay34, by34, qy34⟩ := add_ex (an34) (am24 + bn24 + by24) 0 (by decide)
  obtain ⟨ap44, bp44, qp44⟩ := mul_ex (a / 115792089237316195423570985008687907853269984665640564039457584007913129639936) (b / 115792089237316195423570985008687907853269984665640564039457584007913129639936)
  obtain ⟨aa44, ba44, qa44⟩ := add_ex (bp44) (ay53) 0 (by decide)
  obtain ⟨ai44, bi44, qi44⟩ := add_ex (aa44) (ap34 + ba34 + bi34) 0 (by decide)
  obtain ⟨am44, bm44, qm44⟩ := mul_ex (aa04 * 9940570264628428797) (5412103778470702295)
  obtain ⟨an44, bn44, qn44⟩ := add_ex (bm44) (ai44) 0 (by decide)
  obtain ⟨ay44, by44, qy44⟩ := add_ex (an44) (am34 + bn34 + by34) 0 (by decide)
  obtain ⟨ap54, bp54, qp54⟩ := mul_ex (a / 115792089237316195423570985008687907853269984665640564039457584007913129639936) (b / 2135987035920910082395021706169552114602704522356652769947041607822219725780640550022962086936576)
  obtain ⟨aa54, ba54, qa54⟩ := add_ex (bp54) (am53 + bn53 + by53 + (ap53 + ba53 + bi53)) 0 (by decide)
  obtain ⟨ai54, bi54, qi54⟩ := add_ex (aa54) (ap44 + ba44 + bi44) 0 (by decide)
  obtain ⟨am54, bm54, qm54⟩ := mul_ex (aa04 * 9940570264628428797) (1873798617647539866)
  obtain ⟨an54, bn54, qn54⟩ := add_ex (bm54) (ai54) 0 (by decide)
  obtain ⟨ay54, by54, qy54⟩ := add_ex (an54) (am44 + bn44 + by44) 0 (by decide)
  obtain ⟨T5, Q4, hT5, hE4, hL5, hQ4⟩ := roundAP hT4 hB hL4 hb qp04 qa04 qr04 qu04 qp14 qa14 qi14 qm14 qn14 qy14 qp24 qa24 qi24 qm24 qn24 qy24 qp34 qa34 qi34 qm34 qn34 qy34 qp44 qa44 qi44 qm44 qn44 qy44 qp54 qa54 qi54 qm54 qn54 qy54
  obtain ⟨ap05, bp05, qp05⟩ := mul_ex (a / 2135987035920910082395021706169552114602704522356652769947041607822219725780640550022962086936576) (b / 1)
  obtain ⟨aa05, ba05, qa05⟩ := add_ex (bp05) (ay14) 0 (by decide)
  obtain ⟨ar05, br05, qr05⟩ := mul_ex (aa05 * 9940570264628428797) (13402431016077863595)
  obtain ⟨au05, bu05, qu05⟩ := add_ex (br05) (aa05) 0 (by decide)
  obtain ⟨ap15, bp15, qp15⟩ := mul_ex (a / 2135987035920910082395021706169552114602704522356652769947041607822219725780640550022962086936576) (b / 18446744073709551616)
  obtain ⟨aa15, ba15, qa15⟩ := add_ex (bp15) (ay24) 0 (by decide)
  obtain ⟨ai15, bi15, qi15⟩ := add_ex (aa15) (ap05 + ba05) 0 (by decide)
  obtain ⟨am15, bm15, qm15⟩ := mul_ex (aa05 * 9940570264628428797) (2210141511517208575)
  obtain ⟨an15, bn15, qn15⟩ := add_ex (bm15) (ai15) 0 (by decide)
  obtain ⟨ay15, by15, qy15⟩ := add_ex (an15) (ar05 + bu05) 0 (by decide)
  obtain ⟨ap25, bp25, qp25⟩ := mul_ex (a / 2135987035920910082395021706169552114602704522356652769947041607822219725780640550022962086936576) (b / 340282366920938463463374607431768211456)
  obtain ⟨aa25, ba25, qa25⟩ := add_ex (bp25) (ay34) 0 (by decide)
  obtain ⟨ai25, bi25, qi25⟩ := add_ex (aa25) (ap15 + ba15 + bi15) 0 (by decide)
  obtain ⟨am25, bm25, qm25⟩ := mul_ex (aa05 * 9940570264628428797) (7435674573564081700)
  obtain ⟨an25, bn25, qn25⟩ := add_ex (bm25) (ai25) 0 (by decide)
  obtain ⟨ay25, by25, qy25⟩ := add_ex (an25) (am15 + bn15 + by15) 0 (by decide)
  obtain ⟨ap35, bp35, qp35⟩ := mul_ex (a / 2135987035920910082395021706169552114602704522356652769947041607822219725780640550022962086936576) (b / 6277101735386680763835789423207666416102355444464034512896)
  obtain ⟨aa35, ba35, qa35⟩ := add_ex (bp35) (ay44) 0 (by decide)
  obtain ⟨ai35, bi35, qi35⟩ := add_ex (aa35) (ap25 + ba25 + bi25) 0 (by decide)
  obtain ⟨am35, bm35, qm35⟩ := mul_ex (aa05 * 9940570264628428797) (7239337960414712511)
  obtain ⟨an35, bn35, qn35⟩ := add_ex (bm35) (ai35) 0 (by decide)
  obtain ⟨ay35, by35, qy35⟩ := add_ex (an35) (am25 + bn25 + by25) 0 (by decide)
  obtain ⟨ap45, bp45, qp45⟩ := mul_ex (a / 2135987035920910082395021706169552114602704522356652769947041607822219725780640550022962086936576) (b / 115792089237316195423570985008687907853269984665640564039457584007913129639936)
  obtain ⟨aa45, ba45, qa45⟩ := add_ex (bp45) (ay54) 0 (by decide)
  obtain ⟨ai45, bi45, qi45⟩ := add_ex (aa45) (ap35 + ba35 + bi35) 0 (by decide)
  obtain ⟨am45, bm45, qm45⟩ := mul_ex (aa05 * 9940570264628428797) (5412103778470702295)
  obtain ⟨an45, bn45, qn45⟩ := add_ex (bm45) (ai45) 0 (by decide)
  obtain ⟨ay45, by45, qy45⟩ := add_ex (an45) (am35 + bn35 + by35) 0 (by decide)
  obtain ⟨ap55, bp55, qp55⟩ := mul_ex (a / 2135987035920910082395021706169552114602704522356652769947041607822219725780640550022962086936576) (b / 2135987035920910082395021706169552114602704522356652769947041607822219725780640550022962086936576)
  obtain ⟨aa55, ba55, qa55⟩ := add_ex (bp55) (am54 + bn54 + by54 + (ap54 + ba54 + bi54)) 0 (by decide)
  obtain ⟨ai55, bi55, qi55⟩ := add_ex (aa55) (ap45 + ba45 + bi45) 0 (by decide)
  obtain ⟨am55, bm55, qm55⟩ := mul_ex (aa05 * 9940570264628428797) (1873798617647539866)
  obtain ⟨an55, bn55, qn55⟩ := add_ex (bm55) (ai55) 0 (by decide)
  obtain ⟨ay55, by55, qy55⟩ := add_ex (an55) (am45 + bn45 + by45) 0 (by decide)
  obtain ⟨T6, Q5, hT6, hE5, hL6, hQ5⟩ := roundAP hT5 hB hL5 hb qp05 qa05 qr05 qu05 qp15 qa15 qi15 qm15 qn15 qy15 qp25 qa25 qi25 qm25 qn25 qy25 qp35 qa35 qi35 qm35 qn35 qy35 qp45 qa45 qi45 qm45 qn45 qy45 qp55 qa55 qi55 qm55 qn55 qy55
  refine ⟨T6 % 4002409555221667393417789825735904156556882819939007885332058136124031650490837864442687629129015664037894272559787, Nat.mod_lt _ (by decide), finP (hor6 a ha) hE0 hE1 hE2 hE3 hE4 hE5, ?_⟩
  have hc : ay15 % 18446744073709551616 + 18446744073709551616 * (ay25 % 18446744073709551616 + 18446744073709551616 * (ay35 % 18446744073709551616 + 18446744073709551616 * (ay45 % 18446744073709551616 + 18446744073709551616 * (ay55 % 18446744073709551616 + 18446744073709551616 * ((am55 + bn55 + by55 + (ap55 + ba55 + bi55)) % 18446744073709551616 + 18446744073709551616 * (0)))))) < 2 * 4002409555221667393417789825735904156556882819939007885332058136124031650490837864442687629129015664037894272559787 := by rw [← hT6]; omega
  rw [hT6]
  exact fn_gives (P := Try.prog) (env := [eAdd64, eMul64, eNP]) ⟨eAdd64_ok, eMul64_ok, eNP_ok, trivial⟩ Try.func22 0 (oN [(17, ap00, bp00), (25, aa00, ba00), (39, ar00, br00), (47, au00, bu00), (59, ap10, bp10), (67, aa10, ba10), (79, ai10, bi10), (90, am10, bm10), (98, an10, bn10), (110, ay10, by10), (123, ap20, bp20), (131, aa20, ba20), (143, ai20, bi20), (154, am20, bm20), (162, an20, bn20), (174, ay20, by20), (187, ap30, bp30), (195, aa30, ba30), (207, ai30, bi30), (218, am30, bm30), (226, an30, bn30), (238, ay30, by30), (251, ap40, bp40), (259, aa40, ba40), (271, ai40, bi40), (282, am40, bm40), (290, an40, bn40), (302, ay40, by40), (315, ap50, bp50), (323, aa50, ba50), (335, ai50, bi50), (346, am50, bm50), (354, an50, bn50), (366, ay50, by50), (388, ap01, bp01), (396, aa01, ba01), (410, ar01, br01), (418, au01, bu01), (430, ap11, bp11), (438, aa11, ba11), (450, ai11, bi11), (461, am11, bm11), (469, an11, bn11), (481, ay11, by11), (494, ap21, bp21), (502, aa21, ba21), (514, ai21, bi21), (525, am21, bm21), (533, an21, bn21), (545, ay21, by21), (558, ap31, bp31), (566, aa31, ba31), (578, ai31, bi31), (589, am31, bm31), (597, an31, bn31), (609, ay31, by31), (622, ap41, bp41), (630, aa41, ba41), (642, ai41, bi41), (653, am41, bm41), (661, an41, bn41), (673, ay41, by41), (686, ap51, bp51), (694, aa51, ba51), (706, ai51, bi51), (717, am51, bm51), (725, an51, bn51), (737, ay51, by51), (759, ap02, bp02), (767, aa02, ba02), (781, ar02, br02), (789, au02, bu02), (801, ap12, bp12), (809, aa12, ba12), (821, ai12, bi12), (832, am12, bm12), (840, an12, bn12), (852, ay12, by12), (865, ap22, bp22), (873, aa22, ba22), (885, ai22, bi22), (896, am22, bm22), (904, an22, bn22), (916, ay22, by22), (929, ap32, bp32), (937, aa32, ba32), (949, ai32, bi32), (960, am32, bm32), (968, an32, bn32), (980, ay32, by32), (993, ap42, bp42), (1001, aa42, ba42), (1013, ai42, bi42), (1024, am42, bm42), (1032, an42, bn42), (1044, ay42, by42), (1057, ap52, bp52), (1065, aa52, ba52), (1077, ai52, bi52), (1088, am52, bm52), (1096, an52, bn52), (1108, ay52, by52), (1130, ap03, bp03), (1138, aa03, ba03), (1152, ar03, br03), (1160, au03, bu03), (1172, ap13, bp13), (1180, aa13, ba13), (1192, ai13, bi13), (1203, am13, bm13), (1211, an13, bn13), (1223, ay13, by13), (1236, ap23, bp23), (1244, aa23, ba23), (1256, ai23, bi23), (1267, am23, bm23), (1275, an23, bn23), (1287, ay23, by23), (1300, ap33, bp33), (1308, aa33, ba33), (1320, ai33, bi33), (1331, am33, bm33), (1339, an33, bn33), (1351, ay33, by33), (1364, ap43, bp43), (1372, aa43, ba43), (1384, ai43, bi43), (1395, am43, bm43), (1403, an43, bn43), (1415, ay43, by43), (1428, ap53, bp53), (1436, aa53, ba53), (1448, ai53, bi53), (1459, am53, bm53), (1467, an53, bn53), (1479, ay53, by53), (1501, ap04, bp04), (1509, aa04, ba04), (1523, ar04, br04), (1531, au04, bu04), (1543, ap14, bp14), (1551, aa14, ba14), (1563, ai14, bi14), (1574, am14, bm14), (1582, an14, bn14), (1594, ay14, by14), (1607, ap24, bp24), (1615, aa24, ba24), (1627, ai24, bi24), (1638, am24, bm24), (1646, an24, bn24), (1658, ay24, by24), (1671, ap34, bp34), (1679, aa34, ba34), (1691, ai34, bi34), (1702, am34, bm34), (1710, an34, bn34), (1722, ay34, by34), (1735, ap44, bp44), (1743, aa44, ba44), (1755, ai44, bi44), (1766, am44, bm44), (1774, an44, bn44), (1786, ay44, by44), (1799, ap54, bp54), (1807, aa54, ba54), (1819, ai54, bi54), (1830, am54, bm54), (1838, an54, bn54), (1850, ay54, by54), (1872, ap05, bp05), (1880, aa05, ba05), (1894, ar05, br05), (1902, au05, bu05), (1914, ap15, bp15), (1922, aa15, ba15), (1934, ai15, bi15), (1945, am15, bm15), (1953, an15, bn15), (1965, ay15, by15), (1978, ap25, bp25), (1986, aa25, ba25), (1998, ai25, bi25), (2009, am25, bm25), (2017, an25, bn25), (2029, ay25, by25), (2042, ap35, bp35), (2050, aa35, ba35), (2062, ai35, bi35), (2073, am35, bm35), (2081, an35, bn35), (2093, ay35, by35), (2106, ap45, bp45), (2114, aa45, ba45), (2126, ai45, bi45), (2137, am45, bm45), (2145, an45, bn45), (2157, ay45, by45), (2170, ap55, bp55), (2178, aa55, ba55), (2190, ai55, bi55), (2201, am55, bm55), (2209, an55, bn55), (2221, ay55, by55)] []) (by kernel_rfl)
    (And.intro hc (And.intro qy55 (And.intro qn55 (And.intro qm55 (And.intro qi55 (And.intro qa55 (And.intro qp55 (And.intro qy45 (And.intro qn45 (And.intro qm45 (And.intro qi45 (And.intro qa45 (And.intro qp45 (And.intro qy35 (And.intro qn35 (And.intro qm35 (And.intro qi35 (And.intro qa35 (And.intro qp35 (And.intro qy25 (And.intro qn25 (And.intro qm25 (And.intro qi25 (And.intro qa25 (And.intro qp25 (And.intro qy15 (And.intro qn15 (And.intro qm15 (And.intro qi15 (And.intro qa15 (And.intro qp15 (And.intro qu05 (And.intro qr05 (And.intro qa05 (And.intro qp05 (And.intro qy54 (And.intro qn54 (And.intro qm54 (And.intro qi54 (And.intro qa54 (And.intro qp54 (And.intro qy44 (And.intro qn44 (And.intro qm44 (And.intro qi44 (And.intro qa44 (And.intro qp44 (And.intro qy34 (And.intro qn34 (And.intro qm34 (And.intro qi34 (And.intro qa34 (And.intro qp34 (And.intro qy24 (And.intro qn24 (And.intro qm24 (And.intro qi24 (And.intro qa24 (And.intro qp24 (And.intro qy14 (And.intro qn14 (And.intro qm14 (And.intro qi14 (And.intro qa14 (And.intro qp14 (And.intro qu04 (And.intro qr04 (And.intro qa04 (And.intro qp04 (And.intro qy53 (And.intro qn53 (And.intro qm53 (And.intro qi53 (And.intro qa53 (And.intro qp53 (And.intro qy43 (And.intro qn43 (And.intro qm43 (And.intro qi43 (And.intro qa43 (And.intro qp43 (And.intro qy33 (And.intro qn33 (And.intro qm33 (And.intro qi33 (And.intro qa33 (And.intro qp33 (And.intro qy23 (And.intro qn23 (And.intro qm23 (And.intro qi23 (And.intro qa23 (And.intro qp23 (And.intro qy13 (And.intro qn13 (And.intro qm13 (And.intro qi13 (And.intro qa13 (And.intro qp13 (And.intro qu03 (And.intro qr03 (And.intro qa03 (And.intro qp03 (And.intro qy52 (And.intro qn52 (And.intro qm52 (And.intro qi52 (And.intro qa52 (And.intro qp52 (And.intro qy42 (And.intro qn42 (And.intro qm42 (And.intro qi42 (And.intro qa42 (And.intro qp42 (And.intro qy32 (And.intro qn32 (And.intro qm32 (And.intro qi32 (And.intro qa32 (And.intro qp32 (And.intro qy22 (And.intro qn22 (And.intro qm22 (And.intro qi22 (And.intro qa22 (And.intro qp22 (And.intro qy12 (And.intro qn12 (And.intro qm12 (And.intro qi12 (And.intro qa12 (And.intro qp12 (And.intro qu02 (And.intro qr02 (And.intro qa02 (And.intro qp02 (And.intro qy51 (And.intro qn51 (And.intro qm51 (And.intro qi51 (And.intro qa51 (And.intro qp51 (And.intro qy41 (And.intro qn41 (And.intro qm41 (And.intro qi41 (And.intro qa41 (And.intro qp41 (And.intro qy31 (And.intro qn31 (And.intro qm31 (And.intro qi31 (And.intro qa31 (And.intro qp31 (And.intro qy21 (And.intro qn21 (And.intro qm21 (And.intro qi21 (And.intro qa21 (And.intro qp21 (And.intro qy11 (And.intro qn11 (And.intro qm11 (And.intro qi11 (And.intro qa11 (And.intro qp11 (And.intro qu01 (And.intro qr01 (And.intro qa01 (And.intro qp01 (And.intro qy50 (And.intro qn50 (And.intro qm50 (And.intro qi50 (And.intro qa50 (And.intro qp50 (And.intro qy40 (And.intro qn40 (And.intro qm40 (And.intro qi40 (And.intro qa40 (And.intro qp40 (And.intro qy30 (And.intro qn30 (And.intro qm30 (And.intro qi30 (And.intro qa30 (And.intro qp30 (And.intro qy20 (And.intro qn20 (And.intro qm20 (And.intro qi20 (And.intro qa20 (And.intro qp20 (And.intro qy10 (And.intro qn10 (And.intro qm10 (And.intro qi10 (And.intro qa10 (And.intro qp10 (And.intro qu00 (And.intro qr00 (And.intro qa00 (And.intro qp00 trivial)))))))))))))))))))))))))))))))))))))))))))))))))))))))))))))))))))))))))))))))))))))))))))))))))))))))))))))))))))))))))))))))))))))))))))))))))))))))))))))))))))))))))))))))))))))))))))))))))))))))))))))

end Go.Proofs.Ytobgpmclgacbmaa
