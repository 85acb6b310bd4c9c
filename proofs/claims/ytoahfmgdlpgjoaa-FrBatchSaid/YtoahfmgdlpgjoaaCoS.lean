/- Contracts of core's S: the sum, the difference, the product, the way in and out. -/
import Derived.Test.YtoahfmgdlpgjoaaLow
set_option linter.unusedSimpArgs false
set_option linter.unusedVariables false
set_option maxHeartbeats 4000000
namespace Go.Proofs.Ytoahfmgdlpgjoaa
open Go.Ev Go.RowKit

theorem joinS {P : Program} {f : FuncId} {args : List XV} {l : List Ch} {x : Nat} (h : Gives P f args (.ag l)) (hc : cells64 4 l = some (x, [])) : Gives P f args (.ag [.n 4 x]) :=
  h.same (join_val hc)

def eRS : Entry := entry0 49 [(none, .ag [.c (.int .u64 18446744069414584321), .c (.int .u64 6034159408538082302), .c (.int .u64 3691218898639771653), .c (.int .u64 8353516859464449352)])]
theorem eRS_ok : eRS.OK Try.prog := entry0_ok (fun args w => Go.Proofs.enters_of (P := Try.prog) Try.func49 (by kernel_rfl) rfl args w)
  (only (fn_gives (P := Try.prog) (env := []) trivial Try.func49 0 o0 (by kernel_rfl) trivial))

theorem redS (x : Nat) (hx : x < 2 * 52435875175126190479447740508185965837690552500527637822603658699938581184513) : Gives Try.prog 63 [.t (.ag [.n 4 x])] (.ag [.n 4 (x % 52435875175126190479447740508185965837690552500527637822603658699938581184513)]) := by
  obtain ⟨d0, k0, q0⟩ := sub_ex (x / 1) 18446744069414584321 0 (by decide)
  obtain ⟨d1, k1, q1⟩ := sub_ex (x / 18446744073709551616) 6034159408538082302 k0 q0.2.2.2
  obtain ⟨d2, k2, q2⟩ := sub_ex (x / 340282366920938463463374607431768211456) 3691218898639771653 k1 q1.2.2.2
  obtain ⟨d3, k3, q3⟩ := sub_ex (x / 6277101735386680763835789423207666416102355444464034512896) 8353516859464449352 k2 q2.2.2.2
  obtain ⟨h1, h2, h3, h4⟩ := subs4 q0 q1 q2 q3
  rw [hor4 x (by omega)] at h1
  simp only [Nat.reduceMod, Nat.reduceMul, Nat.reduceAdd] at h1
  by_cases hk : k3 = 0
  · have hg := fn_gives (P := Try.prog) (env := [eSub64, eRS]) ⟨eSub64_ok, eRS_ok, trivial⟩ Try.func63 0 (oN [(19, d0, k0), (39, d1, k1), (59, d2, k2), (79, d3, k3)] [(90, 1)]) (args := [.t (.ag [.n 4 x])]) (r := .ag [.n 1 d0, .n 1 d1, .n 1 d2, .n 1 d3]) (by kernel_rfl)
      (And.intro (show decide (k3 % 18446744073709551616 = 0 % 18446744073709551616) = true by simp [hk]) (And.intro q3 (And.intro q2 (And.intro q1 (And.intro q0 trivial)))))
    have hv : x % 52435875175126190479447740508185965837690552500527637822603658699938581184513 = d0 % 18446744073709551616 + 18446744073709551616 * (d1 % 18446744073709551616 + 18446744073709551616 * (d2 % 18446744073709551616 + 18446744073709551616 * (d3 % 18446744073709551616 + 18446744073709551616 * (0)))) := by
      rw [h2]
      generalize d0 + 18446744073709551616 * (d1 + 18446744073709551616 * (d2 + 18446744073709551616 * (d3 + 18446744073709551616 * (0)))) = D at *
      clear hg q0 q1 q2 q3
      omega
    rw [hv]
    exact joinS hg rfl
  · have hg := fn_gives (P := Try.prog) (env := [eSub64, eRS]) ⟨eSub64_ok, eRS_ok, trivial⟩ Try.func63 0 (oN [(19, d0, k0), (39, d1, k1), (59, d2, k2), (79, d3, k3)] [(90, 2)]) (args := [.t (.ag [.n 4 x])]) (r := .ag [.n 4 x]) (by kernel_rfl)
      (And.intro (show decide (k3 % 18446744073709551616 = 0 % 18446744073709551616) = false by have h := q3.2.2.2; simp; omega) (And.intro q3 (And.intro q2 (And.intro q1 (And.intro q0 trivial)))))
    have hv : x % 52435875175126190479447740508185965837690552500527637822603658699938581184513 = x := by
      generalize d0 + 18446744073709551616 * (d1 + 18446744073709551616 * (d2 + 18446744073709551616 * (d3 + 18446744073709551616 * (0)))) = D at *
      clear hg q0 q1 q2 q3
      omega
    rw [hv]
    exact hg

def eNS : Entry := entry1 63 parN4.x (fun x => [(some (x < 2 * 52435875175126190479447740508185965837690552500527637822603658699938581184513), .ag [.n 4 (x % 52435875175126190479447740508185965837690552500527637822603658699938581184513)])])
theorem eNS_ok : eNS.OK Try.prog := entry1_ok (fun args w => Go.Proofs.enters_of (P := Try.prog) Try.func63 (by kernel_rfl) rfl args w) (fun u c r hm hc => by
  simp only [List.mem_singleton, Prod.mk.injEq] at hm
  obtain ⟨rfl, rfl⟩ := hm
  exact redS u hc)

theorem plusSN (a b : Nat) (ha : a < 52435875175126190479447740508185965837690552500527637822603658699938581184513) (hb : b < 52435875175126190479447740508185965837690552500527637822603658699938581184513) : Gives Try.prog 45 [.t (.ag [.n 4 a]), .t (.ag [.n 4 b])] (.ag [.n 4 ((a + b) % 52435875175126190479447740508185965837690552500527637822603658699938581184513)]) := by
  obtain ⟨d0, k0, q0⟩ := add_ex (a / 1) (b / 1) 0 (by decide)
  obtain ⟨d1, k1, q1⟩ := add_ex (a / 18446744073709551616) (b / 18446744073709551616) k0 q0.2.2.2
  obtain ⟨d2, k2, q2⟩ := add_ex (a / 340282366920938463463374607431768211456) (b / 340282366920938463463374607431768211456) k1 q1.2.2.2
  obtain ⟨d3, k3, q3⟩ := add_ex (a / 6277101735386680763835789423207666416102355444464034512896) (b / 6277101735386680763835789423207666416102355444464034512896) k2 q2.2.2.2
  obtain ⟨h1, h2, h3, h4⟩ := adds4 q0 q1 q2 q3
  rw [hor4 a (by omega), hor4 b (by omega)] at h1
  have hv : d0 % 18446744073709551616 + 18446744073709551616 * (d1 % 18446744073709551616 + 18446744073709551616 * (d2 % 18446744073709551616 + 18446744073709551616 * (d3 % 18446744073709551616 + 18446744073709551616 * (0)))) = a + b := by
    rw [h2]
    generalize d0 + 18446744073709551616 * (d1 + 18446744073709551616 * (d2 + 18446744073709551616 * (d3 + 18446744073709551616 * (0)))) = D at *
    clear q0 q1 q2 q3
    omega
  rw [← hv]
  exact fn_gives (P := Try.prog) (env := [eAdd64, eNS]) ⟨eAdd64_ok, eNS_ok, trivial⟩ Try.func45 0 (oN [(9, d0, k0), (21, d1, k1), (33, d2, k2), (45, d3, k3)] []) (by kernel_rfl)
    (And.intro (show d0 % 18446744073709551616 + 18446744073709551616 * (d1 % 18446744073709551616 + 18446744073709551616 * (d2 % 18446744073709551616 + 18446744073709551616 * (d3 % 18446744073709551616 + 18446744073709551616 * (0)))) < 2 * 52435875175126190479447740508185965837690552500527637822603658699938581184513 by rw [hv]; omega) (And.intro q3 (And.intro q2 (And.intro q1 (And.intro q0 trivial)))))

theorem minusSN (a b : Nat) (ha : a < 52435875175126190479447740508185965837690552500527637822603658699938581184513) (hb : b < 52435875175126190479447740508185965837690552500527637822603658699938581184513) : Gives Try.prog 76 [.t (.ag [.n 4 a]), .t (.ag [.n 4 b])] (.ag [.n 4 ((a + (52435875175126190479447740508185965837690552500527637822603658699938581184513 - b)) % 52435875175126190479447740508185965837690552500527637822603658699938581184513)]) := by
  obtain ⟨d0, k0, q0⟩ := sub_ex (a / 1) (b / 1) 0 (by decide)
  obtain ⟨d1, k1, q1⟩ := sub_ex (a / 18446744073709551616) (b / 18446744073709551616) k0 q0.2.2.2
  obtain ⟨d2, k2, q2⟩ := sub_ex (a / 340282366920938463463374607431768211456) (b / 340282366920938463463374607431768211456) k1 q1.2.2.2
  obtain ⟨d3, k3, q3⟩ := sub_ex (a / 6277101735386680763835789423207666416102355444464034512896) (b / 6277101735386680763835789423207666416102355444464034512896) k2 q2.2.2.2
  obtain ⟨h1, h2, h3, h4⟩ := subs4 q0 q1 q2 q3
  rw [hor4 a (by omega), hor4 b (by omega)] at h1
  by_cases hk : k3 = 0
  · have hg := fn_gives (P := Try.prog) (env := [eSub64, eAdd64, eRS]) ⟨eSub64_ok, eAdd64_ok, eRS_ok, trivial⟩ Try.func76 0 (oN [(9, d0, k0), (21, d1, k1), (33, d2, k2), (45, d3, k3)] [(53, 1)]) (args := [.t (.ag [.n 4 a]), .t (.ag [.n 4 b])]) (r := .ag [.n 1 d0, .n 1 d1, .n 1 d2, .n 1 d3]) (by kernel_rfl)
      (And.intro (show decide (k3 % 18446744073709551616 = 0 % 18446744073709551616) = true by simp [hk]) (And.intro q3 (And.intro q2 (And.intro q1 (And.intro q0 trivial)))))
    have hv : (a + (52435875175126190479447740508185965837690552500527637822603658699938581184513 - b)) % 52435875175126190479447740508185965837690552500527637822603658699938581184513 = d0 % 18446744073709551616 + 18446744073709551616 * (d1 % 18446744073709551616 + 18446744073709551616 * (d2 % 18446744073709551616 + 18446744073709551616 * (d3 % 18446744073709551616 + 18446744073709551616 * (0)))) := by
      rw [h2]
      generalize d0 + 18446744073709551616 * (d1 + 18446744073709551616 * (d2 + 18446744073709551616 * (d3 + 18446744073709551616 * (0)))) = D at *
      clear hg q0 q1 q2 q3
      omega
    rw [hv]
    exact joinS hg rfl
  · obtain ⟨s0, c0, w0⟩ := add_ex (d0 / 1) 18446744069414584321 0 (by decide)
    obtain ⟨s1, c1, w1⟩ := add_ex (d1 / 1) 6034159408538082302 c0 w0.2.2.2
    obtain ⟨s2, c2, w2⟩ := add_ex (d2 / 1) 3691218898639771653 c1 w1.2.2.2
    obtain ⟨s3, c3, w3⟩ := add_ex (d3 / 1) 8353516859464449352 c2 w2.2.2.2
    have hg := fn_gives (P := Try.prog) (env := [eSub64, eAdd64, eRS]) ⟨eSub64_ok, eAdd64_ok, eRS_ok, trivial⟩ Try.func76 0 (oN [(9, d0, k0), (21, d1, k1), (33, d2, k2), (45, d3, k3), (61, s0, c0), (73, s1, c1), (85, s2, c2), (97, s3, c3)] [(53, 2)]) (args := [.t (.ag [.n 4 a]), .t (.ag [.n 4 b])]) (r := .ag [.n 1 s0, .n 1 s1, .n 1 s2, .n 1 s3]) (by kernel_rfl)
      (And.intro w3 (And.intro w2 (And.intro w1 (And.intro w0 (And.intro (show decide (k3 % 18446744073709551616 = 0 % 18446744073709551616) = false by have h := q3.2.2.2; simp; omega) (And.intro q3 (And.intro q2 (And.intro q1 (And.intro q0 trivial)))))))))
    obtain ⟨g1, g2, g3, g4⟩ := adds4 w0 w1 w2 w3
    simp only [Nat.div_one, Nat.reduceMod, Nat.reduceMul, Nat.reduceAdd] at g1
    rw [h2] at g1
    have hv : (a + (52435875175126190479447740508185965837690552500527637822603658699938581184513 - b)) % 52435875175126190479447740508185965837690552500527637822603658699938581184513 = s0 % 18446744073709551616 + 18446744073709551616 * (s1 % 18446744073709551616 + 18446744073709551616 * (s2 % 18446744073709551616 + 18446744073709551616 * (s3 % 18446744073709551616 + 18446744073709551616 * (0)))) := by
      rw [g2]
      generalize d0 + 18446744073709551616 * (d1 + 18446744073709551616 * (d2 + 18446744073709551616 * (d3 + 18446744073709551616 * (0)))) = D at *
      generalize s0 + 18446744073709551616 * (s1 + 18446744073709551616 * (s2 + 18446744073709551616 * (s3 + 18446744073709551616 * (0)))) = E at *
      clear hg q0 q1 q2 q3 w0 w1 w2 w3
      omega
    rw [hv]
    exact joinS hg rfl

theorem timesSN (a b : Nat) (ha : a < 115792089237316195423570985008687907853269984665640564039457584007913129639936) (hb : b ≤ 52435875175126190479447740508185965837690552500527637822603658699938581184513) : ∃ v, v < 52435875175126190479447740508185965837690552500527637822603658699938581184513 ∧ (v * 115792089237316195423570985008687907853269984665640564039457584007913129639936) % 52435875175126190479447740508185965837690552500527637822603658699938581184513 = (a * b) % 52435875175126190479447740508185965837690552500527637822603658699938581184513 ∧ Gives Try.prog 44 [.t (.ag [.n 4 a]), .t (.ag [.n 4 b])] (.ag [.n 4 v]) := by
  have hB := (hor4 b (by omega)).symm
  have hT0 : 0 = 0 % 18446744073709551616 + 18446744073709551616 * (0 % 18446744073709551616 + 18446744073709551616 * (0 % 18446744073709551616 + 18446744073709551616 * (0 % 18446744073709551616 + 18446744073709551616 * (0)))) := by simp only [Nat.zero_mod, Nat.mul_zero, Nat.add_zero]
  obtain ⟨ap00, bp00, qp00⟩ := mul_ex (a / 1) (b / 1)
  obtain ⟨aa00, ba00, qa00⟩ := add_ex (bp00) (0) 0 (by decide)
  obtain ⟨ar00, br00, qr00⟩ := mul_ex (aa00 * 18446744069414584319) (18446744069414584321)
  obtain ⟨au00, bu00, qu00⟩ := add_ex (br00) (aa00) 0 (by decide)
  obtain ⟨ap10, bp10, qp10⟩ := mul_ex (a / 1) (b / 18446744073709551616)
  obtain ⟨aa10, ba10, qa10⟩ := add_ex (bp10) (0) 0 (by decide)
  obtain ⟨ai10, bi10, qi10⟩ := add_ex (aa10) (ap00 + ba00) 0 (by decide)
  obtain ⟨am10, bm10, qm10⟩ := mul_ex (aa00 * 18446744069414584319) (6034159408538082302)
  obtain ⟨an10, bn10, qn10⟩ := add_ex (bm10) (ai10) 0 (by decide)
  obtain ⟨ay10, by10, qy10⟩ := add_ex (an10) (ar00 + bu00) 0 (by decide)
  obtain ⟨ap20, bp20, qp20⟩ := mul_ex (a / 1) (b / 340282366920938463463374607431768211456)
  obtain ⟨aa20, ba20, qa20⟩ := add_ex (bp20) (0) 0 (by decide)
  obtain ⟨ai20, bi20, qi20⟩ := add_ex (aa20) (ap10 + ba10 + bi10) 0 (by decide)
  obtain ⟨am20, bm20, qm20⟩ := mul_ex (aa00 * 18446744069414584319) (3691218898639771653)
  obtain ⟨an20, bn20, qn20⟩ := add_ex (bm20) (ai20) 0 (by decide)
  obtain ⟨ay20, by20, qy20⟩ := add_ex (an20) (am10 + bn10 + by10) 0 (by decide)
  obtain ⟨ap30, bp30, qp30⟩ := mul_ex (a / 1) (b / 6277101735386680763835789423207666416102355444464034512896)
  obtain ⟨aa30, ba30, qa30⟩ := add_ex (bp30) (0) 0 (by decide)
  obtain ⟨ai30, bi30, qi30⟩ := add_ex (aa30) (ap20 + ba20 + bi20) 0 (by decide)
  obtain ⟨am30, bm30, qm30⟩ := mul_ex (aa00 * 18446744069414584319) (8353516859464449352)
  obtain ⟨an30, bn30, qn30⟩ := add_ex (bm30) (ai30) 0 (by decide)
  obtain ⟨ay30, by30, qy30⟩ := add_ex (an30) (am20 + bn20 + by20) 0 (by decide)
  obtain ⟨T1, Q0, hT1, hE0, hL1, hQ0⟩ := roundAS hT0 hB (by omega) hb qp00 qa00 qr00 qu00 qp10 qa10 qi10 qm10 qn10 qy10 qp20 qa20 qi20 qm20 qn20 qy20 qp30 qa30 qi30 qm30 qn30 qy30
  obtain ⟨ap01, bp01, qp01⟩ := mul_ex (a / 18446744073709551616) (b / 1)
  obtain ⟨aa01, ba01, qa01⟩ := add_ex (bp01) (ay10) 0 (by decide)
  obtain ⟨ar01, br01, qr01⟩ := mul_ex (aa01 * 18446744069414584319) (18446744069414584321)
  obtain ⟨au01, bu01, qu01⟩ := add_ex (br01) (aa01) 0 (by decide)
  obtain ⟨ap11, bp11, qp11⟩ := mul_ex (a / 18446744073709551616) (b / 18446744073709551616)
  obtain ⟨aa11, ba11, qa11⟩ := add_ex (bp11) (ay20) 0 (by decide)
  obtain ⟨ai11, bi11, qi11⟩ := add_ex (aa11) (ap01 + ba01) 0 (by decide)
  obtain ⟨am11, bm11, qm11⟩ := mul_ex (aa01 * 18446744069414584319) (6034159408538082302)
  obtain ⟨an11, bn11, qn11⟩ := add_ex (bm11) (ai11) 0 (by decide)
  obtain ⟨ay11, by11, qy11⟩ := add_ex (an11) (ar01 + bu01) 0 (by decide)
  obtain ⟨ap21, bp21, qp21⟩ := mul_ex (a / 18446744073709551616) (b / 340282366920938463463374607431768211456)
  obtain ⟨aa21, ba21, qa21⟩ := add_ex (bp21) (ay30) 0 (by decide)
  obtain ⟨ai21, bi21, qi21⟩ := add_ex (aa21) (ap11 + ba11 + bi11) 0 (by decide)
  obtain ⟨am21, bm21, qm21⟩ := mul_ex (aa01 * 18446744069414584319) (3691218898639771653)
  obtain ⟨an21, bn21, qn21⟩ := add_ex (bm21) (ai21) 0 (by decide)
  obtain ⟨ay21, by21, qy21⟩ := add_ex (an21) (am11 + bn11 + by11) 0 (by decide)
  obtain ⟨ap31, bp31, qp31⟩ := mul_ex (a / 18446744073709551616) (b / 6277101735386680763835789423207666416102355444464034512896)
  obtain ⟨aa31, ba31, qa31⟩ := add_ex (bp31) (am30 + bn30 + by30 + (ap30 + ba30 + bi30)) 0 (by decide)
  obtain ⟨ai31, bi31, qi31⟩ := add_ex (aa31) (ap21 + ba21 + bi21) 0 (by decide)
  obtain ⟨am31, bm31, qm31⟩ := mul_ex (aa01 * 18446744069414584319) (8353516859464449352)
  obtain ⟨an31, bn31, qn31⟩ := add_ex (bm31) (ai31) 0 (by decide)
  obtain ⟨ay31, by31, qy31⟩ := add_ex (an31) (am21 + bn21 + by21) 0 (by decide)
  obtain ⟨T2, Q1, hT2, hE1, hL2, hQ1⟩ := roundAS hT1 hB hL1 hb qp01 qa01 qr01 qu01 qp11 qa11 qi11 qm11 qn11 qy11 qp21 qa21 qi21 qm21 qn21 qy21 qp31 qa31 qi31 qm31 qn31 qy31
  obtain ⟨ap02, bp02, qp02⟩ := mul_ex (a / 340282366920938463463374607431768211456) (b / 1)
  obtain ⟨aa02, ba02, qa02⟩ := add_ex (bp02) (ay11) 0 (by decide)
  obtain ⟨ar02, br02, qr02⟩ := mul_ex (aa02 * 18446744069414584319) (18446744069414584321)
  obtain ⟨au02, bu02, qu02⟩ := add_ex (br02) (aa02) 0 (by decide)
  obtain ⟨ap12, bp12, qp12⟩ := mul_ex (a / 340282366920938463463374607431768211456) (b / 18446744073709551616)
  obtain ⟨aa12, ba12, qa12⟩ := add_ex (bp12) (ay21) 0 (by decide)
  obtain ⟨ai12, bi12, qi12⟩ := add_ex (aa12) (ap02 + ba02) 0 (by decide)
  obtain ⟨am12, bm12, qm12⟩ := mul_ex (aa02 * 18446744069414584319) (6034159408538082302)
  obtain ⟨an12, bn12, qn12⟩ := add_ex (bm12) (ai12) 0 (by decide)
  obtain ⟨ay12, by12, qy12⟩ := add_ex (an12) (ar02 + bu02) 0 (by decide)
  obtain ⟨ap22, bp22, qp22⟩ := mul_ex (a / 340282366920938463463374607431768211456) (b / 340282366920938463463374607431768211456)
  obtain ⟨aa22, ba22, qa22⟩ := add_ex (bp22) (ay31) 0 (by decide)
  obtain ⟨ai22, bi22, qi22⟩ := add_ex (aa22) (ap12 + ba12 + bi12) 0 (by decide)
  obtain ⟨am22, bm22, qm22⟩ := mul_ex (aa02 * 18446744069414584319) (3691218898639771653)
  obtain ⟨an22, bn22, qn22⟩ := add_ex (bm22) (ai22) 0 (by decide)
  obtain ⟨ay22, by22, qy22⟩ := add_ex (an22) (am12 + bn12 + by12) 0 (by decide)
  obtain ⟨ap32, bp32, qp32⟩ := mul_ex (a / 340282366920938463463374607431768211456) (b / 6277101735386680763835789423207666416102355444464034512896)
  obtain ⟨aa32, ba32, qa32⟩ := add_ex (bp32) (am31 + bn31 + by31 + (ap31 + ba31 + bi31)) 0 (by decide)
  obtain ⟨ai32, bi32, qi32⟩ := add_ex (aa32) (ap22 + ba22 + bi22) 0 (by decide)
  obtain ⟨am32, bm32, qm32⟩ := mul_ex (aa02 * 18446744069414584319) (8353516859464449352)
  obtain ⟨an32, bn32, qn32⟩ := add_ex (bm32) (ai32) 0 (by decide)
  obtain ⟨ay32, by32, qy32⟩ := add_ex (an32) (am22 + bn22 + by22) 0 (by decide)
  obtain ⟨T3, Q2, hT3, hE2, hL3, hQ2⟩ := roundAS hT2 hB hL2 hb qp02 qa02 qr02 qu02 qp12 qa12 qi12 qm12 qn12 qy12 qp22 qa22 qi22 qm22 qn22 qy22 qp32 qa32 qi32 qm32 qn32 qy32
  obtain ⟨ap03, bp03, qp03⟩ := mul_ex (a / 6277101735386680763835789423207666416102355444464034512896) (b / 1)
  obtain ⟨aa03, ba03, qa03⟩ := add_ex (bp03) (ay12) 0 (by decide)
  obtain ⟨ar03, br03, qr03⟩ := mul_ex (aa03 * 18446744069414584319) (18446744069414584321)
  obtain ⟨au03, bu03, qu03⟩ := add_ex (br03) (aa03) 0 (by decide)
  obtain ⟨ap13, bp13, qp13⟩ := mul_ex (a / 6277101735386680763835789423207666416102355444464034512896) (b / 18446744073709551616)
  obtain ⟨aa13, ba13, qa13⟩ := add_ex (bp13) (ay22) 0 (by decide)
  obtain ⟨ai13, bi13, qi13⟩ := add_ex (aa13) (ap03 + ba03) 0 (by decide)
  obtain ⟨am13, bm13, qm13⟩ := mul_ex (aa03 * 18446744069414584319) (6034159408538082302)
  obtain ⟨an13, bn13, qn13⟩ := add_ex (bm13) (ai13) 0 (by decide)
  obtain ⟨ay13, by13, qy13⟩ := add_ex (an13) (ar03 + bu03) 0 (by decide)
  obtain ⟨ap23, bp23, qp23⟩ := mul_ex (a / 6277101735386680763835789423207666416102355444464034512896) (b / 340282366920938463463374607431768211456)
  obtain ⟨aa23, ba23, qa23⟩ := add_ex (bp23) (ay32) 0 (by decide)
  obtain ⟨ai23, bi23, qi23⟩ := add_ex (aa23) (ap13 + ba13 + bi13) 0 (by decide)
  obtain ⟨am23, bm23, qm23⟩ := mul_ex (aa03 * 18446744069414584319) (3691218898639771653)
  obtain ⟨an23, bn23, qn23⟩ := add_ex (bm23) (ai23) 0 (by decide)
  obtain ⟨ay23, by23, qy23⟩ := add_ex (an23) (am13 + bn13 + by13) 0 (by decide)
  obtain ⟨ap33, bp33, qp33⟩ := mul_ex (a / 6277101735386680763835789423207666416102355444464034512896) (b / 6277101735386680763835789423207666416102355444464034512896)
  obtain ⟨aa33, ba33, qa33⟩ := add_ex (bp33) (am32 + bn32 + by32 + (ap32 + ba32 + bi32)) 0 (by decide)
  obtain ⟨ai33, bi33, qi33⟩ := add_ex (aa33) (ap23 + ba23 + bi23) 0 (by decide)
  obtain ⟨am33, bm33, qm33⟩ := mul_ex (aa03 * 18446744069414584319) (8353516859464449352)
  obtain ⟨an33, bn33, qn33⟩ := add_ex (bm33) (ai33) 0 (by decide)
  obtain ⟨ay33, by33, qy33⟩ := add_ex (an33) (am23 + bn23 + by23) 0 (by decide)
  obtain ⟨T4, Q3, hT4, hE3, hL4, hQ3⟩ := roundAS hT3 hB hL3 hb qp03 qa03 qr03 qu03 qp13 qa13 qi13 qm13 qn13 qy13 qp23 qa23 qi23 qm23 qn23 qy23 qp33 qa33 qi33 qm33 qn33 qy33
  refine ⟨T4 % 52435875175126190479447740508185965837690552500527637822603658699938581184513, Nat.mod_lt _ (by decide), finS (hor4 a ha) hE0 hE1 hE2 hE3, ?_⟩
  have hc : ay13 % 18446744073709551616 + 18446744073709551616 * (ay23 % 18446744073709551616 + 18446744073709551616 * (ay33 % 18446744073709551616 + 18446744073709551616 * ((am33 + bn33 + by33 + (ap33 + ba33 + bi33)) % 18446744073709551616 + 18446744073709551616 * (0)))) < 2 * 52435875175126190479447740508185965837690552500527637822603658699938581184513 := by rw [← hT4]; omega
  rw [hT4]
  exact fn_gives (P := Try.prog) (env := [eAdd64, eMul64, eNS]) ⟨eAdd64_ok, eMul64_ok, eNS_ok, trivial⟩ Try.func44 0 (oN [(15, ap00, bp00), (23, aa00, ba00), (37, ar00, br00), (45, au00, bu00), (57, ap10, bp10), (65, aa10, ba10), (77, ai10, bi10), (88, am10, bm10), (96, an10, bn10), (108, ay10, by10), (121, ap20, bp20), (129, aa20, ba20), (141, ai20, bi20), (152, am20, bm20), (160, an20, bn20), (172, ay20, by20), (185, ap30, bp30), (193, aa30, ba30), (205, ai30, bi30), (216, am30, bm30), (224, an30, bn30), (236, ay30, by30), (258, ap01, bp01), (266, aa01, ba01), (280, ar01, br01), (288, au01, bu01), (300, ap11, bp11), (308, aa11, ba11), (320, ai11, bi11), (331, am11, bm11), (339, an11, bn11), (351, ay11, by11), (364, ap21, bp21), (372, aa21, ba21), (384, ai21, bi21), (395, am21, bm21), (403, an21, bn21), (415, ay21, by21), (428, ap31, bp31), (436, aa31, ba31), (448, ai31, bi31), (459, am31, bm31), (467, an31, bn31), (479, ay31, by31), (501, ap02, bp02), (509, aa02, ba02), (523, ar02, br02), (531, au02, bu02), (543, ap12, bp12), (551, aa12, ba12), (563, ai12, bi12), (574, am12, bm12), (582, an12, bn12), (594, ay12, by12), (607, ap22, bp22), (615, aa22, ba22), (627, ai22, bi22), (638, am22, bm22), (646, an22, bn22), (658, ay22, by22), (671, ap32, bp32), (679, aa32, ba32), (691, ai32, bi32), (702, am32, bm32), (710, an32, bn32), (722, ay32, by32), (744, ap03, bp03), (752, aa03, ba03), (766, ar03, br03), (774, au03, bu03), (786, ap13, bp13), (794, aa13, ba13), (806, ai13, bi13), (817, am13, bm13), (825, an13, bn13), (837, ay13, by13), (850, ap23, bp23), (858, aa23, ba23), (870, ai23, bi23), (881, am23, bm23), (889, an23, bn23), (901, ay23, by23), (914, ap33, bp33), (922, aa33, ba33), (934, ai33, bi33), (945, am33, bm33), (953, an33, bn33), (965, ay33, by33)] []) (by kernel_rfl)
    (And.intro hc (And.intro qy33 (And.intro qn33 (And.intro qm33 (And.intro qi33 (And.intro qa33 (And.intro qp33 (And.intro qy23 (And.intro qn23 (And.intro qm23 (And.intro qi23 (And.intro qa23 (And.intro qp23 (And.intro qy13 (And.intro qn13 (And.intro qm13 (And.intro qi13 (And.intro qa13 (And.intro qp13 (And.intro qu03 (And.intro qr03 (And.intro qa03 (And.intro qp03 (And.intro qy32 (And.intro qn32 (And.intro qm32 (And.intro qi32 (And.intro qa32 (And.intro qp32 (And.intro qy22 (And.intro qn22 (And.intro qm22 (And.intro qi22 (And.intro qa22 (And.intro qp22 (And.intro qy12 (And.intro qn12 (And.intro qm12 (And.intro qi12 (And.intro qa12 (And.intro qp12 (And.intro qu02 (And.intro qr02 (And.intro qa02 (And.intro qp02 (And.intro qy31 (And.intro qn31 (And.intro qm31 (And.intro qi31 (And.intro qa31 (And.intro qp31 (And.intro qy21 (And.intro qn21 (And.intro qm21 (And.intro qi21 (And.intro qa21 (And.intro qp21 (And.intro qy11 (And.intro qn11 (And.intro qm11 (And.intro qi11 (And.intro qa11 (And.intro qp11 (And.intro qu01 (And.intro qr01 (And.intro qa01 (And.intro qp01 (And.intro qy30 (And.intro qn30 (And.intro qm30 (And.intro qi30 (And.intro qa30 (And.intro qp30 (And.intro qy20 (And.intro qn20 (And.intro qm20 (And.intro qi20 (And.intro qa20 (And.intro qp20 (And.intro qy10 (And.intro qn10 (And.intro qm10 (And.intro qi10 (And.intro qa10 (And.intro qp10 (And.intro qu00 (And.intro qr00 (And.intro qa00 (And.intro qp00 trivial)))))))))))))))))))))))))))))))))))))))))))))))))))))))))))))))))))))))))))))))))))))))))

end Go.Proofs.Ytoahfmgdlpgjoaa
