/- Pruned: Hb. -/
import Derived.Test.YtobgpmclgacbmaaQHg
import Derived.Test.YtobgpmclgacbmaaQHa
import Derived.Test.YtobgpmclgacbmaaQE2
/- Contracts of core's S: the sum, the difference, the product, the way in and out. -/
set_option linter.unusedSimpArgs false
set_option linter.unusedVariables false
set_option maxHeartbeats 4000000
namespace Go.Proofs.Ytobgpmclgacbmaa
open Go.Ev Go.RowKit

theorem joinS {P : Program} {f : FuncId} {args : List XV} {l : List Ch} {x : Nat} (h : Gives P f args (.ag l)) (hc : cells64 4 l = some (x, [])) : Gives P f args (.ag [.n 4 x]) :=
  h.same (join_val hc)

def eRS : Entry := entry0 53 [(none, .ag [.c (.int .u64 18446744069414584321), .c (.int .u64 6034159408538082302), .c (.int .u64 3691218898639771653), .c (.int .u64 8353516859464449352)])]
theorem eRS_ok : eRS.OK Try.prog := entry0_ok (fun args w => Go.Proofs.enters_of (P := Try.prog) Try.func53 (by kernel_rfl) rfl args w)
  (only (fn_gives (P := Try.prog) (env := []) trivial Try.func53 0 o0 (by kernel_rfl) trivial))

theorem redS (x : Nat) (hx : x < 2 * 52435875175126190479447740508185965837690552500527637822603658699938581184513) : Gives Try.prog 69 [.t (.ag [.n 4 x])] (.ag [.n 4 (x % 52435875175126190479447740508185965837690552500527637822603658699938581184513)]) := by
  obtain ⟨d0, k0, q0⟩ := sub_ex (x / 1) 18446744069414584321 0 (by decide)
  obtain ⟨d1, k1, q1⟩ := sub_ex (x / 18446744073709551616) 6034159408538082302 k0 q0.2.2.2
  obtain ⟨d2, k2, q2⟩ := sub_ex (x / 340282366920938463463374607431768211456) 3691218898639771653 k1 q1.2.2.2
  obtain ⟨d3, k3, q3⟩ := sub_ex (x / 6277101735386680763835789423207666416102355444464034512896) 8353516859464449352 k2 q2.2.2.2
  obtain ⟨h1, h2, h3, h4⟩ := subs4 q0 q1 q2 q3
  rw [hor4 x (by omega)] at h1
  simp only [Nat.reduceMod, Nat.reduceMul, Nat.reduceAdd] at h1
  by_cases hk : k3 = 0
  · have hg := fn_gives (P := Try.prog) (env := [eSub64, eRS]) ⟨eSub64_ok, eRS_ok, trivial⟩ Try.func69 0 (oN [(19, d0, k0), (39, d1, k1), (59, d2, k2), (79, d3, k3)] [(90, 1)]) (args := [.t (.ag [.n 4 x])]) (r := .ag [.n 1 d0, .n 1 d1, .n 1 d2, .n 1 d3]) (by kernel_rfl)
      (And.intro (show decide (k3 % 18446744073709551616 = 0 % 18446744073709551616) = true by simp [hk]) (And.intro q3 (And.intro q2 (And.intro q1 (And.intro q0 trivial)))))
    have hv : x % 52435875175126190479447740508185965837690552500527637822603658699938581184513 = d0 % 18446744073709551616 + 18446744073709551616 * (d1 % 18446744073709551616 + 18446744073709551616 * (d2 % 18446744073709551616 + 18446744073709551616 * (d3 % 18446744073709551616 + 18446744073709551616 * (0)))) := by
      rw [h2]
      generalize d0 + 18446744073709551616 * (d1 + 18446744073709551616 * (d2 + 18446744073709551616 * (d3 + 18446744073709551616 * (0)))) = D at *
      clear hg q0 q1 q2 q3
      omega
    rw [hv]
    exact joinS hg rfl
  · have hg := fn_gives (P := Try.prog) (env := [eSub64, eRS]) ⟨eSub64_ok, eRS_ok, trivial⟩ Try.func69 0 (oN [(19, d0, k0), (39, d1, k1), (59, d2, k2), (79, d3, k3)] [(90, 2)]) (args := [.t (.ag [.n 4 x])]) (r := .ag [.n 4 x]) (by kernel_rfl)
      (And.intro (show decide (k3 % 18446744073709551616 = 0 % 18446744073709551616) = false by have h := q3.2.2.2; simp; omega) (And.intro q3 (And.intro q2 (And.intro q1 (And.intro q0 trivial)))))
    have hv : x % 52435875175126190479447740508185965837690552500527637822603658699938581184513 = x := by
      generalize d0 + 18446744073709551616 * (d1 + 18446744073709551616 * (d2 + 18446744073709551616 * (d3 + 18446744073709551616 * (0)))) = D at *
      clear hg q0 q1 q2 q3
      omega
    rw [hv]
    exact hg

def eNS : Entry := entry1 69 parN4.x (fun x => [(some (x < 2 * 52435875175126190479447740508185965837690552500527637822603658699938581184513), .ag [.n 4 (x % 52435875175126190479447740508185965837690552500527637822603658699938581184513)])])
theorem eNS_ok : eNS.OK Try.prog := entry1_ok (fun args w => Go.Proofs.enters_of (P := Try.prog) Try.func69 (by kernel_rfl) rfl args w) (fun u c r hm hc => by
  simp only [List.mem_singleton, Prod.mk.injEq] at hm
  obtain ⟨rfl, rfl⟩ := hm
  exact redS u hc)

theorem plusSN (a b : Nat) (ha : a < 52435875175126190479447740508185965837690552500527637822603658699938581184513) (hb : b < 52435875175126190479447740508185965837690552500527637822603658699938581184513) : Gives Try.prog 56 [.t (.ag [.n 4 a]), .t (.ag [.n 4 b])] (.ag [.n 4 ((a + b) % 52435875175126190479447740508185965837690552500527637822603658699938581184513)]) := by
  obtain ⟨d0, k0, q0⟩ := add_ex (a / 1) (b / 1) 0 (by decide)
  obtain ⟨d1, k1, q1⟩ := add_ex (a / 18446744073709551616) (b / 18446744073709551616) k0 q0.2.2.2
  obtain ⟨d2, k2, q2⟩ := add_ex (a / 340282366920938463463374607431768211456) (b / 340282366920938463463374607431768211456) k1 q1.2.2.2
  obtain ⟨d3, k3, q3⟩ := add_ex (a / 6277101735386680763835789423207666416102355444464034512896) (b / 6277101735386680763835789423207666416102355444464034512896) k2 q2.2.2.2
  obtain ⟨h1, h2, h3, h4⟩ := adds4 q0 q1 q2 q3
  rw [hor4 a (by omega), hor4 b (by omega)] at h1
  have hv : d0 % 18446744073709551616 + 18446744073709551616 * (d1 % 18446744073709551616 + 18446744073709551616 * (d2 % 18446744073709551616 + 18446744073709551616 * (d3 % 18446744073709551616 + 18446744073709551616 * (0)))) = a + b := by
    rw [h2]
    generalize d0 + 18446744073709551616 * (d1 + 18446744073709551616 * (d2 + 18446744073709551616 * (d3 + 18446744073709551616 * (0)))) = D at *
    clear q0 q1 q2 q3
    omega
  rw [← hv]
  exact fn_gives (P := Try.prog) (env := [eAdd64, eNS]) ⟨eAdd64_ok, eNS_ok, trivial⟩ Try.func56 0 (oN [(9, d0, k0), (21, d1, k1), (33, d2, k2), (45, d3, k3)] []) (by kernel_rfl)
    (And.intro (show d0 % 18446744073709551616 + 18446744073709551616 * (d1 % 18446744073709551616 + 18446744073709551616 * (d2 % 18446744073709551616 + 18446744073709551616 * (d3 % 18446744073709551616 + 18446744073709551616 * (0)))) < 2 * 52435875175126190479447740508185965837690552500527637822603658699938581184513 by rw [hv]; omega) (And.intro q3 (And.intro q2 (And.intro q1 (And.intro q0 trivial)))))

end Go.Proofs.Ytobgpmclgacbmaa

/- Contracts of core's S: the way in. -/
set_option linter.unusedSimpArgs false
set_option linter.unusedVariables false
namespace Go.Proofs.Ytobgpmclgacbmaa
open Go.Ev Go.RowKit

set_option maxHeartbeats 4000000 in
theorem inSN (a : Nat) (ha : a < 115792089237316195423570985008687907853269984665640564039457584007913129639936) : ∃ v, v < 52435875175126190479447740508185965837690552500527637822603658699938581184513 ∧ (v * 115792089237316195423570985008687907853269984665640564039457584007913129639936) % 52435875175126190479447740508185965837690552500527637822603658699938581184513 = (a * 3294906474794265442129797520630710739278575682199800681788903916070560242797) % 52435875175126190479447740508185965837690552500527637822603658699938581184513 ∧ Gives Try.prog 55 [.t (.ag [.n 4 a])] (.ag [.n 4 v]) := by
  have hB : 3294906474794265442129797520630710739278575682199800681788903916070560242797 = 14526898881837571181 % 18446744073709551616 + 18446744073709551616 * (3129137299524312099 % 18446744073709551616 + 18446744073709551616 * (419701826671360399 % 18446744073709551616 + 18446744073709551616 * (524908885293268753 % 18446744073709551616 + 18446744073709551616 * (0)))) := by simp only [Nat.reduceMod, Nat.reduceMul, Nat.reduceAdd]
  have hT0 : 0 = 0 % 18446744073709551616 + 18446744073709551616 * (0 % 18446744073709551616 + 18446744073709551616 * (0 % 18446744073709551616 + 18446744073709551616 * (0 % 18446744073709551616 + 18446744073709551616 * (0 % 18446744073709551616 + 18446744073709551616 * (0))))) := by simp only [Nat.zero_mod, Nat.mul_zero, Nat.add_zero]
  obtain ⟨ap00, bp00, qp00⟩ := mul_ex (a / 1) (14526898881837571181)
  obtain ⟨aa00, ba00, qa00⟩ := add_ex (bp00) (0) 0 (by decide)
  obtain ⟨ai00, bi00, qi00⟩ := add_ex (aa00) (0) 0 (by decide)
  obtain ⟨ap10, bp10, qp10⟩ := mul_ex (a / 1) (3129137299524312099)
  obtain ⟨aa10, ba10, qa10⟩ := add_ex (bp10) (0) 0 (by decide)
  obtain ⟨ai10, bi10, qi10⟩ := add_ex (aa10) (ap00 + ba00 + bi00) 0 (by decide)
  obtain ⟨ap20, bp20, qp20⟩ := mul_ex (a / 1) (419701826671360399)
  obtain ⟨aa20, ba20, qa20⟩ := add_ex (bp20) (0) 0 (by decide)
  obtain ⟨ai20, bi20, qi20⟩ := add_ex (aa20) (ap10 + ba10 + bi10) 0 (by decide)
  obtain ⟨ap30, bp30, qp30⟩ := mul_ex (a / 1) (524908885293268753)
  obtain ⟨aa30, ba30, qa30⟩ := add_ex (bp30) (0) 0 (by decide)
  obtain ⟨ai30, bi30, qi30⟩ := add_ex (aa30) (ap20 + ba20 + bi20) 0 (by decide)
  obtain ⟨aty0, bty0, qty0⟩ := add_ex (0) (ap30 + ba30 + bi30) 0 (by decide)
  obtain ⟨ar00, br00, qr00⟩ := mul_ex (ai00 * 18446744069414584319) (18446744069414584321)
  obtain ⟨au00, bu00, qu00⟩ := add_ex (br00) (ai00) 0 (by decide)
  obtain ⟨am10, bm10, qm10⟩ := mul_ex (ai00 * 18446744069414584319) (6034159408538082302)
  obtain ⟨an10, bn10, qn10⟩ := add_ex (bm10) (ai10) 0 (by decide)
  obtain ⟨ay10, by10, qy10⟩ := add_ex (an10) (ar00 + bu00) 0 (by decide)
  obtain ⟨am20, bm20, qm20⟩ := mul_ex (ai00 * 18446744069414584319) (3691218898639771653)
  obtain ⟨an20, bn20, qn20⟩ := add_ex (bm20) (ai20) 0 (by decide)
  obtain ⟨ay20, by20, qy20⟩ := add_ex (an20) (am10 + bn10 + by10) 0 (by decide)
  obtain ⟨am30, bm30, qm30⟩ := mul_ex (ai00 * 18446744069414584319) (8353516859464449352)
  obtain ⟨an30, bn30, qn30⟩ := add_ex (bm30) (ai30) 0 (by decide)
  obtain ⟨ay30, by30, qy30⟩ := add_ex (an30) (am20 + bn20 + by20) 0 (by decide)
  obtain ⟨atw0, btw0, qtw0⟩ := add_ex (aty0) (am30 + bn30 + by30) 0 (by decide)
  obtain ⟨T1, Q0, hT1, hE0, hL1, hQ0⟩ := roundBS hT0 hB (by omega) (by decide) qp00 qa00 qi00 qp10 qa10 qi10 qp20 qa20 qi20 qp30 qa30 qi30 qty0 qr00 qu00 qm10 qn10 qy10 qm20 qn20 qy20 qm30 qn30 qy30 qtw0
  obtain ⟨ap01, bp01, qp01⟩ := mul_ex (a / 18446744073709551616) (14526898881837571181)
  obtain ⟨aa01, ba01, qa01⟩ := add_ex (bp01) (ay10) 0 (by decide)
  obtain ⟨ai01, bi01, qi01⟩ := add_ex (aa01) (0) 0 (by decide)
  obtain ⟨ap11, bp11, qp11⟩ := mul_ex (a / 18446744073709551616) (3129137299524312099)
  obtain ⟨aa11, ba11, qa11⟩ := add_ex (bp11) (ay20) 0 (by decide)
  obtain ⟨ai11, bi11, qi11⟩ := add_ex (aa11) (ap01 + ba01 + bi01) 0 (by decide)
  obtain ⟨ap21, bp21, qp21⟩ := mul_ex (a / 18446744073709551616) (419701826671360399)
  obtain ⟨aa21, ba21, qa21⟩ := add_ex (bp21) (ay30) 0 (by decide)
  obtain ⟨ai21, bi21, qi21⟩ := add_ex (aa21) (ap11 + ba11 + bi11) 0 (by decide)
  obtain ⟨ap31, bp31, qp31⟩ := mul_ex (a / 18446744073709551616) (524908885293268753)
  obtain ⟨aa31, ba31, qa31⟩ := add_ex (bp31) (atw0) 0 (by decide)
  obtain ⟨ai31, bi31, qi31⟩ := add_ex (aa31) (ap21 + ba21 + bi21) 0 (by decide)
  obtain ⟨aty1, bty1, qty1⟩ := add_ex (bty0 + btw0) (ap31 + ba31 + bi31) 0 (by decide)
  obtain ⟨ar01, br01, qr01⟩ := mul_ex (ai01 * 18446744069414584319) (18446744069414584321)
  obtain ⟨au01, bu01, qu01⟩ := add_ex (br01) (ai01) 0 (by decide)
  obtain ⟨am11, bm11, qm11⟩ := mul_ex (ai01 * 18446744069414584319) (6034159408538082302)
  obtain ⟨an11, bn11, qn11⟩ := add_ex (bm11) (ai11) 0 (by decide)
  obtain ⟨ay11, by11, qy11⟩ := add_ex (an11) (ar01 + bu01) 0 (by decide)
  obtain ⟨am21, bm21, qm21⟩ := mul_ex (ai01 * 18446744069414584319) (3691218898639771653)
  obtain ⟨an21, bn21, qn21⟩ := add_ex (bm21) (ai21) 0 (by decide)
  obtain ⟨ay21, by21, qy21⟩ := add_ex (an21) (am11 + bn11 + by11) 0 (by decide)
  obtain ⟨am31, bm31, qm31⟩ := mul_ex (ai01 * 18446744069414584319) (8353516859464449352)
  obtain ⟨an31, bn31, qn31⟩ := add_ex (bm31) (ai31) 0 (by decide)
  obtain ⟨ay31, by31, qy31⟩ := add_ex (an31) (am21 + bn21 + by21) 0 (by decide)
  obtain ⟨atw1, btw1, qtw1⟩ := add_ex (aty1) (am31 + bn31 + by31) 0 (by decide)
  obtain ⟨T2, Q1, hT2, hE1, hL2, hQ1⟩ := roundBS hT1 hB hL1 (by decide) qp01 qa01 qi01 qp11 qa11 qi11 qp21 qa21 qi21 qp31 qa31 qi31 qty1 qr01 qu01 qm11 qn11 qy11 qm21 qn21 qy21 qm31 qn31 qy31 qtw1
  obtain ⟨ap02, bp02, qp02⟩ := mul_ex (a / 340282366920938463463374607431768211456) (14526898881837571181)
  obtain ⟨aa02, ba02, qa02⟩ := add_ex (bp02) (ay11) 0 (by decide)
  obtain ⟨ai02, bi02, qi02⟩ := add_ex (aa02) (0) 0 (by decide)
  obtain ⟨ap12, bp12, qp12⟩ := mul_ex (a / 340282366920938463463374607431768211456) (3129137299524312099)
  obtain ⟨aa12, ba12, qa12⟩ := add_ex (bp12) (ay21) 0 (by decide)
  obtain ⟨ai12, bi12, qi12⟩ := add_ex (aa12) (ap02 + ba02 + bi02) 0 (by decide)
  obtain ⟨ap22, bp22, qp22⟩ := mul_ex (a / 340282366920938463463374607431768211456) (419701826671360399)
  obtain ⟨aa22, ba22, qa22⟩ := add_ex (bp22) (ay31) 0 (by decide)
  obtain ⟨ai22, bi22, qi22⟩ := add_ex (aa22) (ap12 + ba12 + bi12) 0 (by decide)
  obtain ⟨ap32, bp32, qp32⟩ := mul_ex (a / 340282366920938463463374607431768211456) (524908885293268753)
  obtain ⟨aa32, ba32, qa32⟩ := add_ex (bp32) (atw1) 0 (by decide)
  obtain ⟨ai32, bi32, qi32⟩ := add_ex (aa32) (ap22 + ba22 + bi22) 0 (by decide)
  obtain ⟨aty2, bty2, qty2⟩ := add_ex (bty1 + btw1) (ap32 + ba32 + bi32) 0 (by decide)
  obtain ⟨ar02, br02, qr02⟩ := mul_ex (ai02 * 18446744069414584319) (18446744069414584321)
  obtain ⟨au02, bu02, qu02⟩ := add_ex (br02) (ai02) 0 (by decide)
  obtain ⟨am12, bm12, qm12⟩ := mul_ex (ai02 * 18446744069414584319) (6034159408538082302)
  obtain ⟨an12, bn12, qn12⟩ := add_ex (bm12) (ai12) 0 (by decide)
  obtain ⟨ay12, by12, qy12⟩ := add_ex (an12) (ar02 + bu02) 0 (by decide)
  obtain ⟨am22, bm22, qm22⟩ := mul_ex (ai02 * 18446744069414584319) (3691218898639771653)
  obtain ⟨an22, bn22, qn22⟩ := add_ex (bm22) (ai22) 0 (by decide)
  obtain ⟨ay22, by22, qy22⟩ := add_ex (an22) (am12 + bn12 + by12) 0 (by decide)
  obtain ⟨am32, bm32, qm32⟩ := mul_ex (ai02 * 18446744069414584319) (8353516859464449352)
  obtain ⟨an32, bn32, qn32⟩ := add_ex (bm32) (ai32) 0 (by decide)
  obtain ⟨ay32, by32, qy32⟩ := add_ex (an32) (am22 + bn22 + by22) 0 (by decide)
  obtain ⟨atw2, btw2, qtw2⟩ := add_ex (aty2) (am32 + bn32 + by32) 0 (by decide)
  obtain ⟨T3, Q2, hT3, hE2, hL3, hQ2⟩ := roundBS hT2 hB hL2 (by decide) qp02 qa02 qi02 qp12 qa12 qi12 qp22 qa22 qi22 qp32 qa32 qi32 qty2 qr02 qu02 qm12 qn12 qy12 qm22 qn22 qy22 qm32 qn32 qy32 qtw2
  obtain ⟨ap03, bp03, qp03⟩ := mul_ex (a / 6277101735386680763835789423207666416102355444464034512896) (14526898881837571181)
  obtain ⟨aa03, ba03, qa03⟩ := add_ex (bp03) (ay12) 0 (by decide)
  obtain ⟨ai03, bi03, qi03⟩ := add_ex (aa03) (0) 0 (by decide)
  obtain ⟨ap13, bp13, qp13⟩ := mul_ex (a / 6277101735386680763835789423207666416102355444464034512896) (3129137299524312099)
  obtain ⟨aa13, ba13, qa13⟩ := add_ex (bp13) (ay22) 0 (by decide)
  obtain ⟨ai13, bi13, qi13⟩ := add_ex (aa13) (ap03 + ba03 + bi03) 0 (by decide)
  obtain ⟨ap23, bp23, qp23⟩ := mul_ex (a / 6277101735386680763835789423207666416102355444464034512896) (419701826671360399)
  obtain ⟨aa23, ba23, qa23⟩ := add_ex (bp23) (ay32) 0 (by decide)
  obtain ⟨ai23, bi23, qi23⟩ := add_ex (aa23) (ap13 + ba13 + bi13) 0 (by decide)
  obtain ⟨ap33, bp33, qp33⟩ := mul_ex (a / 6277101735386680763835789423207666416102355444464034512896) (524908885293268753)
  obtain ⟨aa33, ba33, qa33⟩ := add_ex (bp33) (atw2) 0 (by decide)
  obtain ⟨ai33, bi33, qi33⟩ := add_ex (aa33) (ap23 + ba23 + bi23) 0 (by decide)
  obtain ⟨aty3, bty3, qty3⟩ := add_ex (bty2 + btw2) (ap33 + ba33 + bi33) 0 (by decide)
  obtain ⟨ar03, br03, qr03⟩ := mul_ex (ai03 * 18446744069414584319) (18446744069414584321)
  obtain ⟨au03, bu03, qu03⟩ := add_ex (br03) (ai03) 0 (by decide)
  obtain ⟨am13, bm13, qm13⟩ := mul_ex (ai03 * 18446744069414584319) (6034159408538082302)
  obtain ⟨an13, bn13, qn13⟩ := add_ex (bm13) (ai13) 0 (by decide)
  obtain ⟨ay13, by13, qy13⟩ := add_ex (an13) (ar03 + bu03) 0 (by decide)
  obtain ⟨am23, bm23, qm23⟩ := mul_ex (ai03 * 18446744069414584319) (3691218898639771653)
  obtain ⟨an23, bn23, qn23⟩ := add_ex (bm23) (ai23) 0 (by decide)
  obtain ⟨ay23, by23, qy23⟩ := add_ex (an23) (am13 + bn13 + by13) 0 (by decide)
  obtain ⟨am33, bm33, qm33⟩ := mul_ex (ai03 * 18446744069414584319) (8353516859464449352)
  obtain ⟨an33, bn33, qn33⟩ := add_ex (bm33) (ai33) 0 (by decide)
  obtain ⟨ay33, by33, qy33⟩ := add_ex (an33) (am23 + bn23 + by23) 0 (by decide)
  obtain ⟨atw3, btw3, qtw3⟩ := add_ex (aty3) (am33 + bn33 + by33) 0 (by decide)
  obtain ⟨T4, Q3, hT4, hE3, hL4, hQ3⟩ := roundBS hT3 hB hL3 (by decide) qp03 qa03 qi03 qp13 qa13 qi13 qp23 qa23 qi23 qp33 qa33 qi33 qty3 qr03 qu03 qm13 qn13 qy13 qm23 qn23 qy23 qm33 qn33 qy33 qtw3
  obtain ⟨d0, k0, q0⟩ := sub_ex (ay13) 18446744069414584321 0 (by decide)
  obtain ⟨d1, k1, q1⟩ := sub_ex (ay23) 6034159408538082302 k0 q0.2.2.2
  obtain ⟨d2, k2, q2⟩ := sub_ex (ay33) 3691218898639771653 k1 q1.2.2.2
  obtain ⟨d3, k3, q3⟩ := sub_ex (atw3) 8353516859464449352 k2 q2.2.2.2
  obtain ⟨h1, h2, h3, h4⟩ := subs4 q0 q1 q2 q3
  simp only [Nat.reduceMod, Nat.reduceMul, Nat.reduceAdd] at h1
  have hm : (bty3 + btw3) % 18446744073709551616 = 0 ∧ ay13 % 18446744073709551616 + 18446744073709551616 * (ay23 % 18446744073709551616 + 18446744073709551616 * (ay33 % 18446744073709551616 + 18446744073709551616 * (atw3 % 18446744073709551616 + 18446744073709551616 * (0)))) = T4 := by
    have e := hT4
    have l := hL4
    clear q0 q1 q2 q3 h1 h2 h4 hT1 hL1 hT2 hL2 hT3 hL3 hT4 hL4 hE0 hE1 hE2 hE3
    generalize ay13 % 18446744073709551616 = Z0 at *
    generalize ay23 % 18446744073709551616 = Z1 at *
    generalize ay33 % 18446744073709551616 = Z2 at *
    generalize atw3 % 18446744073709551616 = Z3 at *
    generalize (bty3 + btw3) % 18446744073709551616 = Zm at *
    omega
  rw [hm.2] at h1
  refine ⟨T4 % 52435875175126190479447740508185965837690552500527637822603658699938581184513, Nat.mod_lt _ (by decide), finS (hor4 a ha) hE0 hE1 hE2 hE3, ?_⟩
  by_cases hk : k3 = 0
  · have hv : T4 % 52435875175126190479447740508185965837690552500527637822603658699938581184513 = d0 % 18446744073709551616 + 18446744073709551616 * (d1 % 18446744073709551616 + 18446744073709551616 * (d2 % 18446744073709551616 + 18446744073709551616 * (d3 % 18446744073709551616 + 18446744073709551616 * (0)))) := by
      rw [h2]
      generalize d0 + 18446744073709551616 * (d1 + 18446744073709551616 * (d2 + 18446744073709551616 * (d3 + 18446744073709551616 * (0)))) = D at *
      have l := hL4
      clear q0 q1 q2 q3 hm hT1 hL1 hT2 hL2 hT3 hL3 hT4 hL4 hE0 hE1 hE2 hE3
      omega
    rw [hv]
    refine joinS (l := [.n 1 d0, .n 1 d1, .n 1 d2, .n 1 d3]) ?_ rfl
    exact fn_gives (P := Try.prog) (env := [eSub64, eAdd64, eMul64, eRS]) ⟨eSub64_ok, eAdd64_ok, eMul64_ok, eRS_ok, trivial⟩ Try.func55 2 (oN [(39, ap00, bp00), (49, aa00, ba00), (61, ai00, bi00), (85, ap10, bp10), (95, aa10, ba10), (107, ai10, bi10), (131, ap20, bp20), (141, aa20, ba20), (153, ai20, bi20), (177, ap30, bp30), (187, aa30, ba30), (199, ai30, bi30), (222, aty0, bty0), (243, ar00, br00), (252, au00, bu00), (270, am10, bm10), (280, an10, bn10), (292, ay10, by10), (318, am20, bm20), (328, an20, bn20), (340, ay20, by20), (366, am30, bm30), (376, an30, bn30), (388, ay30, by30), (415, atw0, btw0), (452, ap01, bp01), (462, aa01, ba01), (474, ai01, bi01), (498, ap11, bp11), (508, aa11, ba11), (520, ai11, bi11), (544, ap21, bp21), (554, aa21, ba21), (566, ai21, bi21), (590, ap31, bp31), (600, aa31, ba31), (612, ai31, bi31), (635, aty1, bty1), (656, ar01, br01), (665, au01, bu01), (683, am11, bm11), (693, an11, bn11), (705, ay11, by11), (731, am21, bm21), (741, an21, bn21), (753, ay21, by21), (779, am31, bm31), (789, an31, bn31), (801, ay31, by31), (828, atw1, btw1), (865, ap02, bp02), (875, aa02, ba02), (887, ai02, bi02), (911, ap12, bp12), (921, aa12, ba12), (933, ai12, bi12), (957, ap22, bp22), (967, aa22, ba22), (979, ai22, bi22), (1003, ap32, bp32), (1013, aa32, ba32), (1025, ai32, bi32), (1048, aty2, bty2), (1069, ar02, br02), (1078, au02, bu02), (1096, am12, bm12), (1106, an12, bn12), (1118, ay12, by12), (1144, am22, bm22), (1154, an22, bn22), (1166, ay22, by22), (1192, am32, bm32), (1202, an32, bn32), (1214, ay32, by32), (1241, atw2, btw2), (1278, ap03, bp03), (1288, aa03, ba03), (1300, ai03, bi03), (1324, ap13, bp13), (1334, aa13, ba13), (1346, ai13, bi13), (1370, ap23, bp23), (1380, aa23, ba23), (1392, ai23, bi23), (1416, ap33, bp33), (1426, aa33, ba33), (1438, ai33, bi33), (1461, aty3, bty3), (1482, ar03, br03), (1491, au03, bu03), (1509, am13, bm13), (1519, an13, bn13), (1531, ay13, by13), (1557, am23, bm23), (1567, an23, bn23), (1579, ay23, by23), (1605, am33, bm33), (1615, an33, bn33), (1627, ay33, by33), (1654, atw3, btw3), (1699, d0, k0), (1721, d1, k1), (1743, d2, k2), (1765, d3, k3)] [(1777, 1)]) (by kernel_rfl)
      (And.intro (show decide (k3 % 18446744073709551616 ≤ ((bty3 / 1 + btw3) / 1) % 18446744073709551616) = true by simp only [Nat.div_one, hk, hm.1]; rfl) (And.intro (show SubOK (atw3 / 1) 8353516859464449352 k2 d3 k3 by simp only [Nat.div_one]; exact q3) (And.intro (show SubOK (ay33 / 1) 3691218898639771653 k1 d2 k2 by simp only [Nat.div_one]; exact q2) (And.intro (show SubOK (ay23 / 1) 6034159408538082302 k0 d1 k1 by simp only [Nat.div_one]; exact q1) (And.intro (show SubOK (ay13 / 1) 18446744069414584321 0 d0 k0 by simp only [Nat.div_one]; exact q0) (And.intro (show AddOK (aty3 / 1) (am33 + bn33 + by33) 0 atw3 btw3 by simp only [Nat.div_one]; exact qtw3) (And.intro qy33 (And.intro (show AddOK (bm33) (ai33 / 1) 0 an33 bn33 by simp only [Nat.div_one]; exact qn33) (And.intro (show MulOK (ai03 / 1 * 18446744069414584319) (8353516859464449352) am33 bm33 by simp only [Nat.div_one]; exact qm33) (And.intro qy23 (And.intro (show AddOK (bm23) (ai23 / 1) 0 an23 bn23 by simp only [Nat.div_one]; exact qn23) (And.intro (show MulOK (ai03 / 1 * 18446744069414584319) (3691218898639771653) am23 bm23 by simp only [Nat.div_one]; exact qm23) (And.intro qy13 (And.intro (show AddOK (bm13) (ai13 / 1) 0 an13 bn13 by simp only [Nat.div_one]; exact qn13) (And.intro (show MulOK (ai03 / 1 * 18446744069414584319) (6034159408538082302) am13 bm13 by simp only [Nat.div_one]; exact qm13) (And.intro (show AddOK (br03) (ai03 / 1) 0 au03 bu03 by simp only [Nat.div_one]; exact qu03) (And.intro (show MulOK (ai03 / 1 * 18446744069414584319) (18446744069414584321) ar03 br03 by simp only [Nat.div_one]; exact qr03) (And.intro (show AddOK ((bty2 / 1 + btw2) / 1) (ap33 + ba33 + bi33) 0 aty3 bty3 by simp only [Nat.div_one]; exact qty3) (And.intro qi33 (And.intro (show AddOK (bp33) (atw2 / 1) 0 aa33 ba33 by simp only [Nat.div_one]; exact qa33) (And.intro qp33 (And.intro qi23 (And.intro (show AddOK (bp23) (ay32 / 1) 0 aa23 ba23 by simp only [Nat.div_one]; exact qa23) (And.intro qp23 (And.intro qi13 (And.intro (show AddOK (bp13) (ay22 / 1) 0 aa13 ba13 by simp only [Nat.div_one]; exact qa13) (And.intro qp13 (And.intro qi03 (And.intro (show AddOK (bp03) (ay12 / 1) 0 aa03 ba03 by simp only [Nat.div_one]; exact qa03) (And.intro qp03 (And.intro (show AddOK (aty2 / 1) (am32 + bn32 + by32) 0 atw2 btw2 by simp only [Nat.div_one]; exact qtw2) (And.intro qy32 (And.intro (show AddOK (bm32) (ai32 / 1) 0 an32 bn32 by simp only [Nat.div_one]; exact qn32) (And.intro (show MulOK (ai02 / 1 * 18446744069414584319) (8353516859464449352) am32 bm32 by simp only [Nat.div_one]; exact qm32) (And.intro qy22 (And.intro (show AddOK (bm22) (ai22 / 1) 0 an22 bn22 by simp only [Nat.div_one]; exact qn22) (And.intro (show MulOK (ai02 / 1 * 18446744069414584319) (3691218898639771653) am22 bm22 by simp only [Nat.div_one]; exact qm22) (And.intro qy12 (And.intro (show AddOK (bm12) (ai12 / 1) 0 an12 bn12 by simp only [Nat.div_one]; exact qn12) (And.intro (show MulOK (ai02 / 1 * 18446744069414584319) (6034159408538082302) am12 bm12 by simp only [Nat.div_one]; exact qm12) (And.intro (show AddOK (br02) (ai02 / 1) 0 au02 bu02 by simp only [Nat.div_one]; exact qu02) (And.intro (show MulOK (ai02 / 1 * 18446744069414584319) (18446744069414584321) ar02 br02 by simp only [Nat.div_one]; exact qr02) (And.intro (show AddOK ((bty1 / 1 + btw1) / 1) (ap32 + ba32 + bi32) 0 aty2 bty2 by simp only [Nat.div_one]; exact qty2) (And.intro qi32 (And.intro (show AddOK (bp32) (atw1 / 1) 0 aa32 ba32 by simp only [Nat.div_one]; exact qa32) (And.intro qp32 (And.intro qi22 (And.intro (show AddOK (bp22) (ay31 / 1) 0 aa22 ba22 by simp only [Nat.div_one]; exact qa22) (And.intro qp22 (And.intro qi12 (And.intro (show AddOK (bp12) (ay21 / 1) 0 aa12 ba12 by simp only [Nat.div_one]; exact qa12) (And.intro qp12 (And.intro qi02 (And.intro (show AddOK (bp02) (ay11 / 1) 0 aa02 ba02 by simp only [Nat.div_one]; exact qa02) (And.intro qp02 (And.intro (show AddOK (aty1 / 1) (am31 + bn31 + by31) 0 atw1 btw1 by simp only [Nat.div_one]; exact qtw1) (And.intro qy31 (And.intro (show AddOK (bm31) (ai31 / 1) 0 an31 bn31 by simp only [Nat.div_one]; exact qn31) (And.intro (show MulOK (ai01 / 1 * 18446744069414584319) (8353516859464449352) am31 bm31 by simp only [Nat.div_one]; exact qm31) (And.intro qy21 (And.intro (show AddOK (bm21) (ai21 / 1) 0 an21 bn21 by simp only [Nat.div_one]; exact qn21) (And.intro (show MulOK (ai01 / 1 * 18446744069414584319) (3691218898639771653) am21 bm21 by simp only [Nat.div_one]; exact qm21) (And.intro qy11 (And.intro (show AddOK (bm11) (ai11 / 1) 0 an11 bn11 by simp only [Nat.div_one]; exact qn11) (And.intro (show MulOK (ai01 / 1 * 18446744069414584319) (6034159408538082302) am11 bm11 by simp only [Nat.div_one]; exact qm11) (And.intro (show AddOK (br01) (ai01 / 1) 0 au01 bu01 by simp only [Nat.div_one]; exact qu01) (And.intro (show MulOK (ai01 / 1 * 18446744069414584319) (18446744069414584321) ar01 br01 by simp only [Nat.div_one]; exact qr01) (And.intro (show AddOK ((bty0 / 1 + btw0) / 1) (ap31 + ba31 + bi31) 0 aty1 bty1 by simp only [Nat.div_one]; exact qty1) (And.intro qi31 (And.intro (show AddOK (bp31) (atw0 / 1) 0 aa31 ba31 by simp only [Nat.div_one]; exact qa31) (And.intro qp31 (And.intro qi21 (And.intro (show AddOK (bp21) (ay30 / 1) 0 aa21 ba21 by simp only [Nat.div_one]; exact qa21) (And.intro qp21 (And.intro qi11 (And.intro (show AddOK (bp11) (ay20 / 1) 0 aa11 ba11 by simp only [Nat.div_one]; exact qa11) (And.intro qp11 (And.intro qi01 (And.intro (show AddOK (bp01) (ay10 / 1) 0 aa01 ba01 by simp only [Nat.div_one]; exact qa01) (And.intro qp01 (And.intro (show AddOK (aty0 / 1) (am30 + bn30 + by30) 0 atw0 btw0 by simp only [Nat.div_one]; exact qtw0) (And.intro qy30 (And.intro (show AddOK (bm30) (ai30 / 1) 0 an30 bn30 by simp only [Nat.div_one]; exact qn30) (And.intro (show MulOK (ai00 / 1 * 18446744069414584319) (8353516859464449352) am30 bm30 by simp only [Nat.div_one]; exact qm30) (And.intro qy20 (And.intro (show AddOK (bm20) (ai20 / 1) 0 an20 bn20 by simp only [Nat.div_one]; exact qn20) (And.intro (show MulOK (ai00 / 1 * 18446744069414584319) (3691218898639771653) am20 bm20 by simp only [Nat.div_one]; exact qm20) (And.intro qy10 (And.intro (show AddOK (bm10) (ai10 / 1) 0 an10 bn10 by simp only [Nat.div_one]; exact qn10) (And.intro (show MulOK (ai00 / 1 * 18446744069414584319) (6034159408538082302) am10 bm10 by simp only [Nat.div_one]; exact qm10) (And.intro (show AddOK (br00) (ai00 / 1) 0 au00 bu00 by simp only [Nat.div_one]; exact qu00) (And.intro (show MulOK (ai00 / 1 * 18446744069414584319) (18446744069414584321) ar00 br00 by simp only [Nat.div_one]; exact qr00) (And.intro qty0 (And.intro qi30 (And.intro qa30 (And.intro qp30 (And.intro qi20 (And.intro qa20 (And.intro qp20 (And.intro qi10 (And.intro qa10 (And.intro qp10 (And.intro qi00 (And.intro qa00 (And.intro qp00 trivial)))))))))))))))))))))))))))))))))))))))))))))))))))))))))))))))))))))))))))))))))))))))))))))))))))))))))
  · have hv : T4 % 52435875175126190479447740508185965837690552500527637822603658699938581184513 = ay13 % 18446744073709551616 + 18446744073709551616 * (ay23 % 18446744073709551616 + 18446744073709551616 * (ay33 % 18446744073709551616 + 18446744073709551616 * (atw3 % 18446744073709551616 + 18446744073709551616 * (0)))) := by
      rw [hm.2]
      generalize d0 + 18446744073709551616 * (d1 + 18446744073709551616 * (d2 + 18446744073709551616 * (d3 + 18446744073709551616 * (0)))) = D at *
      have l := hL4
      clear q0 q1 q2 q3 hm hT1 hL1 hT2 hL2 hT3 hL3 hT4 hL4 hE0 hE1 hE2 hE3
      omega
    rw [hv]
    refine joinS (l := [.n 1 ay13, .n 1 ay23, .n 1 ay33, .n 1 atw3]) ?_ rfl
    exact fn_gives (P := Try.prog) (env := [eSub64, eAdd64, eMul64, eRS]) ⟨eSub64_ok, eAdd64_ok, eMul64_ok, eRS_ok, trivial⟩ Try.func55 2 (oN [(39, ap00, bp00), (49, aa00, ba00), (61, ai00, bi00), (85, ap10, bp10), (95, aa10, ba10), (107, ai10, bi10), (131, ap20, bp20), (141, aa20, ba20), (153, ai20, bi20), (177, ap30, bp30), (187, aa30, ba30), (199, ai30, bi30), (222, aty0, bty0), (243, ar00, br00), (252, au00, bu00), (270, am10, bm10), (280, an10, bn10), (292, ay10, by10), (318, am20, bm20), (328, an20, bn20), (340, ay20, by20), (366, am30, bm30), (376, an30, bn30), (388, ay30, by30), (415, atw0, btw0), (452, ap01, bp01), (462, aa01, ba01), (474, ai01, bi01), (498, ap11, bp11), (508, aa11, ba11), (520, ai11, bi11), (544, ap21, bp21), (554, aa21, ba21), (566, ai21, bi21), (590, ap31, bp31), (600, aa31, ba31), (612, ai31, bi31), (635, aty1, bty1), (656, ar01, br01), (665, au01, bu01), (683, am11, bm11), (693, an11, bn11), (705, ay11, by11), (731, am21, bm21), (741, an21, bn21), (753, ay21, by21), (779, am31, bm31), (789, an31, bn31), (801, ay31, by31), (828, atw1, btw1), (865, ap02, bp02), (875, aa02, ba02), (887, ai02, bi02), (911, ap12, bp12), (921, aa12, ba12), (933, ai12, bi12), (957, ap22, bp22), (967, aa22, ba22), (979, ai22, bi22), (1003, ap32, bp32), (1013, aa32, ba32), (1025, ai32, bi32), (1048, aty2, bty2), (1069, ar02, br02), (1078, au02, bu02), (1096, am12, bm12), (1106, an12, bn12), (1118, ay12, by12), (1144, am22, bm22), (1154, an22, bn22), (1166, ay22, by22), (1192, am32, bm32), (1202, an32, bn32), (1214, ay32, by32), (1241, atw2, btw2), (1278, ap03, bp03), (1288, aa03, ba03), (1300, ai03, bi03), (1324, ap13, bp13), (1334, aa13, ba13), (1346, ai13, bi13), (1370, ap23, bp23), (1380, aa23, ba23), (1392, ai23, bi23), (1416, ap33, bp33), (1426, aa33, ba33), (1438, ai33, bi33), (1461, aty3, bty3), (1482, ar03, br03), (1491, au03, bu03), (1509, am13, bm13), (1519, an13, bn13), (1531, ay13, by13), (1557, am23, bm23), (1567, an23, bn23), (1579, ay23, by23), (1605, am33, bm33), (1615, an33, bn33), (1627, ay33, by33), (1654, atw3, btw3), (1699, d0, k0), (1721, d1, k1), (1743, d2, k2), (1765, d3, k3)] [(1777, 2)]) (by kernel_rfl)
      (And.intro (show decide (k3 % 18446744073709551616 ≤ ((bty3 / 1 + btw3) / 1) % 18446744073709551616) = false by have k1 : k3 = 1 := Nat.le_antisymm h3 (Nat.one_le_iff_ne_zero.2 hk); simp only [Nat.div_one, k1, hm.1]; rfl) (And.intro (show SubOK (atw3 / 1) 8353516859464449352 k2 d3 k3 by simp only [Nat.div_one]; exact q3) (And.intro (show SubOK (ay33 / 1) 3691218898639771653 k1 d2 k2 by simp only [Nat.div_one]; exact q2) (And.intro (show SubOK (ay23 / 1) 6034159408538082302 k0 d1 k1 by simp only [Nat.div_one]; exact q1) (And.intro (show SubOK (ay13 / 1) 18446744069414584321 0 d0 k0 by simp only [Nat.div_one]; exact q0) (And.intro (show AddOK (aty3 / 1) (am33 + bn33 + by33) 0 atw3 btw3 by simp only [Nat.div_one]; exact qtw3) (And.intro qy33 (And.intro (show AddOK (bm33) (ai33 / 1) 0 an33 bn33 by simp only [Nat.div_one]; exact qn33) (And.intro (show MulOK (ai03 / 1 * 18446744069414584319) (8353516859464449352) am33 bm33 by simp only [Nat.div_one]; exact qm33) (And.intro qy23 (And.intro (show AddOK (bm23) (ai23 / 1) 0 an23 bn23 by simp only [Nat.div_one]; exact qn23) (And.intro (show MulOK (ai03 / 1 * 18446744069414584319) (3691218898639771653) am23 bm23 by simp only [Nat.div_one]; exact qm23) (And.intro qy13 (And.intro (show AddOK (bm13) (ai13 / 1) 0 an13 bn13 by simp only [Nat.div_one]; exact qn13) (And.intro (show MulOK (ai03 / 1 * 18446744069414584319) (6034159408538082302) am13 bm13 by simp only [Nat.div_one]; exact qm13) (And.intro (show AddOK (br03) (ai03 / 1) 0 au03 bu03 by simp only [Nat.div_one]; exact qu03) (And.intro (show MulOK (ai03 / 1 * 18446744069414584319) (18446744069414584321) ar03 br03 by simp only [Nat.div_one]; exact qr03) (And.intro (show AddOK ((bty2 / 1 + btw2) / 1) (ap33 + ba33 + bi33) 0 aty3 bty3 by simp only [Nat.div_one]; exact qty3) (And.intro qi33 (And.intro (show AddOK (bp33) (atw2 / 1) 0 aa33 ba33 by simp only [Nat.div_one]; exact qa33) (And.intro qp33 (And.intro qi23 (And.intro (show AddOK (bp23) (ay32 / 1) 0 aa23 ba23 by simp only [Nat.div_one]; exact qa23) (And.intro qp23 (And.intro qi13 (And.intro (show AddOK (bp13) (ay22 / 1) 0 aa13 ba13 by simp only [Nat.div_one]; exact qa13) (And.intro qp13 (And.intro qi03 (And.intro (show AddOK (bp03) (ay12 / 1) 0 aa03 ba03 by simp only [Nat.div_one]; exact qa03) (And.intro qp03 (And.intro (show AddOK (aty2 / 1) (am32 + bn32 + by32) 0 atw2 btw2 by simp only [Nat.div_one]; exact qtw2) (And.intro qy32 (And.intro (show AddOK (bm32) (ai32 / 1) 0 an32 bn32 by simp only [Nat.div_one]; exact qn32) (And.intro (show MulOK (ai02 / 1 * 18446744069414584319) (8353516859464449352) am32 bm32 by simp only [Nat.div_one]; exact qm32) (And.intro qy22 (And.intro (show AddOK (bm22) (ai22 / 1) 0 an22 bn22 by simp only [Nat.div_one]; exact qn22) (And.intro (show MulOK (ai02 / 1 * 18446744069414584319) (3691218898639771653) am22 bm22 by simp only [Nat.div_one]; exact qm22) (And.intro qy12 (And.intro (show AddOK (bm12) (ai12 / 1) 0 an12 bn12 by simp only [Nat.div_one]; exact qn12) (And.intro (show MulOK (ai02 / 1 * 18446744069414584319) (6034159408538082302) am12 bm12 by simp only [Nat.div_one]; exact qm12) (And.intro (show AddOK (br02) (ai02 / 1) 0 au02 bu02 by simp only [Nat.div_one]; exact qu02) (And.intro (show MulOK (ai02 / 1 * 18446744069414584319) (18446744069414584321) ar02 br02 by simp only [Nat.div_one]; exact qr02) (And.intro (show AddOK ((bty1 / 1 + btw1) / 1) (ap32 + ba32 + bi32) 0 aty2 bty2 by simp only [Nat.div_one]; exact qty2) (And.intro qi32 (And.intro (show AddOK (bp32) (atw1 / 1) 0 aa32 ba32 by simp only [Nat.div_one]; exact qa32) (And.intro qp32 (And.intro qi22 (And.intro (show AddOK (bp22) (ay31 / 1) 0 aa22 ba22 by simp only [Nat.div_one]; exact qa22) (And.intro qp22 (And.intro qi12 (And.intro (show AddOK (bp12) (ay21 / 1) 0 aa12 ba12 by simp only [Nat.div_one]; exact qa12) (And.intro qp12 (And.intro qi02 (And.intro (show AddOK (bp02) (ay11 / 1) 0 aa02 ba02 by simp only [Nat.div_one]; exact qa02) (And.intro qp02 (And.intro (show AddOK (aty1 / 1) (am31 + bn31 + by31) 0 atw1 btw1 by simp only [Nat.div_one]; exact qtw1) (And.intro qy31 (And.intro (show AddOK (bm31) (ai31 / 1) 0 an31 bn31 by simp only [Nat.div_one]; exact qn31) (And.intro (show MulOK (ai01 / 1 * 18446744069414584319) (8353516859464449352) am31 bm31 by simp only [Nat.div_one]; exact qm31) (And.intro qy21 (And.intro (show AddOK (bm21) (ai21 / 1) 0 an21 bn21 by simp only [Nat.div_one]; exact qn21) (And.intro (show MulOK (ai01 / 1 * 18446744069414584319) (3691218898639771653) am21 bm21 by simp only [Nat.div_one]; exact qm21) (And.intro qy11 (And.intro (show AddOK (bm11) (ai11 / 1) 0 an11 bn11 by simp only [Nat.div_one]; exact qn11) (And.intro (show MulOK (ai01 / 1 * 18446744069414584319) (6034159408538082302) am11 bm11 by simp only [Nat.div_one]; exact qm11) (And.intro (show AddOK (br01) (ai01 / 1) 0 au01 bu01 by simp only [Nat.div_one]; exact qu01) (And.intro (show MulOK (ai01 / 1 * 18446744069414584319) (18446744069414584321) ar01 br01 by simp only [Nat.div_one]; exact qr01) (And.intro (show AddOK ((bty0 / 1 + btw0) / 1) (ap31 + ba31 + bi31) 0 aty1 bty1 by simp only [Nat.div_one]; exact qty1) (And.intro qi31 (And.intro (show AddOK (bp31) (atw0 / 1) 0 aa31 ba31 by simp only [Nat.div_one]; exact qa31) (And.intro qp31 (And.intro qi21 (And.intro (show AddOK (bp21) (ay30 / 1) 0 aa21 ba21 by simp only [Nat.div_one]; exact qa21) (And.intro qp21 (And.intro qi11 (And.intro (show AddOK (bp11) (ay20 / 1) 0 aa11 ba11 by simp only [Nat.div_one]; exact qa11) (And.intro qp11 (And.intro qi01 (And.intro (show AddOK (bp01) (ay10 / 1) 0 aa01 ba01 by simp only [Nat.div_one]; exact qa01) (And.intro qp01 (And.intro (show AddOK (aty0 / 1) (am30 + bn30 + by30) 0 atw0 btw0 by simp only [Nat.div_one]; exact qtw0) (And.intro qy30 (And.intro (show AddOK (bm30) (ai30 / 1) 0 an30 bn30 by simp only [Nat.div_one]; exact qn30) (And.intro (show MulOK (ai00 / 1 * 18446744069414584319) (8353516859464449352) am30 bm30 by simp only [Nat.div_one]; exact qm30) (And.intro qy20 (And.intro (show AddOK (bm20) (ai20 / 1) 0 an20 bn20 by simp only [Nat.div_one]; exact qn20) (And.intro (show MulOK (ai00 / 1 * 18446744069414584319) (3691218898639771653) am20 bm20 by simp only [Nat.div_one]; exact qm20) (And.intro qy10 (And.intro (show AddOK (bm10) (ai10 / 1) 0 an10 bn10 by simp only [Nat.div_one]; exact qn10) (And.intro (show MulOK (ai00 / 1 * 18446744069414584319) (6034159408538082302) am10 bm10 by simp only [Nat.div_one]; exact qm10) (And.intro (show AddOK (br00) (ai00 / 1) 0 au00 bu00 by simp only [Nat.div_one]; exact qu00) (And.intro (show MulOK (ai00 / 1 * 18446744069414584319) (18446744069414584321) ar00 br00 by simp only [Nat.div_one]; exact qr00) (And.intro qty0 (And.intro qi30 (And.intro qa30 (And.intro qp30 (And.intro qi20 (And.intro qa20 (And.intro qp20 (And.intro qi10 (And.intro qa10 (And.intro qp10 (And.intro qi00 (And.intro qa00 (And.intro qp00 trivial)))))))))))))))))))))))))))))))))))))))))))))))))))))))))))))))))))))))))))))))))))))))))))))))))))))))))

end Go.Proofs.Ytobgpmclgacbmaa

/- Contracts of core's S: the way out. -/
set_option linter.unusedSimpArgs false
set_option linter.unusedVariables false
namespace Go.Proofs.Ytobgpmclgacbmaa
open Go.Ev Go.RowKit

set_option maxHeartbeats 4000000 in
theorem outSN (a : Nat) (ha : a < 115792089237316195423570985008687907853269984665640564039457584007913129639936) : ∃ v, v < 52435875175126190479447740508185965837690552500527637822603658699938581184513 ∧ (v * 115792089237316195423570985008687907853269984665640564039457584007913129639936) % 52435875175126190479447740508185965837690552500527637822603658699938581184513 = (a * 1) % 52435875175126190479447740508185965837690552500527637822603658699938581184513 ∧ Gives Try.prog 57 [.t (.ag [.n 4 a])] (.ag [.n 4 v]) := by
  have hB : 1 = 1 % 18446744073709551616 + 18446744073709551616 * (0 % 18446744073709551616 + 18446744073709551616 * (0 % 18446744073709551616 + 18446744073709551616 * (0 % 18446744073709551616 + 18446744073709551616 * (0)))) := by simp only [Nat.reduceMod, Nat.reduceMul, Nat.reduceAdd]
  have hT0 : 0 = 0 % 18446744073709551616 + 18446744073709551616 * (0 % 18446744073709551616 + 18446744073709551616 * (0 % 18446744073709551616 + 18446744073709551616 * (0 % 18446744073709551616 + 18446744073709551616 * (0 % 18446744073709551616 + 18446744073709551616 * (0))))) := by simp only [Nat.zero_mod, Nat.mul_zero, Nat.add_zero]
  obtain ⟨ap00, bp00, qp00⟩ := mul_ex (a / 1) (1)
  obtain ⟨aa00, ba00, qa00⟩ := add_ex (bp00) (0) 0 (by decide)
  obtain ⟨ai00, bi00, qi00⟩ := add_ex (aa00) (0) 0 (by decide)
  obtain ⟨ap10, bp10, qp10⟩ := mul_ex (a / 1) (0)
  obtain ⟨aa10, ba10, qa10⟩ := add_ex (bp10) (0) 0 (by decide)
  obtain ⟨ai10, bi10, qi10⟩ := add_ex (aa10) (ap00 + ba00 + bi00) 0 (by decide)
  obtain ⟨ap20, bp20, qp20⟩ := mul_ex (a / 1) (0)
  obtain ⟨aa20, ba20, qa20⟩ := add_ex (bp20) (0) 0 (by decide)
  obtain ⟨ai20, bi20, qi20⟩ := add_ex (aa20) (ap10 + ba10 + bi10) 0 (by decide)
  obtain ⟨ap30, bp30, qp30⟩ := mul_ex (a / 1) (0)
  obtain ⟨aa30, ba30, qa30⟩ := add_ex (bp30) (0) 0 (by decide)
  obtain ⟨ai30, bi30, qi30⟩ := add_ex (aa30) (ap20 + ba20 + bi20) 0 (by decide)
  obtain ⟨aty0, bty0, qty0⟩ := add_ex (0) (ap30 + ba30 + bi30) 0 (by decide)
  obtain ⟨ar00, br00, qr00⟩ := mul_ex (ai00 * 18446744069414584319) (18446744069414584321)
  obtain ⟨au00, bu00, qu00⟩ := add_ex (br00) (ai00) 0 (by decide)
  obtain ⟨am10, bm10, qm10⟩ := mul_ex (ai00 * 18446744069414584319) (6034159408538082302)
  obtain ⟨an10, bn10, qn10⟩ := add_ex (bm10) (ai10) 0 (by decide)
  obtain ⟨ay10, by10, qy10⟩ := add_ex (an10) (ar00 + bu00) 0 (by decide)
  obtain ⟨am20, bm20, qm20⟩ := mul_ex (ai00 * 18446744069414584319) (3691218898639771653)
  obtain ⟨an20, bn20, qn20⟩ := add_ex (bm20) (ai20) 0 (by decide)
  obtain ⟨ay20, by20, qy20⟩ := add_ex (an20) (am10 + bn10 + by10) 0 (by decide)
  obtain ⟨am30, bm30, qm30⟩ := mul_ex (ai00 * 18446744069414584319) (8353516859464449352)
  obtain ⟨an30, bn30, qn30⟩ := add_ex (bm30) (ai30) 0 (by decide)
  obtain ⟨ay30, by30, qy30⟩ := add_ex (an30) (am20 + bn20 + by20) 0 (by decide)
  obtain ⟨atw0, btw0, qtw0⟩ := add_ex (aty0) (am30 + bn30 + by30) 0 (by decide)
  obtain ⟨T1, Q0, hT1, hE0, hL1, hQ0⟩ := roundBS hT0 hB (by omega) (by decide) qp00 qa00 qi00 qp10 qa10 qi10 qp20 qa20 qi20 qp30 qa30 qi30 qty0 qr00 qu00 qm10 qn10 qy10 qm20 qn20 qy20 qm30 qn30 qy30 qtw0
  obtain ⟨ap01, bp01, qp01⟩ := mul_ex (a / 18446744073709551616) (1)
  obtain ⟨aa01, ba01, qa01⟩ := add_ex (bp01) (ay10) 0 (by decide)
  obtain ⟨ai01, bi01, qi01⟩ := add_ex (aa01) (0) 0 (by decide)
  obtain ⟨ap11, bp11, qp11⟩ := mul_ex (a / 18446744073709551616) (0)
  obtain ⟨aa11, ba11, qa11⟩ := add_ex (bp11) (ay20) 0 (by decide)
  obtain ⟨ai11, bi11, qi11⟩ := add_ex (aa11) (ap01 + ba01 + bi01) 0 (by decide)
  obtain ⟨ap21, bp21, qp21⟩ := mul_ex (a / 18446744073709551616) (0)
  obtain ⟨aa21, ba21, qa21⟩ := add_ex (bp21) (ay30) 0 (by decide)
  obtain ⟨ai21, bi21, qi21⟩ := add_ex (aa21) (ap11 + ba11 + bi11) 0 (by decide)
  obtain ⟨ap31, bp31, qp31⟩ := mul_ex (a / 18446744073709551616) (0)
  obtain ⟨aa31, ba31, qa31⟩ := add_ex (bp31) (atw0) 0 (by decide)
  obtain ⟨ai31, bi31, qi31⟩ := add_ex (aa31) (ap21 + ba21 + bi21) 0 (by decide)
  obtain ⟨aty1, bty1, qty1⟩ := add_ex (bty0 + btw0) (ap31 + ba31 + bi31) 0 (by decide)
  obtain ⟨ar01, br01, qr01⟩ := mul_ex (ai01 * 18446744069414584319) (18446744069414584321)
  obtain ⟨au01, bu01, qu01⟩ := add_ex (br01) (ai01) 0 (by decide)
  obtain ⟨am11, bm11, qm11⟩ := mul_ex (ai01 * 18446744069414584319) (6034159408538082302)
  obtain ⟨an11, bn11, qn11⟩ := add_ex (bm11) (ai11) 0 (by decide)
  obtain ⟨ay11, by11, qy11⟩ := add_ex (an11) (ar01 + bu01) 0 (by decide)
  obtain ⟨am21, bm21, qm21⟩ := mul_ex (ai01 * 18446744069414584319) (3691218898639771653)
  obtain ⟨an21, bn21, qn21⟩ := add_ex (bm21) (ai21) 0 (by decide)
  obtain ⟨ay21, by21, qy21⟩ := add_ex (an21) (am11 + bn11 + by11) 0 (by decide)
  obtain ⟨am31, bm31, qm31⟩ := mul_ex (ai01 * 18446744069414584319) (8353516859464449352)
  obtain ⟨an31, bn31, qn31⟩ := add_ex (bm31) (ai31) 0 (by decide)
  obtain ⟨ay31, by31, qy31⟩ := add_ex (an31) (am21 + bn21 + by21) 0 (by decide)
  obtain ⟨atw1, btw1, qtw1⟩ := add_ex (aty1) (am31 + bn31 + by31) 0 (by decide)
  obtain ⟨T2, Q1, hT2, hE1, hL2, hQ1⟩ := roundBS hT1 hB hL1 (by decide) qp01 qa01 qi01 qp11 qa11 qi11 qp21 qa21 qi21 qp31 qa31 qi31 qty1 qr01 qu01 qm11 qn11 qy11 qm21 qn21 qy21 qm31 qn31 qy31 qtw1
  obtain ⟨ap02, bp02, qp02⟩ := mul_ex (a / 340282366920938463463374607431768211456) (1)
  obtain ⟨aa02, ba02, qa02⟩ := add_ex (bp02) (ay11) 0 (by decide)
  obtain ⟨ai02, bi02, qi02⟩ := add_ex (aa02) (0) 0 (by decide)
  obtain ⟨ap12, bp12, qp12⟩ := mul_ex (a / 340282366920938463463374607431768211456) (0)
  obtain ⟨aa12, ba12, qa12⟩ := add_ex (bp12) (ay21) 0 (by decide)
  obtain ⟨ai12, bi12, qi12⟩ := add_ex (aa12) (ap02 + ba02 + bi02) 0 (by decide)
  obtain ⟨ap22, bp22, qp22⟩ := mul_ex (a / 340282366920938463463374607431768211456) (0)
  obtain ⟨aa22, ba22, qa22⟩ := add_ex (bp22) (ay31) 0 (by decide)
  obtain ⟨ai22, bi22, qi22⟩ := add_ex (aa22) (ap12 + ba12 + bi12) 0 (by decide)
  obtain ⟨ap32, bp32, qp32⟩ := mul_ex (a / 340282366920938463463374607431768211456) (0)
  obtain ⟨aa32, ba32, qa32⟩ := add_ex (bp32) (atw1) 0 (by decide)
  obtain ⟨ai32, bi32, qi32⟩ := add_ex (aa32) (ap22 + ba22 + bi22) 0 (by decide)
  obtain ⟨aty2, bty2, qty2⟩ := add_ex (bty1 + btw1) (ap32 + ba32 + bi32) 0 (by decide)
  obtain ⟨ar02, br02, qr02⟩ := mul_ex (ai02 * 18446744069414584319) (18446744069414584321)
  obtain ⟨au02, bu02, qu02⟩ := add_ex (br02) (ai02) 0 (by decide)
  obtain ⟨am12, bm12, qm12⟩ := mul_ex (ai02 * 18446744069414584319) (6034159408538082302)
  obtain ⟨an12, bn12, qn12⟩ := add_ex (bm12) (ai12) 0 (by decide)
  obtain ⟨ay12, by12, qy12⟩ := add_ex (an12) (ar02 + bu02) 0 (by decide)
  obtain ⟨am22, bm22, qm22⟩ := mul_ex (ai02 * 18446744069414584319) (3691218898639771653)
  obtain ⟨an22, bn22, qn22⟩ := add_ex (bm22) (ai22) 0 (by decide)
  obtain ⟨ay22, by22, qy22⟩ := add_ex (an22) (am12 + bn12 + by12) 0 (by decide)
  obtain ⟨am32, bm32, qm32⟩ := mul_ex (ai02 * 18446744069414584319) (8353516859464449352)
  obtain ⟨an32, bn32, qn32⟩ := add_ex (bm32) (ai32) 0 (by decide)
  obtain ⟨ay32, by32, qy32⟩ := add_ex (an32) (am22 + bn22 + by22) 0 (by decide)
  obtain ⟨atw2, btw2, qtw2⟩ := add_ex (aty2) (am32 + bn32 + by32) 0 (by decide)
  obtain ⟨T3, Q2, hT3, hE2, hL3, hQ2⟩ := roundBS hT2 hB hL2 (by decide) qp02 qa02 qi02 qp12 qa12 qi12 qp22 qa22 qi22 qp32 qa32 qi32 qty2 qr02 qu02 qm12 qn12 qy12 qm22 qn22 qy22 qm32 qn32 qy32 qtw2
  obtain ⟨ap03, bp03, qp03⟩ := mul_ex (a / 6277101735386680763835789423207666416102355444464034512896) (1)
  obtain ⟨aa03, ba03, qa03⟩ := add_ex (bp03) (ay12) 0 (by decide)
  obtain ⟨ai03, bi03, qi03⟩ := add_ex (aa03) (0) 0 (by decide)
  obtain ⟨ap13, bp13, qp13⟩ := mul_ex (a / 6277101735386680763835789423207666416102355444464034512896) (0)
  obtain ⟨aa13, ba13, qa13⟩ := add_ex (bp13) (ay22) 0 (by decide)
  obtain ⟨ai13, bi13, qi13⟩ := add_ex (aa13) (ap03 + ba03 + bi03) 0 (by decide)
  obtain ⟨ap23, bp23, qp23⟩ := mul_ex (a / 6277101735386680763835789423207666416102355444464034512896) (0)
  obtain ⟨aa23, ba23, qa23⟩ := add_ex (bp23) (ay32) 0 (by decide)
  obtain ⟨ai23, bi23, qi23⟩ := add_ex (aa23) (ap13 + ba13 + bi13) 0 (by decide)
  obtain ⟨ap33, bp33, qp33⟩ := mul_ex (a / 6277101735386680763835789423207666416102355444464034512896) (0)
  obtain ⟨aa33, ba33, qa33⟩ := add_ex (bp33) (atw2) 0 (by decide)
  obtain ⟨ai33, bi33, qi33⟩ := add_ex (aa33) (ap23 + ba23 + bi23) 0 (by decide)
  obtain ⟨aty3, bty3, qty3⟩ := add_ex (bty2 + btw2) (ap33 + ba33 + bi33) 0 (by decide)
  obtain ⟨ar03, br03, qr03⟩ := mul_ex (ai03 * 18446744069414584319) (18446744069414584321)
  obtain ⟨au03, bu03, qu03⟩ := add_ex (br03) (ai03) 0 (by decide)
  obtain ⟨am13, bm13, qm13⟩ := mul_ex (ai03 * 18446744069414584319) (6034159408538082302)
  obtain ⟨an13, bn13, qn13⟩ := add_ex (bm13) (ai13) 0 (by decide)
  obtain ⟨ay13, by13, qy13⟩ := add_ex (an13) (ar03 + bu03) 0 (by decide)
  obtain ⟨am23, bm23, qm23⟩ := mul_ex (ai03 * 18446744069414584319) (3691218898639771653)
  obtain ⟨an23, bn23, qn23⟩ := add_ex (bm23) (ai23) 0 (by decide)
  obtain ⟨ay23, by23, qy23⟩ := add_ex (an23) (am13 + bn13 + by13) 0 (by decide)
  obtain ⟨am33, bm33, qm33⟩ := mul_ex (ai03 * 18446744069414584319) (8353516859464449352)
  obtain ⟨an33, bn33, qn33⟩ := add_ex (bm33) (ai33) 0 (by decide)
  obtain ⟨ay33, by33, qy33⟩ := add_ex (an33) (am23 + bn23 + by23) 0 (by decide)
  obtain ⟨atw3, btw3, qtw3⟩ := add_ex (aty3) (am33 + bn33 + by33) 0 (by decide)
  obtain ⟨T4, Q3, hT4, hE3, hL4, hQ3⟩ := roundBS hT3 hB hL3 (by decide) qp03 qa03 qi03 qp13 qa13 qi13 qp23 qa23 qi23 qp33 qa33 qi33 qty3 qr03 qu03 qm13 qn13 qy13 qm23 qn23 qy23 qm33 qn33 qy33 qtw3
  obtain ⟨d0, k0, q0⟩ := sub_ex (ay13) 18446744069414584321 0 (by decide)
  obtain ⟨d1, k1, q1⟩ := sub_ex (ay23) 6034159408538082302 k0 q0.2.2.2
  obtain ⟨d2, k2, q2⟩ := sub_ex (ay33) 3691218898639771653 k1 q1.2.2.2
  obtain ⟨d3, k3, q3⟩ := sub_ex (atw3) 8353516859464449352 k2 q2.2.2.2
  obtain ⟨h1, h2, h3, h4⟩ := subs4 q0 q1 q2 q3
  simp only [Nat.reduceMod, Nat.reduceMul, Nat.reduceAdd] at h1
  have hm : (bty3 + btw3) % 18446744073709551616 = 0 ∧ ay13 % 18446744073709551616 + 18446744073709551616 * (ay23 % 18446744073709551616 + 18446744073709551616 * (ay33 % 18446744073709551616 + 18446744073709551616 * (atw3 % 18446744073709551616 + 18446744073709551616 * (0)))) = T4 := by
    have e := hT4
    have l := hL4
    clear q0 q1 q2 q3 h1 h2 h4 hT1 hL1 hT2 hL2 hT3 hL3 hT4 hL4 hE0 hE1 hE2 hE3
    generalize ay13 % 18446744073709551616 = Z0 at *
    generalize ay23 % 18446744073709551616 = Z1 at *
    generalize ay33 % 18446744073709551616 = Z2 at *
    generalize atw3 % 18446744073709551616 = Z3 at *
    generalize (bty3 + btw3) % 18446744073709551616 = Zm at *
    omega
  rw [hm.2] at h1
  refine ⟨T4 % 52435875175126190479447740508185965837690552500527637822603658699938581184513, Nat.mod_lt _ (by decide), finS (hor4 a ha) hE0 hE1 hE2 hE3, ?_⟩
  by_cases hk : k3 = 0
  · have hv : T4 % 52435875175126190479447740508185965837690552500527637822603658699938581184513 = d0 % 18446744073709551616 + 18446744073709551616 * (d1 % 18446744073709551616 + 18446744073709551616 * (d2 % 18446744073709551616 + 18446744073709551616 * (d3 % 18446744073709551616 + 18446744073709551616 * (0)))) := by
      rw [h2]
      generalize d0 + 18446744073709551616 * (d1 + 18446744073709551616 * (d2 + 18446744073709551616 * (d3 + 18446744073709551616 * (0)))) = D at *
      have l := hL4
      clear q0 q1 q2 q3 hm hT1 hL1 hT2 hL2 hT3 hL3 hT4 hL4 hE0 hE1 hE2 hE3
      omega
    rw [hv]
    refine joinS (l := [.n 1 d0, .n 1 d1, .n 1 d2, .n 1 d3]) ?_ rfl
    exact fn_gives (P := Try.prog) (env := [eSub64, eAdd64, eMul64, eRS]) ⟨eSub64_ok, eAdd64_ok, eMul64_ok, eRS_ok, trivial⟩ Try.func57 2 (oN [(39, ap00, bp00), (49, aa00, ba00), (61, ai00, bi00), (85, ap10, bp10), (95, aa10, ba10), (107, ai10, bi10), (131, ap20, bp20), (141, aa20, ba20), (153, ai20, bi20), (177, ap30, bp30), (187, aa30, ba30), (199, ai30, bi30), (222, aty0, bty0), (243, ar00, br00), (252, au00, bu00), (270, am10, bm10), (280, an10, bn10), (292, ay10, by10), (318, am20, bm20), (328, an20, bn20), (340, ay20, by20), (366, am30, bm30), (376, an30, bn30), (388, ay30, by30), (415, atw0, btw0), (452, ap01, bp01), (462, aa01, ba01), (474, ai01, bi01), (498, ap11, bp11), (508, aa11, ba11), (520, ai11, bi11), (544, ap21, bp21), (554, aa21, ba21), (566, ai21, bi21), (590, ap31, bp31), (600, aa31, ba31), (612, ai31, bi31), (635, aty1, bty1), (656, ar01, br01), (665, au01, bu01), (683, am11, bm11), (693, an11, bn11), (705, ay11, by11), (731, am21, bm21), (741, an21, bn21), (753, ay21, by21), (779, am31, bm31), (789, an31, bn31), (801, ay31, by31), (828, atw1, btw1), (865, ap02, bp02), (875, aa02, ba02), (887, ai02, bi02), (911, ap12, bp12), (921, aa12, ba12), (933, ai12, bi12), (957, ap22, bp22), (967, aa22, ba22), (979, ai22, bi22), (1003, ap32, bp32), (1013, aa32, ba32), (1025, ai32, bi32), (1048, aty2, bty2), (1069, ar02, br02), (1078, au02, bu02), (1096, am12, bm12), (1106, an12, bn12), (1118, ay12, by12), (1144, am22, bm22), (1154, an22, bn22), (1166, ay22, by22), (1192, am32, bm32), (1202, an32, bn32), (1214, ay32, by32), (1241, atw2, btw2), (1278, ap03, bp03), (1288, aa03, ba03), (1300, ai03, bi03), (1324, ap13, bp13), (1334, aa13, ba13), (1346, ai13, bi13), (1370, ap23, bp23), (1380, aa23, ba23), (1392, ai23, bi23), (1416, ap33, bp33), (1426, aa33, ba33), (1438, ai33, bi33), (1461, aty3, bty3), (1482, ar03, br03), (1491, au03, bu03), (1509, am13, bm13), (1519, an13, bn13), (1531, ay13, by13), (1557, am23, bm23), (1567, an23, bn23), (1579, ay23, by23), (1605, am33, bm33), (1615, an33, bn33), (1627, ay33, by33), (1654, atw3, btw3), (1699, d0, k0), (1721, d1, k1), (1743, d2, k2), (1765, d3, k3)] [(1777, 1)]) (by kernel_rfl)
      (And.intro (show decide (k3 % 18446744073709551616 ≤ ((bty3 / 1 + btw3) / 1) % 18446744073709551616) = true by simp only [Nat.div_one, hk, hm.1]; rfl) (And.intro (show SubOK (atw3 / 1) 8353516859464449352 k2 d3 k3 by simp only [Nat.div_one]; exact q3) (And.intro (show SubOK (ay33 / 1) 3691218898639771653 k1 d2 k2 by simp only [Nat.div_one]; exact q2) (And.intro (show SubOK (ay23 / 1) 6034159408538082302 k0 d1 k1 by simp only [Nat.div_one]; exact q1) (And.intro (show SubOK (ay13 / 1) 18446744069414584321 0 d0 k0 by simp only [Nat.div_one]; exact q0) (And.intro (show AddOK (aty3 / 1) (am33 + bn33 + by33) 0 atw3 btw3 by simp only [Nat.div_one]; exact qtw3) (And.intro qy33 (And.intro (show AddOK (bm33) (ai33 / 1) 0 an33 bn33 by simp only [Nat.div_one]; exact qn33) (And.intro (show MulOK (ai03 / 1 * 18446744069414584319) (8353516859464449352) am33 bm33 by simp only [Nat.div_one]; exact qm33) (And.intro qy23 (And.intro (show AddOK (bm23) (ai23 / 1) 0 an23 bn23 by simp only [Nat.div_one]; exact qn23) (And.intro (show MulOK (ai03 / 1 * 18446744069414584319) (3691218898639771653) am23 bm23 by simp only [Nat.div_one]; exact qm23) (And.intro qy13 (And.intro (show AddOK (bm13) (ai13 / 1) 0 an13 bn13 by simp only [Nat.div_one]; exact qn13) (And.intro (show MulOK (ai03 / 1 * 18446744069414584319) (6034159408538082302) am13 bm13 by simp only [Nat.div_one]; exact qm13) (And.intro (show AddOK (br03) (ai03 / 1) 0 au03 bu03 by simp only [Nat.div_one]; exact qu03) (And.intro (show MulOK (ai03 / 1 * 18446744069414584319) (18446744069414584321) ar03 br03 by simp only [Nat.div_one]; exact qr03) (And.intro (show AddOK ((bty2 / 1 + btw2) / 1) (ap33 + ba33 + bi33) 0 aty3 bty3 by simp only [Nat.div_one]; exact qty3) (And.intro qi33 (And.intro (show AddOK (bp33) (atw2 / 1) 0 aa33 ba33 by simp only [Nat.div_one]; exact qa33) (And.intro qp33 (And.intro qi23 (And.intro (show AddOK (bp23) (ay32 / 1) 0 aa23 ba23 by simp only [Nat.div_one]; exact qa23) (And.intro qp23 (And.intro qi13 (And.intro (show AddOK (bp13) (ay22 / 1) 0 aa13 ba13 by simp only [Nat.div_one]; exact qa13) (And.intro qp13 (And.intro qi03 (And.intro (show AddOK (bp03) (ay12 / 1) 0 aa03 ba03 by simp only [Nat.div_one]; exact qa03) (And.intro qp03 (And.intro (show AddOK (aty2 / 1) (am32 + bn32 + by32) 0 atw2 btw2 by simp only [Nat.div_one]; exact qtw2) (And.intro qy32 (And.intro (show AddOK (bm32) (ai32 / 1) 0 an32 bn32 by simp only [Nat.div_one]; exact qn32) (And.intro (show MulOK (ai02 / 1 * 18446744069414584319) (8353516859464449352) am32 bm32 by simp only [Nat.div_one]; exact qm32) (And.intro qy22 (And.intro (show AddOK (bm22) (ai22 / 1) 0 an22 bn22 by simp only [Nat.div_one]; exact qn22) (And.intro (show MulOK (ai02 / 1 * 18446744069414584319) (3691218898639771653) am22 bm22 by simp only [Nat.div_one]; exact qm22) (And.intro qy12 (And.intro (show AddOK (bm12) (ai12 / 1) 0 an12 bn12 by simp only [Nat.div_one]; exact qn12) (And.intro (show MulOK (ai02 / 1 * 18446744069414584319) (6034159408538082302) am12 bm12 by simp only [Nat.div_one]; exact qm12) (And.intro (show AddOK (br02) (ai02 / 1) 0 au02 bu02 by simp only [Nat.div_one]; exact qu02) (And.intro (show MulOK (ai02 / 1 * 18446744069414584319) (18446744069414584321) ar02 br02 by simp only [Nat.div_one]; exact qr02) (And.intro (show AddOK ((bty1 / 1 + btw1) / 1) (ap32 + ba32 + bi32) 0 aty2 bty2 by simp only [Nat.div_one]; exact qty2) (And.intro qi32 (And.intro (show AddOK (bp32) (atw1 / 1) 0 aa32 ba32 by simp only [Nat.div_one]; exact qa32) (And.intro qp32 (And.intro qi22 (And.intro (show AddOK (bp22) (ay31 / 1) 0 aa22 ba22 by simp only [Nat.div_one]; exact qa22) (And.intro qp22 (And.intro qi12 (And.intro (show AddOK (bp12) (ay21 / 1) 0 aa12 ba12 by simp only [Nat.div_one]; exact qa12) (And.intro qp12 (And.intro qi02 (And.intro (show AddOK (bp02) (ay11 / 1) 0 aa02 ba02 by simp only [Nat.div_one]; exact qa02) (And.intro qp02 (And.intro (show AddOK (aty1 / 1) (am31 + bn31 + by31) 0 atw1 btw1 by simp only [Nat.div_one]; exact qtw1) (And.intro qy31 (And.intro (show AddOK (bm31) (ai31 / 1) 0 an31 bn31 by simp only [Nat.div_one]; exact qn31) (And.intro (show MulOK (ai01 / 1 * 18446744069414584319) (8353516859464449352) am31 bm31 by simp only [Nat.div_one]; exact qm31) (And.intro qy21 (And.intro (show AddOK (bm21) (ai21 / 1) 0 an21 bn21 by simp only [Nat.div_one]; exact qn21) (And.intro (show MulOK (ai01 / 1 * 18446744069414584319) (3691218898639771653) am21 bm21 by simp only [Nat.div_one]; exact qm21) (And.intro qy11 (And.intro (show AddOK (bm11) (ai11 / 1) 0 an11 bn11 by simp only [Nat.div_one]; exact qn11) (And.intro (show MulOK (ai01 / 1 * 18446744069414584319) (6034159408538082302) am11 bm11 by simp only [Nat.div_one]; exact qm11) (And.intro (show AddOK (br01) (ai01 / 1) 0 au01 bu01 by simp only [Nat.div_one]; exact qu01) (And.intro (show MulOK (ai01 / 1 * 18446744069414584319) (18446744069414584321) ar01 br01 by simp only [Nat.div_one]; exact qr01) (And.intro (show AddOK ((bty0 / 1 + btw0) / 1) (ap31 + ba31 + bi31) 0 aty1 bty1 by simp only [Nat.div_one]; exact qty1) (And.intro qi31 (And.intro (show AddOK (bp31) (atw0 / 1) 0 aa31 ba31 by simp only [Nat.div_one]; exact qa31) (And.intro qp31 (And.intro qi21 (And.intro (show AddOK (bp21) (ay30 / 1) 0 aa21 ba21 by simp only [Nat.div_one]; exact qa21) (And.intro qp21 (And.intro qi11 (And.intro (show AddOK (bp11) (ay20 / 1) 0 aa11 ba11 by simp only [Nat.div_one]; exact qa11) (And.intro qp11 (And.intro qi01 (And.intro (show AddOK (bp01) (ay10 / 1) 0 aa01 ba01 by simp only [Nat.div_one]; exact qa01) (And.intro qp01 (And.intro (show AddOK (aty0 / 1) (am30 + bn30 + by30) 0 atw0 btw0 by simp only [Nat.div_one]; exact qtw0) (And.intro qy30 (And.intro (show AddOK (bm30) (ai30 / 1) 0 an30 bn30 by simp only [Nat.div_one]; exact qn30) (And.intro (show MulOK (ai00 / 1 * 18446744069414584319) (8353516859464449352) am30 bm30 by simp only [Nat.div_one]; exact qm30) (And.intro qy20 (And.intro (show AddOK (bm20) (ai20 / 1) 0 an20 bn20 by simp only [Nat.div_one]; exact qn20) (And.intro (show MulOK (ai00 / 1 * 18446744069414584319) (3691218898639771653) am20 bm20 by simp only [Nat.div_one]; exact qm20) (And.intro qy10 (And.intro (show AddOK (bm10) (ai10 / 1) 0 an10 bn10 by simp only [Nat.div_one]; exact qn10) (And.intro (show MulOK (ai00 / 1 * 18446744069414584319) (6034159408538082302) am10 bm10 by simp only [Nat.div_one]; exact qm10) (And.intro (show AddOK (br00) (ai00 / 1) 0 au00 bu00 by simp only [Nat.div_one]; exact qu00) (And.intro (show MulOK (ai00 / 1 * 18446744069414584319) (18446744069414584321) ar00 br00 by simp only [Nat.div_one]; exact qr00) (And.intro qty0 (And.intro qi30 (And.intro qa30 (And.intro qp30 (And.intro qi20 (And.intro qa20 (And.intro qp20 (And.intro qi10 (And.intro qa10 (And.intro qp10 (And.intro qi00 (And.intro qa00 (And.intro qp00 trivial)))))))))))))))))))))))))))))))))))))))))))))))))))))))))))))))))))))))))))))))))))))))))))))))))))))))))
  · have hv : T4 % 52435875175126190479447740508185965837690552500527637822603658699938581184513 = ay13 % 18446744073709551616 + 18446744073709551616 * (ay23 % 18446744073709551616 + 18446744073709551616 * (ay33 % 18446744073709551616 + 18446744073709551616 * (atw3 % 18446744073709551616 + 18446744073709551616 * (0)))) := by
      rw [hm.2]
      generalize d0 + 18446744073709551616 * (d1 + 18446744073709551616 * (d2 + 18446744073709551616 * (d3 + 18446744073709551616 * (0)))) = D at *
      have l := hL4
      clear q0 q1 q2 q3 hm hT1 hL1 hT2 hL2 hT3 hL3 hT4 hL4 hE0 hE1 hE2 hE3
      omega
    rw [hv]
    refine joinS (l := [.n 1 ay13, .n 1 ay23, .n 1 ay33, .n 1 atw3]) ?_ rfl
    exact fn_gives (P := Try.prog) (env := [eSub64, eAdd64, eMul64, eRS]) ⟨eSub64_ok, eAdd64_ok, eMul64_ok, eRS_ok, trivial⟩ Try.func57 2 (oN [(39, ap00, bp00), (49, aa00, ba00), (61, ai00, bi00), (85, ap10, bp10), (95, aa10, ba10), (107, ai10, bi10), (131, ap20, bp20), (141, aa20, ba20), (153, ai20, bi20), (177, ap30, bp30), (187, aa30, ba30), (199, ai30, bi30), (222, aty0, bty0), (243, ar00, br00), (252, au00, bu00), (270, am10, bm10), (280, an10, bn10), (292, ay10, by10), (318, am20, bm20), (328, an20, bn20), (340, ay20, by20), (366, am30, bm30), (376, an30, bn30), (388, ay30, by30), (415, atw0, btw0), (452, ap01, bp01), (462, aa01, ba01), (474, ai01, bi01), (498, ap11, bp11), (508, aa11, ba11), (520, ai11, bi11), (544, ap21, bp21), (554, aa21, ba21), (566, ai21, bi21), (590, ap31, bp31), (600, aa31, ba31), (612, ai31, bi31), (635, aty1, bty1), (656, ar01, br01), (665, au01, bu01), (683, am11, bm11), (693, an11, bn11), (705, ay11, by11), (731, am21, bm21), (741, an21, bn21), (753, ay21, by21), (779, am31, bm31), (789, an31, bn31), (801, ay31, by31), (828, atw1, btw1), (865, ap02, bp02), (875, aa02, ba02), (887, ai02, bi02), (911, ap12, bp12), (921, aa12, ba12), (933, ai12, bi12), (957, ap22, bp22), (967, aa22, ba22), (979, ai22, bi22), (1003, ap32, bp32), (1013, aa32, ba32), (1025, ai32, bi32), (1048, aty2, bty2), (1069, ar02, br02), (1078, au02, bu02), (1096, am12, bm12), (1106, an12, bn12), (1118, ay12, by12), (1144, am22, bm22), (1154, an22, bn22), (1166, ay22, by22), (1192, am32, bm32), (1202, an32, bn32), (1214, ay32, by32), (1241, atw2, btw2), (1278, ap03, bp03), (1288, aa03, ba03), (1300, ai03, bi03), (1324, ap13, bp13), (1334, aa13, ba13), (1346, ai13, bi13), (1370, ap23, bp23), (1380, aa23, ba23), (1392, ai23, bi23), (1416, ap33, bp33), (1426, aa33, ba33), (1438, ai33, bi33), (1461, aty3, bty3), (1482, ar03, br03), (1491, au03, bu03), (1509, am13, bm13), (1519, an13, bn13), (1531, ay13, by13), (1557, am23, bm23), (1567, an23, bn23), (1579, ay23, by23), (1605, am33, bm33), (1615, an33, bn33), (1627, ay33, by33), (1654, atw3, btw3), (1699, d0, k0), (1721, d1, k1), (1743, d2, k2), (1765, d3, k3)] [(1777, 2)]) (by kernel_rfl)
      (And.intro (show decide (k3 % 18446744073709551616 ≤ ((bty3 / 1 + btw3) / 1) % 18446744073709551616) = false by have k1 : k3 = 1 := Nat.le_antisymm h3 (Nat.one_le_iff_ne_zero.2 hk); simp only [Nat.div_one, k1, hm.1]; rfl) (And.intro (show SubOK (atw3 / 1) 8353516859464449352 k2 d3 k3 by simp only [Nat.div_one]; exact q3) (And.intro (show SubOK (ay33 / 1) 3691218898639771653 k1 d2 k2 by simp only [Nat.div_one]; exact q2) (And.intro (show SubOK (ay23 / 1) 6034159408538082302 k0 d1 k1 by simp only [Nat.div_one]; exact q1) (And.intro (show SubOK (ay13 / 1) 18446744069414584321 0 d0 k0 by simp only [Nat.div_one]; exact q0) (And.intro (show AddOK (aty3 / 1) (am33 + bn33 + by33) 0 atw3 btw3 by simp only [Nat.div_one]; exact qtw3) (And.intro qy33 (And.intro (show AddOK (bm33) (ai33 / 1) 0 an33 bn33 by simp only [Nat.div_one]; exact qn33) (And.intro (show MulOK (ai03 / 1 * 18446744069414584319) (8353516859464449352) am33 bm33 by simp only [Nat.div_one]; exact qm33) (And.intro qy23 (And.intro (show AddOK (bm23) (ai23 / 1) 0 an23 bn23 by simp only [Nat.div_one]; exact qn23) (And.intro (show MulOK (ai03 / 1 * 18446744069414584319) (3691218898639771653) am23 bm23 by simp only [Nat.div_one]; exact qm23) (And.intro qy13 (And.intro (show AddOK (bm13) (ai13 / 1) 0 an13 bn13 by simp only [Nat.div_one]; exact qn13) (And.intro (show MulOK (ai03 / 1 * 18446744069414584319) (6034159408538082302) am13 bm13 by simp only [Nat.div_one]; exact qm13) (And.intro (show AddOK (br03) (ai03 / 1) 0 au03 bu03 by simp only [Nat.div_one]; exact qu03) (And.intro (show MulOK (ai03 / 1 * 18446744069414584319) (18446744069414584321) ar03 br03 by simp only [Nat.div_one]; exact qr03) (And.intro (show AddOK ((bty2 / 1 + btw2) / 1) (ap33 + ba33 + bi33) 0 aty3 bty3 by simp only [Nat.div_one]; exact qty3) (And.intro qi33 (And.intro (show AddOK (bp33) (atw2 / 1) 0 aa33 ba33 by simp only [Nat.div_one]; exact qa33) (And.intro qp33 (And.intro qi23 (And.intro (show AddOK (bp23) (ay32 / 1) 0 aa23 ba23 by simp only [Nat.div_one]; exact qa23) (And.intro qp23 (And.intro qi13 (And.intro (show AddOK (bp13) (ay22 / 1) 0 aa13 ba13 by simp only [Nat.div_one]; exact qa13) (And.intro qp13 (And.intro qi03 (And.intro (show AddOK (bp03) (ay12 / 1) 0 aa03 ba03 by simp only [Nat.div_one]; exact qa03) (And.intro qp03 (And.intro (show AddOK (aty2 / 1) (am32 + bn32 + by32) 0 atw2 btw2 by simp only [Nat.div_one]; exact qtw2) (And.intro qy32 (And.intro (show AddOK (bm32) (ai32 / 1) 0 an32 bn32 by simp only [Nat.div_one]; exact qn32) (And.intro (show MulOK (ai02 / 1 * 18446744069414584319) (8353516859464449352) am32 bm32 by simp only [Nat.div_one]; exact qm32) (And.intro qy22 (And.intro (show AddOK (bm22) (ai22 / 1) 0 an22 bn22 by simp only [Nat.div_one]; exact qn22) (And.intro (show MulOK (ai02 / 1 * 18446744069414584319) (3691218898639771653) am22 bm22 by simp only [Nat.div_one]; exact qm22) (And.intro qy12 (And.intro (show AddOK (bm12) (ai12 / 1) 0 an12 bn12 by simp only [Nat.div_one]; exact qn12) (And.intro (show MulOK (ai02 / 1 * 18446744069414584319) (6034159408538082302) am12 bm12 by simp only [Nat.div_one]; exact qm12) (And.intro (show AddOK (br02) (ai02 / 1) 0 au02 bu02 by simp only [Nat.div_one]; exact qu02) (And.intro (show MulOK (ai02 / 1 * 18446744069414584319) (18446744069414584321) ar02 br02 by simp only [Nat.div_one]; exact qr02) (And.intro (show AddOK ((bty1 / 1 + btw1) / 1) (ap32 + ba32 + bi32) 0 aty2 bty2 by simp only [Nat.div_one]; exact qty2) (And.intro qi32 (And.intro (show AddOK (bp32) (atw1 / 1) 0 aa32 ba32 by simp only [Nat.div_one]; exact qa32) (And.intro qp32 (And.intro qi22 (And.intro (show AddOK (bp22) (ay31 / 1) 0 aa22 ba22 by simp only [Nat.div_one]; exact qa22) (And.intro qp22 (And.intro qi12 (And.intro (show AddOK (bp12) (ay21 / 1) 0 aa12 ba12 by simp only [Nat.div_one]; exact qa12) (And.intro qp12 (And.intro qi02 (And.intro (show AddOK (bp02) (ay11 / 1) 0 aa02 ba02 by simp only [Nat.div_one]; exact qa02) (And.intro qp02 (And.intro (show AddOK (aty1 / 1) (am31 + bn31 + by31) 0 atw1 btw1 by simp only [Nat.div_one]; exact qtw1) (And.intro qy31 (And.intro (show AddOK (bm31) (ai31 / 1) 0 an31 bn31 by simp only [Nat.div_one]; exact qn31) (And.intro (show MulOK (ai01 / 1 * 18446744069414584319) (8353516859464449352) am31 bm31 by simp only [Nat.div_one]; exact qm31) (And.intro qy21 (And.intro (show AddOK (bm21) (ai21 / 1) 0 an21 bn21 by simp only [Nat.div_one]; exact qn21) (And.intro (show MulOK (ai01 / 1 * 18446744069414584319) (3691218898639771653) am21 bm21 by simp only [Nat.div_one]; exact qm21) (And.intro qy11 (And.intro (show AddOK (bm11) (ai11 / 1) 0 an11 bn11 by simp only [Nat.div_one]; exact qn11) (And.intro (show MulOK (ai01 / 1 * 18446744069414584319) (6034159408538082302) am11 bm11 by simp only [Nat.div_one]; exact qm11) (And.intro (show AddOK (br01) (ai01 / 1) 0 au01 bu01 by simp only [Nat.div_one]; exact qu01) (And.intro (show MulOK (ai01 / 1 * 18446744069414584319) (18446744069414584321) ar01 br01 by simp only [Nat.div_one]; exact qr01) (And.intro (show AddOK ((bty0 / 1 + btw0) / 1) (ap31 + ba31 + bi31) 0 aty1 bty1 by simp only [Nat.div_one]; exact qty1) (And.intro qi31 (And.intro (show AddOK (bp31) (atw0 / 1) 0 aa31 ba31 by simp only [Nat.div_one]; exact qa31) (And.intro qp31 (And.intro qi21 (And.intro (show AddOK (bp21) (ay30 / 1) 0 aa21 ba21 by simp only [Nat.div_one]; exact qa21) (And.intro qp21 (And.intro qi11 (And.intro (show AddOK (bp11) (ay20 / 1) 0 aa11 ba11 by simp only [Nat.div_one]; exact qa11) (And.intro qp11 (And.intro qi01 (And.intro (show AddOK (bp01) (ay10 / 1) 0 aa01 ba01 by simp only [Nat.div_one]; exact qa01) (And.intro qp01 (And.intro (show AddOK (aty0 / 1) (am30 + bn30 + by30) 0 atw0 btw0 by simp only [Nat.div_one]; exact qtw0) (And.intro qy30 (And.intro (show AddOK (bm30) (ai30 / 1) 0 an30 bn30 by simp only [Nat.div_one]; exact qn30) (And.intro (show MulOK (ai00 / 1 * 18446744069414584319) (8353516859464449352) am30 bm30 by simp only [Nat.div_one]; exact qm30) (And.intro qy20 (And.intro (show AddOK (bm20) (ai20 / 1) 0 an20 bn20 by simp only [Nat.div_one]; exact qn20) (And.intro (show MulOK (ai00 / 1 * 18446744069414584319) (3691218898639771653) am20 bm20 by simp only [Nat.div_one]; exact qm20) (And.intro qy10 (And.intro (show AddOK (bm10) (ai10 / 1) 0 an10 bn10 by simp only [Nat.div_one]; exact qn10) (And.intro (show MulOK (ai00 / 1 * 18446744069414584319) (6034159408538082302) am10 bm10 by simp only [Nat.div_one]; exact qm10) (And.intro (show AddOK (br00) (ai00 / 1) 0 au00 bu00 by simp only [Nat.div_one]; exact qu00) (And.intro (show MulOK (ai00 / 1 * 18446744069414584319) (18446744069414584321) ar00 br00 by simp only [Nat.div_one]; exact qr00) (And.intro qty0 (And.intro qi30 (And.intro qa30 (And.intro qp30 (And.intro qi20 (And.intro qa20 (And.intro qp20 (And.intro qi10 (And.intro qa10 (And.intro qp10 (And.intro qi00 (And.intro qa00 (And.intro qp00 trivial)))))))))))))))))))))))))))))))))))))))))))))))))))))))))))))))))))))))))))))))))))))))))))))))))))))))))

end Go.Proofs.Ytobgpmclgacbmaa

/- Contracts of core's S on elements: sums, differences, products, negatives, small ones, the way in and out. -/
set_option linter.unusedSimpArgs false
set_option linter.unusedVariables false
namespace Go.Proofs.Ytobgpmclgacbmaa
open Go.Ev Go.RowKit

theorem ga1S {P : Program} {f : FuncId} {x x' : XV} {r : AV} (h : Gives P f [x] r) (e : ∀ w v, XRep w x' v → XRep w x v) : Gives P f [x'] r := by
  obtain ⟨v, h1, h2⟩ := h
  refine ⟨v, h1, fun w vs hx => ?_⟩
  match vs, hx with
  | [y], hx => exact h2 w [y] ⟨e _ _ hx.1, trivial⟩
theorem ga2S {P : Program} {f : FuncId} {x x' y y' : XV} {r : AV} (h : Gives P f [x, y] r) (e : ∀ w v, XRep w x' v → XRep w x v) (e' : ∀ w v, XRep w y' v → XRep w y v) : Gives P f [x', y'] r := by
  obtain ⟨v, h1, h2⟩ := h
  refine ⟨v, h1, fun w vs hx => ?_⟩
  match vs, hx with
  | [p, q], hx => exact h2 w [p, q] ⟨e _ _ hx.1, e' _ _ hx.2.1, trivial⟩

theorem invS : 115792089237316195423570985008687907853269984665640564039457584007913129639936 * 12549076656233958353659347336803947287922716146853412054870763148006372261952 % 52435875175126190479447740508185965837690552500527637822603658699938581184513 = 1 % 52435875175126190479447740508185965837690552500527637822603658699938581184513 := by decide
theorem toS_lt (x : Fin Rr) : toS x < 52435875175126190479447740508185965837690552500527637822603658699938581184513 := Nat.mod_lt _ (by decide)
theorem toS_add (x y : Fin Rr) : toS (x + y) = (toS x + toS y) % 52435875175126190479447740508185965837690552500527637822603658699938581184513 := by
  unfold toS
  rw [Fin.val_add]
  exact (mont_add (m := 52435875175126190479447740508185965837690552500527637822603658699938581184513) (R := 115792089237316195423570985008687907853269984665640564039457584007913129639936) x.val y.val).symm
theorem plusS (x y : Fin Rr) : Gives Try.prog 56 [.t (.ag [.s x]), .t (.ag [.s y])] (.ag [.s (x + y)]) := by
  have h := ga2S (x' := .t (.ag [.s x])) (y' := .t (.ag [.s y])) (plusSN (toS x) (toS y) (toS_lt x) (toS_lt y)) (fun _ _ h => h) (fun _ _ h => h)
  refine h.same ?_
  exact ag_same rfl rfl (by simp only [flat, Ch.cells, toS_add])
theorem inS (a : Nat) (ha : a < 115792089237316195423570985008687907853269984665640564039457584007913129639936) : Gives Try.prog 55 [.t (.ag [.n 4 a])] (.ag [.s (ofR a)]) := by
  obtain ⟨v, h1, h2, h3⟩ := inSN a ha
  have e : v = toS (ofR a) := mont_in (m := 52435875175126190479447740508185965837690552500527637822603658699938581184513) (R := 115792089237316195423570985008687907853269984665640564039457584007913129639936) invS h1 h2
  refine h3.same ?_
  exact ag_same rfl rfl (by simp only [flat, Ch.cells, e])
theorem outS (x : Fin Rr) : Gives Try.prog 57 [.t (.ag [.s x])] (.ag [.e x]) := by
  obtain ⟨v, h1, h2, h3⟩ := outSN (toS x) (Nat.lt_trans (toS_lt x) (by decide))
  have e : v = x.val := mont_out (m := 52435875175126190479447740508185965837690552500527637822603658699938581184513) (R := 115792089237316195423570985008687907853269984665640564039457584007913129639936) invS x.isLt h1 h2
  have h := ga1S (x' := .t (.ag [.s x])) h3 (fun _ _ h => h)
  refine h.same ?_
  exact ag_same rfl rfl (by simp only [flat, Ch.cells, e])

def ePlusS : Entry := entry2 56 parS.x parS.x (fun x y => [(none, .ag [.s (x + y)])])
theorem ePlusS_ok : ePlusS.OK Try.prog := entry2_ok (fun args w => Go.Proofs.enters_of (P := Try.prog) Try.func56 (by kernel_rfl) rfl args w) (fun x y => only (plusS x y))
def eOutS : Entry := entry1 57 parS.x (fun x => [(none, .ag [.e x])])
theorem eOutS_ok : eOutS.OK Try.prog := entry1_ok (fun args w => Go.Proofs.enters_of (P := Try.prog) Try.func57 (by kernel_rfl) rfl args w) (fun x => only (outS x))

end Go.Proofs.Ytobgpmclgacbmaa

/- Contracts of the reference of the field of order r: comparison, difference, sum, remainder, the sums of elements. -/
set_option linter.unusedSimpArgs false
set_option linter.unusedVariables false
namespace Go.Proofs.Ytobgpmclgacbmaa
open Go.Ev Go.RowKit

structure minusSY (a b : Nat) where
  i : Nat
  β : Nat
  o : Nat
  hi : i ≤ 4
  inv : mInv a b i β o
structure plusSY (a b : Nat) where
  i : Nat
  β : Nat
  o : Nat
  hi : i ≤ 4
  inv : pInv a b i β o
end Go.Proofs.Ytobgpmclgacbmaa

/- The way in, of elements and of numbers. -/
set_option linter.unusedSimpArgs false
set_option linter.unusedVariables false
namespace Go.Proofs.Ytobgpmclgacbmaa
open Go.Ev Go.RowKit

theorem inSq (x : Fin Rr) : Gives Try.prog 55 [.t (.ag [.e x])] (.ag [.s x]) := by
  have h := ga1S (x' := .t (.ag [.e x])) (inS x.val (Nat.lt_trans x.isLt (by decide))) (fun _ _ h => h)
  rw [ofR_val] at h
  exact h
def eInSq : Entry := entryOr1 55 parEs.x parN4.x (fun x => [(none, .ag [.s x])]) (fun a => [(some (smS a), .ag [.s (ofR a)])])
theorem eInSq_ok : eInSq.OK Try.prog := entryOr1_ok (entry1_ok (fun args w => Go.Proofs.enters_of (P := Try.prog) Try.func55 (by kernel_rfl) rfl args w) (fun x => only (inSq x))) (entry1_ok (fun args w => Go.Proofs.enters_of (P := Try.prog) Try.func55 (by kernel_rfl) rfl args w) (fun a => onlyIf (fun h => inS a h)))
end Go.Proofs.Ytobgpmclgacbmaa

/- Contracts of the reference of the field of order r on elements, and of the layer fr: remainders, sums, differences, negatives, products. -/
set_option linter.unusedSimpArgs false
set_option linter.unusedVariables false
namespace Go.Proofs.Ytobgpmclgacbmaa
open Go.Ev Go.RowKit

def eFAddS : Entry := entry2 32 par1S par1S (fun a b => [(some (smtS a ∧ smtS b), .ag [.e ((eltS a) + (eltS b))])])
theorem eFAddS_ok : eFAddS.OK Try.prog := entry2_ok (fun args w => Go.Proofs.enters_of (P := Try.prog) Try.func32 (by kernel_rfl) rfl args w) (fun a b => match a, b with
  | .inl a, .inl b => onlyIf (fun h => fn_gives (P := Try.prog) (env := [eInSq, eOutS, ePlusS]) ⟨eInSq_ok, eOutS_ok, ePlusS_ok, trivial⟩ Try.func32 1 o0 (by kernel_rfl) trivial)
  | .inl a, .inr b => onlyIf (fun h => fn_gives (P := Try.prog) (env := [eInSq, eOutS, ePlusS]) ⟨eInSq_ok, eOutS_ok, ePlusS_ok, trivial⟩ Try.func32 1 o0 (by kernel_rfl) (And.intro h.2 trivial))
  | .inr a, .inl b => onlyIf (fun h => fn_gives (P := Try.prog) (env := [eInSq, eOutS, ePlusS]) ⟨eInSq_ok, eOutS_ok, ePlusS_ok, trivial⟩ Try.func32 1 o0 (by kernel_rfl) (And.intro h.1 trivial))
  | .inr a, .inr b => onlyIf (fun h => fn_gives (P := Try.prog) (env := [eInSq, eOutS, ePlusS]) ⟨eInSq_ok, eOutS_ok, ePlusS_ok, trivial⟩ Try.func32 1 o0 (by kernel_rfl) (And.intro h.2 (And.intro h.1 trivial))))
end Go.Proofs.Ytobgpmclgacbmaa
