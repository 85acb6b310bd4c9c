/- Contracts: small numbers, of the layer fr and of its reference. -/
import Derived.Test.YtjhnoekljlldmaaRbS
set_option linter.unusedSimpArgs false
set_option linter.unusedVariables false
namespace Go.Proofs.Ytjhnoekljlldmaa
open Go.Ev Go.RowKit

def eSmS : Entry := entry1 54 XPar.lim (fun h => [(none, .ag [.s (ofR (h % 18446744073709551616))])])
theorem eSmS_ok : eSmS.OK Try.prog := entry1_ok (fun args w => Go.Proofs.enters_of (P := Try.prog) Try.func54 (by kernel_rfl) rfl args w) (fun h => only (fn_gives (P := Try.prog) (env := [eInSq]) ⟨eInSq_ok, trivial⟩ Try.func54 0 o0 (by kernel_rfl) (And.intro (show smS (h % 18446744073709551616) from Nat.lt_trans (Nat.mod_lt _ (by decide)) (by decide)) trivial)))
theorem smallS_up (n : Int) (h0 : 0 ≤ n) (h1 : n < 9223372036854775808) : Gives Try.prog 30 [.t (.v (.int .i64 n))] (.ag [.e (ofR n.toNat)]) :=
  (fn_gives (P := Try.prog) (env := [eSmS, eOutS]) ⟨eSmS_ok, eOutS_ok, trivial⟩ Try.func30 0 (oN [(4, n.toNat, 0)] [(2, 2), (4, 2)]) (r := .ag [.e (ofR (n.toNat % 18446744073709551616))]) (by kernel_rfl)
    (And.intro (show IntKind.u64 = IntKind.u64 ∧ IntKind.u64.wrap n = ((n.toNat % 18446744073709551616 : Nat) : Int) from ⟨rfl, by rw [wrap_u64]; omega⟩) (And.intro (show decide (n < 0) = false from decide_eq_false (by omega)) trivial))).same (by rw [Nat.mod_eq_of_lt (show n.toNat < 18446744073709551616 by omega)])
theorem smallS_down (n : Int) (h0 : n < 0) (h1 : -9223372036854775808 ≤ n) : Gives Try.prog 30 [.t (.v (.int .i64 n))] (.ag [.e (-(ofR (-n).toNat))]) :=
  (fn_gives (P := Try.prog) (env := [eSmS, eOutS, eNegS]) ⟨eSmS_ok, eOutS_ok, eNegS_ok, trivial⟩ Try.func30 0 (oN [(4, (18446744073709551616 + n).toNat, 0)] [(2, 1), (4, 2)]) (r := .ag [.e (-(ofR ((18446744073709551616 - (18446744073709551616 + n).toNat % 18446744073709551616) % 18446744073709551616)))]) (by kernel_rfl)
    (And.intro (show IntKind.u64 = IntKind.u64 ∧ IntKind.u64.wrap n = (((18446744073709551616 + n).toNat % 18446744073709551616 : Nat) : Int) from ⟨rfl, by rw [wrap_u64]; omega⟩) (And.intro (show decide (n < 0) = true from decide_eq_true h0) trivial))).same (by rw [show (18446744073709551616 - (18446744073709551616 + n).toNat % 18446744073709551616) % 18446744073709551616 = (-n).toNat by omega])
def eFSmallS : Entry := entry1 30 (XPar.int .i64) (fun n => [(some (0 ≤ n ∧ n < 9223372036854775808), .ag [.e (ofR n.toNat)]), (some (n < 0 ∧ -9223372036854775808 ≤ n), .ag [.e (-(ofR (-n).toNat))])])
theorem eFSmallS_ok : eFSmallS.OK Try.prog := entry1_ok (fun args w => Go.Proofs.enters_of (P := Try.prog) Try.func30 (by kernel_rfl) rfl args w) (fun n c r hm hc => by
  simp only [List.mem_cons, Prod.mk.injEq, List.not_mem_nil, or_false] at hm
  rcases hm with ⟨rfl, rfl⟩ | ⟨rfl, rfl⟩
  · exact smallS_up n hc.1 hc.2
  · exact smallS_down n hc.1 hc.2)
theorem smallS_cells (h : Nat) (hh : h < 18446744073709551616) : (AV.ag [.e (ofR h)]).val? = (AV.ag [.n 1 h, .c (.int .u64 0), .c (.int .u64 0), .c (.int .u64 0)]).val? := by
  have h1 := join_val (w := 4) (l := [.n 1 h, .c (.int .u64 0), .c (.int .u64 0), .c (.int .u64 0)]) (x := h % 18446744073709551616 + 18446744073709551616 * 0) rfl
  rw [← h1]
  refine ag_same rfl rfl ?_
  have h2 : (ofR h).val = h := Nat.mod_eq_of_lt (Nat.lt_trans hh (by decide))
  simp only [flat, Ch.cells, h2]
  rw [Nat.mod_eq_of_lt hh, Nat.mul_zero, Nat.add_zero]
theorem smallSr_up (n : Int) (h0 : 0 ≤ n) (h1 : n < 9223372036854775808) : Gives Try.prog 31 [.t (.v (.int .i64 n))] (.ag [.e (ofR n.toNat)]) :=
  (fn_gives (P := Try.prog) (env := []) trivial Try.func31 0 (oN [(4, n.toNat, 0)] [(2, 1), (4, 2)]) (r := .ag [.n 1 n.toNat, .c (.int .u64 0), .c (.int .u64 0), .c (.int .u64 0)]) (by kernel_rfl)
    (And.intro (show IntKind.u64 = IntKind.u64 ∧ IntKind.u64.wrap n = ((n.toNat % 18446744073709551616 : Nat) : Int) from ⟨rfl, by rw [wrap_u64]; omega⟩) (And.intro (show decide (n ≥ 0) = true from decide_eq_true h0) trivial))).same (smallS_cells _ (by omega))
theorem smallSr_down (n : Int) (h0 : n < 0) (h1 : -9223372036854775808 ≤ n) : Gives Try.prog 31 [.t (.v (.int .i64 n))] (.ag [.e (-(ofR (-n).toNat))]) := by
  refine (fn_gives (P := Try.prog) (env := [eRRS, eminusS]) ⟨eRRS_ok, eminusS_ok, trivial⟩ Try.func31 0 (oN [(7, (-n - 1).toNat, 0)] [(2, 2), (7, 2)]) (r := .ag [.n 4 ((52435875175126190479447740508185965837690552500527637822603658699938581184513 + 115792089237316195423570985008687907853269984665640564039457584007913129639936 - ((-n - 1).toNat + 1) % 18446744073709551616) % 115792089237316195423570985008687907853269984665640564039457584007913129639936)]) (by kernel_rfl)
    (And.intro (show 52435875175126190479447740508185965837690552500527637822603658699938581184513 < 115792089237316195423570985008687907853269984665640564039457584007913129639936 ∧ ((-n - 1).toNat + 1) % 18446744073709551616 < 115792089237316195423570985008687907853269984665640564039457584007913129639936 from ⟨by decide, Nat.lt_trans (Nat.mod_lt _ (by decide)) (by decide)⟩) (And.intro (show IntKind.u64 = IntKind.u64 ∧ IntKind.u64.wrap (IntKind.i64.wrap (0 - IntKind.i64.wrap (n + 1))) = (((-n - 1).toNat % 18446744073709551616 : Nat) : Int) from ⟨rfl, by rw [wrap_u64]; simp only [wrap_i64]; omega⟩) (And.intro (show decide (n ≥ 0) = false from decide_eq_false (by omega)) trivial)))).same ?_
  refine ag_same rfl rfl ?_
  have e1 : (ofR (-n).toNat).val = (-n).toNat := Nat.mod_eq_of_lt (by show (-n).toNat < 52435875175126190479447740508185965837690552500527637822603658699938581184513; omega)
  have e2 : (-(ofR (-n).toNat)).val = 52435875175126190479447740508185965837690552500527637822603658699938581184513 - (-n).toNat := by rw [Fin.neg_def]; show (52435875175126190479447740508185965837690552500527637822603658699938581184513 - (ofR (-n).toNat).val) % 52435875175126190479447740508185965837690552500527637822603658699938581184513 = _; rw [e1]; omega
  simp only [flat, Ch.cells, e2]
  rw [show (52435875175126190479447740508185965837690552500527637822603658699938581184513 + 115792089237316195423570985008687907853269984665640564039457584007913129639936 - ((-n - 1).toNat + 1) % 18446744073709551616) % 115792089237316195423570985008687907853269984665640564039457584007913129639936 = 52435875175126190479447740508185965837690552500527637822603658699938581184513 - (-n).toNat by omega]
def eSmallSr : Entry := entry1 31 (XPar.int .i64) (fun n => [(some (0 ≤ n ∧ n < 9223372036854775808), .ag [.e (ofR n.toNat)]), (some (n < 0 ∧ -9223372036854775808 ≤ n), .ag [.e (-(ofR (-n).toNat))])])
theorem eSmallSr_ok : eSmallSr.OK Try.prog := entry1_ok (fun args w => Go.Proofs.enters_of (P := Try.prog) Try.func31 (by kernel_rfl) rfl args w) (fun n c r hm hc => by
  simp only [List.mem_cons, Prod.mk.injEq, List.not_mem_nil, or_false] at hm
  rcases hm with ⟨rfl, rfl⟩ | ⟨rfl, rfl⟩
  · exact smallSr_up n hc.1 hc.2
  · exact smallSr_down n hc.1 hc.2)
end Go.Proofs.Ytjhnoekljlldmaa
