/- Contracts: small numbers, of the layer fr and of its reference. -/
import Derived.Test.YtoahfmgdlpgjoaaRbS
set_option linter.unusedSimpArgs false
set_option linter.unusedVariables false
namespace Go.Proofs.Ytoahfmgdlpgjoaa
open Go.Ev Go.RowKit

def eSmS : Entry := entry1 43 XPar.lim (fun h => [(none, .ag [.s (ofR (h % 18446744073709551616))])])
theorem eSmS_ok : eSmS.OK Try.prog := entry1_ok (fun args w => Go.Proofs.enters_of (P := Try.prog) Try.func43 (by kernel_rfl) rfl args w) (fun h => only (fn_gives (P := Try.prog) (env := [eInSq]) ⟨eInSq_ok, trivial⟩ Try.func43 0 o0 (by kernel_rfl) (And.intro (show smS (h % 18446744073709551616) from Nat.lt_trans (Nat.mod_lt _ (by decide)) (by decide)) trivial)))
theorem smallS_up (n : Int) (h0 : 0 ≤ n) (h1 : n < 9223372036854775808) : Gives Try.prog 67 [.t (.v (.int .i64 n))] (.ag [.e (ofR n.toNat)]) :=
  (fn_gives (P := Try.prog) (env := [eSmS, eOutS]) ⟨eSmS_ok, eOutS_ok, trivial⟩ Try.func67 0 (oN [(4, n.toNat, 0)] [(2, 2), (4, 2)]) (r := .ag [.e (ofR (n.toNat % 18446744073709551616))]) (by kernel_rfl)
    (And.intro (show IntKind.u64 = IntKind.u64 ∧ IntKind.u64.wrap n = ((n.toNat % 18446744073709551616 : Nat) : Int) from ⟨rfl, by rw [wrap_u64]; omega⟩) (And.intro (show decide (n < 0) = false from decide_eq_false (by omega)) trivial))).same (by rw [Nat.mod_eq_of_lt (show n.toNat < 18446744073709551616 by omega)])
theorem smallS_down (n : Int) (h0 : n < 0) (h1 : -9223372036854775808 ≤ n) : Gives Try.prog 67 [.t (.v (.int .i64 n))] (.ag [.e (-(ofR (-n).toNat))]) :=
  (fn_gives (P := Try.prog) (env := [eSmS, eOutS, eNegS]) ⟨eSmS_ok, eOutS_ok, eNegS_ok, trivial⟩ Try.func67 0 (oN [(4, (18446744073709551616 + n).toNat, 0)] [(2, 1), (4, 2)]) (r := .ag [.e (-(ofR ((18446744073709551616 - (18446744073709551616 + n).toNat % 18446744073709551616) % 18446744073709551616)))]) (by kernel_rfl)
    (And.intro (show IntKind.u64 = IntKind.u64 ∧ IntKind.u64.wrap n = (((18446744073709551616 + n).toNat % 18446744073709551616 : Nat) : Int) from ⟨rfl, by rw [wrap_u64]; omega⟩) (And.intro (show decide (n < 0) = true from decide_eq_true h0) trivial))).same (by rw [show (18446744073709551616 - (18446744073709551616 + n).toNat % 18446744073709551616) % 18446744073709551616 = (-n).toNat by omega])
def eFSmallS : Entry := entry1 67 (XPar.int .i64) (fun n => [(some (0 ≤ n ∧ n < 9223372036854775808), .ag [.e (ofR n.toNat)]), (some (n < 0 ∧ -9223372036854775808 ≤ n), .ag [.e (-(ofR (-n).toNat))])])
theorem eFSmallS_ok : eFSmallS.OK Try.prog := entry1_ok (fun args w => Go.Proofs.enters_of (P := Try.prog) Try.func67 (by kernel_rfl) rfl args w) (fun n c r hm hc => by
  simp only [List.mem_cons, Prod.mk.injEq, List.not_mem_nil, or_false] at hm
  rcases hm with ⟨rfl, rfl⟩ | ⟨rfl, rfl⟩
  · exact smallS_up n hc.1 hc.2
  · exact smallS_down n hc.1 hc.2)
theorem smallS_cells (h : Nat) (hh : h < 18446744073709551616) : (AV.ag [.e (ofR h)]).val? = (AV.ag [.n 1 h, .c (.int .u64 0), .c (.int .u64 0), .c (.int .u64 0)]).val? := by
  have h1 := join_val (w := 4) (l := [.n 1 h, .c (.int .u64 0), .c (.int .u64 0), .c (.int .u64 0)]) (x := h % 18446744073709551616 + 18446744073709551616 * 0) rfl
  rw [← h1]
  refine ag_same rfl rfl ?_
  have h2 : (ofR h).val = h := Nat.mod_eq_of_lt (Nat.lt_trans hh (by decide))
  simp only [flat, Ch.cells, h2]
  rw [Nat.mod_eq_of_lt hh, Nat.mul_zero, Nat.add_zero]
end Go.Proofs.Ytoahfmgdlpgjoaa
