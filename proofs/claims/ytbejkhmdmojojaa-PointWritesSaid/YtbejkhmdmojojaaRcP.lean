/- Contracts: small numbers, of the layer fp and of its reference. -/
import Derived.Test.YtbejkhmdmojojaaRbP
set_option linter.unusedSimpArgs false
set_option linter.unusedVariables false
namespace Go.Proofs.Ytbejkhmdmojojaa
open Go.Ev Go.RowKit

def eSmP : Entry := entry1 62 XPar.lim (fun h => [(none, .ag [.m (ofP (h % 18446744073709551616))])])
theorem eSmP_ok : eSmP.OK Try.prog := entry1_ok (fun args w => Go.Proofs.enters_of (P := Try.prog) Try.func62 (by kernel_rfl) rfl args w) (fun h => only (fn_gives (P := Try.prog) (env := [eInPq]) ⟨eInPq_ok, trivial⟩ Try.func62 0 o0 (by kernel_rfl) (And.intro (show smP (h % 18446744073709551616) from Nat.lt_trans (Nat.mod_lt _ (by decide)) (by decide)) trivial)))
theorem smallP_cells (h : Nat) (hh : h < 18446744073709551616) : (AV.ag [.q (ofP h)]).val? = (AV.ag [.n 1 h, .c (.int .u64 0), .c (.int .u64 0), .c (.int .u64 0), .c (.int .u64 0), .c (.int .u64 0)]).val? := by
  have h1 := join_val (w := 6) (l := [.n 1 h, .c (.int .u64 0), .c (.int .u64 0), .c (.int .u64 0), .c (.int .u64 0), .c (.int .u64 0)]) (x := h % 18446744073709551616 + 18446744073709551616 * 0) rfl
  rw [← h1]
  refine ag_same rfl rfl ?_
  have h2 : (ofP h).val = h := Nat.mod_eq_of_lt (Nat.lt_trans hh (by decide))
  simp only [flat, Ch.cells, h2]
  rw [Nat.mod_eq_of_lt hh, Nat.mul_zero, Nat.add_zero]
end Go.Proofs.Ytbejkhmdmojojaa
