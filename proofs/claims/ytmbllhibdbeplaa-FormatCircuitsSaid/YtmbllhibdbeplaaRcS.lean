/- Contracts: small numbers, of the layer fr and of its reference. -/
import Derived.Test.YtmbllhibdbeplaaRbS
set_option linter.unusedSimpArgs false
set_option linter.unusedVariables false
namespace Go.Proofs.Ytmbllhibdbeplaa
open Go.Ev Go.RowKit

theorem smallS_cells (h : Nat) (hh : h < 18446744073709551616) : (AV.ag [.e (ofR h)]).val? = (AV.ag [.n 1 h, .c (.int .u64 0), .c (.int .u64 0), .c (.int .u64 0)]).val? := by
  have h1 := join_val (w := 4) (l := [.n 1 h, .c (.int .u64 0), .c (.int .u64 0), .c (.int .u64 0)]) (x := h % 18446744073709551616 + 18446744073709551616 * 0) rfl
  rw [← h1]
  refine ag_same rfl rfl ?_
  have h2 : (ofR h).val = h := Nat.mod_eq_of_lt (Nat.lt_trans hh (by decide))
  simp only [flat, Ch.cells, h2]
  rw [Nat.mod_eq_of_lt hh, Nat.mul_zero, Nat.add_zero]
end Go.Proofs.Ytmbllhibdbeplaa
