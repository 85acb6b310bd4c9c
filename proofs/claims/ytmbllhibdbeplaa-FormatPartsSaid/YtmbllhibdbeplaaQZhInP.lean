/- Pruned: ZhInP. -/
import Derived.Test.YtmbllhibdbeplaaQZhElP
import Derived.Test.YtmbllhibdbeplaaQE2
set_option linter.unusedSimpArgs false
set_option linter.unusedVariables false
namespace Go.Proofs.Ytmbllhibdbeplaa
open Go.Ev Go.RowKit

theorem inPq (x : Fin Pp) : Gives Try.prog 44 [.t (.ag [.q x])] (.ag [.m x]) := by
  have h := ga1P (x' := .t (.ag [.q x])) (inP x.val (Nat.lt_trans x.isLt (by decide))) (fun _ _ h => h)
  rw [ofP_val] at h
  exact h
def eInPq : Entry := entryOr1 44 parQs.x parN6.x (fun x => [(none, .ag [.m x])]) (fun a => [(some (smP a), .ag [.m (ofP a)])])
theorem eInPq_ok : eInPq.OK Try.prog := entryOr1_ok (entry1_ok (fun args w => Go.Proofs.enters_of (P := Try.prog) Try.func44 (by kernel_rfl) rfl args w) (fun x => only (inPq x))) (entry1_ok (fun args w => Go.Proofs.enters_of (P := Try.prog) Try.func44 (by kernel_rfl) rfl args w) (fun a => onlyIf (fun h => inP a h)))
end Go.Proofs.Ytmbllhibdbeplaa
