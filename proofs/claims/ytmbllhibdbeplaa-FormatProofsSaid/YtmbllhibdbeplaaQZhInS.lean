/- Pruned: ZhInS. -/
import Derived.Test.YtmbllhibdbeplaaQZhElS
import Derived.Test.YtmbllhibdbeplaaQE2
set_option linter.unusedSimpArgs false
set_option linter.unusedVariables false
namespace Go.Proofs.Ytmbllhibdbeplaa
open Go.Ev Go.RowKit

theorem inSq (x : Fin Rr) : Gives Try.prog 90 [.t (.ag [.e x])] (.ag [.s x]) := by
  have h := ga1S (x' := .t (.ag [.e x])) (inS x.val (Nat.lt_trans x.isLt (by decide))) (fun _ _ h => h)
  rw [ofR_val] at h
  exact h
def eInSq : Entry := entryOr1 90 parEs.x parN4.x (fun x => [(none, .ag [.s x])]) (fun a => [(some (smS a), .ag [.s (ofR a)])])
theorem eInSq_ok : eInSq.OK Try.prog := entryOr1_ok (entry1_ok (fun args w => Go.Proofs.enters_of (P := Try.prog) Try.func90 (by kernel_rfl) rfl args w) (fun x => only (inSq x))) (entry1_ok (fun args w => Go.Proofs.enters_of (P := Try.prog) Try.func90 (by kernel_rfl) rfl args w) (fun a => onlyIf (fun h => inS a h)))
end Go.Proofs.Ytmbllhibdbeplaa
