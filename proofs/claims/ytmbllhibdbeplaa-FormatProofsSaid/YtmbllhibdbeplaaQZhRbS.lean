/- Pruned: ZhRbS. -/
import Derived.Test.YtmbllhibdbeplaaQZhRaS
import Derived.Test.YtmbllhibdbeplaaQZhInS
set_option linter.unusedSimpArgs false
set_option linter.unusedVariables false
namespace Go.Proofs.Ytmbllhibdbeplaa
open Go.Ev Go.RowKit

def eFCleanS : Entry := entry1 61 par1S (fun a => [(some (smtS a), .ag [.e (eltS a)])])
theorem eFCleanS_ok : eFCleanS.OK Try.prog := entry1_ok (fun args w => Go.Proofs.enters_of (P := Try.prog) Try.func61 (by kernel_rfl) rfl args w) (fun a => match a with
  | .inl a => onlyIf (fun h => fn_gives (P := Try.prog) (env := [eInSq, eOutS]) ⟨eInSq_ok, eOutS_ok, trivial⟩ Try.func61 1 o0 (by kernel_rfl) trivial)
  | .inr a => onlyIf (fun h => fn_gives (P := Try.prog) (env := [eInSq, eOutS]) ⟨eInSq_ok, eOutS_ok, trivial⟩ Try.func61 1 o0 (by kernel_rfl) (And.intro h trivial)))
end Go.Proofs.Ytmbllhibdbeplaa
