/- Pruned: ZhRbP. -/
import Derived.Test.YtmbllhibdbeplaaQZhRaP
import Derived.Test.YtmbllhibdbeplaaQZhInP
set_option linter.unusedSimpArgs false
set_option linter.unusedVariables false
namespace Go.Proofs.Ytmbllhibdbeplaa
open Go.Ev Go.RowKit

def eFCleanP : Entry := entry1 110 par1P (fun a => [(some (smtP a), .ag [.q (eltP a)])])
theorem eFCleanP_ok : eFCleanP.OK Try.prog := entry1_ok (fun args w => Go.Proofs.enters_of (P := Try.prog) Try.func110 (by kernel_rfl) rfl args w) (fun a => match a with
  | .inl a => onlyIf (fun h => fn_gives (P := Try.prog) (env := [eInPq, eOutP]) ⟨eInPq_ok, eOutP_ok, trivial⟩ Try.func110 1 o0 (by kernel_rfl) trivial)
  | .inr a => onlyIf (fun h => fn_gives (P := Try.prog) (env := [eInPq, eOutP]) ⟨eInPq_ok, eOutP_ok, trivial⟩ Try.func110 1 o0 (by kernel_rfl) (And.intro h trivial)))
end Go.Proofs.Ytmbllhibdbeplaa
