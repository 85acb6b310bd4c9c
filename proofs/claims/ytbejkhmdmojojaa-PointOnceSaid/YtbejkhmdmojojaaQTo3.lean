/- Pruned: To3. -/
import Derived.Test.YtbejkhmdmojojaaQTo2
import Derived.Test.YtbejkhmdmojojaaQPwP
import Derived.Test.YtbejkhmdmojojaaQAl3
set_option linter.unusedSimpArgs false
set_option linter.unusedVariables false
namespace Go.Proofs.Ytbejkhmdmojojaa
open Go.Ev Go.RowKit

def eNorm2 : Entry := entry1 124 parM2.x (fun a => [(none, .ag [.m (norm2 a)])])
theorem eNorm2_ok : eNorm2.OK Try.prog := entry1_ok (fun args w => Go.Proofs.enters_of (P := Try.prog) Try.func124 (by kernel_rfl) rfl args w) (fun a => only (fn_gives (P := Try.prog) (env := [ePlusP, eTimesP]) ⟨ePlusP_ok, eTimesP_ok, trivial⟩ Try.func124 0 o0 (by kernel_rfl) trivial))
end Go.Proofs.Ytbejkhmdmojojaa
