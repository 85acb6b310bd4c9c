/- Pruned: To2. -/
import Derived.Test.YtbejkhmdmojojaaQTow
import Derived.Test.YtbejkhmdmojojaaQSex
import Derived.Test.YtbejkhmdmojojaaQRbP
set_option linter.unusedSimpArgs false
set_option linter.unusedVariables false
namespace Go.Proofs.Ytbejkhmdmojojaa
open Go.Ev Go.RowKit

def eNeg2 : Entry := entry1 77 parM2.x (fun a => [(none, .ag (m2 (neg2 a)))])
theorem eNeg2_ok : eNeg2.OK Try.prog := entry1_ok (fun args w => Go.Proofs.enters_of (P := Try.prog) Try.func77 (by kernel_rfl) rfl args w) (fun a => only (fn_gives (P := Try.prog) (env := [eNegP]) ⟨eNegP_ok, trivial⟩ Try.func77 0 o0 (by kernel_rfl) trivial))
end Go.Proofs.Ytbejkhmdmojojaa
