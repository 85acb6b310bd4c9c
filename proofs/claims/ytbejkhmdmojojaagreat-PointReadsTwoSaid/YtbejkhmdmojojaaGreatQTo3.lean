/- Pruned: To3. -/
import Derived.Test.YtbejkhmdmojojaaGreatQTo2
import Derived.Test.YtbejkhmdmojojaaGreatQPwP
import Derived.Test.YtbejkhmdmojojaaGreatQAl3
set_option linter.unusedSimpArgs false
set_option linter.unusedVariables false
namespace Go.Proofs.YtbejkhmdmojojaaGreat
open Go.Ev Go.RowKit

def eNorm2 : Entry := entry1 80 parM2.x (fun a => [(none, .ag [.m (norm2 a)])])
theorem eNorm2_ok : eNorm2.OK Tryz.prog := entry1_ok (fun args w => Go.Proofs.enters_of (P := Tryz.prog) Tryz.func80 (by kernel_rfl) rfl args w) (fun a => only (fn_gives (P := Tryz.prog) (env := [ePlusP, eTimesP]) ⟨ePlusP_ok, eTimesP_ok, trivial⟩ Tryz.func80 0 o0 (by kernel_rfl) trivial))
end Go.Proofs.YtbejkhmdmojojaaGreat
