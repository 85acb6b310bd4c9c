/- Pruned: To2. -/
import Derived.Test.YtbejkhmdmojojaaGreatQTow
import Derived.Test.YtbejkhmdmojojaaGreatQSex
import Derived.Test.YtbejkhmdmojojaaGreatQRbP
set_option linter.unusedSimpArgs false
set_option linter.unusedVariables false
namespace Go.Proofs.YtbejkhmdmojojaaGreat
open Go.Ev Go.RowKit

def eNeg2 : Entry := entry1 22 parM2.x (fun a => [(none, .ag (m2 (neg2 a)))])
theorem eNeg2_ok : eNeg2.OK Tryz.prog := entry1_ok (fun args w => Go.Proofs.enters_of (P := Tryz.prog) Tryz.func22 (by kernel_rfl) rfl args w) (fun a => only (fn_gives (P := Tryz.prog) (env := [eNegP]) ⟨eNegP_ok, trivial⟩ Tryz.func22 0 o0 (by kernel_rfl) trivial))
def eClean2 : Entry := entry1 38 parN2.x (fun a => [(some (small2 a), .ag (q2 (of2 a)))])
theorem eClean2_ok : eClean2.OK Tryz.prog := entry1_ok (fun args w => Go.Proofs.enters_of (P := Tryz.prog) Tryz.func38 (by kernel_rfl) rfl args w) (fun a => onlyIf (fun h => fn_gives (P := Tryz.prog) (env := [eCleanP]) ⟨eCleanP_ok, trivial⟩ Tryz.func38 0 o0 (by kernel_rfl) (And.intro h.2 (And.intro h.1 trivial))))
def eAdd2r : Entry := entry2 31 parL2.x parL2.x (fun a b => [(none, .ag (q2 (add2 a b)))])
theorem eAdd2r_ok : eAdd2r.OK Tryz.prog := entry2_ok (fun args w => Go.Proofs.enters_of (P := Tryz.prog) Tryz.func31 (by kernel_rfl) rfl args w) (fun a b => only (fn_gives (P := Tryz.prog) (env := [eAddP]) ⟨eAddP_ok, trivial⟩ Tryz.func31 0 o0 (by kernel_rfl) trivial))
def eNeg2r : Entry := entry1 11 parL2.x (fun a => [(none, .ag (q2 (neg2 a)))])
theorem eNeg2r_ok : eNeg2r.OK Tryz.prog := entry1_ok (fun args w => Go.Proofs.enters_of (P := Tryz.prog) Tryz.func11 (by kernel_rfl) rfl args w) (fun a => only (fn_gives (P := Tryz.prog) (env := [eNegPr]) ⟨eNegPr_ok, trivial⟩ Tryz.func11 0 o0 (by kernel_rfl) trivial))
end Go.Proofs.YtbejkhmdmojojaaGreat
