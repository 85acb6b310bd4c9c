/- Contracts of the towers: negatives, conjugates, the greatest field; the layers duo, sext, full; their references' sums. -/
import Derived.Test.YtbejkhmdmojojaaTow
import Derived.Test.YtbejkhmdmojojaaSex
import Derived.Test.YtbejkhmdmojojaaRbP
set_option linter.unusedSimpArgs false
set_option linter.unusedVariables false
namespace Go.Proofs.Ytbejkhmdmojojaa
open Go.Ev Go.RowKit

def eNeg2 : Entry := entry1 77 parM2.x (fun a => [(none, .ag (m2 (neg2 a)))])
theorem eNeg2_ok : eNeg2.OK Try.prog := entry1_ok (fun args w => Go.Proofs.enters_of (P := Try.prog) Try.func77 (by kernel_rfl) rfl args w) (fun a => only (fn_gives (P := Try.prog) (env := [eNegP]) ⟨eNegP_ok, trivial⟩ Try.func77 0 o0 (by kernel_rfl) trivial))
def eClean2 : Entry := entry1 44 parN2.x (fun a => [(some (small2 a), .ag (q2 (of2 a)))])
theorem eClean2_ok : eClean2.OK Try.prog := entry1_ok (fun args w => Go.Proofs.enters_of (P := Try.prog) Try.func44 (by kernel_rfl) rfl args w) (fun a => onlyIf (fun h => fn_gives (P := Try.prog) (env := [eCleanP]) ⟨eCleanP_ok, trivial⟩ Try.func44 0 o0 (by kernel_rfl) (And.intro h.2 (And.intro h.1 trivial))))
def eAdd2r : Entry := entry2 46 parL2.x parL2.x (fun a b => [(none, .ag (q2 (add2 a b)))])
theorem eAdd2r_ok : eAdd2r.OK Try.prog := entry2_ok (fun args w => Go.Proofs.enters_of (P := Try.prog) Try.func46 (by kernel_rfl) rfl args w) (fun a b => only (fn_gives (P := Try.prog) (env := [eAddP]) ⟨eAddP_ok, trivial⟩ Try.func46 0 o0 (by kernel_rfl) trivial))
def uN : N2 := (0, 1)
theorem small_u : small2 uN := by unfold small2 small uN; decide
end Go.Proofs.Ytbejkhmdmojojaa
