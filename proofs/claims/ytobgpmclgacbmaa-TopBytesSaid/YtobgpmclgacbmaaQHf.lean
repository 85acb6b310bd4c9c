/- Pruned: Hf. -/
import Derived.Test.YtobgpmclgacbmaaQHc
import Derived.Test.YtobgpmclgacbmaaQHa
import Derived.Test.YtobgpmclgacbmaaQHd
/- Contracts of core's towers: pairs, triples of pairs, and the layer sext. -/
set_option linter.unusedSimpArgs false
set_option linter.unusedVariables false

namespace Go.Proofs.Ytobgpmclgacbmaa
open Go.Ev Go.RowKit

def ePlus2 : Entry := entry2 73 parM2.x parM2.x (fun a b => [(none, .ag (m2 (add2 a b)))])
theorem ePlus2_ok : ePlus2.OK Try.prog := entry2_ok (fun args w => Go.Proofs.enters_of (P := Try.prog) Try.func73 (by kernel_rfl) rfl args w)
  (fun a b => only (fn_gives (P := Try.prog) (env := [ePlusP]) ⟨ePlusP_ok, trivial⟩ Try.func73 0 o0 (by kernel_rfl) trivial))
def eTimes2 : Entry := entry2 72 parM2.x parM2.x (fun a b => [(none, .ag (m2 (mul2 a b)))])
theorem eTimes2_ok : eTimes2.OK Try.prog := entry2_ok (fun args w => Go.Proofs.enters_of (P := Try.prog) Try.func72 (by kernel_rfl) rfl args w)
  (fun a b => only (fn_gives (P := Try.prog) (env := [ePlusP, eMinusP, eTimesP]) ⟨ePlusP_ok, eMinusP_ok, eTimesP_ok, trivial⟩ Try.func72 0 o0 (by kernel_rfl) trivial))
def eOut2 : Entry := entry1 71 parM2.x (fun a => [(none, .ag (q2 a))])
theorem eOut2_ok : eOut2.OK Try.prog := entry1_ok (fun args w => Go.Proofs.enters_of (P := Try.prog) Try.func71 (by kernel_rfl) rfl args w)
  (fun a => only (fn_gives (P := Try.prog) (env := [eOutP]) ⟨eOutP_ok, trivial⟩ Try.func71 0 o0 (by kernel_rfl) trivial))
def eIn2 : Entry := entryOr1 70 parQ2.x parN2.x (fun a => [(none, .ag (m2 a))]) (fun a => [(some (small2 a), .ag (m2 (of2 a)))])
theorem eIn2_ok : eIn2.OK Try.prog := entryOr1_ok
  (entry1_ok (fun args w => Go.Proofs.enters_of (P := Try.prog) Try.func70 (by kernel_rfl) rfl args w)
    (fun a => only (fn_gives (P := Try.prog) (env := [eInPq]) ⟨eInPq_ok, trivial⟩ Try.func70 0 o0 (by kernel_rfl) trivial)))
  (entry1_ok (fun args w => Go.Proofs.enters_of (P := Try.prog) Try.func70 (by kernel_rfl) rfl args w)
    (fun a => onlyIf (fun h => fn_gives (P := Try.prog) (env := [eInPq]) ⟨eInPq_ok, trivial⟩ Try.func70 0 o0 (by kernel_rfl) (And.intro h.2 (And.intro h.1 trivial)))))
end Go.Proofs.Ytobgpmclgacbmaa

/- Contracts of the layer sext: sums, products, shifts. -/
set_option linter.unusedSimpArgs false
set_option linter.unusedVariables false
namespace Go.Proofs.Ytobgpmclgacbmaa
open Go.Ev Go.RowKit

end Go.Proofs.Ytobgpmclgacbmaa

/- Contracts of the towers: negatives, conjugates, the greatest field; the layers duo, sext, full; their references' sums. -/
set_option linter.unusedSimpArgs false
set_option linter.unusedVariables false
namespace Go.Proofs.Ytobgpmclgacbmaa
open Go.Ev Go.RowKit

end Go.Proofs.Ytobgpmclgacbmaa

/- Contracts of the towers' inverses, and of the layers'. -/
set_option linter.unusedSimpArgs false
set_option linter.unusedVariables false
namespace Go.Proofs.Ytobgpmclgacbmaa
open Go.Ev Go.RowKit

end Go.Proofs.Ytobgpmclgacbmaa
