/- Pruned: Tow. -/
import Derived.Test.YtbejkhmdmojojaaGreatQInP
import Derived.Test.YtbejkhmdmojojaaGreatQTwd
set_option linter.unusedSimpArgs false
set_option linter.unusedVariables false

namespace Go.Proofs.YtbejkhmdmojojaaGreat
open Go.Ev Go.RowKit

def ePlus2 : Entry := entry2 20 parM2.x parM2.x (fun a b => [(none, .ag (m2 (add2 a b)))])
theorem ePlus2_ok : ePlus2.OK Tryz.prog := entry2_ok (fun args w => Go.Proofs.enters_of (P := Tryz.prog) Tryz.func20 (by kernel_rfl) rfl args w)
  (fun a b => only (fn_gives (P := Tryz.prog) (env := [ePlusP]) ⟨ePlusP_ok, trivial⟩ Tryz.func20 0 o0 (by kernel_rfl) trivial))
def eMinus2 : Entry := entry2 119 parM2.x parM2.x (fun a b => [(none, .ag (m2 (sub2 a b)))])
theorem eMinus2_ok : eMinus2.OK Tryz.prog := entry2_ok (fun args w => Go.Proofs.enters_of (P := Tryz.prog) Tryz.func119 (by kernel_rfl) rfl args w)
  (fun a b => only (fn_gives (P := Tryz.prog) (env := [eMinusP]) ⟨eMinusP_ok, trivial⟩ Tryz.func119 0 o0 (by kernel_rfl) trivial))
def eTimes2 : Entry := entry2 19 parM2.x parM2.x (fun a b => [(none, .ag (m2 (mul2 a b)))])
theorem eTimes2_ok : eTimes2.OK Tryz.prog := entry2_ok (fun args w => Go.Proofs.enters_of (P := Tryz.prog) Tryz.func19 (by kernel_rfl) rfl args w)
  (fun a b => only (fn_gives (P := Tryz.prog) (env := [ePlusP, eMinusP, eTimesP]) ⟨ePlusP_ok, eMinusP_ok, eTimesP_ok, trivial⟩ Tryz.func19 0 o0 (by kernel_rfl) trivial))
def eOut2 : Entry := entry1 23 parM2.x (fun a => [(none, .ag (q2 a))])
theorem eOut2_ok : eOut2.OK Tryz.prog := entry1_ok (fun args w => Go.Proofs.enters_of (P := Tryz.prog) Tryz.func23 (by kernel_rfl) rfl args w)
  (fun a => only (fn_gives (P := Tryz.prog) (env := [eOutP]) ⟨eOutP_ok, trivial⟩ Tryz.func23 0 o0 (by kernel_rfl) trivial))
def eIn2 : Entry := entryOr1 17 parQ2.x parN2.x (fun a => [(none, .ag (m2 a))]) (fun a => [(some (small2 a), .ag (m2 (of2 a)))])
theorem eIn2_ok : eIn2.OK Tryz.prog := entryOr1_ok
  (entry1_ok (fun args w => Go.Proofs.enters_of (P := Tryz.prog) Tryz.func17 (by kernel_rfl) rfl args w)
    (fun a => only (fn_gives (P := Tryz.prog) (env := [eInPq]) ⟨eInPq_ok, trivial⟩ Tryz.func17 0 o0 (by kernel_rfl) trivial)))
  (entry1_ok (fun args w => Go.Proofs.enters_of (P := Tryz.prog) Tryz.func17 (by kernel_rfl) rfl args w)
    (fun a => onlyIf (fun h => fn_gives (P := Tryz.prog) (env := [eInPq]) ⟨eInPq_ok, trivial⟩ Tryz.func17 0 o0 (by kernel_rfl) (And.intro h.2 (And.intro h.1 trivial)))))
end Go.Proofs.YtbejkhmdmojojaaGreat
