/- Pruned: ZhTow. -/
import Derived.Test.YtmbllhibdbeplaaQZhInP
import Derived.Test.YtmbllhibdbeplaaQZhTwd
set_option linter.unusedSimpArgs false
set_option linter.unusedVariables false

namespace Go.Proofs.Ytmbllhibdbeplaa
open Go.Ev Go.RowKit

def ePlus2 : Entry := entry2 113 parM2.x parM2.x (fun a b => [(none, .ag (m2 (add2 a b)))])
theorem ePlus2_ok : ePlus2.OK Try.prog := entry2_ok (fun args w => Go.Proofs.enters_of (P := Try.prog) Try.func113 (by kernel_rfl) rfl args w)
  (fun a b => only (fn_gives (P := Try.prog) (env := [ePlusP]) ⟨ePlusP_ok, trivial⟩ Try.func113 0 o0 (by kernel_rfl) trivial))
def eMinus2 : Entry := entry2 135 parM2.x parM2.x (fun a b => [(none, .ag (m2 (sub2 a b)))])
theorem eMinus2_ok : eMinus2.OK Try.prog := entry2_ok (fun args w => Go.Proofs.enters_of (P := Try.prog) Try.func135 (by kernel_rfl) rfl args w)
  (fun a b => only (fn_gives (P := Try.prog) (env := [eMinusP]) ⟨eMinusP_ok, trivial⟩ Try.func135 0 o0 (by kernel_rfl) trivial))
def eTimes2 : Entry := entry2 112 parM2.x parM2.x (fun a b => [(none, .ag (m2 (mul2 a b)))])
theorem eTimes2_ok : eTimes2.OK Try.prog := entry2_ok (fun args w => Go.Proofs.enters_of (P := Try.prog) Try.func112 (by kernel_rfl) rfl args w)
  (fun a b => only (fn_gives (P := Try.prog) (env := [ePlusP, eMinusP, eTimesP]) ⟨ePlusP_ok, eMinusP_ok, eTimesP_ok, trivial⟩ Try.func112 0 o0 (by kernel_rfl) trivial))
def eOut2 : Entry := entry1 111 parM2.x (fun a => [(none, .ag (q2 a))])
theorem eOut2_ok : eOut2.OK Try.prog := entry1_ok (fun args w => Go.Proofs.enters_of (P := Try.prog) Try.func111 (by kernel_rfl) rfl args w)
  (fun a => only (fn_gives (P := Try.prog) (env := [eOutP]) ⟨eOutP_ok, trivial⟩ Try.func111 0 o0 (by kernel_rfl) trivial))
def eIn2 : Entry := entryOr1 70 parQ2.x parN2.x (fun a => [(none, .ag (m2 a))]) (fun a => [(some (small2 a), .ag (m2 (of2 a)))])
theorem eIn2_ok : eIn2.OK Try.prog := entryOr1_ok
  (entry1_ok (fun args w => Go.Proofs.enters_of (P := Try.prog) Try.func70 (by kernel_rfl) rfl args w)
    (fun a => only (fn_gives (P := Try.prog) (env := [eInPq]) ⟨eInPq_ok, trivial⟩ Try.func70 0 o0 (by kernel_rfl) trivial)))
  (entry1_ok (fun args w => Go.Proofs.enters_of (P := Try.prog) Try.func70 (by kernel_rfl) rfl args w)
    (fun a => onlyIf (fun h => fn_gives (P := Try.prog) (env := [eInPq]) ⟨eInPq_ok, trivial⟩ Try.func70 0 o0 (by kernel_rfl) (And.intro h.2 (And.intro h.1 trivial)))))
end Go.Proofs.Ytmbllhibdbeplaa
