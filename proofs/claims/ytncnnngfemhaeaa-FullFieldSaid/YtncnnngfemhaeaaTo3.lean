/- Contracts of the towers' inverses, and of the layers'. -/
import Derived.Test.YtncnnngfemhaeaaTo2
import Derived.Test.YtncnnngfemhaeaaPwP
import Derived.Test.YtncnnngfemhaeaaAl3
set_option linter.unusedSimpArgs false
set_option linter.unusedVariables false
namespace Go.Proofs.Ytncnnngfemhaeaa
open Go.Ev Go.RowKit

def eNorm2 : Entry := entry1 118 parM2.x (fun a => [(none, .ag [.m (norm2 a)])])
theorem eNorm2_ok : eNorm2.OK Try.prog := entry1_ok (fun args w => Go.Proofs.enters_of (P := Try.prog) Try.func118 (by kernel_rfl) rfl args w) (fun a => only (fn_gives (P := Try.prog) (env := [ePlusP, eTimesP]) ⟨ePlusP_ok, eTimesP_ok, trivial⟩ Try.func118 0 o0 (by kernel_rfl) trivial))
def eInv2 : Entry := entry1 82 parM2.x (fun a => [(none, .ag (m2 (inv2 a)))])
theorem eInv2_ok : eInv2.OK Try.prog := entry1_ok (fun args w => Go.Proofs.enters_of (P := Try.prog) Try.func82 (by kernel_rfl) rfl args w) (fun a => only (fn_gives (P := Try.prog) (env := [eNorm2, eInvP, eTimesP, eNegP]) ⟨eNorm2_ok, eInvP_ok, eTimesP_ok, eNegP_ok, trivial⟩ Try.func82 0 o0 (by kernel_rfl) trivial))
def eInv6 : Entry := entry1 95 parM6.x (fun a => [(none, .ag (m6 (inv6 a)))])
theorem eInv6_ok : eInv6.OK Try.prog := entry1_ok (fun args w => Go.Proofs.enters_of (P := Try.prog) Try.func95 (by kernel_rfl) rfl args w) (fun a => only (fn_gives (P := Try.prog) (env := [eTimes2, eMinus2, ePlus2, eShf2, eInv2]) ⟨eTimes2_ok, eMinus2_ok, ePlus2_ok, eShf2_ok, eInv2_ok, trivial⟩ Try.func95 0 o0 (by kernel_rfl) trivial))
def eInv12 : Entry := entry1 103 parM12.x (fun a => [(none, .ag (m12 (inv12 a)))])
theorem eInv12_ok : eInv12.OK Try.prog := entry1_ok (fun args w => Go.Proofs.enters_of (P := Try.prog) Try.func103 (by kernel_rfl) rfl args w) (fun a => only (fn_gives (P := Try.prog) (env := [eTimes6, eMinus6, eShf6, eInv6, eNeg6]) ⟨eTimes6_ok, eMinus6_ok, eShf6_ok, eInv6_ok, eNeg6_ok, trivial⟩ Try.func103 0 o0 (by kernel_rfl) trivial))
def eDInv : Entry := entry1 33 par2 (fun a => [(some (sm2 a), .ag (q2 (inv2 (el2 a))))])
theorem eDInv_ok : eDInv.OK Try.prog := entry1_ok (fun args w => Go.Proofs.enters_of (P := Try.prog) Try.func33 (by kernel_rfl) rfl args w) (fun a => match a with
  | .inl a => onlyIf (fun h => fn_gives (P := Try.prog) (env := [eIn2, eOut2, eInv2]) ⟨eIn2_ok, eOut2_ok, eInv2_ok, trivial⟩ Try.func33 2 o0 (by kernel_rfl) trivial)
  | .inr a => onlyIf (fun h => fn_gives (P := Try.prog) (env := [eIn2, eOut2, eInv2]) ⟨eIn2_ok, eOut2_ok, eInv2_ok, trivial⟩ Try.func33 2 o0 (by kernel_rfl) (And.intro h trivial)))
def eSInv : Entry := entry1 43 par6 (fun a => [(some (sm6 a), .ag (q6 (inv6 (el6 a))))])
theorem eSInv_ok : eSInv.OK Try.prog := entry1_ok (fun args w => Go.Proofs.enters_of (P := Try.prog) Try.func43 (by kernel_rfl) rfl args w) (fun a => match a with
  | .inl a => onlyIf (fun h => fn_gives (P := Try.prog) (env := [eIn6, eOut6, eInv6]) ⟨eIn6_ok, eOut6_ok, eInv6_ok, trivial⟩ Try.func43 2 o0 (by kernel_rfl) trivial)
  | .inr a => onlyIf (fun h => fn_gives (P := Try.prog) (env := [eIn6, eOut6, eInv6]) ⟨eIn6_ok, eOut6_ok, eInv6_ok, trivial⟩ Try.func43 2 o0 (by kernel_rfl) (And.intro h trivial)))
def eUInv : Entry := entry1 54 par12 (fun a => [(some (sm12 a), .ag (q12 (inv12 (el12 a))))])
theorem eUInv_ok : eUInv.OK Try.prog := entry1_ok (fun args w => Go.Proofs.enters_of (P := Try.prog) Try.func54 (by kernel_rfl) rfl args w) (fun a => match a with
  | .inl a => onlyIf (fun h => fn_gives (P := Try.prog) (env := [eIn12, eOut12, eInv12]) ⟨eIn12_ok, eOut12_ok, eInv12_ok, trivial⟩ Try.func54 2 o0 (by kernel_rfl) trivial)
  | .inr a => onlyIf (fun h => fn_gives (P := Try.prog) (env := [eIn12, eOut12, eInv12]) ⟨eIn12_ok, eOut12_ok, eInv12_ok, trivial⟩ Try.func54 2 o0 (by kernel_rfl) (And.intro h trivial)))
end Go.Proofs.Ytncnnngfemhaeaa
