/- Contracts of core's towers: pairs, triples of pairs, and the layer sext. -/
import Derived.Test.YtonklhcmpbhhaaaInP
import Derived.Test.YtonklhcmpbhhaaaTwd
set_option linter.unusedSimpArgs false
set_option linter.unusedVariables false

namespace Go.Proofs.Ytonklhcmpbhhaaa
open Go.Ev Go.RowKit

def ePlus2 : Entry := entry2 86 parM2.x parM2.x (fun a b => [(none, .ag (m2 (add2 a b)))])
theorem ePlus2_ok : ePlus2.OK Try.prog := entry2_ok (fun args w => Go.Proofs.enters_of (P := Try.prog) Try.func86 (by kernel_rfl) rfl args w)
  (fun a b => only (fn_gives (P := Try.prog) (env := [ePlusP]) ⟨ePlusP_ok, trivial⟩ Try.func86 0 o0 (by kernel_rfl) trivial))
def eMinus2 : Entry := entry2 89 parM2.x parM2.x (fun a b => [(none, .ag (m2 (sub2 a b)))])
theorem eMinus2_ok : eMinus2.OK Try.prog := entry2_ok (fun args w => Go.Proofs.enters_of (P := Try.prog) Try.func89 (by kernel_rfl) rfl args w)
  (fun a b => only (fn_gives (P := Try.prog) (env := [eMinusP]) ⟨eMinusP_ok, trivial⟩ Try.func89 0 o0 (by kernel_rfl) trivial))
def eTimes2 : Entry := entry2 84 parM2.x parM2.x (fun a b => [(none, .ag (m2 (mul2 a b)))])
theorem eTimes2_ok : eTimes2.OK Try.prog := entry2_ok (fun args w => Go.Proofs.enters_of (P := Try.prog) Try.func84 (by kernel_rfl) rfl args w)
  (fun a b => only (fn_gives (P := Try.prog) (env := [ePlusP, eMinusP, eTimesP]) ⟨ePlusP_ok, eMinusP_ok, eTimesP_ok, trivial⟩ Try.func84 0 o0 (by kernel_rfl) trivial))
def eShf2 : Entry := entry1 111 parM2.x (fun a => [(none, .ag (m2 (shf2 a)))])
theorem eShf2_ok : eShf2.OK Try.prog := entry1_ok (fun args w => Go.Proofs.enters_of (P := Try.prog) Try.func111 (by kernel_rfl) rfl args w)
  (fun a => only (fn_gives (P := Try.prog) (env := [ePlusP, eMinusP]) ⟨ePlusP_ok, eMinusP_ok, trivial⟩ Try.func111 0 o0 (by kernel_rfl) trivial))
def ePlus6 : Entry := entry2 96 parM6.x parM6.x (fun a b => [(none, .ag (m6 (add6 a b)))])
theorem ePlus6_ok : ePlus6.OK Try.prog := entry2_ok (fun args w => Go.Proofs.enters_of (P := Try.prog) Try.func96 (by kernel_rfl) rfl args w)
  (fun a b => only (fn_gives (P := Try.prog) (env := [ePlus2]) ⟨ePlus2_ok, trivial⟩ Try.func96 0 o0 (by kernel_rfl) trivial))
def eTimes6 : Entry := entry2 95 parM6.x parM6.x (fun a b => [(none, .ag (m6 (mul6 a b)))])
theorem eTimes6_ok : eTimes6.OK Try.prog := entry2_ok (fun args w => Go.Proofs.enters_of (P := Try.prog) Try.func95 (by kernel_rfl) rfl args w)
  (fun a b => only (fn_gives (P := Try.prog) (env := [ePlus2, eMinus2, eTimes2, eShf2]) ⟨ePlus2_ok, eMinus2_ok, eTimes2_ok, eShf2_ok, trivial⟩ Try.func95 0 o0 (by kernel_rfl) trivial))
def eShf6 : Entry := entry1 92 parM6.x (fun a => [(none, .ag (m6 (shf6 a)))])
theorem eShf6_ok : eShf6.OK Try.prog := entry1_ok (fun args w => Go.Proofs.enters_of (P := Try.prog) Try.func92 (by kernel_rfl) rfl args w)
  (fun a => only (fn_gives (P := Try.prog) (env := [eShf2]) ⟨eShf2_ok, trivial⟩ Try.func92 0 o0 (by kernel_rfl) trivial))
def eOut2 : Entry := entry1 88 parM2.x (fun a => [(none, .ag (q2 a))])
theorem eOut2_ok : eOut2.OK Try.prog := entry1_ok (fun args w => Go.Proofs.enters_of (P := Try.prog) Try.func88 (by kernel_rfl) rfl args w)
  (fun a => only (fn_gives (P := Try.prog) (env := [eOutP]) ⟨eOutP_ok, trivial⟩ Try.func88 0 o0 (by kernel_rfl) trivial))
def eOut6 : Entry := entry1 93 parM6.x (fun a => [(none, .ag (q6 a))])
theorem eOut6_ok : eOut6.OK Try.prog := entry1_ok (fun args w => Go.Proofs.enters_of (P := Try.prog) Try.func93 (by kernel_rfl) rfl args w)
  (fun a => only (fn_gives (P := Try.prog) (env := [eOut2]) ⟨eOut2_ok, trivial⟩ Try.func93 0 o0 (by kernel_rfl) trivial))
def eIn2 : Entry := entryOr1 87 parQ2.x parN2.x (fun a => [(none, .ag (m2 a))]) (fun a => [(some (small2 a), .ag (m2 (of2 a)))])
theorem eIn2_ok : eIn2.OK Try.prog := entryOr1_ok
  (entry1_ok (fun args w => Go.Proofs.enters_of (P := Try.prog) Try.func87 (by kernel_rfl) rfl args w)
    (fun a => only (fn_gives (P := Try.prog) (env := [eInPq]) ⟨eInPq_ok, trivial⟩ Try.func87 0 o0 (by kernel_rfl) trivial)))
  (entry1_ok (fun args w => Go.Proofs.enters_of (P := Try.prog) Try.func87 (by kernel_rfl) rfl args w)
    (fun a => onlyIf (fun h => fn_gives (P := Try.prog) (env := [eInPq]) ⟨eInPq_ok, trivial⟩ Try.func87 0 o0 (by kernel_rfl) (And.intro h.2 (And.intro h.1 trivial)))))
def eIn6 : Entry := entryOr1 91 parQ6.x parN66.x (fun a => [(none, .ag (m6 a))]) (fun a => [(some (small6 a), .ag (m6 (of6 a)))])
theorem eIn6_ok : eIn6.OK Try.prog := entryOr1_ok
  (entry1_ok (fun args w => Go.Proofs.enters_of (P := Try.prog) Try.func91 (by kernel_rfl) rfl args w)
    (fun a => only (fn_gives (P := Try.prog) (env := [eIn2]) ⟨eIn2_ok, trivial⟩ Try.func91 0 o0 (by kernel_rfl) trivial)))
  (entry1_ok (fun args w => Go.Proofs.enters_of (P := Try.prog) Try.func91 (by kernel_rfl) rfl args w)
    (fun a => onlyIf (fun h => fn_gives (P := Try.prog) (env := [eIn2]) ⟨eIn2_ok, trivial⟩ Try.func91 0 o0 (by kernel_rfl) (And.intro h.2.2 (And.intro h.2.1 (And.intro h.1 trivial))))))
end Go.Proofs.Ytonklhcmpbhhaaa
