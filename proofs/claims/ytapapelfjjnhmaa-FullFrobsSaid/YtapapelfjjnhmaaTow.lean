/- Contracts of core's towers: pairs, triples of pairs, and the layer sext. -/
import Derived.Test.YtapapelfjjnhmaaInP
import Derived.Test.YtapapelfjjnhmaaTwd
set_option linter.unusedSimpArgs false
set_option linter.unusedVariables false

namespace Go.Proofs.Ytapapelfjjnhmaa
open Go.Ev Go.RowKit

def ePlus2 : Entry := entry2 100 parM2.x parM2.x (fun a b => [(none, .ag (m2 (add2 a b)))])
theorem ePlus2_ok : ePlus2.OK Try.prog := entry2_ok (fun args w => Go.Proofs.enters_of (P := Try.prog) Try.func100 (by kernel_rfl) rfl args w)
  (fun a b => only (fn_gives (P := Try.prog) (env := [ePlusP]) ⟨ePlusP_ok, trivial⟩ Try.func100 0 o0 (by kernel_rfl) trivial))
def eMinus2 : Entry := entry2 101 parM2.x parM2.x (fun a b => [(none, .ag (m2 (sub2 a b)))])
theorem eMinus2_ok : eMinus2.OK Try.prog := entry2_ok (fun args w => Go.Proofs.enters_of (P := Try.prog) Try.func101 (by kernel_rfl) rfl args w)
  (fun a b => only (fn_gives (P := Try.prog) (env := [eMinusP]) ⟨eMinusP_ok, trivial⟩ Try.func101 0 o0 (by kernel_rfl) trivial))
def eTimes2 : Entry := entry2 58 parM2.x parM2.x (fun a b => [(none, .ag (m2 (mul2 a b)))])
theorem eTimes2_ok : eTimes2.OK Try.prog := entry2_ok (fun args w => Go.Proofs.enters_of (P := Try.prog) Try.func58 (by kernel_rfl) rfl args w)
  (fun a b => only (fn_gives (P := Try.prog) (env := [ePlusP, eMinusP, eTimesP]) ⟨ePlusP_ok, eMinusP_ok, eTimesP_ok, trivial⟩ Try.func58 0 o0 (by kernel_rfl) trivial))
def eShf2 : Entry := entry1 102 parM2.x (fun a => [(none, .ag (m2 (shf2 a)))])
theorem eShf2_ok : eShf2.OK Try.prog := entry1_ok (fun args w => Go.Proofs.enters_of (P := Try.prog) Try.func102 (by kernel_rfl) rfl args w)
  (fun a => only (fn_gives (P := Try.prog) (env := [ePlusP, eMinusP]) ⟨ePlusP_ok, eMinusP_ok, trivial⟩ Try.func102 0 o0 (by kernel_rfl) trivial))
def ePlus6 : Entry := entry2 69 parM6.x parM6.x (fun a b => [(none, .ag (m6 (add6 a b)))])
theorem ePlus6_ok : ePlus6.OK Try.prog := entry2_ok (fun args w => Go.Proofs.enters_of (P := Try.prog) Try.func69 (by kernel_rfl) rfl args w)
  (fun a b => only (fn_gives (P := Try.prog) (env := [ePlus2]) ⟨ePlus2_ok, trivial⟩ Try.func69 0 o0 (by kernel_rfl) trivial))
def eTimes6 : Entry := entry2 68 parM6.x parM6.x (fun a b => [(none, .ag (m6 (mul6 a b)))])
theorem eTimes6_ok : eTimes6.OK Try.prog := entry2_ok (fun args w => Go.Proofs.enters_of (P := Try.prog) Try.func68 (by kernel_rfl) rfl args w)
  (fun a b => only (fn_gives (P := Try.prog) (env := [ePlus2, eMinus2, eTimes2, eShf2]) ⟨ePlus2_ok, eMinus2_ok, eTimes2_ok, eShf2_ok, trivial⟩ Try.func68 0 o0 (by kernel_rfl) trivial))
def eShf6 : Entry := entry1 70 parM6.x (fun a => [(none, .ag (m6 (shf6 a)))])
theorem eShf6_ok : eShf6.OK Try.prog := entry1_ok (fun args w => Go.Proofs.enters_of (P := Try.prog) Try.func70 (by kernel_rfl) rfl args w)
  (fun a => only (fn_gives (P := Try.prog) (env := [eShf2]) ⟨eShf2_ok, trivial⟩ Try.func70 0 o0 (by kernel_rfl) trivial))
def eOut2 : Entry := entry1 47 parM2.x (fun a => [(none, .ag (q2 a))])
theorem eOut2_ok : eOut2.OK Try.prog := entry1_ok (fun args w => Go.Proofs.enters_of (P := Try.prog) Try.func47 (by kernel_rfl) rfl args w)
  (fun a => only (fn_gives (P := Try.prog) (env := [eOutP]) ⟨eOutP_ok, trivial⟩ Try.func47 0 o0 (by kernel_rfl) trivial))
def eOut6 : Entry := entry1 72 parM6.x (fun a => [(none, .ag (q6 a))])
theorem eOut6_ok : eOut6.OK Try.prog := entry1_ok (fun args w => Go.Proofs.enters_of (P := Try.prog) Try.func72 (by kernel_rfl) rfl args w)
  (fun a => only (fn_gives (P := Try.prog) (env := [eOut2]) ⟨eOut2_ok, trivial⟩ Try.func72 0 o0 (by kernel_rfl) trivial))
def eIn2 : Entry := entryOr1 45 parQ2.x parN2.x (fun a => [(none, .ag (m2 a))]) (fun a => [(some (small2 a), .ag (m2 (of2 a)))])
theorem eIn2_ok : eIn2.OK Try.prog := entryOr1_ok
  (entry1_ok (fun args w => Go.Proofs.enters_of (P := Try.prog) Try.func45 (by kernel_rfl) rfl args w)
    (fun a => only (fn_gives (P := Try.prog) (env := [eInPq]) ⟨eInPq_ok, trivial⟩ Try.func45 0 o0 (by kernel_rfl) trivial)))
  (entry1_ok (fun args w => Go.Proofs.enters_of (P := Try.prog) Try.func45 (by kernel_rfl) rfl args w)
    (fun a => onlyIf (fun h => fn_gives (P := Try.prog) (env := [eInPq]) ⟨eInPq_ok, trivial⟩ Try.func45 0 o0 (by kernel_rfl) (And.intro h.2 (And.intro h.1 trivial)))))
def eIn6 : Entry := entryOr1 64 parQ6.x parN66.x (fun a => [(none, .ag (m6 a))]) (fun a => [(some (small6 a), .ag (m6 (of6 a)))])
theorem eIn6_ok : eIn6.OK Try.prog := entryOr1_ok
  (entry1_ok (fun args w => Go.Proofs.enters_of (P := Try.prog) Try.func64 (by kernel_rfl) rfl args w)
    (fun a => only (fn_gives (P := Try.prog) (env := [eIn2]) ⟨eIn2_ok, trivial⟩ Try.func64 0 o0 (by kernel_rfl) trivial)))
  (entry1_ok (fun args w => Go.Proofs.enters_of (P := Try.prog) Try.func64 (by kernel_rfl) rfl args w)
    (fun a => onlyIf (fun h => fn_gives (P := Try.prog) (env := [eIn2]) ⟨eIn2_ok, trivial⟩ Try.func64 0 o0 (by kernel_rfl) (And.intro h.2.2 (And.intro h.2.1 (And.intro h.1 trivial))))))
end Go.Proofs.Ytapapelfjjnhmaa
