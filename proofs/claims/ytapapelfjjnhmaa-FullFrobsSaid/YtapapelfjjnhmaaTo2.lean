/- Contracts of the towers: negatives, conjugates, the greatest field; the layers duo, sext, full; their references' sums. -/
import Derived.Test.YtapapelfjjnhmaaTow
import Derived.Test.YtapapelfjjnhmaaSex
import Derived.Test.YtapapelfjjnhmaaRbP
set_option linter.unusedSimpArgs false
set_option linter.unusedVariables false
namespace Go.Proofs.Ytapapelfjjnhmaa
open Go.Ev Go.RowKit

def eNeg2 : Entry := entry1 56 parM2.x (fun a => [(none, .ag (m2 (neg2 a)))])
theorem eNeg2_ok : eNeg2.OK Try.prog := entry1_ok (fun args w => Go.Proofs.enters_of (P := Try.prog) Try.func56 (by kernel_rfl) rfl args w) (fun a => only (fn_gives (P := Try.prog) (env := [eNegP]) ⟨eNegP_ok, trivial⟩ Try.func56 0 o0 (by kernel_rfl) trivial))
def eConj2 : Entry := entry1 76 parM2.x (fun a => [(none, .ag (m2 (conj2 a)))])
theorem eConj2_ok : eConj2.OK Try.prog := entry1_ok (fun args w => Go.Proofs.enters_of (P := Try.prog) Try.func76 (by kernel_rfl) rfl args w) (fun a => only (fn_gives (P := Try.prog) (env := [eNegP]) ⟨eNegP_ok, trivial⟩ Try.func76 0 o0 (by kernel_rfl) trivial))
def eMinus6 : Entry := entry2 71 parM6.x parM6.x (fun a b => [(none, .ag (m6 (sub6 a b)))])
theorem eMinus6_ok : eMinus6.OK Try.prog := entry2_ok (fun args w => Go.Proofs.enters_of (P := Try.prog) Try.func71 (by kernel_rfl) rfl args w) (fun a b => only (fn_gives (P := Try.prog) (env := [eMinus2]) ⟨eMinus2_ok, trivial⟩ Try.func71 0 o0 (by kernel_rfl) trivial))
def eNeg6 : Entry := entry1 78 parM6.x (fun a => [(none, .ag (m6 (neg6 a)))])
theorem eNeg6_ok : eNeg6.OK Try.prog := entry1_ok (fun args w => Go.Proofs.enters_of (P := Try.prog) Try.func78 (by kernel_rfl) rfl args w) (fun a => only (fn_gives (P := Try.prog) (env := [eNeg2]) ⟨eNeg2_ok, trivial⟩ Try.func78 0 o0 (by kernel_rfl) trivial))
def ePlus12 : Entry := entry2 42 parM12.x parM12.x (fun a b => [(none, .ag (m12 (add12 a b)))])
theorem ePlus12_ok : ePlus12.OK Try.prog := entry2_ok (fun args w => Go.Proofs.enters_of (P := Try.prog) Try.func42 (by kernel_rfl) rfl args w) (fun a b => only (fn_gives (P := Try.prog) (env := [ePlus6]) ⟨ePlus6_ok, trivial⟩ Try.func42 0 o0 (by kernel_rfl) trivial))
def eConj12 : Entry := entry1 43 parM12.x (fun a => [(none, .ag (m12 (conj12 a)))])
theorem eConj12_ok : eConj12.OK Try.prog := entry1_ok (fun args w => Go.Proofs.enters_of (P := Try.prog) Try.func43 (by kernel_rfl) rfl args w) (fun a => only (fn_gives (P := Try.prog) (env := [eNeg6]) ⟨eNeg6_ok, trivial⟩ Try.func43 0 o0 (by kernel_rfl) trivial))
def eTimes12 : Entry := entry2 35 parM12.x parM12.x (fun a b => [(none, .ag (m12 (mul12 a b)))])
theorem eTimes12_ok : eTimes12.OK Try.prog := entry2_ok (fun args w => Go.Proofs.enters_of (P := Try.prog) Try.func35 (by kernel_rfl) rfl args w) (fun a b => only (fn_gives (P := Try.prog) (env := [ePlus6, eMinus6, eTimes6, eShf6]) ⟨ePlus6_ok, eMinus6_ok, eTimes6_ok, eShf6_ok, trivial⟩ Try.func35 0 o0 (by kernel_rfl) trivial))
def eOut12 : Entry := entry1 36 parM12.x (fun a => [(none, .ag (q12 a))])
theorem eOut12_ok : eOut12.OK Try.prog := entry1_ok (fun args w => Go.Proofs.enters_of (P := Try.prog) Try.func36 (by kernel_rfl) rfl args w) (fun a => only (fn_gives (P := Try.prog) (env := [eOut6]) ⟨eOut6_ok, trivial⟩ Try.func36 0 o0 (by kernel_rfl) trivial))
def eIn12 : Entry := entryOr1 32 parQ12.x parN12.x (fun a => [(none, .ag (m12 a))]) (fun a => [(some (small12 a), .ag (m12 (of12 a)))])
theorem eIn12_ok : eIn12.OK Try.prog := entryOr1_ok (entry1_ok (fun args w => Go.Proofs.enters_of (P := Try.prog) Try.func32 (by kernel_rfl) rfl args w) (fun a => only (fn_gives (P := Try.prog) (env := [eIn6]) ⟨eIn6_ok, trivial⟩ Try.func32 0 o0 (by kernel_rfl) trivial)))
  (entry1_ok (fun args w => Go.Proofs.enters_of (P := Try.prog) Try.func32 (by kernel_rfl) rfl args w) (fun a => onlyIf (fun h => fn_gives (P := Try.prog) (env := [eIn6]) ⟨eIn6_ok, trivial⟩ Try.func32 0 o0 (by kernel_rfl) (And.intro h.2 (And.intro h.1 trivial)))))
def eOne12 : Entry := entry0 33 [(none, .ag (m12 one12))]
theorem eOne12_ok : eOne12.OK Try.prog := entry0_ok (fun args w => Go.Proofs.enters_of (P := Try.prog) Try.func33 (by kernel_rfl) rfl args w) (only ((fn_gives (P := Try.prog) (env := [eInPq]) ⟨eInPq_ok, trivial⟩ Try.func33 1 o0 (r := .ag (.m (ofP 1) :: List.replicate 66 (.c (.int .u64 0)))) (by kernel_rfl) (And.intro (show smP 1 from by unfold smP; decide) trivial)).same (by kernel_rfl)))
def eDMul : Entry := entry2 28 par2 par2 (fun a b => [(some (sm2 a ∧ sm2 b), .ag (q2 (mul2 (el2 a) (el2 b))))])
theorem eDMul_ok : eDMul.OK Try.prog := entry2_ok (fun args w => Go.Proofs.enters_of (P := Try.prog) Try.func28 (by kernel_rfl) rfl args w) (fun a b => match a, b with
  | .inl a, .inl b => onlyIf (fun h => fn_gives (P := Try.prog) (env := [eIn2, eOut2, eTimes2]) ⟨eIn2_ok, eOut2_ok, eTimes2_ok, trivial⟩ Try.func28 2 o0 (by kernel_rfl) trivial)
  | .inl a, .inr b => onlyIf (fun h => fn_gives (P := Try.prog) (env := [eIn2, eOut2, eTimes2]) ⟨eIn2_ok, eOut2_ok, eTimes2_ok, trivial⟩ Try.func28 2 o0 (by kernel_rfl) (And.intro h.2 trivial))
  | .inr a, .inl b => onlyIf (fun h => fn_gives (P := Try.prog) (env := [eIn2, eOut2, eTimes2]) ⟨eIn2_ok, eOut2_ok, eTimes2_ok, trivial⟩ Try.func28 2 o0 (by kernel_rfl) (And.intro h.1 trivial))
  | .inr a, .inr b => onlyIf (fun h => fn_gives (P := Try.prog) (env := [eIn2, eOut2, eTimes2]) ⟨eIn2_ok, eOut2_ok, eTimes2_ok, trivial⟩ Try.func28 2 o0 (by kernel_rfl) (And.intro h.2 (And.intro h.1 trivial))))
def eDNeg : Entry := entry1 27 par2 (fun a => [(some (sm2 a), .ag (q2 (neg2 (el2 a))))])
theorem eDNeg_ok : eDNeg.OK Try.prog := entry1_ok (fun args w => Go.Proofs.enters_of (P := Try.prog) Try.func27 (by kernel_rfl) rfl args w) (fun a => match a with
  | .inl a => onlyIf (fun h => fn_gives (P := Try.prog) (env := [eIn2, eOut2, eNeg2]) ⟨eIn2_ok, eOut2_ok, eNeg2_ok, trivial⟩ Try.func27 2 o0 (by kernel_rfl) trivial)
  | .inr a => onlyIf (fun h => fn_gives (P := Try.prog) (env := [eIn2, eOut2, eNeg2]) ⟨eIn2_ok, eOut2_ok, eNeg2_ok, trivial⟩ Try.func27 2 o0 (by kernel_rfl) (And.intro h trivial)))
def eDClean : Entry := entry1 26 par2 (fun a => [(some (sm2 a), .ag (q2 (el2 a)))])
theorem eDClean_ok : eDClean.OK Try.prog := entry1_ok (fun args w => Go.Proofs.enters_of (P := Try.prog) Try.func26 (by kernel_rfl) rfl args w) (fun a => match a with
  | .inl a => onlyIf (fun h => fn_gives (P := Try.prog) (env := [eIn2, eOut2]) ⟨eIn2_ok, eOut2_ok, trivial⟩ Try.func26 2 o0 (by kernel_rfl) trivial)
  | .inr a => onlyIf (fun h => fn_gives (P := Try.prog) (env := [eIn2, eOut2]) ⟨eIn2_ok, eOut2_ok, trivial⟩ Try.func26 2 o0 (by kernel_rfl) (And.intro h trivial)))
def eUClean : Entry := entry1 17 par12 (fun a => [(some (sm12 a), .ag (q12 (el12 a)))])
theorem eUClean_ok : eUClean.OK Try.prog := entry1_ok (fun args w => Go.Proofs.enters_of (P := Try.prog) Try.func17 (by kernel_rfl) rfl args w) (fun a => match a with
  | .inl a => onlyIf (fun h => fn_gives (P := Try.prog) (env := [eIn12, eOut12]) ⟨eIn12_ok, eOut12_ok, trivial⟩ Try.func17 2 o0 (by kernel_rfl) trivial)
  | .inr a => onlyIf (fun h => fn_gives (P := Try.prog) (env := [eIn12, eOut12]) ⟨eIn12_ok, eOut12_ok, trivial⟩ Try.func17 2 o0 (by kernel_rfl) (And.intro h trivial)))
def eUAdd : Entry := entry2 15 par12 par12 (fun a b => [(some (sm12 a ∧ sm12 b), .ag (q12 (add12 (el12 a) (el12 b))))])
theorem eUAdd_ok : eUAdd.OK Try.prog := entry2_ok (fun args w => Go.Proofs.enters_of (P := Try.prog) Try.func15 (by kernel_rfl) rfl args w) (fun a b => match a, b with
  | .inl a, .inl b => onlyIf (fun h => fn_gives (P := Try.prog) (env := [eIn12, eOut12, ePlus12]) ⟨eIn12_ok, eOut12_ok, ePlus12_ok, trivial⟩ Try.func15 2 o0 (by kernel_rfl) trivial)
  | .inl a, .inr b => onlyIf (fun h => fn_gives (P := Try.prog) (env := [eIn12, eOut12, ePlus12]) ⟨eIn12_ok, eOut12_ok, ePlus12_ok, trivial⟩ Try.func15 2 o0 (by kernel_rfl) (And.intro h.2 trivial))
  | .inr a, .inl b => onlyIf (fun h => fn_gives (P := Try.prog) (env := [eIn12, eOut12, ePlus12]) ⟨eIn12_ok, eOut12_ok, ePlus12_ok, trivial⟩ Try.func15 2 o0 (by kernel_rfl) (And.intro h.1 trivial))
  | .inr a, .inr b => onlyIf (fun h => fn_gives (P := Try.prog) (env := [eIn12, eOut12, ePlus12]) ⟨eIn12_ok, eOut12_ok, ePlus12_ok, trivial⟩ Try.func15 2 o0 (by kernel_rfl) (And.intro h.2 (And.intro h.1 trivial))))
def eUMul : Entry := entry2 12 par12 par12 (fun a b => [(some (sm12 a ∧ sm12 b), .ag (q12 (mul12 (el12 a) (el12 b))))])
theorem eUMul_ok : eUMul.OK Try.prog := entry2_ok (fun args w => Go.Proofs.enters_of (P := Try.prog) Try.func12 (by kernel_rfl) rfl args w) (fun a b => match a, b with
  | .inl a, .inl b => onlyIf (fun h => fn_gives (P := Try.prog) (env := [eIn12, eOut12, eTimes12]) ⟨eIn12_ok, eOut12_ok, eTimes12_ok, trivial⟩ Try.func12 2 o0 (by kernel_rfl) trivial)
  | .inl a, .inr b => onlyIf (fun h => fn_gives (P := Try.prog) (env := [eIn12, eOut12, eTimes12]) ⟨eIn12_ok, eOut12_ok, eTimes12_ok, trivial⟩ Try.func12 2 o0 (by kernel_rfl) (And.intro h.2 trivial))
  | .inr a, .inl b => onlyIf (fun h => fn_gives (P := Try.prog) (env := [eIn12, eOut12, eTimes12]) ⟨eIn12_ok, eOut12_ok, eTimes12_ok, trivial⟩ Try.func12 2 o0 (by kernel_rfl) (And.intro h.1 trivial))
  | .inr a, .inr b => onlyIf (fun h => fn_gives (P := Try.prog) (env := [eIn12, eOut12, eTimes12]) ⟨eIn12_ok, eOut12_ok, eTimes12_ok, trivial⟩ Try.func12 2 o0 (by kernel_rfl) (And.intro h.2 (And.intro h.1 trivial))))
def eUConj : Entry := entry1 16 par12 (fun a => [(some (sm12 a), .ag (q12 (conj12 (el12 a))))])
theorem eUConj_ok : eUConj.OK Try.prog := entry1_ok (fun args w => Go.Proofs.enters_of (P := Try.prog) Try.func16 (by kernel_rfl) rfl args w) (fun a => match a with
  | .inl a => onlyIf (fun h => fn_gives (P := Try.prog) (env := [eIn12, eOut12, eConj12]) ⟨eIn12_ok, eOut12_ok, eConj12_ok, trivial⟩ Try.func16 2 o0 (by kernel_rfl) trivial)
  | .inr a => onlyIf (fun h => fn_gives (P := Try.prog) (env := [eIn12, eOut12, eConj12]) ⟨eIn12_ok, eOut12_ok, eConj12_ok, trivial⟩ Try.func16 2 o0 (by kernel_rfl) (And.intro h trivial)))
def eUOne : Entry := entry0 40 [(none, .ag (q12 one12))]
theorem eUOne_ok : eUOne.OK Try.prog := entry0_ok (fun args w => Go.Proofs.enters_of (P := Try.prog) Try.func40 (by kernel_rfl) rfl args w) (only (fn_gives (P := Try.prog) (env := [eOne12, eOut12]) ⟨eOne12_ok, eOut12_ok, trivial⟩ Try.func40 1 o0 (by kernel_rfl) trivial))
def eClean2 : Entry := entry1 18 parN2.x (fun a => [(some (small2 a), .ag (q2 (of2 a)))])
theorem eClean2_ok : eClean2.OK Try.prog := entry1_ok (fun args w => Go.Proofs.enters_of (P := Try.prog) Try.func18 (by kernel_rfl) rfl args w) (fun a => onlyIf (fun h => fn_gives (P := Try.prog) (env := [eCleanP]) ⟨eCleanP_ok, trivial⟩ Try.func18 0 o0 (by kernel_rfl) (And.intro h.2 (And.intro h.1 trivial))))
def eAdd2r : Entry := entry2 104 parL2.x parL2.x (fun a b => [(none, .ag (q2 (add2 a b)))])
theorem eAdd2r_ok : eAdd2r.OK Try.prog := entry2_ok (fun args w => Go.Proofs.enters_of (P := Try.prog) Try.func104 (by kernel_rfl) rfl args w) (fun a b => only (fn_gives (P := Try.prog) (env := [eAddP]) ⟨eAddP_ok, trivial⟩ Try.func104 0 o0 (by kernel_rfl) trivial))
def eNeg2r : Entry := entry1 50 parL2.x (fun a => [(none, .ag (q2 (neg2 a)))])
theorem eNeg2r_ok : eNeg2r.OK Try.prog := entry1_ok (fun args w => Go.Proofs.enters_of (P := Try.prog) Try.func50 (by kernel_rfl) rfl args w) (fun a => only (fn_gives (P := Try.prog) (env := [eNegPr]) ⟨eNegPr_ok, trivial⟩ Try.func50 0 o0 (by kernel_rfl) trivial))
def eClean6 : Entry := entry1 39 parN66.x (fun a => [(some (small6 a), .ag (q6 (of6 a)))])
theorem eClean6_ok : eClean6.OK Try.prog := entry1_ok (fun args w => Go.Proofs.enters_of (P := Try.prog) Try.func39 (by kernel_rfl) rfl args w) (fun a => onlyIf (fun h => fn_gives (P := Try.prog) (env := [eClean2]) ⟨eClean2_ok, trivial⟩ Try.func39 0 o0 (by kernel_rfl) (And.intro h.2.2 (And.intro h.2.1 (And.intro h.1 trivial)))))
def eAdd6r : Entry := entry2 75 parL6.x parL6.x (fun a b => [(none, .ag (q6 (add6 a b)))])
theorem eAdd6r_ok : eAdd6r.OK Try.prog := entry2_ok (fun args w => Go.Proofs.enters_of (P := Try.prog) Try.func75 (by kernel_rfl) rfl args w) (fun a b => only (fn_gives (P := Try.prog) (env := [eAdd2r]) ⟨eAdd2r_ok, trivial⟩ Try.func75 0 o0 (by kernel_rfl) trivial))
def eClean12 : Entry := entry1 10 parN12.x (fun a => [(some (small12 a), .ag (q12 (of12 a)))])
theorem eClean12_ok : eClean12.OK Try.prog := entry1_ok (fun args w => Go.Proofs.enters_of (P := Try.prog) Try.func10 (by kernel_rfl) rfl args w) (fun a => onlyIf (fun h => fn_gives (P := Try.prog) (env := [eClean6]) ⟨eClean6_ok, trivial⟩ Try.func10 0 o0 (by kernel_rfl) (And.intro h.2 (And.intro h.1 trivial))))
def uN : N2 := (0, 1)
def eAl5 : Entry := entry0 22 [(none, .v (.bool true))]
theorem small_u : small2 uN := by unfold small2 small uN; decide
theorem eAl5_ok : eAl5.OK Try.prog := entry0_ok (fun args w => Go.Proofs.enters_of (P := Try.prog) Try.func22 (by kernel_rfl) rfl args w) (only (fn_gives (P := Try.prog) (env := [eDMul, eNeg2r]) ⟨eDMul_ok, eNeg2r_ok, trivial⟩ Try.func22 0 o0 (by kernel_rfl)
    (And.intro (show flat (q2 (mul2 (of2 uN) (of2 uN))) = flat (q2 (neg2 (1, 0))) from by kernel_rfl) (And.intro (show sm2 (.inr uN) ∧ sm2 (.inr uN) from ⟨small_u, small_u⟩) trivial))))
def eOne12r : Entry := entry0 37 [(none, .ag (q12 one12))]
theorem eOne12r_ok : eOne12r.OK Try.prog := entry0_ok (fun args w => Go.Proofs.enters_of (P := Try.prog) Try.func37 (by kernel_rfl) rfl args w) (only ((fn_gives (P := Try.prog) (env := []) trivial Try.func37 0 o0 (r := .ag (.c (.int .u64 1) :: List.replicate 71 (.c (.int .u64 0)))) (by kernel_rfl) trivial).same (by kernel_rfl)))
def eAl7 : Entry := entry0 11 [(none, .v (.bool true))]
theorem eAl7_ok : eAl7.OK Try.prog := entry0_ok (fun args w => Go.Proofs.enters_of (P := Try.prog) Try.func11 (by kernel_rfl) rfl args w) (only (fn_gives (P := Try.prog) (env := [eUOne, eOne12r]) ⟨eUOne_ok, eOne12r_ok, trivial⟩ Try.func11 0 o0 (by kernel_rfl)
    (And.intro (show flat (q12 one12) = flat (q12 one12) from rfl) trivial)))
end Go.Proofs.Ytapapelfjjnhmaa
