/- Contracts of the towers: negatives, conjugates, the greatest field; the layers duo, sext, full; their references' sums. -/
import Derived.Test.YtonklhcmpbhhaaaTow
import Derived.Test.YtonklhcmpbhhaaaSex
import Derived.Test.YtonklhcmpbhhaaaRbP
set_option linter.unusedSimpArgs false
set_option linter.unusedVariables false
namespace Go.Proofs.Ytonklhcmpbhhaaa
open Go.Ev Go.RowKit

def eNeg2 : Entry := entry1 90 parM2.x (fun a => [(none, .ag (m2 (neg2 a)))])
theorem eNeg2_ok : eNeg2.OK Try.prog := entry1_ok (fun args w => Go.Proofs.enters_of (P := Try.prog) Try.func90 (by kernel_rfl) rfl args w) (fun a => only (fn_gives (P := Try.prog) (env := [eNegP]) ⟨eNegP_ok, trivial⟩ Try.func90 0 o0 (by kernel_rfl) trivial))
def eConj2 : Entry := entry1 82 parM2.x (fun a => [(none, .ag (m2 (conj2 a)))])
theorem eConj2_ok : eConj2.OK Try.prog := entry1_ok (fun args w => Go.Proofs.enters_of (P := Try.prog) Try.func82 (by kernel_rfl) rfl args w) (fun a => only (fn_gives (P := Try.prog) (env := [eNegP]) ⟨eNegP_ok, trivial⟩ Try.func82 0 o0 (by kernel_rfl) trivial))
def eMinus6 : Entry := entry2 97 parM6.x parM6.x (fun a b => [(none, .ag (m6 (sub6 a b)))])
theorem eMinus6_ok : eMinus6.OK Try.prog := entry2_ok (fun args w => Go.Proofs.enters_of (P := Try.prog) Try.func97 (by kernel_rfl) rfl args w) (fun a b => only (fn_gives (P := Try.prog) (env := [eMinus2]) ⟨eMinus2_ok, trivial⟩ Try.func97 0 o0 (by kernel_rfl) trivial))
def eNeg6 : Entry := entry1 98 parM6.x (fun a => [(none, .ag (m6 (neg6 a)))])
theorem eNeg6_ok : eNeg6.OK Try.prog := entry1_ok (fun args w => Go.Proofs.enters_of (P := Try.prog) Try.func98 (by kernel_rfl) rfl args w) (fun a => only (fn_gives (P := Try.prog) (env := [eNeg2]) ⟨eNeg2_ok, trivial⟩ Try.func98 0 o0 (by kernel_rfl) trivial))
def ePlus12 : Entry := entry2 77 parM12.x parM12.x (fun a b => [(none, .ag (m12 (add12 a b)))])
theorem ePlus12_ok : ePlus12.OK Try.prog := entry2_ok (fun args w => Go.Proofs.enters_of (P := Try.prog) Try.func77 (by kernel_rfl) rfl args w) (fun a b => only (fn_gives (P := Try.prog) (env := [ePlus6]) ⟨ePlus6_ok, trivial⟩ Try.func77 0 o0 (by kernel_rfl) trivial))
def eConj12 : Entry := entry1 78 parM12.x (fun a => [(none, .ag (m12 (conj12 a)))])
theorem eConj12_ok : eConj12.OK Try.prog := entry1_ok (fun args w => Go.Proofs.enters_of (P := Try.prog) Try.func78 (by kernel_rfl) rfl args w) (fun a => only (fn_gives (P := Try.prog) (env := [eNeg6]) ⟨eNeg6_ok, trivial⟩ Try.func78 0 o0 (by kernel_rfl) trivial))
def eTimes12 : Entry := entry2 100 parM12.x parM12.x (fun a b => [(none, .ag (m12 (mul12 a b)))])
theorem eTimes12_ok : eTimes12.OK Try.prog := entry2_ok (fun args w => Go.Proofs.enters_of (P := Try.prog) Try.func100 (by kernel_rfl) rfl args w) (fun a b => only (fn_gives (P := Try.prog) (env := [ePlus6, eMinus6, eTimes6, eShf6]) ⟨ePlus6_ok, eMinus6_ok, eTimes6_ok, eShf6_ok, trivial⟩ Try.func100 0 o0 (by kernel_rfl) trivial))
def eOut12 : Entry := entry1 76 parM12.x (fun a => [(none, .ag (q12 a))])
theorem eOut12_ok : eOut12.OK Try.prog := entry1_ok (fun args w => Go.Proofs.enters_of (P := Try.prog) Try.func76 (by kernel_rfl) rfl args w) (fun a => only (fn_gives (P := Try.prog) (env := [eOut6]) ⟨eOut6_ok, trivial⟩ Try.func76 0 o0 (by kernel_rfl) trivial))
def eIn12 : Entry := entryOr1 75 parQ12.x parN12.x (fun a => [(none, .ag (m12 a))]) (fun a => [(some (small12 a), .ag (m12 (of12 a)))])
theorem eIn12_ok : eIn12.OK Try.prog := entryOr1_ok (entry1_ok (fun args w => Go.Proofs.enters_of (P := Try.prog) Try.func75 (by kernel_rfl) rfl args w) (fun a => only (fn_gives (P := Try.prog) (env := [eIn6]) ⟨eIn6_ok, trivial⟩ Try.func75 0 o0 (by kernel_rfl) trivial)))
  (entry1_ok (fun args w => Go.Proofs.enters_of (P := Try.prog) Try.func75 (by kernel_rfl) rfl args w) (fun a => onlyIf (fun h => fn_gives (P := Try.prog) (env := [eIn6]) ⟨eIn6_ok, trivial⟩ Try.func75 0 o0 (by kernel_rfl) (And.intro h.2 (And.intro h.1 trivial)))))
def eOne12 : Entry := entry0 101 [(none, .ag (m12 one12))]
theorem eOne12_ok : eOne12.OK Try.prog := entry0_ok (fun args w => Go.Proofs.enters_of (P := Try.prog) Try.func101 (by kernel_rfl) rfl args w) (only ((fn_gives (P := Try.prog) (env := [eInPq]) ⟨eInPq_ok, trivial⟩ Try.func101 1 o0 (r := .ag (.m (ofP 1) :: List.replicate 66 (.c (.int .u64 0)))) (by kernel_rfl) (And.intro (show smP 1 from by unfold smP; decide) trivial)).same (by kernel_rfl)))
def eDAdd : Entry := entry2 42 par2 par2 (fun a b => [(some (sm2 a ∧ sm2 b), .ag (q2 (add2 (el2 a) (el2 b))))])
theorem eDAdd_ok : eDAdd.OK Try.prog := entry2_ok (fun args w => Go.Proofs.enters_of (P := Try.prog) Try.func42 (by kernel_rfl) rfl args w) (fun a b => match a, b with
  | .inl a, .inl b => onlyIf (fun h => fn_gives (P := Try.prog) (env := [eIn2, eOut2, ePlus2]) ⟨eIn2_ok, eOut2_ok, ePlus2_ok, trivial⟩ Try.func42 2 o0 (by kernel_rfl) trivial)
  | .inl a, .inr b => onlyIf (fun h => fn_gives (P := Try.prog) (env := [eIn2, eOut2, ePlus2]) ⟨eIn2_ok, eOut2_ok, ePlus2_ok, trivial⟩ Try.func42 2 o0 (by kernel_rfl) (And.intro h.2 trivial))
  | .inr a, .inl b => onlyIf (fun h => fn_gives (P := Try.prog) (env := [eIn2, eOut2, ePlus2]) ⟨eIn2_ok, eOut2_ok, ePlus2_ok, trivial⟩ Try.func42 2 o0 (by kernel_rfl) (And.intro h.1 trivial))
  | .inr a, .inr b => onlyIf (fun h => fn_gives (P := Try.prog) (env := [eIn2, eOut2, ePlus2]) ⟨eIn2_ok, eOut2_ok, ePlus2_ok, trivial⟩ Try.func42 2 o0 (by kernel_rfl) (And.intro h.2 (And.intro h.1 trivial))))
def eDSub : Entry := entry2 46 par2 par2 (fun a b => [(some (sm2 a ∧ sm2 b), .ag (q2 (sub2 (el2 a) (el2 b))))])
theorem eDSub_ok : eDSub.OK Try.prog := entry2_ok (fun args w => Go.Proofs.enters_of (P := Try.prog) Try.func46 (by kernel_rfl) rfl args w) (fun a b => match a, b with
  | .inl a, .inl b => onlyIf (fun h => fn_gives (P := Try.prog) (env := [eIn2, eOut2, eMinus2]) ⟨eIn2_ok, eOut2_ok, eMinus2_ok, trivial⟩ Try.func46 2 o0 (by kernel_rfl) trivial)
  | .inl a, .inr b => onlyIf (fun h => fn_gives (P := Try.prog) (env := [eIn2, eOut2, eMinus2]) ⟨eIn2_ok, eOut2_ok, eMinus2_ok, trivial⟩ Try.func46 2 o0 (by kernel_rfl) (And.intro h.2 trivial))
  | .inr a, .inl b => onlyIf (fun h => fn_gives (P := Try.prog) (env := [eIn2, eOut2, eMinus2]) ⟨eIn2_ok, eOut2_ok, eMinus2_ok, trivial⟩ Try.func46 2 o0 (by kernel_rfl) (And.intro h.1 trivial))
  | .inr a, .inr b => onlyIf (fun h => fn_gives (P := Try.prog) (env := [eIn2, eOut2, eMinus2]) ⟨eIn2_ok, eOut2_ok, eMinus2_ok, trivial⟩ Try.func46 2 o0 (by kernel_rfl) (And.intro h.2 (And.intro h.1 trivial))))
def eDMul : Entry := entry2 39 par2 par2 (fun a b => [(some (sm2 a ∧ sm2 b), .ag (q2 (mul2 (el2 a) (el2 b))))])
theorem eDMul_ok : eDMul.OK Try.prog := entry2_ok (fun args w => Go.Proofs.enters_of (P := Try.prog) Try.func39 (by kernel_rfl) rfl args w) (fun a b => match a, b with
  | .inl a, .inl b => onlyIf (fun h => fn_gives (P := Try.prog) (env := [eIn2, eOut2, eTimes2]) ⟨eIn2_ok, eOut2_ok, eTimes2_ok, trivial⟩ Try.func39 2 o0 (by kernel_rfl) trivial)
  | .inl a, .inr b => onlyIf (fun h => fn_gives (P := Try.prog) (env := [eIn2, eOut2, eTimes2]) ⟨eIn2_ok, eOut2_ok, eTimes2_ok, trivial⟩ Try.func39 2 o0 (by kernel_rfl) (And.intro h.2 trivial))
  | .inr a, .inl b => onlyIf (fun h => fn_gives (P := Try.prog) (env := [eIn2, eOut2, eTimes2]) ⟨eIn2_ok, eOut2_ok, eTimes2_ok, trivial⟩ Try.func39 2 o0 (by kernel_rfl) (And.intro h.1 trivial))
  | .inr a, .inr b => onlyIf (fun h => fn_gives (P := Try.prog) (env := [eIn2, eOut2, eTimes2]) ⟨eIn2_ok, eOut2_ok, eTimes2_ok, trivial⟩ Try.func39 2 o0 (by kernel_rfl) (And.intro h.2 (And.intro h.1 trivial))))
def eDNeg : Entry := entry1 48 par2 (fun a => [(some (sm2 a), .ag (q2 (neg2 (el2 a))))])
theorem eDNeg_ok : eDNeg.OK Try.prog := entry1_ok (fun args w => Go.Proofs.enters_of (P := Try.prog) Try.func48 (by kernel_rfl) rfl args w) (fun a => match a with
  | .inl a => onlyIf (fun h => fn_gives (P := Try.prog) (env := [eIn2, eOut2, eNeg2]) ⟨eIn2_ok, eOut2_ok, eNeg2_ok, trivial⟩ Try.func48 2 o0 (by kernel_rfl) trivial)
  | .inr a => onlyIf (fun h => fn_gives (P := Try.prog) (env := [eIn2, eOut2, eNeg2]) ⟨eIn2_ok, eOut2_ok, eNeg2_ok, trivial⟩ Try.func48 2 o0 (by kernel_rfl) (And.intro h trivial)))
def eDConj : Entry := entry1 38 par2 (fun a => [(some (sm2 a), .ag (q2 (conj2 (el2 a))))])
theorem eDConj_ok : eDConj.OK Try.prog := entry1_ok (fun args w => Go.Proofs.enters_of (P := Try.prog) Try.func38 (by kernel_rfl) rfl args w) (fun a => match a with
  | .inl a => onlyIf (fun h => fn_gives (P := Try.prog) (env := [eIn2, eOut2, eConj2]) ⟨eIn2_ok, eOut2_ok, eConj2_ok, trivial⟩ Try.func38 2 o0 (by kernel_rfl) trivial)
  | .inr a => onlyIf (fun h => fn_gives (P := Try.prog) (env := [eIn2, eOut2, eConj2]) ⟨eIn2_ok, eOut2_ok, eConj2_ok, trivial⟩ Try.func38 2 o0 (by kernel_rfl) (And.intro h trivial)))
def eDClean : Entry := entry1 43 par2 (fun a => [(some (sm2 a), .ag (q2 (el2 a)))])
theorem eDClean_ok : eDClean.OK Try.prog := entry1_ok (fun args w => Go.Proofs.enters_of (P := Try.prog) Try.func43 (by kernel_rfl) rfl args w) (fun a => match a with
  | .inl a => onlyIf (fun h => fn_gives (P := Try.prog) (env := [eIn2, eOut2]) ⟨eIn2_ok, eOut2_ok, trivial⟩ Try.func43 2 o0 (by kernel_rfl) trivial)
  | .inr a => onlyIf (fun h => fn_gives (P := Try.prog) (env := [eIn2, eOut2]) ⟨eIn2_ok, eOut2_ok, trivial⟩ Try.func43 2 o0 (by kernel_rfl) (And.intro h trivial)))
def eSSub : Entry := entry2 59 par6 par6 (fun a b => [(some (sm6 a ∧ sm6 b), .ag (q6 (sub6 (el6 a) (el6 b))))])
theorem eSSub_ok : eSSub.OK Try.prog := entry2_ok (fun args w => Go.Proofs.enters_of (P := Try.prog) Try.func59 (by kernel_rfl) rfl args w) (fun a b => match a, b with
  | .inl a, .inl b => onlyIf (fun h => fn_gives (P := Try.prog) (env := [eIn6, eOut6, eMinus6]) ⟨eIn6_ok, eOut6_ok, eMinus6_ok, trivial⟩ Try.func59 2 o0 (by kernel_rfl) trivial)
  | .inl a, .inr b => onlyIf (fun h => fn_gives (P := Try.prog) (env := [eIn6, eOut6, eMinus6]) ⟨eIn6_ok, eOut6_ok, eMinus6_ok, trivial⟩ Try.func59 2 o0 (by kernel_rfl) (And.intro h.2 trivial))
  | .inr a, .inl b => onlyIf (fun h => fn_gives (P := Try.prog) (env := [eIn6, eOut6, eMinus6]) ⟨eIn6_ok, eOut6_ok, eMinus6_ok, trivial⟩ Try.func59 2 o0 (by kernel_rfl) (And.intro h.1 trivial))
  | .inr a, .inr b => onlyIf (fun h => fn_gives (P := Try.prog) (env := [eIn6, eOut6, eMinus6]) ⟨eIn6_ok, eOut6_ok, eMinus6_ok, trivial⟩ Try.func59 2 o0 (by kernel_rfl) (And.intro h.2 (And.intro h.1 trivial))))
def eSNeg : Entry := entry1 61 par6 (fun a => [(some (sm6 a), .ag (q6 (neg6 (el6 a))))])
theorem eSNeg_ok : eSNeg.OK Try.prog := entry1_ok (fun args w => Go.Proofs.enters_of (P := Try.prog) Try.func61 (by kernel_rfl) rfl args w) (fun a => match a with
  | .inl a => onlyIf (fun h => fn_gives (P := Try.prog) (env := [eIn6, eOut6, eNeg6]) ⟨eIn6_ok, eOut6_ok, eNeg6_ok, trivial⟩ Try.func61 2 o0 (by kernel_rfl) trivial)
  | .inr a => onlyIf (fun h => fn_gives (P := Try.prog) (env := [eIn6, eOut6, eNeg6]) ⟨eIn6_ok, eOut6_ok, eNeg6_ok, trivial⟩ Try.func61 2 o0 (by kernel_rfl) (And.intro h trivial)))
def eSClean : Entry := entry1 57 par6 (fun a => [(some (sm6 a), .ag (q6 (el6 a)))])
theorem eSClean_ok : eSClean.OK Try.prog := entry1_ok (fun args w => Go.Proofs.enters_of (P := Try.prog) Try.func57 (by kernel_rfl) rfl args w) (fun a => match a with
  | .inl a => onlyIf (fun h => fn_gives (P := Try.prog) (env := [eIn6, eOut6]) ⟨eIn6_ok, eOut6_ok, trivial⟩ Try.func57 2 o0 (by kernel_rfl) trivial)
  | .inr a => onlyIf (fun h => fn_gives (P := Try.prog) (env := [eIn6, eOut6]) ⟨eIn6_ok, eOut6_ok, trivial⟩ Try.func57 2 o0 (by kernel_rfl) (And.intro h trivial)))
def eUClean : Entry := entry1 29 par12 (fun a => [(some (sm12 a), .ag (q12 (el12 a)))])
theorem eUClean_ok : eUClean.OK Try.prog := entry1_ok (fun args w => Go.Proofs.enters_of (P := Try.prog) Try.func29 (by kernel_rfl) rfl args w) (fun a => match a with
  | .inl a => onlyIf (fun h => fn_gives (P := Try.prog) (env := [eIn12, eOut12]) ⟨eIn12_ok, eOut12_ok, trivial⟩ Try.func29 2 o0 (by kernel_rfl) trivial)
  | .inr a => onlyIf (fun h => fn_gives (P := Try.prog) (env := [eIn12, eOut12]) ⟨eIn12_ok, eOut12_ok, trivial⟩ Try.func29 2 o0 (by kernel_rfl) (And.intro h trivial)))
def eUAdd : Entry := entry2 30 par12 par12 (fun a b => [(some (sm12 a ∧ sm12 b), .ag (q12 (add12 (el12 a) (el12 b))))])
theorem eUAdd_ok : eUAdd.OK Try.prog := entry2_ok (fun args w => Go.Proofs.enters_of (P := Try.prog) Try.func30 (by kernel_rfl) rfl args w) (fun a b => match a, b with
  | .inl a, .inl b => onlyIf (fun h => fn_gives (P := Try.prog) (env := [eIn12, eOut12, ePlus12]) ⟨eIn12_ok, eOut12_ok, ePlus12_ok, trivial⟩ Try.func30 2 o0 (by kernel_rfl) trivial)
  | .inl a, .inr b => onlyIf (fun h => fn_gives (P := Try.prog) (env := [eIn12, eOut12, ePlus12]) ⟨eIn12_ok, eOut12_ok, ePlus12_ok, trivial⟩ Try.func30 2 o0 (by kernel_rfl) (And.intro h.2 trivial))
  | .inr a, .inl b => onlyIf (fun h => fn_gives (P := Try.prog) (env := [eIn12, eOut12, ePlus12]) ⟨eIn12_ok, eOut12_ok, ePlus12_ok, trivial⟩ Try.func30 2 o0 (by kernel_rfl) (And.intro h.1 trivial))
  | .inr a, .inr b => onlyIf (fun h => fn_gives (P := Try.prog) (env := [eIn12, eOut12, ePlus12]) ⟨eIn12_ok, eOut12_ok, ePlus12_ok, trivial⟩ Try.func30 2 o0 (by kernel_rfl) (And.intro h.2 (And.intro h.1 trivial))))
def eUMul : Entry := entry2 63 par12 par12 (fun a b => [(some (sm12 a ∧ sm12 b), .ag (q12 (mul12 (el12 a) (el12 b))))])
theorem eUMul_ok : eUMul.OK Try.prog := entry2_ok (fun args w => Go.Proofs.enters_of (P := Try.prog) Try.func63 (by kernel_rfl) rfl args w) (fun a b => match a, b with
  | .inl a, .inl b => onlyIf (fun h => fn_gives (P := Try.prog) (env := [eIn12, eOut12, eTimes12]) ⟨eIn12_ok, eOut12_ok, eTimes12_ok, trivial⟩ Try.func63 2 o0 (by kernel_rfl) trivial)
  | .inl a, .inr b => onlyIf (fun h => fn_gives (P := Try.prog) (env := [eIn12, eOut12, eTimes12]) ⟨eIn12_ok, eOut12_ok, eTimes12_ok, trivial⟩ Try.func63 2 o0 (by kernel_rfl) (And.intro h.2 trivial))
  | .inr a, .inl b => onlyIf (fun h => fn_gives (P := Try.prog) (env := [eIn12, eOut12, eTimes12]) ⟨eIn12_ok, eOut12_ok, eTimes12_ok, trivial⟩ Try.func63 2 o0 (by kernel_rfl) (And.intro h.1 trivial))
  | .inr a, .inr b => onlyIf (fun h => fn_gives (P := Try.prog) (env := [eIn12, eOut12, eTimes12]) ⟨eIn12_ok, eOut12_ok, eTimes12_ok, trivial⟩ Try.func63 2 o0 (by kernel_rfl) (And.intro h.2 (And.intro h.1 trivial))))
def eUConj : Entry := entry1 32 par12 (fun a => [(some (sm12 a), .ag (q12 (conj12 (el12 a))))])
theorem eUConj_ok : eUConj.OK Try.prog := entry1_ok (fun args w => Go.Proofs.enters_of (P := Try.prog) Try.func32 (by kernel_rfl) rfl args w) (fun a => match a with
  | .inl a => onlyIf (fun h => fn_gives (P := Try.prog) (env := [eIn12, eOut12, eConj12]) ⟨eIn12_ok, eOut12_ok, eConj12_ok, trivial⟩ Try.func32 2 o0 (by kernel_rfl) trivial)
  | .inr a => onlyIf (fun h => fn_gives (P := Try.prog) (env := [eIn12, eOut12, eConj12]) ⟨eIn12_ok, eOut12_ok, eConj12_ok, trivial⟩ Try.func32 2 o0 (by kernel_rfl) (And.intro h trivial)))
def eUOne : Entry := entry0 73 [(none, .ag (q12 one12))]
theorem eUOne_ok : eUOne.OK Try.prog := entry0_ok (fun args w => Go.Proofs.enters_of (P := Try.prog) Try.func73 (by kernel_rfl) rfl args w) (only (fn_gives (P := Try.prog) (env := [eOne12, eOut12]) ⟨eOne12_ok, eOut12_ok, trivial⟩ Try.func73 1 o0 (by kernel_rfl) trivial))
def eClean2 : Entry := entry1 44 parN2.x (fun a => [(some (small2 a), .ag (q2 (of2 a)))])
theorem eClean2_ok : eClean2.OK Try.prog := entry1_ok (fun args w => Go.Proofs.enters_of (P := Try.prog) Try.func44 (by kernel_rfl) rfl args w) (fun a => onlyIf (fun h => fn_gives (P := Try.prog) (env := [eCleanP]) ⟨eCleanP_ok, trivial⟩ Try.func44 0 o0 (by kernel_rfl) (And.intro h.2 (And.intro h.1 trivial))))
def eAdd2r : Entry := entry2 45 parL2.x parL2.x (fun a b => [(none, .ag (q2 (add2 a b)))])
theorem eAdd2r_ok : eAdd2r.OK Try.prog := entry2_ok (fun args w => Go.Proofs.enters_of (P := Try.prog) Try.func45 (by kernel_rfl) rfl args w) (fun a b => only (fn_gives (P := Try.prog) (env := [eAddP]) ⟨eAddP_ok, trivial⟩ Try.func45 0 o0 (by kernel_rfl) trivial))
def eNeg2r : Entry := entry1 49 parL2.x (fun a => [(none, .ag (q2 (neg2 a)))])
theorem eNeg2r_ok : eNeg2r.OK Try.prog := entry1_ok (fun args w => Go.Proofs.enters_of (P := Try.prog) Try.func49 (by kernel_rfl) rfl args w) (fun a => only (fn_gives (P := Try.prog) (env := [eNegPr]) ⟨eNegPr_ok, trivial⟩ Try.func49 0 o0 (by kernel_rfl) trivial))
def eSub2r : Entry := entry2 47 parL2.x parL2.x (fun a b => [(none, .ag (q2 (add2 a (neg2 b))))])
theorem eSub2r_ok : eSub2r.OK Try.prog := entry2_ok (fun args w => Go.Proofs.enters_of (P := Try.prog) Try.func47 (by kernel_rfl) rfl args w) (fun a b => only (fn_gives (P := Try.prog) (env := [eNeg2r, eAdd2r]) ⟨eNeg2r_ok, eAdd2r_ok, trivial⟩ Try.func47 0 o0 (by kernel_rfl) trivial))
def eConj2r : Entry := entry1 50 parL2.x (fun a => [(none, .ag (q2 (conj2 a)))])
theorem eConj2r_ok : eConj2r.OK Try.prog := entry1_ok (fun args w => Go.Proofs.enters_of (P := Try.prog) Try.func50 (by kernel_rfl) rfl args w) (fun a => only (fn_gives (P := Try.prog) (env := [eNegPr]) ⟨eNegPr_ok, trivial⟩ Try.func50 0 o0 (by kernel_rfl) trivial))
def eClean6 : Entry := entry1 56 parN66.x (fun a => [(some (small6 a), .ag (q6 (of6 a)))])
theorem eClean6_ok : eClean6.OK Try.prog := entry1_ok (fun args w => Go.Proofs.enters_of (P := Try.prog) Try.func56 (by kernel_rfl) rfl args w) (fun a => onlyIf (fun h => fn_gives (P := Try.prog) (env := [eClean2]) ⟨eClean2_ok, trivial⟩ Try.func56 0 o0 (by kernel_rfl) (And.intro h.2.2 (And.intro h.2.1 (And.intro h.1 trivial)))))
def eAdd6r : Entry := entry2 58 parL6.x parL6.x (fun a b => [(none, .ag (q6 (add6 a b)))])
theorem eAdd6r_ok : eAdd6r.OK Try.prog := entry2_ok (fun args w => Go.Proofs.enters_of (P := Try.prog) Try.func58 (by kernel_rfl) rfl args w) (fun a b => only (fn_gives (P := Try.prog) (env := [eAdd2r]) ⟨eAdd2r_ok, trivial⟩ Try.func58 0 o0 (by kernel_rfl) trivial))
def eNeg6r : Entry := entry1 60 parL6.x (fun a => [(none, .ag (q6 (neg6 a)))])
theorem eNeg6r_ok : eNeg6r.OK Try.prog := entry1_ok (fun args w => Go.Proofs.enters_of (P := Try.prog) Try.func60 (by kernel_rfl) rfl args w) (fun a => only (fn_gives (P := Try.prog) (env := [eNeg2r]) ⟨eNeg2r_ok, trivial⟩ Try.func60 0 o0 (by kernel_rfl) trivial))
def eClean12 : Entry := entry1 27 parN12.x (fun a => [(some (small12 a), .ag (q12 (of12 a)))])
theorem eClean12_ok : eClean12.OK Try.prog := entry1_ok (fun args w => Go.Proofs.enters_of (P := Try.prog) Try.func27 (by kernel_rfl) rfl args w) (fun a => onlyIf (fun h => fn_gives (P := Try.prog) (env := [eClean6]) ⟨eClean6_ok, trivial⟩ Try.func27 0 o0 (by kernel_rfl) (And.intro h.2 (And.intro h.1 trivial))))
def eAdd12r : Entry := entry2 31 parL12.x parL12.x (fun a b => [(none, .ag (q12 (add12 a b)))])
theorem eAdd12r_ok : eAdd12r.OK Try.prog := entry2_ok (fun args w => Go.Proofs.enters_of (P := Try.prog) Try.func31 (by kernel_rfl) rfl args w) (fun a b => only (fn_gives (P := Try.prog) (env := [eAdd6r]) ⟨eAdd6r_ok, trivial⟩ Try.func31 0 o0 (by kernel_rfl) trivial))
def eConj12r : Entry := entry1 33 parL12.x (fun a => [(none, .ag (q12 (conj12 a)))])
theorem eConj12r_ok : eConj12r.OK Try.prog := entry1_ok (fun args w => Go.Proofs.enters_of (P := Try.prog) Try.func33 (by kernel_rfl) rfl args w) (fun a => only (fn_gives (P := Try.prog) (env := [eNeg6r]) ⟨eNeg6r_ok, trivial⟩ Try.func33 0 o0 (by kernel_rfl) trivial))
def uN : N2 := (0, 1)
def eAl5 : Entry := entry0 41 [(none, .v (.bool true))]
theorem small_u : small2 uN := by unfold small2 small uN; decide
theorem eAl5_ok : eAl5.OK Try.prog := entry0_ok (fun args w => Go.Proofs.enters_of (P := Try.prog) Try.func41 (by kernel_rfl) rfl args w) (only (fn_gives (P := Try.prog) (env := [eDMul, eNeg2r]) ⟨eDMul_ok, eNeg2r_ok, trivial⟩ Try.func41 0 o0 (by kernel_rfl)
    (And.intro (show flat (q2 (mul2 (of2 uN) (of2 uN))) = flat (q2 (neg2 (1, 0))) from by kernel_rfl) (And.intro (show sm2 (.inr uN) ∧ sm2 (.inr uN) from ⟨small_u, small_u⟩) trivial))))
def eOne12r : Entry := entry0 74 [(none, .ag (q12 one12))]
theorem eOne12r_ok : eOne12r.OK Try.prog := entry0_ok (fun args w => Go.Proofs.enters_of (P := Try.prog) Try.func74 (by kernel_rfl) rfl args w) (only ((fn_gives (P := Try.prog) (env := []) trivial Try.func74 0 o0 (r := .ag (.c (.int .u64 1) :: List.replicate 71 (.c (.int .u64 0)))) (by kernel_rfl) trivial).same (by kernel_rfl)))
def eAl7 : Entry := entry0 28 [(none, .v (.bool true))]
theorem eAl7_ok : eAl7.OK Try.prog := entry0_ok (fun args w => Go.Proofs.enters_of (P := Try.prog) Try.func28 (by kernel_rfl) rfl args w) (only (fn_gives (P := Try.prog) (env := [eUOne, eOne12r]) ⟨eUOne_ok, eOne12r_ok, trivial⟩ Try.func28 0 o0 (by kernel_rfl)
    (And.intro (show flat (q12 one12) = flat (q12 one12) from rfl) trivial)))
end Go.Proofs.Ytonklhcmpbhhaaa
