/- Contracts of the layer sext: sums, products, shifts. -/
import Derived.Test.YtonklhcmpbhhaaaTow
set_option linter.unusedSimpArgs false
set_option linter.unusedVariables false
namespace Go.Proofs.Ytonklhcmpbhhaaa
open Go.Ev Go.RowKit

def eSMul : Entry := entry2 53 par6 par6 (fun a b => [(some (sm6 a ∧ sm6 b), .ag (q6 (mul6 (el6 a) (el6 b))))])
theorem eSMul_ok : eSMul.OK Try.prog := entry2_ok (fun args w => Go.Proofs.enters_of (P := Try.prog) Try.func53 (by kernel_rfl) rfl args w)
  (fun a b => match a, b with
    | .inl a, .inl b => onlyIf (fun h => fn_gives (P := Try.prog) (env := [eIn6, eOut6, eTimes6]) ⟨eIn6_ok, eOut6_ok, eTimes6_ok, trivial⟩ Try.func53 1 o0 (by kernel_rfl) trivial)
    | .inl a, .inr b => onlyIf (fun h => fn_gives (P := Try.prog) (env := [eIn6, eOut6, eTimes6]) ⟨eIn6_ok, eOut6_ok, eTimes6_ok, trivial⟩ Try.func53 1 o0 (by kernel_rfl) (And.intro h.2 trivial))
    | .inr a, .inl b => onlyIf (fun h => fn_gives (P := Try.prog) (env := [eIn6, eOut6, eTimes6]) ⟨eIn6_ok, eOut6_ok, eTimes6_ok, trivial⟩ Try.func53 1 o0 (by kernel_rfl) (And.intro h.1 trivial))
    | .inr a, .inr b => onlyIf (fun h => fn_gives (P := Try.prog) (env := [eIn6, eOut6, eTimes6]) ⟨eIn6_ok, eOut6_ok, eTimes6_ok, trivial⟩ Try.func53 1 o0 (by kernel_rfl) (And.intro h.2 (And.intro h.1 trivial))))
def eSAdd : Entry := entry2 55 par6 par6 (fun a b => [(some (sm6 a ∧ sm6 b), .ag (q6 (add6 (el6 a) (el6 b))))])
theorem eSAdd_ok : eSAdd.OK Try.prog := entry2_ok (fun args w => Go.Proofs.enters_of (P := Try.prog) Try.func55 (by kernel_rfl) rfl args w)
  (fun a b => match a, b with
    | .inl a, .inl b => onlyIf (fun h => fn_gives (P := Try.prog) (env := [eIn6, eOut6, ePlus6]) ⟨eIn6_ok, eOut6_ok, ePlus6_ok, trivial⟩ Try.func55 1 o0 (by kernel_rfl) trivial)
    | .inl a, .inr b => onlyIf (fun h => fn_gives (P := Try.prog) (env := [eIn6, eOut6, ePlus6]) ⟨eIn6_ok, eOut6_ok, ePlus6_ok, trivial⟩ Try.func55 1 o0 (by kernel_rfl) (And.intro h.2 trivial))
    | .inr a, .inl b => onlyIf (fun h => fn_gives (P := Try.prog) (env := [eIn6, eOut6, ePlus6]) ⟨eIn6_ok, eOut6_ok, ePlus6_ok, trivial⟩ Try.func55 1 o0 (by kernel_rfl) (And.intro h.1 trivial))
    | .inr a, .inr b => onlyIf (fun h => fn_gives (P := Try.prog) (env := [eIn6, eOut6, ePlus6]) ⟨eIn6_ok, eOut6_ok, ePlus6_ok, trivial⟩ Try.func55 1 o0 (by kernel_rfl) (And.intro h.2 (And.intro h.1 trivial))))
def eSShf : Entry := entry1 51 par6 (fun a => [(some (sm6 a), .ag (q6 (shf6 (el6 a))))])
theorem eSShf_ok : eSShf.OK Try.prog := entry1_ok (fun args w => Go.Proofs.enters_of (P := Try.prog) Try.func51 (by kernel_rfl) rfl args w)
  (fun a => match a with
    | .inl a => onlyIf (fun h => fn_gives (P := Try.prog) (env := [eIn6, eOut6, eShf6]) ⟨eIn6_ok, eOut6_ok, eShf6_ok, trivial⟩ Try.func51 1 o0 (by kernel_rfl) trivial)
    | .inr a => onlyIf (fun h => fn_gives (P := Try.prog) (env := [eIn6, eOut6, eShf6]) ⟨eIn6_ok, eOut6_ok, eShf6_ok, trivial⟩ Try.func51 1 o0 (by kernel_rfl) (And.intro h trivial)))
end Go.Proofs.Ytonklhcmpbhhaaa
