/- Contracts of the layer sext: sums, products, shifts. -/
import Derived.Test.YtncnnngfemhaeaaTow
set_option linter.unusedSimpArgs false
set_option linter.unusedVariables false
namespace Go.Proofs.Ytncnnngfemhaeaa
open Go.Ev Go.RowKit

def eSMul : Entry := entry2 40 par6 par6 (fun a b => [(some (sm6 a ∧ sm6 b), .ag (q6 (mul6 (el6 a) (el6 b))))])
theorem eSMul_ok : eSMul.OK Try.prog := entry2_ok (fun args w => Go.Proofs.enters_of (P := Try.prog) Try.func40 (by kernel_rfl) rfl args w)
  (fun a b => match a, b with
    | .inl a, .inl b => onlyIf (fun h => fn_gives (P := Try.prog) (env := [eIn6, eOut6, eTimes6]) ⟨eIn6_ok, eOut6_ok, eTimes6_ok, trivial⟩ Try.func40 1 o0 (by kernel_rfl) trivial)
    | .inl a, .inr b => onlyIf (fun h => fn_gives (P := Try.prog) (env := [eIn6, eOut6, eTimes6]) ⟨eIn6_ok, eOut6_ok, eTimes6_ok, trivial⟩ Try.func40 1 o0 (by kernel_rfl) (And.intro h.2 trivial))
    | .inr a, .inl b => onlyIf (fun h => fn_gives (P := Try.prog) (env := [eIn6, eOut6, eTimes6]) ⟨eIn6_ok, eOut6_ok, eTimes6_ok, trivial⟩ Try.func40 1 o0 (by kernel_rfl) (And.intro h.1 trivial))
    | .inr a, .inr b => onlyIf (fun h => fn_gives (P := Try.prog) (env := [eIn6, eOut6, eTimes6]) ⟨eIn6_ok, eOut6_ok, eTimes6_ok, trivial⟩ Try.func40 1 o0 (by kernel_rfl) (And.intro h.2 (And.intro h.1 trivial))))
def eSAdd : Entry := entry2 44 par6 par6 (fun a b => [(some (sm6 a ∧ sm6 b), .ag (q6 (add6 (el6 a) (el6 b))))])
theorem eSAdd_ok : eSAdd.OK Try.prog := entry2_ok (fun args w => Go.Proofs.enters_of (P := Try.prog) Try.func44 (by kernel_rfl) rfl args w)
  (fun a b => match a, b with
    | .inl a, .inl b => onlyIf (fun h => fn_gives (P := Try.prog) (env := [eIn6, eOut6, ePlus6]) ⟨eIn6_ok, eOut6_ok, ePlus6_ok, trivial⟩ Try.func44 1 o0 (by kernel_rfl) trivial)
    | .inl a, .inr b => onlyIf (fun h => fn_gives (P := Try.prog) (env := [eIn6, eOut6, ePlus6]) ⟨eIn6_ok, eOut6_ok, ePlus6_ok, trivial⟩ Try.func44 1 o0 (by kernel_rfl) (And.intro h.2 trivial))
    | .inr a, .inl b => onlyIf (fun h => fn_gives (P := Try.prog) (env := [eIn6, eOut6, ePlus6]) ⟨eIn6_ok, eOut6_ok, ePlus6_ok, trivial⟩ Try.func44 1 o0 (by kernel_rfl) (And.intro h.1 trivial))
    | .inr a, .inr b => onlyIf (fun h => fn_gives (P := Try.prog) (env := [eIn6, eOut6, ePlus6]) ⟨eIn6_ok, eOut6_ok, ePlus6_ok, trivial⟩ Try.func44 1 o0 (by kernel_rfl) (And.intro h.2 (And.intro h.1 trivial))))
end Go.Proofs.Ytncnnngfemhaeaa
