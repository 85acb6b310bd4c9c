/- Pruned: Ih. -/
import Derived.Test.YtoigbjimhcgolaaQHb
import Derived.Test.YtoigbjimhcgolaaQGa
import Derived.Test.YtoigbjimhcgolaaQIa
/- sigma.Same: told as a truth. -/
set_option linter.unusedSimpArgs false
set_option linter.unusedVariables false
namespace Go.Proofs.Ytoigbjimhcgolaa
open Go.Ev Go.RowKit
end Go.Proofs.Ytoigbjimhcgolaa

/- chirographlaw19.SigmaSame says true. -/
set_option linter.unusedSimpArgs false
set_option linter.unusedVariables false
namespace Go.Proofs.Ytoigbjimhcgolaa
open Go.Ev Go.RowKit
def eAl19 : Entry := entry0 8 [(none, .v (.bool true))]
theorem eAl19_ok : eAl19.OK Try.prog := entry0_ok (fun args w => Go.Proofs.enters_of (P := Try.prog) Try.func8 (by kernel_rfl) rfl args w) (only (fn_gives (P := Try.prog) (env := [eFSmallS]) ⟨eFSmallS_ok, trivial⟩ Try.func8 2 o0 (r := .v (.bool true)) (by kernel_rfl)
    (And.intro (show flat [.e (ofR (7 : Int).toNat)] = flat [.c (.int .u64 7), .c (.int .u64 0), .c (.int .u64 0), .c (.int .u64 0)] from by kernel_rfl) (And.intro (show (0 : Int) ≤ 7 ∧ (7 : Int) < 9223372036854775808 from by decide) trivial))))
def lenOK (L : Nat → List (Int × Int)) (M : Nat → List Nat) (w : Nat) : Prop := (L w).length = (L 0).length ∧ (M w).length = (L 0).length
instance (L : Nat → List (Int × Int)) (M : Nat → List Nat) (w : Nat) : Decidable (lenOK L M w) := by unfold lenOK; infer_instance
instance (L : Nat → List (Int × Int)) (M : Nat → List Nat) : DecidablePred (lenOK L M) := fun w => inferInstance
end Go.Proofs.Ytoigbjimhcgolaa
