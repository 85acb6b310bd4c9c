/- Two small functions that the laws of the sextic field call. -/
import Derived.Test.YtonklhcmpbhhaaaSex
import Derived.Test.YtonklhcmpbhhaaaAl6
set_option linter.unusedSimpArgs false
set_option linter.unusedVariables false
namespace Go.Proofs.Ytonklhcmpbhhaaa
open Go.Ev Go.RowKit

def eV6 : Entry := entry0 54 [(none, .ag (n6 vN))]
theorem eV6_ok : eV6.OK Try.prog := entry0_ok (fun args w => Go.Proofs.enters_of (P := Try.prog) Try.func54 (by kernel_rfl) rfl args w)
  (only ((fn_gives (P := Try.prog) (env := []) trivial Try.func54 0 o0 (r := .ag [.c (.int .u64 0), .c (.int .u64 0), .c (.int .u64 0), .c (.int .u64 0), .c (.int .u64 0), .c (.int .u64 0), .c (.int .u64 0), .c (.int .u64 0), .c (.int .u64 0), .c (.int .u64 0), .c (.int .u64 0), .c (.int .u64 0),
    .c (.int .u64 1), .c (.int .u64 0), .c (.int .u64 0), .c (.int .u64 0), .c (.int .u64 0), .c (.int .u64 0), .c (.int .u64 0), .c (.int .u64 0), .c (.int .u64 0), .c (.int .u64 0), .c (.int .u64 0), .c (.int .u64 0),
    .c (.int .u64 0), .c (.int .u64 0), .c (.int .u64 0), .c (.int .u64 0), .c (.int .u64 0), .c (.int .u64 0), .c (.int .u64 0), .c (.int .u64 0), .c (.int .u64 0), .c (.int .u64 0), .c (.int .u64 0), .c (.int .u64 0)]) (by kernel_rfl) trivial).same (by kernel_rfl)))

def eOne6 : Entry := entry0 94 [(none, .ag (n6 oneN))]
theorem eOne6_ok : eOne6.OK Try.prog := entry0_ok (fun args w => Go.Proofs.enters_of (P := Try.prog) Try.func94 (by kernel_rfl) rfl args w)
  (only ((fn_gives (P := Try.prog) (env := []) trivial Try.func94 0 o0 (r := .ag [.c (.int .u64 1), .c (.int .u64 0), .c (.int .u64 0), .c (.int .u64 0), .c (.int .u64 0), .c (.int .u64 0), .c (.int .u64 0), .c (.int .u64 0), .c (.int .u64 0), .c (.int .u64 0), .c (.int .u64 0), .c (.int .u64 0),
    .c (.int .u64 0), .c (.int .u64 0), .c (.int .u64 0), .c (.int .u64 0), .c (.int .u64 0), .c (.int .u64 0), .c (.int .u64 0), .c (.int .u64 0), .c (.int .u64 0), .c (.int .u64 0), .c (.int .u64 0), .c (.int .u64 0),
    .c (.int .u64 0), .c (.int .u64 0), .c (.int .u64 0), .c (.int .u64 0), .c (.int .u64 0), .c (.int .u64 0), .c (.int .u64 0), .c (.int .u64 0), .c (.int .u64 0), .c (.int .u64 0), .c (.int .u64 0), .c (.int .u64 0)]) (by kernel_rfl) trivial).same (by kernel_rfl)))

theorem smallV : small6 vN := by unfold small6 small2 small vN; decide
theorem smallOne : small6 oneN := by unfold small6 small2 small oneN; decide
theorem smallMore : small6 moreN := by unfold small6 small2 small moreN; decide

def eAlive6 : Entry := entry0 52 [(none, .v (.bool true))]
theorem eAlive6_ok : eAlive6.OK Try.prog := entry0_ok (fun args w => Go.Proofs.enters_of (P := Try.prog) Try.func52 (by kernel_rfl) rfl args w)
  (only (fn_gives (P := Try.prog) (env := [eV6, eOne6, eSMul]) ⟨eV6_ok, eOne6_ok, eSMul_ok, trivial⟩ Try.func52 0 o0 (r := .v (.bool true)) (by kernel_rfl)
    (And.intro (show flat (q6 (mul6 (of6 oneN) (of6 vN))) = flat (n6 vN) by kernel_rfl) (And.intro (show sm6 (.inr oneN) ∧ sm6 (.inr vN) from ⟨smallOne, smallV⟩) trivial))))
end Go.Proofs.Ytonklhcmpbhhaaa
