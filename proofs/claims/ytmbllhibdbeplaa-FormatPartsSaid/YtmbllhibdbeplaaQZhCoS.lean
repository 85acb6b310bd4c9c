/- Pruned: ZhCoS. -/
import Derived.Test.YtmbllhibdbeplaaQZhLow
set_option linter.unusedSimpArgs false
set_option linter.unusedVariables false
set_option maxHeartbeats 4000000
namespace Go.Proofs.Ytmbllhibdbeplaa
open Go.Ev Go.RowKit

def eRS : Entry := entry0 63 [(none, .ag [.c (.int .u64 18446744069414584321), .c (.int .u64 6034159408538082302), .c (.int .u64 3691218898639771653), .c (.int .u64 8353516859464449352)])]
theorem eRS_ok : eRS.OK Try.prog := entry0_ok (fun args w => Go.Proofs.enters_of (P := Try.prog) Try.func63 (by kernel_rfl) rfl args w)
  (only (fn_gives (P := Try.prog) (env := []) trivial Try.func63 0 o0 (by kernel_rfl) trivial))

end Go.Proofs.Ytmbllhibdbeplaa
