/- Pruned: ZhRcP. -/
import Derived.Test.YtmbllhibdbeplaaQZhRbP
set_option linter.unusedSimpArgs false
set_option linter.unusedVariables false
namespace Go.Proofs.Ytmbllhibdbeplaa
open Go.Ev Go.RowKit

def eSmP : Entry := entry1 47 XPar.lim (fun h => [(none, .ag [.m (ofP (h % 18446744073709551616))])])
theorem eSmP_ok : eSmP.OK Try.prog := entry1_ok (fun args w => Go.Proofs.enters_of (P := Try.prog) Try.func47 (by kernel_rfl) rfl args w) (fun h => only (fn_gives (P := Try.prog) (env := [eInPq]) ⟨eInPq_ok, trivial⟩ Try.func47 0 o0 (by kernel_rfl) (And.intro (show smP (h % 18446744073709551616) from Nat.lt_trans (Nat.mod_lt _ (by decide)) (by decide)) trivial)))
end Go.Proofs.Ytmbllhibdbeplaa
