/- Pruned: ZhCxS. -/
import Derived.Test.YtmbllhibdbeplaaQZhCoS
set_option linter.unusedSimpArgs false
set_option linter.unusedVariables false
namespace Go.Proofs.Ytmbllhibdbeplaa
open Go.Ev Go.RowKit

end Go.Proofs.Ytmbllhibdbeplaa
