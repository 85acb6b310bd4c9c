/- Pruned: ZhTo2. -/
import Derived.Test.YtmbllhibdbeplaaQZhTow
import Derived.Test.YtmbllhibdbeplaaQZhSex
import Derived.Test.YtmbllhibdbeplaaQZhRbP
set_option linter.unusedSimpArgs false
set_option linter.unusedVariables false
namespace Go.Proofs.Ytmbllhibdbeplaa
open Go.Ev Go.RowKit

end Go.Proofs.Ytmbllhibdbeplaa
