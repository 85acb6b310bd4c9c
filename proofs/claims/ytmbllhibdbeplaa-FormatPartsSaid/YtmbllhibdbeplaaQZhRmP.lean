/- Pruned: ZhRmP. -/
import Derived.Test.YtmbllhibdbeplaaQZhRbP
import Derived.Test.YtmbllhibdbeplaaQZhPwn
import Derived.Test.YtmbllhibdbeplaaQE2
set_option linter.unusedSimpArgs false
set_option linter.unusedVariables false
namespace Go.Proofs.Ytmbllhibdbeplaa
open Go.Ev Go.RowKit

end Go.Proofs.Ytmbllhibdbeplaa
