/- Pruned: ZhPwP. -/
import Derived.Test.YtmbllhibdbeplaaQZhBiP
import Derived.Test.YtmbllhibdbeplaaQZhPwn
import Derived.Test.YtmbllhibdbeplaaQZhRcP
set_option linter.unusedSimpArgs false
set_option linter.unusedVariables false
namespace Go.Proofs.Ytmbllhibdbeplaa
open Go.Ev Go.RowKit

end Go.Proofs.Ytmbllhibdbeplaa
