/- Pruned: ZhTo3. -/
import Derived.Test.YtmbllhibdbeplaaQZhTo2
import Derived.Test.YtmbllhibdbeplaaQZhPwP
import Derived.Test.YtmbllhibdbeplaaQZhAl3
set_option linter.unusedSimpArgs false
set_option linter.unusedVariables false
namespace Go.Proofs.Ytmbllhibdbeplaa
open Go.Ev Go.RowKit

end Go.Proofs.Ytmbllhibdbeplaa
