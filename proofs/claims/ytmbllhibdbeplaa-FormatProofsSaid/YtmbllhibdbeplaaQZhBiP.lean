/- Pruned: ZhBiP. -/
import Derived.Test.YtmbllhibdbeplaaQZhLen
import Derived.Test.YtmbllhibdbeplaaQZhNb
set_option linter.unusedSimpArgs false
set_option linter.unusedVariables false
namespace Go.Proofs.Ytmbllhibdbeplaa
open Go.Ev Go.RowKit

end Go.Proofs.Ytmbllhibdbeplaa
