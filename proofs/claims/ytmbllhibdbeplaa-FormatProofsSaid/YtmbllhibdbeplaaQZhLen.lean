/- Pruned: ZhLen. -/
import Derived.Test.YtmbllhibdbeplaaQE2
import Derived.Test.YtmbllhibdbeplaaProg
import Derived.Lib.BitFns
set_option linter.unusedSimpArgs false
set_option linter.unusedVariables false
namespace Go.Proofs.Ytmbllhibdbeplaa
open Go.Ev Go.RowKit

end Go.Proofs.Ytmbllhibdbeplaa
