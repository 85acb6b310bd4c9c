/- Pruned: ZhNb. -/
import Derived.Test.YtmbllhibdbeplaaQE2
import Derived.Lib.BitFns
set_option linter.unusedSimpArgs false
set_option linter.unusedVariables false
namespace Go.Ev

end Go.Ev
