/- Pruned: ZhOpt. -/
import Derived.Test.YtmbllhibdbeplaaQZhOpn
import Derived.Test.YtmbllhibdbeplaaQZhTwd
set_option linter.unusedSimpArgs false
set_option linter.unusedVariables false
namespace Go.Ev

end Go.Ev
