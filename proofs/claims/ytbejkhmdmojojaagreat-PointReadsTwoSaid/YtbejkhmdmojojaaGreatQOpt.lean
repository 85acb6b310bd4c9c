/- Pruned: Opt. -/
import Derived.Test.YtbejkhmdmojojaaGreatQOpn
import Derived.Test.YtbejkhmdmojojaaGreatQTwd
set_option linter.unusedSimpArgs false
set_option linter.unusedVariables false
namespace Go.Ev

end Go.Ev
