/- Pruned: Opt. -/
import Derived.Test.YtbejkhmdmojojaaQOpn
import Derived.Test.YtbejkhmdmojojaaQTwd
set_option linter.unusedSimpArgs false
set_option linter.unusedVariables false
namespace Go.Ev

end Go.Ev
