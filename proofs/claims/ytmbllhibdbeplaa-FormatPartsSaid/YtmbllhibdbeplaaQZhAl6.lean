/- Pruned: ZhAl6. -/
import Derived.Test.YtmbllhibdbeplaaQZhTwd
import Derived.Test.YtmbllhibdbeplaaQZhOpt
set_option linter.unusedSimpArgs false
set_option linter.unusedVariables false
namespace Go.Ev
theorem ext2 {a b : F2} (h1 : a.1 = b.1) (h2 : a.2 = b.2) : a = b := Prod.ext h1 h2
theorem ext6 {a b : F6} (h1 : a.1 = b.1) (h2 : a.2.1 = b.2.1) (h3 : a.2.2 = b.2.2) : a = b := Prod.ext h1 (Prod.ext h2 h3)

end Go.Ev
