/- Pruned: ZhRts2. -/
import Derived.Test.YtmbllhibdbeplaaQZhRts
set_option linter.unusedSimpArgs false
set_option linter.unusedVariables false
namespace Go.Ev

def hi2 (a : F2) : Prop := if a.2 = 0 then hiP a.1 else hiP a.2
instance (a : F2) : Decidable (hi2 a) := inferInstanceAs (Decidable (if a.2 = 0 then hiP a.1 else hiP a.2))
end Go.Ev
