/- Pruned: ZhAl2. -/
import Derived.Test.YtmbllhibdbeplaaQZhAl6
set_option linter.unusedSimpArgs false
set_option linter.unusedVariables false
namespace Go.Ev
theorem sub2_eq (a b : F2) : sub2 a b = add2 a (neg2 b) := by
  refine ext2 ?_ ?_ <;> simp only [sub2, add2, neg2] <;> grind
end Go.Ev
