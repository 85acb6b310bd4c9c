/- Pruned: Al2. -/
import Derived.Test.YtbejkhmdmojojaaQAl6
set_option linter.unusedSimpArgs false
set_option linter.unusedVariables false
namespace Go.Ev
theorem sub2_eq (a b : F2) : sub2 a b = add2 a (neg2 b) := by
  refine ext2 ?_ ?_ <;> simp only [sub2, add2, neg2] <;> grind
theorem u_n2' (cs : List Value) (hv : ∀ v ∈ cs, isU v) (hl : cs.length = 12) : ∃ a : N2, small2 a ∧ cs = flat (n2 a) := u_n2 cs hv hl
end Go.Ev
