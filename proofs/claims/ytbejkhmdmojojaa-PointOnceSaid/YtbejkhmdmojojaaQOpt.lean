/- Pruned: Opt. -/
import Derived.Test.YtbejkhmdmojojaaQOpn
import Derived.Test.YtbejkhmdmojojaaQTwd
set_option linter.unusedSimpArgs false
set_option linter.unusedVariables false
namespace Go.Ev

theorem u_n2 (cs : List Value) (hv : ∀ v ∈ cs, isU v) (hl : cs.length = 12) : ∃ a : N2, small2 a ∧ cs = flat [.n 6 a.1, .n 6 a.2] := by
  obtain ⟨x0, c1, l0, e0, v1, k1⟩ := u_split 6 6 cs hv hl
  obtain ⟨x1, l1, e1⟩ := u_limbs 6 c1 v1 k1
  refine ⟨(x0, x1), ⟨l0, l1⟩, ?_⟩
  rw [e0, e1]
  simp only [flat, Ch.cells, List.append_nil]
end Go.Ev
