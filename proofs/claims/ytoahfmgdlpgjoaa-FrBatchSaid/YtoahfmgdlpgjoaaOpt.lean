/- Elements of the towers as arguments. Nothing here names a program. -/
import Derived.Test.YtoahfmgdlpgjoaaOpn
import Derived.Test.YtoahfmgdlpgjoaaTwd
set_option linter.unusedSimpArgs false
set_option linter.unusedVariables false
namespace Go.Ev

theorem u_n6 (cs : List Value) (hv : ∀ v ∈ cs, isU v) (hl : cs.length = 36) : ∃ a : N6, small6 a ∧ cs = flat (n6 a) := by
  obtain ⟨x0, c1, l0, e0, v1, k1⟩ := u_split 6 30 cs hv hl
  obtain ⟨x1, c2, l1, e1, v2, k2⟩ := u_split 6 24 c1 v1 k1
  obtain ⟨x2, c3, l2, e2, v3, k3⟩ := u_split 6 18 c2 v2 k2
  obtain ⟨x3, c4, l3, e3, v4, k4⟩ := u_split 6 12 c3 v3 k3
  obtain ⟨x4, c5, l4, e4, v5, k5⟩ := u_split 6 6 c4 v4 k4
  obtain ⟨x5, l5, e5⟩ := u_limbs 6 c5 v5 k5
  refine ⟨((x0, x1), (x2, x3), (x4, x5)), ⟨⟨l0, l1⟩, ⟨l2, l3⟩, ⟨l4, l5⟩⟩, ?_⟩
  rw [e0, e1, e2, e3, e4, e5]
  simp only [n6, flat, Ch.cells, List.append_nil]
theorem u_n2 (cs : List Value) (hv : ∀ v ∈ cs, isU v) (hl : cs.length = 12) : ∃ a : N2, small2 a ∧ cs = flat [.n 6 a.1, .n 6 a.2] := by
  obtain ⟨x0, c1, l0, e0, v1, k1⟩ := u_split 6 6 cs hv hl
  obtain ⟨x1, l1, e1⟩ := u_limbs 6 c1 v1 k1
  refine ⟨(x0, x1), ⟨l0, l1⟩, ?_⟩
  rw [e0, e1]
  simp only [flat, Ch.cells, List.append_nil]
end Go.Ev
