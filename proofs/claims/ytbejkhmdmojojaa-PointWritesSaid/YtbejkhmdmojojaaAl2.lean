/- Identities of the towers' sums, products and conjugates. Nothing here names a program. -/
import Derived.Test.YtbejkhmdmojojaaAl6
set_option linter.unusedSimpArgs false
set_option linter.unusedVariables false
namespace Go.Ev
theorem conj2_add (a b : F2) : conj2 (add2 a b) = add2 (conj2 a) (conj2 b) := by
  refine ext2 ?_ ?_ <;> simp only [conj2, add2] <;> grind
theorem conj2_mul (a b : F2) : conj2 (mul2 a b) = mul2 (conj2 a) (conj2 b) := by
  refine ext2 ?_ ?_ <;> simp only [conj2, mul2] <;> grind
theorem conj2_conj (a : F2) : conj2 (conj2 a) = a := by
  refine ext2 ?_ ?_ <;> simp only [conj2] <;> grind
theorem mul_conj2 (a : F2) : mul2 a (conj2 a) = (a.1 * a.1 + a.2 * a.2, 0) := by
  refine ext2 ?_ ?_ <;> simp only [conj2, mul2] <;> grind
theorem sub2_eq (a b : F2) : sub2 a b = add2 a (neg2 b) := by
  refine ext2 ?_ ?_ <;> simp only [sub2, add2, neg2] <;> grind
theorem flat_q0 (x : Fin Pp) : flat (q2 (x, 0)) = flat [.q x, .c (.int .u64 0), .c (.int .u64 0), .c (.int .u64 0), .c (.int .u64 0), .c (.int .u64 0), .c (.int .u64 0)] := by
  have h0 : ((0 : Fin Pp)).val = 0 := by decide
  simp only [flat, q2, Ch.cells, h0]
  rfl
theorem u_n12 (cs : List Value) (hv : ∀ v ∈ cs, isU v) (hl : cs.length = 72) : ∃ a : N12, small12 a ∧ cs = flat (n12 a) := by
  obtain ⟨a, ha, e⟩ := u_n6 (cs.take 36) (fun v h => hv v (List.mem_of_mem_take h)) (by simp [hl])
  obtain ⟨b, hb, e'⟩ := u_n6 (cs.drop 36) (fun v h => hv v (List.mem_of_mem_drop h)) (by simp [hl])
  refine ⟨(a, b), ⟨ha, hb⟩, ?_⟩
  rw [← List.take_append_drop 36 cs, e, e']
  simp only [n12, flat_append]
theorem u_n2' (cs : List Value) (hv : ∀ v ∈ cs, isU v) (hl : cs.length = 12) : ∃ a : N2, small2 a ∧ cs = flat (n2 a) := u_n2 cs hv hl
end Go.Ev
