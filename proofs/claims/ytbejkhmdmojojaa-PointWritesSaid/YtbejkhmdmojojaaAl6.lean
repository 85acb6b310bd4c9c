/- The sextic field's shift is a product with v: identities of its sums and products. Nothing here names a program. -/
import Derived.Test.YtbejkhmdmojojaaTwd
import Derived.Test.YtbejkhmdmojojaaOpt
set_option linter.unusedSimpArgs false
set_option linter.unusedVariables false
namespace Go.Ev
def vN : N6 := ((0, 0), (1, 0), (0, 0))
def oneN : N6 := ((1, 0), (0, 0), (0, 0))
def moreN : N6 := ((1, 1), (0, 0), (0, 0))
theorem ofP0 : ofP 0 = 0 := by decide
theorem ofP1 : ofP 1 = 1 := by decide

theorem ext2 {a b : F2} (h1 : a.1 = b.1) (h2 : a.2 = b.2) : a = b := Prod.ext h1 h2
theorem ext6 {a b : F6} (h1 : a.1 = b.1) (h2 : a.2.1 = b.2.1) (h3 : a.2.2 = b.2.2) : a = b := Prod.ext h1 (Prod.ext h2 h3)

theorem shf_v (a : F6) : shf6 a = mul6 a (of6 vN) := by
  obtain ⟨⟨a0, a1⟩, ⟨a2, a3⟩, ⟨a4, a5⟩⟩ := a
  simp only [of6, of2, vN, ofP0, ofP1]
  refine ext6 (ext2 ?_ ?_) (ext2 ?_ ?_) (ext2 ?_ ?_) <;> simp only [shf6, mul6, mul2, shf2, add2, sub2] <;> grind
theorem shf_more (a : F6) : shf6 (shf6 (shf6 a)) = mul6 a (of6 moreN) := by
  obtain ⟨⟨a0, a1⟩, ⟨a2, a3⟩, ⟨a4, a5⟩⟩ := a
  simp only [of6, of2, moreN, ofP0, ofP1]
  refine ext6 (ext2 ?_ ?_) (ext2 ?_ ?_) (ext2 ?_ ?_) <;> simp only [shf6, mul6, mul2, shf2, add2, sub2] <;> grind
theorem shf_mul (a b : F6) : shf6 (mul6 a b) = mul6 (shf6 a) b := by
  obtain ⟨⟨a0, a1⟩, ⟨a2, a3⟩, ⟨a4, a5⟩⟩ := a
  obtain ⟨⟨b0, b1⟩, ⟨b2, b3⟩, ⟨b4, b5⟩⟩ := b
  refine ext6 (ext2 ?_ ?_) (ext2 ?_ ?_) (ext2 ?_ ?_) <;> simp only [shf6, mul6, mul2, shf2, add2, sub2] <;> grind
theorem shf_add (a b : F6) : shf6 (add6 a b) = add6 (shf6 a) (shf6 b) := by
  obtain ⟨⟨a0, a1⟩, ⟨a2, a3⟩, ⟨a4, a5⟩⟩ := a
  obtain ⟨⟨b0, b1⟩, ⟨b2, b3⟩, ⟨b4, b5⟩⟩ := b
  refine ext6 (ext2 ?_ ?_) (ext2 ?_ ?_) (ext2 ?_ ?_) <;> simp only [shf6, shf2, add6, add2, sub2] <;> grind
end Go.Ev
