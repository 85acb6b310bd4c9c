/- The power of p in the greatest field: of sums and products; six of them. Nothing here names a program. -/
import Derived.Test.YtapapelfjjnhmaaFrt
import Derived.Test.YtapapelfjjnhmaaAl3
set_option linter.unusedSimpArgs false
set_option linter.unusedVariables false
namespace Go.Ev
def pN : Nat := 4002409555221667393417789825735904156556882819939007885332058136124031650490837864442687629129015664037894272559787
theorem frob_add (a b : F12) : frobT (add12 a b) = add12 (frobT a) (frobT b) := by
  rw [← frob_pw (add12 a b) pN rfl, ← frob_pw a pN rfl, ← frob_pw b pN rfl]
  exact pwK_add a b pN (by decide)
theorem frob_mul (a b : F12) : frobT (mul12 a b) = mul12 (frobT a) (frobT b) := by
  rw [← frob_pw (mul12 a b) pN rfl, ← frob_pw a pN rfl, ← frob_pw b pN rfl]
  exact pwK_mul a b pN
theorem fro2 (x t : F2) : mul2 (conj2 (mul2 (conj2 x) t)) t = mul2 x (mul2 (conj2 t) t) := by
  refine ext2 ?_ ?_ <;> simp only [mul2, conj2] <;> grind
theorem fro6 (x t e : F2) (h : mul2 (mul2 (mul2 (conj2 t) t) (mul2 (conj2 t) t)) (mul2 (conj2 t) t) = e) :
    mul2 (conj2 (mul2 (conj2 (mul2 (conj2 (mul2 (conj2 (mul2 (conj2 (mul2 (conj2 x) t)) t)) t)) t)) t)) t = mul2 x e := by
  rw [fro2, fro2, fro2, mul2_assoc, mul2_assoc, ← mul2_assoc (mul2 (conj2 t) t), h]
theorem conj_conj (x : F2) : conj2 (conj2 x) = x := by
  refine ext2 rfl ?_
  show - -x.2 = x.2
  grind
theorem mul2_neg_one (x : F2) : mul2 x (-1, 0) = neg2 x := by
  refine ext2 ?_ ?_ <;> simp only [mul2, neg2] <;> grind
theorem nrm1 : mul2 (mul2 (mul2 (conj2 turn1) turn1) (mul2 (conj2 turn1) turn1)) (mul2 (conj2 turn1) turn1) = (-1, 0) := by decide +kernel
theorem nrm2 : mul2 (mul2 (mul2 (conj2 turn2) turn2) (mul2 (conj2 turn2) turn2)) (mul2 (conj2 turn2) turn2) = one2 := by decide +kernel
theorem nrm3 : mul2 (mul2 (mul2 (conj2 turn3) turn3) (mul2 (conj2 turn3) turn3)) (mul2 (conj2 turn3) turn3) = (-1, 0) := by decide +kernel
theorem nrm4 : mul2 (mul2 (mul2 (conj2 turn4) turn4) (mul2 (conj2 turn4) turn4)) (mul2 (conj2 turn4) turn4) = one2 := by decide +kernel
theorem nrm5 : mul2 (mul2 (mul2 (conj2 turn5) turn5) (mul2 (conj2 turn5) turn5)) (mul2 (conj2 turn5) turn5) = (-1, 0) := by decide +kernel
theorem frob_six (a : F12) : frobT (frobT (frobT (frobT (frobT (frobT a))))) = conj12 a := by
  refine ext12 (ext6 ?_ ?_ ?_) (ext6 ?_ ?_ ?_)
  · exact (conj_conj _).trans ((conj_conj _).trans (conj_conj _))
  · exact (fro6 _ _ _ nrm2).trans (mul2_one _)
  · exact (fro6 _ _ _ nrm4).trans (mul2_one _)
  · exact (fro6 _ _ _ nrm1).trans (mul2_neg_one _)
  · exact (fro6 _ _ _ nrm3).trans (mul2_neg_one _)
  · exact (fro6 _ _ _ nrm5).trans (mul2_neg_one _)
theorem conj12_conj (a : F12) : conj12 (conj12 a) = a := ext12 rfl (neg6_neg _)
end Go.Ev
