/- Pruned: ZhOpn. -/
import Derived.Test.YtoigbjimhcgolaaQE2
import Derived.ProofKit
import Derived.OpenShut
import Derived.DataShut
set_option linter.unusedSimpArgs false
set_option linter.unusedVariables false
namespace Go.Ev
open Go.ChangeShapes Go.WideShapes Go.ChangeAt Go.RowKit

def isU (v : Value) : Prop := ∃ n : Nat, n < 18446744073709551616 ∧ v = .int .u64 (n : Int)

section
variable {H : Type} {enc : TypeId × Value → H} {P : Program} {w w' : World} {base base' : Nat} {spare spare' : Nat → Bool} {held held' : Bool}

end

/-- Is a type a struct or an array? -/
def aggT (P : Program) (t : TypeId) : Bool := match P.underlying t with | some (.struct _) => true | some (.array _ _) => true | _ => false

theorem u_limbs : ∀ (n : Nat) (cs : List Value), (∀ v ∈ cs, isU v) → cs.length = n → ∃ x, x < 18446744073709551616 ^ n ∧ cs = limbs n x
  | 0, cs, _, hl => ⟨0, by decide, by simpa [limbs] using hl⟩
  | n + 1, [], _, hl => by simp at hl
  | n + 1, v :: cs, hv, hl => by
    obtain ⟨x, h1, h2⟩ := u_limbs n cs (fun u hu => hv u (by simp [hu])) (by simpa using hl)
    obtain ⟨a, h3, h4⟩ := hv v (by simp)
    refine ⟨a + 18446744073709551616 * x, ?_, ?_⟩
    · rw [Nat.pow_succ]; omega
    · have e1 : (a + 18446744073709551616 * x) % 18446744073709551616 = a := by omega
      have e2 : (a + 18446744073709551616 * x) / 18446744073709551616 = x := by omega
      simp only [limbs, e1, e2]
      rw [h4, h2]

end Go.Ev
