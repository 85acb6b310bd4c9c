/- Pruned: ZhPwn. -/
import Derived.Test.YtmbllhibdbeplaaQZhNb
set_option linter.unusedSimpArgs false
set_option linter.unusedVariables false
namespace Go.Ev

/-- A power. -/
def pw {α : Type} (mul : α → α → α) (one a : α) : Nat → α
  | 0 => one
  | n + 1 => mul (pw mul one a n) a

structure Mon (α : Type) where
  mul : α → α → α
  one : α
  assoc : ∀ a b c, mul (mul a b) c = mul a (mul b c)
  one_mul : ∀ a, mul one a = a
  mul_one : ∀ a, mul a one = a

def pwP (a : Fin Pp) (n : Nat) : Fin Pp := pw (· * ·) 1 a n
end Go.Ev
