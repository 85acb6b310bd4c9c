/- Pruned: ZhPwn. -/
import Derived.Test.YtmbllhibdbeplaaQZhNb
set_option linter.unusedSimpArgs false
set_option linter.unusedVariables false
namespace Go.Ev

/-- A power. -/
def pw {α : Type} (mul : α → α → α) (one a : α) : Nat → α
  | 0 => one
  | n + 1 => mul (pw mul one a n) a

structure Mon (α : Type) where
  mul : α → α → α
  one : α
  assoc : ∀ a b c, mul (mul a b) c = mul a (mul b c)
  one_mul : ∀ a, mul one a = a
  mul_one : ∀ a, mul a one = a

theorem Mon.pw_add {α : Type} (G : Mon α) (a : α) (m : Nat) : ∀ n, pw G.mul G.one a (m + n) = G.mul (pw G.mul G.one a m) (pw G.mul G.one a n)
  | 0 => by simp only [Nat.add_zero, pw, G.mul_one]
  | n + 1 => by rw [← Nat.add_assoc]; simp only [pw]; rw [G.pw_add a m n, G.assoc]
theorem Mon.pw_dbl {α : Type} (G : Mon α) (a : α) (n : Nat) : pw G.mul G.one a (2 * n) = G.mul (pw G.mul G.one a n) (pw G.mul G.one a n) := by
  rw [Nat.two_mul, G.pw_add]
/-- Bit i of a number. -/
theorem bit_at (e j s : Nat) (hs : s < 64) : e / 18446744073709551616 ^ j % 18446744073709551616 / 2 ^ s % 2 = e / 2 ^ (64 * j + s) % 2 := by
  have e1 : (18446744073709551616 : Nat) = 2 ^ s * 2 ^ (64 - s) := by rw [← Nat.pow_add, show s + (64 - s) = 64 by omega]
  have e2 : (18446744073709551616 : Nat) ^ j = 2 ^ (64 * j) := by rw [Nat.pow_mul]
  rw [Nat.pow_add, ← e2, ← Nat.div_div_eq_div_mul]
  generalize e / 18446744073709551616 ^ j = q
  rw [e1, Nat.mod_mul_right_div_self]
  have h2 : (2 : Nat) ∣ 2 ^ (64 - s) := ⟨2 ^ (63 - s), by rw [Nat.mul_comm, ← Nat.pow_succ, show (63 - s).succ = 64 - s by omega]⟩
  exact Nat.mod_mod_of_dvd _ h2

theorem and_one (x : Nat) : x % 18446744073709551616 &&& 1 = x % 2 := by
  rw [Nat.and_one_is_mod]
  exact Nat.mod_mod_of_dvd _ (by decide)

/-- What the program asks of bit i: is it 1? -/
theorem bit_test (e i : Nat) : (e / 18446744073709551616 ^ (0 + i / 64 * 1) % 18446744073709551616 / 2 ^ (i % 64) % 18446744073709551616 &&& 1) % 18446744073709551616 = e / 2 ^ i % 2 := by
  rw [Nat.zero_add, Nat.mul_one, and_one, bit_at _ _ _ (Nat.mod_lt _ (by decide)), show 64 * (i / 64) + i % 64 = i by omega]
  omega

theorem half_step (e i : Nat) : e / 2 ^ i = 2 * (e / 2 ^ (i + 1)) + e / 2 ^ i % 2 := by
  rw [Nat.pow_succ, ← Nat.div_div_eq_div_mul]
  omega

theorem tdiv64 (i : Nat) (h : i < 9223372036854775808) : IntKind.i64.wrap (((i : Nat) : Int).tdiv 64) = ((i / 64 : Nat) : Int) := by
  rw [Int.tdiv_eq_ediv_of_nonneg (by omega), wrap_i64]
  omega
theorem tmod64 (i : Nat) : ((i : Nat) : Int).tmod 64 = ((i % 64 : Nat) : Int) := by
  rw [Int.tmod_eq_emod_of_nonneg (by omega)]
  omega

def GP : Mon (Fin Pp) := { mul := (· * ·), one := 1, assoc := fun a b c => by grind, one_mul := fun a => by grind, mul_one := fun a => by grind }
def pwP (a : Fin Pp) (n : Nat) : Fin Pp := pw (· * ·) 1 a n
end Go.Ev
