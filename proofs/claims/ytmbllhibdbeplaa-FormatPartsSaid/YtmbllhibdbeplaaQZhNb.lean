/- Pruned: ZhNb. -/
import Derived.Test.YtmbllhibdbeplaaQE2
import Derived.Lib.BitFns
set_option linter.unusedSimpArgs false
set_option linter.unusedVariables false
namespace Go.Ev

/-- How many bits i limbs of a number have. -/
def nbits : Nat → Nat → Nat
  | 0, _ => 0
  | i + 1, a => if a / 18446744073709551616 ^ i % 18446744073709551616 = 0 then nbits i a else 64 * i + Lib.bitLen (a / 18446744073709551616 ^ i % 18446744073709551616)

theorem wrap_bits (n k : Nat) (hn : n ≤ 1024) (hk : k ≤ 64) : IntKind.i64.wrap ((n : Int) + ((k : Nat) : Int)) = ((n + k : Nat) : Int) := by
  simp only [wrap_i64]
  omega

theorem bitLen_lt : ∀ (f x : Nat), x < 2 ^ f → x < 2 ^ Lib.bitLenAux f x
  | 0, x, h => by simp [Lib.bitLenAux] at h ⊢; omega
  | f + 1, x, h => by
    simp only [Lib.bitLenAux]
    split
    · rename_i h0; subst h0; simp
    · have := bitLen_lt f (x / 2) (by rw [Nat.pow_succ] at h; omega)
      rw [Nat.add_comm, Nat.pow_succ]
      omega

theorem nbits_le : ∀ (i a : Nat), nbits i a ≤ 64 * i
  | 0, _ => Nat.le_refl _
  | i + 1, a => by
    have h1 := nbits_le i a
    have h2 := Lib.bitLen_le (a / 18446744073709551616 ^ i % 18446744073709551616) 64 (Nat.le_refl _) (Nat.mod_lt _ (by decide))
    simp only [nbits]
    split <;> omega

theorem nbits_lt : ∀ (i a : Nat), a % 18446744073709551616 ^ i < 2 ^ nbits i a
  | 0, a => by simp [nbits, Nat.mod_one]
  | i + 1, a => by
    have h1 := nbits_lt i a
    have hm := Nat.mod_mul (x := a) (a := 18446744073709551616 ^ i) (b := 18446744073709551616)
    rw [← Nat.pow_succ] at hm
    rw [hm]
    simp only [nbits]
    split
    · rename_i h0
      rw [h0, Nat.mul_zero, Nat.add_zero]
      exact h1
    · have h2 : a / 18446744073709551616 ^ i % 18446744073709551616 < 2 ^ Lib.bitLen (a / 18446744073709551616 ^ i % 18446744073709551616) := bitLen_lt 64 _ (Nat.mod_lt _ (by decide))
      have h3 : a % 18446744073709551616 ^ i < 18446744073709551616 ^ i := Nat.mod_lt _ (Nat.pow_pos (by decide))
      have e : (18446744073709551616 : Nat) ^ i = 2 ^ (64 * i) := by rw [Nat.pow_mul]
      rw [Nat.pow_add, ← e]
      generalize a / 18446744073709551616 ^ i % 18446744073709551616 = q at *
      generalize 2 ^ Lib.bitLen q = Q at *
      generalize 18446744073709551616 ^ i = P at *
      have := Nat.mul_le_mul_left P (show q + 1 ≤ Q by omega)
      rw [Nat.mul_add, Nat.mul_one] at this
      generalize a % P = r at *
      omega

theorem nbits_all {i a : Nat} (h : a < 18446744073709551616 ^ i) : a / 2 ^ nbits i a = 0 := by
  have := nbits_lt i a
  rw [Nat.mod_eq_of_lt h] at this
  exact Nat.div_eq_of_lt this
end Go.Ev
