/- Pruned: Ha. -/
import Derived.Test.YtoigbjimhcgolaaQE2
import Derived.Lib.BitFns
import Derived.Test.YtoigbjimhcgolaaQZhOpn
/- Montgomery's numbers: sums, products, the way in and out, modulo anything. Nothing here names a program. -/
set_option linter.unusedSimpArgs false
set_option linter.unusedVariables false
namespace Go.Ev

section
variable {m R Ri : Nat}
theorem mont_elim' {v A : Nat} (hR : R * Ri % m = 1 % m) (hv : v < m) (h : v * R % m = A % m) : v = A * Ri % m := by
  have e : v % m = (v * R) * Ri % m := by rw [Nat.mul_assoc, Nat.mul_mod, hR, ← Nat.mul_mod, Nat.mul_one]
  rw [Nat.mod_eq_of_lt hv] at e
  rw [e, Nat.mul_mod, h, ← Nat.mul_mod]

theorem mod3 (a b c : Nat) : (a % m * (b % m) * c) % m = (a * b * c) % m := by
  rw [Nat.mul_mod (a % m * (b % m)) c, ← Nat.mul_mod a b, ← Nat.mul_mod]

theorem mod1 (a b : Nat) : (a % m * b) % m = (a * b) % m := by
  rw [Nat.mul_mod, Nat.mod_mod, ← Nat.mul_mod]

theorem modR (hR : R * Ri % m = 1 % m) (a : Nat) : (a * (R * Ri)) % m = a % m := by
  rw [Nat.mul_mod, hR, ← Nat.mul_mod, Nat.mul_one]

theorem mont_mul {x y v : Nat} (hR : R * Ri % m = 1 % m) (hv : v < m) (h : v * R % m = (x * R % m) * (y * R % m) % m) : v = (x * y % m) * R % m := by
  rw [mont_elim' hR hv h, mod3, mod1]
  have : x * R * (y * R) * Ri = (x * y * R) * (R * Ri) := by ac_rfl
  rw [this, modR hR]

theorem mont_in {a v : Nat} (hR : R * Ri % m = 1 % m) (hv : v < m) (h : v * R % m = (a * (R * R % m)) % m) : v = (a % m) * R % m := by
  rw [mont_elim' hR hv h, mod1]
  have : (a * (R * R % m) * Ri) % m = (a * R * (R * Ri)) % m := by
    rw [Nat.mul_mod (a * (R * R % m)) Ri, Nat.mul_mod a (R * R % m), Nat.mod_mod, ← Nat.mul_mod a (R * R), ← Nat.mul_mod]
    congr 1
    ac_rfl
  rw [this, modR hR]

theorem mont_out {x v : Nat} (hR : R * Ri % m = 1 % m) (hx : x < m) (hv : v < m) (h : v * R % m = (x * R % m) * 1 % m) : v = x := by
  rw [Nat.mul_one, Nat.mod_mod] at h
  rw [mont_elim' hR hv h, Nat.mul_assoc, modR hR, Nat.mod_eq_of_lt hx]

theorem mont_sub (hm : 0 < m) {x y : Nat} (hy : y < m) : (x * R % m + (m - y * R % m)) % m = ((m - y + x) % m) * R % m := by
  rw [mod1]
  have h1 : (m - y) * R % m = (m - y * R % m) % m := by
    have e1 : (m - y) * R + y * R = m * R := by rw [← Nat.add_mul, Nat.sub_add_cancel (Nat.le_of_lt hy)]
    have e2 : (m - y * R % m) + y * R % m = m := Nat.sub_add_cancel (Nat.le_of_lt (Nat.mod_lt _ hm))
    have e3 : m * (y * R / m) + y * R % m = y * R := Nat.div_add_mod _ _
    have e4 : (m - y) * R + m * (y * R / m + 1) = (m - y * R % m) + m * R := by
      rw [Nat.mul_add, Nat.mul_one]
      generalize (m - y) * R = A at *
      generalize m * (y * R / m) = K at *
      generalize y * R % m = q at *
      omega
    have e5 := congrArg (· % m) e4
    simpa [Nat.add_mul_mod_self_left] using e5
  rw [Nat.add_mul, Nat.add_comm ((m - y) * R), Nat.add_mod, Nat.add_mod (x * R), h1]
  simp [Nat.mod_mod]
end
end Go.Ev

/- How many bits rows of limbs have; powers. Nothing here names a program. -/
set_option linter.unusedSimpArgs false
set_option linter.unusedVariables false
namespace Go.Ev

end Go.Ev

/- Powers by squaring and multiplying: plain laws. Nothing here names a program. -/
set_option linter.unusedSimpArgs false
set_option linter.unusedVariables false
namespace Go.Ev

structure Mon (α : Type) where
  mul : α → α → α
  one : α
  assoc : ∀ a b c, mul (mul a b) c = mul a (mul b c)
  one_mul : ∀ a, mul one a = a
  mul_one : ∀ a, mul a one = a

end Go.Ev

/- Primes: Fermat's theorem, and a test by factors of the number less one. Nothing here names a program. -/
set_option linter.unusedSimpArgs false
set_option linter.unusedVariables false
namespace Go.Ev

/-! ### Binomials -/
/-! ### Powers that are 1 -/
end Go.Ev

/- The two orders are primes; inverses by powers. Nothing here names a program. -/
set_option linter.unusedSimpArgs false
set_option linter.unusedVariables false
namespace Go.Ev

end Go.Ev

/- The towers' sums and products, as the program forms them, over the field of order p. Nothing here names a program. -/
set_option linter.unusedSimpArgs false
set_option linter.unusedVariables false
namespace Go.Ev
abbrev F2 := Fin Pp × Fin Pp
def m2 (a : F2) : List Ch := [.m a.1, .m a.2]
def q2 (a : F2) : List Ch := [.q a.1, .q a.2]
abbrev N2 := Nat × Nat
def n2 (a : N2) : List Ch := [.n 6 a.1, .n 6 a.2]
end Go.Ev

/- Elements of the towers as arguments. Nothing here names a program. -/
set_option linter.unusedSimpArgs false
set_option linter.unusedVariables false
namespace Go.Ev

end Go.Ev
