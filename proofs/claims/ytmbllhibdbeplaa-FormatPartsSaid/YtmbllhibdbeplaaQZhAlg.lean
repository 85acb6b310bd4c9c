/- Pruned: ZhAlg. -/
import Derived.Test.YtmbllhibdbeplaaQE2
set_option linter.unusedSimpArgs false
set_option linter.unusedVariables false
namespace Go.Ev

section
variable {m R Ri : Nat}
theorem mont_elim' {v A : Nat} (hR : R * Ri % m = 1 % m) (hv : v < m) (h : v * R % m = A % m) : v = A * Ri % m := by
  have e : v % m = (v * R) * Ri % m := by rw [Nat.mul_assoc, Nat.mul_mod, hR, ← Nat.mul_mod, Nat.mul_one]
  rw [Nat.mod_eq_of_lt hv] at e
  rw [e, Nat.mul_mod, h, ← Nat.mul_mod]

theorem mod3 (a b c : Nat) : (a % m * (b % m) * c) % m = (a * b * c) % m := by
  rw [Nat.mul_mod (a % m * (b % m)) c, ← Nat.mul_mod a b, ← Nat.mul_mod]

theorem mod1 (a b : Nat) : (a % m * b) % m = (a * b) % m := by
  rw [Nat.mul_mod, Nat.mod_mod, ← Nat.mul_mod]

theorem modR (hR : R * Ri % m = 1 % m) (a : Nat) : (a * (R * Ri)) % m = a % m := by
  rw [Nat.mul_mod, hR, ← Nat.mul_mod, Nat.mul_one]

theorem mont_mul {x y v : Nat} (hR : R * Ri % m = 1 % m) (hv : v < m) (h : v * R % m = (x * R % m) * (y * R % m) % m) : v = (x * y % m) * R % m := by
  rw [mont_elim' hR hv h, mod3, mod1]
  have : x * R * (y * R) * Ri = (x * y * R) * (R * Ri) := by ac_rfl
  rw [this, modR hR]

theorem mont_in {a v : Nat} (hR : R * Ri % m = 1 % m) (hv : v < m) (h : v * R % m = (a * (R * R % m)) % m) : v = (a % m) * R % m := by
  rw [mont_elim' hR hv h, mod1]
  have : (a * (R * R % m) * Ri) % m = (a * R * (R * Ri)) % m := by
    rw [Nat.mul_mod (a * (R * R % m)) Ri, Nat.mul_mod a (R * R % m), Nat.mod_mod, ← Nat.mul_mod a (R * R), ← Nat.mul_mod]
    congr 1
    ac_rfl
  rw [this, modR hR]

theorem mont_out {x v : Nat} (hR : R * Ri % m = 1 % m) (hx : x < m) (hv : v < m) (h : v * R % m = (x * R % m) * 1 % m) : v = x := by
  rw [Nat.mul_one, Nat.mod_mod] at h
  rw [mont_elim' hR hv h, Nat.mul_assoc, modR hR, Nat.mod_eq_of_lt hx]

theorem mont_add (x y : Nat) : (x * R % m + y * R % m) % m = ((x + y) % m) * R % m := by
  rw [← Nat.add_mod, ← Nat.add_mul, mod1]

theorem mont_sub (hm : 0 < m) {x y : Nat} (hy : y < m) : (x * R % m + (m - y * R % m)) % m = ((m - y + x) % m) * R % m := by
  rw [mod1]
  have h1 : (m - y) * R % m = (m - y * R % m) % m := by
    have e1 : (m - y) * R + y * R = m * R := by rw [← Nat.add_mul, Nat.sub_add_cancel (Nat.le_of_lt hy)]
    have e2 : (m - y * R % m) + y * R % m = m := Nat.sub_add_cancel (Nat.le_of_lt (Nat.mod_lt _ hm))
    have e3 : m * (y * R / m) + y * R % m = y * R := Nat.div_add_mod _ _
    have e4 : (m - y) * R + m * (y * R / m + 1) = (m - y * R % m) + m * R := by
      rw [Nat.mul_add, Nat.mul_one]
      generalize (m - y) * R = A at *
      generalize m * (y * R / m) = K at *
      generalize y * R % m = q at *
      omega
    have e5 := congrArg (· % m) e4
    simpa [Nat.add_mul_mod_self_left] using e5
  rw [Nat.add_mul, Nat.add_comm ((m - y) * R), Nat.add_mod, Nat.add_mod (x * R), h1]
  simp [Nat.mod_mod]
end
end Go.Ev
