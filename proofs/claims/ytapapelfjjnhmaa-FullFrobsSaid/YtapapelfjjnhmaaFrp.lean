/- The greatest field is a ring where p is 0. Nothing here names a program. -/
import Derived.Test.YtapapelfjjnhmaaFro
set_option linter.unusedSimpArgs false
set_option linter.unusedVariables false
namespace Go.Ev
theorem negK_add (a : F12) : add12 (neg6 a.1, neg6 a.2) a = zero12 := ext12 (neg6_add _) (neg6_add _)
theorem mul12_zero (a : F12) : mul12 a zero12 = zero12 := by
  refine ext12 ?_ ?_
  · rw [mul12_1]; show ((a.1 : G6) * (0 : G6) + (a.2 : G6) * (0 : G6) * vG : G6) = 0; grind
  · rw [mul12_2]; show ((a.1 : G6) * (0 : G6) + (a.2 : G6) * (0 : G6) : G6) = 0; grind
def negK (a : F12) : F12 := (neg6 a.1, neg6 a.2)
def subK (a b : F12) : F12 := add12 a (negK b)
theorem negK_neg (a : F12) : negK (negK a) = a := ext12 (neg6_neg _) (neg6_neg _)
theorem negK_zero : negK zero12 = zero12 := ext12 neg6_zero neg6_zero
theorem negK_mul (a b : F12) : mul12 (negK a) b = negK (mul12 a b) := by
  have e1 : ∀ z : F12, ((negK z).1 : G6) = -(z.1 : G6) := fun _ => rfl
  have e2 : ∀ z : F12, ((negK z).2 : G6) = -(z.2 : G6) := fun _ => rfl
  refine ext12 ?_ ?_
  · rw [e1, mul12_1, mul12_1, e1, e2]; grind
  · rw [e2, mul12_2, mul12_2, e1, e2]; grind
abbrev K12 := F12
def natK : Nat → K12
  | 0 => zero12
  | n + 1 => add12 (natK n) one12
def intK : Int → K12
  | .ofNat n => natK n
  | .negSucc n => negK (natK (n + 1))
def smulK (n : Nat) (a : K12) : K12 := mul12 (natK n) a
def zsmulK (n : Int) (a : K12) : K12 := mul12 (intK n) a
def powK (a : K12) : Nat → K12
  | 0 => one12
  | n + 1 => mul12 (powK a n) a
theorem intK_neg : ∀ i : Int, intK (-i) = negK (intK i)
  | .ofNat 0 => negK_zero.symm
  | .ofNat (n + 1) => rfl
  | .negSucc n => (negK_neg _).symm
theorem natK_one : natK 1 = one12 := by
  show add12 zero12 one12 = one12
  rw [add12_comm, add12_zero]
instance : Lean.Grind.CommRing K12 where
  add a b := add12 a b
  mul a b := mul12 a b
  natCast := ⟨natK⟩
  ofNat n := ⟨natK n⟩
  nsmul := ⟨smulK⟩
  npow := ⟨powK⟩
  neg a := negK a
  sub a b := subK a b
  intCast := ⟨intK⟩
  zsmul := ⟨zsmulK⟩
  add_zero := add12_zero
  add_comm := add12_comm
  add_assoc := add12_assoc
  mul_assoc := mul12_assoc
  mul_one := fun a => by show mul12 a (natK 1) = a; rw [natK_one]; exact mul12_one a
  one_mul := fun a => by show mul12 (natK 1) a = a; rw [natK_one, mul12_comm]; exact mul12_one a
  left_distrib := mul12_add
  right_distrib := fun a b c => by show mul12 (add12 a b) c = add12 (mul12 a c) (mul12 b c); rw [mul12_comm, mul12_add, mul12_comm c a, mul12_comm c b]
  zero_mul := fun a => by show mul12 zero12 a = zero12; rw [mul12_comm]; exact mul12_zero a
  mul_zero := mul12_zero
  pow_zero := fun a => natK_one.symm
  pow_succ := fun _ _ => rfl
  ofNat_succ := fun n => by show add12 (natK n) one12 = add12 (natK n) (natK 1); rw [natK_one]
  ofNat_eq_natCast := fun _ => rfl
  nsmul_eq_natCast_mul := fun _ _ => rfl
  neg_add_cancel := negK_add
  sub_eq_add_neg := fun a b => rfl
  neg_zsmul := fun i a => by show mul12 (intK (-i)) a = negK (mul12 (intK i) a); rw [intK_neg, negK_mul]
  zsmul_natCast_eq_nsmul := fun _ _ => rfl
  intCast_ofNat := fun _ => rfl
  intCast_neg := fun i => intK_neg i
  mul_comm := mul12_comm

/-- An element of the prime field, as one of the greatest. -/
def emb (x : Fin Pp) : F12 := (((x, 0), (0, 0), (0, 0)), zero6)
theorem nc_emb : ∀ n : Nat, (nc n : K12) = emb (ofP n)
  | 0 => by show zero12 = emb (ofP 0); decide
  | n + 1 => by
    have e : ofP (n + 1) = ofP n + 1 := Fin.ext (by
      rw [Fin.val_add]
      show (n + 1) % Pp = (n % Pp + 1 % Pp) % Pp
      rw [Nat.add_mod])
    have e1 : ((1 : K12) : F12) = one12 := natK_one
    show add12 (nc n) (1 : K12) = emb (ofP (n + 1))
    rw [nc_emb n, e1, e]
    generalize ofP n = x
    refine ext12 (ext6 (ext2 rfl ?_) (ext2 ?_ ?_) (ext2 ?_ ?_)) (add6_zero _)
    all_goals (show (0 : Fin Pp) + 0 = 0; decide)
theorem nc_p : (nc Pp : K12) = 0 := by
  rw [nc_emb, show ofP Pp = 0 by decide]
  show emb 0 = zero12
  decide
theorem one_K : ((1 : K12) : F12) = one12 := natK_one
theorem pwr_pw (a : F12) : ∀ n, (pwr (a : K12) n : F12) = pw mul12 one12 a n
  | 0 => one_K
  | n + 1 => by
    show mul12 (pwr (a : K12) n) a = mul12 (pw mul12 one12 a n) a
    rw [pwr_pw a n]
/-- The power of p of a sum. -/
theorem dream12 (x y : F12) : pw mul12 one12 (add12 x y) Pp = add12 (pw mul12 one12 x Pp) (pw mul12 one12 y Pp) := by
  have h := dream (α := K12) prime_P nc_p x y
  have e1 := pwr_pw (add12 x y) Pp
  have e2 := pwr_pw x Pp
  have e3 := pwr_pw y Pp
  rw [← e1, ← e2, ← e3]
  exact h
def MK : Mon F12 := { mul := mul12, one := one12, assoc := mul12_assoc, one_mul := fun a => by rw [mul12_comm, mul12_one], mul_one := mul12_one }
theorem pw12_mul (x y : F12) : ∀ n, pw mul12 one12 (mul12 x y) n = mul12 (pw mul12 one12 x n) (pw mul12 one12 y n)
  | 0 => (mul12_one one12).symm
  | n + 1 => by
    have e : ∀ p q r s : F12, mul12 (mul12 p q) (mul12 r s) = mul12 (mul12 p r) (mul12 q s) := fun p q r s => by
      rw [mul12_assoc, ← mul12_assoc q r s, mul12_comm q r, mul12_assoc r q s, ← mul12_assoc]
    show mul12 (pw mul12 one12 (mul12 x y) n) (mul12 x y) = mul12 (mul12 (pw mul12 one12 x n) x) (mul12 (pw mul12 one12 y n) y)
    rw [pw12_mul x y n, e]
end Go.Ev
