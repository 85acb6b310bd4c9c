/- The power of p of a pair is its conjugate. Nothing here names a program. -/
import Derived.Test.YtapapelfjjnhmaaFrp
import Derived.Test.YtapapelfjjnhmaaRts2
set_option linter.unusedSimpArgs false
set_option linter.unusedVariables false
namespace Go.Ev
def M2K : Mon F2 := { mul := mul2, one := one2, assoc := mul2_assoc, one_mul := fun a => by rw [mul2_comm, mul2_one], mul_one := mul2_one }
def pw2 (a : F2) (n : Nat) : F2 := pw mul2 one2 a n
theorem pw2_mul (x y : F2) : ∀ n, pw2 (mul2 x y) n = mul2 (pw2 x n) (pw2 y n)
  | 0 => (mul2_one one2).symm
  | n + 1 => by
    have e : ∀ p q r s : F2, mul2 (mul2 p q) (mul2 r s) = mul2 (mul2 p r) (mul2 q s) := fun p q r s => by
      rw [mul2_assoc, ← mul2_assoc q r s, mul2_comm q r, mul2_assoc r q s, ← mul2_assoc]
    show mul2 (pw2 (mul2 x y) n) (mul2 x y) = mul2 (mul2 (pw2 x n) x) (mul2 (pw2 y n) y)
    rw [pw2_mul x y n, e]
theorem mul2_real (x y : Fin Pp) : mul2 (x, 0) (y, 0) = (x * y, 0) := by
  refine ext2 ?_ ?_
  · show x * y - 0 * 0 = x * y; grind
  · show (x + 0) * (y + 0) - x * y - 0 * 0 = 0; grind
theorem pw2_real (x : Fin Pp) : ∀ n, pw2 (x, 0) n = (pwP x n, 0)
  | 0 => rfl
  | n + 1 => by
    show mul2 (pw2 (x, 0) n) (x, 0) = (pwP x n * x, 0)
    rw [pw2_real x n, mul2_real]
theorem one_G : ((1 : G2) : F2) = one2 := natG_one
theorem nc_emb2 : ∀ n : Nat, ((nc n : G2) : F2) = (ofP n, 0)
  | 0 => by show ((0, 0) : F2) = (ofP 0, 0); decide
  | n + 1 => by
    have e : ofP (n + 1) = ofP n + 1 := Fin.ext (by
      rw [Fin.val_add]
      show (n + 1) % Pp = (n % Pp + 1 % Pp) % Pp
      rw [Nat.add_mod])
    show add2 (nc n) (1 : G2) = (ofP (n + 1), 0)
    rw [nc_emb2 n, one_G, e]
    generalize ofP n = x
    refine ext2 rfl ?_
    show (0 : Fin Pp) + 0 = 0
    decide
theorem nc_p2 : (nc Pp : G2) = 0 := by
  have h := nc_emb2 Pp
  rw [show ofP Pp = 0 by decide] at h
  exact h
theorem pwr_pw2 (a : F2) : ∀ n, (pwr (a : G2) n : F2) = pw2 a n
  | 0 => one_G
  | n + 1 => by
    show mul2 (pwr (a : G2) n) a = mul2 (pw2 a n) a
    rw [pwr_pw2 a n]
theorem dream2 (x y : F2) : pw2 (add2 x y) Pp = add2 (pw2 x Pp) (pw2 y Pp) := by
  have h := dream (α := G2) prime_P nc_p2 x y
  rw [← pwr_pw2 (add2 x y) Pp, ← pwr_pw2 x Pp, ← pwr_pw2 y Pp]
  exact h
theorem frob_at (x : Fin Pp) (m : Nat) (h : Pp = m + 1) : pwP x (m + 1) = x := by
  rw [pwP_succ]
  by_cases h0 : x = 0
  · rw [h0]; generalize pwP 0 m = z; grind
  · rw [ferm_atP h0 m (by omega)]; grind
def uF : F2 := (0, 1)
theorem u_pow (n : Nat) : pw2 uF (2 * n + 1) = mul2 (pwP (-1) n, 0) uF := by
  have h : pw2 uF (2 * n) = pw2 (pw2 uF 2) n := M2K.pw_mul uF 2 n
  show mul2 (pw2 uF (2 * n)) uF = _
  rw [h, show pw2 uF 2 = (-1, 0) by decide, pw2_real]
theorem u_p (m : Nat) (h : Pp = m) (h2 : m = 2 * halfP + 1) : pw2 uF m = (0, -1) := by
  rw [h2, u_pow, chi_neg_one]
  decide
theorem dream_at (x y : F2) (n : Nat) (h : n = Pp) : pw2 (add2 x y) n = add2 (pw2 x n) (pw2 y n) := by
  subst h; exact dream2 x y
theorem conj_at (a : F2) (m : Nat) (h : Pp = m + 1) (h2 : m + 1 = 2 * halfP + 1) : pw2 a (m + 1) = conj2 a := by
  have e : a = add2 (a.1, 0) (mul2 (a.2, 0) uF) := by
    refine ext2 ?_ ?_
    · show a.1 = a.1 + (a.2 * 0 - 0 * 1); grind
    · show a.2 = 0 + ((a.2 + 0) * (0 + 1) - a.2 * 0 - 0 * 1); grind
  have hd := dream_at (a.1, 0) (mul2 (a.2, 0) uF) (m + 1) h.symm
  rw [← e, pw2_mul, pw2_real, pw2_real, u_p (m + 1) h h2, frob_at _ m h, frob_at _ m h] at hd
  rw [hd]
  refine ext2 ?_ ?_
  · show a.1 + (a.2 * 0 - 0 * -1) = a.1; grind
  · show 0 + ((a.2 + 0) * (0 + -1) - a.2 * 0 - 0 * -1) = -a.2; grind
/-- A power of a pair, quickly. -/
def fpw : Nat → F2 → Nat → F2
  | 0, _, _ => one2
  | f + 1, a, n => if n % 2 = 1 then mul2 (fpw f (mul2 a a) (n / 2)) a else fpw f (mul2 a a) (n / 2)
theorem pw2_two (a : F2) (n : Nat) : pw2 (mul2 a a) n = pw2 a (2 * n) := by
  have h : pw2 a (2 * n) = pw2 (pw2 a 2) n := M2K.pw_mul a 2 n
  rw [h]
  show _ = pw2 (mul2 (mul2 one2 a) a) n
  rw [mul2_comm one2, mul2_one]
theorem fpw_eq : ∀ (f : Nat) (a : F2) (n : Nat), n < 2 ^ f → fpw f a n = pw2 a n
  | 0, a, n, h => by
    have : n = 0 := by simpa using h
    subst this; rfl
  | f + 1, a, n, h => by
    have hl : n / 2 < 2 ^ f := by rw [Nat.pow_succ] at h; omega
    unfold fpw
    rw [fpw_eq f (mul2 a a) (n / 2) hl, pw2_two]
    split
    · rename_i h1
      have e : n = 2 * (n / 2) + 1 := by omega
      show pw2 a (2 * (n / 2) + 1) = _
      rw [← e]
    · have e : 2 * (n / 2) = n := by omega
      rw [e]
/-- u and 1, to the power of (p - 1) / 6. -/
def turn1 : F2 := (3850754370037169011952147076051364057158807420970682438676050522613628423219637725072182697113062777891589506424760, 151655185184498381465642749684540099398075398968325446656007613510403227271200139370504932015952886146304766135027)
theorem turn_one (n : Nat) (hn : n < 2 ^ 400) (h : fpw 400 xi n = turn1) : pw2 xi n = turn1 := by
  rw [← fpw_eq 400 xi n hn]; exact h
theorem turn1_pw : fpw 400 xi 667068259203611232236298304289317359426147136656501314222009689354005275081806310740447938188169277339649045426631 = turn1 := by decide +kernel
end Go.Ev
