/- The power of p in the greatest field. Nothing here names a program. -/
import Derived.Test.YtapapelfjjnhmaaFrq
set_option linter.unusedSimpArgs false
set_option linter.unusedVariables false
namespace Go.Ev
def pwK (a : F12) (n : Nat) : F12 := pw mul12 one12 a n
def z2 : F2 := (0, 0)
/-- Each of the six places alone. -/
def at0 (c : F2) : F12 := ((c, z2, z2), (z2, z2, z2))
def wK : F12 := ((z2, z2, z2), (one2, z2, z2))
theorem z2_mul (c : F2) : mul2 z2 c = z2 := by rw [mul2_comm]; exact mul2_zero c
theorem mul2_z (c : F2) : mul2 c z2 = z2 := mul2_zero c
theorem add2_z (c : F2) : add2 c z2 = c := add2_zero c
theorem z2_add (c : F2) : add2 z2 c = c := by rw [add2_comm]; exact add2_zero c
theorem sub2_z (c : F2) : sub2 c z2 = c := by rw [sub2_eq, show neg2 z2 = z2 from neg2_zero, add2_z]
theorem sub2_self (c : F2) : sub2 c c = z2 := by rw [sub2_eq, add2_comm]; exact neg2_add c
theorem shf2_z : shf2 z2 = z2 := by decide
theorem at0_mul (c : F2) (x : F12) : mul12 (at0 c) x = ((mul2 c x.1.1, mul2 c x.1.2.1, mul2 c x.1.2.2), (mul2 c x.2.1, mul2 c x.2.2.1, mul2 c x.2.2.2)) := by
  have e : ∀ y : F6, mul6 (c, z2, z2) y = (mul2 c y.1, mul2 c y.2.1, mul2 c y.2.2) := fun y => by
    apply t6_inj
    rw [mul6_t]
    have h : t6 (c, z2, z2) = ⟨(c : G2), 0, 0⟩ := rfl
    rw [h]
    have h2 : t6 (mul2 c y.1, mul2 c y.2.1, mul2 c y.2.2) = ⟨(c : G2) * (y.1 : G2), (c : G2) * (y.2.1 : G2), (c : G2) * (y.2.2 : G2)⟩ := rfl
    rw [h2]
    simp only [t3mul, t6, T3.mk.injEq]
    refine ⟨?_, ?_, ?_⟩ <;> grind
  refine ext12 ?_ ?_
  · have h := mul12_1 (at0 c) x
    have h1 : ((at0 c).2 : G6) = 0 := rfl
    rw [h, h1]
    have h2 : (((at0 c).1 : G6) * (x.1 : G6) + 0 * (x.2 : G6) * vG : G6) = ((at0 c).1 : G6) * (x.1 : G6) := by grind
    rw [h2]
    exact e x.1
  · have h := mul12_2 (at0 c) x
    have h1 : ((at0 c).2 : G6) = 0 := rfl
    rw [h, h1]
    have h2 : (((at0 c).1 : G6) * (x.2 : G6) + 0 * (x.1 : G6) : G6) = ((at0 c).1 : G6) * (x.2 : G6) := by grind
    rw [h2]
    exact e x.2
theorem at0_one : at0 one2 = one12 := rfl
theorem at0_at0 (c d : F2) : mul12 (at0 c) (at0 d) = at0 (mul2 c d) := by
  rw [at0_mul]; simp only [at0, mul2_z]
theorem at0_pw (c : F2) : ∀ n, pwK (at0 c) n = at0 (pw2 c n)
  | 0 => rfl
  | n + 1 => by
    show mul12 (pwK (at0 c) n) (at0 c) = at0 (mul2 (pw2 c n) c)
    rw [at0_pw c n, at0_at0]
def w2K : F12 := ((z2, one2, z2), (z2, z2, z2))
def w3K : F12 := ((z2, z2, z2), (z2, one2, z2))
def w4K : F12 := ((z2, z2, one2), (z2, z2, z2))
def w5K : F12 := ((z2, z2, z2), (z2, z2, one2))
theorem w_two : mul12 wK wK = w2K := by decide
theorem w_three : mul12 w2K wK = w3K := by decide
theorem w_four : mul12 w2K w2K = w4K := by decide
theorem w_five : mul12 w4K wK = w5K := by decide
theorem w_six : mul12 w5K wK = at0 xi := by decide
theorem six_parts (a : F12) : a = add12 (add12 (add12 (at0 a.1.1) (mul12 (at0 a.1.2.1) w2K)) (mul12 (at0 a.1.2.2) w4K)) (add12 (add12 (mul12 (at0 a.2.1) wK) (mul12 (at0 a.2.2.1) w3K)) (mul12 (at0 a.2.2.2) w5K)) := by
  rw [at0_mul, at0_mul, at0_mul, at0_mul, at0_mul]
  refine ext12 (ext6 ?_ ?_ ?_) (ext6 ?_ ?_ ?_) <;> simp only [add12, add6, at0, wK, w2K, w3K, w4K, w5K, mul2_z, mul2_one, add2_z, z2_add]
theorem pwK_six (n : Nat) : pwK wK (6 * n) = at0 (pw2 xi n) := by
  have h : pwK wK (6 * n) = pwK (pwK wK 6) n := MK.pw_mul wK 6 n
  have h6 : pwK wK 6 = at0 xi := by decide
  rw [h, h6, at0_pw]
theorem w_p (n m : Nat) (hn : n < 2 ^ 400) (h : fpw 400 xi n = turn1) (e : m = 6 * n + 1) : pwK wK m = mul12 (at0 turn1) wK := by
  rw [e]
  show mul12 (pwK wK (6 * n)) wK = _
  rw [pwK_six, turn_one n hn h]
def turn2 : F2 := mul2 turn1 turn1
def turn3 : F2 := mul2 turn2 turn1
def turn4 : F2 := mul2 turn2 turn2
def turn5 : F2 := mul2 turn4 turn1
def frobT (a : F12) : F12 := ((conj2 a.1.1, mul2 (conj2 a.1.2.1) turn2, mul2 (conj2 a.1.2.2) turn4), (mul2 (conj2 a.2.1) turn1, mul2 (conj2 a.2.2.1) turn3, mul2 (conj2 a.2.2.2) turn5))
theorem pwK_add (x y : F12) (n : Nat) (h : n = Pp) : pwK (add12 x y) n = add12 (pwK x n) (pwK y n) := by
  subst h; exact dream12 x y
theorem pwK_mul (x y : F12) (n : Nat) : pwK (mul12 x y) n = mul12 (pwK x n) (pwK y n) := pw12_mul x y n
theorem swap4 (p q r s : F12) : mul12 (mul12 p q) (mul12 r s) = mul12 (mul12 p r) (mul12 q s) := by
  rw [mul12_assoc, ← mul12_assoc q r s, mul12_comm q r, mul12_assoc r q s, ← mul12_assoc]
theorem frob_any (a : F12) (k n : Nat) (hk : Pp = k + 1) (h2 : k + 1 = 2 * halfP + 1) (hn : n < 2 ^ 400) (ht : fpw 400 xi n = turn1) (e : k + 1 = 6 * n + 1) : pwK a (k + 1) = frobT a := by
  have w1 := w_p n (k + 1) hn ht e
  have hw2 : pwK w2K (k + 1) = mul12 (at0 turn2) w2K := by
    rw [← w_two, pwK_mul, w1, swap4, at0_at0]; rfl
  have hw3 : pwK w3K (k + 1) = mul12 (at0 turn3) w3K := by
    rw [← w_three, pwK_mul, w1, hw2, swap4, at0_at0]; rfl
  have hw4 : pwK w4K (k + 1) = mul12 (at0 turn4) w4K := by
    rw [← w_four, pwK_mul, hw2, swap4, at0_at0]; rfl
  have hw5 : pwK w5K (k + 1) = mul12 (at0 turn5) w5K := by
    rw [← w_five, pwK_mul, w1, hw4, swap4, at0_at0]; rfl
  have hc : ∀ c : F2, pwK (at0 c) (k + 1) = at0 (conj2 c) := fun c => by rw [at0_pw, conj_at c k hk h2]
  have h6 := six_parts a
  have h7 : pwK a (k + 1) = pwK (add12 (add12 (add12 (at0 a.1.1) (mul12 (at0 a.1.2.1) w2K)) (mul12 (at0 a.1.2.2) w4K)) (add12 (add12 (mul12 (at0 a.2.1) wK) (mul12 (at0 a.2.2.1) w3K)) (mul12 (at0 a.2.2.2) w5K))) (k + 1) := congrArg (fun z => pwK z (k + 1)) h6
  rw [h7, pwK_add _ _ _ hk.symm, pwK_add _ _ _ hk.symm, pwK_add _ _ _ hk.symm, pwK_add _ _ _ hk.symm, pwK_add _ _ _ hk.symm, pwK_mul, pwK_mul, pwK_mul, pwK_mul, pwK_mul, w1, hw2, hw3, hw4, hw5, hc, hc, hc, hc, hc, hc]
  rw [← mul12_assoc, ← mul12_assoc, ← mul12_assoc, ← mul12_assoc, ← mul12_assoc, at0_at0, at0_at0, at0_at0, at0_at0, at0_at0]
  exact (six_parts (frobT a)).symm
theorem frob_pw (a : F12) (m : Nat) (h : m = 4002409555221667393417789825735904156556882819939007885332058136124031650490837864442687629129015664037894272559787) : pwK a m = frobT a := by
  subst h
  exact frob_any a 4002409555221667393417789825735904156556882819939007885332058136124031650490837864442687629129015664037894272559786 667068259203611232236298304289317359426147136656501314222009689354005275081806310740447938188169277339649045426631 (by decide) (by decide) (by decide +kernel) turn1_pw (by decide)
end Go.Ev
