/- Pruned: Rts2. -/
import Derived.Test.YtbejkhmdmojojaaGreatQRts
set_option linter.unusedSimpArgs false
set_option linter.unusedVariables false
namespace Go.Ev

def hi2 (a : F2) : Prop := if a.2 = 0 then hiP a.1 else hiP a.2
instance (a : F2) : Decidable (hi2 a) := inferInstanceAs (Decidable (if a.2 = 0 then hiP a.1 else hiP a.2))
def low2 (a : F2) : F2 := if hi2 a then neg2 a else a
def sq2 (a : F2) : Prop := sqP (norm2 a)
def invE (x : Fin Pp) : Fin Pp := pwP x 4002409555221667393417789825735904156556882819939007885332058136124031650490837864442687629129015664037894272559785
def halfE : Fin Pp := invE (ofP (2 % 18446744073709551616))
def nrt (a : F2) : Fin Pp := lowP (rtP (norm2 a))
def tOne (a : F2) : Fin Pp := (a.1 + nrt a) * halfE
def tTwo (a : F2) : Fin Pp := (a.1 - nrt a) * halfE
def part2 (a : F2) (t : Fin Pp) : F2 := (lowP (rtP t), a.2 * halfE * invE (lowP (rtP t)))
def root2 (a : F2) : F2 :=
  if a.2 = 0 then (if sqP a.1 then (lowP (rtP a.1), 0) else (0, lowP (rtP (-a.1))))
  else if sqP (tOne a) then part2 a (tOne a) else part2 a (tTwo a)
def rt2 (a : F2) : F2 := low2 (root2 a)

theorem not_hi_zero2 : ¬ hi2 (0, 0) := by unfold hi2; rw [if_pos rfl]; exact not_hi_zero
theorem neg_negP (x : Fin Pp) : - -x = x := by grind
theorem neg_ne {x : Fin Pp} (h : x ≠ 0) : -x ≠ 0 := fun e => h (by rw [← neg_negP x, e]; exact neg_zeroP)
theorem hi_neg2 {a : F2} (h : a ≠ (0, 0)) : hi2 (neg2 a) ↔ ¬ hi2 a := by
  unfold hi2 neg2
  by_cases h2 : a.2 = 0
  · have h1 : a.1 ≠ 0 := fun e => h (Prod.ext e h2)
    rw [if_pos h2, if_pos (show -a.2 = 0 by rw [h2]; exact neg_zeroP)]
    exact hi_neg h1
  · rw [if_neg h2, if_neg (show ¬ -a.2 = 0 from neg_ne h2)]
    exact hi_neg h2
theorem not_hi_low2 (a : F2) : ¬ hi2 (low2 a) := by
  unfold low2
  split
  · rename_i h
    have h0 : a ≠ (0, 0) := fun e => not_hi_zero2 (e ▸ h)
    rw [hi_neg2 h0]
    exact fun h' => h' h
  · assumption
theorem neg_sq2 (a : F2) : mul2 (neg2 a) (neg2 a) = mul2 a a := by refine ext2 ?_ ?_ <;> simp only [mul2, neg2] <;> grind
theorem low_sq2 (a : F2) : mul2 (low2 a) (low2 a) = mul2 a a := by
  unfold low2
  split
  · exact neg_sq2 a
  · rfl
theorem chi_neg_one : pwP (-1) halfP = -1 := by
  have h2 : ∀ m n : Nat, m = 2 * n + 1 → pwP (-1) m = -1 := fun m n e => by rw [e]; exact pwP_neg_odd n
  exact h2 halfP 1000602388805416848354447456433976039139220704984751971333014534031007912622709466110671907282253916009473568139946 (by decide)
theorem chi_neg (x : Fin Pp) : pwP (-x) halfP = -pwP x halfP := by
  have e : -x = -1 * x := by grind
  rw [e, pwP_mul, chi_neg_one]
  generalize pwP x halfP = z
  grind
theorem sq_neg {x : Fin Pp} (h : x ≠ 0) (hs : ¬ sqP x) : sqP (-x) := by
  rw [sq_iff' (neg_ne h), chi_neg]
  rw [sq_iff' h] at hs
  rcases chi_pm h with e | e
  · exact absurd e hs
  · rw [e]; decide
theorem sq_neg_or {x : Fin Pp} (hs : ¬ sqP x) : sqP (-x) := sq_neg (fun e => hs (by rw [e]; exact sq_zero)) hs
theorem not_sq_neg_sq {x : Fin Pp} (h : x ≠ 0) : ¬ sqP (-(x * x)) := by
  rw [sq_iff' (neg_ne (mul_neP h h)), chi_neg, chi_sq h]
  exact fun e => one_ne_neg e.symm
theorem two_half : ofP (2 % 18446744073709551616) * halfE = 1 := mul_invP (by decide)
theorem half_half (x : Fin Pp) : x * halfE + x * halfE = x := by
  have h := two_half
  rw [show ofP (2 % 18446744073709551616) = 2 by decide] at h
  generalize halfE = z at *
  have : x * z + x * z = x * (2 * z) := by grind
  rw [this, h]; grind
theorem half_ne : halfE ≠ 0 := fun e => by
  have h := two_half
  rw [e] at h
  exact absurd h (by decide)
theorem nrt_sq {a : F2} (h : sq2 a) : nrt a * nrt a = a.1 * a.1 + a.2 * a.2 := by
  unfold nrt
  rw [low_sq]; exact h
theorem t_prod {a : F2} (h : sq2 a) : tOne a * tTwo a = -((a.2 * halfE) * (a.2 * halfE)) := by
  have e := nrt_sq h
  unfold tOne tTwo
  generalize nrt a = n at *
  generalize halfE = z
  have : (a.1 + n) * z * ((a.1 - n) * z) = (a.1 * a.1 - n * n) * (z * z) := by grind
  rw [this, e]; grind
theorem t_sum (a : F2) : tOne a + tTwo a = a.1 := by
  have h := half_half a.1
  unfold tOne tTwo
  generalize halfE = z at *
  generalize nrt a = n
  have : (a.1 + n) * z + (a.1 - n) * z = a.1 * z + a.1 * z := by grind
  rw [this, h]
theorem t_ne {a : F2} (h : sq2 a) (h2 : a.2 ≠ 0) : tOne a ≠ 0 ∧ tTwo a ≠ 0 := by
  have hp := t_prod h
  have hn := neg_ne (mul_neP (mul_neP h2 half_ne) (mul_neP h2 half_ne))
  rw [← hp] at hn
  exact ⟨fun e => hn (by rw [e]; grind), fun e => hn (by rw [e]; grind)⟩
theorem t_two_sq {a : F2} (h : sq2 a) (h2 : a.2 ≠ 0) (hs : ¬ sqP (tOne a)) : sqP (tTwo a) := by
  obtain ⟨n1, n2⟩ := t_ne h h2
  have hp := not_sq_neg_sq (mul_neP h2 half_ne)
  rw [← t_prod h, sq_mul n1 n2] at hp
  exact Classical.byContradiction fun h' => hp ⟨fun x => absurd x hs, fun x => absurd x h'⟩
theorem part2_sq {a : F2} {t u : Fin Pp} (ht : sqP t) (h0 : t ≠ 0) (hs : t + u = a.1) (hp : t * u = -((a.2 * halfE) * (a.2 * halfE))) : mul2 (part2 a t) (part2 a t) = a := by
  have hx : lowP (rtP t) * lowP (rtP t) = t := by rw [low_sq]; exact ht
  have hn : lowP (rtP t) ≠ 0 := fun e => h0 (by rw [← hx, e]; decide)
  have hi : lowP (rtP t) * invE (lowP (rtP t)) = 1 := mul_invP hn
  have hh := half_half a.2
  unfold part2
  generalize lowP (rtP t) = x at *
  generalize invE x = y at *
  generalize halfE = z at *
  have e1 : (a.2 * z * y) * (a.2 * z * y) = -u := by
    have : (a.2 * z * y) * (a.2 * z * y) = ((a.2 * z) * (a.2 * z)) * (y * y) := by grind
    rw [this]
    have hp' : (a.2 * z) * (a.2 * z) = -(t * u) := by rw [hp]; grind
    rw [hp', ← hx]
    have : -(x * x * u) * (y * y) = -u * ((x * y) * (x * y)) := by grind
    rw [this, hi]; grind
  have e2 : x * (a.2 * z * y) + x * (a.2 * z * y) = a.2 := by
    have : x * (a.2 * z * y) + x * (a.2 * z * y) = (a.2 * z + a.2 * z) * (x * y) := by grind
    rw [this, hi, hh]; grind
  refine ext2 ?_ ?_
  · show x * x - (a.2 * z * y) * (a.2 * z * y) = a.1
    rw [hx, e1, ← hs]; grind
  · show (x + a.2 * z * y) * (x + a.2 * z * y) - x * x - (a.2 * z * y) * (a.2 * z * y) = a.2
    generalize a.2 * z * y = w at *
    have : (x + w) * (x + w) - x * x - w * w = x * w + x * w := by grind
    rw [this, e2]
theorem root2_sq {a : F2} (h : sq2 a) : mul2 (root2 a) (root2 a) = a := by
  unfold root2
  by_cases h2 : a.2 = 0
  · rw [if_pos h2]
    by_cases hs : sqP a.1
    · rw [if_pos hs]
      have hx : lowP (rtP a.1) * lowP (rtP a.1) = a.1 := by rw [low_sq]; exact hs
      generalize lowP (rtP a.1) = x at *
      refine ext2 ?_ ?_
      · show x * x - 0 * 0 = a.1
        rw [hx]; grind
      · show (x + 0) * (x + 0) - x * x - 0 * 0 = a.2
        rw [h2]; grind
    · rw [if_neg hs]
      have hx : lowP (rtP (-a.1)) * lowP (rtP (-a.1)) = -a.1 := by rw [low_sq]; exact sq_neg_or hs
      generalize lowP (rtP (-a.1)) = x at *
      refine ext2 ?_ ?_
      · show 0 * 0 - x * x = a.1
        rw [hx]; grind
      · show (0 + x) * (0 + x) - 0 * 0 - x * x = a.2
        rw [h2]; grind
  · rw [if_neg h2]
    obtain ⟨n1, n2⟩ := t_ne h h2
    by_cases hs : sqP (tOne a)
    · rw [if_pos hs]
      exact part2_sq hs n1 (t_sum a) (t_prod h)
    · rw [if_neg hs]
      refine part2_sq (u := tOne a) (t_two_sq h h2 hs) n2 ?_ ?_
      · rw [← t_sum a]; generalize tOne a = x; generalize tTwo a = y; grind
      · rw [← t_prod h]; generalize tOne a = x; generalize tTwo a = y; grind
theorem rt2_sq {a : F2} (h : sq2 a) : mul2 (rt2 a) (rt2 a) = a := by
  unfold rt2
  rw [low_sq2, root2_sq h]
theorem sq2_real (x : Fin Pp) : sq2 (x, 0) := by
  unfold sq2 norm2
  rw [show x * x + 0 * 0 = x * x by grind]
  exact sq_sq x
theorem sq2_of_zero {a : F2} (h : a.2 = 0) : sq2 a := by
  have := sq2_real a.1
  rwa [← h] at this
end Go.Ev
