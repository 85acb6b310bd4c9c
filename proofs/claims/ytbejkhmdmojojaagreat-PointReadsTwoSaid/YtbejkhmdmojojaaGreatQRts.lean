/- Pruned: Rts. -/
import Derived.Test.YtbejkhmdmojojaaGreatQAl3
set_option linter.unusedSimpArgs false
set_option linter.unusedVariables false
namespace Go.Ev

/-- Is an element above its negative? -/
def hiP (x : Fin Pp) : Prop := (-x).val < x.val
instance (x : Fin Pp) : Decidable (hiP x) := inferInstanceAs (Decidable ((-x).val < x.val))
def lowP (x : Fin Pp) : Fin Pp := if hiP x then -x else x
def rootE : Nat := 1000602388805416848354447456433976039139220704984751971333014534031007912622709466110671907282253916009473568139947
def rtP (x : Fin Pp) : Fin Pp := pwP x rootE
/-- Has an element a root? -/
def sqP (x : Fin Pp) : Prop := rtP x * rtP x = x
instance (x : Fin Pp) : Decidable (sqP x) := inferInstanceAs (Decidable (rtP x * rtP x = x))

theorem neg_valP {x : Fin Pp} (h : x ≠ 0) : (-x).val = 4002409555221667393417789825735904156556882819939007885332058136124031650490837864442687629129015664037894272559787 - x.val := by
  have h1 : (-x).val = (4002409555221667393417789825735904156556882819939007885332058136124031650490837864442687629129015664037894272559787 - x.val) % 4002409555221667393417789825735904156556882819939007885332058136124031650490837864442687629129015664037894272559787 := rfl
  have h2 : x.val ≠ 0 := fun e => h (Fin.ext e)
  rw [h1, Nat.mod_eq_of_lt (by omega)]
theorem hi_neg {x : Fin Pp} (h : x ≠ 0) : hiP (-x) ↔ ¬ hiP x := by
  have h2 : x.val ≠ 0 := fun e => h (Fin.ext e)
  have h3 := x.isLt
  simp only [Pp] at h3
  unfold hiP
  rw [show - -x = x by grind, neg_valP h]
  omega
theorem not_hi_zero : ¬ hiP 0 := by unfold hiP; decide
theorem neg_zeroP : (-0 : Fin Pp) = 0 := by decide
theorem low_sq (x : Fin Pp) : lowP x * lowP x = x * x := by
  unfold lowP
  split
  · grind
  · rfl
theorem sq_eqP {x y : Fin Pp} (h : x * x = y * y) : x = y ∨ x = -y := by
  have h1 : (x - y) * (x + y) = 0 := by
    have : (x - y) * (x + y) = x * x - y * y := by grind
    rw [this, h]; grind
  rcases no_zeroP h1 with h2 | h2
  · left
    have : x = (x - y) + y := by grind
    rw [this, h2]; grind
  · right
    have : x = (x + y) - y := by grind
    rw [this, h2]; grind
theorem pwP_add (x : Fin Pp) (m n : Nat) : pwP x m * pwP x n = pwP x (m + n) := (GP.pw_add x m n).symm
theorem rt_sq (x : Fin Pp) : rtP x * rtP x = pwP x halfP * x := by
  have e : rootE + rootE = halfP + 1 := by decide
  unfold rtP
  rw [pwP_add, e, pwP_succ]
theorem sq_iff (x : Fin Pp) : sqP x ↔ x = 0 ∨ pwP x halfP = 1 := by
  unfold sqP
  rw [rt_sq]
  constructor
  · intro h
    by_cases h0 : x = 0
    · exact .inl h0
    · right
      have h1 : (pwP x halfP - 1) * x = 0 := by
        generalize pwP x halfP = z at *
        have : (z - 1) * x = z * x - x := by grind
        rw [this, h]; grind
      rcases no_zeroP h1 with h2 | h2
      · generalize pwP x halfP = z at *
        have : z = (z - 1) + 1 := by grind
        rw [this, h2]; decide
      · exact absurd h2 h0
  · rintro (h | h)
    · subst h; generalize pwP 0 halfP = z; grind
    · rw [h]; grind
theorem chi_sq {x : Fin Pp} (h : x ≠ 0) : pwP (x * x) halfP = 1 := by
  rw [pwP_sq]; exact ferm_atP h (2 * halfP) (by decide)
theorem sq_sq (x : Fin Pp) : sqP (x * x) := by
  rw [sq_iff]
  by_cases h : x = 0
  · left; subst h; decide
  · exact .inr (chi_sq h)
theorem pwP_mul (x y : Fin Pp) (n : Nat) : pwP (x * y) n = pwP x n * pwP y n := by
  induction n with
  | zero => show (1 : Fin Pp) = 1 * 1; grind
  | succ n ih => rw [pwP_succ, pwP_succ, pwP_succ, ih]; grind
theorem chi_pm {x : Fin Pp} (h : x ≠ 0) : pwP x halfP = 1 ∨ pwP x halfP = -1 := by
  have h1 := chi_sq h
  rw [pwP_mul] at h1
  generalize pwP x halfP = z at *
  have h2 : z * z = 1 * 1 := by rw [h1]; grind
  exact sq_eqP h2
theorem one_ne_neg : (1 : Fin Pp) ≠ -1 := by decide
theorem neg_one_sq : (-1 : Fin Pp) * -1 = 1 := by decide
theorem neg_one_one : (-1 : Fin Pp) * 1 = -1 := by decide
theorem one_neg_one : (1 : Fin Pp) * -1 = -1 := by decide
theorem one_one : (1 : Fin Pp) * 1 = 1 := by decide
theorem sq_iff' {x : Fin Pp} (h : x ≠ 0) : sqP x ↔ pwP x halfP = 1 := by
  rw [sq_iff]; exact ⟨fun h' => h'.resolve_left h, .inr⟩
theorem mul_neP {x y : Fin Pp} (hx : x ≠ 0) (hy : y ≠ 0) : x * y ≠ 0 := fun e => by
  rcases no_zeroP e with h | h
  · exact hx h
  · exact hy h
theorem sq_mul {x y : Fin Pp} (hx : x ≠ 0) (hy : y ≠ 0) : sqP (x * y) ↔ (sqP x ↔ sqP y) := by
  rw [sq_iff' hx, sq_iff' hy, sq_iff' (mul_neP hx hy), pwP_mul]
  rcases chi_pm hx with h | h <;> rcases chi_pm hy with h' | h' <;> rw [h, h']
  · simp only [one_one]
  · simp only [one_neg_one, iff_def]; have := one_ne_neg; grind
  · simp only [neg_one_one, iff_def]; have := one_ne_neg; grind
  · simp only [neg_one_sq]
theorem sq_zero : sqP 0 := (sq_iff 0).2 (.inl rfl)
theorem toM_inj {x y : Fin Pp} (h : toM x = toM y) : x = y := by
  have e : ∀ z : Fin Pp, toM z = (z * ⟨39402006196394479212279040100143613805079739270465446667948293404245721771497210611414266254884915640806627990306816 % Pp, Nat.mod_lt _ (by decide)⟩).val := fun z => by
    unfold toM
    rw [Fin.val_mul]
    show _ = z.val * (39402006196394479212279040100143613805079739270465446667948293404245721771497210611414266254884915640806627990306816 % Pp) % Pp
    rw [Nat.mul_mod, Nat.mul_mod z.val (_ % Pp), Nat.mod_mod]
  rw [e, e] at h
  have h1 := Fin.ext h
  have h0 : (⟨39402006196394479212279040100143613805079739270465446667948293404245721771497210611414266254884915640806627990306816 % Pp, Nat.mod_lt _ (by decide)⟩ : Fin Pp) ≠ 0 := by decide
  generalize (⟨39402006196394479212279040100143613805079739270465446667948293404245721771497210611414266254884915640806627990306816 % Pp, Nat.mod_lt _ (by decide)⟩ : Fin Pp) = c at *
  have hi := mul_invP h0
  generalize pwP c _ = d at hi
  have hx : x = (x * c) * d := by
    have : (x * c) * d = x * (c * d) := by grind
    rw [this, hi]; grind
  have hy : y = (y * c) * d := by
    have : (y * c) * d = y * (c * d) := by grind
    rw [this, hi]; grind
  rw [hx, hy, h1]
theorem flat_m_inj {x y : Fin Pp} (h : flat [.m x] = flat [.m y]) : x = y := by
  have h' : limbs 6 (toM x) ++ [] = limbs 6 (toM y) ++ [] := h
  rw [List.append_nil, List.append_nil] at h'
  exact toM_inj (limbs_inj 6 _ _ (Nat.lt_trans (Nat.mod_lt _ (by decide)) (show Pp < _ by decide)) (Nat.lt_trans (Nat.mod_lt _ (by decide)) (show Pp < _ by decide)) h')
theorem flat_q_inj {x y : Fin Pp} (h : flat [.q x] = flat [.q y]) : x = y := by
  have h' : limbs 6 x.val ++ [] = limbs 6 y.val ++ [] := h
  rw [List.append_nil, List.append_nil] at h'
  exact Fin.ext (limbs_inj 6 _ _ (Nat.lt_trans x.isLt (by decide)) (Nat.lt_trans y.isLt (by decide)) h')
end Go.Ev
