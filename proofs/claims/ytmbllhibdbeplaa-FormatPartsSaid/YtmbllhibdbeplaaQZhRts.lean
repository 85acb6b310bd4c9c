/- Pruned: ZhRts. -/
import Derived.Test.YtmbllhibdbeplaaQZhAl3
set_option linter.unusedSimpArgs false
set_option linter.unusedVariables false
namespace Go.Ev

/-- Is an element above its negative? -/
def hiP (x : Fin Pp) : Prop := (-x).val < x.val
instance (x : Fin Pp) : Decidable (hiP x) := inferInstanceAs (Decidable ((-x).val < x.val))
def lowP (x : Fin Pp) : Fin Pp := if hiP x then -x else x
def rootE : Nat := 1000602388805416848354447456433976039139220704984751971333014534031007912622709466110671907282253916009473568139947
def rtP (x : Fin Pp) : Fin Pp := pwP x rootE
/-- Has an element a root? -/
def sqP (x : Fin Pp) : Prop := rtP x * rtP x = x
instance (x : Fin Pp) : Decidable (sqP x) := inferInstanceAs (Decidable (rtP x * rtP x = x))

theorem low_sq (x : Fin Pp) : lowP x * lowP x = x * x := by
  unfold lowP
  split
  · grind
  · rfl
theorem toM_inj {x y : Fin Pp} (h : toM x = toM y) : x = y := by
  have e : ∀ z : Fin Pp, toM z = (z * ⟨39402006196394479212279040100143613805079739270465446667948293404245721771497210611414266254884915640806627990306816 % Pp, Nat.mod_lt _ (by decide)⟩).val := fun z => by
    unfold toM
    rw [Fin.val_mul]
    show _ = z.val * (39402006196394479212279040100143613805079739270465446667948293404245721771497210611414266254884915640806627990306816 % Pp) % Pp
    rw [Nat.mul_mod, Nat.mul_mod z.val (_ % Pp), Nat.mod_mod]
  rw [e, e] at h
  have h1 := Fin.ext h
  have h0 : (⟨39402006196394479212279040100143613805079739270465446667948293404245721771497210611414266254884915640806627990306816 % Pp, Nat.mod_lt _ (by decide)⟩ : Fin Pp) ≠ 0 := by decide
  generalize (⟨39402006196394479212279040100143613805079739270465446667948293404245721771497210611414266254884915640806627990306816 % Pp, Nat.mod_lt _ (by decide)⟩ : Fin Pp) = c at *
  have hi := mul_invP h0
  generalize pwP c _ = d at hi
  have hx : x = (x * c) * d := by
    have : (x * c) * d = x * (c * d) := by grind
    rw [this, hi]; grind
  have hy : y = (y * c) * d := by
    have : (y * c) * d = y * (c * d) := by grind
    rw [this, hi]; grind
  rw [hx, hy, h1]
theorem flat_m_inj {x y : Fin Pp} (h : flat [.m x] = flat [.m y]) : x = y := by
  have h' : limbs 6 (toM x) ++ [] = limbs 6 (toM y) ++ [] := h
  rw [List.append_nil, List.append_nil] at h'
  exact toM_inj (limbs_inj 6 _ _ (Nat.lt_trans (Nat.mod_lt _ (by decide)) (show Pp < _ by decide)) (Nat.lt_trans (Nat.mod_lt _ (by decide)) (show Pp < _ by decide)) h')
end Go.Ev
