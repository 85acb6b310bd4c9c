/- Plain numbers: limbs put together, sums and differences limb by limb. Nothing here names a program. -/
import Derived.Test.YtoahfmgdlpgjoaaPar
set_option linter.unusedSimpArgs false
set_option linter.unusedVariables false
namespace Go.Ev

theorem limbs_succ (w x : Nat) : limbs (w + 1) x = .int .u64 ((x % 18446744073709551616 : Nat) : Int) :: limbs w (x / 18446744073709551616) := rfl

theorem limbs_snoc : ∀ (i o e : Nat), o < 18446744073709551616 ^ i → limbs (i + 1) (o + 18446744073709551616 ^ i * (e % 18446744073709551616)) = limbs i o ++ limbs 1 e
  | 0, o, e, h => by
    simp at h; subst h
    simp [limbs]
  | i + 1, o, e, h => by
    rw [limbs_succ (i + 1), limbs_succ i o, List.cons_append]
    have e1 : (o + 18446744073709551616 ^ (i + 1) * (e % 18446744073709551616)) % 18446744073709551616 = o % 18446744073709551616 := by
      rw [Nat.pow_succ, Nat.mul_comm (18446744073709551616 ^ i), Nat.mul_assoc, Nat.add_mul_mod_self_left]
    have e2 : (o + 18446744073709551616 ^ (i + 1) * (e % 18446744073709551616)) / 18446744073709551616 = o / 18446744073709551616 + 18446744073709551616 ^ i * (e % 18446744073709551616) := by
      rw [Nat.pow_succ, Nat.mul_comm (18446744073709551616 ^ i), Nat.mul_assoc, Nat.add_mul_div_left _ _ (by decide)]
    rw [e1, e2, limbs_snoc i (o / 18446744073709551616) e (Nat.div_lt_of_lt_mul (by rw [Nat.pow_succ, Nat.mul_comm] at h; exact h))]

/-- One limb more behind i limbs. -/
theorem flat_snoc (i o e : Nat) (r : List Ch) (h : o < 18446744073709551616 ^ i) : flat (.n i o :: .n 1 e :: r) = flat (.n (i + 1) (o + 18446744073709551616 ^ i * (e % 18446744073709551616)) :: r) := by
  show limbs i o ++ (limbs 1 e ++ flat r) = limbs (i + 1) _ ++ flat r
  rw [limbs_snoc i o e h, List.append_assoc]

/-- So far as i limbs: the difference, the borrow. -/
def mInv (a b i β o : Nat) : Prop := β ≤ 1 ∧ o < 18446744073709551616 ^ i ∧ o + b % 18446744073709551616 ^ i = a % 18446744073709551616 ^ i + 18446744073709551616 ^ i * β
def mE (a b i β : Nat) : Nat := a / 18446744073709551616 ^ i + (18446744073709551616 - b / 18446744073709551616 ^ i % 18446744073709551616) + (18446744073709551616 - β % 18446744073709551616)

theorem pow_pos' (i : Nat) : 0 < 18446744073709551616 ^ i := Nat.pow_pos (by decide)

theorem lt_snoc {i o : Nat} (e : Nat) (h : o < 18446744073709551616 ^ i) : o + 18446744073709551616 ^ i * (e % 18446744073709551616) < 18446744073709551616 ^ (i + 1) := by
  rw [Nat.pow_succ]
  have h1 : e % 18446744073709551616 + 1 ≤ 18446744073709551616 := Nat.mod_lt _ (by decide)
  have := Nat.mul_le_mul_left (18446744073709551616 ^ i) h1
  rw [Nat.mul_add, Nat.mul_one] at this
  omega

theorem mStep {a b i β o β' : Nat} (h : mInv a b i β o)
    (w : (a / 18446744073709551616 ^ i % 18446744073709551616 < b / 18446744073709551616 ^ i % 18446744073709551616 ∧ β' = 1) ∨
      (a / 18446744073709551616 ^ i % 18446744073709551616 = b / 18446744073709551616 ^ i % 18446744073709551616 ∧ β' = β) ∨
      (b / 18446744073709551616 ^ i % 18446744073709551616 < a / 18446744073709551616 ^ i % 18446744073709551616 ∧ β' = 0)) :
    mInv a b (i + 1) β' (o + 18446744073709551616 ^ i * (mE a b i β % 18446744073709551616)) := by
  obtain ⟨h1, h2, h3⟩ := h
  refine ⟨by omega, lt_snoc _ h2, ?_⟩
  rw [Nat.pow_succ, Nat.mod_mul, Nat.mod_mul]
  generalize hP : 18446744073709551616 ^ i = P at *
  have hE : mE a b i β % 18446744073709551616 + b / P % 18446744073709551616 + β = a / P % 18446744073709551616 + 18446744073709551616 * β' := by
    unfold mE
    rw [hP]
    omega
  generalize mE a b i β % 18446744073709551616 = E at *
  generalize b / P % 18446744073709551616 = B at *
  generalize a / P % 18446744073709551616 = A at *
  have := congrArg (P * ·) hE
  simp only [Nat.mul_add] at this
  rw [Nat.mul_assoc]
  omega

/-- The sum, the carry. -/
def pInv (a b i β o : Nat) : Prop := β ≤ 1 ∧ o < 18446744073709551616 ^ i ∧ o + 18446744073709551616 ^ i * β = a % 18446744073709551616 ^ i + b % 18446744073709551616 ^ i
def pE (a b i β : Nat) : Nat := a / 18446744073709551616 ^ i + b / 18446744073709551616 ^ i + β

theorem pStep {a b i β o β' : Nat} (h : pInv a b i β o)
    (w : (pE a b i β % 18446744073709551616 < a / 18446744073709551616 ^ i % 18446744073709551616 ∧ β' = 1) ∨
      (pE a b i β % 18446744073709551616 = a / 18446744073709551616 ^ i % 18446744073709551616 ∧ β' = β) ∨
      (a / 18446744073709551616 ^ i % 18446744073709551616 < pE a b i β % 18446744073709551616 ∧ β' = 0)) :
    pInv a b (i + 1) β' (o + 18446744073709551616 ^ i * (pE a b i β % 18446744073709551616)) := by
  obtain ⟨h1, h2, h3⟩ := h
  refine ⟨by omega, lt_snoc _ h2, ?_⟩
  rw [Nat.pow_succ, Nat.mod_mul, Nat.mod_mul]
  generalize hP : 18446744073709551616 ^ i = P at *
  have hE : pE a b i β % 18446744073709551616 + 18446744073709551616 * β' = a / P % 18446744073709551616 + b / P % 18446744073709551616 + β := by
    unfold pE at *
    rw [hP] at *
    omega
  generalize pE a b i β % 18446744073709551616 = E at *
  generalize b / P % 18446744073709551616 = B at *
  generalize a / P % 18446744073709551616 = A at *
  have := congrArg (P * ·) hE
  simp only [Nat.mul_add] at this
  rw [Nat.mul_assoc]
  omega

/-- What has been held against the other, from the highest limb down: they are the same from limb i on. -/
theorem less_at {a b i : Nat} (h : a / 18446744073709551616 ^ (i + 1) = b / 18446744073709551616 ^ (i + 1)) (h' : a / 18446744073709551616 ^ i % 18446744073709551616 = b / 18446744073709551616 ^ i % 18446744073709551616) :
    a / 18446744073709551616 ^ i = b / 18446744073709551616 ^ i := by
  rw [Nat.pow_succ, ← Nat.div_div_eq_div_mul, ← Nat.div_div_eq_div_mul] at h
  omega
theorem less_of {a b i : Nat} (h : a / 18446744073709551616 ^ (i + 1) = b / 18446744073709551616 ^ (i + 1)) (h' : a / 18446744073709551616 ^ i % 18446744073709551616 ≠ b / 18446744073709551616 ^ i % 18446744073709551616) :
    decide (a / 18446744073709551616 ^ i % 18446744073709551616 < b / 18446744073709551616 ^ i % 18446744073709551616) = decide (a < b) := by
  rw [Nat.pow_succ, ← Nat.div_div_eq_div_mul, ← Nat.div_div_eq_div_mul] at h
  rw [decide_eq_decide]
  have hp := pow_pos' i
  generalize 18446744073709551616 ^ i = P at *
  have k : a / P < b / P ↔ a / P % 18446744073709551616 < b / P % 18446744073709551616 := by omega
  rw [← k]
  constructor
  · intro h
    rcases Nat.lt_or_ge a b with g | g
    · exact g
    · have := Nat.div_le_div_right (c := P) g
      omega
  · intro h
    have := Nat.div_le_div_right (c := P) (Nat.le_of_lt h)
    have : a / P ≠ b / P := fun e => h' (by rw [e])
    omega
/-- Elements, as they are, alone. -/
def parQs : Par (Fin Pp) where
  p l := match l with | .q x :: r => some (x, r) | _ => none
  c x := [.q x]
  pure _ := rfl
  ok l x r h := by
    split at h
    · simp only [Option.some.injEq, Prod.mk.injEq] at h; obtain ⟨rfl, rfl⟩ := h; simp [flat, Ch.cells]
    · cases h
def parEs : Par (Fin Rr) where
  p l := match l with | .e x :: r => some (x, r) | _ => none
  c x := [.e x]
  pure _ := rfl
  ok l x r h := by
    split at h
    · simp only [Option.some.injEq, Prod.mk.injEq] at h; obtain ⟨rfl, rfl⟩ := h; simp [flat, Ch.cells]
    · cases h
/-- Two makes of an argument. -/
def entryOr1 {α β : Type} (f : FuncId) (a : XPar α) (b : XPar β) (ra : α → Alts) (rb : β → Alts) : Entry :=
  ⟨f, fun _ => fun | [x] => (match a.p x with | some u => ra u | none => match b.p x with | some v => rb v | none => []) | _ => []⟩
theorem entryOr1_ok {P : Program} {α β : Type} {f : FuncId} {a : XPar α} {b : XPar β} {ra : α → Alts} {rb : β → Alts} (h1 : (entry1 f a ra).OK P) (h2 : (entry1 f b rb).OK P) : (entryOr1 f a b ra rb).OK P := by
  intro hi args c r hm hc
  simp only [entryOr1] at hm
  split at hm
  · rename_i x
    split at hm
    · rename_i u hu
      exact h1 hi [x] c r (by simp only [entry1, hu]; exact hm) hc
    · split at hm
      · rename_i v hv
        exact h2 hi [x] c r (by simp only [entry1, hv]; exact hm) hc
      · cases hm
  · cases hm

/-- An argument of one make or another. -/
def XPar.or {α β : Type} (a : XPar α) (b : XPar β) : XPar (α ⊕ β) where
  p v := match a.p v with | some x => some (.inl x) | none => match b.p v with | some y => some (.inr y) | none => none
  c z := match z with | .inl x => a.c x | .inr y => b.c y
  ok v z h w y hy := by
    split at h
    · rename_i x hx
      simp only [Option.some.injEq] at h; subst h
      exact a.ok _ _ hx _ _ hy
    · split at h
      · rename_i x hx
        simp only [Option.some.injEq] at h; subst h
        exact b.ok _ _ hx _ _ hy
      · cases h
theorem ofP_val (x : Fin Pp) : ofP x.val = x := by unfold ofP; exact Fin.ofNat_val_eq_self x

theorem ofR_val (x : Fin Rr) : ofR x.val = x := by unfold ofR; exact Fin.ofNat_val_eq_self x

def smS (a : Nat) : Prop := a < 115792089237316195423570985008687907853269984665640564039457584007913129639936
def par1S : XPar (Fin Rr ⊕ Nat) := XPar.or parEs.x parN4.x
def eltS : Fin Rr ⊕ Nat → Fin Rr
  | .inl a => a
  | .inr a => ofR a
def smtS : Fin Rr ⊕ Nat → Prop
  | .inl _ => True
  | .inr a => smS a

def smP (a : Nat) : Prop := a < 39402006196394479212279040100143613805079739270465446667948293404245721771497210611414266254884915640806627990306816
def par1P : XPar (Fin Pp ⊕ Nat) := XPar.or parQs.x parN6.x
def eltP : Fin Pp ⊕ Nat → Fin Pp
  | .inl a => a
  | .inr a => ofP a
def smtP : Fin Pp ⊕ Nat → Prop
  | .inl _ => True
  | .inr a => smP a

theorem limbs_inj : ∀ (w a b : Nat), a < 18446744073709551616 ^ w → b < 18446744073709551616 ^ w → limbs w a = limbs w b → a = b
  | 0, a, b, ha, hb, _ => by simp at ha hb; omega
  | w + 1, a, b, ha, hb, h => by
    simp only [limbs_succ, List.cons.injEq, Value.int.injEq, true_and] at h
    obtain ⟨h1, h2⟩ := h
    rw [Nat.pow_succ, Nat.mul_comm] at ha hb
    have := limbs_inj w _ _ (Nat.div_lt_of_lt_mul ha) (Nat.div_lt_of_lt_mul hb) h2
    omega

/-- A number of 64 bits as an argument. -/
def XPar.lim : XPar Nat where
  p v := match v with
    | .t (.u h) => some h
    | .t (.v (.int .u64 n)) => if 0 ≤ n ∧ n < 18446744073709551616 then some n.toNat else none
    | _ => none
  c h := .t (.u h)
  ok v x h w y hy := by
    split at h
    · simp only [Option.some.injEq] at h; subst h; exact hy
    · split at h
      · rename_i n hn
        simp only [Option.some.injEq] at h; subst h
        simp only [XRep, AV.val?, Option.some.injEq] at hy ⊢
        rw [← hy]
        unfold u64
        congr 1
        omega
      · cases h
    · cases h
/-- A slice of w cells that are a number. -/
def XPar.rd (w : Nat) (a : Par Nat) (ha : ∀ x, a.c x = [.n w x]) : XPar Nat where
  p v := match v with
    | .rd cs len cap => match Nat.beq len w, Nat.beq cap w, a.p cs with | true, true, some (x, []) => some x | _, _, _ => none
    | _ => none
  c x := .rd [.n w x] w w
  ok v x h w' y hy := by
    split at h
    · split at h
      · rename_i h1 h2 h3
        simp only [Option.some.injEq] at h; subst h
        have h1 := Nat.eq_of_beq_eq_true h1
        have h2 := Nat.eq_of_beq_eq_true h2
        subst h1
        subst h2
        obtain ⟨hp, b, off, e1, e2, e3⟩ := hy
        have e := a.ok _ _ _ h3
        rw [ha] at e
        refine ⟨rfl, b, off, e1, e2, ?_⟩
        rw [e] at e3
        simpa [flat] using e3
      · cases h
    · cases h

theorem wrap_i64 (n : Int) : IntKind.i64.wrap n = if n % 18446744073709551616 < 9223372036854775808 then n % 18446744073709551616 else n % 18446744073709551616 - 18446744073709551616 := by
  simp [IntKind.wrap, IntKind.signed, IntKind.bits]
  split <;> split <;> omega
theorem cmp_lt {a b i : Nat} (h : a / 18446744073709551616 ^ (i + 1) = b / 18446744073709551616 ^ (i + 1)) (h' : a / 18446744073709551616 ^ i % 18446744073709551616 < b / 18446744073709551616 ^ i % 18446744073709551616) : a < b := by
  have := less_of h (Nat.ne_of_lt h')
  rw [decide_eq_true h'] at this
  exact of_decide_eq_true this.symm
theorem cmp_gt {a b i : Nat} (h : a / 18446744073709551616 ^ (i + 1) = b / 18446744073709551616 ^ (i + 1)) (h' : b / 18446744073709551616 ^ i % 18446744073709551616 < a / 18446744073709551616 ^ i % 18446744073709551616) : b < a := cmp_lt h.symm h'
end Go.Ev
