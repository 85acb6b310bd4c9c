/- Pruned: ZhAl3. -/
import Derived.Test.YtmbllhibdbeplaaQZhAl2
import Derived.Test.YtmbllhibdbeplaaQZhPri
set_option linter.unusedSimpArgs false
set_option linter.unusedVariables false
namespace Go.Ev

/-! ### The pairs are a ring -/
theorem mul2_comm (a b : F2) : mul2 a b = mul2 b a := by refine ext2 ?_ ?_ <;> simp only [mul2] <;> grind
theorem mul2_assoc (a b c : F2) : mul2 (mul2 a b) c = mul2 a (mul2 b c) := by refine ext2 ?_ ?_ <;> simp only [mul2] <;> grind
theorem mul2_add (a b c : F2) : mul2 a (add2 b c) = add2 (mul2 a b) (mul2 a c) := by refine ext2 ?_ ?_ <;> simp only [mul2, add2] <;> grind
theorem mul2_one (a : F2) : mul2 a one2 = a := ext2 (show a.1 * 1 - a.2 * 0 = a.1 by grind) (show (a.1 + a.2) * (1 + 0) - a.1 * 1 - a.2 * 0 = a.2 by grind)
theorem add2_comm (a b : F2) : add2 a b = add2 b a := by refine ext2 ?_ ?_ <;> simp only [add2] <;> grind
theorem add2_assoc (a b c : F2) : add2 (add2 a b) c = add2 a (add2 b c) := by refine ext2 ?_ ?_ <;> simp only [add2] <;> grind
theorem add2_zero (a : F2) : add2 a (0, 0) = a := ext2 (show a.1 + 0 = a.1 by grind) (show a.2 + 0 = a.2 by grind)
theorem t_zero (t : Fin Pp) : t * 0 = 0 := by grind
theorem mul2_zero (a : F2) : mul2 a (0, 0) = (0, 0) := ext2 (show a.1 * 0 - a.2 * 0 = 0 by rw [t_zero, t_zero]; decide) (show (a.1 + a.2) * (0 + 0) - a.1 * 0 - a.2 * 0 = 0 by rw [show (0 : Fin Pp) + 0 = 0 from by decide, t_zero, t_zero, t_zero]; decide)
theorem neg2_add (a : F2) : add2 (neg2 a) a = (0, 0) := ext2 (show -a.1 + a.1 = 0 by grind) (show -a.2 + a.2 = 0 by grind)
theorem shf2_mul (a : F2) : shf2 a = mul2 a (1, 1) := ext2 (show a.1 - a.2 = a.1 * 1 - a.2 * 1 by grind) (show a.1 + a.2 = (a.1 + a.2) * (1 + 1) - a.1 * 1 - a.2 * 1 by grind)

abbrev G2 := F2
theorem neg2_neg (a : F2) : neg2 (neg2 a) = a := by refine ext2 ?_ ?_ <;> simp only [neg2] <;> grind
def natG : Nat → G2
  | 0 => (0, 0)
  | n + 1 => add2 (natG n) one2
def intG : Int → G2
  | .ofNat n => natG n
  | .negSucc n => neg2 (natG (n + 1))
def smulG (n : Nat) (a : G2) : G2 := mul2 (natG n) a
def zsmulG (n : Int) (a : G2) : G2 := mul2 (intG n) a
def powG (a : G2) : Nat → G2
  | 0 => one2
  | n + 1 => mul2 (powG a n) a
theorem neg2_zero : neg2 (0, 0) = (0, 0) := by decide
theorem natG_one : natG 1 = one2 := by decide
theorem neg2_mul (a b : F2) : mul2 (neg2 a) b = neg2 (mul2 a b) := by refine ext2 ?_ ?_ <;> simp only [neg2, mul2] <;> grind
theorem intG_neg : ∀ i : Int, intG (-i) = neg2 (intG i)
  | .ofNat 0 => neg2_zero.symm
  | .ofNat (n + 1) => rfl
  | .negSucc n => (neg2_neg _).symm

instance : Lean.Grind.CommRing G2 where
  add a b := add2 a b
  mul a b := mul2 a b
  natCast := ⟨natG⟩
  ofNat n := ⟨natG n⟩
  nsmul := ⟨smulG⟩
  npow := ⟨powG⟩
  neg a := neg2 a
  sub a b := sub2 a b
  intCast := ⟨intG⟩
  zsmul := ⟨zsmulG⟩
  add_zero := add2_zero
  add_comm := add2_comm
  add_assoc := add2_assoc
  mul_assoc := mul2_assoc
  mul_one := fun a => by
    show mul2 a (natG 1) = a
    rw [natG_one]; exact mul2_one a
  one_mul := fun a => by
    show mul2 (natG 1) a = a
    rw [natG_one, mul2_comm]; exact mul2_one a
  left_distrib := mul2_add
  right_distrib := fun a b c => by
    show mul2 (add2 a b) c = add2 (mul2 a c) (mul2 b c)
    rw [mul2_comm, mul2_add, mul2_comm c a, mul2_comm c b]
  zero_mul := fun a => by show mul2 (0, 0) a = (0, 0); rw [mul2_comm]; exact mul2_zero a
  mul_zero := mul2_zero
  pow_zero := fun a => natG_one.symm
  pow_succ := fun _ _ => rfl
  ofNat_succ := fun n => by
    show add2 (natG n) one2 = add2 (natG n) (natG 1)
    rw [natG_one]
  ofNat_eq_natCast := fun _ => rfl
  nsmul_eq_natCast_mul := fun _ _ => rfl
  neg_add_cancel := neg2_add
  sub_eq_add_neg := fun a b => sub2_eq a b
  neg_zsmul := fun i a => by
    show mul2 (intG (-i)) a = neg2 (mul2 (intG i) a)
    rw [intG_neg, neg2_mul]
  zsmul_natCast_eq_nsmul := fun _ _ => rfl
  intCast_ofNat := fun _ => rfl
  intCast_neg := fun i => intG_neg i
  mul_comm := mul2_comm

/-! ### Norms of pairs -/
def norm2 (a : F2) : Fin Pp := a.1 * a.1 + a.2 * a.2
/-! ### Triples -/
def zero6 : F6 := ((0, 0), (0, 0), (0, 0))

/-- Products of triples over a ring, where v v v is x. -/
structure T3 (α : Type) where
  a : α
  b : α
  c : α
section
variable {α : Type} [Lean.Grind.CommRing α]
def t3mul (x : α) (p q : T3 α) : T3 α := ⟨p.a * q.a + x * (p.b * q.c + p.c * q.b), p.a * q.b + p.b * q.a + x * (p.c * q.c), p.a * q.c + p.c * q.a + p.b * q.b⟩
end

def xi : G2 := (1, 1)
def t6 (a : F6) : T3 G2 := ⟨a.1, a.2.1, a.2.2⟩
theorem t6_inj {a b : F6} (h : t6 a = t6 b) : a = b := by
  simp only [t6, T3.mk.injEq] at h
  exact ext6 h.1 h.2.1 h.2.2
theorem mul6_t (a b : F6) : t6 (mul6 a b) = t3mul xi (t6 a) (t6 b) := by
  obtain ⟨A, B, C⟩ := a
  obtain ⟨D, E, F⟩ := b
  have e1 : (mul6 (A, B, C) (D, E, F)).1 = ((A : G2) * (D : G2) + (((B : G2) + (C : G2)) * ((E : G2) + (F : G2)) - (B : G2) * (E : G2) - (C : G2) * (F : G2)) * xi : G2) := by
    simp only [mul6, shf2_mul]; rfl
  have e2 : (mul6 (A, B, C) (D, E, F)).2.1 = ((((A : G2) + (B : G2)) * ((D : G2) + (E : G2)) - (A : G2) * (D : G2) - (B : G2) * (E : G2)) + (C : G2) * (F : G2) * xi : G2) := by
    simp only [mul6, shf2_mul]; rfl
  have e3 : (mul6 (A, B, C) (D, E, F)).2.2 = ((((A : G2) + (C : G2)) * ((D : G2) + (F : G2)) - (A : G2) * (D : G2) - (C : G2) * (F : G2)) + (B : G2) * (E : G2) : G2) := by
    simp only [mul6]; rfl
  simp only [t6, t3mul, T3.mk.injEq]
  rw [e1, e2, e3]
  generalize (A : G2) = A
  refine ⟨?_, ?_, ?_⟩ <;> grind
/-! ### The triples are a ring -/
theorem mul6_comm (a b : F6) : mul6 a b = mul6 b a := by
  apply t6_inj; rw [mul6_t, mul6_t]; simp only [t3mul, T3.mk.injEq]; refine ⟨?_, ?_, ?_⟩ <;> grind
theorem mul6_assoc (a b c : F6) : mul6 (mul6 a b) c = mul6 a (mul6 b c) := by
  apply t6_inj; rw [mul6_t, mul6_t, mul6_t, mul6_t]; simp only [t3mul, T3.mk.injEq]; refine ⟨?_, ?_, ?_⟩ <;> grind
theorem add6_t (a b : F6) : t6 (add6 a b) = ⟨(t6 a).a + (t6 b).a, (t6 a).b + (t6 b).b, (t6 a).c + (t6 b).c⟩ := rfl
theorem mul6_add (a b c : F6) : mul6 a (add6 b c) = add6 (mul6 a b) (mul6 a c) := by
  apply t6_inj; rw [mul6_t, add6_t, add6_t, mul6_t, mul6_t]; simp only [t3mul, T3.mk.injEq]; refine ⟨?_, ?_, ?_⟩ <;> grind
theorem mul6_one (a : F6) : mul6 a one6 = a := by
  have e : (one2 : F2) = (1 : G2) := natG_one.symm
  have h : t6 one6 = ⟨(1 : G2), 0, 0⟩ := by
    show (⟨one2, (0, 0), (0, 0)⟩ : T3 G2) = _
    rw [e]; rfl
  apply t6_inj; rw [mul6_t, h]; simp only [t3mul, t6, T3.mk.injEq]; refine ⟨?_, ?_, ?_⟩ <;> grind
theorem add6_comm (a b : F6) : add6 a b = add6 b a := by refine ext6 ?_ ?_ ?_ <;> simp only [add6] <;> exact add2_comm _ _
theorem add6_assoc (a b c : F6) : add6 (add6 a b) c = add6 a (add6 b c) := by refine ext6 ?_ ?_ ?_ <;> simp only [add6] <;> exact add2_assoc _ _ _
theorem add6_zero (a : F6) : add6 a zero6 = a := by refine ext6 ?_ ?_ ?_ <;> simp only [add6, zero6] <;> exact add2_zero _
theorem mul6_zero (a : F6) : mul6 a zero6 = zero6 := by
  have h : t6 zero6 = ⟨(0 : G2), 0, 0⟩ := rfl
  apply t6_inj; rw [mul6_t, h]; simp only [t3mul, T3.mk.injEq]; refine ⟨?_, ?_, ?_⟩ <;> grind
theorem neg6_add (a : F6) : add6 (neg6 a) a = zero6 := by refine ext6 ?_ ?_ ?_ <;> simp only [add6, neg6, zero6] <;> exact neg2_add _
theorem sub6_eq (a b : F6) : sub6 a b = add6 a (neg6 b) := by refine ext6 ?_ ?_ ?_ <;> simp only [add6, neg6, sub6] <;> exact sub2_eq _ _
theorem neg6_neg (a : F6) : neg6 (neg6 a) = a := by refine ext6 ?_ ?_ ?_ <;> simp only [neg6] <;> exact neg2_neg _
theorem neg6_zero : neg6 zero6 = zero6 := by refine ext6 ?_ ?_ ?_ <;> simp only [neg6, zero6] <;> exact neg2_zero
theorem neg6_mul (a b : F6) : mul6 (neg6 a) b = neg6 (mul6 a b) := by
  have e : ∀ c : F6, t6 (neg6 c) = ⟨-(t6 c).a, -(t6 c).b, -(t6 c).c⟩ := fun c => rfl
  apply t6_inj; rw [mul6_t, e, e, mul6_t]; simp only [t3mul, T3.mk.injEq]; refine ⟨?_, ?_, ?_⟩ <;> grind

abbrev G6 := F6
def natH : Nat → G6
  | 0 => zero6
  | n + 1 => add6 (natH n) one6
def intH : Int → G6
  | .ofNat n => natH n
  | .negSucc n => neg6 (natH (n + 1))
def smulH (n : Nat) (a : G6) : G6 := mul6 (natH n) a
def zsmulH (n : Int) (a : G6) : G6 := mul6 (intH n) a
def powH (a : G6) : Nat → G6
  | 0 => one6
  | n + 1 => mul6 (powH a n) a
theorem intH_neg : ∀ i : Int, intH (-i) = neg6 (intH i)
  | .ofNat 0 => neg6_zero.symm
  | .ofNat (n + 1) => rfl
  | .negSucc n => (neg6_neg _).symm
theorem natH_one : natH 1 = one6 := by
  show add6 zero6 one6 = one6
  rw [add6_comm, add6_zero]
instance : Lean.Grind.CommRing G6 where
  add a b := add6 a b
  mul a b := mul6 a b
  natCast := ⟨natH⟩
  ofNat n := ⟨natH n⟩
  nsmul := ⟨smulH⟩
  npow := ⟨powH⟩
  neg a := neg6 a
  sub a b := sub6 a b
  intCast := ⟨intH⟩
  zsmul := ⟨zsmulH⟩
  add_zero := add6_zero
  add_comm := add6_comm
  add_assoc := add6_assoc
  mul_assoc := mul6_assoc
  mul_one := fun a => by show mul6 a (natH 1) = a; rw [natH_one]; exact mul6_one a
  one_mul := fun a => by show mul6 (natH 1) a = a; rw [natH_one, mul6_comm]; exact mul6_one a
  left_distrib := mul6_add
  right_distrib := fun a b c => by show mul6 (add6 a b) c = add6 (mul6 a c) (mul6 b c); rw [mul6_comm, mul6_add, mul6_comm c a, mul6_comm c b]
  zero_mul := fun a => by show mul6 zero6 a = zero6; rw [mul6_comm]; exact mul6_zero a
  mul_zero := mul6_zero
  pow_zero := fun a => natH_one.symm
  pow_succ := fun _ _ => rfl
  ofNat_succ := fun n => by show add6 (natH n) one6 = add6 (natH n) (natH 1); rw [natH_one]
  ofNat_eq_natCast := fun _ => rfl
  nsmul_eq_natCast_mul := fun _ _ => rfl
  neg_add_cancel := neg6_add
  sub_eq_add_neg := fun a b => sub6_eq a b
  neg_zsmul := fun i a => by show mul6 (intH (-i)) a = neg6 (mul6 (intH i) a); rw [intH_neg, neg6_mul]
  zsmul_natCast_eq_nsmul := fun _ _ => rfl
  intCast_ofNat := fun _ => rfl
  intCast_neg := fun i => intH_neg i
  mul_comm := mul6_comm

/-! ### The greatest field -/
end Go.Ev
