/- The towers' inverses: norms are not 0. Nothing here names a program. -/
import Derived.Test.YtbejkhmdmojojaaAl2
import Derived.Test.YtbejkhmdmojojaaPri
set_option linter.unusedSimpArgs false
set_option linter.unusedVariables false
namespace Go.Ev

/-! ### The pairs are a ring -/
theorem mul2_comm (a b : F2) : mul2 a b = mul2 b a := by refine ext2 ?_ ?_ <;> simp only [mul2] <;> grind
theorem mul2_assoc (a b c : F2) : mul2 (mul2 a b) c = mul2 a (mul2 b c) := by refine ext2 ?_ ?_ <;> simp only [mul2] <;> grind
theorem mul2_add (a b c : F2) : mul2 a (add2 b c) = add2 (mul2 a b) (mul2 a c) := by refine ext2 ?_ ?_ <;> simp only [mul2, add2] <;> grind
theorem mul2_one (a : F2) : mul2 a one2 = a := ext2 (show a.1 * 1 - a.2 * 0 = a.1 by grind) (show (a.1 + a.2) * (1 + 0) - a.1 * 1 - a.2 * 0 = a.2 by grind)
theorem add2_comm (a b : F2) : add2 a b = add2 b a := by refine ext2 ?_ ?_ <;> simp only [add2] <;> grind
theorem add2_assoc (a b c : F2) : add2 (add2 a b) c = add2 a (add2 b c) := by refine ext2 ?_ ?_ <;> simp only [add2] <;> grind
theorem add2_zero (a : F2) : add2 a (0, 0) = a := ext2 (show a.1 + 0 = a.1 by grind) (show a.2 + 0 = a.2 by grind)
theorem t_zero (t : Fin Pp) : t * 0 = 0 := by grind
theorem mul2_zero (a : F2) : mul2 a (0, 0) = (0, 0) := ext2 (show a.1 * 0 - a.2 * 0 = 0 by rw [t_zero, t_zero]; decide) (show (a.1 + a.2) * (0 + 0) - a.1 * 0 - a.2 * 0 = 0 by rw [show (0 : Fin Pp) + 0 = 0 from by decide, t_zero, t_zero, t_zero]; decide)
theorem neg2_add (a : F2) : add2 (neg2 a) a = (0, 0) := ext2 (show -a.1 + a.1 = 0 by grind) (show -a.2 + a.2 = 0 by grind)
theorem shf2_mul (a : F2) : shf2 a = mul2 a (1, 1) := ext2 (show a.1 - a.2 = a.1 * 1 - a.2 * 1 by grind) (show a.1 + a.2 = (a.1 + a.2) * (1 + 1) - a.1 * 1 - a.2 * 1 by grind)

abbrev G2 := F2
theorem neg2_neg (a : F2) : neg2 (neg2 a) = a := by refine ext2 ?_ ?_ <;> simp only [neg2] <;> grind
def natG : Nat → G2
  | 0 => (0, 0)
  | n + 1 => add2 (natG n) one2
def intG : Int → G2
  | .ofNat n => natG n
  | .negSucc n => neg2 (natG (n + 1))
def smulG (n : Nat) (a : G2) : G2 := mul2 (natG n) a
def zsmulG (n : Int) (a : G2) : G2 := mul2 (intG n) a
def powG (a : G2) : Nat → G2
  | 0 => one2
  | n + 1 => mul2 (powG a n) a
theorem neg2_zero : neg2 (0, 0) = (0, 0) := by decide
theorem natG_one : natG 1 = one2 := by decide
theorem neg2_mul (a b : F2) : mul2 (neg2 a) b = neg2 (mul2 a b) := by refine ext2 ?_ ?_ <;> simp only [neg2, mul2] <;> grind
theorem intG_neg : ∀ i : Int, intG (-i) = neg2 (intG i)
  | .ofNat 0 => neg2_zero.symm
  | .ofNat (n + 1) => rfl
  | .negSucc n => (neg2_neg _).symm

instance : Lean.Grind.CommRing G2 where
  add a b := add2 a b
  mul a b := mul2 a b
  natCast := ⟨natG⟩
  ofNat n := ⟨natG n⟩
  nsmul := ⟨smulG⟩
  npow := ⟨powG⟩
  neg a := neg2 a
  sub a b := sub2 a b
  intCast := ⟨intG⟩
  zsmul := ⟨zsmulG⟩
  add_zero := add2_zero
  add_comm := add2_comm
  add_assoc := add2_assoc
  mul_assoc := mul2_assoc
  mul_one := fun a => by
    show mul2 a (natG 1) = a
    rw [natG_one]; exact mul2_one a
  one_mul := fun a => by
    show mul2 (natG 1) a = a
    rw [natG_one, mul2_comm]; exact mul2_one a
  left_distrib := mul2_add
  right_distrib := fun a b c => by
    show mul2 (add2 a b) c = add2 (mul2 a c) (mul2 b c)
    rw [mul2_comm, mul2_add, mul2_comm c a, mul2_comm c b]
  zero_mul := fun a => by show mul2 (0, 0) a = (0, 0); rw [mul2_comm]; exact mul2_zero a
  mul_zero := mul2_zero
  pow_zero := fun a => natG_one.symm
  pow_succ := fun _ _ => rfl
  ofNat_succ := fun n => by
    show add2 (natG n) one2 = add2 (natG n) (natG 1)
    rw [natG_one]
  ofNat_eq_natCast := fun _ => rfl
  nsmul_eq_natCast_mul := fun _ _ => rfl
  neg_add_cancel := neg2_add
  sub_eq_add_neg := fun a b => sub2_eq a b
  neg_zsmul := fun i a => by
    show mul2 (intG (-i)) a = neg2 (mul2 (intG i) a)
    rw [intG_neg, neg2_mul]
  zsmul_natCast_eq_nsmul := fun _ _ => rfl
  intCast_ofNat := fun _ => rfl
  intCast_neg := fun i => intG_neg i
  mul_comm := mul2_comm

/-! ### Norms of pairs -/
theorem pwP_two (x : Fin Pp) : pwP x 2 = x * x := by
  show (1 * x) * x = x * x
  grind
theorem pwP_sq (x : Fin Pp) (n : Nat) : pwP (x * x) n = pwP x (2 * n) := by
  have := GP.pw_mul x 2 n
  have e := pwP_two x
  unfold pwP at *
  rw [← e]
  exact this.symm
theorem pwP_one (n : Nat) : pwP 1 n = 1 := by
  induction n with
  | zero => rfl
  | succ n ih => rw [pwP_succ, ih]; grind
theorem pwP_neg_odd (n : Nat) : pwP (-1) (2 * n + 1) = -1 := by
  rw [pwP_succ, ← pwP_sq, show (-1 : Fin Pp) * -1 = 1 by decide, pwP_one]
  decide

def halfP : Nat := 2001204777610833696708894912867952078278441409969503942666029068062015825245418932221343814564507832018947136279893
theorem no_root {x : Fin Pp} (h : x * x = -1) : False := by
  have hx : x ≠ 0 := fun e => by
    subst e
    have : (0 : Fin Pp) = -1 := by rw [← h]; grind
    exact absurd this (by decide)
  have h1 := ferm_atP hx (2 * halfP) (by decide)
  rw [← pwP_sq, h] at h1
  have h2 : halfP = 2 * 1000602388805416848354447456433976039139220704984751971333014534031007912622709466110671907282253916009473568139946 + 1 := by decide
  rw [h2, pwP_neg_odd] at h1
  exact absurd h1 (by decide)

def norm2 (a : F2) : Fin Pp := a.1 * a.1 + a.2 * a.2
def inv2 (a : F2) : F2 := (a.1 * pwP (norm2 a) 4002409555221667393417789825735904156556882819939007885332058136124031650490837864442687629129015664037894272559785, -(a.2 * pwP (norm2 a) 4002409555221667393417789825735904156556882819939007885332058136124031650490837864442687629129015664037894272559785))

theorem norm2_ne {a : F2} (h : a ≠ (0, 0)) : norm2 a ≠ 0 := fun e => by
  unfold norm2 at e
  by_cases h2 : a.2 = 0
  · rw [h2] at e
    have : a.1 * a.1 = 0 := by rw [← e]; grind
    rcases no_zeroP this with h1 | h1 <;> exact h (Prod.ext h1 h2)
  · have hi := mul_invP h2
    generalize pwP a.2 4002409555221667393417789825735904156556882819939007885332058136124031650490837864442687629129015664037894272559785 = z at hi
    refine no_root (x := a.1 * z) ?_
    have : ∀ x y z : Fin Pp, x * z * (x * z) = (x * x + y * y) * (z * z) - (y * z) * (y * z) := fun x y z => by grind
    rw [this a.1 a.2 z, e, hi, show (0 : Fin Pp) * (z * z) = 0 by grind]
    decide
theorem inv2_mul {a : F2} (h : a ≠ (0, 0)) : mul2 a (inv2 a) = one2 := by
  have hi := mul_invP (norm2_ne h)
  unfold inv2
  generalize pwP (norm2 a) 4002409555221667393417789825735904156556882819939007885332058136124031650490837864442687629129015664037894272559785 = z at *
  unfold norm2 at hi
  refine ext2 ?_ ?_
  · simp only [mul2, one2]; rw [← hi]; grind
  · simp only [mul2, one2]; grind
theorem inv2_zero' (a : F2) (h1 : a.1 = 0) (h2 : a.2 = 0) : inv2 a = (0, 0) := by
  unfold inv2
  rw [h1, h2]
  generalize pwP (norm2 a) _ = z
  rw [show (0 : Fin Pp) * z = 0 by grind]
  decide
theorem inv2_zero : inv2 (0, 0) = (0, 0) := inv2_zero' _ rfl rfl
theorem no_zero2 {x y : F2} (h : mul2 x y = (0, 0)) : x = (0, 0) ∨ y = (0, 0) := by
  by_cases hx : x = (0, 0)
  · exact .inl hx
  · right
    have h1 := inv2_mul hx
    have : y = mul2 (mul2 x (inv2 x)) y := by rw [h1, mul2_comm, mul2_one]
    rw [this, mul2_comm x, mul2_assoc, h, mul2_zero]
theorem norm2_mul (a b : F2) : norm2 (mul2 a b) = norm2 a * norm2 b := by simp only [norm2, mul2]; grind

/-! ### Triples -/
/-- What a triple is multiplied with to be a pair; its norm. -/
def adj6 (a : F6) : F6 :=
  (sub2 (mul2 a.1 a.1) (shf2 (mul2 a.2.1 a.2.2)), sub2 (shf2 (mul2 a.2.2 a.2.2)) (mul2 a.1 a.2.1), sub2 (mul2 a.2.1 a.2.1) (mul2 a.1 a.2.2))
def norm6 (a : F6) : F2 :=
  add2 (mul2 a.1 (adj6 a).1) (shf2 (add2 (mul2 a.2.2 (adj6 a).2.1) (mul2 a.2.1 (adj6 a).2.2)))
def scale6 (a : F6) (n : F2) : F6 := (mul2 a.1 n, mul2 a.2.1 n, mul2 a.2.2 n)
def inv6 (a : F6) : F6 := scale6 (adj6 a) (inv2 (norm6 a))
def zero6 : F6 := ((0, 0), (0, 0), (0, 0))

/-- Products of triples over a ring, where v v v is x. -/
structure T3 (α : Type) where
  a : α
  b : α
  c : α
section
variable {α : Type} [Lean.Grind.CommRing α]
def t3mul (x : α) (p q : T3 α) : T3 α := ⟨p.a * q.a + x * (p.b * q.c + p.c * q.b), p.a * q.b + p.b * q.a + x * (p.c * q.c), p.a * q.c + p.c * q.a + p.b * q.b⟩
def t3adj (x : α) (p : T3 α) : T3 α := ⟨p.a * p.a - x * (p.b * p.c), x * (p.c * p.c) - p.a * p.b, p.b * p.b - p.a * p.c⟩
def t3norm (x : α) (p : T3 α) : α := p.a * p.a * p.a + x * (p.b * p.b * p.b) + x * x * (p.c * p.c * p.c) - 3 * x * (p.a * p.b * p.c)
theorem t3norm_mul (x : α) (p q : T3 α) : t3norm x (t3mul x p q) = t3norm x p * t3norm x q := by
  simp only [t3norm, t3mul]; grind
end

def xi : G2 := (1, 1)
def t6 (a : F6) : T3 G2 := ⟨a.1, a.2.1, a.2.2⟩
theorem t6_inj {a b : F6} (h : t6 a = t6 b) : a = b := by
  simp only [t6, T3.mk.injEq] at h
  exact ext6 h.1 h.2.1 h.2.2
theorem mul6_t (a b : F6) : t6 (mul6 a b) = t3mul xi (t6 a) (t6 b) := by
  obtain ⟨A, B, C⟩ := a
  obtain ⟨D, E, F⟩ := b
  have e1 : (mul6 (A, B, C) (D, E, F)).1 = ((A : G2) * (D : G2) + (((B : G2) + (C : G2)) * ((E : G2) + (F : G2)) - (B : G2) * (E : G2) - (C : G2) * (F : G2)) * xi : G2) := by
    simp only [mul6, shf2_mul]; rfl
  have e2 : (mul6 (A, B, C) (D, E, F)).2.1 = ((((A : G2) + (B : G2)) * ((D : G2) + (E : G2)) - (A : G2) * (D : G2) - (B : G2) * (E : G2)) + (C : G2) * (F : G2) * xi : G2) := by
    simp only [mul6, shf2_mul]; rfl
  have e3 : (mul6 (A, B, C) (D, E, F)).2.2 = ((((A : G2) + (C : G2)) * ((D : G2) + (F : G2)) - (A : G2) * (D : G2) - (C : G2) * (F : G2)) + (B : G2) * (E : G2) : G2) := by
    simp only [mul6]; rfl
  simp only [t6, t3mul, T3.mk.injEq]
  rw [e1, e2, e3]
  generalize (A : G2) = A
  refine ⟨?_, ?_, ?_⟩ <;> grind
theorem adj6_t (a : F6) : t6 (adj6 a) = t3adj xi (t6 a) := by
  obtain ⟨A, B, C⟩ := a
  have e1 : (adj6 (A, B, C)).1 = ((A : G2) * (A : G2) - (B : G2) * (C : G2) * xi : G2) := by simp only [adj6, shf2_mul]; rfl
  have e2 : (adj6 (A, B, C)).2.1 = ((C : G2) * (C : G2) * xi - (A : G2) * (B : G2) : G2) := by simp only [adj6, shf2_mul]; rfl
  have e3 : (adj6 (A, B, C)).2.2 = ((B : G2) * (B : G2) - (A : G2) * (C : G2) : G2) := by simp only [adj6]; rfl
  simp only [t6, t3adj, T3.mk.injEq]
  rw [e1, e2, e3]
  refine ⟨?_, ?_, ?_⟩ <;> grind
theorem norm6_t (a : F6) : (norm6 a : G2) = t3norm xi (t6 a) := by
  have h := adj6_t a
  simp only [t6, t3adj, T3.mk.injEq] at h
  have e1 : norm6 a = ((a.1 : G2) * ((adj6 a).1 : G2) + ((a.2.2 : G2) * ((adj6 a).2.1 : G2) + (a.2.1 : G2) * ((adj6 a).2.2 : G2)) * xi : G2) := by simp only [norm6, shf2_mul]; rfl
  rw [e1, h.1, h.2.1, h.2.2]
  simp only [t3norm, t6]
  grind
theorem norm6_mul (a b : F6) : norm6 (mul6 a b) = mul2 (norm6 a) (norm6 b) := by
  have h : (norm6 (mul6 a b) : G2) = (norm6 a : G2) * (norm6 b : G2) := by
    rw [norm6_t, norm6_t, norm6_t, mul6_t, t3norm_mul]
  exact h
/-- A triple times what it is multiplied with. -/
theorem mul_adj6 (a : F6) : mul6 a (adj6 a) = (norm6 a, (0, 0), (0, 0)) := by
  apply t6_inj
  rw [mul6_t, adj6_t]
  have h := norm6_t a
  have h0 : ((0, 0) : F2) = (0 : G2) := rfl
  simp only [t6, t3mul, t3adj, t3norm, T3.mk.injEq] at h ⊢
  rw [h, h0]
  refine ⟨?_, ?_, ?_⟩ <;> grind
theorem adj_adj6 (a : F6) : adj6 (adj6 a) = scale6 a (norm6 a) := by
  apply t6_inj
  rw [adj6_t, adj6_t]
  have h := norm6_t a
  have e : t6 (scale6 a (norm6 a)) = ⟨(a.1 : G2) * (norm6 a : G2), (a.2.1 : G2) * (norm6 a : G2), (a.2.2 : G2) * (norm6 a : G2)⟩ := rfl
  rw [e, h]
  simp only [t6, t3adj, t3norm, T3.mk.injEq]
  refine ⟨?_, ?_, ?_⟩ <;> grind

theorem two_val : ((2 : Fin Pp)).val = 2 := by decide
theorem two_pow_ne (m : Nat) (hm : m < 2 ^ 400) (h : mpow 400 2 m Pp ≠ 1) : pwP 2 m ≠ 1 := fun e => by
  have h4 := pwP_val 2 m
  rw [e, two_val, ← mpow_eq 400 2 m Pp hm, show ((1 : Fin Pp)).val = 1 from by decide] at h4
  exact h h4.symm
theorem no_cube {n : Fin Pp} (h : n * n * n = 2) : False := by
  have hn : n ≠ 0 := fun e => by
    subst e
    have : (0 : Fin Pp) = 2 := by rw [← h]; grind
    exact absurd this (by decide)
  have h1 := ferm_atP hn (3 * 1334136518407222464472596608578634718852294273313002628444019378708010550163612621480895876376338554679298090853262) (by decide)
  have h2 : pwP n (3 * 1334136518407222464472596608578634718852294273313002628444019378708010550163612621480895876376338554679298090853262) = pwP (pwP n 3) 1334136518407222464472596608578634718852294273313002628444019378708010550163612621480895876376338554679298090853262 := GP.pw_mul n 3 _
  have h3 : pwP n 3 = 2 := by
    rw [← h]
    show ((1 * n) * n) * n = n * n * n
    grind
  rw [h2, h3] at h1
  exact two_pow_ne _ (by decide +kernel) (by decide +kernel) h1
theorem no_square {n : Fin Pp} (h : n * n = 2) : False := by
  have hn : n ≠ 0 := fun e => by
    subst e
    have : (0 : Fin Pp) = 2 := by rw [← h]; grind
    exact absurd this (by decide)
  have h1 := ferm_atP hn (2 * halfP) (by decide)
  rw [← pwP_sq, h] at h1
  exact two_pow_ne halfP (by decide +kernel) (by decide +kernel) h1

theorem adj6_zero {c : F6} (h : adj6 c = zero6) : c = zero6 := by
  obtain ⟨A, B, C⟩ := c
  have h1 : ((A : G2) * (A : G2) - (B : G2) * (C : G2) * xi : G2) = 0 := by
    have := congrArg (fun z : F6 => z.1) h
    simp only [adj6, shf2_mul, zero6] at this
    exact this
  have h2 : ((C : G2) * (C : G2) * xi - (A : G2) * (B : G2) : G2) = 0 := by
    have := congrArg (fun z : F6 => z.2.1) h
    simp only [adj6, shf2_mul, zero6] at this
    exact this
  have h3 : ((B : G2) * (B : G2) - (A : G2) * (C : G2) : G2) = 0 := by
    have := congrArg (fun z : F6 => z.2.2) h
    simp only [adj6, zero6] at this
    exact this
  have sq0 : ∀ x : F2, ((x : G2) * (x : G2) : G2) = 0 → x = (0, 0) := fun x hx => by
    rcases no_zero2 (x := x) (y := x) hx with h | h <;> exact h
  by_cases hC : C = (0, 0)
  · have hC' : (C : G2) = 0 := hC
    have hB : B = (0, 0) := sq0 B (by rw [hC'] at h3; rw [← h3]; grind)
    have hB' : (B : G2) = 0 := hB
    have hA : A = (0, 0) := sq0 A (by rw [hB'] at h1; rw [← h1]; grind)
    rw [hA, hB, hC]; rfl
  · exfalso
    have hi : ((C : G2) * (inv2 C : G2) : G2) = 1 := by
      have := inv2_mul hC
      have e : (1 : G2) = one2 := natG_one
      rw [e]; exact this
    generalize hz : (inv2 C : G2) = z at hi
    have hA : (A : G2) = (B : G2) * (B : G2) * z := by
      have : (A : G2) = (A : G2) * ((C : G2) * z) := by rw [hi]; grind
      rw [this]
      have e3 : (A : G2) * (C : G2) = (B : G2) * (B : G2) := by grind
      grind
    have hw : xi = ((B : G2) * z) * ((B : G2) * z) * ((B : G2) * z) := by
      have e2 : (C : G2) * (C : G2) * xi = (A : G2) * (B : G2) := by grind
      rw [hA] at e2
      have : xi = ((C : G2) * (C : G2) * xi) * (z * z) := by
        have : xi = xi * ((C : G2) * z) * ((C : G2) * z) := by rw [hi]; grind
        grind
      rw [this, e2]
      grind
    have hn := congrArg (fun x : F2 => norm2 x) (show (xi : F2) = mul2 (mul2 (mul2 B z) (mul2 B z)) (mul2 B z) from hw)
    simp only [norm2_mul] at hn
    have e : norm2 xi = 2 := by decide
    rw [e] at hn
    exact no_cube hn.symm
theorem norm6_ne {a : F6} (h : a ≠ zero6) : norm6 a ≠ (0, 0) := fun e => by
  have h1 := adj_adj6 a
  rw [e] at h1
  have h2 : scale6 a (0, 0) = zero6 := by
    refine ext6 ?_ ?_ ?_ <;> simp only [scale6, zero6, mul2_zero]
  rw [h2] at h1
  exact h (adj6_zero (adj6_zero h1))
def mulS6 (a : F6) (n : F2) : F6 := scale6 a n
theorem mul_scale6 (a b : F6) (n : F2) : mul6 a (scale6 b n) = scale6 (mul6 a b) n := by
  apply t6_inj
  have e : ∀ c : F6, t6 (scale6 c n) = ⟨(t6 c).a * (n : G2), (t6 c).b * (n : G2), (t6 c).c * (n : G2)⟩ := fun c => rfl
  rw [mul6_t, e, e, mul6_t]
  simp only [t3mul, T3.mk.injEq]
  refine ⟨?_, ?_, ?_⟩ <;> grind
theorem inv6_mul {a : F6} (h : a ≠ zero6) : mul6 a (inv6 a) = one6 := by
  unfold inv6
  rw [mul_scale6, mul_adj6]
  have h1 := inv2_mul (norm6_ne h)
  refine ext6 ?_ ?_ ?_
  · exact h1
  · show mul2 (0, 0) _ = _; rw [mul2_comm, mul2_zero]; rfl
  · show mul2 (0, 0) _ = _; rw [mul2_comm, mul2_zero]; rfl
theorem inv6_zero : inv6 zero6 = zero6 := by
  have e : adj6 zero6 = zero6 := by decide
  unfold inv6
  rw [e]
  refine ext6 ?_ ?_ ?_ <;> simp only [scale6, zero6] <;> rw [mul2_comm, mul2_zero]

/-! ### The triples are a ring -/
theorem mul6_comm (a b : F6) : mul6 a b = mul6 b a := by
  apply t6_inj; rw [mul6_t, mul6_t]; simp only [t3mul, T3.mk.injEq]; refine ⟨?_, ?_, ?_⟩ <;> grind
theorem mul6_assoc (a b c : F6) : mul6 (mul6 a b) c = mul6 a (mul6 b c) := by
  apply t6_inj; rw [mul6_t, mul6_t, mul6_t, mul6_t]; simp only [t3mul, T3.mk.injEq]; refine ⟨?_, ?_, ?_⟩ <;> grind
theorem add6_t (a b : F6) : t6 (add6 a b) = ⟨(t6 a).a + (t6 b).a, (t6 a).b + (t6 b).b, (t6 a).c + (t6 b).c⟩ := rfl
theorem mul6_add (a b c : F6) : mul6 a (add6 b c) = add6 (mul6 a b) (mul6 a c) := by
  apply t6_inj; rw [mul6_t, add6_t, add6_t, mul6_t, mul6_t]; simp only [t3mul, T3.mk.injEq]; refine ⟨?_, ?_, ?_⟩ <;> grind
theorem mul6_one (a : F6) : mul6 a one6 = a := by
  have e : (one2 : F2) = (1 : G2) := natG_one.symm
  have h : t6 one6 = ⟨(1 : G2), 0, 0⟩ := by
    show (⟨one2, (0, 0), (0, 0)⟩ : T3 G2) = _
    rw [e]; rfl
  apply t6_inj; rw [mul6_t, h]; simp only [t3mul, t6, T3.mk.injEq]; refine ⟨?_, ?_, ?_⟩ <;> grind
theorem add6_comm (a b : F6) : add6 a b = add6 b a := by refine ext6 ?_ ?_ ?_ <;> simp only [add6] <;> exact add2_comm _ _
theorem add6_assoc (a b c : F6) : add6 (add6 a b) c = add6 a (add6 b c) := by refine ext6 ?_ ?_ ?_ <;> simp only [add6] <;> exact add2_assoc _ _ _
theorem add6_zero (a : F6) : add6 a zero6 = a := by refine ext6 ?_ ?_ ?_ <;> simp only [add6, zero6] <;> exact add2_zero _
theorem mul6_zero (a : F6) : mul6 a zero6 = zero6 := by
  have h : t6 zero6 = ⟨(0 : G2), 0, 0⟩ := rfl
  apply t6_inj; rw [mul6_t, h]; simp only [t3mul, T3.mk.injEq]; refine ⟨?_, ?_, ?_⟩ <;> grind
theorem neg6_add (a : F6) : add6 (neg6 a) a = zero6 := by refine ext6 ?_ ?_ ?_ <;> simp only [add6, neg6, zero6] <;> exact neg2_add _
theorem sub6_eq (a b : F6) : sub6 a b = add6 a (neg6 b) := by refine ext6 ?_ ?_ ?_ <;> simp only [add6, neg6, sub6] <;> exact sub2_eq _ _
theorem neg6_neg (a : F6) : neg6 (neg6 a) = a := by refine ext6 ?_ ?_ ?_ <;> simp only [neg6] <;> exact neg2_neg _
theorem neg6_zero : neg6 zero6 = zero6 := by refine ext6 ?_ ?_ ?_ <;> simp only [neg6, zero6] <;> exact neg2_zero
theorem neg6_mul (a b : F6) : mul6 (neg6 a) b = neg6 (mul6 a b) := by
  have e : ∀ c : F6, t6 (neg6 c) = ⟨-(t6 c).a, -(t6 c).b, -(t6 c).c⟩ := fun c => rfl
  apply t6_inj; rw [mul6_t, e, e, mul6_t]; simp only [t3mul, T3.mk.injEq]; refine ⟨?_, ?_, ?_⟩ <;> grind

abbrev G6 := F6
def natH : Nat → G6
  | 0 => zero6
  | n + 1 => add6 (natH n) one6
def intH : Int → G6
  | .ofNat n => natH n
  | .negSucc n => neg6 (natH (n + 1))
def smulH (n : Nat) (a : G6) : G6 := mul6 (natH n) a
def zsmulH (n : Int) (a : G6) : G6 := mul6 (intH n) a
def powH (a : G6) : Nat → G6
  | 0 => one6
  | n + 1 => mul6 (powH a n) a
theorem intH_neg : ∀ i : Int, intH (-i) = neg6 (intH i)
  | .ofNat 0 => neg6_zero.symm
  | .ofNat (n + 1) => rfl
  | .negSucc n => (neg6_neg _).symm
theorem natH_one : natH 1 = one6 := by
  show add6 zero6 one6 = one6
  rw [add6_comm, add6_zero]
instance : Lean.Grind.CommRing G6 where
  add a b := add6 a b
  mul a b := mul6 a b
  natCast := ⟨natH⟩
  ofNat n := ⟨natH n⟩
  nsmul := ⟨smulH⟩
  npow := ⟨powH⟩
  neg a := neg6 a
  sub a b := sub6 a b
  intCast := ⟨intH⟩
  zsmul := ⟨zsmulH⟩
  add_zero := add6_zero
  add_comm := add6_comm
  add_assoc := add6_assoc
  mul_assoc := mul6_assoc
  mul_one := fun a => by show mul6 a (natH 1) = a; rw [natH_one]; exact mul6_one a
  one_mul := fun a => by show mul6 (natH 1) a = a; rw [natH_one, mul6_comm]; exact mul6_one a
  left_distrib := mul6_add
  right_distrib := fun a b c => by show mul6 (add6 a b) c = add6 (mul6 a c) (mul6 b c); rw [mul6_comm, mul6_add, mul6_comm c a, mul6_comm c b]
  zero_mul := fun a => by show mul6 zero6 a = zero6; rw [mul6_comm]; exact mul6_zero a
  mul_zero := mul6_zero
  pow_zero := fun a => natH_one.symm
  pow_succ := fun _ _ => rfl
  ofNat_succ := fun n => by show add6 (natH n) one6 = add6 (natH n) (natH 1); rw [natH_one]
  ofNat_eq_natCast := fun _ => rfl
  nsmul_eq_natCast_mul := fun _ _ => rfl
  neg_add_cancel := neg6_add
  sub_eq_add_neg := fun a b => sub6_eq a b
  neg_zsmul := fun i a => by show mul6 (intH (-i)) a = neg6 (mul6 (intH i) a); rw [intH_neg, neg6_mul]
  zsmul_natCast_eq_nsmul := fun _ _ => rfl
  intCast_ofNat := fun _ => rfl
  intCast_neg := fun i => intH_neg i
  mul_comm := mul6_comm

/-! ### The greatest field -/
def v6 : F6 := ((0, 0), (1, 0), (0, 0))
theorem shf6_v (a : F6) : shf6 a = mul6 a v6 := by
  have h := shf_v a
  rw [show of6 vN = v6 from by decide] at h
  exact h
def vG : G6 := v6
theorem ext12 {a b : F12} (h1 : a.1 = b.1) (h2 : a.2 = b.2) : a = b := Prod.ext h1 h2
theorem mul12_1 (a b : F12) : (mul12 a b).1 = ((a.1 : G6) * (b.1 : G6) + (a.2 : G6) * (b.2 : G6) * vG : G6) := by simp only [mul12, shf6_v]; rfl
theorem mul12_2 (a b : F12) : (mul12 a b).2 = ((a.1 : G6) * (b.2 : G6) + (a.2 : G6) * (b.1 : G6) : G6) := by
  have : (mul12 a b).2 = (((a.1 : G6) + (a.2 : G6)) * ((b.1 : G6) + (b.2 : G6)) - (a.1 : G6) * (b.1 : G6) - (a.2 : G6) * (b.2 : G6) : G6) := rfl
  rw [this]
  generalize (a.1 : G6) = A
  grind
theorem mul12_comm (a b : F12) : mul12 a b = mul12 b a := by
  refine ext12 ?_ ?_
  · simp only [mul12_1]; grind
  · simp only [mul12_2]; grind
theorem mul12_assoc (a b c : F12) : mul12 (mul12 a b) c = mul12 a (mul12 b c) := by
  refine ext12 ?_ ?_
  · simp only [mul12_1, mul12_2]; grind
  · simp only [mul12_1, mul12_2]; grind
theorem add12_1 (a b : F12) : (add12 a b).1 = ((a.1 : G6) + (b.1 : G6) : G6) := rfl
theorem add12_2 (a b : F12) : (add12 a b).2 = ((a.2 : G6) + (b.2 : G6) : G6) := rfl
theorem mul12_add (a b c : F12) : mul12 a (add12 b c) = add12 (mul12 a b) (mul12 a c) := by
  refine ext12 ?_ ?_
  · simp only [mul12_1, add12_1, add12_2]; grind
  · simp only [mul12_2, add12_1, add12_2]; grind
theorem add12_comm (a b : F12) : add12 a b = add12 b a := ext12 (add6_comm _ _) (add6_comm _ _)
theorem add12_assoc (a b c : F12) : add12 (add12 a b) c = add12 a (add12 b c) := ext12 (add6_assoc _ _ _) (add6_assoc _ _ _)
def zero12 : F12 := (zero6, zero6)
theorem add12_zero (a : F12) : add12 a zero12 = a := ext12 (add6_zero _) (add6_zero _)
theorem mul12_one (a : F12) : mul12 a one12 = a := by
  have e1 : (one12.1 : G6) = 1 := natH_one.symm
  have e2 : (one12.2 : G6) = 0 := rfl
  refine ext12 ?_ ?_
  · rw [mul12_1, e1, e2]; grind
  · rw [mul12_2, e1, e2]; grind

def norm12 (a : F12) : F6 := sub6 (mul6 a.1 a.1) (shf6 (mul6 a.2 a.2))
def inv12 (a : F12) : F12 := (mul6 a.1 (inv6 (norm12 a)), neg6 (mul6 a.2 (inv6 (norm12 a))))
theorem no_zero6 {x y : F6} (h : mul6 x y = zero6) : x = zero6 ∨ y = zero6 := by
  by_cases hx : x = zero6
  · exact .inl hx
  · right
    have h1 := inv6_mul hx
    have : y = mul6 (mul6 x (inv6 x)) y := by rw [h1, mul6_comm, mul6_one]
    rw [this, mul6_comm x, mul6_assoc, h, mul6_zero]
theorem norm12_ne {a : F12} (h : a ≠ zero12) : norm12 a ≠ zero6 := fun e => by
  have e1 : mul6 a.1 a.1 = shf6 (mul6 a.2 a.2) := by
    have h1 : ((a.1 : G6) * (a.1 : G6) - shf6 (mul6 a.2 a.2) : G6) = 0 := e
    have h2 : ((a.1 : G6) * (a.1 : G6) : G6) = shf6 (mul6 a.2 a.2) := by
      generalize (shf6 (mul6 a.2 a.2) : G6) = q at *
      grind
    exact h2
  by_cases hB : a.2 = zero6
  · rw [hB, mul6_zero, show shf6 zero6 = zero6 from by decide] at e1
    rcases no_zero6 e1 with hA | hA <;> exact h (ext12 hA hB)
  · have h1 := congrArg norm6 e1
    rw [shf6_v, norm6_mul, norm6_mul, norm6_mul] at h1
    have h2 := congrArg norm2 h1
    rw [norm2_mul, norm2_mul, norm2_mul, show norm2 (norm6 v6) = 2 from by decide] at h2
    have h3 := norm2_ne (norm6_ne hB)
    have hi := mul_invP h3
    generalize pwP (norm2 (norm6 a.2)) 4002409555221667393417789825735904156556882819939007885332058136124031650490837864442687629129015664037894272559785 = z at hi
    generalize norm2 (norm6 a.1) = x at *
    generalize norm2 (norm6 a.2) = y at *
    refine no_square (n := x * z) ?_
    have : x * z * (x * z) = (x * x) * (z * z) := by grind
    rw [this, h2]
    have : y * y * 2 * (z * z) = 2 * ((y * z) * (y * z)) := by grind
    rw [this, hi]
    grind
theorem inv12_mul {a : F12} (h : a ≠ zero12) : mul12 a (inv12 a) = one12 := by
  have h1 : ((norm12 a : G6) * (inv6 (norm12 a) : G6) : G6) = 1 := (inv6_mul (norm12_ne h)).trans natH_one.symm
  have hn : (norm12 a : G6) = (a.1 : G6) * (a.1 : G6) - (a.2 : G6) * (a.2 : G6) * vG := by
    show norm12 a = _
    simp only [norm12, shf6_v]; rfl
  have ei1 : ((inv12 a).1 : G6) = (a.1 : G6) * (inv6 (norm12 a) : G6) := rfl
  have ei2 : ((inv12 a).2 : G6) = -((a.2 : G6) * (inv6 (norm12 a) : G6)) := rfl
  generalize (inv6 (norm12 a) : G6) = z at *
  rw [hn] at h1
  have e1 : (one12.1 : G6) = 1 := natH_one.symm
  have e2 : (one12.2 : G6) = 0 := rfl
  refine ext12 ?_ ?_
  · rw [mul12_1, ei1, ei2, e1, ← h1]; grind
  · rw [mul12_2, ei1, ei2, e2]; grind
theorem inv12_zero : inv12 zero12 = zero12 := by
  unfold inv12
  refine ext12 ?_ ?_
  · show mul6 zero6 _ = zero6; rw [mul6_comm, mul6_zero]
  · show neg6 (mul6 zero6 _) = zero6; rw [mul6_comm, mul6_zero, neg6_zero]
end Go.Ev
