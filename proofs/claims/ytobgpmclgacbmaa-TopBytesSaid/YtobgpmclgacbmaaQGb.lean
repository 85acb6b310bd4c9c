/- Pruned: Gb. -/
import Derived.Test.YtobgpmclgacbmaaQHa
import Derived.Test.YtobgpmclgacbmaaQGa
/- Points of the two curves, as the program forms them: sums, doubles, multiples. Nothing here names a program. -/
set_option linter.unusedSimpArgs false
set_option linter.unusedVariables false
namespace Go.Ev
/-- A digit of four bits. -/
def dig (k i : Nat) : Nat := k / 16 ^ i % 16
theorem dig_lt (k i : Nat) : dig k i < 16 := Nat.mod_lt _ (by decide)
abbrev Pt1 := Fin Pp × Fin Pp × Fin Pp
/-- The double of a point that is not at infinity. -/
def dbl1 (p : Pt1) : Pt1 :=
  let xx := (p.1 * p.1)
  let yy := (p.2.1 * p.2.1)
  let four := (yy * yy)
  let d0 := (p.1 + yy)
  let d1 := (((d0 * d0) - xx) - four)
  let d := (d1 + d1)
  let e := ((xx + xx) + xx)
  let x := (((e * e) - d) - d)
  let e2 := (four + four)
  let e4 := (e2 + e2)
  let e8 := (e4 + e4)
  let zz := (p.2.1 * p.2.2)
  (x, ((e * (d - x)) - e8), (zz + zz))
def twc1 (p : Pt1) : Pt1 := if p.2.2 = 0 then p else dbl1 p
/-- The parts of a sum. -/
def hP1 (p q : Pt1) : Fin Pp := ((q.1 * (p.2.2 * p.2.2)) - (p.1 * (q.2.2 * q.2.2)))
def rP1 (p q : Pt1) : Fin Pp := (((q.2.1 * (p.2.2 * p.2.2)) * p.2.2) - ((p.2.1 * (q.2.2 * q.2.2)) * q.2.2))
def gen1 (p q : Pt1) : Pt1 :=
  let u := (p.1 * (q.2.2 * q.2.2))
  let s := ((p.2.1 * (q.2.2 * q.2.2)) * q.2.2)
  let h := hP1 p q
  let r := rP1 p q
  let hh := (h * h)
  let hhh := (hh * h)
  let uhh := (u * hh)
  let x := ((((r * r) - hhh) - uhh) - uhh)
  (x, ((r * (uhh - x)) - (s * hhh)), ((h * p.2.2) * q.2.2))
def sum1 (p q : Pt1) : Pt1 :=
  if p.2.2 = 0 then q else if q.2.2 = 0 then p else
  if hP1 p q = 0 then (if rP1 p q = 0 then twc1 p else (p.1, p.2.1, 0)) else gen1 p q
/-- The multiples up to 15. -/
def tab1 (p : Pt1) : Nat → Pt1
  | 0 => (p.1, p.2.1, 0)
  | n + 1 => sum1 (tab1 p n) p
/-- The multiple with the first n digits of a number of 64 of them. -/
def man1 (p : Pt1) (k : Nat) : Nat → Pt1
  | 0 => (p.1, p.2.1, 0)
  | n + 1 => sum1 (twc1 (twc1 (twc1 (twc1 (man1 p k n))))) (tab1 p (dig k (63 - n)))
theorem twc1_inf (p : Pt1) (h : p.2.2 = 0) : twc1 p = p := by unfold twc1; rw [if_pos h]
theorem sum1_inf (p q : Pt1) (h : p.2.2 = 0) : sum1 p q = q := by unfold sum1; rw [if_pos h]
/-- As long as the digits are 0, nothing comes of them. -/
theorem man1_none (p : Pt1) (k : Nat) : ∀ n, (∀ j, j < n → dig k (63 - j) = 0) → man1 p k n = (p.1, p.2.1, 0)
  | 0, _ => rfl
  | n + 1, h => by
    have ih := man1_none p k n (fun j hj => h j (by omega))
    show sum1 (twc1 (twc1 (twc1 (twc1 (man1 p k n))))) (tab1 p (dig k (63 - n))) = _
    rw [ih, h n (by omega), twc1_inf _ rfl, twc1_inf _ rfl, twc1_inf _ rfl, twc1_inf _ rfl, sum1_inf _ _ rfl]
    rfl
abbrev Pt2 := F2 × F2 × F2
/-- The double of a point that is not at infinity. -/
def dbl2 (p : Pt2) : Pt2 :=
  let xx := (mul2 p.1 p.1)
  let yy := (mul2 p.2.1 p.2.1)
  let four := (mul2 yy yy)
  let d0 := (add2 p.1 yy)
  let d1 := (sub2 (sub2 (mul2 d0 d0) xx) four)
  let d := (add2 d1 d1)
  let e := (add2 (add2 xx xx) xx)
  let x := (sub2 (sub2 (mul2 e e) d) d)
  let e2 := (add2 four four)
  let e4 := (add2 e2 e2)
  let e8 := (add2 e4 e4)
  let zz := (mul2 p.2.1 p.2.2)
  (x, (sub2 (mul2 e (sub2 d x)) e8), (add2 zz zz))
def twc2 (p : Pt2) : Pt2 := if p.2.2 = ((0, 0) : F2) then p else dbl2 p
/-- The parts of a sum. -/
def hP2 (p q : Pt2) : F2 := (sub2 (mul2 q.1 (mul2 p.2.2 p.2.2)) (mul2 p.1 (mul2 q.2.2 q.2.2)))
def rP2 (p q : Pt2) : F2 := (sub2 (mul2 (mul2 q.2.1 (mul2 p.2.2 p.2.2)) p.2.2) (mul2 (mul2 p.2.1 (mul2 q.2.2 q.2.2)) q.2.2))
def gen2 (p q : Pt2) : Pt2 :=
  let u := (mul2 p.1 (mul2 q.2.2 q.2.2))
  let s := (mul2 (mul2 p.2.1 (mul2 q.2.2 q.2.2)) q.2.2)
  let h := hP2 p q
  let r := rP2 p q
  let hh := (mul2 h h)
  let hhh := (mul2 hh h)
  let uhh := (mul2 u hh)
  let x := (sub2 (sub2 (sub2 (mul2 r r) hhh) uhh) uhh)
  (x, (sub2 (mul2 r (sub2 uhh x)) (mul2 s hhh)), (mul2 (mul2 h p.2.2) q.2.2))
def sum2 (p q : Pt2) : Pt2 :=
  if p.2.2 = ((0, 0) : F2) then q else if q.2.2 = ((0, 0) : F2) then p else
  if hP2 p q = ((0, 0) : F2) then (if rP2 p q = ((0, 0) : F2) then twc2 p else (p.1, p.2.1, ((0, 0) : F2))) else gen2 p q
/-- The multiples up to 15. -/
def tab2 (p : Pt2) : Nat → Pt2
  | 0 => (p.1, p.2.1, ((0, 0) : F2))
  | n + 1 => sum2 (tab2 p n) p
/-- The multiple with the first n digits of a number of 64 of them. -/
def man2 (p : Pt2) (k : Nat) : Nat → Pt2
  | 0 => (p.1, p.2.1, ((0, 0) : F2))
  | n + 1 => sum2 (twc2 (twc2 (twc2 (twc2 (man2 p k n))))) (tab2 p (dig k (63 - n)))
/-- Has a digit come that is not 0? -/
def bgn (k n : Nat) : Bool := decide (k / 16 ^ (64 - n) ≠ 0)
theorem bgn_zero {k : Nat} (h : k < 115792089237316195423570985008687907853269984665640564039457584007913129639936) : bgn k 0 = false := by
  unfold bgn
  rw [Nat.sub_zero, Nat.div_eq_of_lt (by simpa using h)]
  rfl
theorem bgn_step (k n : Nat) (h : n < 64) : bgn k (n + 1) = (bgn k n || decide (dig k (63 - n) ≠ 0)) := by
  unfold bgn dig
  have e : 64 - n = (64 - (n + 1)) + 1 := by omega
  rw [e, Nat.pow_succ, ← Nat.div_div_eq_div_mul, show 63 - n = 64 - (n + 1) by omega]
  generalize k / 16 ^ (64 - (n + 1)) = y
  by_cases h0 : y / 16 = 0
  · by_cases h1 : y % 16 = 0
    · have : y = 0 := by omega
      subst this; rfl
    · have : y ≠ 0 := by omega
      simp [h0, h1, this]
  · have : y ≠ 0 := by omega
    simp [h0, this]
theorem bgn_not {k : Nat} (hk : k < 115792089237316195423570985008687907853269984665640564039457584007913129639936) : ∀ n, n ≤ 64 → bgn k n = false → ∀ j, j < n → dig k (63 - j) = 0
  | 0, _, _, j, hj => by omega
  | n + 1, hn, h, j, hj => by
    rw [bgn_step k n (by omega)] at h
    simp only [Bool.or_eq_false_iff] at h
    by_cases e : j = n
    · subst e
      have := h.2
      simpa using this
    · exact bgn_not hk n (by omega) h.1 j (by omega)
theorem dq_div (i : Nat) (hi : i < 64) : IntKind.i64.wrap ((((i + 1 : Nat) : Int) - 1).tdiv 16) = ((i / 16 : Nat) : Int) ∧ i / 16 < 4 := by
  refine ⟨?_, by omega⟩
  rw [show (((i + 1 : Nat) : Int) - 1) = ((i : Nat) : Int) by omega, Int.tdiv_eq_ediv_of_nonneg (by omega), wrap_i64]
  omega
theorem dq_mod (i : Nat) : IntKind.i64.wrap (4 * (((i + 1 : Nat) : Int) - 1).tmod 16) = ((4 * (i % 16) : Nat) : Int) ∧ 4 * (i % 16) < 64 := by
  refine ⟨?_, by omega⟩
  rw [show (((i + 1 : Nat) : Int) - 1) = ((i : Nat) : Int) by omega, Int.tmod_eq_emod_of_nonneg (by omega), wrap_i64]
  omega
theorem dq_dig (k i : Nat) : IntKind.i64.wrap (((k / 18446744073709551616 ^ (0 + i / 16 * 1) % 18446744073709551616 / 2 ^ (4 * (i % 16)) % 18446744073709551616 &&& 15) % 18446744073709551616 : Nat) : Int) = ((dig k i : Nat) : Int) := by
  have e : (k / 18446744073709551616 ^ (0 + i / 16 * 1) % 18446744073709551616 / 2 ^ (4 * (i % 16)) % 18446744073709551616 &&& 15) = dig k i := by
    rw [show (15 : Nat) = 2 ^ 4 - 1 from rfl, Nat.and_two_pow_sub_one_eq_mod, Nat.zero_add, Nat.mul_one]
    unfold dig
    have e1 : (18446744073709551616 : Nat) ^ (i / 16) = 2 ^ (64 * (i / 16)) := by rw [Nat.pow_mul]
    have hs : 4 * (i % 16) + 4 ≤ 64 := by omega
    have e2 : (18446744073709551616 : Nat) = 2 ^ (4 * (i % 16)) * 2 ^ (64 - 4 * (i % 16)) := by rw [← Nat.pow_add, show 4 * (i % 16) + (64 - 4 * (i % 16)) = 64 by omega]
    rw [e1]
    generalize hy : k / 2 ^ (64 * (i / 16)) = y
    have e3 : y % 18446744073709551616 / 2 ^ (4 * (i % 16)) = y / 2 ^ (4 * (i % 16)) % 2 ^ (64 - 4 * (i % 16)) := by
      rw [e2, Nat.mod_mul_right_div_self]
    rw [e3]
    have h1 : (2 : Nat) ^ 4 ∣ 2 ^ (64 - 4 * (i % 16)) := Nat.pow_dvd_pow 2 (by omega)
    have h2 : (2 : Nat) ^ (64 - 4 * (i % 16)) ∣ 18446744073709551616 := by
      rw [show (18446744073709551616 : Nat) = 2 ^ 64 from rfl]; exact Nat.pow_dvd_pow 2 (by omega)
    rw [Nat.mod_mod_of_dvd _ (Nat.dvd_trans h1 h2), Nat.mod_mod_of_dvd _ h1, ← hy, Nat.div_div_eq_div_mul, ← Nat.pow_add]
    rw [show (16 : Nat) ^ i = 2 ^ (4 * i) by rw [Nat.pow_mul], show 64 * (i / 16) + 4 * (i % 16) = 4 * i by omega]
  rw [e, wrap_i64]
  have := dig_lt k i
  omega
theorem drop_flatMap {α : Type} (f : Nat → List α) (m : Nat) (hf : ∀ j, (f j).length = m) : ∀ (n j : Nat), j < n → (((List.range n).flatMap f).drop (j * m)).take m = f j := by
  have key : ∀ (n s j : Nat), j < n → (((List.range' s n).flatMap f).drop (j * m)).take m = f (s + j) := by
    intro n
    induction n with
    | zero => intro s j h; omega
    | succ n ih =>
      intro s j h
      rw [List.range'_succ, List.flatMap_cons]
      cases j with
      | zero => rw [Nat.zero_mul, List.drop_zero, ← hf s, List.take_left]; rfl
      | succ j =>
        rw [show (j + 1) * m = (f s).length + j * m by rw [hf, Nat.succ_mul, Nat.add_comm], ← List.drop_drop, List.drop_left, ih (s + 1) j (by omega)]
        congr 1
        omega
  intro n j h
  rw [List.range_eq_range', key n 0 j h, Nat.zero_add]
end Go.Ev

/- Points as the program's layers read them: what may be, what is of the group. Nothing here names a program. -/
set_option linter.unusedSimpArgs false
set_option linter.unusedVariables false
namespace Go.Ev
def parB : Par Bool where
  p l := match l with | .c (.bool b) :: r => some (b, r) | _ => none
  c b := [.c (.bool b)]
  pure _ := rfl
  ok l x r h := by
    split at h
    · simp only [Option.some.injEq, Prod.mk.injEq] at h; obtain ⟨rfl, rfl⟩ := h; simp [flat, Ch.cells]
    · cases h
abbrev A1 := Nat × Nat × Bool
abbrev A2 := N2 × N2 × Bool
def parA1 : Par A1 := parN6.pair (parN6.pair parB)
def parA2 : Par A2 := parN2.pair (parN2.pair parB)
def sml1 (a : A1) : Prop := small a.1 ∧ small a.2.1
def sml2 (a : A2) : Prop := small2 a.1 ∧ small2 a.2.1
def is1 (x : Nat) : Prop := x < Pp
def is2 (x : N2) : Prop := x.1 < Pp ∧ x.2 < Pp
instance (x : Nat) : Decidable (is1 x) := inferInstanceAs (Decidable (_ < _))
instance (x : N2) : Decidable (is2 x) := inferInstanceAs (Decidable (_ ∧ _))
/-- What a point's second coordinate is the root of. -/
def rhs1 (x : Fin Pp) : Fin Pp := x * x * x + ofP 4
def rhs2 (x : F2) : F2 := add2 (mul2 (mul2 x x) x) (ofP 4, ofP 4)
def in1 (a : A1) : Pt1 := if a.2.2 = true then (1, 1, 0) else (ofP a.1, ofP a.2.1, 1)
def in2 (a : A2) : Pt2 := if a.2.2 = true then ((1, 0), (1, 0), (0, 0)) else (of2 a.1, of2 a.2.1, (1, 0))
def may1 (a : A1) : Prop := if a.2.2 = true then a.1 = 0 ∧ a.2.1 = 0 else is1 a.1 ∧ is1 a.2.1 ∧ ofP a.2.1 * ofP a.2.1 = rhs1 (ofP a.1)
def may2 (a : A2) : Prop := if a.2.2 = true then a.1 = (0, 0) ∧ a.2.1 = (0, 0) else is2 a.1 ∧ is2 a.2.1 ∧ mul2 (of2 a.2.1) (of2 a.2.1) = rhs2 (of2 a.1)
instance (a : A1) : Decidable (may1 a) := by unfold may1; infer_instance
instance (a : A2) : Decidable (may2 a) := by unfold may2; infer_instance
def grp1 (a : A1) : Prop := (man1 (in1 a) Rr 64).2.2 = 0
def grp2 (a : A2) : Prop := (man2 (in2 a) Rr 64).2.2 = ((0, 0) : F2)
instance (a : A1) : Decidable (grp1 a) := by unfold grp1; infer_instance
instance (a : A2) : Decidable (grp2 a) := by unfold grp2; infer_instance
theorem flat_is1 {x : Nat} (hx : small x) : flat [.q (ofP x)] = flat [.n 6 x] ↔ is1 x := by
  constructor
  · intro e
    have h1 := limbs_inj 6 (ofP x).val x (Nat.lt_trans (ofP x).isLt (by decide)) (show x < 18446744073709551616 ^ 6 by have h : x < 39402006196394479212279040100143613805079739270465446667948293404245721771497210611414266254884915640806627990306816 := hx; simpa using h) (by simpa [flat, Ch.cells] using e)
    have h2 := (ofP x).isLt
    rw [h1] at h2
    exact h2
  · intro h
    simp only [flat, Ch.cells]
    rw [show (ofP x).val = x from Nat.mod_eq_of_lt h]
/-- Lists of numbers are told apart by their limbs. -/
theorem flat_ns : ∀ (l m : List Nat), l.length = m.length → (∀ x, x ∈ l → small x) → (∀ x, x ∈ m → small x) → ∀ r s, flat (l.map (.n 6) ++ r) = flat (m.map (.n 6) ++ s) → l = m ∧ flat r = flat s
  | [], [], _, _, _, _, _, e => ⟨rfl, e⟩
  | [], _ :: _, h, _, _, _, _, _ => by simp at h
  | _ :: _, [], h, _, _, _, _, _ => by simp at h
  | x :: l, y :: m, h, hl, hm, r, s, e => by
    have e' : limbs 6 x ++ flat (l.map (.n 6) ++ r) = limbs 6 y ++ flat (m.map (.n 6) ++ s) := e
    have h1 := List.append_inj e' (by simp only [limbs, List.length_cons, List.length_nil])
    have hx : x < 18446744073709551616 ^ 6 := by have h : x < 39402006196394479212279040100143613805079739270465446667948293404245721771497210611414266254884915640806627990306816 := hl x (by simp); simpa using h
    have hy : y < 18446744073709551616 ^ 6 := by have h : y < 39402006196394479212279040100143613805079739270465446667948293404245721771497210611414266254884915640806627990306816 := hm y (by simp); simpa using h
    have h2 := limbs_inj 6 x y hx hy h1.1
    have h3 := flat_ns l m (by simpa using h) (fun x hx => hl x (by simp [hx])) (fun x hx => hm x (by simp [hx])) r s h1.2
    exact ⟨by rw [h2, h3.1], h3.2⟩
theorem small_0 : small 0 := by unfold small; decide
theorem small_q (x : Fin Pp) : small x.val := Nat.lt_trans x.isLt (by decide)
def z6 : List Ch := [.c (.int .u64 0), .c (.int .u64 0), .c (.int .u64 0), .c (.int .u64 0), .c (.int .u64 0), .c (.int .u64 0)]
theorem flat_inf1 {x y : Nat} (hx : small x) (hy : small y) (b : Bool) : flat [.n 6 x, .n 6 y, .c (.bool b)] = flat (z6 ++ z6 ++ [.c (.bool b)]) ↔ x = 0 ∧ y = 0 := by
  have e : flat (z6 ++ z6 ++ [.c (.bool b)]) = flat ([0, 0].map (.n 6) ++ [.c (.bool b)]) := rfl
  rw [e]
  constructor
  · intro h
    have := (flat_ns [x, y] [0, 0] rfl (by simp [hx, hy]) (by simp [small_0]) [.c (.bool b)] [.c (.bool b)] h).1
    simpa using this
  · rintro ⟨rfl, rfl⟩; rfl
theorem flat_inf2 {x y : N2} (hx : small2 x) (hy : small2 y) (b : Bool) : flat [.n 6 x.1, .n 6 x.2, .n 6 y.1, .n 6 y.2, .c (.bool b)] = flat (z6 ++ z6 ++ z6 ++ z6 ++ [.c (.bool b)]) ↔ x = (0, 0) ∧ y = (0, 0) := by
  have e : flat (z6 ++ z6 ++ z6 ++ z6 ++ [.c (.bool b)]) = flat ([0, 0, 0, 0].map (.n 6) ++ [.c (.bool b)]) := rfl
  rw [e]
  obtain ⟨x1, x2⟩ := x
  obtain ⟨y1, y2⟩ := y
  constructor
  · intro h
    have := (flat_ns [x1, x2, y1, y2] [0, 0, 0, 0] rfl (by simp [hx.1, hx.2, hy.1, hy.2]) (by simp [small_0]) [.c (.bool b)] [.c (.bool b)] h).1
    simp only [List.cons.injEq, and_true] at this
    exact ⟨by rw [this.1, this.2.1], by rw [this.2.2.1, this.2.2.2]⟩
  · rintro ⟨h1, h2⟩
    simp only [Prod.mk.injEq] at h1 h2
    rw [h1.1, h1.2, h2.1, h2.2]; rfl
theorem flat_is2 {x : N2} (hx : small2 x) : flat [.q (of2 x).1, .q (of2 x).2] = flat [.n 6 x.1, .n 6 x.2] ↔ is2 x := by
  constructor
  · intro e
    have := (flat_ns [(of2 x).1.val, (of2 x).2.val] [x.1, x.2] rfl (by simp [small_q]) (by simp [hx.1, hx.2]) [] [] e).1
    simp only [List.cons.injEq, and_true] at this
    exact ⟨by rw [← this.1]; exact (of2 x).1.isLt, by rw [← this.2]; exact (of2 x).2.isLt⟩
  · intro h
    have e1 : (of2 x).1.val = x.1 := Nat.mod_eq_of_lt h.1
    have e2 : (of2 x).2.val = x.2 := Nat.mod_eq_of_lt h.2
    simp only [flat, Ch.cells, e1, e2]
end Go.Ev

/- Bytes of numbers, the highest first, and back. Nothing here names a program. -/
set_option linter.unusedSimpArgs false
set_option linter.unusedVariables false
namespace Go.Ev
def beL : Nat → Nat → List UInt8
  | 0, _ => []
  | n + 1, x => UInt8.ofNat (x / 256 ^ n % 256) :: beL n x
theorem beL_length : ∀ n x, (beL n x).length = n
  | 0, _ => rfl
  | n + 1, x => by simp [beL, beL_length n x]
theorem beL_range (x : Nat) : ∀ n, beL n x = (List.range n).map (fun k => UInt8.ofNat (x / 256 ^ (n - 1 - k) % 256))
  | 0 => rfl
  | n + 1 => by
    rw [List.range_succ_eq_map, List.map_cons, List.map_map]
    show UInt8.ofNat (x / 256 ^ n % 256) :: beL n x = _
    rw [beL_range x n]
    congr 1
    refine List.map_congr_left fun k _ => ?_
    simp only [Function.comp]
    rw [show n + 1 - 1 - (k + 1) = n - 1 - k by omega]
/-- A byte of a string; 0 behind it. -/
def byt (l : List UInt8) (i : Nat) : Nat := ((ofL l)[i]?.getD 0).toNat
theorem byt_lt (l : List UInt8) (i : Nat) : byt l i < 256 := UInt8.toNat_lt _
theorem ofL_get (l : List UInt8) (i : Nat) : (ofL l)[i]? = l[i]? := by
  by_cases h : i < l.length
  · have h' : i < (ofL l).size := h
    rw [ByteArray.getElem?_lt' _ _ h', List.getElem?_eq_getElem h]
    rfl
  · have h' : ¬ i < (ofL l).size := h
    rw [List.getElem?_eq_none (by omega)]
    exact getElem?_neg _ _ h'
theorem byt_get (l : List UInt8) (i : Nat) : byt l i = ((l[i]?).getD 0).toNat := by unfold byt; rw [ofL_get]
/-- The number that m bytes from k times 8 on make. -/
def pre (l : List UInt8) (k : Nat) : Nat → Nat
  | 0 => 0
  | m + 1 => pre l k m * 256 + byt l (8 * k + m)
theorem pre_lt (l : List UInt8) (k : Nat) : ∀ m, pre l k m < 256 ^ m
  | 0 => by simp [pre]
  | m + 1 => by
    have h1 := pre_lt l k m
    have h2 := byt_lt l (8 * k + m)
    rw [Nat.pow_succ]
    simp only [pre]
    omega
theorem pre_join (l : List UInt8) (k : Nat) : ∀ m, pre l 0 (8 * k + m) = pre l 0 (8 * k) * 256 ^ m + pre l k m
  | 0 => by simp [pre]
  | m + 1 => by
    rw [← Nat.add_assoc]
    simp only [pre]
    rw [pre_join l k m, Nat.pow_succ, Nat.zero_add, Nat.add_mul, Nat.mul_assoc]
    omega
theorem pre_eight (l : List UInt8) (k : Nat) : pre l 0 (8 * (k + 1)) = pre l 0 (8 * k) * 18446744073709551616 + pre l k 8 := by
  rw [show 8 * (k + 1) = 8 * k + 8 by omega, pre_join]
/-- The number of a string of so many bytes. -/
def deN (n : Nat) (l : List UInt8) : Nat := pre l 0 n
theorem deN_lt (n : Nat) (l : List UInt8) : deN n l < 256 ^ n := pre_lt l 0 n
theorem byt_be (n x k : Nat) (h : k < n) : byt (beL n x) k = x / 256 ^ (n - 1 - k) % 256 := by
  rw [byt_get, beL_range, List.getElem?_map, List.getElem?_range h]
  simp
theorem pre_be (n x : Nat) (hx : x < 256 ^ n) : ∀ m, m ≤ n → pre (beL n x) 0 m = x / 256 ^ (n - m)
  | 0, _ => by simp only [pre, Nat.sub_zero]; rw [Nat.div_eq_of_lt hx]
  | m + 1, h => by
    simp only [pre, Nat.mul_zero, Nat.zero_add]
    rw [pre_be n x hx m (by omega), byt_be n x m (by omega), show n - m = (n - (m + 1)) + 1 by omega, show n - 1 - m = n - (m + 1) by omega, Nat.pow_succ, ← Nat.div_div_eq_div_mul]
    omega
theorem de_be (n x : Nat) (hx : x < 256 ^ n) : deN n (beL n x) = x := by
  unfold deN
  rw [pre_be n x hx n (Nat.le_refl _), Nat.sub_self, Nat.pow_zero, Nat.div_one]

/-! ### One byte of a limb -/
theorem limb_byte (x i s : Nat) (hs : s + 8 ≤ 64) : x / 18446744073709551616 ^ i % 18446744073709551616 / 2 ^ s % 256 = x / 2 ^ (64 * i + s) % 256 := by
  have e1 : (18446744073709551616 : Nat) ^ i = 2 ^ (64 * i) := by rw [Nat.pow_mul]
  have e2 : (18446744073709551616 : Nat) = 2 ^ s * 2 ^ (64 - s) := by rw [← Nat.pow_add, show s + (64 - s) = 64 by omega]
  rw [e1]
  generalize hy : x / 2 ^ (64 * i) = y
  rw [e2, Nat.mod_mul_right_div_self, Nat.mod_mod_of_dvd _ (show (256 : Nat) ∣ 2 ^ (64 - s) from by
    rw [show (256 : Nat) = 2 ^ 8 from rfl]; exact Nat.pow_dvd_pow 2 (by omega)), ← hy, Nat.div_div_eq_div_mul, ← Nat.pow_add]
theorem wrap_u8 (n : Int) : IntKind.u8.wrap n = n % 256 := by
  simp [IntKind.wrap, IntKind.signed, IntKind.bits]
theorem byte_put (x i s : Nat) (hs : s + 8 ≤ 64) : (IntKind.u8.wrap ((x / 18446744073709551616 ^ i % 18446744073709551616 / 2 ^ min s 64 % 18446744073709551616 : Nat) : Int)).toNat = x / 2 ^ (64 * i + s) % 256 := by
  rw [wrap_u8, Nat.min_eq_left (by omega), ← limb_byte x i s hs]
  have h1 : x / 18446744073709551616 ^ i % 18446744073709551616 < 18446744073709551616 := Nat.mod_lt _ (by decide)
  have h2 := Nat.div_le_self (x / 18446744073709551616 ^ i % 18446744073709551616) (2 ^ s)
  generalize x / 18446744073709551616 ^ i % 18446744073709551616 / 2 ^ s = z at *
  omega
theorem two_pow_256 (k : Nat) : 2 ^ (8 * k) = 256 ^ k := by rw [Nat.pow_mul]

/-! ### Limbs out of bytes -/
theorem or_byte (a b : Nat) (ha : a < 72057594037927936) (hb : b < 256) : (a * 256 % 18446744073709551616 ||| b % 18446744073709551616) % 18446744073709551616 = (a * 256 + b) % 18446744073709551616 := by
  have h1 : a * 256 % 18446744073709551616 = a * 256 := Nat.mod_eq_of_lt (by omega)
  have h2 : b % 18446744073709551616 = b := Nat.mod_eq_of_lt (by omega)
  rw [h1, h2]
  have h3 : a * 256 ||| b = a * 256 + b := by
    have := Nat.shiftLeft_add_eq_or_of_lt (i := 8) (b := b) (by omega) a
    rw [Nat.shiftLeft_eq] at this
    exact this.symm
  rw [h3]
theorem pre_or (l : List UInt8) (k m : Nat) (hm : m < 8) : (pre l k m * 2 ^ min 8 64 % 18446744073709551616 ||| byt l (8 * k + m) % 18446744073709551616) % 18446744073709551616 = pre l k (m + 1) % 18446744073709551616 := by
  have h1 := pre_lt l k m
  have h2 : 256 ^ m ≤ 256 ^ 7 := Nat.pow_le_pow_right (by decide) (by omega)
  exact or_byte _ _ (Nat.lt_of_lt_of_le h1 h2) (byt_lt _ _)
theorem pre_or0 (l : List UInt8) (k : Nat) : (0 ||| byt l (8 * k + 0) % 18446744073709551616) % 18446744073709551616 = pre l k 1 % 18446744073709551616 := by
  simp [pre]
theorem conv_byte (l : List UInt8) (i : Nat) : IntKind.u64 = IntKind.u64 ∧ IntKind.u64.wrap ((byt l i : Nat) : Int) = ((byt l i % 18446744073709551616 : Nat) : Int) := ⟨rfl, by rw [wrap_u64]; omega⟩
theorem read_byte (l : List UInt8) (n i : Nat) (h : l.length = n) (hi : i < n) : (0 : Int) ≤ (i : Int) ∧ (i : Int) < (ofL l).size ∧ ((ofL l)[(i : Int).toNat]?.getD 0).toNat = byt l i := ⟨by omega, by show (i : Int) < (l.length : Int); omega, rfl⟩
def lookL : List Nat → Nat → Bool
  | [], _ => false
  | a :: l, i => match Nat.beq i a with | true => true | false => lookL l i
/-- The choice of this number. -/
def selO : List Ora → Nat → Ora
  | [], _ => { ch := 0, hi := fun _ => 0 }
  | a :: l, i => match Nat.beq i 0 with | true => a | false => selO l (i - 1)
/-- A string as an argument. -/
def XPar.str : XPar (List UInt8) where
  p v := match v with
    | .t (.v (.string s)) => some s.data.toList
    | _ => none
  c l := .t (.v (.string (ofL l)))
  ok v x h w y hy := by
    split at h
    · rename_i s
      simp only [Option.some.injEq] at h; subst h
      have e : ofL s.data.toList = s := by unfold ofL; rw [Array.toArray_toList]
      rw [e]; exact hy
    · cases h
end Go.Ev

/- Points as bytes. Nothing here names a program. -/
set_option linter.unusedSimpArgs false
set_option linter.unusedVariables false
namespace Go.Ev
open Go.RowKit
instance (x : Fin Pp) : Decidable (hiP x) := inferInstanceAs (Decidable (_ < _))
instance (x : F2) : Decidable (hi2 x) := by unfold hi2; infer_instance
def flgI (l : List UInt8) (f : Int) : List UInt8 :=
  match l with
  | b :: r => UInt8.ofNat (bits BinOp.or IntKind.u8 (b.toNat : Int) f).toNat :: r
  | [] => []
def b1 (x : Fin Pp) : List UInt8 := beL 48 x.val
def b2 (x : F2) : List UInt8 := beL 48 x.2.val ++ beL 48 x.1.val
theorem b1_length (x : Fin Pp) : (b1 x).length = 48 := beL_length _ _
/-- The flags: 64 at infinity, 128 in short, 32 high. -/
def flagI (inf high short : Bool) : Int :=
  match inf, high, short with
  | false, _, false => 0
  | true, _, false => 64
  | false, false, true => 128
  | false, true, true => 160
  | true, false, true => 192
  | true, true, true => 224
def putL1 (x y : Fin Pp) (inf short : Bool) : List UInt8 := flgI (match short with | true => b1 x | false => b1 x ++ b1 y) (flagI inf (decide (hiP y)) short)
theorem b1_head (x : Fin Pp) : ∃ b r, b1 x = b :: r ∧ b.toNat < 32 := by
  refine ⟨UInt8.ofNat (x.val / 256 ^ 47 % 256), beL 47 x.val, rfl, ?_⟩
  have h1 : x.val / 256 ^ 47 < 32 := Nat.div_lt_of_lt_mul (Nat.lt_trans x.isLt (by decide +kernel))
  rw [UInt8.toNat_ofNat']
  omega
def top3 (l : List UInt8) : Nat := match l with | b :: _ => b.toNat / 32 | [] => 0
def maskL (l : List UInt8) : List UInt8 := match l with | b :: r => UInt8.ofNat (b.toNat % 32) :: r | [] => []
def allZ (l : List UInt8) : Prop := ∀ b, b ∈ l → b = 0
def XPar.bool : XPar Bool where
  p v := match v with
    | .t (.v (.bool b)) => some b
    | _ => none
  c b := .t (.v (.bool b))
  ok v x h w y hy := by
    split at h
    · simp only [Option.some.injEq] at h; subst h; exact hy
    · cases h
variable {P : Program}
end Go.Ev

/- The generators are of the groups. Nothing here names a program. -/
set_option linter.unusedVariables false
namespace Go.Ev
def g1x : Nat := 3685416753713387016781088315183077757961620795782546409894578378688607592378376318836054947676345821548104185464507
def g1y : Nat := 1339506544944476473020471379941921221584933875938349620426543736416511423956333506472724655353366534992391756441569
def g2xa : Nat := 352701069587466618187139116011060144890029952792775240219908644239793785735715026873347600343865175952761926303160
def g2xb : Nat := 3059144344244213709971259814753781636986470325476647558659373206291635324768958432433509563104347017837885763365758
def g2ya : Nat := 1985150602287291935568054521177171638300868978215655730859378665066344726373823718423869104263333984641494340347905
def g2yb : Nat := 927553665492332455747201965776037880757740193453592970025027978793976877002675564980949289727957565575433344219582
def genP1 : Pt1 := (ofP g1x, ofP g1y, 1)
theorem gen1_grp : (man1 genP1 52435875175126190479447740508185965837690552500527637822603658699938581184513 64).2.2 = 0 := by decide +kernel
end Go.Ev

/- What is put is got again (draft). Nothing here names a program. -/
set_option linter.unusedSimpArgs false
set_option linter.unusedVariables false
namespace Go.Ev
open Go.RowKit
/-- The first byte with its flags: the flags are the top three bits. -/
theorem flag_top (i h s : Bool) : ∀ b : Fin 32, (UInt8.ofNat (bits BinOp.or IntKind.u8 (b.val : Int) (flagI i h s)).toNat).toNat / 32 = (flagI i h s).toNat / 32 ∧ (UInt8.ofNat (bits BinOp.or IntKind.u8 (b.val : Int) (flagI i h s)).toNat).toNat % 32 = b.val := by
  cases i <;> cases h <;> cases s <;> decide +kernel
theorem put_top (b : UInt8) (r : List UInt8) (hb : b.toNat < 32) (i h s : Bool) : top3 (flgI (b :: r) (flagI i h s)) = (flagI i h s).toNat / 32 ∧ maskL (flgI (b :: r) (flagI i h s)) = b :: r := by
  obtain ⟨h1, h2⟩ := flag_top i h s ⟨b.toNat, hb⟩
  refine ⟨h1, ?_⟩
  show UInt8.ofNat ((UInt8.ofNat (bits BinOp.or IntKind.u8 (b.toNat : Int) (flagI i h s)).toNat).toNat % 32) :: r = b :: r
  rw [show (UInt8.ofNat (bits BinOp.or IntKind.u8 (b.toNat : Int) (flagI i h s)).toNat).toNat % 32 = b.toNat from h2]
  simp
theorem flg_length (l : List UInt8) (f : Int) : (flgI l f).length = l.length := by
  match l with
  | [] => rfl
  | b :: r => rfl
def body1 (x y : Fin Pp) (s : Bool) : List UInt8 := match s with | true => b1 x | false => b1 x ++ b1 y
def body2 (x y : F2) (s : Bool) : List UInt8 := match s with | true => b2 x | false => b2 x ++ b2 y
theorem put1_head (x y : Fin Pp) (i s : Bool) : top3 (putL1 x y i s) = (flagI i (decide (hiP y)) s).toNat / 32 ∧ maskL (putL1 x y i s) = body1 x y s := by
  obtain ⟨b, r, e, hb⟩ := b1_head x
  unfold putL1 body1
  rw [e]
  cases s
  · exact put_top b (r ++ b1 y) hb _ _ _
  · exact put_top b r hb _ _ _
theorem put1_length (x y : Fin Pp) (i s : Bool) : (putL1 x y i s).length = match s with | true => 48 | false => 96 := by
  unfold putL1
  rw [flg_length]
  cases s
  · show (b1 x ++ b1 y).length = 96
    rw [List.length_append, b1_length, b1_length]
  · exact b1_length x
theorem de_b1 (x : Fin Pp) : deN 48 (b1 x) = x.val := de_be 48 x.val (Nat.lt_trans x.isLt (by decide +kernel))
theorem take_b1 (x : Fin Pp) (r : List UInt8) : (b1 x ++ r).take 48 = b1 x := by rw [List.take_append_of_le_length (by rw [b1_length]; decide), List.take_of_length_le (by rw [b1_length]; decide)]
theorem drop_b1 (x : Fin Pp) (r : List UInt8) : (b1 x ++ r).drop 48 = r := by
  have := List.drop_left (l₁ := b1 x) (l₂ := r)
  rwa [b1_length] at this
theorem take_b1' (x : Fin Pp) : (b1 x).take 48 = b1 x := List.take_of_length_le (by rw [b1_length]; decide)
end Go.Ev
