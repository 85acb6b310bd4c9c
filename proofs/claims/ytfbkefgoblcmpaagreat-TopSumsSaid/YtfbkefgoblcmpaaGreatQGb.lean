/- Pruned: Gb. -/
import Derived.Test.YtfbkefgoblcmpaaGreatQHa
import Derived.Test.YtfbkefgoblcmpaaGreatQGa
set_option linter.unusedSimpArgs false
set_option linter.unusedVariables false
namespace Go.Ev
def dig (k i : Nat) : Nat := k / 16 ^ i % 16
theorem wP (k i : Nat) : dig k i < 16 := Nat.mod_lt _ (by decide)
abbrev Pt1 := Fin Pp × Fin Pp × Fin Pp
def dbl1 (p : Pt1) : Pt1 :=
 let xx := (p.1 * p.1)
 let yy := (p.2.1 * p.2.1)
 let four := (yy * yy)
 let d0 := (p.1 + yy)
 let d1 := (((d0 * d0) - xx) - four)
 let d := (d1 + d1)
 let e := ((xx + xx) + xx)
 let x := (((e * e) - d) - d)
 let e2 := (four + four)
 let e4 := (e2 + e2)
 let e8 := (e4 + e4)
 let zz := (p.2.1 * p.2.2)
 (x, ((e * (d - x)) - e8), (zz + zz))
def rl (p : Pt1) : Pt1 := if p.2.2 = 0 then p else dbl1 p
def hP1 (p q : Pt1) : Fin Pp := ((q.1 * (p.2.2 * p.2.2)) - (p.1 * (q.2.2 * q.2.2)))
def rP1 (p q : Pt1) : Fin Pp := (((q.2.1 * (p.2.2 * p.2.2)) * p.2.2) - ((p.2.1 * (q.2.2 * q.2.2)) * q.2.2))
def gen1 (p q : Pt1) : Pt1 :=
 let u := (p.1 * (q.2.2 * q.2.2))
 let s := ((p.2.1 * (q.2.2 * q.2.2)) * q.2.2)
 let h := hP1 p q
 let r := rP1 p q
 let hh := (h * h)
 let hhh := (hh * h)
 let uhh := (u * hh)
 let x := ((((r * r) - hhh) - uhh) - uhh)
 (x, ((r * (uhh - x)) - (s * hhh)), ((h * p.2.2) * q.2.2))
def tI (p q : Pt1) : Pt1 :=
 if p.2.2 = 0 then q else if q.2.2 = 0 then p else
 if hP1 p q = 0 then (if rP1 p q = 0 then rl p else (p.1, p.2.1, 0)) else gen1 p q
def tab1 (p : Pt1) : Nat -> Pt1
 | 0 => (p.1, p.2.1, 0)
 | n + 1 => tI (tab1 p n) p
def man1 (p : Pt1) (k : Nat) : Nat -> Pt1
 | 0 => (p.1, p.2.1, 0)
 | n + 1 => tI (rl (rl (rl (rl (man1 p k n))))) (tab1 p (dig k (63 - n)))
theorem tF (p : Pt1) (h : p.2.2 = 0) : rl p = p := by unfold rl; rw [if_pos h]
theorem CS (p q : Pt1) (h : p.2.2 = 0) : tI p q = q := by unfold tI; rw [if_pos h]
theorem DM (p : Pt1) (k : Nat) : ∀ n, (∀ j, j < n -> dig k (63 - j) = 0) -> man1 p k n = (p.1, p.2.1, 0)
 | 0, _ => rfl
 | n + 1, h => by
  have ih := DM p k n (fun j hj => h j (by omega))
  show tI (rl (rl (rl (rl (man1 p k n))))) (tab1 p (dig k (63 - n))) = _
  rw [ih, h n (by omega), tF _ rfl, tF _ rfl, tF _ rfl, tF _ rfl, CS _ _ rfl]
  rfl
abbrev Pt2 := F2 × F2 × F2
def dbl2 (p : Pt2) : Pt2 :=
 let xx := (mul2 p.1 p.1)
 let yy := (mul2 p.2.1 p.2.1)
 let four := (mul2 yy yy)
 let d0 := (qR p.1 yy)
 let d1 := (sI (sI (mul2 d0 d0) xx) four)
 let d := (qR d1 d1)
 let e := (qR (qR xx xx) xx)
 let x := (sI (sI (mul2 e e) d) d)
 let e2 := (qR four four)
 let e4 := (qR e2 e2)
 let e8 := (qR e4 e4)
 let zz := (mul2 p.2.1 p.2.2)
 (x, (sI (mul2 e (sI d x)) e8), (qR zz zz))
def rq (p : Pt2) : Pt2 := if p.2.2 = ((0, 0) : F2) then p else dbl2 p
def hP2 (p q : Pt2) : F2 := (sI (mul2 q.1 (mul2 p.2.2 p.2.2)) (mul2 p.1 (mul2 q.2.2 q.2.2)))
def rP2 (p q : Pt2) : F2 := (sI (mul2 (mul2 q.2.1 (mul2 p.2.2 p.2.2)) p.2.2) (mul2 (mul2 p.2.1 (mul2 q.2.2 q.2.2)) q.2.2))
def gen2 (p q : Pt2) : Pt2 :=
 let u := (mul2 p.1 (mul2 q.2.2 q.2.2))
 let s := (mul2 (mul2 p.2.1 (mul2 q.2.2 q.2.2)) q.2.2)
 let h := hP2 p q
 let r := rP2 p q
 let hh := (mul2 h h)
 let hhh := (mul2 hh h)
 let uhh := (mul2 u hh)
 let x := (sI (sI (sI (mul2 r r) hhh) uhh) uhh)
 (x, (sI (mul2 r (sI uhh x)) (mul2 s hhh)), (mul2 (mul2 h p.2.2) q.2.2))
def vr (p q : Pt2) : Pt2 :=
 if p.2.2 = ((0, 0) : F2) then q else if q.2.2 = ((0, 0) : F2) then p else
 if hP2 p q = ((0, 0) : F2) then (if rP2 p q = ((0, 0) : F2) then rq p else (p.1, p.2.1, ((0, 0) : F2))) else gen2 p q
def tab2 (p : Pt2) : Nat -> Pt2
 | 0 => (p.1, p.2.1, ((0, 0) : F2))
 | n + 1 => vr (tab2 p n) p
def man2 (p : Pt2) (k : Nat) : Nat -> Pt2
 | 0 => (p.1, p.2.1, ((0, 0) : F2))
 | n + 1 => vr (rq (rq (rq (rq (man2 p k n))))) (tab2 p (dig k (63 - n)))
theorem tN (p : Pt2) (h : p.2.2 = ((0, 0) : F2)) : rq p = p := by unfold rq; rw [if_pos h]
theorem CC (p q : Pt2) (h : p.2.2 = ((0, 0) : F2)) : vr p q = q := by unfold vr; rw [if_pos h]
theorem DL (p : Pt2) (k : Nat) : ∀ n, (∀ j, j < n -> dig k (63 - j) = 0) -> man2 p k n = (p.1, p.2.1, ((0, 0) : F2))
 | 0, _ => rfl
 | n + 1, h => by
  have ih := DL p k n (fun j hj => h j (by omega))
  show vr (rq (rq (rq (rq (man2 p k n))))) (tab2 p (dig k (63 - n))) = _
  rw [ih, h n (by omega), tN _ rfl, tN _ rfl, tN _ rfl, tN _ rfl, CC _ _ rfl]
  rfl
def bgn (k n : Nat) : Bool := decide (k / 16 ^ (64 - n) ≠ 0)
theorem Fs {k : Nat} (h : k < 115792089237316195423570985008687907853269984665640564039457584007913129639936) : bgn k 0 = false := by
 unfold bgn
 rw [Nat.sub_zero, Nat.div_eq_of_lt (by simpa using h)]
 rfl
theorem CJ (k n : Nat) (h : n < 64) : bgn k (n + 1) = (bgn k n || decide (dig k (63 - n) ≠ 0)) := by
 unfold bgn dig
 have e : 64 - n = (64 - (n + 1)) + 1 := by omega
 rw [e, Nat.pow_succ, ← Nat.div_div_eq_div_mul, show 63 - n = 64 - (n + 1) by omega]
 generalize k / 16 ^ (64 - (n + 1)) = y
 by_cases h0 : y / 16 = 0
 ·by_cases h1 : y % 16 = 0
  ·have : y = 0 := by omega
   subst this; rfl
  ·have : y ≠ 0 := by omega
   simp [h0, h1, this]
 ·have : y ≠ 0 := by omega
  simp [h0, this]
theorem EZ {k : Nat} (hk : k < 115792089237316195423570985008687907853269984665640564039457584007913129639936) : ∀ n, n <= 64 -> bgn k n = false -> ∀ j, j < n -> dig k (63 - j) = 0
 | 0, _, _, j, hj => by omega
 | n + 1, hn, h, j, hj => by
  rw [CJ k n (by omega)] at h
  simp only [Bool.or_eq_false_iff] at h
  by_cases e : j = n
  ·subst e
   have := h.2
   simpa using this
  ·exact EZ hk n (by omega) h.1 j (by omega)
theorem As (i : Nat) (hi : i < 64) : IntKind.i64.wrap ((((i + 1 : Nat) : Int) - 1).tdiv 16) = ((i / 16 : Nat) : Int) /\ i / 16 < 4 := by
 refine ⟨?_, by omega⟩
 rw [show (((i + 1 : Nat) : Int) - 1) = ((i : Nat) : Int) by omega, Int.tdiv_eq_ediv_of_nonneg (by omega), qm]
 omega
theorem Ax (i : Nat) : IntKind.i64.wrap (4 * (((i + 1 : Nat) : Int) - 1).tmod 16) = ((4 * (i % 16) : Nat) : Int) /\ 4 * (i % 16) < 64 := by
 refine ⟨?_, by omega⟩
 rw [show (((i + 1 : Nat) : Int) - 1) = ((i : Nat) : Int) by omega, Int.tmod_eq_emod_of_nonneg (by omega), qm]
 omega
theorem z8 (k i : Nat) : IntKind.i64.wrap (((k / 18446744073709551616 ^ (0 + i / 16 * 1) % 18446744073709551616 / 2 ^ (4 * (i % 16)) % 18446744073709551616 &&& 15) % 18446744073709551616 : Nat) : Int) = ((dig k i : Nat) : Int) := by
 have e : (k / 18446744073709551616 ^ (0 + i / 16 * 1) % 18446744073709551616 / 2 ^ (4 * (i % 16)) % 18446744073709551616 &&& 15) = dig k i := by
  rw [show (15 : Nat) = 2 ^ 4 - 1 from rfl, Nat.and_two_pow_sub_one_eq_mod, Nat.zero_add, Nat.mul_one]
  unfold dig
  have e1 : (18446744073709551616 : Nat) ^ (i / 16) = 2 ^ (64 * (i / 16)) := by rw [Nat.pow_mul]
  have hs : 4 * (i % 16) + 4 <= 64 := by omega
  have e2 : (18446744073709551616 : Nat) = 2 ^ (4 * (i % 16)) * 2 ^ (64 - 4 * (i % 16)) := by rw [← Nat.pow_add, show 4 * (i % 16) + (64 - 4 * (i % 16)) = 64 by omega]
  rw [e1]
  generalize hy : k / 2 ^ (64 * (i / 16)) = y
  have e3 : y % 18446744073709551616 / 2 ^ (4 * (i % 16)) = y / 2 ^ (4 * (i % 16)) % 2 ^ (64 - 4 * (i % 16)) := by
   rw [e2, Nat.mod_mul_right_div_self]
  rw [e3]
  have h1 : (2 : Nat) ^ 4 ∣ 2 ^ (64 - 4 * (i % 16)) := Nat.pow_dvd_pow 2 (by omega)
  have h2 : (2 : Nat) ^ (64 - 4 * (i % 16)) ∣ 18446744073709551616 := by
   rw [show (18446744073709551616 : Nat) = 2 ^ 64 from rfl]; exact Nat.pow_dvd_pow 2 (by omega)
  rw [Nat.mod_mod_of_dvd _ (Nat.dvd_trans h1 h2), Nat.mod_mod_of_dvd _ h1, ← hy, Nat.div_div_eq_div_mul, ← Nat.pow_add]
  rw [show (16 : Nat) ^ i = 2 ^ (4 * i) by rw [Nat.pow_mul], show 64 * (i / 16) + 4 * (i % 16) = 4 * i by omega]
 rw [e, qm]
 have := wP k i
 omega
theorem w9 {α : Type} (f : Nat -> List α) (m : Nat) (hf : ∀ j, (f j).length = m) : ∀ (n j : Nat), j < n -> (((List.range n).flatMap f).drop (j * m)).take m = f j := by
 have key : ∀ (n s j : Nat), j < n -> (((List.range' s n).flatMap f).drop (j * m)).take m = f (s + j) := by
  intro n
  induction n with
  | zero => intro s j h; omega
  | succ n ih =>
   intro s j h
   rw [List.range'_succ, List.flatMap_cons]
   cases j with
   | zero => rw [Nat.zero_mul, List.drop_zero, ← hf s, List.take_left]; rfl
   | succ j =>
    rw [show (j + 1) * m = (f s).length + j * m by rw [hf, Nat.succ_mul, Nat.add_comm], ← List.drop_drop, List.drop_left, ih (s + 1) j (by omega)]
    congr 1
    omega
 intro n j h
 rw [List.range_eq_range', key n 0 j h, Nat.zero_add]
end Go.Ev
set_option linter.unusedSimpArgs false
set_option linter.unusedVariables false
namespace Go.Ev
def WI : Par Bool where
 p l := match l with | .c (.bool b) :: r => some (b, r) | _ => none
 c b := [.c (.bool b)]
 pure _ := rfl
 ok l x r h := by
  split at h
  ·simp only [oi0, pi0] at h; obtain ⟨rfl, rfl⟩ := h; simp [flat, Ch.cells]
  ·cases h
abbrev A1 := Nat × Nat × Bool
abbrev A2 := N2 × N2 × Bool
def I4 : Par A1 := zV.pair (zV.pair WI)
def JB : Par A2 := OV.pair (OV.pair WI)
def sml1 (a : A1) : Prop := small a.1 /\ small a.2.1
def sml2 (a : A2) : Prop := qP a.1 /\ qP a.2.1
def is1 (x : Nat) : Prop := x < Pp
def is2 (x : N2) : Prop := x.1 < Pp /\ x.2 < Pp
instance (x : Nat) : Decidable (is1 x) := inferInstanceAs (Decidable (_ < _))
instance (x : N2) : Decidable (is2 x) := inferInstanceAs (Decidable (_ /\ _))
def C0 (x : Fin Pp) : Fin Pp := x * x * x + ofP 4
def Ef (x : F2) : F2 := qR (mul2 (mul2 x x) x) (ofP 4, ofP 4)
def in1 (a : A1) : Pt1 := if a.2.2 = true then (1, 1, 0) else (ofP a.1, ofP a.2.1, 1)
def in2 (a : A2) : Pt2 := if a.2.2 = true then ((1, 0), (1, 0), (0, 0)) else (of2 a.1, of2 a.2.1, (1, 0))
def may1 (a : A1) : Prop := if a.2.2 = true then a.1 = 0 /\ a.2.1 = 0 else is1 a.1 /\ is1 a.2.1 /\ ofP a.2.1 * ofP a.2.1 = C0 (ofP a.1)
def may2 (a : A2) : Prop := if a.2.2 = true then a.1 = (0, 0) /\ a.2.1 = (0, 0) else is2 a.1 /\ is2 a.2.1 /\ mul2 (of2 a.2.1) (of2 a.2.1) = Ef (of2 a.1)
instance (a : A1) : Decidable (may1 a) := by unfold may1; infer_instance
instance (a : A2) : Decidable (may2 a) := by unfold may2; infer_instance
def AZ (a : A1) : Prop := (man1 (in1 a) Rr 64).2.2 = 0
def C6 (a : A2) : Prop := (man2 (in2 a) Rr 64).2.2 = ((0, 0) : F2)
instance (a : A1) : Decidable (AZ a) := by unfold AZ; infer_instance
instance (a : A2) : Decidable (C6 a) := by unfold C6; infer_instance
theorem vh {x : Nat} (hx : small x) : flat [.q (ofP x)] = flat [.n 6 x] ↔ is1 x := by
 constructor
 ·intro e
  have h1 := yB 6 (ofP x).val x (Nat.lt_trans (ofP x).isLt (by decide)) (show x < 18446744073709551616 ^ 6 by have h : x < 39402006196394479212279040100143613805079739270465446667948293404245721771497210611414266254884915640806627990306816 := hx; simpa using h) (by simpa [flat, Ch.cells] using e)
  have h2 := (ofP x).isLt
  rw [h1] at h2
  exact h2
 ·intro h
  simp only [flat, Ch.cells]
  rw [show (ofP x).val = x from Nat.mod_eq_of_lt h]
theorem Bg : ∀ (l m : List Nat), l.length = m.length -> (∀ x, x ∈ l -> small x) -> (∀ x, x ∈ m -> small x) -> ∀ r s, flat (l.map (.n 6) ++ r) = flat (m.map (.n 6) ++ s) -> l = m /\ flat r = flat s
 | [], [], _, _, _, _, _, e => ⟨rfl, e⟩
 | [], _ :: _, h, _, _, _, _, _ => by simp at h
 | _ :: _, [], h, _, _, _, _, _ => by simp at h
 | x :: l, y :: m, h, hl, hm, r, s, e => by
  have e' : limbs 6 x ++ flat (l.map (.n 6) ++ r) = limbs 6 y ++ flat (m.map (.n 6) ++ s) := e
  have h1 := List.append_inj e' (by simp only [limbs, List.length_cons, List.length_nil])
  have hx : x < 18446744073709551616 ^ 6 := by have h : x < 39402006196394479212279040100143613805079739270465446667948293404245721771497210611414266254884915640806627990306816 := hl x (by simp); simpa using h
  have hy : y < 18446744073709551616 ^ 6 := by have h : y < 39402006196394479212279040100143613805079739270465446667948293404245721771497210611414266254884915640806627990306816 := hm y (by simp); simpa using h
  have h2 := yB 6 x y hx hy h1.1
  have h3 := Bg l m (by simpa using h) (fun x hx => hl x (by simp [hx])) (fun x hx => hm x (by simp [hx])) r s h1.2
  exact ⟨by rw [h2, h3.1], h3.2⟩
theorem JQ : small 0 := by unfold small; decide
theorem Po (x : Fin Pp) : small x.val := Nat.lt_trans x.isLt (by decide)
def z6 : List Ch := [.c (.int .u64 0), .c (.int .u64 0), .c (.int .u64 0), .c (.int .u64 0), .c (.int .u64 0), .c (.int .u64 0)]
theorem DR {x y : Nat} (hx : small x) (hy : small y) (b : Bool) : flat [.n 6 x, .n 6 y, .c (.bool b)] = flat (z6 ++ z6 ++ [.c (.bool b)]) ↔ x = 0 /\ y = 0 := by
 have e : flat (z6 ++ z6 ++ [.c (.bool b)]) = flat ([0, 0].map (.n 6) ++ [.c (.bool b)]) := rfl
 rw [e]
 constructor
 ·intro h
  have := (Bg [x, y] [0, 0] rfl (by simp [hx, hy]) (by simp [JQ]) [.c (.bool b)] [.c (.bool b)] h).1
  simpa using this
 ·rintro ⟨rfl, rfl⟩; rfl
theorem Dd {x y : N2} (hx : qP x) (hy : qP y) (b : Bool) : flat [.n 6 x.1, .n 6 x.2, .n 6 y.1, .n 6 y.2, .c (.bool b)] = flat (z6 ++ z6 ++ z6 ++ z6 ++ [.c (.bool b)]) ↔ x = (0, 0) /\ y = (0, 0) := by
 have e : flat (z6 ++ z6 ++ z6 ++ z6 ++ [.c (.bool b)]) = flat ([0, 0, 0, 0].map (.n 6) ++ [.c (.bool b)]) := rfl
 rw [e]
 obtain ⟨x1, x2⟩ := x
 obtain ⟨y1, y2⟩ := y
 constructor
 ·intro h
  have := (Bg [x1, x2, y1, y2] [0, 0, 0, 0] rfl (by simp [hx.1, hx.2, hy.1, hy.2]) (by simp [JQ]) [.c (.bool b)] [.c (.bool b)] h).1
  simp only [List.cons.injEq, and_true] at this
  exact ⟨by rw [this.1, this.2.1], by rw [this.2.2.1, this.2.2.2]⟩
 ·rintro ⟨h1, h2⟩
  simp only [pi0] at h1 h2
  rw [h1.1, h1.2, h2.1, h2.2]; rfl
theorem u9 {x : N2} (hx : qP x) : flat [.q (of2 x).1, .q (of2 x).2] = flat [.n 6 x.1, .n 6 x.2] ↔ is2 x := by
 constructor
 ·intro e
  have := (Bg [(of2 x).1.val, (of2 x).2.val] [x.1, x.2] rfl (by simp [Po]) (by simp [hx.1, hx.2]) [] [] e).1
  simp only [List.cons.injEq, and_true] at this
  exact ⟨by rw [← this.1]; exact (of2 x).1.isLt, by rw [← this.2]; exact (of2 x).2.isLt⟩
 ·intro h
  have e1 : (of2 x).1.val = x.1 := Nat.mod_eq_of_lt h.1
  have e2 : (of2 x).2.val = x.2 := Nat.mod_eq_of_lt h.2
  simp only [flat, Ch.cells, e1, e2]
end Go.Ev
set_option linter.unusedSimpArgs false
set_option linter.unusedVariables false
namespace Go.Ev
def beL : Nat -> Nat -> LU0
 | 0, _ => []
 | n + 1, x => UInt8.ofNat (x / 256 ^ n % 256) :: beL n x
def byt (l : LU0) (i : Nat) : Nat := ((ofL l)[i]?.getD 0).toNat
def pre (l : LU0) (k : Nat) : Nat -> Nat
 | 0 => 0
 | m + 1 => pre l k m * 256 + byt l (8 * k + m)
def deN (n : Nat) (l : LU0) : Nat := pre l 0 n
end Go.Ev
set_option linter.unusedSimpArgs false
set_option linter.unusedVariables false
namespace Go.Ev
open Go.RowKit
instance (x : Fin Pp) : Decidable (hiP x) := inferInstanceAs (Decidable (_ < _))
instance (x : F2) : Decidable (hi2 x) := by unfold hi2; infer_instance
def b1 (x : Fin Pp) : LU0 := beL 48 x.val
def b2 (x : F2) : LU0 := beL 48 x.2.val ++ beL 48 x.1.val
def FT (l : LU0) : Nat := match l with | b :: _ => b.toNat / 32 | [] => 0
def BR (l : LU0) : LU0 := match l with | b :: r => UInt8.ofNat (b.toNat % 32) :: r | [] => []
def aad (l : LU0) : Prop := ∀ b, b ∈ l -> b = 0
def XPar.bool : XPar Bool where
 p v := match v with
  | .t (.v (.bool b)) => some b
  | _ => none
 c b := .t (.v (.bool b))
 ok v x h w y hy := by
  split at h
  ·simp only [oi0] at h; subst h; exact hy
  ·cases h
variable {P : Program}
end Go.Ev
set_option linter.unusedVariables false
namespace Go.Ev
def g1x : Nat := 3685416753713387016781088315183077757961620795782546409894578378688607592378376318836054947676345821548104185464507
def g1y : Nat := 1339506544944476473020471379941921221584933875938349620426543736416511423956333506472724655353366534992391756441569
def xh : Nat := 352701069587466618187139116011060144890029952792775240219908644239793785735715026873347600343865175952761926303160
def xg : Nat := 3059144344244213709971259814753781636986470325476647558659373206291635324768958432433509563104347017837885763365758
def wV : Nat := 1985150602287291935568054521177171638300868978215655730859378665066344726373823718423869104263333984641494340347905
def wA : Nat := 927553665492332455747201965776037880757740193453592970025027978793976877002675564980949289727957565575433344219582
def DB : Pt1 := (ofP g1x, ofP g1y, 1)
def sG : Pt2 := ((ofP xh, ofP xg), (ofP wV, ofP wA), (1, 0))
theorem MS : (man1 DB 52435875175126190479447740508185965837690552500527637822603658699938581184513 64).2.2 = 0 := by decide +kernel
theorem Ox : (man2 sG 52435875175126190479447740508185965837690552500527637822603658699938581184513 64).2.2 = (0, 0) := by decide +kernel
end Go.Ev
set_option linter.unusedSimpArgs false
set_option linter.unusedVariables false
namespace Go.Ev
open Go.RowKit
def body1 (x y : Fin Pp) (s : Bool) : LU0 := match s with | true => b1 x | false => b1 x ++ b1 y
def body2 (x y : F2) (s : Bool) : LU0 := match s with | true => b2 x | false => b2 x ++ b2 y
end Go.Ev
