/- Pruned: Gb. -/
import Derived.Test.YtokjhbmmdmeafaaGreatQGa
import Derived.Test.YtokjhbmmdmeafaaGreatQHa
set_option linter.unusedSimpArgs false
set_option linter.unusedVariables false
namespace Go.Ev
def beL : Nat -> Nat -> LU0
 | 0, _ => []
 | n + 1, x => UInt8.ofNat (x / 256 ^ n % 256) :: beL n x
theorem uN : ∀ n x, (beL n x).length = n
 | 0, _ => rfl
 | n + 1, x => by simp [beL, uN n x]
theorem yH (x : Nat) : ∀ n, beL n x = (List.range n).map (fun k => UInt8.ofNat (x / 256 ^ (n - 1 - k) % 256))
 | 0 => rfl
 | n + 1 => by
  rw [List.range_succ_eq_map, List.map_cons, List.map_map]
  show UInt8.ofNat (x / 256 ^ n % 256) :: beL n x = _
  rw [yH x n]
  congr 1
  refine List.map_congr_left fun k _ => ?_
  simp only [Function.comp]
  rw [show n + 1 - 1 - (k + 1) = n - 1 - k by omega]
def byt (l : LU0) (i : Nat) : Nat := ((ofL l)[i]?.getD 0).toNat
theorem GZ (l : LU0) (i : Nat) : byt l i < 256 := UInt8.toNat_lt _
theorem B2 (l : LU0) (i : Nat) : (ofL l)[i]? = l[i]? := by
 by_cases h : i < l.length
 ·have h' : i < (ofL l).size := h
  rw [ByteArray.getElem?_lt' _ _ h', List.getElem?_eq_getElem h]
  rfl
 ·have h' : ¬ i < (ofL l).size := h
  rw [List.getElem?_eq_none (by omega)]
  exact getElem?_neg _ _ h'
theorem Vf (l : LU0) (i : Nat) : byt l i = ((l[i]?).getD 0).toNat := by unfold byt; rw [B2]
def pre (l : LU0) (k : Nat) : Nat -> Nat
 | 0 => 0
 | m + 1 => pre l k m * 256 + byt l (8 * k + m)
theorem tO (l : LU0) (k : Nat) : ∀ m, pre l k m < 256 ^ m
 | 0 => by simp [pre]
 | m + 1 => by
  have h1 := tO l k m
  have h2 := GZ l (8 * k + m)
  rw [Nat.pow_succ]
  simp only [pre]
  omega
theorem H9 (l : LU0) (k : Nat) : ∀ m, pre l 0 (8 * k + m) = pre l 0 (8 * k) * 256 ^ m + pre l k m
 | 0 => by simp [pre]
 | m + 1 => by
  rw [← Nat.add_assoc]
  simp only [pre]
  rw [H9 l k m, Nat.pow_succ, Nat.zero_add, Nat.add_mul, Nat.mul_assoc]
  omega
theorem sg (l : LU0) (k : Nat) : pre l 0 (8 * (k + 1)) = pre l 0 (8 * k) * 18446744073709551616 + pre l k 8 := by
 rw [show 8 * (k + 1) = 8 * k + 8 by omega, H9]
def deN (n : Nat) (l : LU0) : Nat := pre l 0 n
theorem RC (n : Nat) (l : LU0) : deN n l < 256 ^ n := tO l 0 n
theorem I7 (l : LU0) : ∀ (n j : Nat), j < n -> pre l 0 n / 256 ^ j % 256 = byt l (n - 1 - j)
 | 0, j, h => by omega
 | n + 1, 0, _ => by
  simp only [pre, Nat.pow_zero, Nat.div_one, Nat.mul_zero, Nat.zero_add]
  have := GZ l n
  rw [show n + 1 - 1 - 0 = n by omega]
  omega
 | n + 1, j + 1, h => by
  have ih := I7 l n j (by omega)
  have h2 := GZ l n
  rw [Nat.pow_succ, Nat.mul_comm, ← Nat.div_div_eq_div_mul]
  simp only [pre, Nat.mul_zero, Nat.zero_add]
  rw [show (pre l 0 n * 256 + byt l n) / 256 = pre l 0 n by omega, ih, show n + 1 - 1 - (j + 1) = n - 1 - j by omega]
theorem Xz {n : Nat} {l : LU0} (h : l.length = n) : beL n (deN n l) = l := by
 rw [yH]
 apply List.ext_getElem?
 intro k
 by_cases hk : k < n
 ·rw [List.getElem?_map, List.getElem?_range hk]
  simp only [Option.map_some, deN]
  rw [I7 l n (n - 1 - k) (by omega), show n - 1 - (n - 1 - k) = k by omega, Vf, List.getElem?_eq_getElem (by omega)]
  simp
 ·rw [List.getElem?_eq_none (by simp; omega), List.getElem?_eq_none (by omega)]
theorem MX (x i s : Nat) (hs : s + 8 <= 64) : x / 18446744073709551616 ^ i % 18446744073709551616 / 2 ^ s % 256 = x / 2 ^ (64 * i + s) % 256 := by
 have e1 : (18446744073709551616 : Nat) ^ i = 2 ^ (64 * i) := by rw [Nat.pow_mul]
 have e2 : (18446744073709551616 : Nat) = 2 ^ s * 2 ^ (64 - s) := by rw [← Nat.pow_add, show s + (64 - s) = 64 by omega]
 rw [e1]
 generalize hy : x / 2 ^ (64 * i) = y
 rw [e2, Nat.mod_mul_right_div_self, Nat.mod_mod_of_dvd _ (show (256 : Nat) ∣ 2 ^ (64 - s) from by
  rw [show (256 : Nat) = 2 ^ 8 from rfl]; exact Nat.pow_dvd_pow 2 (by omega)), ← hy, Nat.div_div_eq_div_mul, ← Nat.pow_add]
theorem UI (n : Int) : IntKind.u8.wrap n = n % 256 := by
 simp [IntKind.wrap, IntKind.signed, IntKind.bits]
theorem IR (x i s : Nat) (hs : s + 8 <= 64) : (IntKind.u8.wrap ((x / 18446744073709551616 ^ i % 18446744073709551616 / 2 ^ min s 64 % 18446744073709551616 : Nat) : Int)).toNat = x / 2 ^ (64 * i + s) % 256 := by
 rw [UI, Nat.min_eq_left (by omega), ← MX x i s hs]
 have h1 : x / 18446744073709551616 ^ i % 18446744073709551616 < 18446744073709551616 := Nat.mod_lt _ (by decide)
 have h2 := Nat.div_le_self (x / 18446744073709551616 ^ i % 18446744073709551616) (2 ^ s)
 generalize x / 18446744073709551616 ^ i % 18446744073709551616 / 2 ^ s = z at *
 omega
theorem Bw (k : Nat) : 2 ^ (8 * k) = 256 ^ k := by rw [Nat.pow_mul]
theorem Uf (a b : Nat) (ha : a < 72057594037927936) (hb : b < 256) : (a * 256 % 18446744073709551616 ||| b % 18446744073709551616) % 18446744073709551616 = (a * 256 + b) % 18446744073709551616 := by
 have h1 : a * 256 % 18446744073709551616 = a * 256 := Nat.mod_eq_of_lt (by omega)
 have h2 : b % 18446744073709551616 = b := Nat.mod_eq_of_lt (by omega)
 rw [h1, h2]
 have h3 : a * 256 ||| b = a * 256 + b := by
  have := Nat.shiftLeft_add_eq_or_of_lt (i := 8) (b := b) (by omega) a
  rw [Nat.shiftLeft_eq] at this
  exact this.symm
 rw [h3]
theorem Fg (l : LU0) (k m : Nat) (hm : m < 8) : (pre l k m * 2 ^ min 8 64 % 18446744073709551616 ||| byt l (8 * k + m) % 18446744073709551616) % 18446744073709551616 = pre l k (m + 1) % 18446744073709551616 := by
 have h1 := tO l k m
 have h2 : 256 ^ m <= 256 ^ 7 := Nat.pow_le_pow_right (by decide) (by omega)
 exact Uf _ _ (Nat.lt_of_lt_of_le h1 h2) (GZ _ _)
theorem BY (l : LU0) (k : Nat) : (0 ||| byt l (8 * k + 0) % 18446744073709551616) % 18446744073709551616 = pre l k 1 % 18446744073709551616 := by
 simp [pre]
theorem yq (l : LU0) (i : Nat) : IntKind.u64 = IntKind.u64 /\ IntKind.u64.wrap ((byt l i : Nat) : Int) = ((byt l i % 18446744073709551616 : Nat) : Int) := ⟨rfl, by rw [xZ]; omega⟩
theorem ym (l : LU0) (n i : Nat) (h : l.length = n) (hi : i < n) : (0 : Int) <= (i : Int) /\ (i : Int) < (ofL l).size /\ ((ofL l)[(i : Int).toNat]?.getD 0).toNat = byt l i := ⟨by omega, by show (i : Int) < (l.length : Int); omega, rfl⟩
def S2 : List Nat -> Nat -> Bool
 | [], _ => false
 | a :: l, i => match Nat.beq i a with | true => true | false => S2 l i
def JQ : List Ora -> Nat -> Ora
 | [], _ => { ch := 0, hi := fun _ => 0 }
 | a :: l, i => match Nat.beq i 0 with | true => a | false => JQ l (i - 1)
def XPar.str : XPar (LU0) where
 p v := match v with
  | .t (.v (.string s)) => some s.data.toList
  | _ => none
 c l := .t (.v (.string (ofL l)))
 ok v x h w y hy := by
  split at h
  ·rename_i s
   simp only [oi0] at h; subst h
   have e : ofL s.data.toList = s := by unfold ofL; rw [Array.toArray_toList]
   rw [e]; exact hy
  ·cases h
end Go.Ev
set_option linter.unusedSimpArgs false
set_option linter.unusedVariables false
namespace Go.Ev
def dig (k i : Nat) : Nat := k / 16 ^ i % 16
theorem wq (k i : Nat) : dig k i < 16 := Nat.mod_lt _ (by decide)
abbrev Pt1 := Fin Pp × Fin Pp × Fin Pp
def ae1 (p : Pt1) : Pt1 :=
 let xx := (p.1 * p.1)
 let yy := (p.2.1 * p.2.1)
 let four := (yy * yy)
 let d0 := (p.1 + yy)
 let d1 := (((d0 * d0) - xx) - four)
 let d := (d1 + d1)
 let e := ((xx + xx) + xx)
 let x := (((e * e) - d) - d)
 let e2 := (four + four)
 let e4 := (e2 + e2)
 let e8 := (e4 + e4)
 let zz := (p.2.1 * p.2.2)
 (x, ((e * (d - x)) - e8), (zz + zz))
def sr (p : Pt1) : Pt1 := if p.2.2 = 0 then p else ae1 p
def hP1 (p q : Pt1) : Fin Pp := ((q.1 * (p.2.2 * p.2.2)) - (p.1 * (q.2.2 * q.2.2)))
def rP1 (p q : Pt1) : Fin Pp := (((q.2.1 * (p.2.2 * p.2.2)) * p.2.2) - ((p.2.1 * (q.2.2 * q.2.2)) * q.2.2))
def agu (p q : Pt1) : Pt1 :=
 let u := (p.1 * (q.2.2 * q.2.2))
 let s := ((p.2.1 * (q.2.2 * q.2.2)) * q.2.2)
 let h := hP1 p q
 let r := rP1 p q
 let hh := (h * h)
 let hhh := (hh * h)
 let uhh := (u * hh)
 let x := ((((r * r) - hhh) - uhh) - uhh)
 (x, ((r * (uhh - x)) - (s * hhh)), ((h * p.2.2) * q.2.2))
def zN (p q : Pt1) : Pt1 :=
 if p.2.2 = 0 then q else if q.2.2 = 0 then p else
 if hP1 p q = 0 then (if rP1 p q = 0 then sr p else (p.1, p.2.1, 0)) else agu p q
def ql (p : Pt1) : Nat -> Pt1
 | 0 => (p.1, p.2.1, 0)
 | n + 1 => zN (ql p n) p
def wY (p : Pt1) (k : Nat) : Nat -> Pt1
 | 0 => (p.1, p.2.1, 0)
 | n + 1 => zN (sr (sr (sr (sr (wY p k n))))) (ql p (dig k (63 - n)))
theorem tZ (p : Pt1) (h : p.2.2 = 0) : sr p = p := by unfold sr; rw [if_pos h]
theorem HT (p q : Pt1) (h : p.2.2 = 0) : zN p q = q := by unfold zN; rw [if_pos h]
theorem EH (p : Pt1) (k : Nat) : ∀ n, (∀ j, j < n -> dig k (63 - j) = 0) -> wY p k n = (p.1, p.2.1, 0)
 | 0, _ => rfl
 | n + 1, h => by
  have ih := EH p k n (fun j hj => h j (by omega))
  show zN (sr (sr (sr (sr (wY p k n))))) (ql p (dig k (63 - n))) = _
  rw [ih, h n (by omega), tZ _ rfl, tZ _ rfl, tZ _ rfl, tZ _ rfl, HT _ _ rfl]
  rfl
abbrev Pt2 := F2 × F2 × F2
def agL (p : Pt2) : Pt2 :=
 let xx := (pZ p.1 p.1)
 let yy := (pZ p.2.1 p.2.1)
 let four := (pZ yy yy)
 let d0 := (qV p.1 yy)
 let d1 := (tY (tY (pZ d0 d0) xx) four)
 let d := (qV d1 d1)
 let e := (qV (qV xx xx) xx)
 let x := (tY (tY (pZ e e) d) d)
 let e2 := (qV four four)
 let e4 := (qV e2 e2)
 let e8 := (qV e4 e4)
 let zz := (pZ p.2.1 p.2.2)
 (x, (tY (pZ e (tY d x)) e8), (qV zz zz))
def sq (p : Pt2) : Pt2 := if p.2.2 = ((0, 0) : F2) then p else agL p
def hP2 (p q : Pt2) : F2 := (tY (pZ q.1 (pZ p.2.2 p.2.2)) (pZ p.1 (pZ q.2.2 q.2.2)))
def rP2 (p q : Pt2) : F2 := (tY (pZ (pZ q.2.1 (pZ p.2.2 p.2.2)) p.2.2) (pZ (pZ p.2.1 (pZ q.2.2 q.2.2)) q.2.2))
def agG (p q : Pt2) : Pt2 :=
 let u := (pZ p.1 (pZ q.2.2 q.2.2))
 let s := (pZ (pZ p.2.1 (pZ q.2.2 q.2.2)) q.2.2)
 let h := hP2 p q
 let r := rP2 p q
 let hh := (pZ h h)
 let hhh := (pZ hh h)
 let uhh := (pZ u hh)
 let x := (tY (tY (tY (pZ r r) hhh) uhh) uhh)
 (x, (tY (pZ r (tY uhh x)) (pZ s hhh)), (pZ (pZ h p.2.2) q.2.2))
def zV (p q : Pt2) : Pt2 :=
 if p.2.2 = ((0, 0) : F2) then q else if q.2.2 = ((0, 0) : F2) then p else
 if hP2 p q = ((0, 0) : F2) then (if rP2 p q = ((0, 0) : F2) then sq p else (p.1, p.2.1, ((0, 0) : F2))) else agG p q
def pX (p : Pt2) : Nat -> Pt2
 | 0 => (p.1, p.2.1, ((0, 0) : F2))
 | n + 1 => zV (pX p n) p
def xt (p : Pt2) (k : Nat) : Nat -> Pt2
 | 0 => (p.1, p.2.1, ((0, 0) : F2))
 | n + 1 => zV (sq (sq (sq (sq (xt p k n))))) (pX p (dig k (63 - n)))
theorem ue (p : Pt2) (h : p.2.2 = ((0, 0) : F2)) : sq p = p := by unfold sq; rw [if_pos h]
theorem HZ (p q : Pt2) (h : p.2.2 = ((0, 0) : F2)) : zV p q = q := by unfold zV; rw [if_pos h]
theorem DL (p : Pt2) (k : Nat) : ∀ n, (∀ j, j < n -> dig k (63 - j) = 0) -> xt p k n = (p.1, p.2.1, ((0, 0) : F2))
 | 0, _ => rfl
 | n + 1, h => by
  have ih := DL p k n (fun j hj => h j (by omega))
  show zV (sq (sq (sq (sq (xt p k n))))) (pX p (dig k (63 - n))) = _
  rw [ih, h n (by omega), ue _ rfl, ue _ rfl, ue _ rfl, ue _ rfl, HZ _ _ rfl]
  rfl
def bgn (k n : Nat) : Bool := decide (k / 16 ^ (64 - n) ≠ 0)
theorem G8 {k : Nat} (h : k < 115792089237316195423570985008687907853269984665640564039457584007913129639936) : bgn k 0 = false := by
 unfold bgn
 rw [Nat.sub_zero, Nat.div_eq_of_lt (by simpa using h)]
 rfl
theorem CF (k n : Nat) (h : n < 64) : bgn k (n + 1) = (bgn k n || decide (dig k (63 - n) ≠ 0)) := by
 unfold bgn dig
 have e : 64 - n = (64 - (n + 1)) + 1 := by omega
 rw [e, Nat.pow_succ, ← Nat.div_div_eq_div_mul, show 63 - n = 64 - (n + 1) by omega]
 generalize k / 16 ^ (64 - (n + 1)) = y
 by_cases h0 : y / 16 = 0
 ·by_cases h1 : y % 16 = 0
  ·have : y = 0 := by omega
   subst this; rfl
  ·have : y ≠ 0 := by omega
   simp [h0, h1, this]
 ·have : y ≠ 0 := by omega
  simp [h0, this]
theorem Gi {k : Nat} (hk : k < 115792089237316195423570985008687907853269984665640564039457584007913129639936) : ∀ n, n <= 64 -> bgn k n = false -> ∀ j, j < n -> dig k (63 - j) = 0
 | 0, _, _, j, hj => by omega
 | n + 1, hn, h, j, hj => by
  rw [CF k n (by omega)] at h
  simp only [Bool.or_eq_false_iff] at h
  by_cases e : j = n
  ·subst e
   have := h.2
   simpa using this
  ·exact Gi hk n (by omega) h.1 j (by omega)
theorem Ax (i : Nat) (hi : i < 64) : IntKind.i64.wrap ((((i + 1 : Nat) : Int) - 1).tdiv 16) = ((i / 16 : Nat) : Int) /\ i / 16 < 4 := by
 refine ⟨?_, by omega⟩
 rw [show (((i + 1 : Nat) : Int) - 1) = ((i : Nat) : Int) by omega, Int.tdiv_eq_ediv_of_nonneg (by omega), p6]
 omega
theorem Bg (i : Nat) : IntKind.i64.wrap (4 * (((i + 1 : Nat) : Int) - 1).tmod 16) = ((4 * (i % 16) : Nat) : Int) /\ 4 * (i % 16) < 64 := by
 refine ⟨?_, by omega⟩
 rw [show (((i + 1 : Nat) : Int) - 1) = ((i : Nat) : Int) by omega, Int.tmod_eq_emod_of_nonneg (by omega), p6]
 omega
theorem Av (k i : Nat) : IntKind.i64.wrap (((k / 18446744073709551616 ^ (0 + i / 16 * 1) % 18446744073709551616 / 2 ^ (4 * (i % 16)) % 18446744073709551616 &&& 15) % 18446744073709551616 : Nat) : Int) = ((dig k i : Nat) : Int) := by
 have e : (k / 18446744073709551616 ^ (0 + i / 16 * 1) % 18446744073709551616 / 2 ^ (4 * (i % 16)) % 18446744073709551616 &&& 15) = dig k i := by
  rw [show (15 : Nat) = 2 ^ 4 - 1 from rfl, Nat.and_two_pow_sub_one_eq_mod, Nat.zero_add, Nat.mul_one]
  unfold dig
  have e1 : (18446744073709551616 : Nat) ^ (i / 16) = 2 ^ (64 * (i / 16)) := by rw [Nat.pow_mul]
  have hs : 4 * (i % 16) + 4 <= 64 := by omega
  have e2 : (18446744073709551616 : Nat) = 2 ^ (4 * (i % 16)) * 2 ^ (64 - 4 * (i % 16)) := by rw [← Nat.pow_add, show 4 * (i % 16) + (64 - 4 * (i % 16)) = 64 by omega]
  rw [e1]
  generalize hy : k / 2 ^ (64 * (i / 16)) = y
  have e3 : y % 18446744073709551616 / 2 ^ (4 * (i % 16)) = y / 2 ^ (4 * (i % 16)) % 2 ^ (64 - 4 * (i % 16)) := by
   rw [e2, Nat.mod_mul_right_div_self]
  rw [e3]
  have h1 : (2 : Nat) ^ 4 ∣ 2 ^ (64 - 4 * (i % 16)) := Nat.pow_dvd_pow 2 (by omega)
  have h2 : (2 : Nat) ^ (64 - 4 * (i % 16)) ∣ 18446744073709551616 := by
   rw [show (18446744073709551616 : Nat) = 2 ^ 64 from rfl]; exact Nat.pow_dvd_pow 2 (by omega)
  rw [Nat.mod_mod_of_dvd _ (Nat.dvd_trans h1 h2), Nat.mod_mod_of_dvd _ h1, ← hy, Nat.div_div_eq_div_mul, ← Nat.pow_add]
  rw [show (16 : Nat) ^ i = 2 ^ (4 * i) by rw [Nat.pow_mul], show 64 * (i / 16) + 4 * (i % 16) = 4 * i by omega]
 rw [e, p6]
 have := wq k i
 omega
theorem Am {α : Type} (f : Nat -> List α) (m : Nat) (hf : ∀ j, (f j).length = m) : ∀ (n j : Nat), j < n -> (((List.range n).flatMap f).drop (j * m)).take m = f j := by
 have key : ∀ (n s j : Nat), j < n -> (((List.range' s n).flatMap f).drop (j * m)).take m = f (s + j) := by
  intro n
  induction n with
  | zero => intro s j h; omega
  | succ n ih =>
   intro s j h
   rw [List.range'_succ, List.flatMap_cons]
   cases j with
   | zero => rw [Nat.zero_mul, List.drop_zero, ← hf s, List.take_left]; rfl
   | succ j =>
    rw [show (j + 1) * m = (f s).length + j * m by rw [hf, Nat.succ_mul, Nat.add_comm], ← List.drop_drop, List.drop_left, ih (s + 1) j (by omega)]
    congr 1
    omega
 intro n j h
 rw [List.range_eq_range', key n 0 j h, Nat.zero_add]
end Go.Ev
set_option linter.unusedSimpArgs false
set_option linter.unusedVariables false
namespace Go.Ev
def ad2 : Par Bool where
 p l := match l with | .c (.bool b) :: r => some (b, r) | _ => none
 c b := [.c (.bool b)]
 pure _ := rfl
 ok l x r h := by
  split at h
  ·simp only [oi0, pi0] at h; obtain ⟨rfl, rfl⟩ := h; simp [flat, Ch.cells]
  ·cases h
abbrev A1 := Nat × Nat × Bool
abbrev A2 := N2 × N2 × Bool
def HQ : Par A1 := vy.pair (vy.pair ad2)
def Io : Par A2 := Ly.pair (Ly.pair ad2)
def sml1 (a : A1) : Prop := small a.1 /\ small a.2.1
def sml2 (a : A2) : Prop := qe a.1 /\ qe a.2.1
def is1 (x : Nat) : Prop := x < Pp
def is2 (x : N2) : Prop := x.1 < Pp /\ x.2 < Pp
instance (x : Nat) : Decidable (is1 x) := inferInstanceAs (Decidable (_ < _))
instance (x : N2) : Decidable (is2 x) := inferInstanceAs (Decidable (_ /\ _))
def tx (x : Fin Pp) : Fin Pp := x * x * x + ofP 4
def sv (x : F2) : F2 := qV (pZ (pZ x x) x) (ofP 4, ofP 4)
def in1 (a : A1) : Pt1 := if a.2.2 = true then (1, 1, 0) else (ofP a.1, ofP a.2.1, 1)
def in2 (a : A2) : Pt2 := if a.2.2 = true then ((1, 0), (1, 0), (0, 0)) else (of2 a.1, of2 a.2.1, (1, 0))
def may1 (a : A1) : Prop := if a.2.2 = true then a.1 = 0 /\ a.2.1 = 0 else is1 a.1 /\ is1 a.2.1 /\ ofP a.2.1 * ofP a.2.1 = tx (ofP a.1)
def may2 (a : A2) : Prop := if a.2.2 = true then a.1 = (0, 0) /\ a.2.1 = (0, 0) else is2 a.1 /\ is2 a.2.1 /\ pZ (of2 a.2.1) (of2 a.2.1) = sv (of2 a.1)
instance (a : A1) : Decidable (may1 a) := by unfold may1; infer_instance
instance (a : A2) : Decidable (may2 a) := by unfold may2; infer_instance
def q7 (a : A1) : Prop := (wY (in1 a) Rr 64).2.2 = 0
def q6 (a : A2) : Prop := (xt (in2 a) Rr 64).2.2 = ((0, 0) : F2)
instance (a : A1) : Decidable (q7 a) := by unfold q7; infer_instance
instance (a : A2) : Decidable (q6 a) := by unfold q6; infer_instance
theorem uR {x : Nat} (hx : small x) : flat [.q (ofP x)] = flat [.n 6 x] ↔ is1 x := by
 constructor
 ·intro e
  have h1 := v9 6 (ofP x).val x (Nat.lt_trans (ofP x).isLt (by decide)) (show x < 18446744073709551616 ^ 6 by have h : x < 39402006196394479212279040100143613805079739270465446667948293404245721771497210611414266254884915640806627990306816 := hx; simpa using h) (by simpa [flat, Ch.cells] using e)
  have h2 := (ofP x).isLt
  rw [h1] at h2
  exact h2
 ·intro h
  simp only [flat, Ch.cells]
  rw [show (ofP x).val = x from Nat.mod_eq_of_lt h]
theorem B3 : ∀ (l m : List Nat), l.length = m.length -> (∀ x, x ∈ l -> small x) -> (∀ x, x ∈ m -> small x) -> ∀ r s, flat (l.map (.n 6) ++ r) = flat (m.map (.n 6) ++ s) -> l = m /\ flat r = flat s
 | [], [], _, _, _, _, _, e => ⟨rfl, e⟩
 | [], _ :: _, h, _, _, _, _, _ => by simp at h
 | _ :: _, [], h, _, _, _, _, _ => by simp at h
 | x :: l, y :: m, h, hl, hm, r, s, e => by
  have e' : limbs 6 x ++ flat (l.map (.n 6) ++ r) = limbs 6 y ++ flat (m.map (.n 6) ++ s) := e
  have h1 := List.append_inj e' (by simp only [limbs, List.length_cons, List.length_nil])
  have hx : x < 18446744073709551616 ^ 6 := by have h : x < 39402006196394479212279040100143613805079739270465446667948293404245721771497210611414266254884915640806627990306816 := hl x (by simp); simpa using h
  have hy : y < 18446744073709551616 ^ 6 := by have h : y < 39402006196394479212279040100143613805079739270465446667948293404245721771497210611414266254884915640806627990306816 := hm y (by simp); simpa using h
  have h2 := v9 6 x y hx hy h1.1
  have h3 := B3 l m (by simpa using h) (fun x hx => hl x (by simp [hx])) (fun x hx => hm x (by simp [hx])) r s h1.2
  exact ⟨by rw [h2, h3.1], h3.2⟩
theorem LP : small 0 := by unfold small; decide
theorem wA (x : Fin Pp) : small x.val := Nat.lt_trans x.isLt (by decide)
def z6 : List Ch := [.c (.int .u64 0), .c (.int .u64 0), .c (.int .u64 0), .c (.int .u64 0), .c (.int .u64 0), .c (.int .u64 0)]
theorem DY {x y : Nat} (hx : small x) (hy : small y) (b : Bool) : flat [.n 6 x, .n 6 y, .c (.bool b)] = flat (z6 ++ z6 ++ [.c (.bool b)]) ↔ x = 0 /\ y = 0 := by
 have e : flat (z6 ++ z6 ++ [.c (.bool b)]) = flat ([0, 0].map (.n 6) ++ [.c (.bool b)]) := rfl
 rw [e]
 constructor
 ·intro h
  have := (B3 [x, y] [0, 0] rfl (by simp [hx, hy]) (by simp [LP]) [.c (.bool b)] [.c (.bool b)] h).1
  simpa using this
 ·rintro ⟨rfl, rfl⟩; rfl
theorem EN {x y : N2} (hx : qe x) (hy : qe y) (b : Bool) : flat [.n 6 x.1, .n 6 x.2, .n 6 y.1, .n 6 y.2, .c (.bool b)] = flat (z6 ++ z6 ++ z6 ++ z6 ++ [.c (.bool b)]) ↔ x = (0, 0) /\ y = (0, 0) := by
 have e : flat (z6 ++ z6 ++ z6 ++ z6 ++ [.c (.bool b)]) = flat ([0, 0, 0, 0].map (.n 6) ++ [.c (.bool b)]) := rfl
 rw [e]
 obtain ⟨x1, x2⟩ := x
 obtain ⟨y1, y2⟩ := y
 constructor
 ·intro h
  have := (B3 [x1, x2, y1, y2] [0, 0, 0, 0] rfl (by simp [hx.1, hx.2, hy.1, hy.2]) (by simp [LP]) [.c (.bool b)] [.c (.bool b)] h).1
  simp only [List.cons.injEq, and_true] at this
  exact ⟨by rw [this.1, this.2.1], by rw [this.2.2.1, this.2.2.2]⟩
 ·rintro ⟨h1, h2⟩
  simp only [pi0] at h1 h2
  rw [h1.1, h1.2, h2.1, h2.2]; rfl
theorem uK {x : N2} (hx : qe x) : flat [.q (of2 x).1, .q (of2 x).2] = flat [.n 6 x.1, .n 6 x.2] ↔ is2 x := by
 constructor
 ·intro e
  have := (B3 [(of2 x).1.val, (of2 x).2.val] [x.1, x.2] rfl (by simp [wA]) (by simp [hx.1, hx.2]) [] [] e).1
  simp only [List.cons.injEq, and_true] at this
  exact ⟨by rw [← this.1]; exact (of2 x).1.isLt, by rw [← this.2]; exact (of2 x).2.isLt⟩
 ·intro h
  have e1 : (of2 x).1.val = x.1 := Nat.mod_eq_of_lt h.1
  have e2 : (of2 x).2.val = x.2 := Nat.mod_eq_of_lt h.2
  simp only [flat, Ch.cells, e1, e2]
end Go.Ev
set_option linter.unusedSimpArgs false
set_option linter.unusedVariables false
namespace Go.Ev
open Go.RowKit
instance (x : Fin Pp) : Decidable (hiP x) := inferInstanceAs (Decidable (_ < _))
instance (x : F2) : Decidable (hi2 x) := by unfold hi2; infer_instance
def yP (l : LU0) (f : Int) : LU0 :=
 match l with
 | b :: r => UInt8.ofNat (bits BinOp.or IntKind.u8 (b.toNat : Int) f).toNat :: r
 | [] => []
def b1 (x : Fin Pp) : LU0 := beL 48 x.val
def b2 (x : F2) : LU0 := beL 48 x.2.val ++ beL 48 x.1.val
theorem AH (x : Fin Pp) : (b1 x).length = 48 := uN _ _
theorem A7 (x : F2) : (b2 x).length = 96 := by unfold b2; rw [List.length_append, uN, uN]
def vg (inf high short : Bool) : Int :=
 match inf, high, short with
 | false, _, false => 0
 | true, _, false => 64
 | false, false, true => 128
 | false, true, true => 160
 | true, false, true => 192
 | true, true, true => 224
def zP (x y : Fin Pp) (inf short : Bool) : LU0 := yP (match short with | true => b1 x | false => b1 x ++ b1 y) (vg inf (decide (hiP y)) short)
def z3 (x y : F2) (inf short : Bool) : LU0 := yP (match short with | true => b2 x | false => b2 x ++ b2 y) (vg inf (decide (hi2 y)) short)
def pO (l : LU0) : Nat := match l with | b :: _ => b.toNat / 32 | [] => 0
def pJ (l : LU0) : LU0 := match l with | b :: r => UInt8.ofNat (b.toNat % 32) :: r | [] => []
def sP (l : LU0) : Prop := ∀ b, b ∈ l -> b = 0
def XPar.bool : XPar Bool where
 p v := match v with
  | .t (.v (.bool b)) => some b
  | _ => none
 c b := .t (.v (.bool b))
 ok v x h w y hy := by
  split at h
  ·simp only [oi0] at h; subst h; exact hy
  ·cases h
variable {P : Program}
end Go.Ev
set_option linter.unusedSimpArgs false
set_option linter.unusedVariables false
namespace Go.Ev
open Go.RowKit
theorem Cq (l : LU0) (f : Int) : (yP l f).length = l.length := by
 match l with
 | [] => rfl
 | b :: r => rfl
def body1 (x y : Fin Pp) (s : Bool) : LU0 := match s with | true => b1 x | false => b1 x ++ b1 y
def body2 (x y : F2) (s : Bool) : LU0 := match s with | true => b2 x | false => b2 x ++ b2 y
theorem Iv (x y : Fin Pp) (i s : Bool) : (zP x y i s).length = match s with | true => 48 | false => 96 := by
 unfold zP
 rw [Cq]
 cases s
 ·show (b1 x ++ b1 y).length = 96
  rw [List.length_append, AH, AH]
 ·exact AH x
theorem I8 (x y : F2) (i s : Bool) : (z3 x y i s).length = match s with | true => 96 | false => 192 := by
 unfold z3
 rw [Cq]
 cases s
 ·show (b2 x ++ b2 y).length = 192
  rw [List.length_append, A7, A7]
 ·exact A7 x
end Go.Ev
