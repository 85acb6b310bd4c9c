/- Bytes of numbers, the highest first, and back. Nothing here names a program. -/
import Derived.Test.YtmbllhibdbeplaaRuz
set_option linter.unusedSimpArgs false
set_option linter.unusedVariables false
namespace Go.Ev
def beL : Nat → Nat → List UInt8
  | 0, _ => []
  | n + 1, x => UInt8.ofNat (x / 256 ^ n % 256) :: beL n x
theorem beL_length : ∀ n x, (beL n x).length = n
  | 0, _ => rfl
  | n + 1, x => by simp [beL, beL_length n x]
theorem beL_range (x : Nat) : ∀ n, beL n x = (List.range n).map (fun k => UInt8.ofNat (x / 256 ^ (n - 1 - k) % 256))
  | 0 => rfl
  | n + 1 => by
    rw [List.range_succ_eq_map, List.map_cons, List.map_map]
    show UInt8.ofNat (x / 256 ^ n % 256) :: beL n x = _
    rw [beL_range x n]
    congr 1
    refine List.map_congr_left fun k _ => ?_
    simp only [Function.comp]
    rw [show n + 1 - 1 - (k + 1) = n - 1 - k by omega]
/-- A byte of a string; 0 behind it. -/
def byt (l : List UInt8) (i : Nat) : Nat := ((ofL l)[i]?.getD 0).toNat
theorem byt_lt (l : List UInt8) (i : Nat) : byt l i < 256 := UInt8.toNat_lt _
theorem ofL_get (l : List UInt8) (i : Nat) : (ofL l)[i]? = l[i]? := by
  by_cases h : i < l.length
  · have h' : i < (ofL l).size := h
    rw [ByteArray.getElem?_lt' _ _ h', List.getElem?_eq_getElem h]
    rfl
  · have h' : ¬ i < (ofL l).size := h
    rw [List.getElem?_eq_none (by omega)]
    exact getElem?_neg _ _ h'
theorem byt_get (l : List UInt8) (i : Nat) : byt l i = ((l[i]?).getD 0).toNat := by unfold byt; rw [ofL_get]
/-- The number that m bytes from k times 8 on make. -/
def pre (l : List UInt8) (k : Nat) : Nat → Nat
  | 0 => 0
  | m + 1 => pre l k m * 256 + byt l (8 * k + m)
theorem pre_lt (l : List UInt8) (k : Nat) : ∀ m, pre l k m < 256 ^ m
  | 0 => by simp [pre]
  | m + 1 => by
    have h1 := pre_lt l k m
    have h2 := byt_lt l (8 * k + m)
    rw [Nat.pow_succ]
    simp only [pre]
    omega
theorem pre_join (l : List UInt8) (k : Nat) : ∀ m, pre l 0 (8 * k + m) = pre l 0 (8 * k) * 256 ^ m + pre l k m
  | 0 => by simp [pre]
  | m + 1 => by
    rw [← Nat.add_assoc]
    simp only [pre]
    rw [pre_join l k m, Nat.pow_succ, Nat.zero_add, Nat.add_mul, Nat.mul_assoc]
    omega
theorem pre_eight (l : List UInt8) (k : Nat) : pre l 0 (8 * (k + 1)) = pre l 0 (8 * k) * 18446744073709551616 + pre l k 8 := by
  rw [show 8 * (k + 1) = 8 * k + 8 by omega, pre_join]
/-- The number of a string of so many bytes. -/
def deN (n : Nat) (l : List UInt8) : Nat := pre l 0 n
theorem deN_lt (n : Nat) (l : List UInt8) : deN n l < 256 ^ n := pre_lt l 0 n
theorem pre_byte (l : List UInt8) : ∀ (n j : Nat), j < n → pre l 0 n / 256 ^ j % 256 = byt l (n - 1 - j)
  | 0, j, h => by omega
  | n + 1, 0, _ => by
    simp only [pre, Nat.pow_zero, Nat.div_one, Nat.mul_zero, Nat.zero_add]
    have := byt_lt l n
    rw [show n + 1 - 1 - 0 = n by omega]
    omega
  | n + 1, j + 1, h => by
    have ih := pre_byte l n j (by omega)
    have h2 := byt_lt l n
    rw [Nat.pow_succ, Nat.mul_comm, ← Nat.div_div_eq_div_mul]
    simp only [pre, Nat.mul_zero, Nat.zero_add]
    rw [show (pre l 0 n * 256 + byt l n) / 256 = pre l 0 n by omega, ih, show n + 1 - 1 - (j + 1) = n - 1 - j by omega]
theorem be_de {n : Nat} {l : List UInt8} (h : l.length = n) : beL n (deN n l) = l := by
  rw [beL_range]
  apply List.ext_getElem?
  intro k
  by_cases hk : k < n
  · rw [List.getElem?_map, List.getElem?_range hk]
    simp only [Option.map_some, deN]
    rw [pre_byte l n (n - 1 - k) (by omega), show n - 1 - (n - 1 - k) = k by omega, byt_get, List.getElem?_eq_getElem (by omega)]
    simp
  · rw [List.getElem?_eq_none (by simp; omega), List.getElem?_eq_none (by omega)]
theorem byt_be (n x k : Nat) (h : k < n) : byt (beL n x) k = x / 256 ^ (n - 1 - k) % 256 := by
  rw [byt_get, beL_range, List.getElem?_map, List.getElem?_range h]
  simp
theorem pre_be (n x : Nat) (hx : x < 256 ^ n) : ∀ m, m ≤ n → pre (beL n x) 0 m = x / 256 ^ (n - m)
  | 0, _ => by simp only [pre, Nat.sub_zero]; rw [Nat.div_eq_of_lt hx]
  | m + 1, h => by
    simp only [pre, Nat.mul_zero, Nat.zero_add]
    rw [pre_be n x hx m (by omega), byt_be n x m (by omega), show n - m = (n - (m + 1)) + 1 by omega, show n - 1 - m = n - (m + 1) by omega, Nat.pow_succ, ← Nat.div_div_eq_div_mul]
    omega
theorem de_be (n x : Nat) (hx : x < 256 ^ n) : deN n (beL n x) = x := by
  unfold deN
  rw [pre_be n x hx n (Nat.le_refl _), Nat.sub_self, Nat.pow_zero, Nat.div_one]

/-! ### One byte of a limb -/
theorem limb_byte (x i s : Nat) (hs : s + 8 ≤ 64) : x / 18446744073709551616 ^ i % 18446744073709551616 / 2 ^ s % 256 = x / 2 ^ (64 * i + s) % 256 := by
  have e1 : (18446744073709551616 : Nat) ^ i = 2 ^ (64 * i) := by rw [Nat.pow_mul]
  have e2 : (18446744073709551616 : Nat) = 2 ^ s * 2 ^ (64 - s) := by rw [← Nat.pow_add, show s + (64 - s) = 64 by omega]
  rw [e1]
  generalize hy : x / 2 ^ (64 * i) = y
  rw [e2, Nat.mod_mul_right_div_self, Nat.mod_mod_of_dvd _ (show (256 : Nat) ∣ 2 ^ (64 - s) from by
    rw [show (256 : Nat) = 2 ^ 8 from rfl]; exact Nat.pow_dvd_pow 2 (by omega)), ← hy, Nat.div_div_eq_div_mul, ← Nat.pow_add]
theorem wrap_u8 (n : Int) : IntKind.u8.wrap n = n % 256 := by
  simp [IntKind.wrap, IntKind.signed, IntKind.bits]
theorem byte_put (x i s : Nat) (hs : s + 8 ≤ 64) : (IntKind.u8.wrap ((x / 18446744073709551616 ^ i % 18446744073709551616 / 2 ^ min s 64 % 18446744073709551616 : Nat) : Int)).toNat = x / 2 ^ (64 * i + s) % 256 := by
  rw [wrap_u8, Nat.min_eq_left (by omega), ← limb_byte x i s hs]
  have h1 : x / 18446744073709551616 ^ i % 18446744073709551616 < 18446744073709551616 := Nat.mod_lt _ (by decide)
  have h2 := Nat.div_le_self (x / 18446744073709551616 ^ i % 18446744073709551616) (2 ^ s)
  generalize x / 18446744073709551616 ^ i % 18446744073709551616 / 2 ^ s = z at *
  omega
theorem byte_ref (x i s : Nat) (hs : s + 8 ≤ 64) : (IntKind.u8.wrap ((x / 18446744073709551616 ^ i % 18446744073709551616 / 2 ^ min s 64 % 18446744073709551616 % (256 % 18446744073709551616) % 18446744073709551616 : Nat) : Int)).toNat = x / 2 ^ (64 * i + s) % 256 := by
  rw [show (256 % 18446744073709551616 : Nat) = 256 from rfl, wrap_u8, Nat.min_eq_left (by omega), ← limb_byte x i s hs]
  have h1 : x / 18446744073709551616 ^ i % 18446744073709551616 < 18446744073709551616 := Nat.mod_lt _ (by decide)
  have h2 := Nat.div_le_self (x / 18446744073709551616 ^ i % 18446744073709551616) (2 ^ s)
  generalize x / 18446744073709551616 ^ i % 18446744073709551616 / 2 ^ s = z at *
  omega
theorem two_pow_256 (k : Nat) : 2 ^ (8 * k) = 256 ^ k := by rw [Nat.pow_mul]

/-! ### Limbs out of bytes -/
theorem or_byte (a b : Nat) (ha : a < 72057594037927936) (hb : b < 256) : (a * 256 % 18446744073709551616 ||| b % 18446744073709551616) % 18446744073709551616 = (a * 256 + b) % 18446744073709551616 := by
  have h1 : a * 256 % 18446744073709551616 = a * 256 := Nat.mod_eq_of_lt (by omega)
  have h2 : b % 18446744073709551616 = b := Nat.mod_eq_of_lt (by omega)
  rw [h1, h2]
  have h3 : a * 256 ||| b = a * 256 + b := by
    have := Nat.shiftLeft_add_eq_or_of_lt (i := 8) (b := b) (by omega) a
    rw [Nat.shiftLeft_eq] at this
    exact this.symm
  rw [h3]
theorem pre_or (l : List UInt8) (k m : Nat) (hm : m < 8) : (pre l k m * 2 ^ min 8 64 % 18446744073709551616 ||| byt l (8 * k + m) % 18446744073709551616) % 18446744073709551616 = pre l k (m + 1) % 18446744073709551616 := by
  have h1 := pre_lt l k m
  have h2 : 256 ^ m ≤ 256 ^ 7 := Nat.pow_le_pow_right (by decide) (by omega)
  exact or_byte _ _ (Nat.lt_of_lt_of_le h1 h2) (byt_lt _ _)
theorem pre_or0 (l : List UInt8) (k : Nat) : (0 ||| byt l (8 * k + 0) % 18446744073709551616) % 18446744073709551616 = pre l k 1 % 18446744073709551616 := by
  simp [pre]
/-- Bytes put in from above. -/
def top (l : List UInt8) (k m : Nat) : Nat := pre l k m * 256 ^ (8 - m)
theorem top_step (l : List UInt8) (k m : Nat) (hm : m < 8) : (top l k m + byt l (8 * k + m) * 2 ^ min (8 * (7 - m)) 64) % 18446744073709551616 = top l k (m + 1) % 18446744073709551616 := by
  congr 1
  unfold top
  rw [Nat.min_eq_left (by omega), two_pow_256, show 8 - m = (8 - (m + 1)) + 1 by omega, show 7 - m = 8 - (m + 1) by omega, Nat.pow_succ]
  simp only [pre]
  rw [Nat.add_mul]
  congr 1
  rw [Nat.mul_assoc, Nat.mul_comm 256]
theorem top_step0 (l : List UInt8) (k : Nat) : (0 + byt l (8 * k + 0) * 2 ^ min (8 * 7) 64) % 18446744073709551616 = top l k 1 % 18446744073709551616 := by
  have h := top_step l k 0 (by omega)
  simp [top, pre]
theorem top_all (l : List UInt8) (k : Nat) : top l k 8 = pre l k 8 := by simp [top]
theorem conv_byte (l : List UInt8) (i : Nat) : IntKind.u64 = IntKind.u64 ∧ IntKind.u64.wrap ((byt l i : Nat) : Int) = ((byt l i % 18446744073709551616 : Nat) : Int) := ⟨rfl, by rw [wrap_u64]; omega⟩
theorem read_byte (l : List UInt8) (n i : Nat) (h : l.length = n) (hi : i < n) : (0 : Int) ≤ (i : Int) ∧ (i : Int) < (ofL l).size ∧ ((ofL l)[(i : Int).toNat]?.getD 0).toNat = byt l i := ⟨by omega, by show (i : Int) < (l.length : Int); omega, rfl⟩
def lookL : List Nat → Nat → Bool
  | [], _ => false
  | a :: l, i => match Nat.beq i a with | true => true | false => lookL l i
/-- The choice of this number. -/
def selO : List Ora → Nat → Ora
  | [], _ => { ch := 0, hi := fun _ => 0 }
  | a :: l, i => match Nat.beq i 0 with | true => a | false => selO l (i - 1)
/-- A string as an argument. -/
def XPar.str : XPar (List UInt8) where
  p v := match v with
    | .t (.v (.string s)) => some s.data.toList
    | _ => none
  c l := .t (.v (.string (ofL l)))
  ok v x h w y hy := by
    split at h
    · rename_i s
      simp only [Option.some.injEq] at h; subst h
      have e : ofL s.data.toList = s := by unfold ofL; rw [Array.toArray_toList]
      rw [e]; exact hy
    · cases h
end Go.Ev
