/- The power of p of a sum, where p is 0. Nothing here names a program. -/
import Derived.Test.YtapapelfjjnhmaaAl3
set_option linter.unusedSimpArgs false
set_option linter.unusedVariables false
namespace Go.Ev

/-- Binomials. -/
def chs : Nat → Nat → Nat
  | _, 0 => 1
  | 0, _ + 1 => 0
  | n + 1, k + 1 => chs n k + chs n (k + 1)
theorem chs_zero (n : Nat) : chs n 0 = 1 := by cases n <;> rfl
theorem chs_big : ∀ (n k : Nat), n < k → chs n k = 0
  | _, 0, h => by omega
  | 0, k + 1, _ => rfl
  | n + 1, k + 1, h => by
    show chs n k + chs n (k + 1) = 0
    rw [chs_big n k (by omega), chs_big n (k + 1) (by omega)]
theorem chs_self : ∀ n, chs n n = 1
  | 0 => rfl
  | n + 1 => by
    show chs n n + chs n (n + 1) = 1
    rw [chs_self n, chs_big n (n + 1) (by omega)]
theorem chs_mul : ∀ (n k : Nat), (k + 1) * chs (n + 1) (k + 1) = (n + 1) * chs n k
  | 0, 0 => rfl
  | 0, k + 1 => by
    show (k + 2) * (chs 0 (k + 1) + chs 0 (k + 2)) = 1 * chs 0 (k + 1)
    rw [show chs 0 (k + 1) = 0 from rfl, show chs 0 (k + 2) = 0 from rfl]
    omega
  | n + 1, 0 => by
    have h : 1 * chs (n + 1) 1 = (n + 1) * chs n 0 := chs_mul n 0
    show 1 * (chs (n + 1) 0 + chs (n + 1) 1) = (n + 1 + 1) * chs (n + 1) 0
    rw [chs_zero n] at h
    rw [chs_zero (n + 1)]
    omega
  | n + 1, k + 1 => by
    have h1 := chs_mul n k
    have h2 := chs_mul n (k + 1)
    have e1 : chs (n + 2) (k + 2) = chs (n + 1) (k + 1) + chs (n + 1) (k + 2) := rfl
    have e2 : chs (n + 1) (k + 1) = chs n k + chs n (k + 1) := rfl
    show (k + 2) * chs (n + 2) (k + 2) = (n + 2) * chs (n + 1) (k + 1)
    rw [e1, Nat.mul_add, h2]
    have e3 : (k + 2) * chs (n + 1) (k + 1) = (n + 1) * chs n k + chs (n + 1) (k + 1) := by rw [← h1, Nat.succ_mul]
    rw [e3]
    have e4 : (n + 2) * chs (n + 1) (k + 1) = (n + 1) * chs (n + 1) (k + 1) + chs (n + 1) (k + 1) := Nat.succ_mul _ _
    rw [e4]
    have e5 : (n + 1) * chs (n + 1) (k + 1) = (n + 1) * chs n k + (n + 1) * chs n (k + 1) := by rw [e2, Nat.mul_add]
    omega
theorem chs_dvd {p : Nat} (hp : Pr p) {k : Nat} (h1 : 0 < k) (h2 : k < p) : p ∣ chs p k := by
  obtain ⟨k, rfl⟩ : ∃ j, k = j + 1 := ⟨k - 1, by omega⟩
  obtain ⟨n, rfl⟩ : ∃ j, p = j + 1 := ⟨p - 1, by omega⟩
  have h := chs_mul n k
  have hd : n + 1 ∣ (k + 1) * chs (n + 1) (k + 1) := ⟨chs n k, h⟩
  rcases hp.euclid hd with h3 | h3
  · exact absurd (Nat.le_of_dvd (by omega) h3) (by omega)
  · exact h3

/-- Sums. -/
def sm_ {α : Type} [Lean.Grind.CommRing α] (f : Nat → α) : Nat → α
  | 0 => 0
  | n + 1 => sm_ f n + f n
section
variable {α : Type} [Lean.Grind.CommRing α]
theorem sm_congr {f g : Nat → α} : ∀ n, (∀ k, k < n → f k = g k) → sm_ f n = sm_ g n
  | 0, _ => rfl
  | n + 1, h => by
    show sm_ f n + f n = sm_ g n + g n
    rw [sm_congr n (fun k hk => h k (by omega)), h n (by omega)]
theorem sm_add (f g : Nat → α) : ∀ n, sm_ (fun k => f k + g k) n = sm_ f n + sm_ g n
  | 0 => by show (0 : α) = 0 + 0; grind
  | n + 1 => by
    show sm_ (fun k => f k + g k) n + (f n + g n) = sm_ f n + f n + (sm_ g n + g n)
    rw [sm_add f g n]; grind
theorem sm_mul (f : Nat → α) (c : α) : ∀ n, sm_ (fun k => f k * c) n = sm_ f n * c
  | 0 => by show (0 : α) = 0 * c; grind
  | n + 1 => by
    show sm_ (fun k => f k * c) n + f n * c = (sm_ f n + f n) * c
    rw [sm_mul f c n]; grind
theorem sm_first (f : Nat → α) : ∀ n, sm_ f (n + 1) = f 0 + sm_ (fun k => f (k + 1)) n
  | 0 => by show (0 : α) + f 0 = f 0 + 0; grind
  | n + 1 => by
    show sm_ f (n + 1) + f (n + 1) = f 0 + (sm_ (fun k => f (k + 1)) n + f (n + 1))
    rw [sm_first f n]; grind
theorem sm_zero {f : Nat → α} : ∀ n, (∀ k, k < n → f k = 0) → sm_ f n = 0
  | 0, _ => rfl
  | n + 1, h => by
    show sm_ f n + f n = 0
    rw [sm_zero n (fun k hk => h k (by omega)), h n (by omega)]; grind

/-- Powers, by products with the number behind. -/
def pwr (x : α) : Nat → α
  | 0 => 1
  | n + 1 => pwr x n * x
def nc : Nat → α
  | 0 => 0
  | n + 1 => nc n + 1
theorem nc_add (m : Nat) : ∀ n, (nc (m + n) : α) = nc m + nc n
  | 0 => by show (nc m : α) = nc m + 0; grind
  | n + 1 => by
    show (nc (m + n) + 1 : α) = nc m + (nc n + 1)
    rw [nc_add m n]; grind
theorem nc_mul (m : Nat) : ∀ n, (nc (m * n) : α) = nc m * nc n
  | 0 => by show (0 : α) = nc m * 0; grind
  | n + 1 => by
    rw [Nat.mul_succ, nc_add, nc_mul m n]
    show (nc m * nc n + nc m : α) = nc m * (nc n + 1)
    grind
def term (x y : α) (n k : Nat) : α := nc (chs n k) * pwr x k * pwr y (n - k)
theorem binomR (x y : α) : ∀ n, pwr (x + y) n = sm_ (term x y n) (n + 1)
  | 0 => by
    show (1 : α) = 0 + (0 + 1) * 1 * 1
    grind
  | n + 1 => by
    show pwr (x + y) n * (x + y) = _
    rw [binomR x y n, sm_first (term x y (n + 1)) (n + 1)]
    have e1 : sm_ (fun k => term x y (n + 1) (k + 1)) (n + 1) = sm_ (fun k => term x y n k * x + nc (chs n (k + 1)) * pwr x (k + 1) * pwr y (n - k)) (n + 1) := sm_congr _ (fun k hk => by
      unfold term
      rw [show chs (n + 1) (k + 1) = chs n k + chs n (k + 1) from rfl, nc_add, show n + 1 - (k + 1) = n - k by omega]
      show (nc (chs n k) + nc (chs n (k + 1))) * (pwr x k * x) * pwr y (n - k) = nc (chs n k) * pwr x k * pwr y (n - k) * x + nc (chs n (k + 1)) * (pwr x k * x) * pwr y (n - k)
      grind)
    rw [e1, sm_add, sm_mul]
    have e2 : sm_ (term x y n) (n + 1) * y = term x y (n + 1) 0 + sm_ (fun k => nc (chs n (k + 1)) * pwr x (k + 1) * pwr y (n - k)) (n + 1) := by
      rw [← sm_mul, sm_first]
      have e3 : sm_ (fun k => nc (chs n (k + 1)) * pwr x (k + 1) * pwr y (n - k)) (n + 1) = sm_ (fun k => term x y n (k + 1) * y) n := by
        show sm_ (fun k => nc (chs n (k + 1)) * pwr x (k + 1) * pwr y (n - k)) n + nc (chs n (n + 1)) * pwr x (n + 1) * pwr y (n - n) = _
        rw [chs_big n (n + 1) (by omega), sm_congr n (g := fun k => term x y n (k + 1) * y) (fun k hk => by
          unfold term
          show nc (chs n (k + 1)) * pwr x (k + 1) * pwr y (n - k) = nc (chs n (k + 1)) * pwr x (k + 1) * pwr y (n - (k + 1)) * y
          rw [show n - k = (n - (k + 1)) + 1 by omega]
          show nc (chs n (k + 1)) * pwr x (k + 1) * (pwr y (n - (k + 1)) * y) = _
          grind)]
        show _ + 0 * pwr x (n + 1) * pwr y (n - n) = _
        grind
      rw [e3]
      have e4 : term x y n 0 * y = term x y (n + 1) 0 := by
        unfold term
        rw [chs_zero, chs_zero]
        show nc 1 * 1 * pwr y n * y = nc 1 * 1 * (pwr y n * y)
        grind
      rw [e4]
    have e5 : sm_ (term x y n) (n + 1) * (x + y) = sm_ (term x y n) (n + 1) * x + sm_ (term x y n) (n + 1) * y := by grind
    rw [e5, e2]; grind
/-- The dream: where p is 0, the power of p of a sum is the sum of the powers. -/
theorem dream {p : Nat} (hp : Pr p) (h0 : (nc p : α) = 0) (x y : α) : pwr (x + y) p = pwr x p + pwr y p := by
  have h2 := hp.1
  obtain ⟨n, rfl⟩ : ∃ j, p = j + 1 := ⟨p - 1, by omega⟩
  rw [binomR]
  show sm_ (term x y (n + 1)) (n + 1) + term x y (n + 1) (n + 1) = _
  rw [sm_first, sm_zero n (fun k hk => by
    obtain ⟨d, hd⟩ := chs_dvd hp (k := k + 1) (by omega) (by omega)
    unfold term
    rw [hd, nc_mul, h0]; grind)]
  have e1 : term x y (n + 1) 0 = pwr y (n + 1) := by
    unfold term
    rw [chs_zero]
    show (0 + 1) * 1 * pwr y (n + 1) = _
    grind
  have e2 : term x y (n + 1) (n + 1) = pwr x (n + 1) := by
    unfold term
    rw [chs_self, Nat.sub_self]
    show (0 + 1) * pwr x (n + 1) * 1 = _
    grind
  rw [e1, e2]; grind
end
end Go.Ev
