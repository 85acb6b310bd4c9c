/- Pruned: Ha. -/
import Derived.Test.YtokjhbmmdmeafaaGreatQE2
import Derived.Test.YtokjhbmmdmeafaaGreatQZhOpn
import Derived.Lib.BitFns
set_option linter.unusedSimpArgs false
set_option linter.unusedVariables false
namespace Go.Ev
section
variable {m R Ri : Nat}
theorem zv {v A : Nat} (hR : R * Ri % m = 1 % m) (hv : v < m) (h : v * R % m = A % m) : v = A * Ri % m := by
 have e : v % m = (v * R) * Ri % m := by rw [Nat.mul_assoc, Nat.mul_mod, hR, ← Nat.mul_mod, Nat.mul_one]
 rw [Nat.mod_eq_of_lt hv] at e
 rw [e, Nat.mul_mod, h, ← Nat.mul_mod]
theorem adq (a b c : Nat) : (a % m * (b % m) * c) % m = (a * b * c) % m := by
 rw [Nat.mul_mod (a % m * (b % m)) c, ← Nat.mul_mod a b, ← Nat.mul_mod]
theorem S3 (a b : Nat) : (a % m * b) % m = (a * b) % m := by
 rw [Nat.mul_mod, Nat.mod_mod, ← Nat.mul_mod]
theorem Ye (hR : R * Ri % m = 1 % m) (a : Nat) : (a * (R * Ri)) % m = a % m := by
 rw [Nat.mul_mod, hR, ← Nat.mul_mod, Nat.mul_one]
theorem N7 {x y v : Nat} (hR : R * Ri % m = 1 % m) (hv : v < m) (h : v * R % m = (x * R % m) * (y * R % m) % m) : v = (x * y % m) * R % m := by
 rw [zv hR hv h, adq, S3]
 have : x * R * (y * R) * Ri = (x * y * R) * (R * Ri) := by ac_rfl
 rw [this, Ye hR]
theorem Lm {a v : Nat} (hR : R * Ri % m = 1 % m) (hv : v < m) (h : v * R % m = (a * (R * R % m)) % m) : v = (a % m) * R % m := by
 rw [zv hR hv h, S3]
 have : (a * (R * R % m) * Ri) % m = (a * R * (R * Ri)) % m := by
  rw [Nat.mul_mod (a * (R * R % m)) Ri, Nat.mul_mod a (R * R % m), Nat.mod_mod, ← Nat.mul_mod a (R * R), ← Nat.mul_mod]
  congr 1
  ac_rfl
 rw [this, Ye hR]
theorem Hr {x v : Nat} (hR : R * Ri % m = 1 % m) (hx : x < m) (hv : v < m) (h : v * R % m = (x * R % m) * 1 % m) : v = x := by
 rw [Nat.mul_one, Nat.mod_mod] at h
 rw [zv hR hv h, Nat.mul_assoc, Ye hR, Nat.mod_eq_of_lt hx]
theorem R6 (x y : Nat) : (x * R % m + y * R % m) % m = ((x + y) % m) * R % m := by
 rw [← Nat.add_mod, ← Nat.add_mul, S3]
theorem PK (hm : 0 < m) {x y : Nat} (hy : y < m) : (x * R % m + (m - y * R % m)) % m = ((m - y + x) % m) * R % m := by
 rw [S3]
 have h1 : (m - y) * R % m = (m - y * R % m) % m := by
  have e1 : (m - y) * R + y * R = m * R := by rw [← Nat.add_mul, Nat.sub_add_cancel (Nat.le_of_lt hy)]
  have e2 : (m - y * R % m) + y * R % m = m := Nat.sub_add_cancel (Nat.le_of_lt (Nat.mod_lt _ hm))
  have e3 : m * (y * R / m) + y * R % m = y * R := Nat.div_add_mod _ _
  have e4 : (m - y) * R + m * (y * R / m + 1) = (m - y * R % m) + m * R := by
   rw [Nat.mul_add, Nat.mul_one]
   generalize (m - y) * R = A at *
   generalize m * (y * R / m) = K at *
   generalize y * R % m = q at *
   omega
  have e5 := congrArg (· % m) e4
  simpa [Nat.add_mul_mod_self_left] using e5
 rw [Nat.add_mul, Nat.add_comm ((m - y) * R), Nat.add_mod, Nat.add_mod (x * R), h1]
 simp [Nat.mod_mod]
end
end Go.Ev
set_option linter.unusedSimpArgs false
set_option linter.unusedVariables false
namespace Go.Ev
abbrev F2 := Fin Pp × Fin Pp
abbrev F6 := F2 × F2 × F2
def m2 (a : F2) : List Ch := [.m a.1, .m a.2]
def q2 (a : F2) : List Ch := [.q a.1, .q a.2]
def m6 (a : F6) : List Ch := [.m a.1.1, .m a.1.2, .m a.2.1.1, .m a.2.1.2, .m a.2.2.1, .m a.2.2.2]
def q6 (a b : F2) : F2 := (a.1 + b.1, a.2 + b.2)
def tH (a b : F2) : F2 := (a.1 - b.1, a.2 - b.2)
def qh (a b : F2) : F2 := (a.1 * b.1 - a.2 * b.2, (a.1 + a.2) * (b.1 + b.2) - a.1 * b.1 - a.2 * b.2)
def Xn (a : F2) : F2 := (a.1 - a.2, a.1 + a.2)
def uL (a b : F6) : F6 := (q6 a.1 b.1, q6 a.2.1 b.2.1, q6 a.2.2 b.2.2)
def th (a b : F6) : F6 :=
 let x := qh a.1 b.1
 let y := qh a.2.1 b.2.1
 let z := qh a.2.2 b.2.2
 let xy := tH (tH (qh (q6 a.1 a.2.1) (q6 b.1 b.2.1)) x) y
 let xz := tH (tH (qh (q6 a.1 a.2.2) (q6 b.1 b.2.2)) x) z
 let yz := tH (tH (qh (q6 a.2.1 a.2.2) (q6 b.2.1 b.2.2)) y) z
 (q6 x (Xn yz), q6 xy (Xn z), q6 xz y)
def uI : Par F2 := ww.pair ww
def ab5 : Par F6 := uI.pair (uI.pair uI)
abbrev N2 := Nat × Nat
def aaI : Par F2 := LL.pair LL
def KA : Par N2 := vF.pair vF
def of2 (a : N2) : F2 := (ofP a.1, ofP a.2)
def small (a : Nat) : Prop := a < 39402006196394479212279040100143613805079739270465446667948293404245721771497210611414266254884915640806627990306816
def qu (a : N2) : Prop := small a.1 /\ small a.2
def sj (a : F2) : F2 := (-a.1, -a.2)
def XD (a b : F6) : F6 := (tH a.1 b.1, tH a.2.1 b.2.1, tH a.2.2 b.2.2)
def yR (a : F6) : F6 := (sj a.1, sj a.2.1, sj a.2.2)
abbrev F12 := F6 × F6
def m12 (a : F12) : List Ch := m6 a.1 ++ m6 a.2
def n2 (a : N2) : List Ch := [.n 6 a.1, .n 6 a.2]
def one2 : F2 := (1, 0)
def G3 : F6 := (one2, (0, 0), (0, 0))
end Go.Ev
set_option linter.unusedSimpArgs false
set_option linter.unusedVariables false
namespace Go.Ev
end Go.Ev
set_option linter.unusedSimpArgs false
set_option linter.unusedVariables false
namespace Go.Ev
theorem vq {a b : F2} (h1 : a.1 = b.1) (h2 : a.2 = b.2) : a = b := Prod.ext h1 h2
theorem Ib {a b : F6} (h1 : a.1 = b.1) (h2 : a.2.1 = b.2.1) (h3 : a.2.2 = b.2.2) : a = b := Prod.ext h1 (Prod.ext h2 h3)
end Go.Ev
set_option linter.unusedSimpArgs false
set_option linter.unusedVariables false
namespace Go.Ev
theorem FC (a b : F2) : tH a b = q6 a (sj b) := by
 refine vq ?_ ?_ <;> simp only [tH, q6, sj] <;> grind
end Go.Ev
set_option linter.unusedSimpArgs false
set_option linter.unusedVariables false
namespace Go.Ev
def Pr (n : Nat) : Prop := 2 <= n /\ ∀ d, d ∣ n -> d = 1 ∨ d = n
theorem Pr.coprime {p a : Nat} (hp : Pr p) (h : ¬ p ∣ a) : Nat.Coprime p a := by
 have h1 := hp.2 (Nat.gcd p a) (Nat.gcd_dvd_left p a)
 rcases h1 with h1 | h1
 ·exact h1
 ·exact absurd (h1 ▸ Nat.gcd_dvd_right p a) h
theorem Pr.euclid {p a b : Nat} (hp : Pr p) (h : p ∣ a * b) : p ∣ a ∨ p ∣ b := by
 by_cases ha : p ∣ a
 ·exact .inl ha
 ·exact .inr ((hp.coprime ha).dvd_of_dvd_mul_left h)
def cho : Nat -> Nat -> Nat
 | _, 0 => 1
 | 0, _ + 1 => 0
 | n + 1, k + 1 => cho n k + cho n (k + 1)
theorem Ca : ∀ (n k : Nat), n < k -> cho n k = 0
 | 0, k + 1, _ => rfl
 | n + 1, k + 1, h => by simp only [cho]; rw [Ca n k (by omega), Ca n (k + 1) (by omega)]
theorem HV : ∀ n, cho n n = 1
 | 0 => rfl
 | n + 1 => by simp only [cho]; rw [HV n, Ca n (n + 1) (by omega)]
theorem B8 : ∀ (n k : Nat), (n + 1) * cho n k = cho (n + 1) (k + 1) * (k + 1)
 | 0, 0 => rfl
 | 0, k + 1 => by simp [cho]
 | n + 1, 0 => by
  have := B8 n 0
  simp only [cho, Nat.mul_one, Nat.zero_add] at this ⊢
  omega
 | n + 1, k + 1 => by
  have h1 := B8 n k
  have h2 := B8 n (k + 1)
  have e1 : cho (n + 1 + 1) (k + 1 + 1) = cho (n + 1) (k + 1) + cho (n + 1) (k + 1 + 1) := rfl
  have e2 : cho (n + 1) (k + 1) = cho n k + cho n (k + 1) := rfl
  rw [e1, Nat.add_mul (cho (n + 1) (k + 1))]
  rw [e2] at h1 ⊢
  rw [show (n + 1 + 1) * (cho n k + cho n (k + 1)) = (n + 1) * cho n k + (n + 1) * cho n (k + 1) + (cho n k + cho n (k + 1)) by rw [Nat.add_mul (n + 1) 1, Nat.mul_add, Nat.one_mul], h1, h2,
   show (cho n k + cho n (k + 1)) * (k + 1 + 1) = (cho n k + cho n (k + 1)) * (k + 1) + (cho n k + cho n (k + 1)) from Nat.mul_succ _ _]
  omega
def sumN (f : Nat -> Nat) : Nat -> Nat
 | 0 => 0
 | n + 1 => sumN f n + f n
theorem HR (f : Nat -> Nat) (c : Nat) : ∀ n, sumN f n * c = sumN (fun k => f k * c) n
 | 0 => by simp [sumN]
 | n + 1 => by simp only [sumN, Nat.add_mul, HR f c n]
theorem HN (f g : Nat -> Nat) : ∀ n, sumN f n + sumN g n = sumN (fun k => f k + g k) n
 | 0 => rfl
 | n + 1 => by simp only [sumN]; rw [← HN f g n]; omega
theorem wG (f : Nat -> Nat) : ∀ n, sumN f (n + 1) = f 0 + sumN (fun k => f (k + 1)) n
 | 0 => by simp [sumN]
 | n + 1 => by
  rw [sumN, wG f n]
  simp only [sumN]
  omega
theorem Cy {f g : Nat -> Nat} : ∀ {n}, (∀ k, k < n -> f k = g k) -> sumN f n = sumN g n
 | 0, _ => rfl
 | n + 1, h => by simp only [sumN]; rw [Cy (fun k hk => h k (by omega)), h n (by omega)]
theorem Wh (x : Nat) : ∀ n, (x + 1) ^ n = sumN (fun k => cho n k * x ^ k) (n + 1)
 | 0 => by simp [sumN, cho]
 | n + 1 => by
  rw [Nat.pow_succ, Nat.mul_add, Nat.mul_one, Wh x n, HR]
  rw [wG (fun k => cho (n + 1) k * x ^ k) (n + 1)]
  have e1 : sumN (fun k => cho n k * x ^ k) (n + 1) = 1 + sumN (fun k => cho n (k + 1) * x ^ (k + 1)) (n + 1) := by
   rw [wG]
   simp only [sumN]
   rw [Ca n (n + 1) (by omega)]
   simp [cho]
  rw [e1]
  have e2 : sumN (fun k => cho (n + 1) (k + 1) * x ^ (k + 1)) (n + 1) = sumN (fun k => cho n k * x ^ k * x) (n + 1) + sumN (fun k => cho n (k + 1) * x ^ (k + 1)) (n + 1) := by
   rw [HN]
   refine Cy fun k _ => ?_
   simp only [cho, Nat.add_mul, Nat.pow_succ, Nat.mul_assoc]
  rw [e2]
  simp only [cho, Nat.pow_zero, Nat.mul_one]
  omega
theorem Iq {p : Nat} {f : Nat -> Nat} : ∀ {n}, (∀ k, k < n -> p ∣ f k) -> p ∣ sumN f n
 | 0, _ => Nat.dvd_zero p
 | n + 1, h => Nat.dvd_add (Iq fun k hk => h k (by omega)) (h n (by omega))
theorem Pr.dvd_cho {p k : Nat} (hp : Pr p) (h0 : 0 < k) (h1 : k < p) : p ∣ cho p k := by
 obtain ⟨k, rfl⟩ : ∃ j, k = j + 1 := ⟨k - 1, by omega⟩
 obtain ⟨q, rfl⟩ : ∃ q, p = q + 1 := ⟨p - 1, by omega⟩
 have h := B8 q k
 have : (q + 1) ∣ cho (q + 1) (k + 1) * (k + 1) := ⟨cho q k, h.symm⟩
 rcases hp.euclid this with h2 | h2
 ·exact h2
 ·exact absurd (Nat.le_of_dvd (by omega) h2) (by omega)
theorem Pr.dream {p : Nat} (hp : Pr p) (x : Nat) : (x + 1) ^ p % p = (x ^ p + 1) % p := by
 obtain ⟨q, rfl⟩ : ∃ q, p = q + 1 := ⟨p - 1, by have := hp.1; omega⟩
 rw [Wh x (q + 1)]
 rw [sumN]
 rw [wG]
 have hd : (q + 1) ∣ sumN (fun k => cho (q + 1) (k + 1) * x ^ (k + 1)) q := Iq fun k hk => Nat.dvd_trans (hp.dvd_cho (k := k + 1) (by omega) (by omega)) ⟨_, rfl⟩
 obtain ⟨c, hc⟩ := hd
 rw [hc, HV]
 simp only [cho, Nat.pow_zero, Nat.mul_one, Nat.one_mul]
 rw [show 1 + (q + 1) * c + x ^ (q + 1) = x ^ (q + 1) + 1 + (q + 1) * c by omega, Nat.add_mul_mod_self_left]
theorem Pr.fermat {p : Nat} (hp : Pr p) : ∀ x, x ^ p % p = x % p
 | 0 => by rw [Nat.zero_pow (by have := hp.1; omega)]
 | x + 1 => by rw [hp.dream x, Nat.add_mod, hp.fermat x, ← Nat.add_mod]
theorem Pr.fermat1 {p x : Nat} (hp : Pr p) (h : ¬ p ∣ x) : x ^ (p - 1) % p = 1 := by
 have h2 := hp.1
 have h1 := hp.fermat x
 have hx : 0 < x := Nat.pos_of_ne_zero fun e => h (e ▸ Nat.dvd_zero p)
 have e : x ^ p = x * x ^ (p - 1) := by rw [Nat.mul_comm, ← Nat.pow_succ, show (p - 1).succ = p by omega]
 have hle : 1 <= x ^ (p - 1) := Nat.pow_pos hx
 have hd : p ∣ x * (x ^ (p - 1) - 1) := by
  rw [Nat.mul_sub, ← e, Nat.mul_one]
  have hle2 : x <= x ^ p := by rw [e]; exact Nat.le_mul_of_pos_right _ hle
  exact Nat.dvd_of_mod_eq_zero (Nat.sub_mod_eq_zero_of_mod_eq h1)
 have h3 := (hp.coprime h).dvd_of_dvd_mul_left hd
 obtain ⟨c, hc⟩ := h3
 rw [show x ^ (p - 1) = 1 + p * c by omega, Nat.add_mul_mod_self_left, Nat.mod_eq_of_lt (by omega)]
theorem Bl {c s : Nat} (hs : 2 <= s) {m : Nat} (h : c ^ m % s = 1) (k : Nat) : c ^ (m * k) % s = 1 := by
 rw [Nat.pow_mul, Nat.pow_mod, h, Nat.one_pow, Nat.mod_eq_of_lt (by omega)]
theorem UY {c s : Nat} (hs : 2 <= s) : ∀ (a b : Nat), c ^ a % s = 1 -> c ^ b % s = 1 -> c ^ Nat.gcd a b % s = 1 := by
 intro a b
 induction a, b using Nat.gcd.induction with
 | H0 b => intro _ h; rwa [Nat.gcd_zero_left]
 | H1 a b ha ih =>
  intro h1 h2
  rw [Nat.gcd_rec]
  refine ih ?_ h1
  have e := Nat.div_add_mod b a
  rw [← e, Nat.pow_add, Nat.mul_mod, Bl hs h1, Nat.one_mul, Nat.mod_mod] at h2
  exact h2
theorem Vr {q e d : Nat} (hq : Pr q) (he : 0 < e) (h : d ∣ q ^ e) (hne : d ≠ q ^ e) : d ∣ q ^ (e - 1) := by
 obtain ⟨k, hk⟩ := h
 have hk1 : k ≠ 1 := fun e1 => hne (by rw [e1, Nat.mul_one] at hk; exact hk.symm)
 have hqk : q ∣ k := by
  by_cases h : q ∣ k
  ·exact h
  ·exfalso
   have hc : Nat.Coprime k (q ^ e) := (hq.coprime h).symm.pow_right e
   have h2 : k ∣ q ^ e := ⟨d, by rw [hk, Nat.mul_comm]⟩
   exact hk1 (Nat.eq_one_of_dvd_one (by have := Nat.dvd_gcd (Nat.dvd_refl k) h2; rwa [hc] at this))
 obtain ⟨k', rfl⟩ := hqk
 refine ⟨k', ?_⟩
 have e1 : q ^ e = q ^ (e - 1) * q := by rw [← Nat.pow_succ, show (e - 1).succ = e by omega]
 have hq0 : 0 < q := by have := hq.1; omega
 rw [e1] at hk
 have : q ^ (e - 1) * q = d * k' * q := by rw [hk, Nat.mul_assoc, Nat.mul_comm q k']
 exact Nat.eq_of_mul_eq_mul_right hq0 this
theorem NX {c s q e m : Nat} (hs : 2 <= s) (hq : Pr q) (he : 0 < e) (h1 : c ^ (q ^ e) % s = 1) (h2 : c ^ (q ^ (e - 1)) % s ≠ 1) (hm : c ^ m % s = 1) : q ^ e ∣ m := by
 have hg := UY hs _ _ h1 hm
 by_cases h : Nat.gcd (q ^ e) m = q ^ e
 ·exact h ▸ Nat.gcd_dvd_right _ _
 ·exfalso
  obtain ⟨k, hk⟩ := Vr hq he (Nat.gcd_dvd_left _ _) h
  apply h2
  rw [hk]
  exact Bl hs hg k
theorem Fm : ∀ (n : Nat), 2 <= n -> ∃ p, Pr p /\ p ∣ n := by
 intro n
 induction n using Nat.strongRecOn with
 | ind n ih =>
  intro hn
  by_cases h : ∃ d, d ∣ n /\ d ≠ 1 /\ d ≠ n
  ·obtain ⟨d, h1, h2, h3⟩ := h
   have hd : d <= n := Nat.le_of_dvd (by omega) h1
   have hd0 : d ≠ 0 := fun e => by subst e; have := Nat.eq_zero_of_zero_dvd h1; omega
   obtain ⟨p, hp, hpd⟩ := ih d (by omega) (by omega)
   exact ⟨p, hp, Nat.dvd_trans hpd h1⟩
  ·refine ⟨n, ⟨hn, fun d hd => ?_⟩, Nat.dvd_refl n⟩
   by_cases h1 : d = 1
   ·exact .inl h1
   ·by_cases h2 : d = n
    ·exact .inr h2
    ·exact absurd ⟨d, hd, h1, h2⟩ h
def Mj : Nat -> Nat -> Nat -> Nat -> Nat
 | 0, _, _, n => 1 % n
 | f + 1, a, e, n =>
  match Nat.beq e 0 with
  | true => 1 % n
  | false => match Nat.beq (e % 2) 0 with
   | true => Mj f a (e / 2) n ^ 2 % n
   | false => Mj f a (e / 2) n ^ 2 % n * a % n
theorem FS : ∀ (f a e n : Nat), e < 2 ^ f -> Mj f a e n = a ^ e % n
 | 0, a, e, n, h => by
  have : e = 0 := by simpa using h
  subst this; rfl
 | f + 1, a, e, n, h => by
  unfold Mj
  have ih := FS f a (e / 2) n (by rw [Nat.pow_succ] at h; omega)
  split
  ·rename_i h0
   have := Nat.eq_of_beq_eq_true h0
   subst this; rfl
  ·have hs : (a ^ (e / 2) % n) ^ 2 % n = a ^ (e / 2 * 2) % n := by
    rw [← Nat.pow_mod, ← Nat.pow_mul]
   rw [ih, hs]
   split
   ·rename_i h1
    have := Nat.eq_of_beq_eq_true h1
    rw [show e / 2 * 2 = e by omega]
   ·rename_i h1
    have : e % 2 ≠ 0 := fun h => by rw [h] at h1; cases h1
    rw [Nat.mod_mul_mod, ← Nat.pow_succ, show (e / 2 * 2).succ = e by omega]
theorem acH {N a q e : Nat} (hN : 2 <= N) (hq : Pr q) (he : 0 < e) (hd : q ^ e ∣ N - 1) (h1 : a ^ (N - 1) % N = 1) (h2 : Nat.gcd (a ^ ((N - 1) / q) % N + (N - 1)) N = 1) {s : Nat} (hs : Pr s) (hsN : s ∣ N) : q ^ e ∣ s - 1 := by
 have hs2 := hs.1
 have red : ∀ x, x % N = 1 -> x % s = 1 := fun x h => by
  have := Nat.mod_mod_of_dvd x hsN
  rw [h] at this
  rw [← this, Nat.mod_eq_of_lt (by omega)]
 obtain ⟨k, hk⟩ := hd
 have hq0 : 0 < q := by have := hq.1; omega
 have hqe : 0 < q ^ e := Nat.pow_pos hq0
 have e1 : (N - 1) / q = k * q ^ (e - 1) := by
  rw [hk, show q ^ e = q ^ (e - 1) * q by rw [← Nat.pow_succ, show (e - 1).succ = e by omega]]
  rw [Nat.mul_comm (q ^ (e - 1)) q, Nat.mul_assoc, Nat.mul_div_cancel_left _ hq0, Nat.mul_comm]
 refine NX (c := a ^ k) hs2 hq he ?_ ?_ ?_
 ·rw [← Nat.pow_mul, Nat.mul_comm, ← hk]
  exact red _ h1
 ·intro h
  rw [← Nat.pow_mul, ← e1] at h
  have h3 : s ∣ a ^ ((N - 1) / q) % N + (N - 1) := by
   have h4 := Nat.mod_mod_of_dvd (a ^ ((N - 1) / q)) hsN
   rw [h] at h4
   generalize a ^ ((N - 1) / q) % N = x at *
   obtain ⟨t, ht⟩ := hsN
   refine ⟨x / s + t, ?_⟩
   have := Nat.div_add_mod x s
   rw [Nat.mul_add, ← ht]
   omega
  have := Nat.dvd_gcd h3 hsN
  rw [h2] at this
  have := Nat.le_of_dvd (by omega) this
  omega
 ·refine hs.fermat1 fun hd => ?_
  have h3 : s ∣ a ^ (N - 1) := by rw [hk, Nat.mul_comm, Nat.pow_mul]; exact Nat.dvd_trans hd (Nat.dvd_trans ⟨_, (by rw [← Nat.pow_succ', show (q ^ e - 1).succ = q ^ e by omega] : (a ^ k) ^ (q ^ e) = a ^ k * (a ^ k) ^ (q ^ e - 1))⟩ (Nat.dvd_refl _))
  have h4 := red _ h1
  have h5 := Nat.mod_eq_zero_of_dvd h3
  omega
theorem vy {N : Nat} (a q e f : Nat) (hN : 2 <= N) (hq : Pr q) (he : 0 < e) (hd : (N - 1) % q ^ e = 0) (hf : N < 2 ^ f) (h1 : Mj f a (N - 1) N = 1) (h2 : Nat.gcd (Mj f a ((N - 1) / q) N + (N - 1)) N = 1) {s : Nat} (hs : Pr s) (hsN : s ∣ N) : q ^ e ∣ s - 1 := by
 rw [FS f a (N - 1) N (by omega)] at h1
 rw [FS f a ((N - 1) / q) N (Nat.lt_of_le_of_lt (Nat.div_le_self _ _) (by omega))] at h2
 exact acH hN hq he (Nat.dvd_of_mod_eq_zero hd) h1 h2 hs hsN
theorem BX {N F : Nat} (hF : ∀ s, Pr s -> s ∣ N -> F ∣ s - 1) : ∀ d, 0 < d -> d ∣ N -> F ∣ d - 1 := by
 intro d
 induction d using Nat.strongRecOn with
 | ind d ih =>
  intro h0 hd
  by_cases h1 : d = 1
  ·subst h1; exact Nat.dvd_zero F
  ·obtain ⟨p, hp, hpd⟩ := Fm d (by omega)
   obtain ⟨k, rfl⟩ := hpd
   have hk0 : 0 < k := Nat.pos_of_ne_zero fun e => by subst e; simp at h0
   have hp2 := hp.1
   have h3 := ih k (by have := Nat.mul_le_mul_right k hp2; omega) hk0 (Nat.dvd_trans ⟨p, Nat.mul_comm p k⟩ hd)
   have h4 := hF p hp (Nat.dvd_trans ⟨k, rfl⟩ hd)
   obtain ⟨x, hx⟩ := h3
   obtain ⟨y, hy⟩ := h4
   have e1 : p = F * y + 1 := by omega
   have e2 : k = F * x + 1 := by omega
   refine ⟨y * k + x, ?_⟩
   rw [Nat.mul_add, ← hx, ← Nat.mul_assoc, ← hy, Nat.sub_mul]
   have : 1 * k <= p * k := Nat.mul_le_mul_right k (by omega)
   omega
theorem w8 {N F : Nat} (hN : 2 <= N) (hF : ∀ s, Pr s -> s ∣ N -> F ∣ s - 1) (h : N < (F + 1) * (F + 1)) : Pr N := by
 refine ⟨hN, fun d hd => ?_⟩
 obtain ⟨k, hk⟩ := hd
 by_cases h1 : d = 1
 ·exact .inl h1
 by_cases h2 : d = N
 ·exact .inr h2
 exfalso
 have hd0 : 0 < d := Nat.pos_of_ne_zero fun e => by subst e; simp at hk; omega
 have hk0 : 0 < k := Nat.pos_of_ne_zero fun e => by subst e; simp at hk; omega
 have hk1 : k ≠ 1 := fun e => h2 (by rw [e, Nat.mul_one] at hk; exact hk.symm)
 have a1 := BX hF d hd0 ⟨k, hk⟩
 have a2 := BX hF k hk0 ⟨d, by rw [hk, Nat.mul_comm]⟩
 have b1 := Nat.le_of_dvd (by omega) a1
 have b2 := Nat.le_of_dvd (by omega) a2
 have := Nat.mul_le_mul (show F + 1 <= d by omega) (show F + 1 <= k by omega)
 omega
def LA (n : Nat) : Nat -> Nat -> Bool
 | _, 0 => true
 | d, k + 1 => match Nat.beq (n % d) 0 with | true => false | false => LA n (d + 1) k
theorem H6 (n : Nat) : ∀ (k d : Nat), LA n d k = true -> ∀ x, d <= x -> x < d + k -> ¬ x ∣ n
 | 0, d, _, x, h1, h2 => by omega
 | k + 1, d, h, x, h1, h2 => by
  unfold LA at h
  split at h
  ·cases h
  ·rename_i hb
   by_cases e : x = d
   ·subst e
    intro hd
    have := Nat.mod_eq_zero_of_dvd hd
    rw [this] at hb
    cases hb
   ·exact H6 n k (d + 1) h x (by omega) (by omega)
theorem rD {n k : Nat} (hn : 2 <= n) (h : LA n 2 k = true) (hk : n < (k + 2) * (k + 2)) : Pr n := by
 refine ⟨hn, fun d hd => ?_⟩
 by_cases h1 : d = 1
 ·exact .inl h1
 by_cases h2 : d = n
 ·exact .inr h2
 exfalso
 obtain ⟨m, hm⟩ := hd
 have hd0 : d ≠ 0 := fun e => by subst e; simp at hm; omega
 have hm0 : m ≠ 0 := fun e => by subst e; simp at hm; omega
 have hm1 : m ≠ 1 := fun e => h2 (by rw [e, Nat.mul_one] at hm; exact hm.symm)
 have n1 := H6 n k 2 h
 rcases Nat.lt_or_ge d (k + 2) with hl | hl
 ·exact n1 d (by omega) (by omega) ⟨m, hm⟩
 ·rcases Nat.lt_or_ge m (k + 2) with hl2 | hl2
  ·exact n1 m (by omega) (by omega) ⟨d, by rw [hm, Nat.mul_comm]⟩
  ·have := Nat.mul_le_mul hl hl2
   omega
end Go.Ev
set_option linter.unusedSimpArgs false
set_option linter.unusedVariables false
namespace Go.Ev
def nbits : Nat -> Nat -> Nat
 | 0, _ => 0
 | i + 1, a => if a / 18446744073709551616 ^ i % 18446744073709551616 = 0 then nbits i a else 64 * i + Lib.bitLen (a / 18446744073709551616 ^ i % 18446744073709551616)
theorem uX (n k : Nat) (hn : n <= 1024) (hk : k <= 64) : IntKind.i64.wrap ((n : Int) + ((k : Nat) : Int)) = ((n + k : Nat) : Int) := by
 simp only [qj]
 omega
theorem Ey : ∀ (f x : Nat), x < 2 ^ f -> x < 2 ^ Lib.bitLenAux f x
 | 0, x, h => by simp [Lib.bitLenAux] at h ⊢; omega
 | f + 1, x, h => by
  simp only [Lib.bitLenAux]
  split
  ·rename_i h0; subst h0; simp
  ·have := Ey f (x / 2) (by rw [Nat.pow_succ] at h; omega)
   rw [Nat.add_comm, Nat.pow_succ]
   omega
theorem G7 : ∀ (i a : Nat), nbits i a <= 64 * i
 | 0, _ => Nat.le_refl _
 | i + 1, a => by
  have h1 := G7 i a
  have h2 := Lib.bitLen_le (a / 18446744073709551616 ^ i % 18446744073709551616) 64 (Nat.le_refl _) (Nat.mod_lt _ (by decide))
  simp only [nbits]
  split <;> omega
theorem GZ : ∀ (i a : Nat), a % 18446744073709551616 ^ i < 2 ^ nbits i a
 | 0, a => by simp [nbits, Nat.mod_one]
 | i + 1, a => by
  have h1 := GZ i a
  have hm := Nat.mod_mul (x := a) (a := 18446744073709551616 ^ i) (b := 18446744073709551616)
  rw [← Nat.pow_succ] at hm
  rw [hm]
  simp only [nbits]
  split
  ·rename_i h0
   rw [h0, Nat.mul_zero, Nat.add_zero]
   exact h1
  ·have h2 : a / 18446744073709551616 ^ i % 18446744073709551616 < 2 ^ Lib.bitLen (a / 18446744073709551616 ^ i % 18446744073709551616) := Ey 64 _ (Nat.mod_lt _ (by decide))
   have h3 : a % 18446744073709551616 ^ i < 18446744073709551616 ^ i := Nat.mod_lt _ (Nat.pow_pos (by decide))
   have e : (18446744073709551616 : Nat) ^ i = 2 ^ (64 * i) := by rw [Nat.pow_mul]
   rw [Nat.pow_add, ← e]
   generalize a / 18446744073709551616 ^ i % 18446744073709551616 = q at *
   generalize 2 ^ Lib.bitLen q = Q at *
   generalize 18446744073709551616 ^ i = P at *
   have := Nat.mul_le_mul_left P (show q + 1 <= Q by omega)
   rw [Nat.mul_add, Nat.mul_one] at this
   generalize a % P = r at *
   omega
theorem MW {i a : Nat} (h : a < 18446744073709551616 ^ i) : a / 2 ^ nbits i a = 0 := by
 have := GZ i a
 rw [Nat.mod_eq_of_lt h] at this
 exact Nat.div_eq_of_lt this
end Go.Ev
set_option linter.unusedSimpArgs false
set_option linter.unusedVariables false
namespace Go.Ev
def pw {α : Type} (mul : α -> α -> α) (one a : α) : Nat -> α
 | 0 => one
 | n + 1 => mul (pw mul one a n) a
structure Mon (α : Type) where
 mul : α -> α -> α
 one : α
 assoc : ∀ a b c, mul (mul a b) c = mul a (mul b c)
 one_mul : ∀ a, mul one a = a
 mul_one : ∀ a, mul a one = a
theorem Mon.pw_add {α : Type} (G : Mon α) (a : α) (m : Nat) : ∀ n, pw G.mul G.one a (m + n) = G.mul (pw G.mul G.one a m) (pw G.mul G.one a n)
 | 0 => by simp only [Nat.add_zero, pw, G.mul_one]
 | n + 1 => by rw [← Nat.add_assoc]; simp only [pw]; rw [G.pw_add a m n, G.assoc]
theorem Mon.pw_dbl {α : Type} (G : Mon α) (a : α) (n : Nat) : pw G.mul G.one a (2 * n) = G.mul (pw G.mul G.one a n) (pw G.mul G.one a n) := by
 rw [Nat.two_mul, G.pw_add]
theorem Mon.pw_mul {α : Type} (G : Mon α) (a : α) (m : Nat) : ∀ n, pw G.mul G.one a (m * n) = pw G.mul G.one (pw G.mul G.one a m) n
 | 0 => by simp only [Nat.mul_zero, pw]
 | n + 1 => by rw [Nat.mul_add, Nat.mul_one, G.pw_add, G.pw_mul a m n]; rfl
theorem Xc (e j s : Nat) (hs : s < 64) : e / 18446744073709551616 ^ j % 18446744073709551616 / 2 ^ s % 2 = e / 2 ^ (64 * j + s) % 2 := by
 have e1 : (18446744073709551616 : Nat) = 2 ^ s * 2 ^ (64 - s) := by rw [← Nat.pow_add, show s + (64 - s) = 64 by omega]
 have e2 : (18446744073709551616 : Nat) ^ j = 2 ^ (64 * j) := by rw [Nat.pow_mul]
 rw [Nat.pow_add, ← e2, ← Nat.div_div_eq_div_mul]
 generalize e / 18446744073709551616 ^ j = q
 rw [e1, Nat.mod_mul_right_div_self]
 have h2 : (2 : Nat) ∣ 2 ^ (64 - s) := ⟨2 ^ (63 - s), by rw [Nat.mul_comm, ← Nat.pow_succ, show (63 - s).succ = 64 - s by omega]⟩
 exact Nat.mod_mod_of_dvd _ h2
theorem U3 (x : Nat) : x % 18446744073709551616 &&& 1 = x % 2 := by
 rw [Nat.and_one_is_mod]
 exact Nat.mod_mod_of_dvd _ (by decide)
theorem IB (e i : Nat) : (e / 18446744073709551616 ^ (0 + i / 64 * 1) % 18446744073709551616 / 2 ^ (i % 64) % 18446744073709551616 &&& 1) % 18446744073709551616 = e / 2 ^ i % 2 := by
 rw [Nat.zero_add, Nat.mul_one, U3, Xc _ _ _ (Nat.mod_lt _ (by decide)), show 64 * (i / 64) + i % 64 = i by omega]
 omega
theorem DT (e i : Nat) : e / 2 ^ i = 2 * (e / 2 ^ (i + 1)) + e / 2 ^ i % 2 := by
 rw [Nat.pow_succ, ← Nat.div_div_eq_div_mul]
 omega
theorem OT (i : Nat) (h : i < 9223372036854775808) : IntKind.i64.wrap (((i : Nat) : Int).tdiv 64) = ((i / 64 : Nat) : Int) := by
 rw [Int.tdiv_eq_ediv_of_nonneg (by omega), qj]
 omega
theorem QY (i : Nat) : ((i : Nat) : Int).tmod 64 = ((i % 64 : Nat) : Int) := by
 rw [Int.tmod_eq_emod_of_nonneg (by omega)]
 omega
def GP : Mon (Fin Pp) := { mul := (· * ·), one := 1, assoc := fun a b c => by grind, one_mul := fun a => by grind, mul_one := fun a => by grind }
def pwP (a : Fin Pp) (n : Nat) : Fin Pp := pw (· * ·) 1 a n
end Go.Ev
set_option linter.unusedSimpArgs false
set_option linter.unusedVariables false
namespace Go.Ev
theorem ada : Pr 2 := rD (k := 0) (by decide) (by decide +kernel) (by decide)
theorem ac0 : Pr 3 := rD (k := 0) (by decide) (by decide +kernel) (by decide)
theorem aak : Pr 11 := rD (k := 2) (by decide) (by decide +kernel) (by decide)
theorem Zp : Pr 23 := rD (k := 3) (by decide) (by decide +kernel) (by decide)
theorem aae : Pr 47 := rD (k := 5) (by decide) (by decide +kernel) (by decide)
theorem Vp : Pr 7577 := rD (k := 86) (by decide) (by decide +kernel) (by decide)
theorem Rd : Pr 10177 := rD (k := 99) (by decide) (by decide +kernel) (by decide)
theorem Nc : Pr 582767 := rD (k := 762) (by decide) (by decide +kernel) (by decide)
theorem N0 : Pr 859267 := rD (k := 925) (by decide) (by decide +kernel) (by decide)
theorem GG : Pr 52437899 := rD (k := 7240) (by decide) (by decide +kernel) (by decide)
theorem AF : Pr 9272813673901 := w8 (F := 4415625559) (by decide) (fun s hs hd => by
 have d0 := vy (N := 9272813673901) 5 582767 1 64 (by decide) Nc (by decide) (by decide +kernel) (by decide +kernel) (by decide +kernel) (by decide +kernel) hs hd
 have c1 := vy (N := 9272813673901) 5 7577 1 64 (by decide) Vp (by decide) (by decide +kernel) (by decide +kernel) (by decide +kernel) (by decide +kernel) hs hd
 have d1 := Nat.Coprime.mul_dvd_of_dvd_of_dvd (show Nat.Coprime (582767 ^ 1) (7577 ^ 1) from by decide +kernel) d0 c1
 exact (show (582767 ^ 1) * 7577 ^ 1 = 4415625559 from by decide +kernel) ▸ d1) (by decide)
theorem yS : Pr 1928745244171409 := w8 (F := 9272813673901) (by decide) (fun s hs hd => by
 have d0 := vy (N := 1928745244171409) 5 9272813673901 1 64 (by decide) AF (by decide) (by decide +kernel) (by decide +kernel) (by decide +kernel) (by decide +kernel) hs hd
 exact (show 9272813673901 ^ 1 = 9272813673901 from by decide +kernel) ▸ d0) (by decide)
theorem w6 : Pr 7259797099061183477 := w8 (F := 1928745244171409) (by decide) (fun s hs hd => by
 have d0 := vy (N := 7259797099061183477) 5 1928745244171409 1 64 (by decide) yS (by decide) (by decide +kernel) (by decide +kernel) (by decide +kernel) (by decide +kernel) hs hd
 exact (show 1928745244171409 ^ 1 = 1928745244171409 from by decide +kernel) ▸ d0) (by decide)
theorem vo : Pr 2584487767265781317813 := w8 (F := 7259797099061183477) (by decide) (fun s hs hd => by
 have d0 := vy (N := 2584487767265781317813) 5 7259797099061183477 1 80 (by decide) w6 (by decide) (by decide +kernel) (by decide +kernel) (by decide +kernel) (by decide +kernel) hs hd
 exact (show 7259797099061183477 ^ 1 = 7259797099061183477 from by decide +kernel) ▸ d0) (by decide)
theorem VR : ∀ s, Pr s -> s ∣ 4002409555221667393417789825735904156556882819939007885332058136124031650490837864442687629129015664037894272559787 -> 253663835868735594330404923636534084567099854 ∣ s - 1 := fun s hs hd => by
 have d0 := vy (N := 4002409555221667393417789825735904156556882819939007885332058136124031650490837864442687629129015664037894272559787) 5 2 1 384 (by decide) ada (by decide) (by decide +kernel) (by decide +kernel) (by decide +kernel) (by decide +kernel) hs hd
 have c1 := vy (N := 4002409555221667393417789825735904156556882819939007885332058136124031650490837864442687629129015664037894272559787) 5 3 2 384 (by decide) ac0 (by decide) (by decide +kernel) (by decide +kernel) (by decide +kernel) (by decide +kernel) hs hd
 have d1 := Nat.Coprime.mul_dvd_of_dvd_of_dvd (show Nat.Coprime (2 ^ 1) (3 ^ 2) from by decide +kernel) d0 c1
 have c2 := vy (N := 4002409555221667393417789825735904156556882819939007885332058136124031650490837864442687629129015664037894272559787) 5 11 1 384 (by decide) aak (by decide) (by decide +kernel) (by decide +kernel) (by decide +kernel) (by decide +kernel) hs hd
 have d2 := Nat.Coprime.mul_dvd_of_dvd_of_dvd (show Nat.Coprime ((2 ^ 1) * 3 ^ 2) (11 ^ 1) from by decide +kernel) d1 c2
 have c3 := vy (N := 4002409555221667393417789825735904156556882819939007885332058136124031650490837864442687629129015664037894272559787) 5 23 1 384 (by decide) Zp (by decide) (by decide +kernel) (by decide +kernel) (by decide +kernel) (by decide +kernel) hs hd
 have d3 := Nat.Coprime.mul_dvd_of_dvd_of_dvd (show Nat.Coprime (((2 ^ 1) * 3 ^ 2) * 11 ^ 1) (23 ^ 1) from by decide +kernel) d2 c3
 have c4 := vy (N := 4002409555221667393417789825735904156556882819939007885332058136124031650490837864442687629129015664037894272559787) 5 47 1 384 (by decide) aae (by decide) (by decide +kernel) (by decide +kernel) (by decide +kernel) (by decide +kernel) hs hd
 have d4 := Nat.Coprime.mul_dvd_of_dvd_of_dvd (show Nat.Coprime ((((2 ^ 1) * 3 ^ 2) * 11 ^ 1) * 23 ^ 1) (47 ^ 1) from by decide +kernel) d3 c4
 have c5 := vy (N := 4002409555221667393417789825735904156556882819939007885332058136124031650490837864442687629129015664037894272559787) 5 10177 1 384 (by decide) Rd (by decide) (by decide +kernel) (by decide +kernel) (by decide +kernel) (by decide +kernel) hs hd
 have d5 := Nat.Coprime.mul_dvd_of_dvd_of_dvd (show Nat.Coprime (((((2 ^ 1) * 3 ^ 2) * 11 ^ 1) * 23 ^ 1) * 47 ^ 1) (10177 ^ 1) from by decide +kernel) d4 c5
 have c6 := vy (N := 4002409555221667393417789825735904156556882819939007885332058136124031650490837864442687629129015664037894272559787) 5 859267 1 384 (by decide) N0 (by decide) (by decide +kernel) (by decide +kernel) (by decide +kernel) (by decide +kernel) hs hd
 have d6 := Nat.Coprime.mul_dvd_of_dvd_of_dvd (show Nat.Coprime ((((((2 ^ 1) * 3 ^ 2) * 11 ^ 1) * 23 ^ 1) * 47 ^ 1) * 10177 ^ 1) (859267 ^ 1) from by decide +kernel) d5 c6
 have c7 := vy (N := 4002409555221667393417789825735904156556882819939007885332058136124031650490837864442687629129015664037894272559787) 5 52437899 1 384 (by decide) GG (by decide) (by decide +kernel) (by decide +kernel) (by decide +kernel) (by decide +kernel) hs hd
 have d7 := Nat.Coprime.mul_dvd_of_dvd_of_dvd (show Nat.Coprime (((((((2 ^ 1) * 3 ^ 2) * 11 ^ 1) * 23 ^ 1) * 47 ^ 1) * 10177 ^ 1) * 859267 ^ 1) (52437899 ^ 1) from by decide +kernel) d6 c7
 have c8 := vy (N := 4002409555221667393417789825735904156556882819939007885332058136124031650490837864442687629129015664037894272559787) 5 2584487767265781317813 1 384 (by decide) vo (by decide) (by decide +kernel) (by decide +kernel) (by decide +kernel) (by decide +kernel) hs hd
 have d8 := Nat.Coprime.mul_dvd_of_dvd_of_dvd (show Nat.Coprime ((((((((2 ^ 1) * 3 ^ 2) * 11 ^ 1) * 23 ^ 1) * 47 ^ 1) * 10177 ^ 1) * 859267 ^ 1) * 52437899 ^ 1) (2584487767265781317813 ^ 1) from by decide +kernel) d7 c8
 exact (show ((((((((2 ^ 1) * 3 ^ 2) * 11 ^ 1) * 23 ^ 1) * 47 ^ 1) * 10177 ^ 1) * 859267 ^ 1) * 52437899 ^ 1) * 2584487767265781317813 ^ 1 = 253663835868735594330404923636534084567099854 from by decide +kernel) ▸ d8
theorem qk : Pr 4002409555221667393417789825735904156556882819939007885332058136124031650490837864442687629129015664037894272559787 := by
 refine ⟨by decide, fun d hd => ?_⟩
 obtain ⟨k, hk⟩ := hd
 by_cases h1 : d = 1
 ·exact .inl h1
 by_cases h2 : d = 4002409555221667393417789825735904156556882819939007885332058136124031650490837864442687629129015664037894272559787
 ·exact .inr h2
 exfalso
 have hd0 : 0 < d := Nat.pos_of_ne_zero fun e => by subst e; simp at hk
 have hk0 : 0 < k := Nat.pos_of_ne_zero fun e => by subst e; simp at hk
 have hk1 : k ≠ 1 := fun e => h2 (by rw [e, Nat.mul_one] at hk; exact hk.symm)
 obtain ⟨x, hx⟩ := BX VR d hd0 ⟨k, hk⟩
 obtain ⟨y, hy⟩ := BX VR k hk0 ⟨d, by rw [hk, Nat.mul_comm]⟩
 have e1 : d = 253663835868735594330404923636534084567099854 * x + 1 := by omega
 have e2 : k = 253663835868735594330404923636534084567099854 * y + 1 := by omega
 have hx0 : 0 < x := Nat.pos_of_ne_zero fun e => by subst e; omega
 have hy0 : 0 < y := Nat.pos_of_ne_zero fun e => by subst e; omega
 have e3 : 4002409555221667393417789825735904156556882819939007885332058136124031650490837864442687629129015664037894272559787 = 253663835868735594330404923636534084567099854 * (253663835868735594330404923636534084567099854 * (x * y)) + 253663835868735594330404923636534084567099854 * x + 253663835868735594330404923636534084567099854 * y + 1 := by
  rw [hk, e1, e2, Nat.add_mul, Nat.mul_add, Nat.mul_one, Nat.one_mul]
  rw [show 253663835868735594330404923636534084567099854 * x * (253663835868735594330404923636534084567099854 * y) = 253663835868735594330404923636534084567099854 * (253663835868735594330404923636534084567099854 * (x * y)) by rw [Nat.mul_assoc, Nat.mul_left_comm x]]
  omega
 have e4 : x + y <= x * y + 1 := by
  obtain ⟨u, rfl⟩ : ∃ u, x = u + 1 := ⟨x - 1, by omega⟩
  obtain ⟨v, rfl⟩ : ∃ v, y = v + 1 := ⟨y - 1, by omega⟩
  have : (u + 1) * (v + 1) = u * v + u + v + 1 := by rw [Nat.add_mul, Nat.mul_add]; omega
  omega
 generalize x * y = z at e3 e4
 omega
theorem TV : Pr Pp := qk
theorem uC (x : Fin Pp) (n : Nat) : pwP x (n + 1) = pwP x n * x := rfl
theorem KY (x : Fin Pp) : ∀ n, (pwP x n).val = x.val ^ n % Pp
 | 0 => rfl
 | n + 1 => by
  rw [uC, Fin.val_mul, KY x n, Nat.pow_succ, Nat.mod_mul_mod]
theorem PC {x : Fin Pp} (h : x ≠ 0) : ¬ Pp ∣ x.val := fun hd => by
 have h1 := x.isLt
 have h2 : x.val ≠ 0 := fun e => h (Fin.ext e)
 exact absurd (Nat.le_of_dvd (by omega) hd) (by omega)
theorem CQ {x : Fin Pp} (h : x ≠ 0) (m : Nat) (hm : Pp - 1 = m) : pwP x m = 1 := Fin.ext (by
 rw [KY, ← hm]
 exact (TV.fermat1 (x := x.val) (PC h)))
theorem wr {x : Fin Pp} (h : x ≠ 0) : x * pwP x 4002409555221667393417789825735904156556882819939007885332058136124031650490837864442687629129015664037894272559785 = 1 := by
 have h1 := CQ h (4002409555221667393417789825735904156556882819939007885332058136124031650490837864442687629129015664037894272559785 + 1) (by decide)
 rw [uC] at h1
 generalize pwP x 4002409555221667393417789825735904156556882819939007885332058136124031650490837864442687629129015664037894272559785 = y at *
 rw [← h1]
 grind
theorem zV {x y : Fin Pp} (h : x * y = 0) : x = 0 ∨ y = 0 := by
 by_cases hx : x = 0
 ·exact .inl hx
 ·have h1 := wr hx
  right
  generalize pwP x 4002409555221667393417789825735904156556882819939007885332058136124031650490837864442687629129015664037894272559785 = z at h1
  have : y = x * z * y := by rw [h1]; grind
  rw [this, show x * z * y = z * (x * y) by grind, h]
  grind
end Go.Ev
set_option linter.unusedSimpArgs false
set_option linter.unusedVariables false
namespace Go.Ev
theorem tC (a b : F2) : qh a b = qh b a := by refine vq ?_ ?_ <;> simp only [qh] <;> grind
theorem C8 (a b c : F2) : qh (qh a b) c = qh a (qh b c) := by refine vq ?_ ?_ <;> simp only [qh] <;> grind
theorem Is (a b c : F2) : qh a (q6 b c) = q6 (qh a b) (qh a c) := by refine vq ?_ ?_ <;> simp only [qh, q6] <;> grind
theorem CY (a : F2) : qh a one2 = a := vq (show a.1 * 1 - a.2 * 0 = a.1 by grind) (show (a.1 + a.2) * (1 + 0) - a.1 * 1 - a.2 * 0 = a.2 by grind)
theorem wt (a b : F2) : q6 a b = q6 b a := by refine vq ?_ ?_ <;> simp only [q6] <;> grind
theorem Ce (a b c : F2) : q6 (q6 a b) c = q6 a (q6 b c) := by refine vq ?_ ?_ <;> simp only [q6] <;> grind
theorem yP (a : F2) : q6 a (0, 0) = a := vq (show a.1 + 0 = a.1 by grind) (show a.2 + 0 = a.2 by grind)
theorem CJ (t : Fin Pp) : t * 0 = 0 := by grind
theorem Bd (a : F2) : qh a (0, 0) = (0, 0) := vq (show a.1 * 0 - a.2 * 0 = 0 by rw [CJ, CJ]; decide) (show (a.1 + a.2) * (0 + 0) - a.1 * 0 - a.2 * 0 = 0 by rw [show (0 : Fin Pp) + 0 = 0 from by decide, CJ, CJ, CJ]; decide)
theorem CS (a : F2) : q6 (sj a) a = (0, 0) := vq (show -a.1 + a.1 = 0 by grind) (show -a.2 + a.2 = 0 by grind)
theorem HO (a : F2) : Xn a = qh a (1, 1) := vq (show a.1 - a.2 = a.1 * 1 - a.2 * 1 by grind) (show a.1 + a.2 = (a.1 + a.2) * (1 + 1) - a.1 * 1 - a.2 * 1 by grind)
abbrev G2 := F2
theorem z4 (a : F2) : sj (sj a) = a := by refine vq ?_ ?_ <;> simp only [sj] <;> grind
def BQ : Nat -> G2
 | 0 => (0, 0)
 | n + 1 => q6 (BQ n) one2
def NC : Int -> G2
 | .ofNat n => BQ n
 | .negSucc n => sj (BQ (n + 1))
def abW (n : Nat) (a : G2) : G2 := qh (BQ n) a
def Ya (n : Int) (a : G2) : G2 := qh (NC n) a
def abi (a : G2) : Nat -> G2
 | 0 => one2
 | n + 1 => qh (abi a n) a
theorem At : sj (0, 0) = (0, 0) := by decide
theorem xn : BQ 1 = one2 := by decide
theorem OZ (a b : F2) : qh (sj a) b = sj (qh a b) := by refine vq ?_ ?_ <;> simp only [sj, qh] <;> grind
theorem Hk : ∀ i : Int, NC (-i) = sj (NC i)
 | .ofNat 0 => At.symm
 | .ofNat (n + 1) => rfl
 | .negSucc n => (z4 _).symm
instance : Lean.Grind.CommRing G2 where
 add a b := q6 a b
 mul a b := qh a b
 natCast := ⟨BQ⟩
 ofNat n := ⟨BQ n⟩
 nsmul := ⟨abW⟩
 npow := ⟨abi⟩
 neg a := sj a
 sub a b := tH a b
 intCast := ⟨NC⟩
 zsmul := ⟨Ya⟩
 add_zero := yP
 add_comm := wt
 add_assoc := Ce
 mul_assoc := C8
 mul_one := fun a => by
  show qh a (BQ 1) = a
  rw [xn]; exact CY a
 one_mul := fun a => by
  show qh (BQ 1) a = a
  rw [xn, tC]; exact CY a
 left_distrib := Is
 right_distrib := fun a b c => by
  show qh (q6 a b) c = q6 (qh a c) (qh b c)
  rw [tC, Is, tC c a, tC c b]
 zero_mul := fun a => by show qh (0, 0) a = (0, 0); rw [tC]; exact Bd a
 mul_zero := Bd
 pow_zero := fun a => xn.symm
 pow_succ := fun _ _ => rfl
 ofNat_succ := fun n => by
  show q6 (BQ n) one2 = q6 (BQ n) (BQ 1)
  rw [xn]
 ofNat_eq_natCast := fun _ => rfl
 nsmul_eq_natCast_mul := fun _ _ => rfl
 neg_add_cancel := CS
 sub_eq_add_neg := fun a b => FC a b
 neg_zsmul := fun i a => by
  show qh (NC (-i)) a = sj (qh (NC i) a)
  rw [Hk, OZ]
 zsmul_natCast_eq_nsmul := fun _ _ => rfl
 intCast_ofNat := fun _ => rfl
 intCast_neg := fun i => Hk i
 mul_comm := tC
theorem SN (x : Fin Pp) : pwP x 2 = x * x := by
 show (1 * x) * x = x * x
 grind
theorem Jb (x : Fin Pp) (n : Nat) : pwP (x * x) n = pwP x (2 * n) := by
 have := GP.pw_mul x 2 n
 have e := SN x
 unfold pwP at *
 rw [← e]
 exact this.symm
theorem SR (n : Nat) : pwP 1 n = 1 := by
 induction n with
 | zero => rfl
 | succ n ih => rw [uC, ih]; grind
theorem BM (n : Nat) : pwP (-1) (2 * n + 1) = -1 := by
 rw [uC, ← Jb, show (-1 : Fin Pp) * -1 = 1 by decide, SR]
 decide
def halfP : Nat := 2001204777610833696708894912867952078278441409969503942666029068062015825245418932221343814564507832018947136279893
theorem TL {x : Fin Pp} (h : x * x = -1) : False := by
 have hx : x ≠ 0 := fun e => by
  subst e
  have : (0 : Fin Pp) = -1 := by rw [← h]; grind
  exact absurd this (by decide)
 have h1 := CQ hx (2 * halfP) (by decide)
 rw [← Jb, h] at h1
 have h2 : halfP = 2 * 1000602388805416848354447456433976039139220704984751971333014534031007912622709466110671907282253916009473568139946 + 1 := by decide
 rw [h2, BM] at h1
 exact absurd h1 (by decide)
def norm2 (a : F2) : Fin Pp := a.1 * a.1 + a.2 * a.2
def YK (a : F2) : F2 := (a.1 * pwP (norm2 a) 4002409555221667393417789825735904156556882819939007885332058136124031650490837864442687629129015664037894272559785, -(a.2 * pwP (norm2 a) 4002409555221667393417789825735904156556882819939007885332058136124031650490837864442687629129015664037894272559785))
theorem Pf {a : F2} (h : a ≠ (0, 0)) : norm2 a ≠ 0 := fun e => by
 unfold norm2 at e
 by_cases h2 : a.2 = 0
 ·rw [h2] at e
  have : a.1 * a.1 = 0 := by rw [← e]; grind
  rcases zV this with h1 | h1 <;> exact h (Prod.ext h1 h2)
 ·have hi := wr h2
  generalize pwP a.2 4002409555221667393417789825735904156556882819939007885332058136124031650490837864442687629129015664037894272559785 = z at hi
  refine TL (x := a.1 * z) ?_
  have : ∀ x y z : Fin Pp, x * z * (x * z) = (x * x + y * y) * (z * z) - (y * z) * (y * z) := fun x y z => by grind
  rw [this a.1 a.2 z, e, hi, show (0 : Fin Pp) * (z * z) = 0 by grind]
  decide
theorem Rk {a : F2} (h : a ≠ (0, 0)) : qh a (YK a) = one2 := by
 have hi := wr (Pf h)
 unfold YK
 generalize pwP (norm2 a) 4002409555221667393417789825735904156556882819939007885332058136124031650490837864442687629129015664037894272559785 = z at *
 unfold norm2 at hi
 refine vq ?_ ?_
 ·simp only [qh, one2]; rw [← hi]; grind
 ·simp only [qh, one2]; grind
theorem PV {x y : F2} (h : qh x y = (0, 0)) : x = (0, 0) ∨ y = (0, 0) := by
 by_cases hx : x = (0, 0)
 ·exact .inl hx
 ·right
  have h1 := Rk hx
  have : y = qh (qh x (YK x)) y := by rw [h1, tC, CY]
  rw [this, tC x, C8, h, Bd]
theorem Mr (a b : F2) : norm2 (qh a b) = norm2 a * norm2 b := by simp only [norm2, qh]; grind
def vD : F6 := ((0, 0), (0, 0), (0, 0))
structure T3 (α : Type) where
 a : α
 b : α
 c : α
section
variable {α : Type} [Lean.Grind.CommRing α]
def Bf (x : α) (p q : T3 α) : T3 α := ⟨p.a * q.a + x * (p.b * q.c + p.c * q.b), p.a * q.b + p.b * q.a + x * (p.c * q.c), p.a * q.c + p.c * q.a + p.b * q.b⟩
end
def xi : G2 := (1, 1)
def t6 (a : F6) : T3 G2 := ⟨a.1, a.2.1, a.2.2⟩
theorem Ax {a b : F6} (h : t6 a = t6 b) : a = b := by
 simp only [t6, T3.mk.injEq] at h
 exact Ib h.1 h.2.1 h.2.2
theorem ua (a b : F6) : t6 (th a b) = Bf xi (t6 a) (t6 b) := by
 obtain ⟨A, B, C⟩ := a
 obtain ⟨D, E, F⟩ := b
 have e1 : (th (A, B, C) (D, E, F)).1 = ((A : G2) * (D : G2) + (((B : G2) + (C : G2)) * ((E : G2) + (F : G2)) - (B : G2) * (E : G2) - (C : G2) * (F : G2)) * xi : G2) := by
  simp only [th, HO]; rfl
 have e2 : (th (A, B, C) (D, E, F)).2.1 = ((((A : G2) + (B : G2)) * ((D : G2) + (E : G2)) - (A : G2) * (D : G2) - (B : G2) * (E : G2)) + (C : G2) * (F : G2) * xi : G2) := by
  simp only [th, HO]; rfl
 have e3 : (th (A, B, C) (D, E, F)).2.2 = ((((A : G2) + (C : G2)) * ((D : G2) + (F : G2)) - (A : G2) * (D : G2) - (C : G2) * (F : G2)) + (B : G2) * (E : G2) : G2) := by
  simp only [th]; rfl
 simp only [t6, Bf, T3.mk.injEq]
 rw [e1, e2, e3]
 generalize (A : G2) = A
 refine ⟨?_, ?_, ?_⟩ <;> grind
theorem uY (a b : F6) : th a b = th b a := by
 apply Ax; rw [ua, ua]; simp only [Bf, T3.mk.injEq]; refine ⟨?_, ?_, ?_⟩ <;> grind
theorem JB (a b c : F6) : th (th a b) c = th a (th b c) := by
 apply Ax; rw [ua, ua, ua, ua]; simp only [Bf, T3.mk.injEq]; refine ⟨?_, ?_, ?_⟩ <;> grind
theorem Qw (a b : F6) : t6 (uL a b) = ⟨(t6 a).a + (t6 b).a, (t6 a).b + (t6 b).b, (t6 a).c + (t6 b).c⟩ := rfl
theorem Ir (a b c : F6) : th a (uL b c) = uL (th a b) (th a c) := by
 apply Ax; rw [ua, Qw, Qw, ua, ua]; simp only [Bf, T3.mk.injEq]; refine ⟨?_, ?_, ?_⟩ <;> grind
theorem GO (a : F6) : th a G3 = a := by
 have e : (one2 : F2) = (1 : G2) := xn.symm
 have h : t6 G3 = ⟨(1 : G2), 0, 0⟩ := by
  show (⟨one2, (0, 0), (0, 0)⟩ : T3 G2) = _
  rw [e]; rfl
 apply Ax; rw [ua, h]; simp only [Bf, t6, T3.mk.injEq]; refine ⟨?_, ?_, ?_⟩ <;> grind
theorem DO (a b : F6) : uL a b = uL b a := by refine Ib ?_ ?_ ?_ <;> simp only [uL] <;> exact wt _ _
theorem JN (a b c : F6) : uL (uL a b) c = uL a (uL b c) := by refine Ib ?_ ?_ ?_ <;> simp only [uL] <;> exact Ce _ _ _
theorem Ed (a : F6) : uL a vD = a := by refine Ib ?_ ?_ ?_ <;> simp only [uL, vD] <;> exact yP _
theorem DZ (a : F6) : th a vD = vD := by
 have h : t6 vD = ⟨(0 : G2), 0, 0⟩ := rfl
 apply Ax; rw [ua, h]; simp only [Bf, T3.mk.injEq]; refine ⟨?_, ?_, ?_⟩ <;> grind
theorem QL (a : F6) : uL (yR a) a = vD := by refine Ib ?_ ?_ ?_ <;> simp only [uL, yR, vD] <;> exact CS _
theorem Uc (a b : F6) : XD a b = uL a (yR b) := by refine Ib ?_ ?_ ?_ <;> simp only [uL, yR, XD] <;> exact FC _ _
theorem R2 (a : F6) : yR (yR a) = a := by refine Ib ?_ ?_ ?_ <;> simp only [yR] <;> exact z4 _
theorem Nx : yR vD = vD := by refine Ib ?_ ?_ ?_ <;> simp only [yR, vD] <;> exact At
theorem Pe (a b : F6) : th (yR a) b = yR (th a b) := by
 have e : ∀ c : F6, t6 (yR c) = ⟨-(t6 c).a, -(t6 c).b, -(t6 c).c⟩ := fun c => rfl
 apply Ax; rw [ua, e, e, ua]; simp only [Bf, T3.mk.injEq]; refine ⟨?_, ?_, ?_⟩ <;> grind
abbrev G6 := F6
def BN : Nat -> G6
 | 0 => vD
 | n + 1 => uL (BN n) G3
def MV : Int -> G6
 | .ofNat n => BN n
 | .negSucc n => yR (BN (n + 1))
def ZY (n : Nat) (a : G6) : G6 := th (BN n) a
def WH (n : Int) (a : G6) : G6 := th (MV n) a
def ab9 (a : G6) : Nat -> G6
 | 0 => G3
 | n + 1 => th (ab9 a n) a
theorem Hw : ∀ i : Int, MV (-i) = yR (MV i)
 | .ofNat 0 => Nx.symm
 | .ofNat (n + 1) => rfl
 | .negSucc n => (R2 _).symm
theorem zO : BN 1 = G3 := by
 show uL vD G3 = G3
 rw [DO, Ed]
instance : Lean.Grind.CommRing G6 where
 add a b := uL a b
 mul a b := th a b
 natCast := ⟨BN⟩
 ofNat n := ⟨BN n⟩
 nsmul := ⟨ZY⟩
 npow := ⟨ab9⟩
 neg a := yR a
 sub a b := XD a b
 intCast := ⟨MV⟩
 zsmul := ⟨WH⟩
 add_zero := Ed
 add_comm := DO
 add_assoc := JN
 mul_assoc := JB
 mul_one := fun a => by show th a (BN 1) = a; rw [zO]; exact GO a
 one_mul := fun a => by show th (BN 1) a = a; rw [zO, uY]; exact GO a
 left_distrib := Ir
 right_distrib := fun a b c => by show th (uL a b) c = uL (th a c) (th b c); rw [uY, Ir, uY c a, uY c b]
 zero_mul := fun a => by show th vD a = vD; rw [uY]; exact DZ a
 mul_zero := DZ
 pow_zero := fun a => zO.symm
 pow_succ := fun _ _ => rfl
 ofNat_succ := fun n => by show uL (BN n) G3 = uL (BN n) (BN 1); rw [zO]
 ofNat_eq_natCast := fun _ => rfl
 nsmul_eq_natCast_mul := fun _ _ => rfl
 neg_add_cancel := QL
 sub_eq_add_neg := fun a b => Uc a b
 neg_zsmul := fun i a => by show th (MV (-i)) a = yR (th (MV i) a); rw [Hw, Pe]
 zsmul_natCast_eq_nsmul := fun _ _ => rfl
 intCast_ofNat := fun _ => rfl
 intCast_neg := fun i => Hw i
 mul_comm := uY
end Go.Ev
set_option linter.unusedSimpArgs false
set_option linter.unusedVariables false
namespace Go.Ev
def hiP (x : Fin Pp) : Prop := (-x).val < x.val
instance (x : Fin Pp) : Decidable (hiP x) := inferInstanceAs (Decidable ((-x).val < x.val))
def lowP (x : Fin Pp) : Fin Pp := if hiP x then -x else x
def Lr : Nat := 1000602388805416848354447456433976039139220704984751971333014534031007912622709466110671907282253916009473568139947
def rtP (x : Fin Pp) : Fin Pp := pwP x Lr
def sqP (x : Fin Pp) : Prop := rtP x * rtP x = x
instance (x : Fin Pp) : Decidable (sqP x) := inferInstanceAs (Decidable (rtP x * rtP x = x))
theorem Py {x : Fin Pp} (h : x ≠ 0) : (-x).val = 4002409555221667393417789825735904156556882819939007885332058136124031650490837864442687629129015664037894272559787 - x.val := by
 have h1 : (-x).val = (4002409555221667393417789825735904156556882819939007885332058136124031650490837864442687629129015664037894272559787 - x.val) % 4002409555221667393417789825735904156556882819939007885332058136124031650490837864442687629129015664037894272559787 := rfl
 have h2 : x.val ≠ 0 := fun e => h (Fin.ext e)
 rw [h1, Nat.mod_eq_of_lt (by omega)]
theorem FN {x : Fin Pp} (h : x ≠ 0) : hiP (-x) ↔ ¬ hiP x := by
 have h2 : x.val ≠ 0 := fun e => h (Fin.ext e)
 have h3 := x.isLt
 simp only [Pp] at h3
 unfold hiP
 rw [show - -x = x by grind, Py h]
 omega
theorem BJ : ¬ hiP 0 := by unfold hiP; decide
theorem AL : (-0 : Fin Pp) = 0 := by decide
theorem Cl (x : Fin Pp) : lowP x * lowP x = x * x := by
 unfold lowP
 split
 ·grind
 ·rfl
theorem TO (x : Fin Pp) : lowP (-x) = lowP x := by
 by_cases h0 : x = 0
 ·subst h0; rw [AL]
 ·unfold lowP
  by_cases h : hiP x
  ·rw [if_pos h, if_neg (fun h' => (FN h0).1 h' h)]
  ·rw [if_neg h, if_pos ((FN h0).2 h)]; grind
theorem Qk {x y : Fin Pp} (h : x * x = y * y) : x = y ∨ x = -y := by
 have h1 : (x - y) * (x + y) = 0 := by
  have : (x - y) * (x + y) = x * x - y * y := by grind
  rw [this, h]; grind
 rcases zV h1 with h2 | h2
 ·left
  have : x = (x - y) + y := by grind
  rw [this, h2]; grind
 ·right
  have : x = (x + y) - y := by grind
  rw [this, h2]; grind
theorem L2 {x y : Fin Pp} (h : x * x = y * y) : lowP x = lowP y := by
 rcases Qk h with e | e
 ·rw [e]
 ·rw [e, TO]
theorem Vk (x : Fin Pp) (m n : Nat) : pwP x m * pwP x n = pwP x (m + n) := (GP.pw_add x m n).symm
theorem ZV (x : Fin Pp) : rtP x * rtP x = pwP x halfP * x := by
 have e : Lr + Lr = halfP + 1 := by decide
 unfold rtP
 rw [Vk, e, uC]
theorem J6 (x : Fin Pp) : sqP x ↔ x = 0 ∨ pwP x halfP = 1 := by
 unfold sqP
 rw [ZV]
 constructor
 ·intro h
  by_cases h0 : x = 0
  ·exact .inl h0
  ·right
   have h1 : (pwP x halfP - 1) * x = 0 := by
    generalize pwP x halfP = z at *
    have : (z - 1) * x = z * x - x := by grind
    rw [this, h]; grind
   rcases zV h1 with h2 | h2
   ·generalize pwP x halfP = z at *
    have : z = (z - 1) + 1 := by grind
    rw [this, h2]; decide
   ·exact absurd h2 h0
 ·rintro (h | h)
  ·subst h; generalize pwP 0 halfP = z; grind
  ·rw [h]; grind
theorem JY {x : Fin Pp} (h : x ≠ 0) : pwP (x * x) halfP = 1 := by
 rw [Jb]; exact CQ h (2 * halfP) (by decide)
theorem LQ (x : Fin Pp) : sqP (x * x) := by
 rw [J6]
 by_cases h : x = 0
 ·left; subst h; decide
 ·exact .inr (JY h)
theorem Fj (x y : Fin Pp) (n : Nat) : pwP (x * y) n = pwP x n * pwP y n := by
 induction n with
 | zero => show (1 : Fin Pp) = 1 * 1; grind
 | succ n ih => rw [uC, uC, uC, ih]; grind
theorem JF {x : Fin Pp} (h : x ≠ 0) : pwP x halfP = 1 ∨ pwP x halfP = -1 := by
 have h1 := JY h
 rw [Fj] at h1
 generalize pwP x halfP = z at *
 have h2 : z * z = 1 * 1 := by rw [h1]; grind
 exact Qk h2
theorem zE : (1 : Fin Pp) ≠ -1 := by decide
theorem Ki : (-1 : Fin Pp) * -1 = 1 := by decide
theorem Ih : (-1 : Fin Pp) * 1 = -1 := by decide
theorem It : (1 : Fin Pp) * -1 = -1 := by decide
theorem Vo : (1 : Fin Pp) * 1 = 1 := by decide
theorem yo {x : Fin Pp} (h : x ≠ 0) : sqP x ↔ pwP x halfP = 1 := by
 rw [J6]; exact ⟨fun h' => h'.resolve_left h, .inr⟩
theorem yH {x y : Fin Pp} (hx : x ≠ 0) (hy : y ≠ 0) : x * y ≠ 0 := fun e => by
 rcases zV e with h | h
 ·exact hx h
 ·exact hy h
theorem Xk {x y : Fin Pp} (hx : x ≠ 0) (hy : y ≠ 0) : sqP (x * y) ↔ (sqP x ↔ sqP y) := by
 rw [yo hx, yo hy, yo (yH hx hy), Fj]
 rcases JF hx with h | h <;> rcases JF hy with h' | h' <;> rw [h, h']
 ·simp only [Vo]
 ·simp only [It, iff_def]; have := zE; grind
 ·simp only [Ih, iff_def]; have := zE; grind
 ·simp only [Ki]
theorem UP : sqP 0 := (J6 0).2 (.inl rfl)
theorem RN (x : Fin Pp) : lowP (rtP (x * x)) = lowP x := L2 (LQ x)
theorem Ta {x y : Fin Pp} (h : toM x = toM y) : x = y := by
 have e : ∀ z : Fin Pp, toM z = (z * ⟨39402006196394479212279040100143613805079739270465446667948293404245721771497210611414266254884915640806627990306816 % Pp, Nat.mod_lt _ (by decide)⟩).val := fun z => by
  unfold toM
  rw [Fin.val_mul]
  show _ = z.val * (39402006196394479212279040100143613805079739270465446667948293404245721771497210611414266254884915640806627990306816 % Pp) % Pp
  rw [Nat.mul_mod, Nat.mul_mod z.val (_ % Pp), Nat.mod_mod]
 rw [e, e] at h
 have h1 := Fin.ext h
 have h0 : (⟨39402006196394479212279040100143613805079739270465446667948293404245721771497210611414266254884915640806627990306816 % Pp, Nat.mod_lt _ (by decide)⟩ : Fin Pp) ≠ 0 := by decide
 generalize (⟨39402006196394479212279040100143613805079739270465446667948293404245721771497210611414266254884915640806627990306816 % Pp, Nat.mod_lt _ (by decide)⟩ : Fin Pp) = c at *
 have hi := wr h0
 generalize pwP c _ = d at hi
 have hx : x = (x * c) * d := by
  have : (x * c) * d = x * (c * d) := by grind
  rw [this, hi]; grind
 have hy : y = (y * c) * d := by
  have : (y * c) * d = y * (c * d) := by grind
  rw [this, hi]; grind
 rw [hx, hy, h1]
theorem wC {x y : Fin Pp} (h : flat [.m x] = flat [.m y]) : x = y := by
 have h' : limbs 6 (toM x) ++ [] = limbs 6 (toM y) ++ [] := h
 rw [List.append_nil, List.append_nil] at h'
 exact Ta (wm 6 _ _ (Nat.lt_trans (Nat.mod_lt _ (by decide)) (show Pp < _ by decide)) (Nat.lt_trans (Nat.mod_lt _ (by decide)) (show Pp < _ by decide)) h')
end Go.Ev
set_option linter.unusedSimpArgs false
set_option linter.unusedVariables false
namespace Go.Ev
def hi2 (a : F2) : Prop := if a.2 = 0 then hiP a.1 else hiP a.2
instance (a : F2) : Decidable (hi2 a) := inferInstanceAs (Decidable (if a.2 = 0 then hiP a.1 else hiP a.2))
def BO (a : F2) : F2 := if hi2 a then sj a else a
def sq2 (a : F2) : Prop := sqP (norm2 a)
def invE (x : Fin Pp) : Fin Pp := pwP x 4002409555221667393417789825735904156556882819939007885332058136124031650490837864442687629129015664037894272559785
def halfE : Fin Pp := invE (ofP (2 % 18446744073709551616))
def nrt (a : F2) : Fin Pp := lowP (rtP (norm2 a))
def tOne (a : F2) : Fin Pp := (a.1 + nrt a) * halfE
def tTwo (a : F2) : Fin Pp := (a.1 - nrt a) * halfE
def z9 (a : F2) (t : Fin Pp) : F2 := (lowP (rtP t), a.2 * halfE * invE (lowP (rtP t)))
def tM (a : F2) : F2 :=
 if a.2 = 0 then (if sqP a.1 then (lowP (rtP a.1), 0) else (0, lowP (rtP (-a.1))))
 else if sqP (tOne a) then z9 a (tOne a) else z9 a (tTwo a)
def rt2 (a : F2) : F2 := BO (tM a)
theorem F3 : ¬ hi2 (0, 0) := by unfold hi2; rw [if_pos rfl]; exact BJ
theorem HZ (x : Fin Pp) : - -x = x := by grind
theorem Ft {x : Fin Pp} (h : x ≠ 0) : -x ≠ 0 := fun e => h (by rw [← HZ x, e]; exact AL)
theorem KV {a : F2} (h : a ≠ (0, 0)) : hi2 (sj a) ↔ ¬ hi2 a := by
 unfold hi2 sj
 by_cases h2 : a.2 = 0
 ·have h1 : a.1 ≠ 0 := fun e => h (Prod.ext e h2)
  rw [if_pos h2, if_pos (show -a.2 = 0 by rw [h2]; exact AL)]
  exact FN h1
 ·rw [if_neg h2, if_neg (show ¬ -a.2 = 0 from Ft h2)]
  exact FN h2
theorem EY (a : F2) : qh (sj a) (sj a) = qh a a := by refine vq ?_ ?_ <;> simp only [qh, sj] <;> grind
theorem U8 (a : F2) : qh (BO a) (BO a) = qh a a := by
 unfold BO
 split
 ·exact EY a
 ·rfl
theorem RD (a : F2) : BO (sj a) = BO a := by
 by_cases h0 : a = (0, 0)
 ·subst h0; rw [At]
 ·unfold BO
  by_cases h : hi2 a
  ·rw [if_pos h, if_neg (fun h' => (KV h0).1 h' h)]
  ·rw [if_neg h, if_pos ((KV h0).2 h), z4]
theorem XR {x y : F2} (h : qh x x = qh y y) : x = y ∨ x = sj y := by
 have h1 : qh (tH x y) (q6 x y) = (0, 0) := by
  have e : ((x : G2) - (y : G2)) * ((x : G2) + (y : G2)) = (x : G2) * (x : G2) - (y : G2) * (y : G2) := by grind
  have e' : qh (tH x y) (q6 x y) = tH (qh x x) (qh y y) := e
  rw [e', h, FC, wt, CS]
 rcases PV h1 with h2 | h2
 ·left
  have e : (x : G2) = ((x : G2) - (y : G2)) + (y : G2) := by grind
  have e' : x = q6 (tH x y) y := e
  rw [e', h2, wt, yP]
 ·right
  have e : (x : G2) = ((x : G2) + (y : G2)) + -(y : G2) := by grind
  have e' : x = q6 (q6 x y) (sj y) := e
  rw [e', h2, wt, yP]
theorem IZ {x y : F2} (h : qh x x = qh y y) : BO x = BO y := by
 rcases XR h with e | e
 ·rw [e]
 ·rw [e, RD]
theorem G0 : pwP (-1) halfP = -1 := by
 have h2 : ∀ m n : Nat, m = 2 * n + 1 -> pwP (-1) m = -1 := fun m n e => by rw [e]; exact BM n
 exact h2 halfP 1000602388805416848354447456433976039139220704984751971333014534031007912622709466110671907282253916009473568139946 (by decide)
theorem Ll (x : Fin Pp) : pwP (-x) halfP = -pwP x halfP := by
 have e : -x = -1 * x := by grind
 rw [e, Fj, G0]
 generalize pwP x halfP = z
 grind
theorem Xx {x : Fin Pp} (h : x ≠ 0) (hs : ¬ sqP x) : sqP (-x) := by
 rw [yo (Ft h), Ll]
 rw [yo h] at hs
 rcases JF h with e | e
 ·exact absurd e hs
 ·rw [e]; decide
theorem Eb {x : Fin Pp} (hs : ¬ sqP x) : sqP (-x) := Xx (fun e => hs (by rw [e]; exact UP)) hs
theorem DF {x : Fin Pp} (h : x ≠ 0) : ¬ sqP (-(x * x)) := by
 rw [yo (Ft (yH h h)), Ll, JY h]
 exact fun e => zE e.symm
theorem GJ : ofP (2 % 18446744073709551616) * halfE = 1 := wr (by decide)
theorem Ef (x : Fin Pp) : x * halfE + x * halfE = x := by
 have h := GJ
 rw [show ofP (2 % 18446744073709551616) = 2 by decide] at h
 generalize halfE = z at *
 have : x * z + x * z = x * (2 * z) := by grind
 rw [this, h]; grind
theorem Fg : halfE ≠ 0 := fun e => by
 have h := GJ
 rw [e] at h
 exact absurd h (by decide)
theorem WQ {a : F2} (h : sq2 a) : nrt a * nrt a = a.1 * a.1 + a.2 * a.2 := by
 unfold nrt
 rw [Cl]; exact h
theorem GF {a : F2} (h : sq2 a) : tOne a * tTwo a = -((a.2 * halfE) * (a.2 * halfE)) := by
 have e := WQ h
 unfold tOne tTwo
 generalize nrt a = n at *
 generalize halfE = z
 have : (a.1 + n) * z * ((a.1 - n) * z) = (a.1 * a.1 - n * n) * (z * z) := by grind
 rw [this, e]; grind
theorem Vu (a : F2) : tOne a + tTwo a = a.1 := by
 have h := Ef a.1
 unfold tOne tTwo
 generalize halfE = z at *
 generalize nrt a = n
 have : (a.1 + n) * z + (a.1 - n) * z = a.1 * z + a.1 * z := by grind
 rw [this, h]
theorem aag {a : F2} (h : sq2 a) (h2 : a.2 ≠ 0) : tOne a ≠ 0 /\ tTwo a ≠ 0 := by
 have hp := GF h
 have hn := Ft (yH (yH h2 Fg) (yH h2 Fg))
 rw [← hp] at hn
 exact ⟨fun e => hn (by rw [e]; grind), fun e => hn (by rw [e]; grind)⟩
theorem HS {a : F2} (h : sq2 a) (h2 : a.2 ≠ 0) (hs : ¬ sqP (tOne a)) : sqP (tTwo a) := by
 obtain ⟨n1, n2⟩ := aag h h2
 have hp := DF (yH h2 Fg)
 rw [← GF h, Xk n1 n2] at hp
 exact Classical.byContradiction fun h' => hp ⟨fun x => absurd x hs, fun x => absurd x h'⟩
theorem GI {a : F2} {t u : Fin Pp} (ht : sqP t) (h0 : t ≠ 0) (hs : t + u = a.1) (hp : t * u = -((a.2 * halfE) * (a.2 * halfE))) : qh (z9 a t) (z9 a t) = a := by
 have hx : lowP (rtP t) * lowP (rtP t) = t := by rw [Cl]; exact ht
 have hn : lowP (rtP t) ≠ 0 := fun e => h0 (by rw [← hx, e]; decide)
 have hi : lowP (rtP t) * invE (lowP (rtP t)) = 1 := wr hn
 have hh := Ef a.2
 unfold z9
 generalize lowP (rtP t) = x at *
 generalize invE x = y at *
 generalize halfE = z at *
 have e1 : (a.2 * z * y) * (a.2 * z * y) = -u := by
  have : (a.2 * z * y) * (a.2 * z * y) = ((a.2 * z) * (a.2 * z)) * (y * y) := by grind
  rw [this]
  have hp' : (a.2 * z) * (a.2 * z) = -(t * u) := by rw [hp]; grind
  rw [hp', ← hx]
  have : -(x * x * u) * (y * y) = -u * ((x * y) * (x * y)) := by grind
  rw [this, hi]; grind
 have e2 : x * (a.2 * z * y) + x * (a.2 * z * y) = a.2 := by
  have : x * (a.2 * z * y) + x * (a.2 * z * y) = (a.2 * z + a.2 * z) * (x * y) := by grind
  rw [this, hi, hh]; grind
 refine vq ?_ ?_
 ·show x * x - (a.2 * z * y) * (a.2 * z * y) = a.1
  rw [hx, e1, ← hs]; grind
 ·show (x + a.2 * z * y) * (x + a.2 * z * y) - x * x - (a.2 * z * y) * (a.2 * z * y) = a.2
  generalize a.2 * z * y = w at *
  have : (x + w) * (x + w) - x * x - w * w = x * w + x * w := by grind
  rw [this, e2]
theorem HQ {a : F2} (h : sq2 a) : qh (tM a) (tM a) = a := by
 unfold tM
 by_cases h2 : a.2 = 0
 ·rw [if_pos h2]
  by_cases hs : sqP a.1
  ·rw [if_pos hs]
   have hx : lowP (rtP a.1) * lowP (rtP a.1) = a.1 := by rw [Cl]; exact hs
   generalize lowP (rtP a.1) = x at *
   refine vq ?_ ?_
   ·show x * x - 0 * 0 = a.1
    rw [hx]; grind
   ·show (x + 0) * (x + 0) - x * x - 0 * 0 = a.2
    rw [h2]; grind
  ·rw [if_neg hs]
   have hx : lowP (rtP (-a.1)) * lowP (rtP (-a.1)) = -a.1 := by rw [Cl]; exact Eb hs
   generalize lowP (rtP (-a.1)) = x at *
   refine vq ?_ ?_
   ·show 0 * 0 - x * x = a.1
    rw [hx]; grind
   ·show (0 + x) * (0 + x) - 0 * 0 - x * x = a.2
    rw [h2]; grind
 ·rw [if_neg h2]
  obtain ⟨n1, n2⟩ := aag h h2
  by_cases hs : sqP (tOne a)
  ·rw [if_pos hs]
   exact GI hs n1 (Vu a) (GF h)
  ·rw [if_neg hs]
   refine GI (u := tOne a) (HS h h2 hs) n2 ?_ ?_
   ·rw [← Vu a]; generalize tOne a = x; generalize tTwo a = y; grind
   ·rw [← GF h]; generalize tOne a = x; generalize tTwo a = y; grind
theorem Pk {a : F2} (h : sq2 a) : qh (rt2 a) (rt2 a) = a := by
 unfold rt2
 rw [U8, HQ h]
theorem PT (a : F2) : sq2 (qh a a) := by
 unfold sq2
 rw [Mr]; exact LQ _
theorem D6 (a : F2) : rt2 (qh a a) = BO a := IZ (HQ (PT a))
theorem RU (x : Fin Pp) : sq2 (x, 0) := by
 unfold sq2 norm2
 rw [show x * x + 0 * 0 = x * x by grind]
 exact LQ x
theorem G8 {a : F2} (h : a.2 = 0) : sq2 a := by
 have := RU a.1
 rwa [← h] at this
end Go.Ev
