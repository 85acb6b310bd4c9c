/- Pruned: Ha. -/
import Derived.Test.YtobgpmclgacbmaaQE2
import Derived.Test.YtobgpmclgacbmaaQZhOpn
import Derived.Lib.BitFns
/- The towers' sums and products, as the program forms them, over the field of order p. Nothing here names a program. -/
set_option linter.unusedSimpArgs false
set_option linter.unusedVariables false
namespace Go.Ev
abbrev F2 := Fin Pp × Fin Pp
abbrev F6 := F2 × F2 × F2
def m2 (a : F2) : List Ch := [.m a.1, .m a.2]
def q2 (a : F2) : List Ch := [.q a.1, .q a.2]
def add2 (a b : F2) : F2 := (a.1 + b.1, a.2 + b.2)
def sub2 (a b : F2) : F2 := (a.1 - b.1, a.2 - b.2)
def mul2 (a b : F2) : F2 := (a.1 * b.1 - a.2 * b.2, (a.1 + a.2) * (b.1 + b.2) - a.1 * b.1 - a.2 * b.2)
def shf2 (a : F2) : F2 := (a.1 - a.2, a.1 + a.2)
def add6 (a b : F6) : F6 := (add2 a.1 b.1, add2 a.2.1 b.2.1, add2 a.2.2 b.2.2)
def mul6 (a b : F6) : F6 :=
  let x := mul2 a.1 b.1
  let y := mul2 a.2.1 b.2.1
  let z := mul2 a.2.2 b.2.2
  let xy := sub2 (sub2 (mul2 (add2 a.1 a.2.1) (add2 b.1 b.2.1)) x) y
  let xz := sub2 (sub2 (mul2 (add2 a.1 a.2.2) (add2 b.1 b.2.2)) x) z
  let yz := sub2 (sub2 (mul2 (add2 a.2.1 a.2.2) (add2 b.2.1 b.2.2)) y) z
  (add2 x (shf2 yz), add2 xy (shf2 z), add2 xz y)
def parM2 : Par F2 := parM.pair parM
abbrev N2 := Nat × Nat
def parQ2 : Par F2 := parQs.pair parQs
def parN2 : Par N2 := parN6.pair parN6
def of2 (a : N2) : F2 := (ofP a.1, ofP a.2)
def small (a : Nat) : Prop := a < 39402006196394479212279040100143613805079739270465446667948293404245721771497210611414266254884915640806627990306816
def small2 (a : N2) : Prop := small a.1 ∧ small a.2
def neg2 (a : F2) : F2 := (-a.1, -a.2)
def sub6 (a b : F6) : F6 := (sub2 a.1 b.1, sub2 a.2.1 b.2.1, sub2 a.2.2 b.2.2)
def neg6 (a : F6) : F6 := (neg2 a.1, neg2 a.2.1, neg2 a.2.2)
def n2 (a : N2) : List Ch := [.n 6 a.1, .n 6 a.2]
def one2 : F2 := (1, 0)
def one6 : F6 := (one2, (0, 0), (0, 0))
end Go.Ev

/- Elements of the towers as arguments. Nothing here names a program. -/
set_option linter.unusedSimpArgs false
set_option linter.unusedVariables false
namespace Go.Ev

end Go.Ev

/- The sextic field's shift is a product with v: identities of its sums and products. Nothing here names a program. -/
set_option linter.unusedSimpArgs false
set_option linter.unusedVariables false
namespace Go.Ev
theorem ext2 {a b : F2} (h1 : a.1 = b.1) (h2 : a.2 = b.2) : a = b := Prod.ext h1 h2
theorem ext6 {a b : F6} (h1 : a.1 = b.1) (h2 : a.2.1 = b.2.1) (h3 : a.2.2 = b.2.2) : a = b := Prod.ext h1 (Prod.ext h2 h3)

end Go.Ev

/- Identities of the towers' sums, products and conjugates. Nothing here names a program. -/
set_option linter.unusedSimpArgs false
set_option linter.unusedVariables false
namespace Go.Ev
theorem sub2_eq (a b : F2) : sub2 a b = add2 a (neg2 b) := by
  refine ext2 ?_ ?_ <;> simp only [sub2, add2, neg2] <;> grind
end Go.Ev

/- Primes: Fermat's theorem, and a test by factors of the number less one. Nothing here names a program. -/
set_option linter.unusedSimpArgs false
set_option linter.unusedVariables false
namespace Go.Ev

def Pr (n : Nat) : Prop := 2 ≤ n ∧ ∀ d, d ∣ n → d = 1 ∨ d = n

theorem Pr.coprime {p a : Nat} (hp : Pr p) (h : ¬ p ∣ a) : Nat.Coprime p a := by
  have h1 := hp.2 (Nat.gcd p a) (Nat.gcd_dvd_left p a)
  rcases h1 with h1 | h1
  · exact h1
  · exact absurd (h1 ▸ Nat.gcd_dvd_right p a) h

theorem Pr.euclid {p a b : Nat} (hp : Pr p) (h : p ∣ a * b) : p ∣ a ∨ p ∣ b := by
  by_cases ha : p ∣ a
  · exact .inl ha
  · exact .inr ((hp.coprime ha).dvd_of_dvd_mul_left h)

/-! ### Binomials -/
def cho : Nat → Nat → Nat
  | _, 0 => 1
  | 0, _ + 1 => 0
  | n + 1, k + 1 => cho n k + cho n (k + 1)

theorem cho_big : ∀ (n k : Nat), n < k → cho n k = 0
  | 0, k + 1, _ => rfl
  | n + 1, k + 1, h => by simp only [cho]; rw [cho_big n k (by omega), cho_big n (k + 1) (by omega)]
theorem cho_self : ∀ n, cho n n = 1
  | 0 => rfl
  | n + 1 => by simp only [cho]; rw [cho_self n, cho_big n (n + 1) (by omega)]
theorem cho_mul : ∀ (n k : Nat), (n + 1) * cho n k = cho (n + 1) (k + 1) * (k + 1)
  | 0, 0 => rfl
  | 0, k + 1 => by simp [cho]
  | n + 1, 0 => by
    have := cho_mul n 0
    simp only [cho, Nat.mul_one, Nat.zero_add] at this ⊢
    omega
  | n + 1, k + 1 => by
    have h1 := cho_mul n k
    have h2 := cho_mul n (k + 1)
    have e1 : cho (n + 1 + 1) (k + 1 + 1) = cho (n + 1) (k + 1) + cho (n + 1) (k + 1 + 1) := rfl
    have e2 : cho (n + 1) (k + 1) = cho n k + cho n (k + 1) := rfl
    rw [e1, Nat.add_mul (cho (n + 1) (k + 1))]
    rw [e2] at h1 ⊢
    rw [show (n + 1 + 1) * (cho n k + cho n (k + 1)) = (n + 1) * cho n k + (n + 1) * cho n (k + 1) + (cho n k + cho n (k + 1)) by rw [Nat.add_mul (n + 1) 1, Nat.mul_add, Nat.one_mul], h1, h2,
      show (cho n k + cho n (k + 1)) * (k + 1 + 1) = (cho n k + cho n (k + 1)) * (k + 1) + (cho n k + cho n (k + 1)) from Nat.mul_succ _ _]
    omega

def sumN (f : Nat → Nat) : Nat → Nat
  | 0 => 0
  | n + 1 => sumN f n + f n

theorem sumN_mul (f : Nat → Nat) (c : Nat) : ∀ n, sumN f n * c = sumN (fun k => f k * c) n
  | 0 => by simp [sumN]
  | n + 1 => by simp only [sumN, Nat.add_mul, sumN_mul f c n]
theorem sumN_add (f g : Nat → Nat) : ∀ n, sumN f n + sumN g n = sumN (fun k => f k + g k) n
  | 0 => rfl
  | n + 1 => by simp only [sumN]; rw [← sumN_add f g n]; omega
theorem sumN_shift (f : Nat → Nat) : ∀ n, sumN f (n + 1) = f 0 + sumN (fun k => f (k + 1)) n
  | 0 => by simp [sumN]
  | n + 1 => by
    rw [sumN, sumN_shift f n]
    simp only [sumN]
    omega
theorem sumN_congr {f g : Nat → Nat} : ∀ {n}, (∀ k, k < n → f k = g k) → sumN f n = sumN g n
  | 0, _ => rfl
  | n + 1, h => by simp only [sumN]; rw [sumN_congr (fun k hk => h k (by omega)), h n (by omega)]

theorem binom (x : Nat) : ∀ n, (x + 1) ^ n = sumN (fun k => cho n k * x ^ k) (n + 1)
  | 0 => by simp [sumN, cho]
  | n + 1 => by
    rw [Nat.pow_succ, Nat.mul_add, Nat.mul_one, binom x n, sumN_mul]
    rw [sumN_shift (fun k => cho (n + 1) k * x ^ k) (n + 1)]
    have e1 : sumN (fun k => cho n k * x ^ k) (n + 1) = 1 + sumN (fun k => cho n (k + 1) * x ^ (k + 1)) (n + 1) := by
      rw [sumN_shift]
      simp only [sumN]
      rw [cho_big n (n + 1) (by omega)]
      simp [cho]
    rw [e1]
    have e2 : sumN (fun k => cho (n + 1) (k + 1) * x ^ (k + 1)) (n + 1) = sumN (fun k => cho n k * x ^ k * x) (n + 1) + sumN (fun k => cho n (k + 1) * x ^ (k + 1)) (n + 1) := by
      rw [sumN_add]
      refine sumN_congr fun k _ => ?_
      simp only [cho, Nat.add_mul, Nat.pow_succ, Nat.mul_assoc]
    rw [e2]
    simp only [cho, Nat.pow_zero, Nat.mul_one]
    omega

theorem sumN_dvd {p : Nat} {f : Nat → Nat} : ∀ {n}, (∀ k, k < n → p ∣ f k) → p ∣ sumN f n
  | 0, _ => Nat.dvd_zero p
  | n + 1, h => Nat.dvd_add (sumN_dvd fun k hk => h k (by omega)) (h n (by omega))

theorem Pr.dvd_cho {p k : Nat} (hp : Pr p) (h0 : 0 < k) (h1 : k < p) : p ∣ cho p k := by
  obtain ⟨k, rfl⟩ : ∃ j, k = j + 1 := ⟨k - 1, by omega⟩
  obtain ⟨q, rfl⟩ : ∃ q, p = q + 1 := ⟨p - 1, by omega⟩
  have h := cho_mul q k
  have : (q + 1) ∣ cho (q + 1) (k + 1) * (k + 1) := ⟨cho q k, h.symm⟩
  rcases hp.euclid this with h2 | h2
  · exact h2
  · exact absurd (Nat.le_of_dvd (by omega) h2) (by omega)

theorem Pr.dream {p : Nat} (hp : Pr p) (x : Nat) : (x + 1) ^ p % p = (x ^ p + 1) % p := by
  obtain ⟨q, rfl⟩ : ∃ q, p = q + 1 := ⟨p - 1, by have := hp.1; omega⟩
  rw [binom x (q + 1)]
  rw [sumN]
  rw [sumN_shift]
  have hd : (q + 1) ∣ sumN (fun k => cho (q + 1) (k + 1) * x ^ (k + 1)) q := sumN_dvd fun k hk => Nat.dvd_trans (hp.dvd_cho (k := k + 1) (by omega) (by omega)) ⟨_, rfl⟩
  obtain ⟨c, hc⟩ := hd
  rw [hc, cho_self]
  simp only [cho, Nat.pow_zero, Nat.mul_one, Nat.one_mul]
  rw [show 1 + (q + 1) * c + x ^ (q + 1) = x ^ (q + 1) + 1 + (q + 1) * c by omega, Nat.add_mul_mod_self_left]

theorem Pr.fermat {p : Nat} (hp : Pr p) : ∀ x, x ^ p % p = x % p
  | 0 => by rw [Nat.zero_pow (by have := hp.1; omega)]
  | x + 1 => by rw [hp.dream x, Nat.add_mod, hp.fermat x, ← Nat.add_mod]

theorem Pr.fermat1 {p x : Nat} (hp : Pr p) (h : ¬ p ∣ x) : x ^ (p - 1) % p = 1 := by
  have h2 := hp.1
  have h1 := hp.fermat x
  have hx : 0 < x := Nat.pos_of_ne_zero fun e => h (e ▸ Nat.dvd_zero p)
  have e : x ^ p = x * x ^ (p - 1) := by rw [Nat.mul_comm, ← Nat.pow_succ, show (p - 1).succ = p by omega]
  have hle : 1 ≤ x ^ (p - 1) := Nat.pow_pos hx
  have hd : p ∣ x * (x ^ (p - 1) - 1) := by
    rw [Nat.mul_sub, ← e, Nat.mul_one]
    have hle2 : x ≤ x ^ p := by rw [e]; exact Nat.le_mul_of_pos_right _ hle
    exact Nat.dvd_of_mod_eq_zero (Nat.sub_mod_eq_zero_of_mod_eq h1)
  have h3 := (hp.coprime h).dvd_of_dvd_mul_left hd
  obtain ⟨c, hc⟩ := h3
  rw [show x ^ (p - 1) = 1 + p * c by omega, Nat.add_mul_mod_self_left, Nat.mod_eq_of_lt (by omega)]

/-! ### Powers that are 1 -/
theorem pow_mod_one {c s : Nat} (hs : 2 ≤ s) {m : Nat} (h : c ^ m % s = 1) (k : Nat) : c ^ (m * k) % s = 1 := by
  rw [Nat.pow_mul, Nat.pow_mod, h, Nat.one_pow, Nat.mod_eq_of_lt (by omega)]
theorem pow_gcd {c s : Nat} (hs : 2 ≤ s) : ∀ (a b : Nat), c ^ a % s = 1 → c ^ b % s = 1 → c ^ Nat.gcd a b % s = 1 := by
  intro a b
  induction a, b using Nat.gcd.induction with
  | H0 b => intro _ h; rwa [Nat.gcd_zero_left]
  | H1 a b ha ih =>
    intro h1 h2
    rw [Nat.gcd_rec]
    refine ih ?_ h1
    have e := Nat.div_add_mod b a
    rw [← e, Nat.pow_add, Nat.mul_mod, pow_mod_one hs h1, Nat.one_mul, Nat.mod_mod] at h2
    exact h2

theorem dvd_low {q e d : Nat} (hq : Pr q) (he : 0 < e) (h : d ∣ q ^ e) (hne : d ≠ q ^ e) : d ∣ q ^ (e - 1) := by
  obtain ⟨k, hk⟩ := h
  have hk1 : k ≠ 1 := fun e1 => hne (by rw [e1, Nat.mul_one] at hk; exact hk.symm)
  have hqk : q ∣ k := by
    by_cases h : q ∣ k
    · exact h
    · exfalso
      have hc : Nat.Coprime k (q ^ e) := (hq.coprime h).symm.pow_right e
      have h2 : k ∣ q ^ e := ⟨d, by rw [hk, Nat.mul_comm]⟩
      exact hk1 (Nat.eq_one_of_dvd_one (by have := Nat.dvd_gcd (Nat.dvd_refl k) h2; rwa [hc] at this))
  obtain ⟨k', rfl⟩ := hqk
  refine ⟨k', ?_⟩
  have e1 : q ^ e = q ^ (e - 1) * q := by rw [← Nat.pow_succ, show (e - 1).succ = e by omega]
  have hq0 : 0 < q := by have := hq.1; omega
  rw [e1] at hk
  have : q ^ (e - 1) * q = d * k' * q := by rw [hk, Nat.mul_assoc, Nat.mul_comm q k']
  exact Nat.eq_of_mul_eq_mul_right hq0 this

theorem order_dvd {c s q e m : Nat} (hs : 2 ≤ s) (hq : Pr q) (he : 0 < e) (h1 : c ^ (q ^ e) % s = 1) (h2 : c ^ (q ^ (e - 1)) % s ≠ 1) (hm : c ^ m % s = 1) : q ^ e ∣ m := by
  have hg := pow_gcd hs _ _ h1 hm
  by_cases h : Nat.gcd (q ^ e) m = q ^ e
  · exact h ▸ Nat.gcd_dvd_right _ _
  · exfalso
    obtain ⟨k, hk⟩ := dvd_low hq he (Nat.gcd_dvd_left _ _) h
    apply h2
    rw [hk]
    exact pow_mod_one hs hg k

theorem exists_prime : ∀ (n : Nat), 2 ≤ n → ∃ p, Pr p ∧ p ∣ n := by
  intro n
  induction n using Nat.strongRecOn with
  | ind n ih =>
    intro hn
    by_cases h : ∃ d, d ∣ n ∧ d ≠ 1 ∧ d ≠ n
    · obtain ⟨d, h1, h2, h3⟩ := h
      have hd : d ≤ n := Nat.le_of_dvd (by omega) h1
      have hd0 : d ≠ 0 := fun e => by subst e; have := Nat.eq_zero_of_zero_dvd h1; omega
      obtain ⟨p, hp, hpd⟩ := ih d (by omega) (by omega)
      exact ⟨p, hp, Nat.dvd_trans hpd h1⟩
    · refine ⟨n, ⟨hn, fun d hd => ?_⟩, Nat.dvd_refl n⟩
      by_cases h1 : d = 1
      · exact .inl h1
      · by_cases h2 : d = n
        · exact .inr h2
        · exact absurd ⟨d, hd, h1, h2⟩ h

/-- A power modulo n, by squaring. -/
def mpow : Nat → Nat → Nat → Nat → Nat
  | 0, _, _, n => 1 % n
  | f + 1, a, e, n =>
    match Nat.beq e 0 with
    | true => 1 % n
    | false => match Nat.beq (e % 2) 0 with
      | true => mpow f a (e / 2) n ^ 2 % n
      | false => mpow f a (e / 2) n ^ 2 % n * a % n

theorem mpow_eq : ∀ (f a e n : Nat), e < 2 ^ f → mpow f a e n = a ^ e % n
  | 0, a, e, n, h => by
    have : e = 0 := by simpa using h
    subst this; rfl
  | f + 1, a, e, n, h => by
    unfold mpow
    have ih := mpow_eq f a (e / 2) n (by rw [Nat.pow_succ] at h; omega)
    split
    · rename_i h0
      have := Nat.eq_of_beq_eq_true h0
      subst this; rfl
    · have hs : (a ^ (e / 2) % n) ^ 2 % n = a ^ (e / 2 * 2) % n := by
        rw [← Nat.pow_mod, ← Nat.pow_mul]
      rw [ih, hs]
      split
      · rename_i h1
        have := Nat.eq_of_beq_eq_true h1
        rw [show e / 2 * 2 = e by omega]
      · rename_i h1
        have : e % 2 ≠ 0 := fun h => by rw [h] at h1; cases h1
        rw [Nat.mod_mul_mod, ← Nat.pow_succ, show (e / 2 * 2).succ = e by omega]

/-- Every prime divisor of N is 1 modulo q^e. -/
theorem pock {N a q e : Nat} (hN : 2 ≤ N) (hq : Pr q) (he : 0 < e) (hd : q ^ e ∣ N - 1) (h1 : a ^ (N - 1) % N = 1) (h2 : Nat.gcd (a ^ ((N - 1) / q) % N + (N - 1)) N = 1) {s : Nat} (hs : Pr s) (hsN : s ∣ N) : q ^ e ∣ s - 1 := by
  have hs2 := hs.1
  have red : ∀ x, x % N = 1 → x % s = 1 := fun x h => by
    have := Nat.mod_mod_of_dvd x hsN
    rw [h] at this
    rw [← this, Nat.mod_eq_of_lt (by omega)]
  obtain ⟨k, hk⟩ := hd
  have hq0 : 0 < q := by have := hq.1; omega
  have hqe : 0 < q ^ e := Nat.pow_pos hq0
  have e1 : (N - 1) / q = k * q ^ (e - 1) := by
    rw [hk, show q ^ e = q ^ (e - 1) * q by rw [← Nat.pow_succ, show (e - 1).succ = e by omega]]
    rw [Nat.mul_comm (q ^ (e - 1)) q, Nat.mul_assoc, Nat.mul_div_cancel_left _ hq0, Nat.mul_comm]
  refine order_dvd (c := a ^ k) hs2 hq he ?_ ?_ ?_
  · rw [← Nat.pow_mul, Nat.mul_comm, ← hk]
    exact red _ h1
  · intro h
    rw [← Nat.pow_mul, ← e1] at h
    have h3 : s ∣ a ^ ((N - 1) / q) % N + (N - 1) := by
      have h4 := Nat.mod_mod_of_dvd (a ^ ((N - 1) / q)) hsN
      rw [h] at h4
      generalize a ^ ((N - 1) / q) % N = x at *
      obtain ⟨t, ht⟩ := hsN
      refine ⟨x / s + t, ?_⟩
      have := Nat.div_add_mod x s
      rw [Nat.mul_add, ← ht]
      omega
    have := Nat.dvd_gcd h3 hsN
    rw [h2] at this
    have := Nat.le_of_dvd (by omega) this
    omega
  · refine hs.fermat1 fun hd => ?_
    have h3 : s ∣ a ^ (N - 1) := by rw [hk, Nat.mul_comm, Nat.pow_mul]; exact Nat.dvd_trans hd (Nat.dvd_trans ⟨_, (by rw [← Nat.pow_succ', show (q ^ e - 1).succ = q ^ e by omega] : (a ^ k) ^ (q ^ e) = a ^ k * (a ^ k) ^ (q ^ e - 1))⟩ (Nat.dvd_refl _))
    have h4 := red _ h1
    have h5 := Nat.mod_eq_zero_of_dvd h3
    omega

theorem pockM {N : Nat} (a q e f : Nat) (hN : 2 ≤ N) (hq : Pr q) (he : 0 < e) (hd : (N - 1) % q ^ e = 0) (hf : N < 2 ^ f) (h1 : mpow f a (N - 1) N = 1) (h2 : Nat.gcd (mpow f a ((N - 1) / q) N + (N - 1)) N = 1) {s : Nat} (hs : Pr s) (hsN : s ∣ N) : q ^ e ∣ s - 1 := by
  rw [mpow_eq f a (N - 1) N (by omega)] at h1
  rw [mpow_eq f a ((N - 1) / q) N (Nat.lt_of_le_of_lt (Nat.div_le_self _ _) (by omega))] at h2
  exact pock hN hq he (Nat.dvd_of_mod_eq_zero hd) h1 h2 hs hsN

/-- All divisors are 1 modulo F if all prime divisors are. -/
theorem all_div {N F : Nat} (hF : ∀ s, Pr s → s ∣ N → F ∣ s - 1) : ∀ d, 0 < d → d ∣ N → F ∣ d - 1 := by
  intro d
  induction d using Nat.strongRecOn with
  | ind d ih =>
    intro h0 hd
    by_cases h1 : d = 1
    · subst h1; exact Nat.dvd_zero F
    · obtain ⟨p, hp, hpd⟩ := exists_prime d (by omega)
      obtain ⟨k, rfl⟩ := hpd
      have hk0 : 0 < k := Nat.pos_of_ne_zero fun e => by subst e; simp at h0
      have hp2 := hp.1
      have h3 := ih k (by have := Nat.mul_le_mul_right k hp2; omega) hk0 (Nat.dvd_trans ⟨p, Nat.mul_comm p k⟩ hd)
      have h4 := hF p hp (Nat.dvd_trans ⟨k, rfl⟩ hd)
      obtain ⟨x, hx⟩ := h3
      obtain ⟨y, hy⟩ := h4
      have e1 : p = F * y + 1 := by omega
      have e2 : k = F * x + 1 := by omega
      refine ⟨y * k + x, ?_⟩
      rw [Nat.mul_add, ← hx, ← Nat.mul_assoc, ← hy, Nat.sub_mul]
      have : 1 * k ≤ p * k := Nat.mul_le_mul_right k (by omega)
      omega

theorem prime_sqrt {N F : Nat} (hN : 2 ≤ N) (hF : ∀ s, Pr s → s ∣ N → F ∣ s - 1) (h : N < (F + 1) * (F + 1)) : Pr N := by
  refine ⟨hN, fun d hd => ?_⟩
  obtain ⟨k, hk⟩ := hd
  by_cases h1 : d = 1
  · exact .inl h1
  by_cases h2 : d = N
  · exact .inr h2
  exfalso
  have hd0 : 0 < d := Nat.pos_of_ne_zero fun e => by subst e; simp at hk; omega
  have hk0 : 0 < k := Nat.pos_of_ne_zero fun e => by subst e; simp at hk; omega
  have hk1 : k ≠ 1 := fun e => h2 (by rw [e, Nat.mul_one] at hk; exact hk.symm)
  have a1 := all_div hF d hd0 ⟨k, hk⟩
  have a2 := all_div hF k hk0 ⟨d, by rw [hk, Nat.mul_comm]⟩
  have b1 := Nat.le_of_dvd (by omega) a1
  have b2 := Nat.le_of_dvd (by omega) a2
  have := Nat.mul_le_mul (show F + 1 ≤ d by omega) (show F + 1 ≤ k by omega)
  omega

/-- No divisor from d on, so many. -/
def noDiv (n : Nat) : Nat → Nat → Bool
  | _, 0 => true
  | d, k + 1 => match Nat.beq (n % d) 0 with | true => false | false => noDiv n (d + 1) k

theorem noDiv_ok (n : Nat) : ∀ (k d : Nat), noDiv n d k = true → ∀ x, d ≤ x → x < d + k → ¬ x ∣ n
  | 0, d, _, x, h1, h2 => by omega
  | k + 1, d, h, x, h1, h2 => by
    unfold noDiv at h
    split at h
    · cases h
    · rename_i hb
      by_cases e : x = d
      · subst e
        intro hd
        have := Nat.mod_eq_zero_of_dvd hd
        rw [this] at hb
        cases hb
      · exact noDiv_ok n k (d + 1) h x (by omega) (by omega)

theorem prime_trial {n k : Nat} (hn : 2 ≤ n) (h : noDiv n 2 k = true) (hk : n < (k + 2) * (k + 2)) : Pr n := by
  refine ⟨hn, fun d hd => ?_⟩
  by_cases h1 : d = 1
  · exact .inl h1
  by_cases h2 : d = n
  · exact .inr h2
  exfalso
  obtain ⟨m, hm⟩ := hd
  have hd0 : d ≠ 0 := fun e => by subst e; simp at hm; omega
  have hm0 : m ≠ 0 := fun e => by subst e; simp at hm; omega
  have hm1 : m ≠ 1 := fun e => h2 (by rw [e, Nat.mul_one] at hm; exact hm.symm)
  have n1 := noDiv_ok n k 2 h
  rcases Nat.lt_or_ge d (k + 2) with hl | hl
  · exact n1 d (by omega) (by omega) ⟨m, hm⟩
  · rcases Nat.lt_or_ge m (k + 2) with hl2 | hl2
    · exact n1 m (by omega) (by omega) ⟨d, by rw [hm, Nat.mul_comm]⟩
    · have := Nat.mul_le_mul hl hl2
      omega
end Go.Ev

/- How many bits rows of limbs have; powers. Nothing here names a program. -/
set_option linter.unusedSimpArgs false
set_option linter.unusedVariables false
namespace Go.Ev

/-- How many bits i limbs of a number have. -/
def nbits : Nat → Nat → Nat
  | 0, _ => 0
  | i + 1, a => if a / 18446744073709551616 ^ i % 18446744073709551616 = 0 then nbits i a else 64 * i + Lib.bitLen (a / 18446744073709551616 ^ i % 18446744073709551616)

theorem wrap_bits (n k : Nat) (hn : n ≤ 1024) (hk : k ≤ 64) : IntKind.i64.wrap ((n : Int) + ((k : Nat) : Int)) = ((n + k : Nat) : Int) := by
  simp only [wrap_i64]
  omega

theorem bitLen_lt : ∀ (f x : Nat), x < 2 ^ f → x < 2 ^ Lib.bitLenAux f x
  | 0, x, h => by simp [Lib.bitLenAux] at h ⊢; omega
  | f + 1, x, h => by
    simp only [Lib.bitLenAux]
    split
    · rename_i h0; subst h0; simp
    · have := bitLen_lt f (x / 2) (by rw [Nat.pow_succ] at h; omega)
      rw [Nat.add_comm, Nat.pow_succ]
      omega

theorem nbits_le : ∀ (i a : Nat), nbits i a ≤ 64 * i
  | 0, _ => Nat.le_refl _
  | i + 1, a => by
    have h1 := nbits_le i a
    have h2 := Lib.bitLen_le (a / 18446744073709551616 ^ i % 18446744073709551616) 64 (Nat.le_refl _) (Nat.mod_lt _ (by decide))
    simp only [nbits]
    split <;> omega

theorem nbits_lt : ∀ (i a : Nat), a % 18446744073709551616 ^ i < 2 ^ nbits i a
  | 0, a => by simp [nbits, Nat.mod_one]
  | i + 1, a => by
    have h1 := nbits_lt i a
    have hm := Nat.mod_mul (x := a) (a := 18446744073709551616 ^ i) (b := 18446744073709551616)
    rw [← Nat.pow_succ] at hm
    rw [hm]
    simp only [nbits]
    split
    · rename_i h0
      rw [h0, Nat.mul_zero, Nat.add_zero]
      exact h1
    · have h2 : a / 18446744073709551616 ^ i % 18446744073709551616 < 2 ^ Lib.bitLen (a / 18446744073709551616 ^ i % 18446744073709551616) := bitLen_lt 64 _ (Nat.mod_lt _ (by decide))
      have h3 : a % 18446744073709551616 ^ i < 18446744073709551616 ^ i := Nat.mod_lt _ (Nat.pow_pos (by decide))
      have e : (18446744073709551616 : Nat) ^ i = 2 ^ (64 * i) := by rw [Nat.pow_mul]
      rw [Nat.pow_add, ← e]
      generalize a / 18446744073709551616 ^ i % 18446744073709551616 = q at *
      generalize 2 ^ Lib.bitLen q = Q at *
      generalize 18446744073709551616 ^ i = P at *
      have := Nat.mul_le_mul_left P (show q + 1 ≤ Q by omega)
      rw [Nat.mul_add, Nat.mul_one] at this
      generalize a % P = r at *
      omega

theorem nbits_all {i a : Nat} (h : a < 18446744073709551616 ^ i) : a / 2 ^ nbits i a = 0 := by
  have := nbits_lt i a
  rw [Nat.mod_eq_of_lt h] at this
  exact Nat.div_eq_of_lt this
end Go.Ev

/- Powers by squaring and multiplying: plain laws. Nothing here names a program. -/
set_option linter.unusedSimpArgs false
set_option linter.unusedVariables false
namespace Go.Ev

/-- A power. -/
def pw {α : Type} (mul : α → α → α) (one a : α) : Nat → α
  | 0 => one
  | n + 1 => mul (pw mul one a n) a

structure Mon (α : Type) where
  mul : α → α → α
  one : α
  assoc : ∀ a b c, mul (mul a b) c = mul a (mul b c)
  one_mul : ∀ a, mul one a = a
  mul_one : ∀ a, mul a one = a

theorem Mon.pw_add {α : Type} (G : Mon α) (a : α) (m : Nat) : ∀ n, pw G.mul G.one a (m + n) = G.mul (pw G.mul G.one a m) (pw G.mul G.one a n)
  | 0 => by simp only [Nat.add_zero, pw, G.mul_one]
  | n + 1 => by rw [← Nat.add_assoc]; simp only [pw]; rw [G.pw_add a m n, G.assoc]
theorem Mon.pw_dbl {α : Type} (G : Mon α) (a : α) (n : Nat) : pw G.mul G.one a (2 * n) = G.mul (pw G.mul G.one a n) (pw G.mul G.one a n) := by
  rw [Nat.two_mul, G.pw_add]
theorem Mon.pw_mul {α : Type} (G : Mon α) (a : α) (m : Nat) : ∀ n, pw G.mul G.one a (m * n) = pw G.mul G.one (pw G.mul G.one a m) n
  | 0 => by simp only [Nat.mul_zero, pw]
  | n + 1 => by rw [Nat.mul_add, Nat.mul_one, G.pw_add, G.pw_mul a m n]; rfl

/-- Bit i of a number. -/
theorem bit_at (e j s : Nat) (hs : s < 64) : e / 18446744073709551616 ^ j % 18446744073709551616 / 2 ^ s % 2 = e / 2 ^ (64 * j + s) % 2 := by
  have e1 : (18446744073709551616 : Nat) = 2 ^ s * 2 ^ (64 - s) := by rw [← Nat.pow_add, show s + (64 - s) = 64 by omega]
  have e2 : (18446744073709551616 : Nat) ^ j = 2 ^ (64 * j) := by rw [Nat.pow_mul]
  rw [Nat.pow_add, ← e2, ← Nat.div_div_eq_div_mul]
  generalize e / 18446744073709551616 ^ j = q
  rw [e1, Nat.mod_mul_right_div_self]
  have h2 : (2 : Nat) ∣ 2 ^ (64 - s) := ⟨2 ^ (63 - s), by rw [Nat.mul_comm, ← Nat.pow_succ, show (63 - s).succ = 64 - s by omega]⟩
  exact Nat.mod_mod_of_dvd _ h2

theorem and_one (x : Nat) : x % 18446744073709551616 &&& 1 = x % 2 := by
  rw [Nat.and_one_is_mod]
  exact Nat.mod_mod_of_dvd _ (by decide)

/-- What the program asks of bit i: is it 1? -/
theorem bit_test (e i : Nat) : (e / 18446744073709551616 ^ (0 + i / 64 * 1) % 18446744073709551616 / 2 ^ (i % 64) % 18446744073709551616 &&& 1) % 18446744073709551616 = e / 2 ^ i % 2 := by
  rw [Nat.zero_add, Nat.mul_one, and_one, bit_at _ _ _ (Nat.mod_lt _ (by decide)), show 64 * (i / 64) + i % 64 = i by omega]
  omega

theorem half_step (e i : Nat) : e / 2 ^ i = 2 * (e / 2 ^ (i + 1)) + e / 2 ^ i % 2 := by
  rw [Nat.pow_succ, ← Nat.div_div_eq_div_mul]
  omega

theorem tdiv64 (i : Nat) (h : i < 9223372036854775808) : IntKind.i64.wrap (((i : Nat) : Int).tdiv 64) = ((i / 64 : Nat) : Int) := by
  rw [Int.tdiv_eq_ediv_of_nonneg (by omega), wrap_i64]
  omega
theorem tmod64 (i : Nat) : ((i : Nat) : Int).tmod 64 = ((i % 64 : Nat) : Int) := by
  rw [Int.tmod_eq_emod_of_nonneg (by omega)]
  omega

def GP : Mon (Fin Pp) := { mul := (· * ·), one := 1, assoc := fun a b c => by grind, one_mul := fun a => by grind, mul_one := fun a => by grind }
def pwP (a : Fin Pp) (n : Nat) : Fin Pp := pw (· * ·) 1 a n
end Go.Ev

/- The two orders are primes; inverses by powers. Nothing here names a program. -/
set_option linter.unusedSimpArgs false
set_option linter.unusedVariables false
namespace Go.Ev

theorem pr_2 : Pr 2 := prime_trial (k := 0) (by decide) (by decide +kernel) (by decide)
theorem pr_3 : Pr 3 := prime_trial (k := 0) (by decide) (by decide +kernel) (by decide)
theorem pr_11 : Pr 11 := prime_trial (k := 2) (by decide) (by decide +kernel) (by decide)
theorem pr_23 : Pr 23 := prime_trial (k := 3) (by decide) (by decide +kernel) (by decide)
theorem pr_47 : Pr 47 := prime_trial (k := 5) (by decide) (by decide +kernel) (by decide)
theorem pr_7577 : Pr 7577 := prime_trial (k := 86) (by decide) (by decide +kernel) (by decide)
theorem pr_10177 : Pr 10177 := prime_trial (k := 99) (by decide) (by decide +kernel) (by decide)
theorem pr_582767 : Pr 582767 := prime_trial (k := 762) (by decide) (by decide +kernel) (by decide)
theorem pr_859267 : Pr 859267 := prime_trial (k := 925) (by decide) (by decide +kernel) (by decide)
theorem pr_52437899 : Pr 52437899 := prime_trial (k := 7240) (by decide) (by decide +kernel) (by decide)
theorem pr_9272813673901 : Pr 9272813673901 := prime_sqrt (F := 4415625559) (by decide) (fun s hs hd => by
  have d0 := pockM (N := 9272813673901) 5 582767 1 64 (by decide) pr_582767 (by decide) (by decide +kernel) (by decide +kernel) (by decide +kernel) (by decide +kernel) hs hd
  have c1 := pockM (N := 9272813673901) 5 7577 1 64 (by decide) pr_7577 (by decide) (by decide +kernel) (by decide +kernel) (by decide +kernel) (by decide +kernel) hs hd
  have d1 := Nat.Coprime.mul_dvd_of_dvd_of_dvd (show Nat.Coprime (582767 ^ 1) (7577 ^ 1) from by decide +kernel) d0 c1
  exact (show (582767 ^ 1) * 7577 ^ 1 = 4415625559 from by decide +kernel) ▸ d1) (by decide)
theorem pr_1928745244171409 : Pr 1928745244171409 := prime_sqrt (F := 9272813673901) (by decide) (fun s hs hd => by
  have d0 := pockM (N := 1928745244171409) 5 9272813673901 1 64 (by decide) pr_9272813673901 (by decide) (by decide +kernel) (by decide +kernel) (by decide +kernel) (by decide +kernel) hs hd
  exact (show 9272813673901 ^ 1 = 9272813673901 from by decide +kernel) ▸ d0) (by decide)
theorem pr_7259797099061183477 : Pr 7259797099061183477 := prime_sqrt (F := 1928745244171409) (by decide) (fun s hs hd => by
  have d0 := pockM (N := 7259797099061183477) 5 1928745244171409 1 64 (by decide) pr_1928745244171409 (by decide) (by decide +kernel) (by decide +kernel) (by decide +kernel) (by decide +kernel) hs hd
  exact (show 1928745244171409 ^ 1 = 1928745244171409 from by decide +kernel) ▸ d0) (by decide)
theorem pr_2584487767265781317813 : Pr 2584487767265781317813 := prime_sqrt (F := 7259797099061183477) (by decide) (fun s hs hd => by
  have d0 := pockM (N := 2584487767265781317813) 5 7259797099061183477 1 80 (by decide) pr_7259797099061183477 (by decide) (by decide +kernel) (by decide +kernel) (by decide +kernel) (by decide +kernel) hs hd
  exact (show 7259797099061183477 ^ 1 = 7259797099061183477 from by decide +kernel) ▸ d0) (by decide)
theorem div_P : ∀ s, Pr s → s ∣ 4002409555221667393417789825735904156556882819939007885332058136124031650490837864442687629129015664037894272559787 → 253663835868735594330404923636534084567099854 ∣ s - 1 := fun s hs hd => by
  have d0 := pockM (N := 4002409555221667393417789825735904156556882819939007885332058136124031650490837864442687629129015664037894272559787) 5 2 1 384 (by decide) pr_2 (by decide) (by decide +kernel) (by decide +kernel) (by decide +kernel) (by decide +kernel) hs hd
  have c1 := pockM (N := 4002409555221667393417789825735904156556882819939007885332058136124031650490837864442687629129015664037894272559787) 5 3 2 384 (by decide) pr_3 (by decide) (by decide +kernel) (by decide +kernel) (by decide +kernel) (by decide +kernel) hs hd
  have d1 := Nat.Coprime.mul_dvd_of_dvd_of_dvd (show Nat.Coprime (2 ^ 1) (3 ^ 2) from by decide +kernel) d0 c1
  have c2 := pockM (N := 4002409555221667393417789825735904156556882819939007885332058136124031650490837864442687629129015664037894272559787) 5 11 1 384 (by decide) pr_11 (by decide) (by decide +kernel) (by decide +kernel) (by decide +kernel) (by decide +kernel) hs hd
  have d2 := Nat.Coprime.mul_dvd_of_dvd_of_dvd (show Nat.Coprime ((2 ^ 1) * 3 ^ 2) (11 ^ 1) from by decide +kernel) d1 c2
  have c3 := pockM (N := 4002409555221667393417789825735904156556882819939007885332058136124031650490837864442687629129015664037894272559787) 5 23 1 384 (by decide) pr_23 (by decide) (by decide +kernel) (by decide +kernel) (by decide +kernel) (by decide +kernel) hs hd
  have d3 := Nat.Coprime.mul_dvd_of_dvd_of_dvd (show Nat.Coprime (((2 ^ 1) * 3 ^ 2) * 11 ^ 1) (23 ^ 1) from by decide +kernel) d2 c3
  have c4 := pockM (N := 4002409555221667393417789825735904156556882819939007885332058136124031650490837864442687629129015664037894272559787) 5 47 1 384 (by decide) pr_47 (by decide) (by decide +kernel) (by decide +kernel) (by decide +kernel) (by decide +kernel) hs hd
  have d4 := Nat.Coprime.mul_dvd_of_dvd_of_dvd (show Nat.Coprime ((((2 ^ 1) * 3 ^ 2) * 11 ^ 1) * 23 ^ 1) (47 ^ 1) from by decide +kernel) d3 c4
  have c5 := pockM (N := 4002409555221667393417789825735904156556882819939007885332058136124031650490837864442687629129015664037894272559787) 5 10177 1 384 (by decide) pr_10177 (by decide) (by decide +kernel) (by decide +kernel) (by decide +kernel) (by decide +kernel) hs hd
  have d5 := Nat.Coprime.mul_dvd_of_dvd_of_dvd (show Nat.Coprime (((((2 ^ 1) * 3 ^ 2) * 11 ^ 1) * 23 ^ 1) * 47 ^ 1) (10177 ^ 1) from by decide +kernel) d4 c5
  have c6 := pockM (N := 4002409555221667393417789825735904156556882819939007885332058136124031650490837864442687629129015664037894272559787) 5 859267 1 384 (by decide) pr_859267 (by decide) (by decide +kernel) (by decide +kernel) (by decide +kernel) (by decide +kernel) hs hd
  have d6 := Nat.Coprime.mul_dvd_of_dvd_of_dvd (show Nat.Coprime ((((((2 ^ 1) * 3 ^ 2) * 11 ^ 1) * 23 ^ 1) * 47 ^ 1) * 10177 ^ 1) (859267 ^ 1) from by decide +kernel) d5 c6
  have c7 := pockM (N := 4002409555221667393417789825735904156556882819939007885332058136124031650490837864442687629129015664037894272559787) 5 52437899 1 384 (by decide) pr_52437899 (by decide) (by decide +kernel) (by decide +kernel) (by decide +kernel) (by decide +kernel) hs hd
  have d7 := Nat.Coprime.mul_dvd_of_dvd_of_dvd (show Nat.Coprime (((((((2 ^ 1) * 3 ^ 2) * 11 ^ 1) * 23 ^ 1) * 47 ^ 1) * 10177 ^ 1) * 859267 ^ 1) (52437899 ^ 1) from by decide +kernel) d6 c7
  have c8 := pockM (N := 4002409555221667393417789825735904156556882819939007885332058136124031650490837864442687629129015664037894272559787) 5 2584487767265781317813 1 384 (by decide) pr_2584487767265781317813 (by decide) (by decide +kernel) (by decide +kernel) (by decide +kernel) (by decide +kernel) hs hd
  have d8 := Nat.Coprime.mul_dvd_of_dvd_of_dvd (show Nat.Coprime ((((((((2 ^ 1) * 3 ^ 2) * 11 ^ 1) * 23 ^ 1) * 47 ^ 1) * 10177 ^ 1) * 859267 ^ 1) * 52437899 ^ 1) (2584487767265781317813 ^ 1) from by decide +kernel) d7 c8
  exact (show ((((((((2 ^ 1) * 3 ^ 2) * 11 ^ 1) * 23 ^ 1) * 47 ^ 1) * 10177 ^ 1) * 859267 ^ 1) * 52437899 ^ 1) * 2584487767265781317813 ^ 1 = 253663835868735594330404923636534084567099854 from by decide +kernel) ▸ d8
theorem pr_4002409555221667393417789825735904156556882819939007885332058136124031650490837864442687629129015664037894272559787 : Pr 4002409555221667393417789825735904156556882819939007885332058136124031650490837864442687629129015664037894272559787 := by
  refine ⟨by decide, fun d hd => ?_⟩
  obtain ⟨k, hk⟩ := hd
  by_cases h1 : d = 1
  · exact .inl h1
  by_cases h2 : d = 4002409555221667393417789825735904156556882819939007885332058136124031650490837864442687629129015664037894272559787
  · exact .inr h2
  exfalso
  have hd0 : 0 < d := Nat.pos_of_ne_zero fun e => by subst e; simp at hk
  have hk0 : 0 < k := Nat.pos_of_ne_zero fun e => by subst e; simp at hk
  have hk1 : k ≠ 1 := fun e => h2 (by rw [e, Nat.mul_one] at hk; exact hk.symm)
  obtain ⟨x, hx⟩ := all_div div_P d hd0 ⟨k, hk⟩
  obtain ⟨y, hy⟩ := all_div div_P k hk0 ⟨d, by rw [hk, Nat.mul_comm]⟩
  have e1 : d = 253663835868735594330404923636534084567099854 * x + 1 := by omega
  have e2 : k = 253663835868735594330404923636534084567099854 * y + 1 := by omega
  have hx0 : 0 < x := Nat.pos_of_ne_zero fun e => by subst e; omega
  have hy0 : 0 < y := Nat.pos_of_ne_zero fun e => by subst e; omega
  have e3 : 4002409555221667393417789825735904156556882819939007885332058136124031650490837864442687629129015664037894272559787 = 253663835868735594330404923636534084567099854 * (253663835868735594330404923636534084567099854 * (x * y)) + 253663835868735594330404923636534084567099854 * x + 253663835868735594330404923636534084567099854 * y + 1 := by
    rw [hk, e1, e2, Nat.add_mul, Nat.mul_add, Nat.mul_one, Nat.one_mul]
    rw [show 253663835868735594330404923636534084567099854 * x * (253663835868735594330404923636534084567099854 * y) = 253663835868735594330404923636534084567099854 * (253663835868735594330404923636534084567099854 * (x * y)) by rw [Nat.mul_assoc, Nat.mul_left_comm x]]
    omega
  have e4 : x + y ≤ x * y + 1 := by
    obtain ⟨u, rfl⟩ : ∃ u, x = u + 1 := ⟨x - 1, by omega⟩
    obtain ⟨v, rfl⟩ : ∃ v, y = v + 1 := ⟨y - 1, by omega⟩
    have : (u + 1) * (v + 1) = u * v + u + v + 1 := by rw [Nat.add_mul, Nat.mul_add]; omega
    omega
  generalize x * y = z at e3 e4
  omega

theorem prime_P : Pr Pp := pr_4002409555221667393417789825735904156556882819939007885332058136124031650490837864442687629129015664037894272559787

theorem pwP_succ (x : Fin Pp) (n : Nat) : pwP x (n + 1) = pwP x n * x := rfl
theorem pwP_val (x : Fin Pp) : ∀ n, (pwP x n).val = x.val ^ n % Pp
  | 0 => rfl
  | n + 1 => by
    rw [pwP_succ, Fin.val_mul, pwP_val x n, Nat.pow_succ, Nat.mod_mul_mod]
theorem not_dvdP {x : Fin Pp} (h : x ≠ 0) : ¬ Pp ∣ x.val := fun hd => by
  have h1 := x.isLt
  have h2 : x.val ≠ 0 := fun e => h (Fin.ext e)
  exact absurd (Nat.le_of_dvd (by omega) hd) (by omega)
theorem ferm_atP {x : Fin Pp} (h : x ≠ 0) (m : Nat) (hm : Pp - 1 = m) : pwP x m = 1 := Fin.ext (by
  rw [pwP_val, ← hm]
  exact (prime_P.fermat1 (x := x.val) (not_dvdP h)))
theorem mul_invP {x : Fin Pp} (h : x ≠ 0) : x * pwP x 4002409555221667393417789825735904156556882819939007885332058136124031650490837864442687629129015664037894272559785 = 1 := by
  have h1 := ferm_atP h (4002409555221667393417789825735904156556882819939007885332058136124031650490837864442687629129015664037894272559785 + 1) (by decide)
  rw [pwP_succ] at h1
  generalize pwP x 4002409555221667393417789825735904156556882819939007885332058136124031650490837864442687629129015664037894272559785 = y at *
  rw [← h1]
  grind
theorem no_zeroP {x y : Fin Pp} (h : x * y = 0) : x = 0 ∨ y = 0 := by
  by_cases hx : x = 0
  · exact .inl hx
  · have h1 := mul_invP hx
    right
    generalize pwP x 4002409555221667393417789825735904156556882819939007885332058136124031650490837864442687629129015664037894272559785 = z at h1
    have : y = x * z * y := by rw [h1]; grind
    rw [this, show x * z * y = z * (x * y) by grind, h]
    grind
end Go.Ev

/- The towers' inverses: norms are not 0. Nothing here names a program. -/
set_option linter.unusedSimpArgs false
set_option linter.unusedVariables false
namespace Go.Ev

/-! ### The pairs are a ring -/
theorem mul2_comm (a b : F2) : mul2 a b = mul2 b a := by refine ext2 ?_ ?_ <;> simp only [mul2] <;> grind
theorem mul2_assoc (a b c : F2) : mul2 (mul2 a b) c = mul2 a (mul2 b c) := by refine ext2 ?_ ?_ <;> simp only [mul2] <;> grind
theorem mul2_add (a b c : F2) : mul2 a (add2 b c) = add2 (mul2 a b) (mul2 a c) := by refine ext2 ?_ ?_ <;> simp only [mul2, add2] <;> grind
theorem mul2_one (a : F2) : mul2 a one2 = a := ext2 (show a.1 * 1 - a.2 * 0 = a.1 by grind) (show (a.1 + a.2) * (1 + 0) - a.1 * 1 - a.2 * 0 = a.2 by grind)
theorem add2_comm (a b : F2) : add2 a b = add2 b a := by refine ext2 ?_ ?_ <;> simp only [add2] <;> grind
theorem add2_assoc (a b c : F2) : add2 (add2 a b) c = add2 a (add2 b c) := by refine ext2 ?_ ?_ <;> simp only [add2] <;> grind
theorem add2_zero (a : F2) : add2 a (0, 0) = a := ext2 (show a.1 + 0 = a.1 by grind) (show a.2 + 0 = a.2 by grind)
theorem t_zero (t : Fin Pp) : t * 0 = 0 := by grind
theorem mul2_zero (a : F2) : mul2 a (0, 0) = (0, 0) := ext2 (show a.1 * 0 - a.2 * 0 = 0 by rw [t_zero, t_zero]; decide) (show (a.1 + a.2) * (0 + 0) - a.1 * 0 - a.2 * 0 = 0 by rw [show (0 : Fin Pp) + 0 = 0 from by decide, t_zero, t_zero, t_zero]; decide)
theorem neg2_add (a : F2) : add2 (neg2 a) a = (0, 0) := ext2 (show -a.1 + a.1 = 0 by grind) (show -a.2 + a.2 = 0 by grind)
theorem shf2_mul (a : F2) : shf2 a = mul2 a (1, 1) := ext2 (show a.1 - a.2 = a.1 * 1 - a.2 * 1 by grind) (show a.1 + a.2 = (a.1 + a.2) * (1 + 1) - a.1 * 1 - a.2 * 1 by grind)

abbrev G2 := F2
theorem neg2_neg (a : F2) : neg2 (neg2 a) = a := by refine ext2 ?_ ?_ <;> simp only [neg2] <;> grind
def natG : Nat → G2
  | 0 => (0, 0)
  | n + 1 => add2 (natG n) one2
def intG : Int → G2
  | .ofNat n => natG n
  | .negSucc n => neg2 (natG (n + 1))
def smulG (n : Nat) (a : G2) : G2 := mul2 (natG n) a
def zsmulG (n : Int) (a : G2) : G2 := mul2 (intG n) a
def powG (a : G2) : Nat → G2
  | 0 => one2
  | n + 1 => mul2 (powG a n) a
theorem neg2_zero : neg2 (0, 0) = (0, 0) := by decide
theorem natG_one : natG 1 = one2 := by decide
theorem neg2_mul (a b : F2) : mul2 (neg2 a) b = neg2 (mul2 a b) := by refine ext2 ?_ ?_ <;> simp only [neg2, mul2] <;> grind
theorem intG_neg : ∀ i : Int, intG (-i) = neg2 (intG i)
  | .ofNat 0 => neg2_zero.symm
  | .ofNat (n + 1) => rfl
  | .negSucc n => (neg2_neg _).symm

instance : Lean.Grind.CommRing G2 where
  add a b := add2 a b
  mul a b := mul2 a b
  natCast := ⟨natG⟩
  ofNat n := ⟨natG n⟩
  nsmul := ⟨smulG⟩
  npow := ⟨powG⟩
  neg a := neg2 a
  sub a b := sub2 a b
  intCast := ⟨intG⟩
  zsmul := ⟨zsmulG⟩
  add_zero := add2_zero
  add_comm := add2_comm
  add_assoc := add2_assoc
  mul_assoc := mul2_assoc
  mul_one := fun a => by
    show mul2 a (natG 1) = a
    rw [natG_one]; exact mul2_one a
  one_mul := fun a => by
    show mul2 (natG 1) a = a
    rw [natG_one, mul2_comm]; exact mul2_one a
  left_distrib := mul2_add
  right_distrib := fun a b c => by
    show mul2 (add2 a b) c = add2 (mul2 a c) (mul2 b c)
    rw [mul2_comm, mul2_add, mul2_comm c a, mul2_comm c b]
  zero_mul := fun a => by show mul2 (0, 0) a = (0, 0); rw [mul2_comm]; exact mul2_zero a
  mul_zero := mul2_zero
  pow_zero := fun a => natG_one.symm
  pow_succ := fun _ _ => rfl
  ofNat_succ := fun n => by
    show add2 (natG n) one2 = add2 (natG n) (natG 1)
    rw [natG_one]
  ofNat_eq_natCast := fun _ => rfl
  nsmul_eq_natCast_mul := fun _ _ => rfl
  neg_add_cancel := neg2_add
  sub_eq_add_neg := fun a b => sub2_eq a b
  neg_zsmul := fun i a => by
    show mul2 (intG (-i)) a = neg2 (mul2 (intG i) a)
    rw [intG_neg, neg2_mul]
  zsmul_natCast_eq_nsmul := fun _ _ => rfl
  intCast_ofNat := fun _ => rfl
  intCast_neg := fun i => intG_neg i
  mul_comm := mul2_comm

/-! ### Norms of pairs -/
theorem pwP_two (x : Fin Pp) : pwP x 2 = x * x := by
  show (1 * x) * x = x * x
  grind
theorem pwP_sq (x : Fin Pp) (n : Nat) : pwP (x * x) n = pwP x (2 * n) := by
  have := GP.pw_mul x 2 n
  have e := pwP_two x
  unfold pwP at *
  rw [← e]
  exact this.symm
def halfP : Nat := 2001204777610833696708894912867952078278441409969503942666029068062015825245418932221343814564507832018947136279893
/-! ### Triples -/
def zero6 : F6 := ((0, 0), (0, 0), (0, 0))

/-- Products of triples over a ring, where v v v is x. -/
structure T3 (α : Type) where
  a : α
  b : α
  c : α
section
variable {α : Type} [Lean.Grind.CommRing α]
def t3mul (x : α) (p q : T3 α) : T3 α := ⟨p.a * q.a + x * (p.b * q.c + p.c * q.b), p.a * q.b + p.b * q.a + x * (p.c * q.c), p.a * q.c + p.c * q.a + p.b * q.b⟩
end

def xi : G2 := (1, 1)
def t6 (a : F6) : T3 G2 := ⟨a.1, a.2.1, a.2.2⟩
theorem t6_inj {a b : F6} (h : t6 a = t6 b) : a = b := by
  simp only [t6, T3.mk.injEq] at h
  exact ext6 h.1 h.2.1 h.2.2
theorem mul6_t (a b : F6) : t6 (mul6 a b) = t3mul xi (t6 a) (t6 b) := by
  obtain ⟨A, B, C⟩ := a
  obtain ⟨D, E, F⟩ := b
  have e1 : (mul6 (A, B, C) (D, E, F)).1 = ((A : G2) * (D : G2) + (((B : G2) + (C : G2)) * ((E : G2) + (F : G2)) - (B : G2) * (E : G2) - (C : G2) * (F : G2)) * xi : G2) := by
    simp only [mul6, shf2_mul]; rfl
  have e2 : (mul6 (A, B, C) (D, E, F)).2.1 = ((((A : G2) + (B : G2)) * ((D : G2) + (E : G2)) - (A : G2) * (D : G2) - (B : G2) * (E : G2)) + (C : G2) * (F : G2) * xi : G2) := by
    simp only [mul6, shf2_mul]; rfl
  have e3 : (mul6 (A, B, C) (D, E, F)).2.2 = ((((A : G2) + (C : G2)) * ((D : G2) + (F : G2)) - (A : G2) * (D : G2) - (C : G2) * (F : G2)) + (B : G2) * (E : G2) : G2) := by
    simp only [mul6]; rfl
  simp only [t6, t3mul, T3.mk.injEq]
  rw [e1, e2, e3]
  generalize (A : G2) = A
  refine ⟨?_, ?_, ?_⟩ <;> grind
theorem two_val : ((2 : Fin Pp)).val = 2 := by decide
theorem two_pow_ne (m : Nat) (hm : m < 2 ^ 400) (h : mpow 400 2 m Pp ≠ 1) : pwP 2 m ≠ 1 := fun e => by
  have h4 := pwP_val 2 m
  rw [e, two_val, ← mpow_eq 400 2 m Pp hm, show ((1 : Fin Pp)).val = 1 from by decide] at h4
  exact h h4.symm
theorem no_cube {n : Fin Pp} (h : n * n * n = 2) : False := by
  have hn : n ≠ 0 := fun e => by
    subst e
    have : (0 : Fin Pp) = 2 := by rw [← h]; grind
    exact absurd this (by decide)
  have h1 := ferm_atP hn (3 * 1334136518407222464472596608578634718852294273313002628444019378708010550163612621480895876376338554679298090853262) (by decide)
  have h2 : pwP n (3 * 1334136518407222464472596608578634718852294273313002628444019378708010550163612621480895876376338554679298090853262) = pwP (pwP n 3) 1334136518407222464472596608578634718852294273313002628444019378708010550163612621480895876376338554679298090853262 := GP.pw_mul n 3 _
  have h3 : pwP n 3 = 2 := by
    rw [← h]
    show ((1 * n) * n) * n = n * n * n
    grind
  rw [h2, h3] at h1
  exact two_pow_ne _ (by decide +kernel) (by decide +kernel) h1
/-! ### The triples are a ring -/
theorem mul6_comm (a b : F6) : mul6 a b = mul6 b a := by
  apply t6_inj; rw [mul6_t, mul6_t]; simp only [t3mul, T3.mk.injEq]; refine ⟨?_, ?_, ?_⟩ <;> grind
theorem mul6_assoc (a b c : F6) : mul6 (mul6 a b) c = mul6 a (mul6 b c) := by
  apply t6_inj; rw [mul6_t, mul6_t, mul6_t, mul6_t]; simp only [t3mul, T3.mk.injEq]; refine ⟨?_, ?_, ?_⟩ <;> grind
theorem add6_t (a b : F6) : t6 (add6 a b) = ⟨(t6 a).a + (t6 b).a, (t6 a).b + (t6 b).b, (t6 a).c + (t6 b).c⟩ := rfl
theorem mul6_add (a b c : F6) : mul6 a (add6 b c) = add6 (mul6 a b) (mul6 a c) := by
  apply t6_inj; rw [mul6_t, add6_t, add6_t, mul6_t, mul6_t]; simp only [t3mul, T3.mk.injEq]; refine ⟨?_, ?_, ?_⟩ <;> grind
theorem mul6_one (a : F6) : mul6 a one6 = a := by
  have e : (one2 : F2) = (1 : G2) := natG_one.symm
  have h : t6 one6 = ⟨(1 : G2), 0, 0⟩ := by
    show (⟨one2, (0, 0), (0, 0)⟩ : T3 G2) = _
    rw [e]; rfl
  apply t6_inj; rw [mul6_t, h]; simp only [t3mul, t6, T3.mk.injEq]; refine ⟨?_, ?_, ?_⟩ <;> grind
theorem add6_comm (a b : F6) : add6 a b = add6 b a := by refine ext6 ?_ ?_ ?_ <;> simp only [add6] <;> exact add2_comm _ _
theorem add6_assoc (a b c : F6) : add6 (add6 a b) c = add6 a (add6 b c) := by refine ext6 ?_ ?_ ?_ <;> simp only [add6] <;> exact add2_assoc _ _ _
theorem add6_zero (a : F6) : add6 a zero6 = a := by refine ext6 ?_ ?_ ?_ <;> simp only [add6, zero6] <;> exact add2_zero _
theorem mul6_zero (a : F6) : mul6 a zero6 = zero6 := by
  have h : t6 zero6 = ⟨(0 : G2), 0, 0⟩ := rfl
  apply t6_inj; rw [mul6_t, h]; simp only [t3mul, T3.mk.injEq]; refine ⟨?_, ?_, ?_⟩ <;> grind
theorem neg6_add (a : F6) : add6 (neg6 a) a = zero6 := by refine ext6 ?_ ?_ ?_ <;> simp only [add6, neg6, zero6] <;> exact neg2_add _
theorem sub6_eq (a b : F6) : sub6 a b = add6 a (neg6 b) := by refine ext6 ?_ ?_ ?_ <;> simp only [add6, neg6, sub6] <;> exact sub2_eq _ _
theorem neg6_neg (a : F6) : neg6 (neg6 a) = a := by refine ext6 ?_ ?_ ?_ <;> simp only [neg6] <;> exact neg2_neg _
theorem neg6_zero : neg6 zero6 = zero6 := by refine ext6 ?_ ?_ ?_ <;> simp only [neg6, zero6] <;> exact neg2_zero
theorem neg6_mul (a b : F6) : mul6 (neg6 a) b = neg6 (mul6 a b) := by
  have e : ∀ c : F6, t6 (neg6 c) = ⟨-(t6 c).a, -(t6 c).b, -(t6 c).c⟩ := fun c => rfl
  apply t6_inj; rw [mul6_t, e, e, mul6_t]; simp only [t3mul, T3.mk.injEq]; refine ⟨?_, ?_, ?_⟩ <;> grind

abbrev G6 := F6
def natH : Nat → G6
  | 0 => zero6
  | n + 1 => add6 (natH n) one6
def intH : Int → G6
  | .ofNat n => natH n
  | .negSucc n => neg6 (natH (n + 1))
def smulH (n : Nat) (a : G6) : G6 := mul6 (natH n) a
def zsmulH (n : Int) (a : G6) : G6 := mul6 (intH n) a
def powH (a : G6) : Nat → G6
  | 0 => one6
  | n + 1 => mul6 (powH a n) a
theorem intH_neg : ∀ i : Int, intH (-i) = neg6 (intH i)
  | .ofNat 0 => neg6_zero.symm
  | .ofNat (n + 1) => rfl
  | .negSucc n => (neg6_neg _).symm
theorem natH_one : natH 1 = one6 := by
  show add6 zero6 one6 = one6
  rw [add6_comm, add6_zero]
instance : Lean.Grind.CommRing G6 where
  add a b := add6 a b
  mul a b := mul6 a b
  natCast := ⟨natH⟩
  ofNat n := ⟨natH n⟩
  nsmul := ⟨smulH⟩
  npow := ⟨powH⟩
  neg a := neg6 a
  sub a b := sub6 a b
  intCast := ⟨intH⟩
  zsmul := ⟨zsmulH⟩
  add_zero := add6_zero
  add_comm := add6_comm
  add_assoc := add6_assoc
  mul_assoc := mul6_assoc
  mul_one := fun a => by show mul6 a (natH 1) = a; rw [natH_one]; exact mul6_one a
  one_mul := fun a => by show mul6 (natH 1) a = a; rw [natH_one, mul6_comm]; exact mul6_one a
  left_distrib := mul6_add
  right_distrib := fun a b c => by show mul6 (add6 a b) c = add6 (mul6 a c) (mul6 b c); rw [mul6_comm, mul6_add, mul6_comm c a, mul6_comm c b]
  zero_mul := fun a => by show mul6 zero6 a = zero6; rw [mul6_comm]; exact mul6_zero a
  mul_zero := mul6_zero
  pow_zero := fun a => natH_one.symm
  pow_succ := fun _ _ => rfl
  ofNat_succ := fun n => by show add6 (natH n) one6 = add6 (natH n) (natH 1); rw [natH_one]
  ofNat_eq_natCast := fun _ => rfl
  nsmul_eq_natCast_mul := fun _ _ => rfl
  neg_add_cancel := neg6_add
  sub_eq_add_neg := fun a b => sub6_eq a b
  neg_zsmul := fun i a => by show mul6 (intH (-i)) a = neg6 (mul6 (intH i) a); rw [intH_neg, neg6_mul]
  zsmul_natCast_eq_nsmul := fun _ _ => rfl
  intCast_ofNat := fun _ => rfl
  intCast_neg := fun i => intH_neg i
  mul_comm := mul6_comm

/-! ### The greatest field -/
end Go.Ev

/- Square roots in the field of order p, which leaves 3, divided by 4; which elements are high. Nothing here names a program. -/
set_option linter.unusedSimpArgs false
set_option linter.unusedVariables false
namespace Go.Ev

/-- Is an element above its negative? -/
def hiP (x : Fin Pp) : Prop := (-x).val < x.val
instance (x : Fin Pp) : Decidable (hiP x) := inferInstanceAs (Decidable ((-x).val < x.val))
def lowP (x : Fin Pp) : Fin Pp := if hiP x then -x else x
def rootE : Nat := 1000602388805416848354447456433976039139220704984751971333014534031007912622709466110671907282253916009473568139947
def rtP (x : Fin Pp) : Fin Pp := pwP x rootE
/-- Has an element a root? -/
def sqP (x : Fin Pp) : Prop := rtP x * rtP x = x
instance (x : Fin Pp) : Decidable (sqP x) := inferInstanceAs (Decidable (rtP x * rtP x = x))

theorem neg_valP {x : Fin Pp} (h : x ≠ 0) : (-x).val = 4002409555221667393417789825735904156556882819939007885332058136124031650490837864442687629129015664037894272559787 - x.val := by
  have h1 : (-x).val = (4002409555221667393417789825735904156556882819939007885332058136124031650490837864442687629129015664037894272559787 - x.val) % 4002409555221667393417789825735904156556882819939007885332058136124031650490837864442687629129015664037894272559787 := rfl
  have h2 : x.val ≠ 0 := fun e => h (Fin.ext e)
  rw [h1, Nat.mod_eq_of_lt (by omega)]
theorem hi_neg {x : Fin Pp} (h : x ≠ 0) : hiP (-x) ↔ ¬ hiP x := by
  have h2 : x.val ≠ 0 := fun e => h (Fin.ext e)
  have h3 := x.isLt
  simp only [Pp] at h3
  unfold hiP
  rw [show - -x = x by grind, neg_valP h]
  omega
theorem not_hi_zero : ¬ hiP 0 := by unfold hiP; decide
theorem neg_zeroP : (-0 : Fin Pp) = 0 := by decide
theorem low_sq (x : Fin Pp) : lowP x * lowP x = x * x := by
  unfold lowP
  split
  · grind
  · rfl
theorem low_neg (x : Fin Pp) : lowP (-x) = lowP x := by
  by_cases h0 : x = 0
  · subst h0; rw [neg_zeroP]
  · unfold lowP
    by_cases h : hiP x
    · rw [if_pos h, if_neg (fun h' => (hi_neg h0).1 h' h)]
    · rw [if_neg h, if_pos ((hi_neg h0).2 h)]; grind
theorem sq_eqP {x y : Fin Pp} (h : x * x = y * y) : x = y ∨ x = -y := by
  have h1 : (x - y) * (x + y) = 0 := by
    have : (x - y) * (x + y) = x * x - y * y := by grind
    rw [this, h]; grind
  rcases no_zeroP h1 with h2 | h2
  · left
    have : x = (x - y) + y := by grind
    rw [this, h2]; grind
  · right
    have : x = (x + y) - y := by grind
    rw [this, h2]; grind
theorem low_of_sq {x y : Fin Pp} (h : x * x = y * y) : lowP x = lowP y := by
  rcases sq_eqP h with e | e
  · rw [e]
  · rw [e, low_neg]
theorem pwP_add (x : Fin Pp) (m n : Nat) : pwP x m * pwP x n = pwP x (m + n) := (GP.pw_add x m n).symm
theorem rt_sq (x : Fin Pp) : rtP x * rtP x = pwP x halfP * x := by
  have e : rootE + rootE = halfP + 1 := by decide
  unfold rtP
  rw [pwP_add, e, pwP_succ]
theorem sq_iff (x : Fin Pp) : sqP x ↔ x = 0 ∨ pwP x halfP = 1 := by
  unfold sqP
  rw [rt_sq]
  constructor
  · intro h
    by_cases h0 : x = 0
    · exact .inl h0
    · right
      have h1 : (pwP x halfP - 1) * x = 0 := by
        generalize pwP x halfP = z at *
        have : (z - 1) * x = z * x - x := by grind
        rw [this, h]; grind
      rcases no_zeroP h1 with h2 | h2
      · generalize pwP x halfP = z at *
        have : z = (z - 1) + 1 := by grind
        rw [this, h2]; decide
      · exact absurd h2 h0
  · rintro (h | h)
    · subst h; generalize pwP 0 halfP = z; grind
    · rw [h]; grind
theorem chi_sq {x : Fin Pp} (h : x ≠ 0) : pwP (x * x) halfP = 1 := by
  rw [pwP_sq]; exact ferm_atP h (2 * halfP) (by decide)
theorem sq_sq (x : Fin Pp) : sqP (x * x) := by
  rw [sq_iff]
  by_cases h : x = 0
  · left; subst h; decide
  · exact .inr (chi_sq h)
theorem low_rt (x : Fin Pp) : lowP (rtP (x * x)) = lowP x := low_of_sq (sq_sq x)
theorem toM_inj {x y : Fin Pp} (h : toM x = toM y) : x = y := by
  have e : ∀ z : Fin Pp, toM z = (z * ⟨39402006196394479212279040100143613805079739270465446667948293404245721771497210611414266254884915640806627990306816 % Pp, Nat.mod_lt _ (by decide)⟩).val := fun z => by
    unfold toM
    rw [Fin.val_mul]
    show _ = z.val * (39402006196394479212279040100143613805079739270465446667948293404245721771497210611414266254884915640806627990306816 % Pp) % Pp
    rw [Nat.mul_mod, Nat.mul_mod z.val (_ % Pp), Nat.mod_mod]
  rw [e, e] at h
  have h1 := Fin.ext h
  have h0 : (⟨39402006196394479212279040100143613805079739270465446667948293404245721771497210611414266254884915640806627990306816 % Pp, Nat.mod_lt _ (by decide)⟩ : Fin Pp) ≠ 0 := by decide
  generalize (⟨39402006196394479212279040100143613805079739270465446667948293404245721771497210611414266254884915640806627990306816 % Pp, Nat.mod_lt _ (by decide)⟩ : Fin Pp) = c at *
  have hi := mul_invP h0
  generalize pwP c _ = d at hi
  have hx : x = (x * c) * d := by
    have : (x * c) * d = x * (c * d) := by grind
    rw [this, hi]; grind
  have hy : y = (y * c) * d := by
    have : (y * c) * d = y * (c * d) := by grind
    rw [this, hi]; grind
  rw [hx, hy, h1]
theorem flat_m_inj {x y : Fin Pp} (h : flat [.m x] = flat [.m y]) : x = y := by
  have h' : limbs 6 (toM x) ++ [] = limbs 6 (toM y) ++ [] := h
  rw [List.append_nil, List.append_nil] at h'
  exact toM_inj (limbs_inj 6 _ _ (Nat.lt_trans (Nat.mod_lt _ (by decide)) (show Pp < _ by decide)) (Nat.lt_trans (Nat.mod_lt _ (by decide)) (show Pp < _ by decide)) h')
end Go.Ev

/- Montgomery's numbers: sums, products, the way in and out, modulo anything. Nothing here names a program. -/
set_option linter.unusedSimpArgs false
set_option linter.unusedVariables false
namespace Go.Ev

section
variable {m R Ri : Nat}
theorem mont_elim' {v A : Nat} (hR : R * Ri % m = 1 % m) (hv : v < m) (h : v * R % m = A % m) : v = A * Ri % m := by
  have e : v % m = (v * R) * Ri % m := by rw [Nat.mul_assoc, Nat.mul_mod, hR, ← Nat.mul_mod, Nat.mul_one]
  rw [Nat.mod_eq_of_lt hv] at e
  rw [e, Nat.mul_mod, h, ← Nat.mul_mod]

theorem mod3 (a b c : Nat) : (a % m * (b % m) * c) % m = (a * b * c) % m := by
  rw [Nat.mul_mod (a % m * (b % m)) c, ← Nat.mul_mod a b, ← Nat.mul_mod]

theorem mod1 (a b : Nat) : (a % m * b) % m = (a * b) % m := by
  rw [Nat.mul_mod, Nat.mod_mod, ← Nat.mul_mod]

theorem modR (hR : R * Ri % m = 1 % m) (a : Nat) : (a * (R * Ri)) % m = a % m := by
  rw [Nat.mul_mod, hR, ← Nat.mul_mod, Nat.mul_one]

theorem mont_mul {x y v : Nat} (hR : R * Ri % m = 1 % m) (hv : v < m) (h : v * R % m = (x * R % m) * (y * R % m) % m) : v = (x * y % m) * R % m := by
  rw [mont_elim' hR hv h, mod3, mod1]
  have : x * R * (y * R) * Ri = (x * y * R) * (R * Ri) := by ac_rfl
  rw [this, modR hR]

theorem mont_in {a v : Nat} (hR : R * Ri % m = 1 % m) (hv : v < m) (h : v * R % m = (a * (R * R % m)) % m) : v = (a % m) * R % m := by
  rw [mont_elim' hR hv h, mod1]
  have : (a * (R * R % m) * Ri) % m = (a * R * (R * Ri)) % m := by
    rw [Nat.mul_mod (a * (R * R % m)) Ri, Nat.mul_mod a (R * R % m), Nat.mod_mod, ← Nat.mul_mod a (R * R), ← Nat.mul_mod]
    congr 1
    ac_rfl
  rw [this, modR hR]

theorem mont_out {x v : Nat} (hR : R * Ri % m = 1 % m) (hx : x < m) (hv : v < m) (h : v * R % m = (x * R % m) * 1 % m) : v = x := by
  rw [Nat.mul_one, Nat.mod_mod] at h
  rw [mont_elim' hR hv h, Nat.mul_assoc, modR hR, Nat.mod_eq_of_lt hx]

theorem mont_add (x y : Nat) : (x * R % m + y * R % m) % m = ((x + y) % m) * R % m := by
  rw [← Nat.add_mod, ← Nat.add_mul, mod1]

theorem mont_sub (hm : 0 < m) {x y : Nat} (hy : y < m) : (x * R % m + (m - y * R % m)) % m = ((m - y + x) % m) * R % m := by
  rw [mod1]
  have h1 : (m - y) * R % m = (m - y * R % m) % m := by
    have e1 : (m - y) * R + y * R = m * R := by rw [← Nat.add_mul, Nat.sub_add_cancel (Nat.le_of_lt hy)]
    have e2 : (m - y * R % m) + y * R % m = m := Nat.sub_add_cancel (Nat.le_of_lt (Nat.mod_lt _ hm))
    have e3 : m * (y * R / m) + y * R % m = y * R := Nat.div_add_mod _ _
    have e4 : (m - y) * R + m * (y * R / m + 1) = (m - y * R % m) + m * R := by
      rw [Nat.mul_add, Nat.mul_one]
      generalize (m - y) * R = A at *
      generalize m * (y * R / m) = K at *
      generalize y * R % m = q at *
      omega
    have e5 := congrArg (· % m) e4
    simpa [Nat.add_mul_mod_self_left] using e5
  rw [Nat.add_mul, Nat.add_comm ((m - y) * R), Nat.add_mod, Nat.add_mod (x * R), h1]
  simp [Nat.mod_mod]
end
end Go.Ev

/- Square roots of pairs, by their norms. Nothing here names a program. -/
set_option linter.unusedSimpArgs false
set_option linter.unusedVariables false
namespace Go.Ev

def hi2 (a : F2) : Prop := if a.2 = 0 then hiP a.1 else hiP a.2
instance (a : F2) : Decidable (hi2 a) := inferInstanceAs (Decidable (if a.2 = 0 then hiP a.1 else hiP a.2))
theorem neg_negP (x : Fin Pp) : - -x = x := by grind
end Go.Ev
