/- Pruned: Ha. -/
import Derived.Test.YtfbkefgoblcmpaaGreatQE2
import Derived.Test.YtfbkefgoblcmpaaGreatQZhOpn
import Derived.Lib.BitFns
set_option linter.unusedSimpArgs false
set_option linter.unusedVariables false
namespace Go.Ev
abbrev F2 := Fin Pp × Fin Pp
abbrev F6 := F2 × F2 × F2
def m2 (a : F2) : List Ch := [.m a.1, .m a.2]
def q2 (a : F2) : List Ch := [.q a.1, .q a.2]
def m6 (a : F6) : List Ch := [.m a.1.1, .m a.1.2, .m a.2.1.1, .m a.2.1.2, .m a.2.2.1, .m a.2.2.2]
def qR (a b : F2) : F2 := (a.1 + b.1, a.2 + b.2)
def sI (a b : F2) : F2 := (a.1 - b.1, a.2 - b.2)
def mul2 (a b : F2) : F2 := (a.1 * b.1 - a.2 * b.2, (a.1 + a.2) * (b.1 + b.2) - a.1 * b.1 - a.2 * b.2)
def Fl (a : F2) : F2 := (a.1 - a.2, a.1 + a.2)
def sR (a b : F6) : F6 := (qR a.1 b.1, qR a.2.1 b.2.1, qR a.2.2 b.2.2)
def mul6 (a b : F6) : F6 :=
 let x := mul2 a.1 b.1
 let y := mul2 a.2.1 b.2.1
 let z := mul2 a.2.2 b.2.2
 let xy := sI (sI (mul2 (qR a.1 a.2.1) (qR b.1 b.2.1)) x) y
 let xz := sI (sI (mul2 (qR a.1 a.2.2) (qR b.1 b.2.2)) x) z
 let yz := sI (sI (mul2 (qR a.2.1 a.2.2) (qR b.2.1 b.2.2)) y) z
 (qR x (Fl yz), qR xy (Fl z), qR xz y)
def shf6 (a : F6) : F6 := (Fl a.2.2, a.1, a.2.1)
def tn : Par F2 := vw.pair vw
def xd : Par F6 := tn.pair (tn.pair tn)
abbrev N2 := Nat × Nat
abbrev N6 := N2 × N2 × N2
def Wh : Par F2 := NL.pair NL
def OV : Par N2 := zV.pair zV
def of2 (a : N2) : F2 := (ofP a.1, ofP a.2)
def of6 (a : N6) : F6 := (of2 a.1, of2 a.2.1, of2 a.2.2)
def small (a : Nat) : Prop := a < 39402006196394479212279040100143613805079739270465446667948293404245721771497210611414266254884915640806627990306816
def qP (a : N2) : Prop := small a.1 /\ small a.2
def uq (a : F2) : F2 := (-a.1, -a.2)
def conj2 (a : F2) : F2 := (a.1, -a.2)
def H2 (a b : F6) : F6 := (sI a.1 b.1, sI a.2.1 b.2.1, sI a.2.2 b.2.2)
def tW (a : F6) : F6 := (uq a.1, uq a.2.1, uq a.2.2)
abbrev F12 := F6 × F6
def m12 (a : F12) : List Ch := m6 a.1 ++ m6 a.2
def n2 (a : N2) : List Ch := [.n 6 a.1, .n 6 a.2]
def zb : Par F12 := xd.pair xd
def q8 (a b : F12) : F12 := (sR a.1 b.1, sR a.2 b.2)
def conj12 (a : F12) : F12 := (a.1, tW a.2)
def mul12 (a b : F12) : F12 :=
 let x := mul6 a.1 b.1
 let y := mul6 a.2 b.2
 let z := mul6 (sR a.1 a.2) (sR b.1 b.2)
 (sR x (shf6 y), H2 (H2 z x) y)
def one2 : F2 := (1, 0)
def B5 : F6 := (one2, (0, 0), (0, 0))
def one12 : F12 := (B5, ((0, 0), (0, 0), (0, 0)))
end Go.Ev
set_option linter.unusedSimpArgs false
set_option linter.unusedVariables false
namespace Go.Ev
end Go.Ev
set_option linter.unusedSimpArgs false
set_option linter.unusedVariables false
namespace Go.Ev
def vN : N6 := ((0, 0), (1, 0), (0, 0))
theorem aaF : ofP 0 = 0 := by decide
theorem ZZ : ofP 1 = 1 := by decide
theorem sJ {a b : F2} (h1 : a.1 = b.1) (h2 : a.2 = b.2) : a = b := Prod.ext h1 h2
theorem vv {a b : F6} (h1 : a.1 = b.1) (h2 : a.2.1 = b.2.1) (h3 : a.2.2 = b.2.2) : a = b := Prod.ext h1 (Prod.ext h2 h3)
theorem We (a : F6) : shf6 a = mul6 a (of6 vN) := by
 obtain ⟨⟨a0, a1⟩, ⟨a2, a3⟩, ⟨a4, a5⟩⟩ := a
 simp only [of6, of2, vN, aaF, ZZ]
 refine vv (sJ ?_ ?_) (sJ ?_ ?_) (sJ ?_ ?_) <;> simp only [shf6, mul6, mul2, Fl, qR, sI] <;> grind
end Go.Ev
set_option linter.unusedSimpArgs false
set_option linter.unusedVariables false
namespace Go.Ev
theorem IZ (a b : F2) : sI a b = qR a (uq b) := by
 refine sJ ?_ ?_ <;> simp only [sI, qR, uq] <;> grind
end Go.Ev
set_option linter.unusedSimpArgs false
set_option linter.unusedVariables false
namespace Go.Ev
def Pr (n : Nat) : Prop := 2 <= n /\ ∀ d, d ∣ n -> d = 1 ∨ d = n
theorem Pr.coprime {p a : Nat} (hp : Pr p) (h : ¬ p ∣ a) : Nat.Coprime p a := by
 have h1 := hp.2 (Nat.gcd p a) (Nat.gcd_dvd_left p a)
 rcases h1 with h1 | h1
 ·exact h1
 ·exact absurd (h1 ▸ Nat.gcd_dvd_right p a) h
theorem Pr.euclid {p a b : Nat} (hp : Pr p) (h : p ∣ a * b) : p ∣ a ∨ p ∣ b := by
 by_cases ha : p ∣ a
 ·exact .inl ha
 ·exact .inr ((hp.coprime ha).dvd_of_dvd_mul_left h)
def cho : Nat -> Nat -> Nat
 | _, 0 => 1
 | 0, _ + 1 => 0
 | n + 1, k + 1 => cho n k + cho n (k + 1)
theorem Bq : ∀ (n k : Nat), n < k -> cho n k = 0
 | 0, k + 1, _ => rfl
 | n + 1, k + 1, h => by simp only [cho]; rw [Bq n k (by omega), Bq n (k + 1) (by omega)]
theorem GQ : ∀ n, cho n n = 1
 | 0 => rfl
 | n + 1 => by simp only [cho]; rw [GQ n, Bq n (n + 1) (by omega)]
theorem Bi : ∀ (n k : Nat), (n + 1) * cho n k = cho (n + 1) (k + 1) * (k + 1)
 | 0, 0 => rfl
 | 0, k + 1 => by simp [cho]
 | n + 1, 0 => by
  have := Bi n 0
  simp only [cho, Nat.mul_one, Nat.zero_add] at this ⊢
  omega
 | n + 1, k + 1 => by
  have h1 := Bi n k
  have h2 := Bi n (k + 1)
  have e1 : cho (n + 1 + 1) (k + 1 + 1) = cho (n + 1) (k + 1) + cho (n + 1) (k + 1 + 1) := rfl
  have e2 : cho (n + 1) (k + 1) = cho n k + cho n (k + 1) := rfl
  rw [e1, Nat.add_mul (cho (n + 1) (k + 1))]
  rw [e2] at h1 ⊢
  rw [show (n + 1 + 1) * (cho n k + cho n (k + 1)) = (n + 1) * cho n k + (n + 1) * cho n (k + 1) + (cho n k + cho n (k + 1)) by rw [Nat.add_mul (n + 1) 1, Nat.mul_add, Nat.one_mul], h1, h2,
   show (cho n k + cho n (k + 1)) * (k + 1 + 1) = (cho n k + cho n (k + 1)) * (k + 1) + (cho n k + cho n (k + 1)) from Nat.mul_succ _ _]
  omega
def sumN (f : Nat -> Nat) : Nat -> Nat
 | 0 => 0
 | n + 1 => sumN f n + f n
theorem GU (f : Nat -> Nat) (c : Nat) : ∀ n, sumN f n * c = sumN (fun k => f k * c) n
 | 0 => by simp [sumN]
 | n + 1 => by simp only [sumN, Nat.add_mul, GU f c n]
theorem FR (f g : Nat -> Nat) : ∀ n, sumN f n + sumN g n = sumN (fun k => f k + g k) n
 | 0 => rfl
 | n + 1 => by simp only [sumN]; rw [← FR f g n]; omega
theorem xa (f : Nat -> Nat) : ∀ n, sumN f (n + 1) = f 0 + sumN (fun k => f (k + 1)) n
 | 0 => by simp [sumN]
 | n + 1 => by
  rw [sumN, xa f n]
  simp only [sumN]
  omega
theorem BP {f g : Nat -> Nat} : ∀ {n}, (∀ k, k < n -> f k = g k) -> sumN f n = sumN g n
 | 0, _ => rfl
 | n + 1, h => by simp only [sumN]; rw [BP (fun k hk => h k (by omega)), h n (by omega)]
theorem SA (x : Nat) : ∀ n, (x + 1) ^ n = sumN (fun k => cho n k * x ^ k) (n + 1)
 | 0 => by simp [sumN, cho]
 | n + 1 => by
  rw [Nat.pow_succ, Nat.mul_add, Nat.mul_one, SA x n, GU]
  rw [xa (fun k => cho (n + 1) k * x ^ k) (n + 1)]
  have e1 : sumN (fun k => cho n k * x ^ k) (n + 1) = 1 + sumN (fun k => cho n (k + 1) * x ^ (k + 1)) (n + 1) := by
   rw [xa]
   simp only [sumN]
   rw [Bq n (n + 1) (by omega)]
   simp [cho]
  rw [e1]
  have e2 : sumN (fun k => cho (n + 1) (k + 1) * x ^ (k + 1)) (n + 1) = sumN (fun k => cho n k * x ^ k * x) (n + 1) + sumN (fun k => cho n (k + 1) * x ^ (k + 1)) (n + 1) := by
   rw [FR]
   refine BP fun k _ => ?_
   simp only [cho, Nat.add_mul, Nat.pow_succ, Nat.mul_assoc]
  rw [e2]
  simp only [cho, Nat.pow_zero, Nat.mul_one]
  omega
theorem FX {p : Nat} {f : Nat -> Nat} : ∀ {n}, (∀ k, k < n -> p ∣ f k) -> p ∣ sumN f n
 | 0, _ => Nat.dvd_zero p
 | n + 1, h => Nat.dvd_add (FX fun k hk => h k (by omega)) (h n (by omega))
theorem Pr.dvd_cho {p k : Nat} (hp : Pr p) (h0 : 0 < k) (h1 : k < p) : p ∣ cho p k := by
 obtain ⟨k, rfl⟩ : ∃ j, k = j + 1 := ⟨k - 1, by omega⟩
 obtain ⟨q, rfl⟩ : ∃ q, p = q + 1 := ⟨p - 1, by omega⟩
 have h := Bi q k
 have : (q + 1) ∣ cho (q + 1) (k + 1) * (k + 1) := ⟨cho q k, h.symm⟩
 rcases hp.euclid this with h2 | h2
 ·exact h2
 ·exact absurd (Nat.le_of_dvd (by omega) h2) (by omega)
theorem Pr.dream {p : Nat} (hp : Pr p) (x : Nat) : (x + 1) ^ p % p = (x ^ p + 1) % p := by
 obtain ⟨q, rfl⟩ : ∃ q, p = q + 1 := ⟨p - 1, by have := hp.1; omega⟩
 rw [SA x (q + 1)]
 rw [sumN]
 rw [xa]
 have hd : (q + 1) ∣ sumN (fun k => cho (q + 1) (k + 1) * x ^ (k + 1)) q := FX fun k hk => Nat.dvd_trans (hp.dvd_cho (k := k + 1) (by omega) (by omega)) ⟨_, rfl⟩
 obtain ⟨c, hc⟩ := hd
 rw [hc, GQ]
 simp only [cho, Nat.pow_zero, Nat.mul_one, Nat.one_mul]
 rw [show 1 + (q + 1) * c + x ^ (q + 1) = x ^ (q + 1) + 1 + (q + 1) * c by omega, Nat.add_mul_mod_self_left]
theorem Pr.fermat {p : Nat} (hp : Pr p) : ∀ x, x ^ p % p = x % p
 | 0 => by rw [Nat.zero_pow (by have := hp.1; omega)]
 | x + 1 => by rw [hp.dream x, Nat.add_mod, hp.fermat x, ← Nat.add_mod]
theorem Pr.fermat1 {p x : Nat} (hp : Pr p) (h : ¬ p ∣ x) : x ^ (p - 1) % p = 1 := by
 have h2 := hp.1
 have h1 := hp.fermat x
 have hx : 0 < x := Nat.pos_of_ne_zero fun e => h (e ▸ Nat.dvd_zero p)
 have e : x ^ p = x * x ^ (p - 1) := by rw [Nat.mul_comm, ← Nat.pow_succ, show (p - 1).succ = p by omega]
 have hle : 1 <= x ^ (p - 1) := Nat.pow_pos hx
 have hd : p ∣ x * (x ^ (p - 1) - 1) := by
  rw [Nat.mul_sub, ← e, Nat.mul_one]
  have hle2 : x <= x ^ p := by rw [e]; exact Nat.le_mul_of_pos_right _ hle
  exact Nat.dvd_of_mod_eq_zero (Nat.sub_mod_eq_zero_of_mod_eq h1)
 have h3 := (hp.coprime h).dvd_of_dvd_mul_left hd
 obtain ⟨c, hc⟩ := h3
 rw [show x ^ (p - 1) = 1 + p * c by omega, Nat.add_mul_mod_self_left, Nat.mod_eq_of_lt (by omega)]
theorem AT {c s : Nat} (hs : 2 <= s) {m : Nat} (h : c ^ m % s = 1) (k : Nat) : c ^ (m * k) % s = 1 := by
 rw [Nat.pow_mul, Nat.pow_mod, h, Nat.one_pow, Nat.mod_eq_of_lt (by omega)]
theorem Rv {c s : Nat} (hs : 2 <= s) : ∀ (a b : Nat), c ^ a % s = 1 -> c ^ b % s = 1 -> c ^ Nat.gcd a b % s = 1 := by
 intro a b
 induction a, b using Nat.gcd.induction with
 | H0 b => intro _ h; rwa [Nat.gcd_zero_left]
 | H1 a b ha ih =>
  intro h1 h2
  rw [Nat.gcd_rec]
  refine ih ?_ h1
  have e := Nat.div_add_mod b a
  rw [← e, Nat.pow_add, Nat.mul_mod, AT hs h1, Nat.one_mul, Nat.mod_mod] at h2
  exact h2
theorem Pv {q e d : Nat} (hq : Pr q) (he : 0 < e) (h : d ∣ q ^ e) (hne : d ≠ q ^ e) : d ∣ q ^ (e - 1) := by
 obtain ⟨k, hk⟩ := h
 have hk1 : k ≠ 1 := fun e1 => hne (by rw [e1, Nat.mul_one] at hk; exact hk.symm)
 have hqk : q ∣ k := by
  by_cases h : q ∣ k
  ·exact h
  ·exfalso
   have hc : Nat.Coprime k (q ^ e) := (hq.coprime h).symm.pow_right e
   have h2 : k ∣ q ^ e := ⟨d, by rw [hk, Nat.mul_comm]⟩
   exact hk1 (Nat.eq_one_of_dvd_one (by have := Nat.dvd_gcd (Nat.dvd_refl k) h2; rwa [hc] at this))
 obtain ⟨k', rfl⟩ := hqk
 refine ⟨k', ?_⟩
 have e1 : q ^ e = q ^ (e - 1) * q := by rw [← Nat.pow_succ, show (e - 1).succ = e by omega]
 have hq0 : 0 < q := by have := hq.1; omega
 rw [e1] at hk
 have : q ^ (e - 1) * q = d * k' * q := by rw [hk, Nat.mul_assoc, Nat.mul_comm q k']
 exact Nat.eq_of_mul_eq_mul_right hq0 this
theorem KS {c s q e m : Nat} (hs : 2 <= s) (hq : Pr q) (he : 0 < e) (h1 : c ^ (q ^ e) % s = 1) (h2 : c ^ (q ^ (e - 1)) % s ≠ 1) (hm : c ^ m % s = 1) : q ^ e ∣ m := by
 have hg := Rv hs _ _ h1 hm
 by_cases h : Nat.gcd (q ^ e) m = q ^ e
 ·exact h ▸ Nat.gcd_dvd_right _ _
 ·exfalso
  obtain ⟨k, hk⟩ := Pv hq he (Nat.gcd_dvd_left _ _) h
  apply h2
  rw [hk]
  exact AT hs hg k
theorem E9 : ∀ (n : Nat), 2 <= n -> ∃ p, Pr p /\ p ∣ n := by
 intro n
 induction n using Nat.strongRecOn with
 | ind n ih =>
  intro hn
  by_cases h : ∃ d, d ∣ n /\ d ≠ 1 /\ d ≠ n
  ·obtain ⟨d, h1, h2, h3⟩ := h
   have hd : d <= n := Nat.le_of_dvd (by omega) h1
   have hd0 : d ≠ 0 := fun e => by subst e; have := Nat.eq_zero_of_zero_dvd h1; omega
   obtain ⟨p, hp, hpd⟩ := ih d (by omega) (by omega)
   exact ⟨p, hp, Nat.dvd_trans hpd h1⟩
  ·refine ⟨n, ⟨hn, fun d hd => ?_⟩, Nat.dvd_refl n⟩
   by_cases h1 : d = 1
   ·exact .inl h1
   ·by_cases h2 : d = n
    ·exact .inr h2
    ·exact absurd ⟨d, hd, h1, h2⟩ h
def HK : Nat -> Nat -> Nat -> Nat -> Nat
 | 0, _, _, n => 1 % n
 | f + 1, a, e, n =>
  match Nat.beq e 0 with
  | true => 1 % n
  | false => match Nat.beq (e % 2) 0 with
   | true => HK f a (e / 2) n ^ 2 % n
   | false => HK f a (e / 2) n ^ 2 % n * a % n
theorem Bc : ∀ (f a e n : Nat), e < 2 ^ f -> HK f a e n = a ^ e % n
 | 0, a, e, n, h => by
  have : e = 0 := by simpa using h
  subst this; rfl
 | f + 1, a, e, n, h => by
  unfold HK
  have ih := Bc f a (e / 2) n (by rw [Nat.pow_succ] at h; omega)
  split
  ·rename_i h0
   have := Nat.eq_of_beq_eq_true h0
   subst this; rfl
  ·have hs : (a ^ (e / 2) % n) ^ 2 % n = a ^ (e / 2 * 2) % n := by
    rw [← Nat.pow_mod, ← Nat.pow_mul]
   rw [ih, hs]
   split
   ·rename_i h1
    have := Nat.eq_of_beq_eq_true h1
    rw [show e / 2 * 2 = e by omega]
   ·rename_i h1
    have : e % 2 ≠ 0 := fun h => by rw [h] at h1; cases h1
    rw [Nat.mod_mul_mod, ← Nat.pow_succ, show (e / 2 * 2).succ = e by omega]
theorem ZB {N a q e : Nat} (hN : 2 <= N) (hq : Pr q) (he : 0 < e) (hd : q ^ e ∣ N - 1) (h1 : a ^ (N - 1) % N = 1) (h2 : Nat.gcd (a ^ ((N - 1) / q) % N + (N - 1)) N = 1) {s : Nat} (hs : Pr s) (hsN : s ∣ N) : q ^ e ∣ s - 1 := by
 have hs2 := hs.1
 have red : ∀ x, x % N = 1 -> x % s = 1 := fun x h => by
  have := Nat.mod_mod_of_dvd x hsN
  rw [h] at this
  rw [← this, Nat.mod_eq_of_lt (by omega)]
 obtain ⟨k, hk⟩ := hd
 have hq0 : 0 < q := by have := hq.1; omega
 have hqe : 0 < q ^ e := Nat.pow_pos hq0
 have e1 : (N - 1) / q = k * q ^ (e - 1) := by
  rw [hk, show q ^ e = q ^ (e - 1) * q by rw [← Nat.pow_succ, show (e - 1).succ = e by omega]]
  rw [Nat.mul_comm (q ^ (e - 1)) q, Nat.mul_assoc, Nat.mul_div_cancel_left _ hq0, Nat.mul_comm]
 refine KS (c := a ^ k) hs2 hq he ?_ ?_ ?_
 ·rw [← Nat.pow_mul, Nat.mul_comm, ← hk]
  exact red _ h1
 ·intro h
  rw [← Nat.pow_mul, ← e1] at h
  have h3 : s ∣ a ^ ((N - 1) / q) % N + (N - 1) := by
   have h4 := Nat.mod_mod_of_dvd (a ^ ((N - 1) / q)) hsN
   rw [h] at h4
   generalize a ^ ((N - 1) / q) % N = x at *
   obtain ⟨t, ht⟩ := hsN
   refine ⟨x / s + t, ?_⟩
   have := Nat.div_add_mod x s
   rw [Nat.mul_add, ← ht]
   omega
  have := Nat.dvd_gcd h3 hsN
  rw [h2] at this
  have := Nat.le_of_dvd (by omega) this
  omega
 ·refine hs.fermat1 fun hd => ?_
  have h3 : s ∣ a ^ (N - 1) := by rw [hk, Nat.mul_comm, Nat.pow_mul]; exact Nat.dvd_trans hd (Nat.dvd_trans ⟨_, (by rw [← Nat.pow_succ', show (q ^ e - 1).succ = q ^ e by omega] : (a ^ k) ^ (q ^ e) = a ^ k * (a ^ k) ^ (q ^ e - 1))⟩ (Nat.dvd_refl _))
  have h4 := red _ h1
  have h5 := Nat.mod_eq_zero_of_dvd h3
  omega
theorem tQ {N : Nat} (a q e f : Nat) (hN : 2 <= N) (hq : Pr q) (he : 0 < e) (hd : (N - 1) % q ^ e = 0) (hf : N < 2 ^ f) (h1 : HK f a (N - 1) N = 1) (h2 : Nat.gcd (HK f a ((N - 1) / q) N + (N - 1)) N = 1) {s : Nat} (hs : Pr s) (hsN : s ∣ N) : q ^ e ∣ s - 1 := by
 rw [Bc f a (N - 1) N (by omega)] at h1
 rw [Bc f a ((N - 1) / q) N (Nat.lt_of_le_of_lt (Nat.div_le_self _ _) (by omega))] at h2
 exact ZB hN hq he (Nat.dvd_of_mod_eq_zero hd) h1 h2 hs hsN
theorem Bt {N F : Nat} (hF : ∀ s, Pr s -> s ∣ N -> F ∣ s - 1) : ∀ d, 0 < d -> d ∣ N -> F ∣ d - 1 := by
 intro d
 induction d using Nat.strongRecOn with
 | ind d ih =>
  intro h0 hd
  by_cases h1 : d = 1
  ·subst h1; exact Nat.dvd_zero F
  ·obtain ⟨p, hp, hpd⟩ := E9 d (by omega)
   obtain ⟨k, rfl⟩ := hpd
   have hk0 : 0 < k := Nat.pos_of_ne_zero fun e => by subst e; simp at h0
   have hp2 := hp.1
   have h3 := ih k (by have := Nat.mul_le_mul_right k hp2; omega) hk0 (Nat.dvd_trans ⟨p, Nat.mul_comm p k⟩ hd)
   have h4 := hF p hp (Nat.dvd_trans ⟨k, rfl⟩ hd)
   obtain ⟨x, hx⟩ := h3
   obtain ⟨y, hy⟩ := h4
   have e1 : p = F * y + 1 := by omega
   have e2 : k = F * x + 1 := by omega
   refine ⟨y * k + x, ?_⟩
   rw [Nat.mul_add, ← hx, ← Nat.mul_assoc, ← hy, Nat.sub_mul]
   have : 1 * k <= p * k := Nat.mul_le_mul_right k (by omega)
   omega
theorem uX {N F : Nat} (hN : 2 <= N) (hF : ∀ s, Pr s -> s ∣ N -> F ∣ s - 1) (h : N < (F + 1) * (F + 1)) : Pr N := by
 refine ⟨hN, fun d hd => ?_⟩
 obtain ⟨k, hk⟩ := hd
 by_cases h1 : d = 1
 ·exact .inl h1
 by_cases h2 : d = N
 ·exact .inr h2
 exfalso
 have hd0 : 0 < d := Nat.pos_of_ne_zero fun e => by subst e; simp at hk; omega
 have hk0 : 0 < k := Nat.pos_of_ne_zero fun e => by subst e; simp at hk; omega
 have hk1 : k ≠ 1 := fun e => h2 (by rw [e, Nat.mul_one] at hk; exact hk.symm)
 have a1 := Bt hF d hd0 ⟨k, hk⟩
 have a2 := Bt hF k hk0 ⟨d, by rw [hk, Nat.mul_comm]⟩
 have b1 := Nat.le_of_dvd (by omega) a1
 have b2 := Nat.le_of_dvd (by omega) a2
 have := Nat.mul_le_mul (show F + 1 <= d by omega) (show F + 1 <= k by omega)
 omega
def Jo (n : Nat) : Nat -> Nat -> Bool
 | _, 0 => true
 | d, k + 1 => match Nat.beq (n % d) 0 with | true => false | false => Jo n (d + 1) k
theorem GT (n : Nat) : ∀ (k d : Nat), Jo n d k = true -> ∀ x, d <= x -> x < d + k -> ¬ x ∣ n
 | 0, d, _, x, h1, h2 => by omega
 | k + 1, d, h, x, h1, h2 => by
  unfold Jo at h
  split at h
  ·cases h
  ·rename_i hb
   by_cases e : x = d
   ·subst e
    intro hd
    have := Nat.mod_eq_zero_of_dvd hd
    rw [this] at hb
    cases hb
   ·exact GT n k (d + 1) h x (by omega) (by omega)
theorem rc {n k : Nat} (hn : 2 <= n) (h : Jo n 2 k = true) (hk : n < (k + 2) * (k + 2)) : Pr n := by
 refine ⟨hn, fun d hd => ?_⟩
 by_cases h1 : d = 1
 ·exact .inl h1
 by_cases h2 : d = n
 ·exact .inr h2
 exfalso
 obtain ⟨m, hm⟩ := hd
 have hd0 : d ≠ 0 := fun e => by subst e; simp at hm; omega
 have hm0 : m ≠ 0 := fun e => by subst e; simp at hm; omega
 have hm1 : m ≠ 1 := fun e => h2 (by rw [e, Nat.mul_one] at hm; exact hm.symm)
 have n1 := GT n k 2 h
 rcases Nat.lt_or_ge d (k + 2) with hl | hl
 ·exact n1 d (by omega) (by omega) ⟨m, hm⟩
 ·rcases Nat.lt_or_ge m (k + 2) with hl2 | hl2
  ·exact n1 m (by omega) (by omega) ⟨d, by rw [hm, Nat.mul_comm]⟩
  ·have := Nat.mul_le_mul hl hl2
   omega
end Go.Ev
set_option linter.unusedSimpArgs false
set_option linter.unusedVariables false
namespace Go.Ev
def nbits : Nat -> Nat -> Nat
 | 0, _ => 0
 | i + 1, a => if a / 18446744073709551616 ^ i % 18446744073709551616 = 0 then nbits i a else 64 * i + Lib.bitLen (a / 18446744073709551616 ^ i % 18446744073709551616)
theorem tR (n k : Nat) (hn : n <= 1024) (hk : k <= 64) : IntKind.i64.wrap ((n : Int) + ((k : Nat) : Int)) = ((n + k : Nat) : Int) := by
 simp only [qm]
 omega
theorem DQ : ∀ (f x : Nat), x < 2 ^ f -> x < 2 ^ Lib.bitLenAux f x
 | 0, x, h => by simp [Lib.bitLenAux] at h ⊢; omega
 | f + 1, x, h => by
  simp only [Lib.bitLenAux]
  split
  ·rename_i h0; subst h0; simp
  ·have := DQ f (x / 2) (by rw [Nat.pow_succ] at h; omega)
   rw [Nat.add_comm, Nat.pow_succ]
   omega
theorem Cd : ∀ (i a : Nat), nbits i a <= 64 * i
 | 0, _ => Nat.le_refl _
 | i + 1, a => by
  have h1 := Cd i a
  have h2 := Lib.bitLen_le (a / 18446744073709551616 ^ i % 18446744073709551616) 64 (Nat.le_refl _) (Nat.mod_lt _ (by decide))
  simp only [nbits]
  split <;> omega
theorem Gu : ∀ (i a : Nat), a % 18446744073709551616 ^ i < 2 ^ nbits i a
 | 0, a => by simp [nbits, Nat.mod_one]
 | i + 1, a => by
  have h1 := Gu i a
  have hm := Nat.mod_mul (x := a) (a := 18446744073709551616 ^ i) (b := 18446744073709551616)
  rw [← Nat.pow_succ] at hm
  rw [hm]
  simp only [nbits]
  split
  ·rename_i h0
   rw [h0, Nat.mul_zero, Nat.add_zero]
   exact h1
  ·have h2 : a / 18446744073709551616 ^ i % 18446744073709551616 < 2 ^ Lib.bitLen (a / 18446744073709551616 ^ i % 18446744073709551616) := DQ 64 _ (Nat.mod_lt _ (by decide))
   have h3 : a % 18446744073709551616 ^ i < 18446744073709551616 ^ i := Nat.mod_lt _ (Nat.pow_pos (by decide))
   have e : (18446744073709551616 : Nat) ^ i = 2 ^ (64 * i) := by rw [Nat.pow_mul]
   rw [Nat.pow_add, ← e]
   generalize a / 18446744073709551616 ^ i % 18446744073709551616 = q at *
   generalize 2 ^ Lib.bitLen q = Q at *
   generalize 18446744073709551616 ^ i = P at *
   have := Nat.mul_le_mul_left P (show q + 1 <= Q by omega)
   rw [Nat.mul_add, Nat.mul_one] at this
   generalize a % P = r at *
   omega
theorem DE {i a : Nat} (h : a < 18446744073709551616 ^ i) : a / 2 ^ nbits i a = 0 := by
 have := Gu i a
 rw [Nat.mod_eq_of_lt h] at this
 exact Nat.div_eq_of_lt this
end Go.Ev
set_option linter.unusedSimpArgs false
set_option linter.unusedVariables false
namespace Go.Ev
def pw {α : Type} (mul : α -> α -> α) (one a : α) : Nat -> α
 | 0 => one
 | n + 1 => mul (pw mul one a n) a
structure Mon (α : Type) where
 mul : α -> α -> α
 one : α
 assoc : ∀ a b c, mul (mul a b) c = mul a (mul b c)
 one_mul : ∀ a, mul one a = a
 mul_one : ∀ a, mul a one = a
theorem Mon.pw_add {α : Type} (G : Mon α) (a : α) (m : Nat) : ∀ n, pw G.mul G.one a (m + n) = G.mul (pw G.mul G.one a m) (pw G.mul G.one a n)
 | 0 => by simp only [Nat.add_zero, pw, G.mul_one]
 | n + 1 => by rw [← Nat.add_assoc]; simp only [pw]; rw [G.pw_add a m n, G.assoc]
theorem Mon.pw_dbl {α : Type} (G : Mon α) (a : α) (n : Nat) : pw G.mul G.one a (2 * n) = G.mul (pw G.mul G.one a n) (pw G.mul G.one a n) := by
 rw [Nat.two_mul, G.pw_add]
theorem Mon.pw_mul {α : Type} (G : Mon α) (a : α) (m : Nat) : ∀ n, pw G.mul G.one a (m * n) = pw G.mul G.one (pw G.mul G.one a m) n
 | 0 => by simp only [Nat.mul_zero, pw]
 | n + 1 => by rw [Nat.mul_add, Nat.mul_one, G.pw_add, G.pw_mul a m n]; rfl
theorem UV (e j s : Nat) (hs : s < 64) : e / 18446744073709551616 ^ j % 18446744073709551616 / 2 ^ s % 2 = e / 2 ^ (64 * j + s) % 2 := by
 have e1 : (18446744073709551616 : Nat) = 2 ^ s * 2 ^ (64 - s) := by rw [← Nat.pow_add, show s + (64 - s) = 64 by omega]
 have e2 : (18446744073709551616 : Nat) ^ j = 2 ^ (64 * j) := by rw [Nat.pow_mul]
 rw [Nat.pow_add, ← e2, ← Nat.div_div_eq_div_mul]
 generalize e / 18446744073709551616 ^ j = q
 rw [e1, Nat.mod_mul_right_div_self]
 have h2 : (2 : Nat) ∣ 2 ^ (64 - s) := ⟨2 ^ (63 - s), by rw [Nat.mul_comm, ← Nat.pow_succ, show (63 - s).succ = 64 - s by omega]⟩
 exact Nat.mod_mod_of_dvd _ h2
theorem PV (x : Nat) : x % 18446744073709551616 &&& 1 = x % 2 := by
 rw [Nat.and_one_is_mod]
 exact Nat.mod_mod_of_dvd _ (by decide)
theorem x6 (e i : Nat) : (e / 18446744073709551616 ^ (0 + i / 64 * 1) % 18446744073709551616 / 2 ^ (i % 64) % 18446744073709551616 &&& 1) % 18446744073709551616 = e / 2 ^ i % 2 := by
 rw [Nat.zero_add, Nat.mul_one, PV, UV _ _ _ (Nat.mod_lt _ (by decide)), show 64 * (i / 64) + i % 64 = i by omega]
 omega
theorem yl (e i : Nat) : e / 2 ^ i = 2 * (e / 2 ^ (i + 1)) + e / 2 ^ i % 2 := by
 rw [Nat.pow_succ, ← Nat.div_div_eq_div_mul]
 omega
theorem yX (i : Nat) (h : i < 9223372036854775808) : IntKind.i64.wrap (((i : Nat) : Int).tdiv 64) = ((i / 64 : Nat) : Int) := by
 rw [Int.tdiv_eq_ediv_of_nonneg (by omega), qm]
 omega
theorem yY (i : Nat) : ((i : Nat) : Int).tmod 64 = ((i % 64 : Nat) : Int) := by
 rw [Int.tmod_eq_emod_of_nonneg (by omega)]
 omega
def GP : Mon (Fin Pp) := { mul := (· * ·), one := 1, assoc := fun a b c => by grind, one_mul := fun a => by grind, mul_one := fun a => by grind }
def pwS (a : Fin Rr) (n : Nat) : Fin Rr := pw (· * ·) 1 a n
def pwP (a : Fin Pp) (n : Nat) : Fin Pp := pw (· * ·) 1 a n
end Go.Ev
set_option linter.unusedSimpArgs false
set_option linter.unusedVariables false
namespace Go.Ev
theorem Yb : Pr 2 := rc (k := 0) (by decide) (by decide +kernel) (by decide)
theorem aae : Pr 3 := rc (k := 0) (by decide) (by decide +kernel) (by decide)
theorem YW : Pr 11 := rc (k := 2) (by decide) (by decide +kernel) (by decide)
theorem Yx : Pr 23 := rc (k := 3) (by decide) (by decide +kernel) (by decide)
theorem XH : Pr 47 := rc (k := 5) (by decide) (by decide +kernel) (by decide)
theorem QA : Pr 7577 := rc (k := 86) (by decide) (by decide +kernel) (by decide)
theorem MP : Pr 10177 := rc (k := 99) (by decide) (by decide +kernel) (by decide)
theorem KH : Pr 582767 := rc (k := 762) (by decide) (by decide +kernel) (by decide)
theorem KJ : Pr 859267 := rc (k := 925) (by decide) (by decide +kernel) (by decide)
theorem KD : Pr 906349 := rc (k := 951) (by decide) (by decide +kernel) (by decide)
theorem Az : Pr 52437899 := rc (k := 7240) (by decide) (by decide +kernel) (by decide)
theorem E3 : Pr 254760293 := rc (k := 15960) (by decide) (by decide +kernel) (by decide)
theorem Aq : Pr 9272813673901 := uX (F := 4415625559) (by decide) (fun s hs hd => by
 have d0 := tQ (N := 9272813673901) 5 582767 1 64 (by decide) KH (by decide) (by decide +kernel) (by decide +kernel) (by decide +kernel) (by decide +kernel) hs hd
 have c1 := tQ (N := 9272813673901) 5 7577 1 64 (by decide) QA (by decide) (by decide +kernel) (by decide +kernel) (by decide +kernel) (by decide +kernel) hs hd
 have d1 := Nat.Coprime.mul_dvd_of_dvd_of_dvd (show Nat.Coprime (582767 ^ 1) (7577 ^ 1) from by decide +kernel) d0 c1
 exact (show (582767 ^ 1) * 7577 ^ 1 = 4415625559 from by decide +kernel) ▸ d1) (by decide)
theorem yK : Pr 1928745244171409 := uX (F := 9272813673901) (by decide) (fun s hs hd => by
 have d0 := tQ (N := 1928745244171409) 5 9272813673901 1 64 (by decide) Aq (by decide) (by decide +kernel) (by decide +kernel) (by decide +kernel) (by decide +kernel) hs hd
 exact (show 9272813673901 ^ 1 = 9272813673901 from by decide +kernel) ▸ d0) (by decide)
theorem xb : Pr 7259797099061183477 := uX (F := 1928745244171409) (by decide) (fun s hs hd => by
 have d0 := tQ (N := 7259797099061183477) 5 1928745244171409 1 64 (by decide) yK (by decide) (by decide +kernel) (by decide +kernel) (by decide +kernel) (by decide +kernel) hs hd
 exact (show 1928745244171409 ^ 1 = 1928745244171409 from by decide +kernel) ▸ d0) (by decide)
theorem vx : Pr 2584487767265781317813 := uX (F := 7259797099061183477) (by decide) (fun s hs hd => by
 have d0 := tQ (N := 2584487767265781317813) 5 7259797099061183477 1 80 (by decide) xb (by decide) (by decide +kernel) (by decide +kernel) (by decide +kernel) (by decide +kernel) hs hd
 exact (show 7259797099061183477 ^ 1 = 7259797099061183477 from by decide +kernel) ▸ d0) (by decide)
theorem qH : Pr 52435875175126190479447740508185965837690552500527637822603658699938581184513 := uX (F := 12007692098914813156957407318437874572875268096) (by decide) (fun s hs hd => by
 have d0 := tQ (N := 52435875175126190479447740508185965837690552500527637822603658699938581184513) 5 2 32 256 (by decide) Yb (by decide) (by decide +kernel) (by decide +kernel) (by decide +kernel) (by decide +kernel) hs hd
 have c1 := tQ (N := 52435875175126190479447740508185965837690552500527637822603658699938581184513) 5 254760293 2 256 (by decide) E3 (by decide) (by decide +kernel) (by decide +kernel) (by decide +kernel) (by decide +kernel) hs hd
 have d1 := Nat.Coprime.mul_dvd_of_dvd_of_dvd (show Nat.Coprime (2 ^ 32) (254760293 ^ 2) from by decide +kernel) d0 c1
 have c2 := tQ (N := 52435875175126190479447740508185965837690552500527637822603658699938581184513) 5 906349 2 256 (by decide) KD (by decide) (by decide +kernel) (by decide +kernel) (by decide +kernel) (by decide +kernel) hs hd
 have d2 := Nat.Coprime.mul_dvd_of_dvd_of_dvd (show Nat.Coprime ((2 ^ 32) * 254760293 ^ 2) (906349 ^ 2) from by decide +kernel) d1 c2
 have c3 := tQ (N := 52435875175126190479447740508185965837690552500527637822603658699938581184513) 5 52437899 1 256 (by decide) Az (by decide) (by decide +kernel) (by decide +kernel) (by decide +kernel) (by decide +kernel) hs hd
 have d3 := Nat.Coprime.mul_dvd_of_dvd_of_dvd (show Nat.Coprime (((2 ^ 32) * 254760293 ^ 2) * 906349 ^ 2) (52437899 ^ 1) from by decide +kernel) d2 c3
 exact (show (((2 ^ 32) * 254760293 ^ 2) * 906349 ^ 2) * 52437899 ^ 1 = 12007692098914813156957407318437874572875268096 from by decide +kernel) ▸ d3) (by decide)
theorem RV : ∀ s, Pr s -> s ∣ 4002409555221667393417789825735904156556882819939007885332058136124031650490837864442687629129015664037894272559787 -> 253663835868735594330404923636534084567099854 ∣ s - 1 := fun s hs hd => by
 have d0 := tQ (N := 4002409555221667393417789825735904156556882819939007885332058136124031650490837864442687629129015664037894272559787) 5 2 1 384 (by decide) Yb (by decide) (by decide +kernel) (by decide +kernel) (by decide +kernel) (by decide +kernel) hs hd
 have c1 := tQ (N := 4002409555221667393417789825735904156556882819939007885332058136124031650490837864442687629129015664037894272559787) 5 3 2 384 (by decide) aae (by decide) (by decide +kernel) (by decide +kernel) (by decide +kernel) (by decide +kernel) hs hd
 have d1 := Nat.Coprime.mul_dvd_of_dvd_of_dvd (show Nat.Coprime (2 ^ 1) (3 ^ 2) from by decide +kernel) d0 c1
 have c2 := tQ (N := 4002409555221667393417789825735904156556882819939007885332058136124031650490837864442687629129015664037894272559787) 5 11 1 384 (by decide) YW (by decide) (by decide +kernel) (by decide +kernel) (by decide +kernel) (by decide +kernel) hs hd
 have d2 := Nat.Coprime.mul_dvd_of_dvd_of_dvd (show Nat.Coprime ((2 ^ 1) * 3 ^ 2) (11 ^ 1) from by decide +kernel) d1 c2
 have c3 := tQ (N := 4002409555221667393417789825735904156556882819939007885332058136124031650490837864442687629129015664037894272559787) 5 23 1 384 (by decide) Yx (by decide) (by decide +kernel) (by decide +kernel) (by decide +kernel) (by decide +kernel) hs hd
 have d3 := Nat.Coprime.mul_dvd_of_dvd_of_dvd (show Nat.Coprime (((2 ^ 1) * 3 ^ 2) * 11 ^ 1) (23 ^ 1) from by decide +kernel) d2 c3
 have c4 := tQ (N := 4002409555221667393417789825735904156556882819939007885332058136124031650490837864442687629129015664037894272559787) 5 47 1 384 (by decide) XH (by decide) (by decide +kernel) (by decide +kernel) (by decide +kernel) (by decide +kernel) hs hd
 have d4 := Nat.Coprime.mul_dvd_of_dvd_of_dvd (show Nat.Coprime ((((2 ^ 1) * 3 ^ 2) * 11 ^ 1) * 23 ^ 1) (47 ^ 1) from by decide +kernel) d3 c4
 have c5 := tQ (N := 4002409555221667393417789825735904156556882819939007885332058136124031650490837864442687629129015664037894272559787) 5 10177 1 384 (by decide) MP (by decide) (by decide +kernel) (by decide +kernel) (by decide +kernel) (by decide +kernel) hs hd
 have d5 := Nat.Coprime.mul_dvd_of_dvd_of_dvd (show Nat.Coprime (((((2 ^ 1) * 3 ^ 2) * 11 ^ 1) * 23 ^ 1) * 47 ^ 1) (10177 ^ 1) from by decide +kernel) d4 c5
 have c6 := tQ (N := 4002409555221667393417789825735904156556882819939007885332058136124031650490837864442687629129015664037894272559787) 5 859267 1 384 (by decide) KJ (by decide) (by decide +kernel) (by decide +kernel) (by decide +kernel) (by decide +kernel) hs hd
 have d6 := Nat.Coprime.mul_dvd_of_dvd_of_dvd (show Nat.Coprime ((((((2 ^ 1) * 3 ^ 2) * 11 ^ 1) * 23 ^ 1) * 47 ^ 1) * 10177 ^ 1) (859267 ^ 1) from by decide +kernel) d5 c6
 have c7 := tQ (N := 4002409555221667393417789825735904156556882819939007885332058136124031650490837864442687629129015664037894272559787) 5 52437899 1 384 (by decide) Az (by decide) (by decide +kernel) (by decide +kernel) (by decide +kernel) (by decide +kernel) hs hd
 have d7 := Nat.Coprime.mul_dvd_of_dvd_of_dvd (show Nat.Coprime (((((((2 ^ 1) * 3 ^ 2) * 11 ^ 1) * 23 ^ 1) * 47 ^ 1) * 10177 ^ 1) * 859267 ^ 1) (52437899 ^ 1) from by decide +kernel) d6 c7
 have c8 := tQ (N := 4002409555221667393417789825735904156556882819939007885332058136124031650490837864442687629129015664037894272559787) 5 2584487767265781317813 1 384 (by decide) vx (by decide) (by decide +kernel) (by decide +kernel) (by decide +kernel) (by decide +kernel) hs hd
 have d8 := Nat.Coprime.mul_dvd_of_dvd_of_dvd (show Nat.Coprime ((((((((2 ^ 1) * 3 ^ 2) * 11 ^ 1) * 23 ^ 1) * 47 ^ 1) * 10177 ^ 1) * 859267 ^ 1) * 52437899 ^ 1) (2584487767265781317813 ^ 1) from by decide +kernel) d7 c8
 exact (show ((((((((2 ^ 1) * 3 ^ 2) * 11 ^ 1) * 23 ^ 1) * 47 ^ 1) * 10177 ^ 1) * 859267 ^ 1) * 52437899 ^ 1) * 2584487767265781317813 ^ 1 = 253663835868735594330404923636534084567099854 from by decide +kernel) ▸ d8
theorem qp : Pr 4002409555221667393417789825735904156556882819939007885332058136124031650490837864442687629129015664037894272559787 := by
 refine ⟨by decide, fun d hd => ?_⟩
 obtain ⟨k, hk⟩ := hd
 by_cases h1 : d = 1
 ·exact .inl h1
 by_cases h2 : d = 4002409555221667393417789825735904156556882819939007885332058136124031650490837864442687629129015664037894272559787
 ·exact .inr h2
 exfalso
 have hd0 : 0 < d := Nat.pos_of_ne_zero fun e => by subst e; simp at hk
 have hk0 : 0 < k := Nat.pos_of_ne_zero fun e => by subst e; simp at hk
 have hk1 : k ≠ 1 := fun e => h2 (by rw [e, Nat.mul_one] at hk; exact hk.symm)
 obtain ⟨x, hx⟩ := Bt RV d hd0 ⟨k, hk⟩
 obtain ⟨y, hy⟩ := Bt RV k hk0 ⟨d, by rw [hk, Nat.mul_comm]⟩
 have e1 : d = 253663835868735594330404923636534084567099854 * x + 1 := by omega
 have e2 : k = 253663835868735594330404923636534084567099854 * y + 1 := by omega
 have hx0 : 0 < x := Nat.pos_of_ne_zero fun e => by subst e; omega
 have hy0 : 0 < y := Nat.pos_of_ne_zero fun e => by subst e; omega
 have e3 : 4002409555221667393417789825735904156556882819939007885332058136124031650490837864442687629129015664037894272559787 = 253663835868735594330404923636534084567099854 * (253663835868735594330404923636534084567099854 * (x * y)) + 253663835868735594330404923636534084567099854 * x + 253663835868735594330404923636534084567099854 * y + 1 := by
  rw [hk, e1, e2, Nat.add_mul, Nat.mul_add, Nat.mul_one, Nat.one_mul]
  rw [show 253663835868735594330404923636534084567099854 * x * (253663835868735594330404923636534084567099854 * y) = 253663835868735594330404923636534084567099854 * (253663835868735594330404923636534084567099854 * (x * y)) by rw [Nat.mul_assoc, Nat.mul_left_comm x]]
  omega
 have e4 : x + y <= x * y + 1 := by
  obtain ⟨u, rfl⟩ : ∃ u, x = u + 1 := ⟨x - 1, by omega⟩
  obtain ⟨v, rfl⟩ : ∃ v, y = v + 1 := ⟨y - 1, by omega⟩
  have : (u + 1) * (v + 1) = u * v + u + v + 1 := by rw [Nat.add_mul, Nat.mul_add]; omega
  omega
 generalize x * y = z at e3 e4
 omega
theorem QV : Pr Rr := qH
theorem ES : Pr Pp := qp
theorem FV (x : Fin Rr) (n : Nat) : pwS x (n + 1) = pwS x n * x := rfl
theorem IN (x : Fin Rr) : ∀ n, (pwS x n).val = x.val ^ n % Rr
 | 0 => rfl
 | n + 1 => by
  rw [FV, Fin.val_mul, IN x n, Nat.pow_succ, Nat.mod_mul_mod]
theorem NY {x : Fin Rr} (h : x ≠ 0) : ¬ Rr ∣ x.val := fun hd => by
 have h1 := x.isLt
 have h2 : x.val ≠ 0 := fun e => h (Fin.ext e)
 exact absurd (Nat.le_of_dvd (by omega) hd) (by omega)
theorem M7 {x : Fin Rr} (h : x ≠ 0) (m : Nat) (hm : Rr - 1 = m) : pwS x m = 1 := Fin.ext (by
 rw [IN, ← hm]
 exact (QV.fermat1 (x := x.val) (NY h)))
theorem LW {x : Fin Rr} (h : x ≠ 0) : x * pwS x 52435875175126190479447740508185965837690552500527637822603658699938581184511 = 1 := by
 have h1 := M7 h (52435875175126190479447740508185965837690552500527637822603658699938581184511 + 1) (by decide)
 rw [FV] at h1
 generalize pwS x 52435875175126190479447740508185965837690552500527637822603658699938581184511 = y at *
 rw [← h1]
 grind
theorem xW (x : Fin Pp) (n : Nat) : pwP x (n + 1) = pwP x n * x := rfl
theorem Fc (x : Fin Pp) : ∀ n, (pwP x n).val = x.val ^ n % Pp
 | 0 => rfl
 | n + 1 => by
  rw [xW, Fin.val_mul, Fc x n, Nat.pow_succ, Nat.mod_mul_mod]
theorem Nv {x : Fin Pp} (h : x ≠ 0) : ¬ Pp ∣ x.val := fun hd => by
 have h1 := x.isLt
 have h2 : x.val ≠ 0 := fun e => h (Fin.ext e)
 exact absurd (Nat.le_of_dvd (by omega) hd) (by omega)
theorem xm {x : Fin Pp} (h : x ≠ 0) (m : Nat) (hm : Pp - 1 = m) : pwP x m = 1 := Fin.ext (by
 rw [Fc, ← hm]
 exact (ES.fermat1 (x := x.val) (Nv h)))
theorem ur {x : Fin Pp} (h : x ≠ 0) : x * pwP x 4002409555221667393417789825735904156556882819939007885332058136124031650490837864442687629129015664037894272559785 = 1 := by
 have h1 := xm h (4002409555221667393417789825735904156556882819939007885332058136124031650490837864442687629129015664037894272559785 + 1) (by decide)
 rw [xW] at h1
 generalize pwP x 4002409555221667393417789825735904156556882819939007885332058136124031650490837864442687629129015664037894272559785 = y at *
 rw [← h1]
 grind
theorem sB {x y : Fin Pp} (h : x * y = 0) : x = 0 ∨ y = 0 := by
 by_cases hx : x = 0
 ·exact .inl hx
 ·have h1 := ur hx
  right
  generalize pwP x 4002409555221667393417789825735904156556882819939007885332058136124031650490837864442687629129015664037894272559785 = z at h1
  have : y = x * z * y := by rw [h1]; grind
  rw [this, show x * z * y = z * (x * y) by grind, h]
  grind
end Go.Ev
set_option linter.unusedSimpArgs false
set_option linter.unusedVariables false
namespace Go.Ev
theorem rB (a b : F2) : mul2 a b = mul2 b a := by refine sJ ?_ ?_ <;> simp only [mul2] <;> grind
theorem sd (a b c : F2) : mul2 (mul2 a b) c = mul2 a (mul2 b c) := by refine sJ ?_ ?_ <;> simp only [mul2] <;> grind
theorem GA (a b c : F2) : mul2 a (qR b c) = qR (mul2 a b) (mul2 a c) := by refine sJ ?_ ?_ <;> simp only [mul2, qR] <;> grind
theorem s7 (a : F2) : mul2 a one2 = a := sJ (show a.1 * 1 - a.2 * 0 = a.1 by grind) (show (a.1 + a.2) * (1 + 0) - a.1 * 1 - a.2 * 0 = a.2 by grind)
theorem z9 (a b : F2) : qR a b = qR b a := by refine sJ ?_ ?_ <;> simp only [qR] <;> grind
theorem BV (a b c : F2) : qR (qR a b) c = qR a (qR b c) := by refine sJ ?_ ?_ <;> simp only [qR] <;> grind
theorem wl (a : F2) : qR a (0, 0) = a := sJ (show a.1 + 0 = a.1 by grind) (show a.2 + 0 = a.2 by grind)
theorem Cy (t : Fin Pp) : t * 0 = 0 := by grind
theorem ts (a : F2) : mul2 a (0, 0) = (0, 0) := sJ (show a.1 * 0 - a.2 * 0 = 0 by rw [Cy, Cy]; decide) (show (a.1 + a.2) * (0 + 0) - a.1 * 0 - a.2 * 0 = 0 by rw [show (0 : Fin Pp) + 0 = 0 from by decide, Cy, Cy, Cy]; decide)
theorem FD (a : F2) : qR (uq a) a = (0, 0) := sJ (show -a.1 + a.1 = 0 by grind) (show -a.2 + a.2 = 0 by grind)
theorem vo (a : F2) : Fl a = mul2 a (1, 1) := sJ (show a.1 - a.2 = a.1 * 1 - a.2 * 1 by grind) (show a.1 + a.2 = (a.1 + a.2) * (1 + 1) - a.1 * 1 - a.2 * 1 by grind)
abbrev G2 := F2
theorem Fo (a : F2) : uq (uq a) = a := by refine sJ ?_ ?_ <;> simp only [uq] <;> grind
def A8 : Nat -> G2
 | 0 => (0, 0)
 | n + 1 => qR (A8 n) one2
def K1 : Int -> G2
 | .ofNat n => A8 n
 | .negSucc n => uq (A8 (n + 1))
def Yd (n : Nat) (a : G2) : G2 := mul2 (A8 n) a
def Tb (n : Int) (a : G2) : G2 := mul2 (K1 n) a
def Zi (a : G2) : Nat -> G2
 | 0 => one2
 | n + 1 => mul2 (Zi a n) a
theorem Ar : uq (0, 0) = (0, 0) := by decide
theorem um : A8 1 = one2 := by decide
theorem Mv (a b : F2) : mul2 (uq a) b = uq (mul2 a b) := by refine sJ ?_ ?_ <;> simp only [uq, mul2] <;> grind
theorem GN : ∀ i : Int, K1 (-i) = uq (K1 i)
 | .ofNat 0 => Ar.symm
 | .ofNat (n + 1) => rfl
 | .negSucc n => (Fo _).symm
instance : Lean.Grind.CommRing G2 where
 add a b := qR a b
 mul a b := mul2 a b
 natCast := ⟨A8⟩
 ofNat n := ⟨A8 n⟩
 nsmul := ⟨Yd⟩
 npow := ⟨Zi⟩
 neg a := uq a
 sub a b := sI a b
 intCast := ⟨K1⟩
 zsmul := ⟨Tb⟩
 add_zero := wl
 add_comm := z9
 add_assoc := BV
 mul_assoc := sd
 mul_one := fun a => by
  show mul2 a (A8 1) = a
  rw [um]; exact s7 a
 one_mul := fun a => by
  show mul2 (A8 1) a = a
  rw [um, rB]; exact s7 a
 left_distrib := GA
 right_distrib := fun a b c => by
  show mul2 (qR a b) c = qR (mul2 a c) (mul2 b c)
  rw [rB, GA, rB c a, rB c b]
 zero_mul := fun a => by show mul2 (0, 0) a = (0, 0); rw [rB]; exact ts a
 mul_zero := ts
 pow_zero := fun a => um.symm
 pow_succ := fun _ _ => rfl
 ofNat_succ := fun n => by
  show qR (A8 n) one2 = qR (A8 n) (A8 1)
  rw [um]
 ofNat_eq_natCast := fun _ => rfl
 nsmul_eq_natCast_mul := fun _ _ => rfl
 neg_add_cancel := FD
 sub_eq_add_neg := fun a b => IZ a b
 neg_zsmul := fun i a => by
  show mul2 (K1 (-i)) a = uq (mul2 (K1 i) a)
  rw [GN, Mv]
 zsmul_natCast_eq_nsmul := fun _ _ => rfl
 intCast_ofNat := fun _ => rfl
 intCast_neg := fun i => GN i
 mul_comm := rB
theorem QS (x : Fin Pp) : pwP x 2 = x * x := by
 show (1 * x) * x = x * x
 grind
theorem HV (x : Fin Pp) (n : Nat) : pwP (x * x) n = pwP x (2 * n) := by
 have := GP.pw_mul x 2 n
 have e := QS x
 unfold pwP at *
 rw [← e]
 exact this.symm
theorem QX (n : Nat) : pwP 1 n = 1 := by
 induction n with
 | zero => rfl
 | succ n ih => rw [xW, ih]; grind
theorem AX (n : Nat) : pwP (-1) (2 * n + 1) = -1 := by
 rw [xW, ← HV, show (-1 : Fin Pp) * -1 = 1 by decide, QX]
 decide
def zt : Nat := 2001204777610833696708894912867952078278441409969503942666029068062015825245418932221343814564507832018947136279893
theorem PO {x : Fin Pp} (h : x * x = -1) : False := by
 have hx : x ≠ 0 := fun e => by
  subst e
  have : (0 : Fin Pp) = -1 := by rw [← h]; grind
  exact absurd this (by decide)
 have h1 := xm hx (2 * zt) (by decide)
 rw [← HV, h] at h1
 have h2 : zt = 2 * 1000602388805416848354447456433976039139220704984751971333014534031007912622709466110671907282253916009473568139946 + 1 := by decide
 rw [h2, AX] at h1
 exact absurd h1 (by decide)
def norm2 (a : F2) : Fin Pp := a.1 * a.1 + a.2 * a.2
def inv2 (a : F2) : F2 := (a.1 * pwP (norm2 a) 4002409555221667393417789825735904156556882819939007885332058136124031650490837864442687629129015664037894272559785, -(a.2 * pwP (norm2 a) 4002409555221667393417789825735904156556882819939007885332058136124031650490837864442687629129015664037894272559785))
theorem FW {a : F2} (h : a ≠ (0, 0)) : norm2 a ≠ 0 := fun e => by
 unfold norm2 at e
 by_cases h2 : a.2 = 0
 ·rw [h2] at e
  have : a.1 * a.1 = 0 := by rw [← e]; grind
  rcases sB this with h1 | h1 <;> exact h (Prod.ext h1 h2)
 ·have hi := ur h2
  generalize pwP a.2 4002409555221667393417789825735904156556882819939007885332058136124031650490837864442687629129015664037894272559785 = z at hi
  refine PO (x := a.1 * z) ?_
  have : ∀ x y z : Fin Pp, x * z * (x * z) = (x * x + y * y) * (z * z) - (y * z) * (y * z) := fun x y z => by grind
  rw [this a.1 a.2 z, e, hi, show (0 : Fin Pp) * (z * z) = 0 by grind]
  decide
theorem xB {a : F2} (h : a ≠ (0, 0)) : mul2 a (inv2 a) = one2 := by
 have hi := ur (FW h)
 unfold inv2
 generalize pwP (norm2 a) 4002409555221667393417789825735904156556882819939007885332058136124031650490837864442687629129015664037894272559785 = z at *
 unfold norm2 at hi
 refine sJ ?_ ?_
 ·simp only [mul2, one2]; rw [← hi]; grind
 ·simp only [mul2, one2]; grind
theorem G5 {x y : F2} (h : mul2 x y = (0, 0)) : x = (0, 0) ∨ y = (0, 0) := by
 by_cases hx : x = (0, 0)
 ·exact .inl hx
 ·right
  have h1 := xB hx
  have : y = mul2 (mul2 x (inv2 x)) y := by rw [h1, rB, s7]
  rw [this, rB x, sd, h, ts]
theorem uN (a b : F2) : norm2 (mul2 a b) = norm2 a * norm2 b := by simp only [norm2, mul2]; grind
def vX (a : F6) : F6 :=
 (sI (mul2 a.1 a.1) (Fl (mul2 a.2.1 a.2.2)), sI (Fl (mul2 a.2.2 a.2.2)) (mul2 a.1 a.2.1), sI (mul2 a.2.1 a.2.1) (mul2 a.1 a.2.2))
def norm6 (a : F6) : F2 :=
 qR (mul2 a.1 (vX a).1) (Fl (qR (mul2 a.2.2 (vX a).2.1) (mul2 a.2.1 (vX a).2.2)))
def xJ (a : F6) (n : F2) : F6 := (mul2 a.1 n, mul2 a.2.1 n, mul2 a.2.2 n)
def inv6 (a : F6) : F6 := xJ (vX a) (inv2 (norm6 a))
def zero6 : F6 := ((0, 0), (0, 0), (0, 0))
structure T3 (α : Type) where
 a : α
 b : α
 c : α
section
variable {α : Type} [Lean.Grind.CommRing α]
def vE (x : α) (p q : T3 α) : T3 α := ⟨p.a * q.a + x * (p.b * q.c + p.c * q.b), p.a * q.b + p.b * q.a + x * (p.c * q.c), p.a * q.c + p.c * q.a + p.b * q.b⟩
def GC (x : α) (p : T3 α) : T3 α := ⟨p.a * p.a - x * (p.b * p.c), x * (p.c * p.c) - p.a * p.b, p.b * p.b - p.a * p.c⟩
def xX (x : α) (p : T3 α) : α := p.a * p.a * p.a + x * (p.b * p.b * p.b) + x * x * (p.c * p.c * p.c) - 3 * x * (p.a * p.b * p.c)
theorem HH (x : α) (p q : T3 α) : xX x (vE x p q) = xX x p * xX x q := by
 simp only [xX, vE]; grind
end
def xi : G2 := (1, 1)
def t6 (a : F6) : T3 G2 := ⟨a.1, a.2.1, a.2.2⟩
theorem vm {a b : F6} (h : t6 a = t6 b) : a = b := by
 simp only [t6, T3.mk.injEq] at h
 exact vv h.1 h.2.1 h.2.2
theorem sw (a b : F6) : t6 (mul6 a b) = vE xi (t6 a) (t6 b) := by
 obtain ⟨A, B, C⟩ := a
 obtain ⟨D, E, F⟩ := b
 have e1 : (mul6 (A, B, C) (D, E, F)).1 = ((A : G2) * (D : G2) + (((B : G2) + (C : G2)) * ((E : G2) + (F : G2)) - (B : G2) * (E : G2) - (C : G2) * (F : G2)) * xi : G2) := by
  simp only [mul6, vo]; rfl
 have e2 : (mul6 (A, B, C) (D, E, F)).2.1 = ((((A : G2) + (B : G2)) * ((D : G2) + (E : G2)) - (A : G2) * (D : G2) - (B : G2) * (E : G2)) + (C : G2) * (F : G2) * xi : G2) := by
  simp only [mul6, vo]; rfl
 have e3 : (mul6 (A, B, C) (D, E, F)).2.2 = ((((A : G2) + (C : G2)) * ((D : G2) + (F : G2)) - (A : G2) * (D : G2) - (C : G2) * (F : G2)) + (B : G2) * (E : G2) : G2) := by
  simp only [mul6]; rfl
 simp only [t6, vE, T3.mk.injEq]
 rw [e1, e2, e3]
 generalize (A : G2) = A
 refine ⟨?_, ?_, ?_⟩ <;> grind
theorem Fi (a : F6) : t6 (vX a) = GC xi (t6 a) := by
 obtain ⟨A, B, C⟩ := a
 have e1 : (vX (A, B, C)).1 = ((A : G2) * (A : G2) - (B : G2) * (C : G2) * xi : G2) := by simp only [vX, vo]; rfl
 have e2 : (vX (A, B, C)).2.1 = ((C : G2) * (C : G2) * xi - (A : G2) * (B : G2) : G2) := by simp only [vX, vo]; rfl
 have e3 : (vX (A, B, C)).2.2 = ((B : G2) * (B : G2) - (A : G2) * (C : G2) : G2) := by simp only [vX]; rfl
 simp only [t6, GC, T3.mk.injEq]
 rw [e1, e2, e3]
 refine ⟨?_, ?_, ?_⟩ <;> grind
theorem zp (a : F6) : (norm6 a : G2) = xX xi (t6 a) := by
 have h := Fi a
 simp only [t6, GC, T3.mk.injEq] at h
 have e1 : norm6 a = ((a.1 : G2) * ((vX a).1 : G2) + ((a.2.2 : G2) * ((vX a).2.1 : G2) + (a.2.1 : G2) * ((vX a).2.2 : G2)) * xi : G2) := by simp only [norm6, vo]; rfl
 rw [e1, h.1, h.2.1, h.2.2]
 simp only [xX, t6]
 grind
theorem Ae (a b : F6) : norm6 (mul6 a b) = mul2 (norm6 a) (norm6 b) := by
 have h : (norm6 (mul6 a b) : G2) = (norm6 a : G2) * (norm6 b : G2) := by
  rw [zp, zp, zp, sw, HH]
 exact h
theorem NX (a : F6) : mul6 a (vX a) = (norm6 a, (0, 0), (0, 0)) := by
 apply vm
 rw [sw, Fi]
 have h := zp a
 have h0 : ((0, 0) : F2) = (0 : G2) := rfl
 simp only [t6, vE, GC, xX, T3.mk.injEq] at h ⊢
 rw [h, h0]
 refine ⟨?_, ?_, ?_⟩ <;> grind
theorem NW (a : F6) : vX (vX a) = xJ a (norm6 a) := by
 apply vm
 rw [Fi, Fi]
 have h := zp a
 have e : t6 (xJ a (norm6 a)) = ⟨(a.1 : G2) * (norm6 a : G2), (a.2.1 : G2) * (norm6 a : G2), (a.2.2 : G2) * (norm6 a : G2)⟩ := rfl
 rw [e, h]
 simp only [t6, GC, xX, T3.mk.injEq]
 refine ⟨?_, ?_, ?_⟩ <;> grind
theorem Rj : ((2 : Fin Pp)).val = 2 := by decide
theorem Cf (m : Nat) (hm : m < 2 ^ 400) (h : HK 400 2 m Pp ≠ 1) : pwP 2 m ≠ 1 := fun e => by
 have h4 := Fc 2 m
 rw [e, Rj, ← Bc 400 2 m Pp hm, show ((1 : Fin Pp)).val = 1 from by decide] at h4
 exact h h4.symm
theorem En {n : Fin Pp} (h : n * n * n = 2) : False := by
 have hn : n ≠ 0 := fun e => by
  subst e
  have : (0 : Fin Pp) = 2 := by rw [← h]; grind
  exact absurd this (by decide)
 have h1 := xm hn (3 * 1334136518407222464472596608578634718852294273313002628444019378708010550163612621480895876376338554679298090853262) (by decide)
 have h2 : pwP n (3 * 1334136518407222464472596608578634718852294273313002628444019378708010550163612621480895876376338554679298090853262) = pwP (pwP n 3) 1334136518407222464472596608578634718852294273313002628444019378708010550163612621480895876376338554679298090853262 := GP.pw_mul n 3 _
 have h3 : pwP n 3 = 2 := by
  rw [← h]
  show ((1 * n) * n) * n = n * n * n
  grind
 rw [h2, h3] at h1
 exact Cf _ (by decide +kernel) (by decide +kernel) h1
theorem KN {n : Fin Pp} (h : n * n = 2) : False := by
 have hn : n ≠ 0 := fun e => by
  subst e
  have : (0 : Fin Pp) = 2 := by rw [← h]; grind
  exact absurd this (by decide)
 have h1 := xm hn (2 * zt) (by decide)
 rw [← HV, h] at h1
 exact Cf zt (by decide +kernel) (by decide +kernel) h1
theorem DY {c : F6} (h : vX c = zero6) : c = zero6 := by
 obtain ⟨A, B, C⟩ := c
 have h1 : ((A : G2) * (A : G2) - (B : G2) * (C : G2) * xi : G2) = 0 := by
  have := congrArg (fun z : F6 => z.1) h
  simp only [vX, vo, zero6] at this
  exact this
 have h2 : ((C : G2) * (C : G2) * xi - (A : G2) * (B : G2) : G2) = 0 := by
  have := congrArg (fun z : F6 => z.2.1) h
  simp only [vX, vo, zero6] at this
  exact this
 have h3 : ((B : G2) * (B : G2) - (A : G2) * (C : G2) : G2) = 0 := by
  have := congrArg (fun z : F6 => z.2.2) h
  simp only [vX, zero6] at this
  exact this
 have sq0 : ∀ x : F2, ((x : G2) * (x : G2) : G2) = 0 -> x = (0, 0) := fun x hx => by
  rcases G5 (x := x) (y := x) hx with h | h <;> exact h
 by_cases hC : C = (0, 0)
 ·have hC' : (C : G2) = 0 := hC
  have hB : B = (0, 0) := sq0 B (by rw [hC'] at h3; rw [← h3]; grind)
  have hB' : (B : G2) = 0 := hB
  have hA : A = (0, 0) := sq0 A (by rw [hB'] at h1; rw [← h1]; grind)
  rw [hA, hB, hC]; rfl
 ·exfalso
  have hi : ((C : G2) * (inv2 C : G2) : G2) = 1 := by
   have := xB hC
   have e : (1 : G2) = one2 := um
   rw [e]; exact this
  generalize hz : (inv2 C : G2) = z at hi
  have hA : (A : G2) = (B : G2) * (B : G2) * z := by
   have : (A : G2) = (A : G2) * ((C : G2) * z) := by rw [hi]; grind
   rw [this]
   have e3 : (A : G2) * (C : G2) = (B : G2) * (B : G2) := by grind
   grind
  have hw : xi = ((B : G2) * z) * ((B : G2) * z) * ((B : G2) * z) := by
   have e2 : (C : G2) * (C : G2) * xi = (A : G2) * (B : G2) := by grind
   rw [hA] at e2
   have : xi = ((C : G2) * (C : G2) * xi) * (z * z) := by
    have : xi = xi * ((C : G2) * z) * ((C : G2) * z) := by rw [hi]; grind
    grind
   rw [this, e2]
   grind
  have hn := congrArg (fun x : F2 => norm2 x) (show (xi : F2) = mul2 (mul2 (mul2 B z) (mul2 B z)) (mul2 B z) from hw)
  simp only [uN] at hn
  have e : norm2 xi = 2 := by decide
  rw [e] at hn
  exact En hn.symm
theorem GB {a : F6} (h : a ≠ zero6) : norm6 a ≠ (0, 0) := fun e => by
 have h1 := NW a
 rw [e] at h1
 have h2 : xJ a (0, 0) = zero6 := by
  refine vv ?_ ?_ ?_ <;> simp only [xJ, zero6, ts]
 rw [h2] at h1
 exact h (DY (DY h1))
theorem Ih (a b : F6) (n : F2) : mul6 a (xJ b n) = xJ (mul6 a b) n := by
 apply vm
 have e : ∀ c : F6, t6 (xJ c n) = ⟨(t6 c).a * (n : G2), (t6 c).b * (n : G2), (t6 c).c * (n : G2)⟩ := fun c => rfl
 rw [sw, e, e, sw]
 simp only [vE, T3.mk.injEq]
 refine ⟨?_, ?_, ?_⟩ <;> grind
theorem GJ {a : F6} (h : a ≠ zero6) : mul6 a (inv6 a) = B5 := by
 unfold inv6
 rw [Ih, NX]
 have h1 := xB (GB h)
 refine vv ?_ ?_ ?_
 ·exact h1
 ·show mul2 (0, 0) _ = _; rw [rB, ts]; rfl
 ·show mul2 (0, 0) _ = _; rw [rB, ts]; rfl
theorem tq (a b : F6) : mul6 a b = mul6 b a := by
 apply vm; rw [sw, sw]; simp only [vE, T3.mk.injEq]; refine ⟨?_, ?_, ?_⟩ <;> grind
theorem Cb (a b c : F6) : mul6 (mul6 a b) c = mul6 a (mul6 b c) := by
 apply vm; rw [sw, sw, sw, sw]; simp only [vE, T3.mk.injEq]; refine ⟨?_, ?_, ?_⟩ <;> grind
theorem Lp (a b : F6) : t6 (sR a b) = ⟨(t6 a).a + (t6 b).a, (t6 a).b + (t6 b).b, (t6 a).c + (t6 b).c⟩ := rfl
theorem FL (a b c : F6) : mul6 a (sR b c) = sR (mul6 a b) (mul6 a c) := by
 apply vm; rw [sw, Lp, Lp, sw, sw]; simp only [vE, T3.mk.injEq]; refine ⟨?_, ?_, ?_⟩ <;> grind
theorem CD (a : F6) : mul6 a B5 = a := by
 have e : (one2 : F2) = (1 : G2) := um.symm
 have h : t6 B5 = ⟨(1 : G2), 0, 0⟩ := by
  show (⟨one2, (0, 0), (0, 0)⟩ : T3 G2) = _
  rw [e]; rfl
 apply vm; rw [sw, h]; simp only [vE, t6, T3.mk.injEq]; refine ⟨?_, ?_, ?_⟩ <;> grind
theorem yu (a b : F6) : sR a b = sR b a := by refine vv ?_ ?_ ?_ <;> simp only [sR] <;> exact z9 _ _
theorem zd (a b c : F6) : sR (sR a b) c = sR a (sR b c) := by refine vv ?_ ?_ ?_ <;> simp only [sR] <;> exact BV _ _ _
theorem wb (a : F6) : sR a zero6 = a := by refine vv ?_ ?_ ?_ <;> simp only [sR, zero6] <;> exact wl _
theorem ym (a : F6) : mul6 a zero6 = zero6 := by
 have h : t6 zero6 = ⟨(0 : G2), 0, 0⟩ := rfl
 apply vm; rw [sw, h]; simp only [vE, T3.mk.injEq]; refine ⟨?_, ?_, ?_⟩ <;> grind
theorem CI (a : F6) : sR (tW a) a = zero6 := by refine vv ?_ ?_ ?_ <;> simp only [sR, tW, zero6] <;> exact FD _
theorem PW (a b : F6) : H2 a b = sR a (tW b) := by refine vv ?_ ?_ ?_ <;> simp only [sR, tW, H2] <;> exact IZ _ _
theorem zk (a : F6) : tW (tW a) = a := by refine vv ?_ ?_ ?_ <;> simp only [tW] <;> exact Fo _
theorem yJ : tW zero6 = zero6 := by refine vv ?_ ?_ ?_ <;> simp only [tW, zero6] <;> exact Ar
theorem LU (a b : F6) : mul6 (tW a) b = tW (mul6 a b) := by
 have e : ∀ c : F6, t6 (tW c) = ⟨-(t6 c).a, -(t6 c).b, -(t6 c).c⟩ := fun c => rfl
 apply vm; rw [sw, e, e, sw]; simp only [vE, T3.mk.injEq]; refine ⟨?_, ?_, ?_⟩ <;> grind
abbrev G6 := F6
def A3 : Nat -> G6
 | 0 => zero6
 | n + 1 => sR (A3 n) B5
def KU : Int -> G6
 | .ofNat n => A3 n
 | .negSucc n => tW (A3 (n + 1))
def Yg (n : Nat) (a : G6) : G6 := mul6 (A3 n) a
def Vj (n : Int) (a : G6) : G6 := mul6 (KU n) a
def WO (a : G6) : Nat -> G6
 | 0 => B5
 | n + 1 => mul6 (WO a n) a
theorem He : ∀ i : Int, KU (-i) = tW (KU i)
 | .ofNat 0 => yJ.symm
 | .ofNat (n + 1) => rfl
 | .negSucc n => (zk _).symm
theorem uU : A3 1 = B5 := by
 show sR zero6 B5 = B5
 rw [yu, wb]
instance : Lean.Grind.CommRing G6 where
 add a b := sR a b
 mul a b := mul6 a b
 natCast := ⟨A3⟩
 ofNat n := ⟨A3 n⟩
 nsmul := ⟨Yg⟩
 npow := ⟨WO⟩
 neg a := tW a
 sub a b := H2 a b
 intCast := ⟨KU⟩
 zsmul := ⟨Vj⟩
 add_zero := wb
 add_comm := yu
 add_assoc := zd
 mul_assoc := Cb
 mul_one := fun a => by show mul6 a (A3 1) = a; rw [uU]; exact CD a
 one_mul := fun a => by show mul6 (A3 1) a = a; rw [uU, tq]; exact CD a
 left_distrib := FL
 right_distrib := fun a b c => by show mul6 (sR a b) c = sR (mul6 a c) (mul6 b c); rw [tq, FL, tq c a, tq c b]
 zero_mul := fun a => by show mul6 zero6 a = zero6; rw [tq]; exact ym a
 mul_zero := ym
 pow_zero := fun a => uU.symm
 pow_succ := fun _ _ => rfl
 ofNat_succ := fun n => by show sR (A3 n) B5 = sR (A3 n) (A3 1); rw [uU]
 ofNat_eq_natCast := fun _ => rfl
 nsmul_eq_natCast_mul := fun _ _ => rfl
 neg_add_cancel := CI
 sub_eq_add_neg := fun a b => PW a b
 neg_zsmul := fun i a => by show mul6 (KU (-i)) a = tW (mul6 (KU i) a); rw [He, LU]
 zsmul_natCast_eq_nsmul := fun _ _ => rfl
 intCast_ofNat := fun _ => rfl
 intCast_neg := fun i => He i
 mul_comm := tq
def v6 : F6 := ((0, 0), (1, 0), (0, 0))
theorem Eo (a : F6) : shf6 a = mul6 a v6 := by
 have h := We a
 rw [show of6 vN = v6 from by decide] at h
 exact h
def vG : G6 := v6
theorem ext12 {a b : F12} (h1 : a.1 = b.1) (h2 : a.2 = b.2) : a = b := Prod.ext h1 h2
theorem tK (a b : F12) : (mul12 a b).1 = ((a.1 : G6) * (b.1 : G6) + (a.2 : G6) * (b.2 : G6) * vG : G6) := by simp only [mul12, Eo]; rfl
theorem tC (a b : F12) : (mul12 a b).2 = ((a.1 : G6) * (b.2 : G6) + (a.2 : G6) * (b.1 : G6) : G6) := by
 have : (mul12 a b).2 = (((a.1 : G6) + (a.2 : G6)) * ((b.1 : G6) + (b.2 : G6)) - (a.1 : G6) * (b.1 : G6) - (a.2 : G6) * (b.2 : G6) : G6) := rfl
 rw [this]
 generalize (a.1 : G6) = A
 grind
theorem r9 (a b : F12) : mul12 a b = mul12 b a := by
 refine ext12 ?_ ?_
 ·simp only [tK]; grind
 ·simp only [tC]; grind
theorem qJ (a b c : F12) : mul12 (mul12 a b) c = mul12 a (mul12 b c) := by
 refine ext12 ?_ ?_
 ·simp only [tK, tC]; grind
 ·simp only [tK, tC]; grind
theorem Jh (a b : F12) : (q8 a b).1 = ((a.1 : G6) + (b.1 : G6) : G6) := rfl
theorem Jm (a b : F12) : (q8 a b).2 = ((a.2 : G6) + (b.2 : G6) : G6) := rfl
theorem Dh (a b c : F12) : mul12 a (q8 b c) = q8 (mul12 a b) (mul12 a c) := by
 refine ext12 ?_ ?_
 ·simp only [tK, Jh, Jm]; grind
 ·simp only [tC, Jh, Jm]; grind
theorem CR (a b : F12) : q8 a b = q8 b a := ext12 (yu _ _) (yu _ _)
theorem F8 (a b c : F12) : q8 (q8 a b) c = q8 a (q8 b c) := ext12 (zd _ _ _) (zd _ _ _)
def tv : F12 := (zero6, zero6)
theorem CW (a : F12) : q8 a tv = a := ext12 (wb _) (wb _)
theorem tZ (a : F12) : mul12 a one12 = a := by
 have e1 : (one12.1 : G6) = 1 := uU.symm
 have e2 : (one12.2 : G6) = 0 := rfl
 refine ext12 ?_ ?_
 ·rw [tK, e1, e2]; grind
 ·rw [tC, e1, e2]; grind
def norm12 (a : F12) : F6 := H2 (mul6 a.1 a.1) (shf6 (mul6 a.2 a.2))
def inv12 (a : F12) : F12 := (mul6 a.1 (inv6 (norm12 a)), tW (mul6 a.2 (inv6 (norm12 a))))
theorem Ny {x y : F6} (h : mul6 x y = zero6) : x = zero6 ∨ y = zero6 := by
 by_cases hx : x = zero6
 ·exact .inl hx
 ·right
  have h1 := GJ hx
  have : y = mul6 (mul6 x (inv6 x)) y := by rw [h1, tq, CD]
  rw [this, tq x, Cb, h, ym]
theorem KB {a : F12} (h : a ≠ tv) : norm12 a ≠ zero6 := fun e => by
 have e1 : mul6 a.1 a.1 = shf6 (mul6 a.2 a.2) := by
  have h1 : ((a.1 : G6) * (a.1 : G6) - shf6 (mul6 a.2 a.2) : G6) = 0 := e
  have h2 : ((a.1 : G6) * (a.1 : G6) : G6) = shf6 (mul6 a.2 a.2) := by
   generalize (shf6 (mul6 a.2 a.2) : G6) = q at *
   grind
  exact h2
 by_cases hB : a.2 = zero6
 ·rw [hB, ym, show shf6 zero6 = zero6 from by decide] at e1
  rcases Ny e1 with hA | hA <;> exact h (ext12 hA hB)
 ·have h1 := congrArg norm6 e1
  rw [Eo, Ae, Ae, Ae] at h1
  have h2 := congrArg norm2 h1
  rw [uN, uN, uN, show norm2 (norm6 v6) = 2 from by decide] at h2
  have h3 := FW (GB hB)
  have hi := ur h3
  generalize pwP (norm2 (norm6 a.2)) 4002409555221667393417789825735904156556882819939007885332058136124031650490837864442687629129015664037894272559785 = z at hi
  generalize norm2 (norm6 a.1) = x at *
  generalize norm2 (norm6 a.2) = y at *
  refine KN (n := x * z) ?_
  have : x * z * (x * z) = (x * x) * (z * z) := by grind
  rw [this, h2]
  have : y * y * 2 * (z * z) = 2 * ((y * z) * (y * z)) := by grind
  rw [this, hi]
  grind
theorem K9 {a : F12} (h : a ≠ tv) : mul12 a (inv12 a) = one12 := by
 have h1 : ((norm12 a : G6) * (inv6 (norm12 a) : G6) : G6) = 1 := (GJ (KB h)).trans uU.symm
 have hn : (norm12 a : G6) = (a.1 : G6) * (a.1 : G6) - (a.2 : G6) * (a.2 : G6) * vG := by
  show norm12 a = _
  simp only [norm12, Eo]; rfl
 have ei1 : ((inv12 a).1 : G6) = (a.1 : G6) * (inv6 (norm12 a) : G6) := rfl
 have ei2 : ((inv12 a).2 : G6) = -((a.2 : G6) * (inv6 (norm12 a) : G6)) := rfl
 generalize (inv6 (norm12 a) : G6) = z at *
 rw [hn] at h1
 have e1 : (one12.1 : G6) = 1 := uU.symm
 have e2 : (one12.2 : G6) = 0 := rfl
 refine ext12 ?_ ?_
 ·rw [tK, ei1, ei2, e1, ← h1]; grind
 ·rw [tC, ei1, ei2, e2]; grind
end Go.Ev
set_option linter.unusedSimpArgs false
set_option linter.unusedVariables false
namespace Go.Ev
def hiP (x : Fin Pp) : Prop := (-x).val < x.val
instance (x : Fin Pp) : Decidable (hiP x) := inferInstanceAs (Decidable ((-x).val < x.val))
def XT (x : Fin Pp) : Fin Pp := if hiP x then -x else x
def Ym : Nat := 1000602388805416848354447456433976039139220704984751971333014534031007912622709466110671907282253916009473568139947
def rtP (x : Fin Pp) : Fin Pp := pwP x Ym
def sqP (x : Fin Pp) : Prop := rtP x * rtP x = x
instance (x : Fin Pp) : Decidable (sqP x) := inferInstanceAs (Decidable (rtP x * rtP x = x))
theorem Rx {x y : Fin Pp} (h : toM x = toM y) : x = y := by
 have e : ∀ z : Fin Pp, toM z = (z * ⟨39402006196394479212279040100143613805079739270465446667948293404245721771497210611414266254884915640806627990306816 % Pp, Nat.mod_lt _ (by decide)⟩).val := fun z => by
  unfold toM
  rw [Fin.val_mul]
  show _ = z.val * (39402006196394479212279040100143613805079739270465446667948293404245721771497210611414266254884915640806627990306816 % Pp) % Pp
  rw [Nat.mul_mod, Nat.mul_mod z.val (_ % Pp), Nat.mod_mod]
 rw [e, e] at h
 have h1 := Fin.ext h
 have h0 : (⟨39402006196394479212279040100143613805079739270465446667948293404245721771497210611414266254884915640806627990306816 % Pp, Nat.mod_lt _ (by decide)⟩ : Fin Pp) ≠ 0 := by decide
 generalize (⟨39402006196394479212279040100143613805079739270465446667948293404245721771497210611414266254884915640806627990306816 % Pp, Nat.mod_lt _ (by decide)⟩ : Fin Pp) = c at *
 have hi := ur h0
 generalize pwP c _ = d at hi
 have hx : x = (x * c) * d := by
  have : (x * c) * d = x * (c * d) := by grind
  rw [this, hi]; grind
 have hy : y = (y * c) * d := by
  have : (y * c) * d = y * (c * d) := by grind
  rw [this, hi]; grind
 rw [hx, hy, h1]
theorem yS {x y : Fin Pp} (h : flat [.m x] = flat [.m y]) : x = y := by
 have h' : limbs 6 (toM x) ++ [] = limbs 6 (toM y) ++ [] := h
 rw [List.append_nil, List.append_nil] at h'
 exact Rx (yB 6 _ _ (Nat.lt_trans (Nat.mod_lt _ (by decide)) (show Pp < _ by decide)) (Nat.lt_trans (Nat.mod_lt _ (by decide)) (show Pp < _ by decide)) h')
end Go.Ev
set_option linter.unusedSimpArgs false
set_option linter.unusedVariables false
namespace Go.Ev
section
variable {m R Ri : Nat}
theorem zj {v A : Nat} (hR : R * Ri % m = 1 % m) (hv : v < m) (h : v * R % m = A % m) : v = A * Ri % m := by
 have e : v % m = (v * R) * Ri % m := by rw [Nat.mul_assoc, Nat.mul_mod, hR, ← Nat.mul_mod, Nat.mul_one]
 rw [Nat.mod_eq_of_lt hv] at e
 rw [e, Nat.mul_mod, h, ← Nat.mul_mod]
theorem ZL (a b c : Nat) : (a % m * (b % m) * c) % m = (a * b * c) % m := by
 rw [Nat.mul_mod (a % m * (b % m)) c, ← Nat.mul_mod a b, ← Nat.mul_mod]
theorem Qm (a b : Nat) : (a % m * b) % m = (a * b) % m := by
 rw [Nat.mul_mod, Nat.mod_mod, ← Nat.mul_mod]
theorem TC (hR : R * Ri % m = 1 % m) (a : Nat) : (a * (R * Ri)) % m = a % m := by
 rw [Nat.mul_mod, hR, ← Nat.mul_mod, Nat.mul_one]
theorem Ov {x y v : Nat} (hR : R * Ri % m = 1 % m) (hv : v < m) (h : v * R % m = (x * R % m) * (y * R % m) % m) : v = (x * y % m) * R % m := by
 rw [zj hR hv h, ZL, Qm]
 have : x * R * (y * R) * Ri = (x * y * R) * (R * Ri) := by ac_rfl
 rw [this, TC hR]
theorem Ju {a v : Nat} (hR : R * Ri % m = 1 % m) (hv : v < m) (h : v * R % m = (a * (R * R % m)) % m) : v = (a % m) * R % m := by
 rw [zj hR hv h, Qm]
 have : (a * (R * R % m) * Ri) % m = (a * R * (R * Ri)) % m := by
  rw [Nat.mul_mod (a * (R * R % m)) Ri, Nat.mul_mod a (R * R % m), Nat.mod_mod, ← Nat.mul_mod a (R * R), ← Nat.mul_mod]
  congr 1
  ac_rfl
 rw [this, TC hR]
theorem FU {x v : Nat} (hR : R * Ri % m = 1 % m) (hx : x < m) (hv : v < m) (h : v * R % m = (x * R % m) * 1 % m) : v = x := by
 rw [Nat.mul_one, Nat.mod_mod] at h
 rw [zj hR hv h, Nat.mul_assoc, TC hR, Nat.mod_eq_of_lt hx]
theorem Gz (x y : Nat) : (x * R % m + y * R % m) % m = ((x + y) % m) * R % m := by
 rw [← Nat.add_mod, ← Nat.add_mul, Qm]
theorem M1 (hm : 0 < m) {x y : Nat} (hy : y < m) : (x * R % m + (m - y * R % m)) % m = ((m - y + x) % m) * R % m := by
 rw [Qm]
 have h1 : (m - y) * R % m = (m - y * R % m) % m := by
  have e1 : (m - y) * R + y * R = m * R := by rw [← Nat.add_mul, Nat.sub_add_cancel (Nat.le_of_lt hy)]
  have e2 : (m - y * R % m) + y * R % m = m := Nat.sub_add_cancel (Nat.le_of_lt (Nat.mod_lt _ hm))
  have e3 : m * (y * R / m) + y * R % m = y * R := Nat.div_add_mod _ _
  have e4 : (m - y) * R + m * (y * R / m + 1) = (m - y * R % m) + m * R := by
   rw [Nat.mul_add, Nat.mul_one]
   generalize (m - y) * R = A at *
   generalize m * (y * R / m) = K at *
   generalize y * R % m = q at *
   omega
  have e5 := congrArg (· % m) e4
  simpa [Nat.add_mul_mod_self_left] using e5
 rw [Nat.add_mul, Nat.add_comm ((m - y) * R), Nat.add_mod, Nat.add_mod (x * R), h1]
 simp [Nat.mod_mod]
end
end Go.Ev
set_option linter.unusedSimpArgs false
set_option linter.unusedVariables false
namespace Go.Ev
def hi2 (a : F2) : Prop := if a.2 = 0 then hiP a.1 else hiP a.2
instance (a : F2) : Decidable (hi2 a) := inferInstanceAs (Decidable (if a.2 = 0 then hiP a.1 else hiP a.2))
theorem GO : pwP (-1) zt = -1 := by
 have h2 : ∀ m n : Nat, m = 2 * n + 1 -> pwP (-1) m = -1 := fun m n e => by rw [e]; exact AX n
 exact h2 zt 1000602388805416848354447456433976039139220704984751971333014534031007912622709466110671907282253916009473568139946 (by decide)
end Go.Ev
