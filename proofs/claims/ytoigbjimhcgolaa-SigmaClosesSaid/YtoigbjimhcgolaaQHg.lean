/- Pruned: Hg. -/
import Derived.Test.YtoigbjimhcgolaaQE2
import Derived.Test.YtoigbjimhcgolaaProg
import Derived.Laws.Externs
import Derived.Lib.Mul64
/- Arithmetic of limbs: sums, differences and products of 64 bits; rounds of Montgomery's product. Nothing here names a program. -/
set_option linter.unusedSimpArgs false
set_option linter.unusedVariables false
namespace Go.Ev

/-- The sum s and the carry k of x, y and c. -/
def AddOK (x y c s k : Nat) : Prop := c % 18446744073709551616 ≤ 1 ∧ s + 18446744073709551616 * k = x % 18446744073709551616 + y % 18446744073709551616 + c % 18446744073709551616 ∧ s < 18446744073709551616 ∧ k ≤ 1
/-- The difference d and the borrow k. -/
def SubOK (x y c d k : Nat) : Prop := c % 18446744073709551616 ≤ 1 ∧ d + y % 18446744073709551616 + c % 18446744073709551616 = x % 18446744073709551616 + 18446744073709551616 * k ∧ d < 18446744073709551616 ∧ k ≤ 1
/-- The product, in two. -/
def MulOK (x y h l : Nat) : Prop := 18446744073709551616 * h + l = x % 18446744073709551616 * (y % 18446744073709551616) ∧ l < 18446744073709551616 ∧ h < 18446744073709551615 ∧ x % 18446744073709551616 * (y % 18446744073709551616) ≤ 340282366920938463426481119284349108225

theorem add_ex (x y c : Nat) (hc : c ≤ 1) : ∃ s k, AddOK x y c s k :=
  ⟨(x % 18446744073709551616 + y % 18446744073709551616 + c) % 18446744073709551616, (x % 18446744073709551616 + y % 18446744073709551616 + c) / 18446744073709551616, by
    unfold AddOK; omega⟩
theorem sub_ex (x y c : Nat) (hc : c ≤ 1) : ∃ s k, SubOK x y c s k := by
  by_cases h : x % 18446744073709551616 < y % 18446744073709551616 + c
  · exact ⟨x % 18446744073709551616 + 18446744073709551616 - y % 18446744073709551616 - c, 1, by unfold SubOK; omega⟩
  · exact ⟨x % 18446744073709551616 - y % 18446744073709551616 - c, 0, by unfold SubOK; omega⟩
theorem mul_le (a b : Nat) (ha : a < 18446744073709551616) (hb : b < 18446744073709551616) : a * b ≤ 340282366920938463426481119284349108225 :=
  Nat.le_trans (Nat.mul_le_mul (show a ≤ 18446744073709551615 by omega) (show b ≤ 18446744073709551615 by omega)) (Nat.le_refl _)
theorem mul_ex (x y : Nat) : ∃ h l, MulOK x y h l := by
  have := mul_le (x % 18446744073709551616) (y % 18446744073709551616) (by omega) (by omega)
  refine ⟨(x % 18446744073709551616 * (y % 18446744073709551616)) / 18446744073709551616, (x % 18446744073709551616 * (y % 18446744073709551616)) % 18446744073709551616, ?_⟩
  unfold MulOK
  generalize x % 18446744073709551616 * (y % 18446744073709551616) = z at *
  omega

/-- A column: a product, two sums. -/
theorem col {x b h l t l1 c1 u l2 c2 : Nat} (hm : MulOK x b h l) (h1 : AddOK l t 0 l1 c1) (h2 : AddOK l1 u 0 l2 c2) (hu : u < 18446744073709551616) :
    18446744073709551616 * (h + c1 + c2) + l2 = x % 18446744073709551616 * (b % 18446744073709551616) + t % 18446744073709551616 + u ∧ l2 < 18446744073709551616 ∧ h + c1 + c2 < 18446744073709551616 := by
  unfold MulOK at hm
  unfold AddOK at h1 h2
  simp only [Nat.zero_mod, Nat.add_zero] at h1 h2
  generalize x % 18446744073709551616 * (b % 18446744073709551616) = z at *
  omega
theorem col0 {x b h l t l1 c1 : Nat} (hm : MulOK x b h l) (h1 : AddOK l t 0 l1 c1) :
    18446744073709551616 * (h + c1) + l1 = x % 18446744073709551616 * (b % 18446744073709551616) + t % 18446744073709551616 ∧ l1 < 18446744073709551616 ∧ h + c1 < 18446744073709551616 := by
  unfold MulOK at hm
  unfold AddOK at h1
  simp only [Nat.zero_mod, Nat.add_zero] at h1
  generalize x % 18446744073709551616 * (b % 18446744073709551616) = z at *
  omega
theorem red0S {l h lo z c : Nat} (hm : MulOK (l * 18446744069414584319) 18446744069414584321 h lo) (h1 : AddOK lo l 0 z c) (hl : l < 18446744073709551616) :
    18446744073709551616 * (h + c) = 18446744069414584321 * (l * 18446744069414584319 % 18446744073709551616) + l ∧ h + c < 18446744073709551616 := by
  unfold MulOK at hm
  unfold AddOK at h1
  simp only [Nat.zero_mod, Nat.add_zero] at h1
  simp only [Nat.reduceMod] at hm
  rw [Nat.mul_comm _ 18446744069414584321, Nat.mul_comm l 18446744069414584319] at hm
  rw [Nat.mul_comm l 18446744069414584319]
  omega
theorem split4 (x : Nat) (h : x < 115792089237316195423570985008687907853269984665640564039457584007913129639936) : ∃ a0 a1 a2 a3, (x / 1) % 18446744073709551616 = a0 ∧ (x / 18446744073709551616) % 18446744073709551616 = a1 ∧ (x / 340282366920938463463374607431768211456) % 18446744073709551616 = a2 ∧ (x / 6277101735386680763835789423207666416102355444464034512896) % 18446744073709551616 = a3 ∧ a0 < 18446744073709551616 ∧ a1 < 18446744073709551616 ∧ a2 < 18446744073709551616 ∧ a3 < 18446744073709551616 ∧ x = a0 + 18446744073709551616 * (a1 + 18446744073709551616 * (a2 + 18446744073709551616 * (a3 + 18446744073709551616 * (0)))) := by
  refine ⟨_, _, _, _, rfl, rfl, rfl, rfl, Nat.mod_lt _ (by decide), Nat.mod_lt _ (by decide), Nat.mod_lt _ (by decide), Nat.mod_lt _ (by decide), ?_⟩
  have e1 : x / 340282366920938463463374607431768211456 = x / 18446744073709551616 / 18446744073709551616 := by rw [Nat.div_div_eq_div_mul]
  have e2 : x / 6277101735386680763835789423207666416102355444464034512896 = x / 340282366920938463463374607431768211456 / 18446744073709551616 := by rw [Nat.div_div_eq_div_mul]
  have e0 : x / 1 = x := Nat.div_one x
  have e1_ : x / 18446744073709551616 = x / 1 / 18446744073709551616 := by rw [Nat.div_div_eq_div_mul]
  omega
theorem subs4 {x0 y0 d0 k0 x1 y1 d1 k1 x2 y2 d2 k2 x3 y3 d3 k3 : Nat} (q0 : SubOK x0 y0 0 d0 k0) (q1 : SubOK x1 y1 k0 d1 k1) (q2 : SubOK x2 y2 k1 d2 k2) (q3 : SubOK x3 y3 k2 d3 k3) :
    d0 + 18446744073709551616 * (d1 + 18446744073709551616 * (d2 + 18446744073709551616 * (d3 + 18446744073709551616 * (0)))) + (y0 % 18446744073709551616 + 18446744073709551616 * (y1 % 18446744073709551616 + 18446744073709551616 * (y2 % 18446744073709551616 + 18446744073709551616 * (y3 % 18446744073709551616 + 18446744073709551616 * (0))))) = x0 % 18446744073709551616 + 18446744073709551616 * (x1 % 18446744073709551616 + 18446744073709551616 * (x2 % 18446744073709551616 + 18446744073709551616 * (x3 % 18446744073709551616 + 18446744073709551616 * (0)))) + 115792089237316195423570985008687907853269984665640564039457584007913129639936 * k3 ∧ d0 % 18446744073709551616 + 18446744073709551616 * (d1 % 18446744073709551616 + 18446744073709551616 * (d2 % 18446744073709551616 + 18446744073709551616 * (d3 % 18446744073709551616 + 18446744073709551616 * (0)))) = d0 + 18446744073709551616 * (d1 + 18446744073709551616 * (d2 + 18446744073709551616 * (d3 + 18446744073709551616 * (0)))) ∧ k3 ≤ 1 ∧ d0 + 18446744073709551616 * (d1 + 18446744073709551616 * (d2 + 18446744073709551616 * (d3 + 18446744073709551616 * (0)))) < 115792089237316195423570985008687907853269984665640564039457584007913129639936 := by
  unfold SubOK at q0 q1 q2 q3
  simp only [Nat.zero_mod, Nat.add_zero] at q0
  rw [Nat.mod_eq_of_lt (show k0 < 18446744073709551616 from Nat.lt_of_le_of_lt q0.2.2.2 (by decide))] at q1
  rw [Nat.mod_eq_of_lt (show k1 < 18446744073709551616 from Nat.lt_of_le_of_lt q1.2.2.2 (by decide))] at q2
  rw [Nat.mod_eq_of_lt (show k2 < 18446744073709551616 from Nat.lt_of_le_of_lt q2.2.2.2 (by decide))] at q3
  rw [Nat.mod_eq_of_lt q0.2.2.1, Nat.mod_eq_of_lt q1.2.2.1, Nat.mod_eq_of_lt q2.2.2.1, Nat.mod_eq_of_lt q3.2.2.1]
  refine ⟨?_, rfl, q3.2.2.2, ?_⟩
  · have e0 := q0.2.1
    have e1 := q1.2.1
    have e2 := q2.2.1
    have e3 := q3.2.1
    clear q0 q1 q2 q3
    generalize x0 % 18446744073709551616 = X0 at *
    generalize y0 % 18446744073709551616 = Y0 at *
    generalize x1 % 18446744073709551616 = X1 at *
    generalize y1 % 18446744073709551616 = Y1 at *
    generalize x2 % 18446744073709551616 = X2 at *
    generalize y2 % 18446744073709551616 = Y2 at *
    generalize x3 % 18446744073709551616 = X3 at *
    generalize y3 % 18446744073709551616 = Y3 at *
    omega
  · have e0 := q0.2.2.1
    have e1 := q1.2.2.1
    have e2 := q2.2.2.1
    have e3 := q3.2.2.1
    clear q0 q1 q2 q3
    omega
theorem adds4 {x0 y0 d0 k0 x1 y1 d1 k1 x2 y2 d2 k2 x3 y3 d3 k3 : Nat} (q0 : AddOK x0 y0 0 d0 k0) (q1 : AddOK x1 y1 k0 d1 k1) (q2 : AddOK x2 y2 k1 d2 k2) (q3 : AddOK x3 y3 k2 d3 k3) :
    d0 + 18446744073709551616 * (d1 + 18446744073709551616 * (d2 + 18446744073709551616 * (d3 + 18446744073709551616 * (0)))) + 115792089237316195423570985008687907853269984665640564039457584007913129639936 * k3 = x0 % 18446744073709551616 + 18446744073709551616 * (x1 % 18446744073709551616 + 18446744073709551616 * (x2 % 18446744073709551616 + 18446744073709551616 * (x3 % 18446744073709551616 + 18446744073709551616 * (0)))) + (y0 % 18446744073709551616 + 18446744073709551616 * (y1 % 18446744073709551616 + 18446744073709551616 * (y2 % 18446744073709551616 + 18446744073709551616 * (y3 % 18446744073709551616 + 18446744073709551616 * (0))))) ∧ d0 % 18446744073709551616 + 18446744073709551616 * (d1 % 18446744073709551616 + 18446744073709551616 * (d2 % 18446744073709551616 + 18446744073709551616 * (d3 % 18446744073709551616 + 18446744073709551616 * (0)))) = d0 + 18446744073709551616 * (d1 + 18446744073709551616 * (d2 + 18446744073709551616 * (d3 + 18446744073709551616 * (0)))) ∧ k3 ≤ 1 ∧ d0 + 18446744073709551616 * (d1 + 18446744073709551616 * (d2 + 18446744073709551616 * (d3 + 18446744073709551616 * (0)))) < 115792089237316195423570985008687907853269984665640564039457584007913129639936 := by
  unfold AddOK at q0 q1 q2 q3
  simp only [Nat.zero_mod, Nat.add_zero] at q0
  rw [Nat.mod_eq_of_lt (show k0 < 18446744073709551616 from Nat.lt_of_le_of_lt q0.2.2.2 (by decide))] at q1
  rw [Nat.mod_eq_of_lt (show k1 < 18446744073709551616 from Nat.lt_of_le_of_lt q1.2.2.2 (by decide))] at q2
  rw [Nat.mod_eq_of_lt (show k2 < 18446744073709551616 from Nat.lt_of_le_of_lt q2.2.2.2 (by decide))] at q3
  rw [Nat.mod_eq_of_lt q0.2.2.1, Nat.mod_eq_of_lt q1.2.2.1, Nat.mod_eq_of_lt q2.2.2.1, Nat.mod_eq_of_lt q3.2.2.1]
  refine ⟨?_, rfl, q3.2.2.2, ?_⟩
  · have e0 := q0.2.1
    have e1 := q1.2.1
    have e2 := q2.2.1
    have e3 := q3.2.1
    clear q0 q1 q2 q3
    generalize x0 % 18446744073709551616 = X0 at *
    generalize y0 % 18446744073709551616 = Y0 at *
    generalize x1 % 18446744073709551616 = X1 at *
    generalize y1 % 18446744073709551616 = Y1 at *
    generalize x2 % 18446744073709551616 = X2 at *
    generalize y2 % 18446744073709551616 = Y2 at *
    generalize x3 % 18446744073709551616 = X3 at *
    generalize y3 % 18446744073709551616 = Y3 at *
    omega
  · have e0 := q0.2.2.1
    have e1 := q1.2.2.1
    have e2 := q2.2.2.1
    have e3 := q3.2.2.1
    clear q0 q1 q2 q3
    omega
theorem hor4 (x : Nat) (h : x < 115792089237316195423570985008687907853269984665640564039457584007913129639936) : (x / 1) % 18446744073709551616 + 18446744073709551616 * ((x / 18446744073709551616) % 18446744073709551616 + 18446744073709551616 * ((x / 340282366920938463463374607431768211456) % 18446744073709551616 + 18446744073709551616 * ((x / 6277101735386680763835789423207666416102355444464034512896) % 18446744073709551616 + 18446744073709551616 * (0)))) = x := by
  obtain ⟨a0, a1, a2, a3, e0, e1, e2, e3, _, _, _, _, hs⟩ := split4 x h
  rw [e0, e1, e2, e3]
  exact hs.symm
theorem finS {a b X0 T1 Q0 X1 T2 Q1 X2 T3 Q2 X3 T4 Q3 : Nat} (ha : X0 + 18446744073709551616 * (X1 + 18446744073709551616 * (X2 + 18446744073709551616 * (X3 + 18446744073709551616 * (0)))) = a) (e0 : 18446744073709551616 * T1 = 0 + X0 * b + 52435875175126190479447740508185965837690552500527637822603658699938581184513 * Q0) (e1 : 18446744073709551616 * T2 = T1 + X1 * b + 52435875175126190479447740508185965837690552500527637822603658699938581184513 * Q1) (e2 : 18446744073709551616 * T3 = T2 + X2 * b + 52435875175126190479447740508185965837690552500527637822603658699938581184513 * Q2) (e3 : 18446744073709551616 * T4 = T3 + X3 * b + 52435875175126190479447740508185965837690552500527637822603658699938581184513 * Q3) :
    (T4 % 52435875175126190479447740508185965837690552500527637822603658699938581184513 * 115792089237316195423570985008687907853269984665640564039457584007913129639936) % 52435875175126190479447740508185965837690552500527637822603658699938581184513 = (a * b) % 52435875175126190479447740508185965837690552500527637822603658699938581184513 := by
  have h : a * b = (X0 * b) + 18446744073709551616 * ((X1 * b) + 18446744073709551616 * ((X2 * b) + 18446744073709551616 * ((X3 * b) + 18446744073709551616 * (0)))) := by
    rw [← ha]
    simp only [Nat.add_mul, Nat.mul_assoc, Nat.zero_mul]
  have k : 115792089237316195423570985008687907853269984665640564039457584007913129639936 * T4 = a * b + 52435875175126190479447740508185965837690552500527637822603658699938581184513 * (Q0 + 18446744073709551616 * (Q1 + 18446744073709551616 * (Q2 + 18446744073709551616 * (Q3 + 18446744073709551616 * (0))))) := by
    rw [h]
    clear h ha
    generalize X0 * b = P0 at *
    generalize X1 * b = P1 at *
    generalize X2 * b = P2 at *
    generalize X3 * b = P3 at *
    omega
  rw [Nat.mul_mod, Nat.mod_mod, ← Nat.mul_mod, Nat.mul_comm, k, Nat.add_mul_mod_self_left]
theorem boundS {U T X Q B : Nat} (hU : 18446744073709551616 * U = T + X + 52435875175126190479447740508185965837690552500527637822603658699938581184513 * Q) (hX : X ≤ 18446744073709551615 * B) (hT : T < B + 52435875175126190479447740508185965837690552500527637822603658699938581184513) (hq : Q < 18446744073709551616) : U < B + 52435875175126190479447740508185965837690552500527637822603658699938581184513 := by omega
theorem combAS {Q P0 u0 v0 s0 P1 u1 v1 s1 P2 u2 v2 s2 P3 u3 v3 s3 T0 T1 T2 T3 o1 o2 o3 : Nat} (w0 : 18446744073709551616 * u0 + s0 = P0 + T0) (x0 : 18446744073709551616 * v0 = 18446744069414584321 * Q + s0) (w1 : 18446744073709551616 * u1 + s1 = P1 + T1 + u0) (x1 : 18446744073709551616 * v1 + o1 = 6034159408538082302 * Q + s1 + v0) (w2 : 18446744073709551616 * u2 + s2 = P2 + T2 + u1) (x2 : 18446744073709551616 * v2 + o2 = 3691218898639771653 * Q + s2 + v1) (w3 : 18446744073709551616 * u3 + s3 = P3 + T3 + u2) (x3 : 18446744073709551616 * v3 + o3 = 8353516859464449352 * Q + s3 + v2) :
    18446744073709551616 * (o1 + 18446744073709551616 * (o2 + 18446744073709551616 * (o3 + 18446744073709551616 * ((v3 + u3) + 18446744073709551616 * (0))))) = (T0 + 18446744073709551616 * (T1 + 18446744073709551616 * (T2 + 18446744073709551616 * (T3 + 18446744073709551616 * (0))))) + (P0 + 18446744073709551616 * (P1 + 18446744073709551616 * (P2 + 18446744073709551616 * (P3 + 18446744073709551616 * (0))))) + 52435875175126190479447740508185965837690552500527637822603658699938581184513 * Q := by omega
theorem lastAS {o1 o2 o3 L B : Nat} (h : o1 + 18446744073709551616 * (o2 + 18446744073709551616 * (o3 + 18446744073709551616 * (L + 18446744073709551616 * (0)))) < B + 52435875175126190479447740508185965837690552500527637822603658699938581184513) (hb : B ≤ 52435875175126190479447740508185965837690552500527637822603658699938581184513) : L < 18446744073709551616 := by omega
theorem roundAS {x t0 t1 t2 t3 b0 b1 b2 b3 T B h0 l0 s0 c0 g0 k0 z0 d0 h1 l1 s1 c1 r1 e1 g1 k1 v1 d1 o1 f1 h2 l2 s2 c2 r2 e2 g2 k2 v2 d2 o2 f2 h3 l3 s3 c3 r3 e3 g3 k3 v3 d3 o3 f3 : Nat} (hT : T = t0 % 18446744073709551616 + 18446744073709551616 * (t1 % 18446744073709551616 + 18446744073709551616 * (t2 % 18446744073709551616 + 18446744073709551616 * (t3 % 18446744073709551616 + 18446744073709551616 * (0))))) (hB : B = b0 % 18446744073709551616 + 18446744073709551616 * (b1 % 18446744073709551616 + 18446744073709551616 * (b2 % 18446744073709551616 + 18446744073709551616 * (b3 % 18446744073709551616 + 18446744073709551616 * (0))))) (hlt : T < B + 52435875175126190479447740508185965837690552500527637822603658699938581184513) (hb : B ≤ 52435875175126190479447740508185965837690552500527637822603658699938581184513)
    (p0 : MulOK x b0 h0 l0) (a0 : AddOK l0 t0 0 s0 c0) (r0 : MulOK (s0 * 18446744069414584319) 18446744069414584321 g0 k0) (u0 : AddOK k0 s0 0 z0 d0) (p1 : MulOK x b1 h1 l1) (a1 : AddOK l1 t1 0 s1 c1) (i1 : AddOK s1 (h0 + c0) 0 r1 e1) (m1 : MulOK (s0 * 18446744069414584319) 6034159408538082302 g1 k1) (n1 : AddOK k1 r1 0 v1 d1) (y1 : AddOK v1 (g0 + d0) 0 o1 f1) (p2 : MulOK x b2 h2 l2) (a2 : AddOK l2 t2 0 s2 c2) (i2 : AddOK s2 (h1 + c1 + e1) 0 r2 e2) (m2 : MulOK (s0 * 18446744069414584319) 3691218898639771653 g2 k2) (n2 : AddOK k2 r2 0 v2 d2) (y2 : AddOK v2 (g1 + d1 + f1) 0 o2 f2) (p3 : MulOK x b3 h3 l3) (a3 : AddOK l3 t3 0 s3 c3) (i3 : AddOK s3 (h2 + c2 + e2) 0 r3 e3) (m3 : MulOK (s0 * 18446744069414584319) 8353516859464449352 g3 k3) (n3 : AddOK k3 r3 0 v3 d3) (y3 : AddOK v3 (g2 + d2 + f2) 0 o3 f3) :
    ∃ T' q, T' = o1 % 18446744073709551616 + 18446744073709551616 * (o2 % 18446744073709551616 + 18446744073709551616 * (o3 % 18446744073709551616 + 18446744073709551616 * ((g3 + d3 + f3 + (h3 + c3 + e3)) % 18446744073709551616 + 18446744073709551616 * (0)))) ∧ 18446744073709551616 * T' = T + x % 18446744073709551616 * B + 52435875175126190479447740508185965837690552500527637822603658699938581184513 * q ∧ T' < B + 52435875175126190479447740508185965837690552500527637822603658699938581184513 ∧ q < 18446744073709551616 := by
  have w0 := col0 p0 a0
  have x0 := red0S r0 u0 w0.2.1
  have w1 := col p1 a1 i1 w0.2.2
  have x1 := col m1 n1 y1 x0.2
  simp only [Nat.reduceMod] at x1
  rw [Nat.mod_eq_of_lt w1.2.1] at x1
  rw [Nat.mul_comm _ 6034159408538082302] at x1
  have w2 := col p2 a2 i2 w1.2.2
  have x2 := col m2 n2 y2 x1.2.2
  simp only [Nat.reduceMod] at x2
  rw [Nat.mod_eq_of_lt w2.2.1] at x2
  rw [Nat.mul_comm _ 3691218898639771653] at x2
  have w3 := col p3 a3 i3 w2.2.2
  have x3 := col m3 n3 y3 x2.2.2
  simp only [Nat.reduceMod] at x3
  rw [Nat.mod_eq_of_lt w3.2.1] at x3
  rw [Nat.mul_comm _ 8353516859464449352] at x3
  have hXB : x % 18446744073709551616 * B = (x % 18446744073709551616 * (b0 % 18446744073709551616)) + 18446744073709551616 * ((x % 18446744073709551616 * (b1 % 18446744073709551616)) + 18446744073709551616 * ((x % 18446744073709551616 * (b2 % 18446744073709551616)) + 18446744073709551616 * ((x % 18446744073709551616 * (b3 % 18446744073709551616)) + 18446744073709551616 * (0)))) := by
    rw [hB]
    simp only [Nat.mul_add, Nat.mul_left_comm (x % 18446744073709551616) 18446744073709551616, Nat.mul_zero]
  have hXB2 : x % 18446744073709551616 * B ≤ 18446744073709551615 * B := Nat.mul_le_mul_right B (by have h := Nat.mod_lt x (show 18446744073709551616 > 0 by decide); omega)
  have hq : (s0 * 18446744069414584319) % 18446744073709551616 < 18446744073709551616 := Nat.mod_lt _ (by decide)
  have hU := combAS w0.1 (by have := x0.1; omega) w1.1 x1.1 w2.1 x2.1 w3.1 x3.1
  rw [← hXB, ← hT] at hU
  have hUl := boundS hU hXB2 hlt hq
  have hl := lastAS hUl hb
  refine ⟨o1 + 18446744073709551616 * (o2 + 18446744073709551616 * (o3 + 18446744073709551616 * ((g3 + d3 + f3 + (h3 + c3 + e3)) + 18446744073709551616 * (0)))), _, ?_, hU, hUl, hq⟩
  rw [Nat.mod_eq_of_lt x1.2.1, Nat.mod_eq_of_lt x2.2.1, Nat.mod_eq_of_lt x3.2.1, Nat.mod_eq_of_lt hl]
theorem combBS {Q P0 u0 v0 s0 P1 u1 v1 s1 P2 u2 v2 s2 P3 u3 v3 s3 T0 T1 T2 T3 T4 o1 o2 o3 ya yc wa wc : Nat} (w0 : 18446744073709551616 * u0 + s0 = P0 + T0 + 0) (x0 : 18446744073709551616 * v0 = 18446744069414584321 * Q + s0) (w1 : 18446744073709551616 * u1 + s1 = P1 + T1 + u0) (x1 : 18446744073709551616 * v1 + o1 = 6034159408538082302 * Q + s1 + v0) (w2 : 18446744073709551616 * u2 + s2 = P2 + T2 + u1) (x2 : 18446744073709551616 * v2 + o2 = 3691218898639771653 * Q + s2 + v1) (w3 : 18446744073709551616 * u3 + s3 = P3 + T3 + u2) (x3 : 18446744073709551616 * v3 + o3 = 8353516859464449352 * Q + s3 + v2) (ty : ya + 18446744073709551616 * yc = T4 + u3) (tw : wa + 18446744073709551616 * wc = ya + v3) :
    18446744073709551616 * (o1 + 18446744073709551616 * (o2 + 18446744073709551616 * (o3 + 18446744073709551616 * (wa + 18446744073709551616 * ((yc + wc) + 18446744073709551616 * (0)))))) = (T0 + 18446744073709551616 * (T1 + 18446744073709551616 * (T2 + 18446744073709551616 * (T3 + 18446744073709551616 * (T4 + 18446744073709551616 * (0)))))) + (P0 + 18446744073709551616 * (P1 + 18446744073709551616 * (P2 + 18446744073709551616 * (P3 + 18446744073709551616 * (0))))) + 52435875175126190479447740508185965837690552500527637822603658699938581184513 * Q := by omega
theorem lastBS {o1 o2 o3 wa L B : Nat} (h : o1 + 18446744073709551616 * (o2 + 18446744073709551616 * (o3 + 18446744073709551616 * (wa + 18446744073709551616 * (L + 18446744073709551616 * (0))))) < B + 52435875175126190479447740508185965837690552500527637822603658699938581184513) (hb : B ≤ 52435875175126190479447740508185965837690552500527637822603658699938581184513) : L < 18446744073709551616 := by omega
theorem roundBS {x t0 t1 t2 t3 t4 b0 b1 b2 b3 T B h0 l0 s0 c0 r0 e0 h1 l1 s1 c1 r1 e1 h2 l2 s2 c2 r2 e2 h3 l3 s3 c3 r3 e3 ya yc g0 k0 z0 d0 g1 k1 v1 d1 o1 f1 g2 k2 v2 d2 o2 f2 g3 k3 v3 d3 o3 f3 wa wc : Nat} (hT : T = t0 % 18446744073709551616 + 18446744073709551616 * (t1 % 18446744073709551616 + 18446744073709551616 * (t2 % 18446744073709551616 + 18446744073709551616 * (t3 % 18446744073709551616 + 18446744073709551616 * (t4 % 18446744073709551616 + 18446744073709551616 * (0)))))) (hB : B = b0 % 18446744073709551616 + 18446744073709551616 * (b1 % 18446744073709551616 + 18446744073709551616 * (b2 % 18446744073709551616 + 18446744073709551616 * (b3 % 18446744073709551616 + 18446744073709551616 * (0))))) (hlt : T < B + 52435875175126190479447740508185965837690552500527637822603658699938581184513) (hb : B ≤ 52435875175126190479447740508185965837690552500527637822603658699938581184513)
    (p0 : MulOK x b0 h0 l0) (a0 : AddOK l0 t0 0 s0 c0) (i0 : AddOK s0 (0) 0 r0 e0) (p1 : MulOK x b1 h1 l1) (a1 : AddOK l1 t1 0 s1 c1) (i1 : AddOK s1 (h0 + c0 + e0) 0 r1 e1) (p2 : MulOK x b2 h2 l2) (a2 : AddOK l2 t2 0 s2 c2) (i2 : AddOK s2 (h1 + c1 + e1) 0 r2 e2) (p3 : MulOK x b3 h3 l3) (a3 : AddOK l3 t3 0 s3 c3) (i3 : AddOK s3 (h2 + c2 + e2) 0 r3 e3) (ty : AddOK t4 (h3 + c3 + e3) 0 ya yc) (r0_ : MulOK (r0 * 18446744069414584319) 18446744069414584321 g0 k0) (u0 : AddOK k0 r0 0 z0 d0) (m1 : MulOK (r0 * 18446744069414584319) 6034159408538082302 g1 k1) (n1 : AddOK k1 r1 0 v1 d1) (y1 : AddOK v1 (g0 + d0) 0 o1 f1) (m2 : MulOK (r0 * 18446744069414584319) 3691218898639771653 g2 k2) (n2 : AddOK k2 r2 0 v2 d2) (y2 : AddOK v2 (g1 + d1 + f1) 0 o2 f2) (m3 : MulOK (r0 * 18446744069414584319) 8353516859464449352 g3 k3) (n3 : AddOK k3 r3 0 v3 d3) (y3 : AddOK v3 (g2 + d2 + f2) 0 o3 f3) (tw : AddOK ya (g3 + d3 + f3) 0 wa wc) :
    ∃ T' q, T' = o1 % 18446744073709551616 + 18446744073709551616 * (o2 % 18446744073709551616 + 18446744073709551616 * (o3 % 18446744073709551616 + 18446744073709551616 * (wa % 18446744073709551616 + 18446744073709551616 * ((yc + wc) % 18446744073709551616 + 18446744073709551616 * (0))))) ∧ 18446744073709551616 * T' = T + x % 18446744073709551616 * B + 52435875175126190479447740508185965837690552500527637822603658699938581184513 * q ∧ T' < B + 52435875175126190479447740508185965837690552500527637822603658699938581184513 ∧ q < 18446744073709551616 := by
  have w0 := col p0 a0 i0 (by decide)
  have w1 := col p1 a1 i1 w0.2.2
  have w2 := col p2 a2 i2 w1.2.2
  have w3 := col p3 a3 i3 w2.2.2
  have x0 := red0S r0_ u0 w0.2.1
  have x1 := col m1 n1 y1 x0.2
  simp only [Nat.reduceMod] at x1
  rw [Nat.mod_eq_of_lt w1.2.1] at x1
  rw [Nat.mul_comm _ 6034159408538082302] at x1
  have x2 := col m2 n2 y2 x1.2.2
  simp only [Nat.reduceMod] at x2
  rw [Nat.mod_eq_of_lt w2.2.1] at x2
  rw [Nat.mul_comm _ 3691218898639771653] at x2
  have x3 := col m3 n3 y3 x2.2.2
  simp only [Nat.reduceMod] at x3
  rw [Nat.mod_eq_of_lt w3.2.1] at x3
  rw [Nat.mul_comm _ 8353516859464449352] at x3
  have hXB : x % 18446744073709551616 * B = (x % 18446744073709551616 * (b0 % 18446744073709551616)) + 18446744073709551616 * ((x % 18446744073709551616 * (b1 % 18446744073709551616)) + 18446744073709551616 * ((x % 18446744073709551616 * (b2 % 18446744073709551616)) + 18446744073709551616 * ((x % 18446744073709551616 * (b3 % 18446744073709551616)) + 18446744073709551616 * (0)))) := by
    rw [hB]
    simp only [Nat.mul_add, Nat.mul_left_comm (x % 18446744073709551616) 18446744073709551616, Nat.mul_zero]
  have hXB2 : x % 18446744073709551616 * B ≤ 18446744073709551615 * B := Nat.mul_le_mul_right B (by have h := Nat.mod_lt x (show 18446744073709551616 > 0 by decide); omega)
  have hq : (r0 * 18446744069414584319) % 18446744073709551616 < 18446744073709551616 := Nat.mod_lt _ (by decide)
  unfold AddOK at ty tw
  simp only [Nat.zero_mod, Nat.add_zero] at ty tw
  rw [Nat.mod_eq_of_lt w3.2.2] at ty
  rw [Nat.mod_eq_of_lt ty.2.2.1, Nat.mod_eq_of_lt x3.2.2] at tw
  have hU := combBS w0.1 (by have := x0.1; omega) w1.1 x1.1 w2.1 x2.1 w3.1 x3.1 (by have := ty.2.1; omega) (by have := tw.2.1; omega)
  rw [← hXB, ← hT] at hU
  have hUl := boundS hU hXB2 hlt hq
  have hl := lastBS hUl hb
  refine ⟨o1 + 18446744073709551616 * (o2 + 18446744073709551616 * (o3 + 18446744073709551616 * (wa + 18446744073709551616 * ((yc + wc) + 18446744073709551616 * (0))))), _, ?_, hU, hUl, hq⟩
  rw [Nat.mod_eq_of_lt x1.2.1, Nat.mod_eq_of_lt x2.2.1, Nat.mod_eq_of_lt x3.2.1, Nat.mod_eq_of_lt tw.2.2.1, Nat.mod_eq_of_lt hl]
end Go.Ev

/- The contracts of math/bits' three functions. -/
set_option linter.unusedSimpArgs false
set_option linter.unusedVariables false
namespace Go.Proofs.Ytoigbjimhcgolaa
open Go.Ev Go.RowKit

/-- A number of 64 bits as an argument. -/
def parU : XV → Option Nat
  | .t (.u h) => some h
  | .t (.v (.int .u64 n)) => if 0 ≤ n ∧ n < 18446744073709551616 then some n.toNat else none
  | _ => none

theorem parU_ok {x : XV} {a : Nat} (h : parU x = some a) {w : World} {v : Value} (hv : XRep w x v) : v = u64 a := by
  unfold parU at h
  split at h
  · simp only [Option.some.injEq] at h; subst h; simp only [XRep, AV.val?, Option.some.injEq] at hv; exact hv.symm
  · split at h
    · rename_i n hn
      simp only [Option.some.injEq] at h; subst h
      simp only [XRep, AV.val?, Option.some.injEq] at hv
      subst hv
      unfold u64
      congr 1
      omega
    · cases h
  · cases h

def eAdd64 : Entry := ⟨50, fun hi => fun
  | [x, y, z] =>
    match parU x, parU y, parU z with
    | some a, some b, some c => [(some (AddOK a b c (hi 0) (hi 1)), .tp [.u (hi 0), .u (hi 1)])]
    | _, _, _ => []
  | _ => []⟩
def eSub64 : Entry := ⟨66, fun hi => fun
  | [x, y, z] =>
    match parU x, parU y, parU z with
    | some a, some b, some c => [(some (SubOK a b c (hi 0) (hi 1)), .tp [.u (hi 0), .u (hi 1)])]
    | _, _, _ => []
  | _ => []⟩
def eMul64 : Entry := ⟨52, fun hi => fun
  | [x, y] =>
    match parU x, parU y with
    | some a, some b => [(some (MulOK a b (hi 0) (hi 1)), .tp [.u (hi 0), .u (hi 1)])]
    | _, _ => []
  | _ => []⟩

theorem eAdd64_ok : eAdd64.OK Try.prog := by
  intro hi args c r hm hc
  simp only [eAdd64] at hm
  split at hm
  · split at hm
    · rename_i x y z a b d ha hb hd
      simp only [List.mem_singleton, Prod.mk.injEq] at hm
      obtain ⟨rfl, rfl⟩ := hm
      simp only [Option.getD_some] at hc
      obtain ⟨c1, c2, c3, c4⟩ := hc
      refine ⟨_, rfl, fun w vs hx => .inl ?_⟩
      match vs, hx with
      | [p, q, s], hx =>
        have e1 := parU_ok ha hx.1
        have e2 := parU_ok hb hx.2.1
        have e3 := parU_ok hd hx.2.2.1
        subst e1; subst e2; subst e3
        show (callFunc 50 _).run Try.prog w = _
        rw [run_callFunc_extern Try.func50 (by kernel_rfl) (by kernel_rfl) (by kernel_rfl) (e := add64Entry) (by kernel_rfl)]
        have := run_add64 (P := Try.prog) ((a % 18446744073709551616 : Nat) : Int) ((b % 18446744073709551616 : Nat) : Int) ((d % 18446744073709551616 : Nat) : Int) (by omega) (by omega) (by omega) (by omega) w
        simp only [u64]
        have h0 : (((a % 18446744073709551616 : Nat) : Int) + ((b % 18446744073709551616 : Nat) : Int) + ((d % 18446744073709551616 : Nat) : Int)) % 18446744073709551616 = ((hi 0 % 18446744073709551616 : Nat) : Int) := by omega
        have h1 : (((a % 18446744073709551616 : Nat) : Int) + ((b % 18446744073709551616 : Nat) : Int) + ((d % 18446744073709551616 : Nat) : Int)) / 18446744073709551616 = ((hi 1 % 18446744073709551616 : Nat) : Int) := by omega
        rw [h0, h1] at this
        rw [this]
        rfl
    · cases hm
  · cases hm

theorem eSub64_ok : eSub64.OK Try.prog := by
  intro hi args c r hm hc
  simp only [eSub64] at hm
  split at hm
  · split at hm
    · rename_i x y z a b d ha hb hd
      simp only [List.mem_singleton, Prod.mk.injEq] at hm
      obtain ⟨rfl, rfl⟩ := hm
      simp only [Option.getD_some] at hc
      obtain ⟨c1, c2, c3, c4⟩ := hc
      refine ⟨_, rfl, fun w vs hx => .inl ?_⟩
      match vs, hx with
      | [p, q, s], hx =>
        have e1 := parU_ok ha hx.1
        have e2 := parU_ok hb hx.2.1
        have e3 := parU_ok hd hx.2.2.1
        subst e1; subst e2; subst e3
        show (callFunc 66 _).run Try.prog w = _
        rw [run_callFunc_extern Try.func66 (by kernel_rfl) (by kernel_rfl) (by kernel_rfl) (e := (Extern.MathBitsCarry.rows.getD 1 default).2) (by kernel_rfl)]
        simp only [u64]
        have hd' : d % 18446744073709551616 = 0 ∨ d % 18446744073709551616 = 1 := by omega
        have key : ((Extern.MathBitsCarry.rows.getD 1 default).2 #[.int .u64 ((a % 18446744073709551616 : Nat) : Int), .int .u64 ((b % 18446744073709551616 : Nat) : Int), .int .u64 ((d % 18446744073709551616 : Nat) : Int)]).run Try.prog w =
            .ok (.tuple #[.int .u64 (((a % 18446744073709551616 + 18446744073709551616 - b % 18446744073709551616 - d % 18446744073709551616) % 18446744073709551616 : Nat) : Int), .int .u64 ((if a % 18446744073709551616 < b % 18446744073709551616 + d % 18446744073709551616 then 1 else 0 : Nat) : Int)]) w := by
          rcases hd' with e | e <;> rw [e] <;> rfl
        have h0 : (a % 18446744073709551616 + 18446744073709551616 - b % 18446744073709551616 - d % 18446744073709551616) % 18446744073709551616 = hi 0 % 18446744073709551616 := by omega
        have h1 : (if a % 18446744073709551616 < b % 18446744073709551616 + d % 18446744073709551616 then 1 else 0 : Nat) = hi 1 % 18446744073709551616 := by split <;> omega
        rw [h0, h1] at key
        rw [key]
        rfl
    · cases hm
  · cases hm

/-- The school method's numbers. -/
theorem mul64_run (a b x y : Nat) (hx : x = a % 18446744073709551616) (hy : y = b % 18446744073709551616) : fnA Try.prog rules0 [] 0 o0 Try.f52 [.t (.u a), .t (.u b)] =
    some (.tp [.u (x / 4294967296 * (y / 4294967296) + (x / 4294967296 * (y &&& 4294967295) + (x &&& 4294967295) * (y &&& 4294967295) % 18446744073709551616 / 4294967296) % 18446744073709551616 / 4294967296 +
      (((x / 4294967296 * (y &&& 4294967295) + (x &&& 4294967295) * (y &&& 4294967295) % 18446744073709551616 / 4294967296) % 18446744073709551616 &&& 4294967295) + (x &&& 4294967295) * (y / 4294967296)) % 18446744073709551616 / 4294967296), .u (a * b)], True) := by
  subst hx; subst hy; kernel_rfl

theorem eMul64_ok : eMul64.OK Try.prog := by
  intro hi args c r hm hc
  simp only [eMul64] at hm
  split at hm
  · split at hm
    · rename_i x y a b ha hb
      simp only [List.mem_singleton, Prod.mk.injEq] at hm
      obtain ⟨rfl, rfl⟩ := hm
      simp only [Option.getD_some] at hc
      obtain ⟨c1, c2, c3, _⟩ := hc
      have hg := fn_gives_at (P := Try.prog) (env := []) trivial Try.func52 0 o0 (mul64_run a b _ _ rfl rfl) ⟨_, rfl⟩ trivial
      have hv : (AV.tp [.u (hi 0), .u (hi 1)]).val? = (AV.tp [.u ((a % 18446744073709551616) / 4294967296 * ((b % 18446744073709551616) / 4294967296) + ((a % 18446744073709551616) / 4294967296 * ((b % 18446744073709551616) &&& 4294967295) + ((a % 18446744073709551616) &&& 4294967295) * ((b % 18446744073709551616) &&& 4294967295) % 18446744073709551616 / 4294967296) % 18446744073709551616 / 4294967296 +
      ((((a % 18446744073709551616) / 4294967296 * ((b % 18446744073709551616) &&& 4294967295) + ((a % 18446744073709551616) &&& 4294967295) * ((b % 18446744073709551616) &&& 4294967295) % 18446744073709551616 / 4294967296) % 18446744073709551616 &&& 4294967295) + ((a % 18446744073709551616) &&& 4294967295) * ((b % 18446744073709551616) / 4294967296)) % 18446744073709551616 / 4294967296), .u (a * b)]).val? := by
        have mask : ∀ n : Nat, n &&& 4294967295 = n % 4294967296 := fun n => Nat.and_two_pow_sub_one_eq_mod n 32
        obtain ⟨b1, b2, b3, b4⟩ := Lib.mul64_hi (a % 18446744073709551616) (b % 18446744073709551616) (by omega) (by omega)
        have e2 : a * b % 18446744073709551616 = hi 1 := by
          rw [Nat.mul_mod, ← c1]; omega
        have e1 : (a % 18446744073709551616) * (b % 18446744073709551616) / 18446744073709551616 = hi 0 := by
          rw [← c1]; omega
        simp only [mask]
        rw [Nat.mod_eq_of_lt b1, Nat.mod_eq_of_lt b2, Nat.mod_eq_of_lt b3, b4, e1]
        simp only [AV.val?, AV.vals?, u64, e2]
        rw [Nat.mod_eq_of_lt (show hi 1 < 18446744073709551616 from c2)]
      obtain ⟨v, h1, h2⟩ := hg.same hv
      refine ⟨v, h1, fun w vs hx => .inr ⟨Go.Proofs.enters_of (P := Try.prog) Try.func52 (by kernel_rfl) rfl _ _, ?_⟩⟩
      match vs, hx with
      | [p, q], hx => exact h2 w [p, q] ⟨congrArg some (parU_ok ha hx.1).symm, congrArg some (parU_ok hb hx.2.1).symm, trivial⟩
    · cases hm
  · cases hm
end Go.Proofs.Ytoigbjimhcgolaa
