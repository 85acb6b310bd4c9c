/- Contracts of the references of the towers: products, and which is an inverse. -/
import Derived.Test.YtbejkhmdmojojaaTo2
import Derived.Test.YtbejkhmdmojojaaRmP
import Derived.Test.YtbejkhmdmojojaaAl3
set_option linter.unusedSimpArgs false
set_option linter.unusedVariables false
namespace Go.Proofs.Ytbejkhmdmojojaa
open Go.Ev Go.RowKit

theorem mul2_r (a b : F2) : mul2 a b = (a.1 * b.1 - a.2 * b.2, a.1 * b.2 + a.2 * b.1) := by
  refine ext2 ?_ ?_ <;> simp only [mul2] <;> grind
theorem shf6_r (a : F6) : shf6 a = (mul2 a.2.2 (1, 1), a.1, a.2.1) := by
  refine ext6 ?_ ?_ ?_ <;> simp only [shf6, shf2_mul]
theorem mul6_r (a b : F6) : mul6 a b = add6 (add6 (scale6 b a.1) (shf6 (scale6 b a.2.1))) (shf6 (shf6 (scale6 b a.2.2))) := by
  apply t6_inj
  have e1 : ∀ c d : F6, t6 (add6 c d) = ⟨(t6 c).a + (t6 d).a, (t6 c).b + (t6 d).b, (t6 c).c + (t6 d).c⟩ := fun _ _ => rfl
  have e2 : ∀ (c : F6) (n : F2), t6 (scale6 c n) = ⟨(t6 c).a * (n : G2), (t6 c).b * (n : G2), (t6 c).c * (n : G2)⟩ := fun _ _ => rfl
  have e3 : ∀ c : F6, t6 (shf6 c) = ⟨(t6 c).c * xi, (t6 c).a, (t6 c).b⟩ := fun c => by
    simp only [t6, shf6, shf2_mul]; rfl
  rw [mul6_t]
  simp only [e1, e2, e3]
  obtain ⟨A, B, C⟩ := a
  simp only [t6, t3mul, T3.mk.injEq]
  refine ⟨?_, ?_, ?_⟩ <;> grind
theorem mul12_r (a b : F12) : mul12 a b = (add6 (mul6 a.1 b.1) (shf6 (mul6 a.2 b.2)), add6 (mul6 a.1 b.2) (mul6 a.2 b.1)) := ext12 rfl (mul12_2 a b)
theorem of_valP (x : Fin Pp) : ofP x.val = x := Fin.ext (Nat.mod_eq_of_lt x.isLt)
def nat2 (a : F2) : N2 := (a.1.val, a.2.val)
def nat6 (a : F6) : N6 := (nat2 a.1, nat2 a.2.1, nat2 a.2.2)
def nat12 (a : F12) : N6 × N6 := (nat6 a.1, nat6 a.2)
theorem of_nat2 (a : F2) : of2 (nat2 a) = a := ext2 (of_valP _) (of_valP _)
theorem of_nat6 (a : F6) : of6 (nat6 a) = a := ext6 (of_nat2 _) (of_nat2 _) (of_nat2 _)
theorem of_nat12 (a : F12) : of12 (nat12 a) = a := ext12 (of_nat6 _) (of_nat6 _)
theorem small_nat (x : Fin Pp) : small x.val := Nat.lt_trans x.isLt (by decide)
theorem small_nat2 (a : F2) : small2 (nat2 a) := ⟨small_nat _, small_nat _⟩
theorem small_nat6 (a : F6) : small6 (nat6 a) := ⟨small_nat2 _, small_nat2 _, small_nat2 _⟩
theorem small_nat12 (a : F12) : small12 (nat12 a) := ⟨small_nat6 _, small_nat6 _⟩
theorem flat_q_list : ∀ l m : List (Fin Pp), l.length = m.length → flat (l.map .q) = flat (m.map .q) → l = m
  | [], [], _, _ => rfl
  | [], _ :: _, h, _ => by simp at h
  | _ :: _, [], h, _ => by simp at h
  | x :: l, y :: m, h, e => by
    have e' : limbs 6 x.val ++ flat (l.map .q) = limbs 6 y.val ++ flat (m.map .q) := e
    have hl : (limbs 6 x.val).length = (limbs 6 y.val).length := by simp only [limbs, List.length_cons, List.length_nil]
    have h1 := List.append_inj e' hl
    have h2 := limbs_inj 6 x.val y.val (Nat.lt_trans x.isLt (by decide)) (Nat.lt_trans y.isLt (by decide)) h1.1
    rw [Fin.ext h2, flat_q_list l m (by simpa using h) h1.2]
theorem q2_inj {a b : F2} (h : flat (q2 a) = flat (q2 b)) : a = b := by
  have := flat_q_list [a.1, a.2] [b.1, b.2] rfl h
  simp only [List.cons.injEq] at this
  exact ext2 this.1 this.2.1
theorem q6_inj {a b : F6} (h : flat (q6 a) = flat (q6 b)) : a = b := by
  have := flat_q_list [a.1.1, a.1.2, a.2.1.1, a.2.1.2, a.2.2.1, a.2.2.2] [b.1.1, b.1.2, b.2.1.1, b.2.1.2, b.2.2.1, b.2.2.2] rfl h
  simp only [List.cons.injEq] at this
  exact ext6 (ext2 this.1 this.2.1) (ext2 this.2.2.1 this.2.2.2.1) (ext2 this.2.2.2.2.1 this.2.2.2.2.2.1)
theorem q12_inj {a b : F12} (h : flat (q12 a) = flat (q12 b)) : a = b := by
  have h' : flat (q6 a.1 ++ q6 a.2) = flat (q6 b.1 ++ q6 b.2) := h
  rw [flat_append, flat_append] at h'
  have := List.append_inj h' (by rw [flat_length, flat_length]; rfl)
  exact ext12 (q6_inj this.1) (q6_inj this.2)
theorem zero_q2 : flat (q2 (0, 0)) = flat (List.replicate 12 (.c (.int .u64 0))) := by kernel_rfl
theorem zero_q6 : flat (q6 zero6) = flat (List.replicate 36 (.c (.int .u64 0))) := by kernel_rfl
theorem zero_q12 : flat (q12 zero12) = flat (List.replicate 72 (.c (.int .u64 0))) := by kernel_rfl
theorem one_q2 : flat (q2 one2) = flat (.c (.int .u64 1) :: List.replicate 11 (.c (.int .u64 0))) := by kernel_rfl
theorem one_q6 : flat (q6 one6) = flat (.c (.int .u64 1) :: List.replicate 35 (.c (.int .u64 0))) := by kernel_rfl

def eMul2r : Entry := entry2 45 parL2.x parL2.x (fun a b => [(none, .ag (q2 (mul2 a b)))])
theorem eMul2r_ok : eMul2r.OK Try.prog := entry2_ok (fun args w => Go.Proofs.enters_of (P := Try.prog) Try.func45 (by kernel_rfl) rfl args w) (fun a b => only (by rw [mul2_r]; exact fn_gives (P := Try.prog) (env := [eMulPr, eSubPr, eAddP]) ⟨eMulPr_ok, eSubPr_ok, eAddP_ok, trivial⟩ Try.func45 0 o0 (by kernel_rfl) trivial))
end Go.Proofs.Ytbejkhmdmojojaa
