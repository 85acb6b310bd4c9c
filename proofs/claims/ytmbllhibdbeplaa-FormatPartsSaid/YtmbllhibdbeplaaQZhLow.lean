/- Pruned: ZhLow. -/
import Derived.Test.YtmbllhibdbeplaaQZhMon
import Derived.Test.YtmbllhibdbeplaaProg
import Derived.Laws.Externs
import Derived.Lib.Mul64
set_option linter.unusedSimpArgs false
set_option linter.unusedVariables false
namespace Go.Proofs.Ytmbllhibdbeplaa
open Go.Ev Go.RowKit

/-- A number of 64 bits as an argument. -/
def parU : XV → Option Nat
  | .t (.u h) => some h
  | .t (.v (.int .u64 n)) => if 0 ≤ n ∧ n < 18446744073709551616 then some n.toNat else none
  | _ => none

theorem parU_ok {x : XV} {a : Nat} (h : parU x = some a) {w : World} {v : Value} (hv : XRep w x v) : v = u64 a := by
  unfold parU at h
  split at h
  · simp only [Option.some.injEq] at h; subst h; simp only [XRep, AV.val?, Option.some.injEq] at hv; exact hv.symm
  · split at h
    · rename_i n hn
      simp only [Option.some.injEq] at h; subst h
      simp only [XRep, AV.val?, Option.some.injEq] at hv
      subst hv
      unfold u64
      congr 1
      omega
    · cases h
  · cases h

def eAdd64 : Entry := ⟨78, fun hi => fun
  | [x, y, z] =>
    match parU x, parU y, parU z with
    | some a, some b, some c => [(some (AddOK a b c (hi 0) (hi 1)), .tp [.u (hi 0), .u (hi 1)])]
    | _, _, _ => []
  | _ => []⟩
def eSub64 : Entry := ⟨104, fun hi => fun
  | [x, y, z] =>
    match parU x, parU y, parU z with
    | some a, some b, some c => [(some (SubOK a b c (hi 0) (hi 1)), .tp [.u (hi 0), .u (hi 1)])]
    | _, _, _ => []
  | _ => []⟩
def eMul64 : Entry := ⟨77, fun hi => fun
  | [x, y] =>
    match parU x, parU y with
    | some a, some b => [(some (MulOK a b (hi 0) (hi 1)), .tp [.u (hi 0), .u (hi 1)])]
    | _, _ => []
  | _ => []⟩

theorem eAdd64_ok : eAdd64.OK Try.prog := by
  intro hi args c r hm hc
  simp only [eAdd64] at hm
  split at hm
  · split at hm
    · rename_i x y z a b d ha hb hd
      simp only [List.mem_singleton, Prod.mk.injEq] at hm
      obtain ⟨rfl, rfl⟩ := hm
      simp only [Option.getD_some] at hc
      obtain ⟨c1, c2, c3, c4⟩ := hc
      refine ⟨_, rfl, fun w vs hx => .inl ?_⟩
      match vs, hx with
      | [p, q, s], hx =>
        have e1 := parU_ok ha hx.1
        have e2 := parU_ok hb hx.2.1
        have e3 := parU_ok hd hx.2.2.1
        subst e1; subst e2; subst e3
        show (callFunc 78 _).run Try.prog w = _
        rw [run_callFunc_extern Try.func78 (by kernel_rfl) (by kernel_rfl) (by kernel_rfl) (e := add64Entry) (by kernel_rfl)]
        have := run_add64 (P := Try.prog) ((a % 18446744073709551616 : Nat) : Int) ((b % 18446744073709551616 : Nat) : Int) ((d % 18446744073709551616 : Nat) : Int) (by omega) (by omega) (by omega) (by omega) w
        simp only [u64]
        have h0 : (((a % 18446744073709551616 : Nat) : Int) + ((b % 18446744073709551616 : Nat) : Int) + ((d % 18446744073709551616 : Nat) : Int)) % 18446744073709551616 = ((hi 0 % 18446744073709551616 : Nat) : Int) := by omega
        have h1 : (((a % 18446744073709551616 : Nat) : Int) + ((b % 18446744073709551616 : Nat) : Int) + ((d % 18446744073709551616 : Nat) : Int)) / 18446744073709551616 = ((hi 1 % 18446744073709551616 : Nat) : Int) := by omega
        rw [h0, h1] at this
        rw [this]
        rfl
    · cases hm
  · cases hm

theorem eSub64_ok : eSub64.OK Try.prog := by
  intro hi args c r hm hc
  simp only [eSub64] at hm
  split at hm
  · split at hm
    · rename_i x y z a b d ha hb hd
      simp only [List.mem_singleton, Prod.mk.injEq] at hm
      obtain ⟨rfl, rfl⟩ := hm
      simp only [Option.getD_some] at hc
      obtain ⟨c1, c2, c3, c4⟩ := hc
      refine ⟨_, rfl, fun w vs hx => .inl ?_⟩
      match vs, hx with
      | [p, q, s], hx =>
        have e1 := parU_ok ha hx.1
        have e2 := parU_ok hb hx.2.1
        have e3 := parU_ok hd hx.2.2.1
        subst e1; subst e2; subst e3
        show (callFunc 104 _).run Try.prog w = _
        rw [run_callFunc_extern Try.func104 (by kernel_rfl) (by kernel_rfl) (by kernel_rfl) (e := (Extern.MathBitsCarry.rows.getD 1 default).2) (by kernel_rfl)]
        simp only [u64]
        have hd' : d % 18446744073709551616 = 0 ∨ d % 18446744073709551616 = 1 := by omega
        have key : ((Extern.MathBitsCarry.rows.getD 1 default).2 #[.int .u64 ((a % 18446744073709551616 : Nat) : Int), .int .u64 ((b % 18446744073709551616 : Nat) : Int), .int .u64 ((d % 18446744073709551616 : Nat) : Int)]).run Try.prog w =
            .ok (.tuple #[.int .u64 (((a % 18446744073709551616 + 18446744073709551616 - b % 18446744073709551616 - d % 18446744073709551616) % 18446744073709551616 : Nat) : Int), .int .u64 ((if a % 18446744073709551616 < b % 18446744073709551616 + d % 18446744073709551616 then 1 else 0 : Nat) : Int)]) w := by
          rcases hd' with e | e <;> rw [e] <;> rfl
        have h0 : (a % 18446744073709551616 + 18446744073709551616 - b % 18446744073709551616 - d % 18446744073709551616) % 18446744073709551616 = hi 0 % 18446744073709551616 := by omega
        have h1 : (if a % 18446744073709551616 < b % 18446744073709551616 + d % 18446744073709551616 then 1 else 0 : Nat) = hi 1 % 18446744073709551616 := by split <;> omega
        rw [h0, h1] at key
        rw [key]
        rfl
    · cases hm
  · cases hm

/-- The school method's numbers. -/
theorem mul64_run (a b x y : Nat) (hx : x = a % 18446744073709551616) (hy : y = b % 18446744073709551616) : fnA Try.prog rules0 [] 0 o0 Try.f77 [.t (.u a), .t (.u b)] =
    some (.tp [.u (x / 4294967296 * (y / 4294967296) + (x / 4294967296 * (y &&& 4294967295) + (x &&& 4294967295) * (y &&& 4294967295) % 18446744073709551616 / 4294967296) % 18446744073709551616 / 4294967296 +
      (((x / 4294967296 * (y &&& 4294967295) + (x &&& 4294967295) * (y &&& 4294967295) % 18446744073709551616 / 4294967296) % 18446744073709551616 &&& 4294967295) + (x &&& 4294967295) * (y / 4294967296)) % 18446744073709551616 / 4294967296), .u (a * b)], True) := by
  subst hx; subst hy; kernel_rfl

theorem eMul64_ok : eMul64.OK Try.prog := by
  intro hi args c r hm hc
  simp only [eMul64] at hm
  split at hm
  · split at hm
    · rename_i x y a b ha hb
      simp only [List.mem_singleton, Prod.mk.injEq] at hm
      obtain ⟨rfl, rfl⟩ := hm
      simp only [Option.getD_some] at hc
      obtain ⟨c1, c2, c3, _⟩ := hc
      have hg := fn_gives_at (P := Try.prog) (env := []) trivial Try.func77 0 o0 (mul64_run a b _ _ rfl rfl) ⟨_, rfl⟩ trivial
      have hv : (AV.tp [.u (hi 0), .u (hi 1)]).val? = (AV.tp [.u ((a % 18446744073709551616) / 4294967296 * ((b % 18446744073709551616) / 4294967296) + ((a % 18446744073709551616) / 4294967296 * ((b % 18446744073709551616) &&& 4294967295) + ((a % 18446744073709551616) &&& 4294967295) * ((b % 18446744073709551616) &&& 4294967295) % 18446744073709551616 / 4294967296) % 18446744073709551616 / 4294967296 +
      ((((a % 18446744073709551616) / 4294967296 * ((b % 18446744073709551616) &&& 4294967295) + ((a % 18446744073709551616) &&& 4294967295) * ((b % 18446744073709551616) &&& 4294967295) % 18446744073709551616 / 4294967296) % 18446744073709551616 &&& 4294967295) + ((a % 18446744073709551616) &&& 4294967295) * ((b % 18446744073709551616) / 4294967296)) % 18446744073709551616 / 4294967296), .u (a * b)]).val? := by
        have mask : ∀ n : Nat, n &&& 4294967295 = n % 4294967296 := fun n => Nat.and_two_pow_sub_one_eq_mod n 32
        obtain ⟨b1, b2, b3, b4⟩ := Lib.mul64_hi (a % 18446744073709551616) (b % 18446744073709551616) (by omega) (by omega)
        have e2 : a * b % 18446744073709551616 = hi 1 := by
          rw [Nat.mul_mod, ← c1]; omega
        have e1 : (a % 18446744073709551616) * (b % 18446744073709551616) / 18446744073709551616 = hi 0 := by
          rw [← c1]; omega
        simp only [mask]
        rw [Nat.mod_eq_of_lt b1, Nat.mod_eq_of_lt b2, Nat.mod_eq_of_lt b3, b4, e1]
        simp only [AV.val?, AV.vals?, u64, e2]
        rw [Nat.mod_eq_of_lt (show hi 1 < 18446744073709551616 from c2)]
      obtain ⟨v, h1, h2⟩ := hg.same hv
      refine ⟨v, h1, fun w vs hx => .inr ⟨Go.Proofs.enters_of (P := Try.prog) Try.func77 (by kernel_rfl) rfl _ _, ?_⟩⟩
      match vs, hx with
      | [p, q], hx => exact h2 w [p, q] ⟨congrArg some (parU_ok ha hx.1).symm, congrArg some (parU_ok hb hx.2.1).symm, trivial⟩
    · cases hm
  · cases hm
end Go.Proofs.Ytmbllhibdbeplaa
