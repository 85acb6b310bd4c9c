/- Whatever number and exponents are given, chirographlaw03.FrPowers says true: powers add up in the exponent, and multiply; to the power of the order each is itself. -/
import Derived.Test.YtjhnoekljlldmaaPwS
import Derived.Test.YtjhnoekljlldmaaPri
import Derived.Test.YtjhnoekljlldmaaRmS
import Derived.Test.YtjhnoekljlldmaaOpn
import Derived.Test.YtjhnoekljlldmaaRows
set_option linter.unusedSimpArgs false
set_option linter.unusedVariables false
namespace Go.Proofs.Ytjhnoekljlldmaa
open Go.Ev Go.ChangeShapes Go.WideShapes Go.ChangeAt Go.RowKit

theorem lim_at (n : Nat) (h : n < 18446744073709551616) : n % 18446744073709551616 + 18446744073709551616 * 0 = n := by rw [Nat.mul_zero, Nat.add_zero, Nat.mod_eq_of_lt h]
theorem ferm_all (x : Fin Rr) : pwS x 52435875175126190479447740508185965837690552500527637822603658699938581184513 = x := by
  by_cases h : x = 0
  · subst h; exact pw_zeroS 52435875175126190479447740508185965837690552500527637822603658699938581184512
  · have h1 := ferm_atS h 52435875175126190479447740508185965837690552500527637822603658699938581184512 (by decide)
    have h2 := pwS_succ x 52435875175126190479447740508185965837690552500527637822603658699938581184512
    rw [h1] at h2
    rw [show (52435875175126190479447740508185965837690552500527637822603658699938581184513 : Nat) = 52435875175126190479447740508185965837690552500527637822603658699938581184512 + 1 from rfl, h2]
    grind
theorem frPowers_at (a s t : Nat) (ha : a < 115792089237316195423570985008687907853269984665640564039457584007913129639936) (hs : s < 4294967296) (ht : t < 4294967296) (hm : s * t < 18446744073709551616) : Gives Try.prog 10 [.t (.ag [.n 4 a]), .t (.v (.int .u32 ((s : Nat) : Int))), .t (.v (.int .u32 ((t : Nat) : Int)))] (.v (.bool true)) :=
  fn_gives (P := Try.prog) (env := [eAlS, eFMulS, eFPowS, eRRS, eFCleanS]) ⟨eAlS_ok, eFMulS_ok, eFPowS_ok, eRRS_ok, eFCleanS_ok, trivial⟩ Try.func10 0 (oN [(4, s, 0), (9, t, 0), (17, s, 0), (19, t, 0), (25, s, 0), (27, t, 0), (45, t, 0)] [(4, 2), (9, 2), (17, 2), (19, 2), (25, 2), (27, 2), (45, 2)]) (by kernel_rfl)
      (And.intro (show flat [.e (pwS (ofR a) 0)] = flat [.c (.int .u64 1), .c (.int .u64 0), .c (.int .u64 0), .c (.int .u64 0)] from by rw [show pwS (ofR a) 0 = 1 from rfl]; kernel_rfl) 
      (And.intro (show smtS (.inr a) ∧ 0 < 18446744073709551616 ^ 4 from ⟨ha, by decide⟩) 
      (And.intro (show flat [.e (pwS (ofR a) 52435875175126190479447740508185965837690552500527637822603658699938581184513)] = flat [.e (ofR a)] from by rw [ferm_all]) 
      (And.intro (show smtS (.inr a) from ha) 
      (And.intro (show smtS (.inr a) ∧ 52435875175126190479447740508185965837690552500527637822603658699938581184513 < 18446744073709551616 ^ 4 from ⟨ha, by decide⟩) 
      (And.intro (show flat [.e (pwS (pwS (ofR a) (s % 18446744073709551616 + 18446744073709551616 * 0)) (t % 18446744073709551616 + 18446744073709551616 * 0))] = flat [.e (pwS (ofR a) ((s * t) % 18446744073709551616 + 18446744073709551616 * 0))] from by rw [lim_at s (by omega), lim_at t (by omega), lim_at (s * t) hm]; exact congrArg (fun z => flat [.e z]) (GS.pw_mul (ofR a) s t).symm) 
      (And.intro (show smtS (.inr a) ∧ ((s * t) % 18446744073709551616 + 18446744073709551616 * 0) < 18446744073709551616 ^ 4 from ⟨ha, Nat.lt_of_le_of_lt (Nat.le_of_eq (lim_at _ hm)) (by simp only [Nat.reducePow]; omega)⟩) 
      (And.intro (show smtS (.inl (pwS (ofR a) (s % 18446744073709551616 + 18446744073709551616 * 0))) ∧ (t % 18446744073709551616 + 18446744073709551616 * 0) < 18446744073709551616 ^ 4 from ⟨trivial, Nat.lt_of_le_of_lt (Nat.le_of_eq (lim_at _ (by omega))) (by simp only [Nat.reducePow]; omega)⟩) 
      (And.intro (show IntKind.u64 = IntKind.u64 ∧ IntKind.u64.wrap ((t : Nat) : Int) = ((t % 18446744073709551616 : Nat) : Int) from ⟨rfl, by rw [wrap_u64]; omega⟩) 
      (And.intro (show flat [.e ((pwS (ofR a) (s % 18446744073709551616 + 18446744073709551616 * 0)) * (pwS (ofR a) (t % 18446744073709551616 + 18446744073709551616 * 0)))] = flat [.e (pwS (ofR a) ((s + t) % 18446744073709551616 + 18446744073709551616 * 0))] from by rw [lim_at s (by omega), lim_at t (by omega), lim_at (s + t) (by omega)]; exact congrArg (fun z => flat [.e z]) (GS.pw_add (ofR a) s t).symm) 
      (And.intro (show smtS (.inr a) ∧ ((s + t) % 18446744073709551616 + 18446744073709551616 * 0) < 18446744073709551616 ^ 4 from ⟨ha, Nat.lt_of_le_of_lt (Nat.le_of_eq (lim_at _ (by omega))) (by simp only [Nat.reducePow]; omega)⟩) 
      (And.intro (show smtS (.inl (pwS (ofR a) (s % 18446744073709551616 + 18446744073709551616 * 0))) ∧ smtS (.inl (pwS (ofR a) (t % 18446744073709551616 + 18446744073709551616 * 0))) from ⟨trivial, trivial⟩) 
      (And.intro (show IntKind.u64 = IntKind.u64 ∧ IntKind.u64.wrap ((t : Nat) : Int) = ((t % 18446744073709551616 : Nat) : Int) from ⟨rfl, by rw [wrap_u64]; omega⟩) 
      (And.intro (show IntKind.u64 = IntKind.u64 ∧ IntKind.u64.wrap ((s : Nat) : Int) = ((s % 18446744073709551616 : Nat) : Int) from ⟨rfl, by rw [wrap_u64]; omega⟩) 
      (And.intro (show IntKind.u64 = IntKind.u64 ∧ IntKind.u64.wrap ((t : Nat) : Int) = ((t % 18446744073709551616 : Nat) : Int) from ⟨rfl, by rw [wrap_u64]; omega⟩) 
      (And.intro (show IntKind.u64 = IntKind.u64 ∧ IntKind.u64.wrap ((s : Nat) : Int) = ((s % 18446744073709551616 : Nat) : Int) from ⟨rfl, by rw [wrap_u64]; omega⟩) 
      (And.intro (show smtS (.inr a) ∧ (t % 18446744073709551616 + 18446744073709551616 * 0) < 18446744073709551616 ^ 4 from ⟨ha, Nat.lt_of_le_of_lt (Nat.le_of_eq (lim_at _ (by omega))) (by simp only [Nat.reducePow]; omega)⟩) 
      (And.intro (show IntKind.u64 = IntKind.u64 ∧ IntKind.u64.wrap ((t : Nat) : Int) = ((t % 18446744073709551616 : Nat) : Int) from ⟨rfl, by rw [wrap_u64]; omega⟩) 
      (And.intro (show smtS (.inr a) ∧ (s % 18446744073709551616 + 18446744073709551616 * 0) < 18446744073709551616 ^ 4 from ⟨ha, Nat.lt_of_le_of_lt (Nat.le_of_eq (lim_at _ (by omega))) (by simp only [Nat.reducePow]; omega)⟩) 
      (And.intro (show IntKind.u64 = IntKind.u64 ∧ IntKind.u64.wrap ((s : Nat) : Int) = ((s % 18446744073709551616 : Nat) : Int) from ⟨rfl, by rw [wrap_u64]; omega⟩) trivial))))))))))))))))))))

theorem frPowers_gives (a : Nat) (s t : Int) (ha : a < 115792089237316195423570985008687907853269984665640564039457584007913129639936) (hs : (Lit.int .u32 s).wf = true) (ht : (Lit.int .u32 t).wf = true) : Gives Try.prog 10 [.t (.ag [.n 4 a]), .t (.v (.int .u32 s)), .t (.v (.int .u32 t))] (.v (.bool true)) := by
  have b1 := bounds_u32 hs
  have b2 := bounds_u32 ht
  obtain ⟨s, rfl⟩ : ∃ n : Nat, s = ((n : Nat) : Int) := ⟨s.toNat, by omega⟩
  obtain ⟨t, rfl⟩ : ∃ n : Nat, t = ((n : Nat) : Int) := ⟨t.toNat, by omega⟩
  have h1 : s ≤ 4294967295 := by omega
  have h2 : t ≤ 4294967295 := by omega
  exact frPowers_at a s t ha (by omega) (by omega) (Nat.lt_of_le_of_lt (Nat.mul_le_mul h1 h2) (by decide))

theorem Try.own : ownKnob Try.prog.godebug = none := by kernel_rfl

set_option maxRecDepth 100000 in
theorem frPowers_lifted (os : Os) (started : os.Started) (H : Type) (enc : TypeId × Value → H) :
    ReturnsInHanded {} Try.checked os 10 .any (Rows.frPowersSpec.pre6 enc Try.prog Try.f10 Rows.frPowersRow.domain false) (Rows.frPowersSpec.post enc Try.prog Try.f10 false true false false) := by
  refine returnsInHanded_of_change (C := Try.checked) Try.own started (by kernel_rfl) Try.func10
    (ChangeSpec.witness6 (enc := enc) (C := Try.checked) false ⟨#[], #[.agg (Array.replicate 4 (.int .u64 0)), .int .u32 0, .int .u32 0], []⟩ 8 (by kernel_rfl) (by kernel_rfl) (by kernel_rfl) (by kernel_rfl)) ?_
  intro W base args ds gs before hval0 hW _ _
  have hval : ∀ (j : Nat) t v, Try.f10.params[j]? = some t → args[j]? = some v → Value.okWide Try.prog W .any base t v := hval0
  have hW' := hW
  obtain ⟨p, q, hA0, hV, rfl, _, _⟩ := hW
  have hA : DataW.TrodAll enc Try.prog W 0 (fun _ => true) true Try.f10.params.toList args.toList ds p := hA0
  rw [Try.params10] at hA hval
  obtain ⟨v0, v1, v2, d0, d1, d2, p0, p1, p2, rfl, rfl, rfl, h0, h1, h2⟩ := trodAll_three hA
  obtain ⟨rfl, rfl⟩ := trodVars_none hV
  obtain ⟨c0, rfl, u0, l0, rfl, s0⟩ := open_flat 8 (by kernel_rfl) (by kernel_rfl) (hval 0 _ v0 rfl rfl) h0
  obtain ⟨x0, b0, rfl⟩ := u_limbs 4 c0 u0 (l0.trans (by kernel_rfl))
  replace b0 := Nat.lt_of_lt_of_eq b0 (show _ = 115792089237316195423570985008687907853269984665640564039457584007913129639936 from rfl)
  obtain ⟨x1, rfl, rfl, rfl, b1⟩ := open_int (k := .u32) Try.underlying48 (hval 1 _ v1 rfl rfl) h1
  obtain ⟨x2, rfl, rfl, rfl, b2⟩ := open_int (k := .u32) Try.underlying48 (hval 2 _ v2 rfl rfl) h2
  clear hA0 hval0
  simp only [List.append_nil] at hW'
  obtain ⟨v, hv, hrun⟩ := frPowers_gives x0 x1 x2 b0 b1 b2
  simp only [AV.val?, Option.some.injEq] at hv
  subst hv
  refine (hrun W [_, _, _] ⟨rfl, rfl, rfl, trivial⟩).mono fun e W' ⟨he, hb⟩ => ?_
  subst he
  exact ⟨_, rfl, _, _, _, [], [], [], hW', trodAll_mk1 (shut_bool Try.underlying4 true), trodAll_mk3 (s0 _ _ _ _) (shut_int Try.underlying48 b1) (shut_int Try.underlying48 b2), rfl, hb.frame _, fun h => by cases h⟩

theorem frPowers_holds : Rows.FrPowersSaid :=
  OpenClaim.holds_of_wide 10 Try.f10 rfl rfl rfl rfl rfl rfl rfl ⟨rfl, rfl, rfl, rfl, rfl⟩ rfl rfl rfl rfl rfl (by kernel_rfl) Try.func10 (by kernel_rfl)
    (of_decide_eq_true (by kernel_rfl)) (by unfold Func.isWrapper; first | (rw [if_pos (by decide +kernel)]; kernel_rfl) | (rw [if_neg (by decide +kernel)]; exact ⟨rfl, rfl⟩))
    (fun os started H enc _ => frPowers_lifted os started H enc)
end Go.Proofs.Ytjhnoekljlldmaa
