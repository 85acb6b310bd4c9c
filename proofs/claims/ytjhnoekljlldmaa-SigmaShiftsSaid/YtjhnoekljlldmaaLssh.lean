/- Whatever wire is named, chirographlaw19.SigmaShifts says true: its shift is as the document says. -/
import Derived.Test.YtjhnoekljlldmaaRcS
import Derived.Test.YtjhnoekljlldmaaOpn
import Derived.Test.YtjhnoekljlldmaaRows
set_option linter.unusedSimpArgs false
set_option linter.unusedVariables false
namespace Go.Proofs.Ytjhnoekljlldmaa
open Go.Ev Go.ChangeShapes Go.WideShapes Go.ChangeAt Go.RowKit

theorem shifts_0 : Gives Try.prog 3 [.t (.v (.int .i64 0))] (.v (.bool true)) :=
  fn_gives (P := Try.prog) (env := [eFSmallS]) ⟨eFSmallS_ok, trivial⟩ Try.func3 3 o0 (by kernel_rfl)
      (And.intro (show flat [.e (ofR (1 : Int).toNat)] = flat [.c (.int .u64 1), .c (.int .u64 0), .c (.int .u64 0), .c (.int .u64 0)] from by kernel_rfl) 
      (And.intro (show (0 : Int) ≤ 1 ∧ (1 : Int) < 9223372036854775808 from by decide) 
      (And.intro (show flat [.e (ofR (7 : Int).toNat)] = flat [.c (.int .u64 7), .c (.int .u64 0), .c (.int .u64 0), .c (.int .u64 0)] from by kernel_rfl) 
      (And.intro (show (0 : Int) ≤ 7 ∧ (7 : Int) < 9223372036854775808 from by decide) trivial))))
theorem shifts_1 : Gives Try.prog 3 [.t (.v (.int .i64 1))] (.v (.bool true)) :=
  fn_gives (P := Try.prog) (env := [eFSmallS]) ⟨eFSmallS_ok, trivial⟩ Try.func3 3 o0 (by kernel_rfl)
      (And.intro (show flat [.e (ofR (7 : Int).toNat)] = flat [.c (.int .u64 7), .c (.int .u64 0), .c (.int .u64 0), .c (.int .u64 0)] from by kernel_rfl) 
      (And.intro (show (0 : Int) ≤ 7 ∧ (7 : Int) < 9223372036854775808 from by decide) 
      (And.intro (show flat [.e (ofR (7 : Int).toNat)] = flat [.c (.int .u64 7), .c (.int .u64 0), .c (.int .u64 0), .c (.int .u64 0)] from by kernel_rfl) 
      (And.intro (show (0 : Int) ≤ 7 ∧ (7 : Int) < 9223372036854775808 from by decide) trivial))))
theorem shifts_2 : Gives Try.prog 3 [.t (.v (.int .i64 2))] (.v (.bool true)) :=
  fn_gives (P := Try.prog) (env := [eFSmallS]) ⟨eFSmallS_ok, trivial⟩ Try.func3 3 o0 (by kernel_rfl)
      (And.intro (show flat [.e (ofR (49 : Int).toNat)] = flat [.c (.int .u64 49), .c (.int .u64 0), .c (.int .u64 0), .c (.int .u64 0)] from by kernel_rfl) 
      (And.intro (show (0 : Int) ≤ 49 ∧ (49 : Int) < 9223372036854775808 from by decide) 
      (And.intro (show flat [.e (ofR (7 : Int).toNat)] = flat [.c (.int .u64 7), .c (.int .u64 0), .c (.int .u64 0), .c (.int .u64 0)] from by kernel_rfl) 
      (And.intro (show (0 : Int) ≤ 7 ∧ (7 : Int) < 9223372036854775808 from by decide) trivial))))
theorem shifts_more (n : Int) (h0 : n ≠ 0) (h1 : n ≠ 1) (h2 : n ≠ 2) : Gives Try.prog 3 [.t (.v (.int .i64 n))] (.v (.bool true)) :=
  fn_gives (P := Try.prog) (env := [eFSmallS]) ⟨eFSmallS_ok, trivial⟩ Try.func3 3 (oN [] [(20, 2), (22, 2), (24, 2), (32, 2), (34, 2), (36, 2)]) (by kernel_rfl)
      (And.intro (show flat [.c (.int .u64 0), .c (.int .u64 0), .c (.int .u64 0), .c (.int .u64 0)] = flat [.c (.int .u64 0), .c (.int .u64 0), .c (.int .u64 0), .c (.int .u64 0)] from rfl) 
      (And.intro (show (n == 2) = false from by simpa using h2) 
      (And.intro (show (n == 1) = false from by simpa using h1) 
      (And.intro (show (n == 0) = false from by simpa using h0) 
      (And.intro (show (n == 2) = false from by simpa using h2) 
      (And.intro (show (n == 1) = false from by simpa using h1) 
      (And.intro (show (n == 0) = false from by simpa using h0) 
      (And.intro (show flat [.e (ofR (7 : Int).toNat)] = flat [.c (.int .u64 7), .c (.int .u64 0), .c (.int .u64 0), .c (.int .u64 0)] from by kernel_rfl) 
      (And.intro (show (0 : Int) ≤ 7 ∧ (7 : Int) < 9223372036854775808 from by decide) trivial)))))))))
theorem sigmaShifts_gives (n : Int) (hn : (Lit.int .i64 n).wf = true) : Gives Try.prog 3 [.t (.v (.int .i64 n))] (.v (.bool true)) := by
  by_cases h0 : n = 0
  · subst h0; exact shifts_0
  by_cases h1 : n = 1
  · subst h1; exact shifts_1
  by_cases h2 : n = 2
  · subst h2; exact shifts_2
  exact shifts_more n h0 h1 h2

theorem Try.own : ownKnob Try.prog.godebug = none := by kernel_rfl

set_option maxRecDepth 100000 in
theorem sigmaShifts_lifted (os : Os) (started : os.Started) (H : Type) (enc : TypeId × Value → H) :
    ReturnsInHanded {} Try.checked os 3 .any (Rows.sigmaShiftsSpec.pre6 enc Try.prog Try.f3 Rows.sigmaShiftsRow.domain false) (Rows.sigmaShiftsSpec.post enc Try.prog Try.f3 false true false false) := by
  refine returnsInHanded_of_change (C := Try.checked) Try.own started (by kernel_rfl) Try.func3
    (ChangeSpec.witness6 (enc := enc) (C := Try.checked) false ⟨#[], #[.int .i64 0], []⟩ 8 (by kernel_rfl) (by kernel_rfl) (by kernel_rfl) (by kernel_rfl)) ?_
  intro W base args ds gs before hval0 hW _ _
  have hval : ∀ (j : Nat) t v, Try.f3.params[j]? = some t → args[j]? = some v → Value.okWide Try.prog W .any base t v := hval0
  have hW' := hW
  obtain ⟨p, q, hA0, hV, rfl, _, _⟩ := hW
  have hA : DataW.TrodAll enc Try.prog W 0 (fun _ => true) true Try.f3.params.toList args.toList ds p := hA0
  rw [Try.params3] at hA hval
  obtain ⟨v0, d0, rfl, rfl, h0⟩ := trodAll_one hA
  obtain ⟨rfl, rfl⟩ := trodVars_none hV
  obtain ⟨x0, rfl, rfl, rfl, b0⟩ := open_int (k := .i64) Try.underlying3 (hval 0 _ v0 rfl rfl) h0
  clear hA0 hval0
  simp only [List.append_nil] at hW'
  obtain ⟨v, hv, hrun⟩ := sigmaShifts_gives x0 b0
  simp only [AV.val?, Option.some.injEq] at hv
  subst hv
  refine (hrun W [_] ⟨rfl, trivial⟩).mono fun e W' ⟨he, hb⟩ => ?_
  subst he
  exact ⟨_, rfl, _, _, _, [], [], [], hW', trodAll_mk1 (shut_bool Try.underlying4 true), trodAll_mk1 (shut_int Try.underlying3 b0), rfl, hb.frame _, fun h => by cases h⟩

theorem sigmaShifts_holds : Rows.SigmaShiftsSaid :=
  OpenClaim.holds_of_wide 3 Try.f3 rfl rfl rfl rfl rfl rfl rfl ⟨rfl, rfl, rfl, rfl, rfl⟩ rfl rfl rfl rfl rfl (by kernel_rfl) Try.func3 (by kernel_rfl)
    (of_decide_eq_true (by kernel_rfl)) (by unfold Func.isWrapper; first | (rw [if_pos (by decide +kernel)]; kernel_rfl) | (rw [if_neg (by decide +kernel)]; exact ⟨rfl, rfl⟩))
    (fun os started H enc _ => sigmaShifts_lifted os started H enc)
end Go.Proofs.Ytjhnoekljlldmaa
