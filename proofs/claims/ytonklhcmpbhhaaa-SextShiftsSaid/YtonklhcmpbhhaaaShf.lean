/- Whatever two elements of the sextic field are given, chirographlaw06.SextShifts says true: a shift is a product with v. -/
import Derived.Test.YtonklhcmpbhhaaaSh0
import Derived.Test.YtonklhcmpbhhaaaAl6
import Derived.Test.YtonklhcmpbhhaaaOpt
import Derived.Test.YtonklhcmpbhhaaaRows
set_option linter.unusedSimpArgs false
set_option linter.unusedVariables false
namespace Go.Proofs.Ytonklhcmpbhhaaa
open Go.Ev Go.ChangeShapes Go.WideShapes Go.ChangeAt Go.RowKit

theorem sextShifts_gives (a b : N6) (ha : small6 a) (hb : small6 b) : Gives Try.prog 10 [.t (.ag (n6 a)), .t (.ag (n6 b))] (.v (.bool true)) :=
  fn_gives (P := Try.prog) (env := [eAlive6, eV6, eOne6, eSMul, eSAdd, eSShf]) ⟨eAlive6_ok, eV6_ok, eOne6_ok, eSMul_ok, eSAdd_ok, eSShf_ok, trivial⟩ Try.func10 0 o0 (by kernel_rfl)
    (And.intro (show flat (q6 (shf6 (add6 (of6 a) (of6 b)))) = flat (q6 (add6 (shf6 (of6 a)) (shf6 (of6 b)))) from (by rw [shf_add]))
    (And.intro (show sm6 (.inl (shf6 (of6 a))) ∧ sm6 (.inl (shf6 (of6 b))) from ⟨trivial, trivial⟩)
    (And.intro (show sm6 (.inr b) from hb)
    (And.intro (show sm6 (.inr a) from ha)
    (And.intro (show sm6 (.inl (add6 (of6 a) (of6 b))) from trivial)
    (And.intro (show sm6 (.inr a) ∧ sm6 (.inr b) from ⟨ha, hb⟩)
    (And.intro (show flat (q6 (shf6 (mul6 (of6 a) (of6 b)))) = flat (q6 (mul6 (shf6 (of6 a)) (of6 b))) from (by rw [shf_mul]))
    (And.intro (show sm6 (.inl (shf6 (of6 a))) ∧ sm6 (.inr b) from ⟨trivial, hb⟩)
    (And.intro (show sm6 (.inr a) from ha)
    (And.intro (show sm6 (.inl (mul6 (of6 a) (of6 b))) from trivial)
    (And.intro (show sm6 (.inr a) ∧ sm6 (.inr b) from ⟨ha, hb⟩)
    (And.intro (show flat (q6 (shf6 (shf6 (shf6 (of6 a))))) = flat (q6 (mul6 (of6 a) (of6 moreN))) from (by rw [shf_more]))
    (And.intro (show sm6 (.inr a) ∧ sm6 (.inr moreN) from ⟨ha, smallMore⟩)
    (And.intro (show sm6 (.inl (shf6 (shf6 (of6 a)))) from trivial)
    (And.intro (show sm6 (.inl (shf6 (of6 a))) from trivial)
    (And.intro (show sm6 (.inr a) from ha)
    (And.intro (show flat (q6 (shf6 (of6 a))) = flat (q6 (mul6 (of6 a) (of6 vN))) from (by rw [shf_v]))
    (And.intro (show sm6 (.inr a) ∧ sm6 (.inr vN) from ⟨ha, smallV⟩)
    (And.intro (show sm6 (.inr a) from ha)
    trivial)))))))))))))))))))

theorem Try.own : ownKnob Try.prog.godebug = none := by kernel_rfl

set_option maxRecDepth 100000 in
theorem sextShifts_lifted (os : Os) (started : os.Started) (H : Type) (enc : TypeId × Value → H) :
    ReturnsInHanded {} Try.checked os 10 .any (Rows.sextShiftsSpec.pre6 enc Try.prog Try.f10 Rows.sextShiftsRow.domain false) (Rows.sextShiftsSpec.post enc Try.prog Try.f10 false true false false) := by
  refine returnsInHanded_of_change (C := Try.checked) Try.own started (by kernel_rfl) Try.func10
    (ChangeSpec.witness6 (enc := enc) (C := Try.checked) false ⟨#[], #[.agg (Array.replicate 36 (.int .u64 0)), .agg (Array.replicate 36 (.int .u64 0))], []⟩ 8 (by kernel_rfl) (by kernel_rfl) (by kernel_rfl) (by kernel_rfl)) ?_
  intro W base args ds gs before hval0 hW _ _
  have hval : ∀ (j : Nat) t v, Try.f10.params[j]? = some t → args[j]? = some v → Value.okWide Try.prog W .any base t v := hval0
  have hW' := hW
  obtain ⟨p, q, hA0, hV, rfl, _, _⟩ := hW
  have hA : DataW.TrodAll enc Try.prog W 0 (fun _ => true) true Try.f10.params.toList args.toList ds p := hA0
  rw [Try.params10] at hA hval
  obtain ⟨v0, v1, d0, d1, p0, p1, rfl, rfl, rfl, h0, h1⟩ := trodAll_two hA
  obtain ⟨rfl, rfl⟩ := trodVars_none hV
  obtain ⟨c0, rfl, u0, l0, rfl, s0⟩ := open_flat 8 (by kernel_rfl) (by kernel_rfl) (hval 0 _ v0 rfl rfl) h0
  obtain ⟨c1, rfl, u1, l1, rfl, s1⟩ := open_flat 8 (by kernel_rfl) (by kernel_rfl) (hval 1 _ v1 rfl rfl) h1
  obtain ⟨a, sa, rfl⟩ := u_n6 c0 u0 (l0.trans (by kernel_rfl))
  obtain ⟨b, sb, rfl⟩ := u_n6 c1 u1 (l1.trans (by kernel_rfl))
  clear hA0 hval0
  simp only [List.append_nil] at hW'
  obtain ⟨v, hv, hrun⟩ := sextShifts_gives a b sa sb
  simp only [AV.val?, Option.some.injEq] at hv
  subst hv
  refine (hrun W [_, _] ⟨rfl, rfl, trivial⟩).mono fun e W' ⟨he, hb⟩ => ?_
  subst he
  exact ⟨_, rfl, _, _, _, [], [], [], hW', trodAll_mk1 (shut_bool Try.underlying4 true), trodAll_mk2 (s0 _ _ _ _) (s1 _ _ _ _), rfl, hb.frame _, fun h => by cases h⟩

theorem sextShifts_holds : Rows.SextShiftsSaid :=
  OpenClaim.holds_of_wide 10 Try.f10 rfl rfl rfl rfl rfl rfl rfl ⟨rfl, rfl, rfl, rfl, rfl⟩ rfl rfl rfl rfl rfl (by kernel_rfl) Try.func10 (by kernel_rfl)
    (of_decide_eq_true (by kernel_rfl)) (by unfold Func.isWrapper; first | (rw [if_pos (by decide +kernel)]; kernel_rfl) | (rw [if_neg (by decide +kernel)]; exact ⟨rfl, rfl⟩))
    (fun os started H enc _ => sextShifts_lifted os started H enc)
end Go.Proofs.Ytonklhcmpbhhaaa
