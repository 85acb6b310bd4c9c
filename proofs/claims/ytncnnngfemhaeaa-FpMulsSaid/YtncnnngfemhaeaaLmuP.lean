/- Whatever two numbers are given, chirographlaw04.FpMuls says true: the product and the inverse are as the document says. -/
import Derived.Test.YtncnnngfemhaeaaPwP
import Derived.Test.YtncnnngfemhaeaaPri
import Derived.Test.YtncnnngfemhaeaaRmP
import Derived.Test.YtncnnngfemhaeaaOpn
import Derived.Test.YtncnnngfemhaeaaRows
set_option linter.unusedSimpArgs false
set_option linter.unusedVariables false
namespace Go.Proofs.Ytncnnngfemhaeaa
open Go.Ev Go.ChangeShapes Go.WideShapes Go.ChangeAt Go.RowKit

theorem inv_orP (x : Fin Pp) : (x = 0 ∧ pwP x 4002409555221667393417789825735904156556882819939007885332058136124031650490837864442687629129015664037894272559785 = 0) ∨ (x ≠ 0 ∧ x * pwP x 4002409555221667393417789825735904156556882819939007885332058136124031650490837864442687629129015664037894272559785 = 1) := by
  by_cases h : x = 0
  · exact .inl ⟨h, by rw [h, inv_zeroP]⟩
  · exact .inr ⟨h, mul_invP h⟩
theorem fpMuls_gives (a b : Nat) (ha : a < 39402006196394479212279040100143613805079739270465446667948293404245721771497210611414266254884915640806627990306816) (hb : b < 39402006196394479212279040100143613805079739270465446667948293404245721771497210611414266254884915640806627990306816) : Gives Try.prog 4 [.t (.ag [.n 6 a]), .t (.ag [.n 6 b])] (.v (.bool true)) :=
  fn_gives (P := Try.prog) (env := [eAlP, eFMulP, eMulPr, eFInvP, eIsInvP, eCleanP]) ⟨eAlP_ok, eFMulP_ok, eMulPr_ok, eFInvP_ok, eIsInvP_ok, eCleanP_ok, trivial⟩ Try.func4 0 o0 (by kernel_rfl)
      (And.intro (show ((ofP a) = 0 ∧ (pwP (ofP a) 4002409555221667393417789825735904156556882819939007885332058136124031650490837864442687629129015664037894272559785) = 0) ∨ ((ofP a) ≠ 0 ∧ (ofP a) * (pwP (ofP a) 4002409555221667393417789825735904156556882819939007885332058136124031650490837864442687629129015664037894272559785) = 1) from inv_orP (ofP a)) 
      (And.intro (show smtP (.inr a) from ha) 
      (And.intro (show flat [.q ((ofP a) * (ofP b))] = flat [.q ((ofP a) * (ofP b))] from rfl) 
      (And.intro (show smtP (.inr a) ∧ smtP (.inr b) from ⟨ha, hb⟩) 
      (And.intro (show b < 39402006196394479212279040100143613805079739270465446667948293404245721771497210611414266254884915640806627990306816 from hb) 
      (And.intro (show a < 39402006196394479212279040100143613805079739270465446667948293404245721771497210611414266254884915640806627990306816 from ha) trivial))))))

theorem Try.own : ownKnob Try.prog.godebug = none := by kernel_rfl

set_option maxRecDepth 100000 in
theorem fpMuls_lifted (os : Os) (started : os.Started) (H : Type) (enc : TypeId × Value → H) :
    ReturnsInHanded {} Try.checked os 4 .any (Rows.fpMulsSpec.pre6 enc Try.prog Try.f4 Rows.fpMulsRow.domain false) (Rows.fpMulsSpec.post enc Try.prog Try.f4 false true false false) := by
  refine returnsInHanded_of_change (C := Try.checked) Try.own started (by kernel_rfl) Try.func4
    (ChangeSpec.witness6 (enc := enc) (C := Try.checked) false ⟨#[], #[.agg (Array.replicate 6 (.int .u64 0)), .agg (Array.replicate 6 (.int .u64 0))], []⟩ 8 (by kernel_rfl) (by kernel_rfl) (by kernel_rfl) (by kernel_rfl)) ?_
  intro W base args ds gs before hval0 hW _ _
  have hval : ∀ (j : Nat) t v, Try.f4.params[j]? = some t → args[j]? = some v → Value.okWide Try.prog W .any base t v := hval0
  have hW' := hW
  obtain ⟨p, q, hA0, hV, rfl, _, _⟩ := hW
  have hA : DataW.TrodAll enc Try.prog W 0 (fun _ => true) true Try.f4.params.toList args.toList ds p := hA0
  rw [Try.params4] at hA hval
  obtain ⟨v0, v1, d0, d1, p0, p1, rfl, rfl, rfl, h0, h1⟩ := trodAll_two hA
  obtain ⟨rfl, rfl⟩ := trodVars_none hV
  obtain ⟨c0, rfl, u0, l0, rfl, s0⟩ := open_flat 8 (by kernel_rfl) (by kernel_rfl) (hval 0 _ v0 rfl rfl) h0
  obtain ⟨x0, b0, rfl⟩ := u_limbs 6 c0 u0 (l0.trans (by kernel_rfl))
  replace b0 := Nat.lt_of_lt_of_eq b0 (show _ = 39402006196394479212279040100143613805079739270465446667948293404245721771497210611414266254884915640806627990306816 from rfl)
  obtain ⟨c1, rfl, u1, l1, rfl, s1⟩ := open_flat 8 (by kernel_rfl) (by kernel_rfl) (hval 1 _ v1 rfl rfl) h1
  obtain ⟨x1, b1, rfl⟩ := u_limbs 6 c1 u1 (l1.trans (by kernel_rfl))
  replace b1 := Nat.lt_of_lt_of_eq b1 (show _ = 39402006196394479212279040100143613805079739270465446667948293404245721771497210611414266254884915640806627990306816 from rfl)
  clear hA0 hval0
  simp only [List.append_nil] at hW'
  obtain ⟨v, hv, hrun⟩ := fpMuls_gives x0 x1 b0 b1
  simp only [AV.val?, Option.some.injEq] at hv
  subst hv
  refine (hrun W [_, _] ⟨rfl, rfl, trivial⟩).mono fun e W' ⟨he, hb⟩ => ?_
  subst he
  exact ⟨_, rfl, _, _, _, [], [], [], hW', trodAll_mk1 (shut_bool Try.underlying4 true), trodAll_mk2 (s0 _ _ _ _) (s1 _ _ _ _), rfl, hb.frame _, fun h => by cases h⟩

theorem fpMuls_holds : Rows.FpMulsSaid :=
  OpenClaim.holds_of_wide 4 Try.f4 rfl rfl rfl rfl rfl rfl rfl ⟨rfl, rfl, rfl, rfl, rfl⟩ rfl rfl rfl rfl rfl (by kernel_rfl) Try.func4 (by kernel_rfl)
    (of_decide_eq_true (by kernel_rfl)) (by unfold Func.isWrapper; first | (rw [if_pos (by decide +kernel)]; kernel_rfl) | (rw [if_neg (by decide +kernel)]; exact ⟨rfl, rfl⟩))
    (fun os started H enc _ => fpMuls_lifted os started H enc)
end Go.Proofs.Ytncnnngfemhaeaa
