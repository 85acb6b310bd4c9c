/- Whatever number is given, chirographtop.TopBytes says true: a multiple of the generator is written, read, added to its negative as read, and gone. -/
import Derived.Test.YtobgpmclgacbmaaQZhOpn
import Derived.Test.YtobgpmclgacbmaaQGtb
import Derived.Test.YtobgpmclgacbmaaQHa
import Derived.Test.YtobgpmclgacbmaaRows
/- Arguments that are points: two coordinates of numbers of 64 bits and a bool. Nothing here names a program. -/
set_option linter.unusedSimpArgs false
set_option linter.unusedVariables false
namespace Go.Ev
open Go.ChangeShapes Go.WideShapes Go.ChangeAt Go.RowKit

section
variable {H : Type} {enc : TypeId × Value → H} {P : Program} {w w' : World} {base base' : Nat} {spare spare' : Nat → Bool} {held held' : Bool}

end

end Go.Ev

/- Whatever number is given, chirographtop.TopBytes says true: a multiple of the generator is written, read, added to its negative as read, and gone. -/
set_option linter.unusedSimpArgs false
set_option linter.unusedVariables false
namespace Go.Proofs.Ytobgpmclgacbmaa
open Go.Ev Go.ChangeShapes Go.WideShapes Go.ChangeAt Go.RowKit
theorem Try.own : ownKnob Try.prog.godebug = none := by kernel_rfl
set_option maxRecDepth 100000 in
theorem topBytes_lifted (os : Os) (started : os.Started) (H : Type) (enc : TypeId × Value → H) :
    ReturnsInHanded {} Try.checked os 3 .any (Rows.topBytesSpec.pre6 enc Try.prog Try.f3 Rows.topBytesRow.domain false) (Rows.topBytesSpec.post enc Try.prog Try.f3 false true false false) := by
  refine returnsInHanded_of_change (C := Try.checked) Try.own started (by kernel_rfl) Try.func3
    (ChangeSpec.witness6 (enc := enc) (C := Try.checked) false ⟨#[], #[.agg (Array.replicate 4 (.int .u64 0))], []⟩ 8 (by kernel_rfl) (by kernel_rfl) (by kernel_rfl) (by kernel_rfl)) ?_
  intro W base args ds gs before hval0 hW _ _
  have hval : ∀ (j : Nat) t v, Try.f3.params[j]? = some t → args[j]? = some v → Value.okWide Try.prog W .any base t v := hval0
  have hW' := hW
  obtain ⟨p, q, hA0, hV, rfl, _, _⟩ := hW
  have hA : DataW.TrodAll enc Try.prog W 0 (fun _ => true) true Try.f3.params.toList args.toList ds p := hA0
  rw [Try.params3] at hA hval
  obtain ⟨v0, d0, rfl, rfl, h0⟩ := trodAll_one hA
  obtain ⟨rfl, rfl⟩ := trodVars_none hV
  obtain ⟨ca, rfl, ua, la, rfl, sa⟩ := open_flat 8 (by kernel_rfl) (by kernel_rfl) (hval 0 _ v0 rfl rfl) h0
  obtain ⟨k, bk, rfl⟩ := u_limbs 4 ca ua (la.trans (by kernel_rfl))
  replace bk := Nat.lt_of_lt_of_eq bk (show _ = 115792089237316195423570985008687907853269984665640564039457584007913129639936 from rfl)
  clear hA0 hval0
  simp only [List.append_nil] at hW'
  obtain ⟨v, hv, hrun⟩ := topBytes_gives k bk
  simp only [AV.val?, Option.some.injEq] at hv
  subst hv
  refine (hrun W [_] ⟨rfl, trivial⟩).mono fun e W' ⟨he, hb⟩ => ?_
  subst he
  exact ⟨_, rfl, _, _, _, [], [], [], hW', trodAll_mk1 (shut_bool Try.underlying4 true), trodAll_mk1 (sa _ _ _ _), rfl, hb.frame _, fun h => by cases h⟩

theorem topBytes_holds : Rows.TopBytesSaid :=
  OpenClaim.holds_of_wide 3 Try.f3 rfl rfl rfl rfl rfl rfl rfl ⟨rfl, rfl, rfl, rfl, rfl⟩ rfl rfl rfl rfl rfl (by kernel_rfl) Try.func3 (by kernel_rfl)
    (of_decide_eq_true (by kernel_rfl)) (by unfold Func.isWrapper; first | (rw [if_pos (by decide +kernel)]; kernel_rfl) | (rw [if_neg (by decide +kernel)]; exact ⟨rfl, rfl⟩))
    (fun os started H enc _ => topBytes_lifted os started H enc)
end Go.Proofs.Ytobgpmclgacbmaa
