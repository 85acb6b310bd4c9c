/- Whatever bytes are given, chirographlaw23.FormatParts says true: bytes of the right length are refused for just their first part that may not be; else they are the value of their parts. -/
import Derived.Test.YtmbllhibdbeplaaQGl
import Derived.Test.YtmbllhibdbeplaaQZhOpt
import Derived.ChangeMaps5
import Derived.Test.YtmbllhibdbeplaaRows
/- Whatever bytes are given, chirographlaw23.FormatParts says true: bytes of the right length are refused for just their first part that may not be; else they are the value of their parts. -/
set_option linter.unusedSimpArgs false
set_option linter.unusedVariables false
namespace Go.Proofs.Ytmbllhibdbeplaa
open Go.Ev Go.ChangeShapes Go.WideShapes Go.ChangeAt Go.RowKit
theorem Try.own : ownKnob Try.prog.godebug = none := by kernel_rfl

set_option maxRecDepth 100000 in
theorem formatParts_lifted (os : Os) (started : os.Started) (H : Type) (enc : TypeId × Value → H) :
    ReturnsInHanded {} Try.checked os 6 .any (Rows.formatPartsSpec.pre6 enc Try.prog Try.f6 Rows.formatPartsRow.domain false) (Rows.formatPartsSpec.post enc Try.prog Try.f6 false true false false) := by
  refine returnsInHanded_of_change (C := Try.checked) Try.own started (by kernel_rfl) Try.func6
    (ChangeSpec.witness6 (enc := enc) (C := Try.checked) false ⟨#[], #[.string ByteArray.empty], []⟩ 8 (by kernel_rfl) (by kernel_rfl) (by kernel_rfl) (by kernel_rfl)) ?_
  intro W base args ds gs before hval0 hW _ _
  have hval : ∀ (j : Nat) t v, Try.f6.params[j]? = some t → args[j]? = some v → Value.okWide Try.prog W .any base t v := hval0
  have hW' := hW
  obtain ⟨p, q, hA0, hV, rfl, _, _⟩ := hW
  have hA : DataW.TrodAll enc Try.prog W 0 (fun _ => true) true Try.f6.params.toList args.toList ds p := hA0
  rw [Try.params6] at hA hval
  obtain ⟨v0, d0, rfl, rfl, h0⟩ := trodAll_one hA
  obtain ⟨rfl, rfl⟩ := trodVars_none hV
  obtain ⟨x0, rfl, rfl, rfl, b0⟩ := Go.ChangeMaps.open_string Try.underlying9 (hval 0 _ v0 rfl rfl) h0
  clear hA0 hval0
  simp only [List.append_nil] at hW'
  obtain ⟨v, hv, hrun⟩ := formatParts_gives x0 b0
  simp only [AV.val?, Option.some.injEq] at hv
  subst hv
  refine (hrun W [_] ⟨rfl, trivial⟩).mono fun e W' ⟨he, hb⟩ => ?_
  subst he
  exact ⟨_, rfl, _, _, _, [], [], [], hW', trodAll_mk1 (shut_bool Try.underlying4 true), trodAll_mk1 (Go.ChangeMaps.shut_string Try.underlying9 b0), rfl, hb.frame _, fun h => by cases h⟩

theorem formatParts_holds : Rows.FormatPartsSaid :=
  OpenClaim.holds_of_wide 6 Try.f6 rfl rfl rfl rfl rfl rfl rfl ⟨rfl, rfl, rfl, rfl, rfl⟩ rfl rfl rfl rfl rfl (by kernel_rfl) Try.func6 (by kernel_rfl)
    (of_decide_eq_true (by kernel_rfl)) (by unfold Func.isWrapper; first | (rw [if_pos (by decide +kernel)]; kernel_rfl) | (rw [if_neg (by decide +kernel)]; exact ⟨rfl, rfl⟩))
    (fun os started H enc _ => formatParts_lifted os started H enc)
end Go.Proofs.Ytmbllhibdbeplaa
