/- Whatever bytes are given, chirographlaw23.FormatShapes says true: bytes with another beginning or another length are refused, in order, as the document says; others are a value, or refused for one of their parts. -/
import Derived.Test.YtokjhbmmdmeafaaGreatQZhFsh
import Derived.Test.YtokjhbmmdmeafaaGreatQHa
import Derived.ChangeMaps5
import Derived.Test.YtokjhbmmdmeafaaGreatRows
set_option linter.unusedSimpArgs false
set_option linter.unusedVariables false
namespace Go.Proofs.YtokjhbmmdmeafaaGreat
open Go.Ev Go.ChangeShapes Go.WideShapes Go.ChangeAt Go.RowKit
open Go.Proofs.Tryz
theorem Tryz.own : ownKnob prog.godebug = none := by kernel_rfl
set_option maxRecDepth 100000 in
theorem formatShapes_lifted (os : Os) (started : os.Started) (H : Type) (enc : TypeId × Value -> H) :
  ReturnsInHanded {} Tryz.checked os 3 .any (Rows.formatShapesSpec.pre6 enc prog f3 Rows.formatShapesRow.domain false) (Rows.formatShapesSpec.post enc prog f3 false true false false) := by
 refine returnsInHanded_of_change (C := Tryz.checked) Tryz.own started (by kernel_rfl) func3
  (ChangeSpec.witness6 (enc := enc) (C := Tryz.checked) false ⟨#[], #[.string ByteArray.empty], []⟩ 8 (by kernel_rfl) (by kernel_rfl) (by kernel_rfl) (by kernel_rfl)) ?_
 intro W base args ds gs before hval0 hW _ _
 have hval : ∀ (j : Nat) t v, f3.params[j]? = some t -> args[j]? = some v -> Value.okWide prog W .any base t v := hval0
 have hW' := hW
 obtain ⟨p, q, hA0, hV, rfl, _, _⟩ := hW
 have hA : DataW.TrodAll enc prog W 0 (fun _ => true) true f3.params.toList args.toList ds p := hA0
 rw [Tryz.params3] at hA hval
 obtain ⟨v0, d0, rfl, rfl, h0⟩ := trodAll_one hA
 obtain ⟨rfl, rfl⟩ := trodVars_none hV
 obtain ⟨x0, rfl, rfl, rfl, b0⟩ := Go.ChangeMaps.open_string Tryz.underlying9 (hval 0 _ v0 rfl rfl) h0
 clear hA0 hval0
 simp only [List.append_nil] at hW'
 obtain ⟨v, hv, hrun⟩ := xV x0 b0
 simp only [AV.val?, oi0] at hv
 subst hv
 refine (hrun W [_] ⟨rfl, tt0⟩).mono fun e W' ⟨he, hb⟩ => ?_
 subst he
 exact ⟨_, rfl, _, _, _, [], [], [], hW', trodAll_mk1 (shut_bool Tryz.underlying4 true), trodAll_mk1 (Go.ChangeMaps.shut_string Tryz.underlying9 b0), rfl, hb.frame _, fun h => by cases h⟩
theorem formatShapes_holds : Rows.FormatShapesSaid :=
 OpenClaim.holds_of_wide 3 f3 rfl rfl rfl rfl rfl rfl rfl ⟨rfl, rfl, rfl, rfl, rfl⟩ rfl rfl rfl rfl rfl (by kernel_rfl) func3 (by kernel_rfl)
  (of_decide_eq_true (by kernel_rfl)) (by unfold Func.isWrapper; first | (rw [if_pos (by decide +kernel)]; kernel_rfl) | (rw [if_neg (by decide +kernel)]; exact rr0))
  (fun os started H enc _ => formatShapes_lifted os started H enc)
end Go.Proofs.YtokjhbmmdmeafaaGreat
