/- Whatever number and whatever bytes are given, chirographlaw03.FrBack says true: what is put is got again and hashed to itself, and what is got, put again, is the bytes. -/
import Derived.Test.YtoahfmgdlpgjoaaHsh
import Derived.Test.YtoahfmgdlpgjoaaOpn
import Derived.ChangeMaps5
import Derived.Test.YtoahfmgdlpgjoaaRows
set_option linter.unusedSimpArgs false
set_option linter.unusedVariables false
namespace Go.Proofs.Ytoahfmgdlpgjoaa
open Go.Ev Go.ChangeShapes Go.WideShapes Go.ChangeAt Go.RowKit

theorem back_S (x : Fin Rr) : deN 32 (beL 32 x.val) = x.val := de_be 32 x.val (Nat.lt_trans x.isLt (by decide))
theorem frBack_len (a : Nat) (l : List UInt8) (ha : a < 115792089237316195423570985008687907853269984665640564039457584007913129639936) (h : l.length ≠ 32) : Gives Try.prog 6 [.t (.ag [.n 4 a]), .t (.v (.string (ofL l)))] (.v (.bool true)) :=
  fn_gives_at (P := Try.prog) (X := rulesX _) (env := [eAlS, efgetS, eFPutS, eFCleanS, eFRightS, eFHash]) ⟨eAlS_ok, efgetS_ok, eFPutS_ok, eFCleanS_ok, eFRightS_ok, eFHash_ok, trivial⟩ Try.func6 0 (oL [(3, wO 0), (6, wO 1), (18, wO 0), (24, wO 0), (28, wO 0)]) (by kernel_rfl) ⟨_, rfl⟩
      (And.intro (show l.length ≠ 32 from h)
      (And.intro (show flat [.e (hsh (beL 32 (ofR a).val) (beL 32 (ofR a).val).length)] = flat [.e (ofR (deN 32 (beL 32 (ofR a).val)))] from by rw [beL_length]; rfl)
      (And.intro (show (beL 32 (ofR a).val).length ≤ 9223372036854775807 from by rw [beL_length]; decide)
      (And.intro (show flat [.e (ofR (deN 32 (beL 32 (ofR a).val)))] = flat [.e (ofR a)] from by rw [back_S, ofR_val])
      (And.intro (show smtS (.inr a) from ha)
      (And.intro (show (beL 32 (ofR a).val).length = 32 ∧ deN 32 (beL 32 (ofR a).val) < 52435875175126190479447740508185965837690552500527637822603658699938581184513 from ⟨beL_length _ _, by rw [back_S]; exact (ofR a).isLt⟩)
      (And.intro (show smtS (.inr a) from ha) trivial)))))))
theorem frBack_ok (a : Nat) (l : List UInt8) (ha : a < 115792089237316195423570985008687907853269984665640564039457584007913129639936) (h : l.length = 32) (hp : deN 32 l < 52435875175126190479447740508185965837690552500527637822603658699938581184513) : Gives Try.prog 6 [.t (.ag [.n 4 a]), .t (.v (.string (ofL l)))] (.v (.bool true)) :=
  fn_gives_at (P := Try.prog) (X := rulesX _) (env := [eAlS, efgetS, eFPutS, eFCleanS, eFRightS, eFHash]) ⟨eAlS_ok, efgetS_ok, eFPutS_ok, eFCleanS_ok, eFRightS_ok, eFHash_ok, trivial⟩ Try.func6 0 (oL [(3, wO 0), (6, wO 1), (18, wO 0), (24, wO 0), (28, wO 1), (43, wO 1), (46, wO 0)]) (by kernel_rfl) ⟨_, rfl⟩
      (And.intro (show (ofR (deN 32 l)).val < 115792089237316195423570985008687907853269984665640564039457584007913129639936 ∧ (ofR (deN 32 l)).val < 52435875175126190479447740508185965837690552500527637822603658699938581184513 from ⟨Nat.lt_trans (ofR (deN 32 l)).isLt (by decide), (ofR (deN 32 l)).isLt⟩)
      (And.intro (show ((ofL (beL 32 (ofR (deN 32 l)).val)).toList == (ofL l).toList) = true from by rw [show (ofR (deN 32 l)).val = deN 32 l from Nat.mod_eq_of_lt hp, be_de h]; simp)
      (And.intro (show smtS (.inl (ofR (deN 32 l))) from trivial)
      (And.intro (show l.length = 32 ∧ deN 32 l < 52435875175126190479447740508185965837690552500527637822603658699938581184513 from ⟨h, hp⟩)
      (And.intro (show flat [.e (hsh (beL 32 (ofR a).val) (beL 32 (ofR a).val).length)] = flat [.e (ofR (deN 32 (beL 32 (ofR a).val)))] from by rw [beL_length]; rfl)
      (And.intro (show (beL 32 (ofR a).val).length ≤ 9223372036854775807 from by rw [beL_length]; decide)
      (And.intro (show flat [.e (ofR (deN 32 (beL 32 (ofR a).val)))] = flat [.e (ofR a)] from by rw [back_S, ofR_val])
      (And.intro (show smtS (.inr a) from ha)
      (And.intro (show (beL 32 (ofR a).val).length = 32 ∧ deN 32 (beL 32 (ofR a).val) < 52435875175126190479447740508185965837690552500527637822603658699938581184513 from ⟨beL_length _ _, by rw [back_S]; exact (ofR a).isLt⟩)
      (And.intro (show smtS (.inr a) from ha) trivial))))))))))
theorem frBack_no (a : Nat) (l : List UInt8) (ha : a < 115792089237316195423570985008687907853269984665640564039457584007913129639936) (h : l.length = 32) (hp : 52435875175126190479447740508185965837690552500527637822603658699938581184513 ≤ deN 32 l) : Gives Try.prog 6 [.t (.ag [.n 4 a]), .t (.v (.string (ofL l)))] (.v (.bool true)) :=
  fn_gives_at (P := Try.prog) (X := rulesX _) (env := [eAlS, efgetS, eFPutS, eFCleanS, eFRightS, eFHash]) ⟨eAlS_ok, efgetS_ok, eFPutS_ok, eFCleanS_ok, eFRightS_ok, eFHash_ok, trivial⟩ Try.func6 0 (oL [(3, wO 0), (6, wO 1), (18, wO 0), (24, wO 0), (28, wO 2)]) (by kernel_rfl) ⟨_, rfl⟩
      (And.intro (show l.length = 32 ∧ 52435875175126190479447740508185965837690552500527637822603658699938581184513 ≤ deN 32 l from ⟨h, hp⟩)
      (And.intro (show flat [.e (hsh (beL 32 (ofR a).val) (beL 32 (ofR a).val).length)] = flat [.e (ofR (deN 32 (beL 32 (ofR a).val)))] from by rw [beL_length]; rfl)
      (And.intro (show (beL 32 (ofR a).val).length ≤ 9223372036854775807 from by rw [beL_length]; decide)
      (And.intro (show flat [.e (ofR (deN 32 (beL 32 (ofR a).val)))] = flat [.e (ofR a)] from by rw [back_S, ofR_val])
      (And.intro (show smtS (.inr a) from ha)
      (And.intro (show (beL 32 (ofR a).val).length = 32 ∧ deN 32 (beL 32 (ofR a).val) < 52435875175126190479447740508185965837690552500527637822603658699938581184513 from ⟨beL_length _ _, by rw [back_S]; exact (ofR a).isLt⟩)
      (And.intro (show smtS (.inr a) from ha) trivial)))))))
theorem frBack_gives (a : Nat) (s : ByteArray) (ha : a < 115792089237316195423570985008687907853269984665640564039457584007913129639936) (hs : s.size ≤ maxLen) : Gives Try.prog 6 [.t (.ag [.n 4 a]), .t (.v (.string s))] (.v (.bool true)) := by
  obtain ⟨l, rfl⟩ : ∃ l, s = ofL l := ⟨s.data.toList, (ofL_eta s).symm⟩
  by_cases h : l.length = 32
  · by_cases hp : deN 32 l < 52435875175126190479447740508185965837690552500527637822603658699938581184513
    · exact frBack_ok a l ha h hp
    · exact frBack_no a l ha h (Nat.le_of_not_lt hp)
  · exact frBack_len a l ha h
theorem Try.own : ownKnob Try.prog.godebug = none := by kernel_rfl

set_option maxRecDepth 100000 in
theorem frBack_lifted (os : Os) (started : os.Started) (H : Type) (enc : TypeId × Value → H) :
    ReturnsInHanded {} Try.checked os 6 .any (Rows.frBackSpec.pre6 enc Try.prog Try.f6 Rows.frBackRow.domain false) (Rows.frBackSpec.post enc Try.prog Try.f6 false true false false) := by
  refine returnsInHanded_of_change (C := Try.checked) Try.own started (by kernel_rfl) Try.func6
    (ChangeSpec.witness6 (enc := enc) (C := Try.checked) false ⟨#[], #[.agg (Array.replicate 4 (.int .u64 0)), .string ByteArray.empty], []⟩ 8 (by kernel_rfl) (by kernel_rfl) (by kernel_rfl) (by kernel_rfl)) ?_
  intro W base args ds gs before hval0 hW _ _
  have hval : ∀ (j : Nat) t v, Try.f6.params[j]? = some t → args[j]? = some v → Value.okWide Try.prog W .any base t v := hval0
  have hW' := hW
  obtain ⟨p, q, hA0, hV, rfl, _, _⟩ := hW
  have hA : DataW.TrodAll enc Try.prog W 0 (fun _ => true) true Try.f6.params.toList args.toList ds p := hA0
  rw [Try.params6] at hA hval
  obtain ⟨v0, v1, d0, d1, p0, p1, rfl, rfl, rfl, h0, h1⟩ := trodAll_two hA
  obtain ⟨rfl, rfl⟩ := trodVars_none hV
  obtain ⟨c0, rfl, u0, l0, rfl, s0⟩ := open_flat 8 (by kernel_rfl) (by kernel_rfl) (hval 0 _ v0 rfl rfl) h0
  obtain ⟨x0, b0, rfl⟩ := u_limbs 4 c0 u0 (l0.trans (by kernel_rfl))
  replace b0 := Nat.lt_of_lt_of_eq b0 (show _ = 115792089237316195423570985008687907853269984665640564039457584007913129639936 from rfl)
  obtain ⟨x1, rfl, rfl, rfl, b1⟩ := Go.ChangeMaps.open_string Try.underlying9 (hval 1 _ v1 rfl rfl) h1
  clear hA0 hval0
  simp only [List.append_nil] at hW'
  obtain ⟨v, hv, hrun⟩ := frBack_gives x0 x1 b0 b1
  simp only [AV.val?, Option.some.injEq] at hv
  subst hv
  refine (hrun W [_, _] ⟨rfl, rfl, trivial⟩).mono fun e W' ⟨he, hb⟩ => ?_
  subst he
  exact ⟨_, rfl, _, _, _, [], [], [], hW', trodAll_mk1 (shut_bool Try.underlying4 true), trodAll_mk2 (s0 _ _ _ _) (Go.ChangeMaps.shut_string Try.underlying9 b1), rfl, hb.frame _, fun h => by cases h⟩

theorem frBack_holds : Rows.FrBackSaid :=
  OpenClaim.holds_of_wide 6 Try.f6 rfl rfl rfl rfl rfl rfl rfl ⟨rfl, rfl, rfl, rfl, rfl⟩ rfl rfl rfl rfl rfl (by kernel_rfl) Try.func6 (by kernel_rfl)
    (of_decide_eq_true (by kernel_rfl)) (by unfold Func.isWrapper; first | (rw [if_pos (by decide +kernel)]; kernel_rfl) | (rw [if_neg (by decide +kernel)]; exact ⟨rfl, rfl⟩))
    (fun os started H enc _ => frBack_lifted os started H enc)
end Go.Proofs.Ytoahfmgdlpgjoaa
