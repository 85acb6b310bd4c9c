/- Whatever number and whatever bytes are given, chirographlaw04.FpBack says true: what is put is got again, and what is got, put again, is the bytes. -/
import Derived.Test.YtoahfmgdlpgjoaaByP
import Derived.Test.YtoahfmgdlpgjoaaOpn
import Derived.ChangeMaps5
import Derived.Test.YtoahfmgdlpgjoaaRows
set_option linter.unusedSimpArgs false
set_option linter.unusedVariables false
namespace Go.Proofs.Ytoahfmgdlpgjoaa
open Go.Ev Go.ChangeShapes Go.WideShapes Go.ChangeAt Go.RowKit

theorem back_P (x : Fin Pp) : deN 48 (beL 48 x.val) = x.val := de_be 48 x.val (Nat.lt_trans x.isLt (by decide))
theorem fpBack_len (a : Nat) (l : List UInt8) (ha : a < 39402006196394479212279040100143613805079739270465446667948293404245721771497210611414266254884915640806627990306816) (h : l.length ≠ 48) : Gives Try.prog 4 [.t (.ag [.n 6 a]), .t (.v (.string (ofL l)))] (.v (.bool true)) :=
  fn_gives_at (P := Try.prog) (X := rulesX _) (env := [eAlP, efgetP, eFPutP, eFCleanP, eFRightP]) ⟨eAlP_ok, efgetP_ok, eFPutP_ok, eFCleanP_ok, eFRightP_ok, trivial⟩ Try.func4 0 (oL [(4, wO 1), (12, wO 0), (28, wO 0)]) (by kernel_rfl) ⟨_, rfl⟩
      (And.intro (show flat [.q (ofP (deN 48 (beL 48 (ofP a).val)))] = flat [.q (ofP a)] from by rw [back_P, ofP_val])
      (And.intro (show smtP (.inr a) from ha)
      (And.intro (show l.length ≠ 48 from h)
      (And.intro (show (beL 48 (ofP a).val).length = 48 ∧ deN 48 (beL 48 (ofP a).val) < 4002409555221667393417789825735904156556882819939007885332058136124031650490837864442687629129015664037894272559787 from ⟨beL_length _ _, by rw [back_P]; exact (ofP a).isLt⟩)
      (And.intro (show smtP (.inr a) from ha) trivial)))))
theorem fpBack_ok (a : Nat) (l : List UInt8) (ha : a < 39402006196394479212279040100143613805079739270465446667948293404245721771497210611414266254884915640806627990306816) (h : l.length = 48) (hp : deN 48 l < 4002409555221667393417789825735904156556882819939007885332058136124031650490837864442687629129015664037894272559787) : Gives Try.prog 4 [.t (.ag [.n 6 a]), .t (.v (.string (ofL l)))] (.v (.bool true)) :=
  fn_gives_at (P := Try.prog) (X := rulesX _) (env := [eAlP, efgetP, eFPutP, eFCleanP, eFRightP]) ⟨eAlP_ok, efgetP_ok, eFPutP_ok, eFCleanP_ok, eFRightP_ok, trivial⟩ Try.func4 0 (oL [(4, wO 1), (12, wO 1), (28, wO 0), (37, wO 1), (40, wO 0)]) (by kernel_rfl) ⟨_, rfl⟩
      (And.intro (show (ofP (deN 48 l)).val < 39402006196394479212279040100143613805079739270465446667948293404245721771497210611414266254884915640806627990306816 ∧ (ofP (deN 48 l)).val < 4002409555221667393417789825735904156556882819939007885332058136124031650490837864442687629129015664037894272559787 from ⟨Nat.lt_trans (ofP (deN 48 l)).isLt (by decide), (ofP (deN 48 l)).isLt⟩)
      (And.intro (show ((ofL (beL 48 (ofP (deN 48 l)).val)).toList == (ofL l).toList) = true from by rw [show (ofP (deN 48 l)).val = deN 48 l from Nat.mod_eq_of_lt hp, be_de h]; simp)
      (And.intro (show smtP (.inl (ofP (deN 48 l))) from trivial)
      (And.intro (show flat [.q (ofP (deN 48 (beL 48 (ofP a).val)))] = flat [.q (ofP a)] from by rw [back_P, ofP_val])
      (And.intro (show smtP (.inr a) from ha)
      (And.intro (show l.length = 48 ∧ deN 48 l < 4002409555221667393417789825735904156556882819939007885332058136124031650490837864442687629129015664037894272559787 from ⟨h, hp⟩)
      (And.intro (show (beL 48 (ofP a).val).length = 48 ∧ deN 48 (beL 48 (ofP a).val) < 4002409555221667393417789825735904156556882819939007885332058136124031650490837864442687629129015664037894272559787 from ⟨beL_length _ _, by rw [back_P]; exact (ofP a).isLt⟩)
      (And.intro (show smtP (.inr a) from ha) trivial))))))))
theorem fpBack_no (a : Nat) (l : List UInt8) (ha : a < 39402006196394479212279040100143613805079739270465446667948293404245721771497210611414266254884915640806627990306816) (h : l.length = 48) (hp : 4002409555221667393417789825735904156556882819939007885332058136124031650490837864442687629129015664037894272559787 ≤ deN 48 l) : Gives Try.prog 4 [.t (.ag [.n 6 a]), .t (.v (.string (ofL l)))] (.v (.bool true)) :=
  fn_gives_at (P := Try.prog) (X := rulesX _) (env := [eAlP, efgetP, eFPutP, eFCleanP, eFRightP]) ⟨eAlP_ok, efgetP_ok, eFPutP_ok, eFCleanP_ok, eFRightP_ok, trivial⟩ Try.func4 0 (oL [(4, wO 1), (12, wO 2), (28, wO 0)]) (by kernel_rfl) ⟨_, rfl⟩
      (And.intro (show flat [.q (ofP (deN 48 (beL 48 (ofP a).val)))] = flat [.q (ofP a)] from by rw [back_P, ofP_val])
      (And.intro (show smtP (.inr a) from ha)
      (And.intro (show l.length = 48 ∧ 4002409555221667393417789825735904156556882819939007885332058136124031650490837864442687629129015664037894272559787 ≤ deN 48 l from ⟨h, hp⟩)
      (And.intro (show (beL 48 (ofP a).val).length = 48 ∧ deN 48 (beL 48 (ofP a).val) < 4002409555221667393417789825735904156556882819939007885332058136124031650490837864442687629129015664037894272559787 from ⟨beL_length _ _, by rw [back_P]; exact (ofP a).isLt⟩)
      (And.intro (show smtP (.inr a) from ha) trivial)))))
theorem fpBack_gives (a : Nat) (s : ByteArray) (ha : a < 39402006196394479212279040100143613805079739270465446667948293404245721771497210611414266254884915640806627990306816) (hs : s.size ≤ maxLen) : Gives Try.prog 4 [.t (.ag [.n 6 a]), .t (.v (.string s))] (.v (.bool true)) := by
  obtain ⟨l, rfl⟩ : ∃ l, s = ofL l := ⟨s.data.toList, by unfold ofL; rw [Array.toArray_toList]⟩
  by_cases h : l.length = 48
  · by_cases hp : deN 48 l < 4002409555221667393417789825735904156556882819939007885332058136124031650490837864442687629129015664037894272559787
    · exact fpBack_ok a l ha h hp
    · exact fpBack_no a l ha h (Nat.le_of_not_lt hp)
  · exact fpBack_len a l ha h
theorem Try.own : ownKnob Try.prog.godebug = none := by kernel_rfl

set_option maxRecDepth 100000 in
theorem fpBack_lifted (os : Os) (started : os.Started) (H : Type) (enc : TypeId × Value → H) :
    ReturnsInHanded {} Try.checked os 4 .any (Rows.fpBackSpec.pre6 enc Try.prog Try.f4 Rows.fpBackRow.domain false) (Rows.fpBackSpec.post enc Try.prog Try.f4 false true false false) := by
  refine returnsInHanded_of_change (C := Try.checked) Try.own started (by kernel_rfl) Try.func4
    (ChangeSpec.witness6 (enc := enc) (C := Try.checked) false ⟨#[], #[.agg (Array.replicate 6 (.int .u64 0)), .string ByteArray.empty], []⟩ 8 (by kernel_rfl) (by kernel_rfl) (by kernel_rfl) (by kernel_rfl)) ?_
  intro W base args ds gs before hval0 hW _ _
  have hval : ∀ (j : Nat) t v, Try.f4.params[j]? = some t → args[j]? = some v → Value.okWide Try.prog W .any base t v := hval0
  have hW' := hW
  obtain ⟨p, q, hA0, hV, rfl, _, _⟩ := hW
  have hA : DataW.TrodAll enc Try.prog W 0 (fun _ => true) true Try.f4.params.toList args.toList ds p := hA0
  rw [Try.params4] at hA hval
  obtain ⟨v0, v1, d0, d1, p0, p1, rfl, rfl, rfl, h0, h1⟩ := trodAll_two hA
  obtain ⟨rfl, rfl⟩ := trodVars_none hV
  obtain ⟨c0, rfl, u0, l0, rfl, s0⟩ := open_flat 8 (by kernel_rfl) (by kernel_rfl) (hval 0 _ v0 rfl rfl) h0
  obtain ⟨x0, b0, rfl⟩ := u_limbs 6 c0 u0 (l0.trans (by kernel_rfl))
  replace b0 := Nat.lt_of_lt_of_eq b0 (show _ = 39402006196394479212279040100143613805079739270465446667948293404245721771497210611414266254884915640806627990306816 from rfl)
  obtain ⟨x1, rfl, rfl, rfl, b1⟩ := Go.ChangeMaps.open_string Try.underlying9 (hval 1 _ v1 rfl rfl) h1
  clear hA0 hval0
  simp only [List.append_nil] at hW'
  obtain ⟨v, hv, hrun⟩ := fpBack_gives x0 x1 b0 b1
  simp only [AV.val?, Option.some.injEq] at hv
  subst hv
  refine (hrun W [_, _] ⟨rfl, rfl, trivial⟩).mono fun e W' ⟨he, hb⟩ => ?_
  subst he
  exact ⟨_, rfl, _, _, _, [], [], [], hW', trodAll_mk1 (shut_bool Try.underlying4 true), trodAll_mk2 (s0 _ _ _ _) (Go.ChangeMaps.shut_string Try.underlying9 b1), rfl, hb.frame _, fun h => by cases h⟩

theorem fpBack_holds : Rows.FpBackSaid :=
  OpenClaim.holds_of_wide 4 Try.f4 rfl rfl rfl rfl rfl rfl rfl ⟨rfl, rfl, rfl, rfl, rfl⟩ rfl rfl rfl rfl rfl (by kernel_rfl) Try.func4 (by kernel_rfl)
    (of_decide_eq_true (by kernel_rfl)) (by unfold Func.isWrapper; first | (rw [if_pos (by decide +kernel)]; kernel_rfl) | (rw [if_neg (by decide +kernel)]; exact ⟨rfl, rfl⟩))
    (fun os started H enc _ => fpBack_lifted os started H enc)
end Go.Proofs.Ytoahfmgdlpgjoaa
