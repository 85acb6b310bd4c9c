/- Whatever number and whatever bytes are given, chirographlaw03.FrBytes says true: numbers are written as bytes, bytes are read and hashed, as the document says. -/
import Derived.Test.YtoahfmgdlpgjoaaHsh
import Derived.Test.YtoahfmgdlpgjoaaOpn
import Derived.ChangeMaps5
import Derived.Test.YtoahfmgdlpgjoaaRows
set_option linter.unusedSimpArgs false
set_option linter.unusedVariables false
namespace Go.Proofs.Ytoahfmgdlpgjoaa
open Go.Ev Go.ChangeShapes Go.WideShapes Go.ChangeAt Go.RowKit

theorem frBytes_len (a : Nat) (l : List UInt8) (ha : a < 115792089237316195423570985008687907853269984665640564039457584007913129639936) (hl : l.length ≤ 5000) (hm : l.length ≤ 9223372036854775807) (h : l.length ≠ 32) : Gives Try.prog 5 [.t (.ag [.n 4 a]), .t (.v (.string (ofL l)))] (.v (.bool true)) :=
  fn_gives_at (P := Try.prog) (X := rulesX _) (env := [eAlS, efgetS, ergetS, eFPutS, eRPutS, eCleanS, eFHash, eRHash]) ⟨eAlS_ok, efgetS_ok, ergetS_ok, eFPutS_ok, eRPutS_ok, eCleanS_ok, eFHash_ok, eRHash_ok, trivial⟩ Try.func5 0 (oL [(4, wO 2), (6, wO 0), (14, wO 0), (28, wO 1)]) (by kernel_rfl) ⟨_, rfl⟩
      (And.intro (show flat [.e (hsh l l.length)] = flat [.e (hsh l l.length)] from rfl)
      (And.intro (show l.length ≤ 9223372036854775807 from hm)
      (And.intro (show l.length ≤ 9223372036854775807 from hm)
      (And.intro (show flat [.c (.int .u64 0), .c (.int .u64 0), .c (.int .u64 0), .c (.int .u64 0)] = flat [.c (.int .u64 0), .c (.int .u64 0), .c (.int .u64 0), .c (.int .u64 0)] from rfl)
      (And.intro (show ((ofL (beL 32 (ofR a).val)).toList == (ofL (beL 32 (ofR a).val)).toList) = true from by simp)
      (And.intro (show a < 115792089237316195423570985008687907853269984665640564039457584007913129639936 from ha)
      (And.intro (show smtS (.inr a) from ha)
      (And.intro (show l.length ≠ 32 from h)
      (And.intro (show l.length ≠ 32 from h)
      (And.intro (show decide (((l.length : Nat) : Int) > 5000) = false from decide_eq_false (by omega)) trivial))))))))))
theorem frBytes_ok (a : Nat) (l : List UInt8) (ha : a < 115792089237316195423570985008687907853269984665640564039457584007913129639936) (hl : l.length ≤ 5000) (hm : l.length ≤ 9223372036854775807) (h : l.length = 32) (hp : deN 32 l < 52435875175126190479447740508185965837690552500527637822603658699938581184513) : Gives Try.prog 5 [.t (.ag [.n 4 a]), .t (.v (.string (ofL l)))] (.v (.bool true)) :=
  fn_gives_at (P := Try.prog) (X := rulesX _) (env := [eAlS, efgetS, ergetS, eFPutS, eRPutS, eCleanS, eFHash, eRHash]) ⟨eAlS_ok, efgetS_ok, ergetS_ok, eFPutS_ok, eRPutS_ok, eCleanS_ok, eFHash_ok, eRHash_ok, trivial⟩ Try.func5 0 (oL [(4, wO 2), (6, wO 1), (14, wO 1), (28, wO 1)]) (by kernel_rfl) ⟨_, rfl⟩
      (And.intro (show flat [.e (hsh l l.length)] = flat [.e (hsh l l.length)] from rfl)
      (And.intro (show l.length ≤ 9223372036854775807 from hm)
      (And.intro (show l.length ≤ 9223372036854775807 from hm)
      (And.intro (show flat [.e (ofR (deN 32 l))] = flat [.e (ofR (deN 32 l))] from rfl)
      (And.intro (show ((ofL (beL 32 (ofR a).val)).toList == (ofL (beL 32 (ofR a).val)).toList) = true from by simp)
      (And.intro (show a < 115792089237316195423570985008687907853269984665640564039457584007913129639936 from ha)
      (And.intro (show smtS (.inr a) from ha)
      (And.intro (show l.length = 32 ∧ deN 32 l < 52435875175126190479447740508185965837690552500527637822603658699938581184513 from ⟨h, hp⟩)
      (And.intro (show l.length = 32 ∧ deN 32 l < 52435875175126190479447740508185965837690552500527637822603658699938581184513 from ⟨h, hp⟩)
      (And.intro (show decide (((l.length : Nat) : Int) > 5000) = false from decide_eq_false (by omega)) trivial))))))))))
theorem frBytes_no (a : Nat) (l : List UInt8) (ha : a < 115792089237316195423570985008687907853269984665640564039457584007913129639936) (hl : l.length ≤ 5000) (hm : l.length ≤ 9223372036854775807) (h : l.length = 32) (hp : 52435875175126190479447740508185965837690552500527637822603658699938581184513 ≤ deN 32 l) : Gives Try.prog 5 [.t (.ag [.n 4 a]), .t (.v (.string (ofL l)))] (.v (.bool true)) :=
  fn_gives_at (P := Try.prog) (X := rulesX _) (env := [eAlS, efgetS, ergetS, eFPutS, eRPutS, eCleanS, eFHash, eRHash]) ⟨eAlS_ok, efgetS_ok, ergetS_ok, eFPutS_ok, eRPutS_ok, eCleanS_ok, eFHash_ok, eRHash_ok, trivial⟩ Try.func5 0 (oL [(4, wO 2), (6, wO 2), (14, wO 2), (28, wO 1)]) (by kernel_rfl) ⟨_, rfl⟩
      (And.intro (show flat [.e (hsh l l.length)] = flat [.e (hsh l l.length)] from rfl)
      (And.intro (show l.length ≤ 9223372036854775807 from hm)
      (And.intro (show l.length ≤ 9223372036854775807 from hm)
      (And.intro (show flat [.c (.int .u64 0), .c (.int .u64 0), .c (.int .u64 0), .c (.int .u64 0)] = flat [.c (.int .u64 0), .c (.int .u64 0), .c (.int .u64 0), .c (.int .u64 0)] from rfl)
      (And.intro (show ((ofL (beL 32 (ofR a).val)).toList == (ofL (beL 32 (ofR a).val)).toList) = true from by simp)
      (And.intro (show a < 115792089237316195423570985008687907853269984665640564039457584007913129639936 from ha)
      (And.intro (show smtS (.inr a) from ha)
      (And.intro (show l.length = 32 ∧ 52435875175126190479447740508185965837690552500527637822603658699938581184513 ≤ deN 32 l from ⟨h, hp⟩)
      (And.intro (show l.length = 32 ∧ 52435875175126190479447740508185965837690552500527637822603658699938581184513 ≤ deN 32 l from ⟨h, hp⟩)
      (And.intro (show decide (((l.length : Nat) : Int) > 5000) = false from decide_eq_false (by omega)) trivial))))))))))
theorem frBytes_lenL (a : Nat) (l : List UInt8) (ha : a < 115792089237316195423570985008687907853269984665640564039457584007913129639936) (hl : 5000 < l.length) (hm : (l.take 5000).length ≤ 9223372036854775807) (h : (l.take 5000).length ≠ 32) : Gives Try.prog 5 [.t (.ag [.n 4 a]), .t (.v (.string (ofL l)))] (.v (.bool true)) :=
  fn_gives_at (P := Try.prog) (X := rulesX _) (env := [eAlS, efgetS, ergetS, eFPutS, eRPutS, eCleanS, eFHash, eRHash]) ⟨eAlS_ok, efgetS_ok, ergetS_ok, eFPutS_ok, eRPutS_ok, eCleanS_ok, eFHash_ok, eRHash_ok, trivial⟩ Try.func5 0 (oL [(4, wO 1), (6, rO 5 0), (9, wO 0), (17, wO 0), (31, wO 1)]) (by kernel_rfl) ⟨_, rfl⟩
      (And.intro (show flat [.e (hsh (l.take 5000) (l.take 5000).length)] = flat [.e (hsh (l.take 5000) (l.take 5000).length)] from rfl)
      (And.intro (show (l.take 5000).length ≤ 9223372036854775807 from hm)
      (And.intro (show (l.take 5000).length ≤ 9223372036854775807 from hm)
      (And.intro (show flat [.c (.int .u64 0), .c (.int .u64 0), .c (.int .u64 0), .c (.int .u64 0)] = flat [.c (.int .u64 0), .c (.int .u64 0), .c (.int .u64 0), .c (.int .u64 0)] from rfl)
      (And.intro (show ((ofL (beL 32 (ofR a).val)).toList == (ofL (beL 32 (ofR a).val)).toList) = true from by simp)
      (And.intro (show a < 115792089237316195423570985008687907853269984665640564039457584007913129639936 from ha)
      (And.intro (show smtS (.inr a) from ha)
      (And.intro (show (l.take 5000).length ≠ 32 from h)
      (And.intro (show (l.take 5000).length ≠ 32 from h)
      (And.intro (show (0 : Int) ≤ 5000 ∧ (5000 : Int) ≤ (ofL l).size from ⟨by decide, by show (5000 : Int) ≤ (l.length : Int); omega⟩)
      (And.intro (show decide (((l.length : Nat) : Int) > 5000) = true from decide_eq_true (by omega)) trivial)))))))))))
theorem frBytes_okL (a : Nat) (l : List UInt8) (ha : a < 115792089237316195423570985008687907853269984665640564039457584007913129639936) (hl : 5000 < l.length) (hm : (l.take 5000).length ≤ 9223372036854775807) (h : (l.take 5000).length = 32) (hp : deN 32 (l.take 5000) < 52435875175126190479447740508185965837690552500527637822603658699938581184513) : Gives Try.prog 5 [.t (.ag [.n 4 a]), .t (.v (.string (ofL l)))] (.v (.bool true)) :=
  fn_gives_at (P := Try.prog) (X := rulesX _) (env := [eAlS, efgetS, ergetS, eFPutS, eRPutS, eCleanS, eFHash, eRHash]) ⟨eAlS_ok, efgetS_ok, ergetS_ok, eFPutS_ok, eRPutS_ok, eCleanS_ok, eFHash_ok, eRHash_ok, trivial⟩ Try.func5 0 (oL [(4, wO 1), (6, rO 5 0), (9, wO 1), (17, wO 1), (31, wO 1)]) (by kernel_rfl) ⟨_, rfl⟩
      (And.intro (show flat [.e (hsh (l.take 5000) (l.take 5000).length)] = flat [.e (hsh (l.take 5000) (l.take 5000).length)] from rfl)
      (And.intro (show (l.take 5000).length ≤ 9223372036854775807 from hm)
      (And.intro (show (l.take 5000).length ≤ 9223372036854775807 from hm)
      (And.intro (show flat [.e (ofR (deN 32 (l.take 5000)))] = flat [.e (ofR (deN 32 (l.take 5000)))] from rfl)
      (And.intro (show ((ofL (beL 32 (ofR a).val)).toList == (ofL (beL 32 (ofR a).val)).toList) = true from by simp)
      (And.intro (show a < 115792089237316195423570985008687907853269984665640564039457584007913129639936 from ha)
      (And.intro (show smtS (.inr a) from ha)
      (And.intro (show (l.take 5000).length = 32 ∧ deN 32 (l.take 5000) < 52435875175126190479447740508185965837690552500527637822603658699938581184513 from ⟨h, hp⟩)
      (And.intro (show (l.take 5000).length = 32 ∧ deN 32 (l.take 5000) < 52435875175126190479447740508185965837690552500527637822603658699938581184513 from ⟨h, hp⟩)
      (And.intro (show (0 : Int) ≤ 5000 ∧ (5000 : Int) ≤ (ofL l).size from ⟨by decide, by show (5000 : Int) ≤ (l.length : Int); omega⟩)
      (And.intro (show decide (((l.length : Nat) : Int) > 5000) = true from decide_eq_true (by omega)) trivial)))))))))))
theorem frBytes_noL (a : Nat) (l : List UInt8) (ha : a < 115792089237316195423570985008687907853269984665640564039457584007913129639936) (hl : 5000 < l.length) (hm : (l.take 5000).length ≤ 9223372036854775807) (h : (l.take 5000).length = 32) (hp : 52435875175126190479447740508185965837690552500527637822603658699938581184513 ≤ deN 32 (l.take 5000)) : Gives Try.prog 5 [.t (.ag [.n 4 a]), .t (.v (.string (ofL l)))] (.v (.bool true)) :=
  fn_gives_at (P := Try.prog) (X := rulesX _) (env := [eAlS, efgetS, ergetS, eFPutS, eRPutS, eCleanS, eFHash, eRHash]) ⟨eAlS_ok, efgetS_ok, ergetS_ok, eFPutS_ok, eRPutS_ok, eCleanS_ok, eFHash_ok, eRHash_ok, trivial⟩ Try.func5 0 (oL [(4, wO 1), (6, rO 5 0), (9, wO 2), (17, wO 2), (31, wO 1)]) (by kernel_rfl) ⟨_, rfl⟩
      (And.intro (show flat [.e (hsh (l.take 5000) (l.take 5000).length)] = flat [.e (hsh (l.take 5000) (l.take 5000).length)] from rfl)
      (And.intro (show (l.take 5000).length ≤ 9223372036854775807 from hm)
      (And.intro (show (l.take 5000).length ≤ 9223372036854775807 from hm)
      (And.intro (show flat [.c (.int .u64 0), .c (.int .u64 0), .c (.int .u64 0), .c (.int .u64 0)] = flat [.c (.int .u64 0), .c (.int .u64 0), .c (.int .u64 0), .c (.int .u64 0)] from rfl)
      (And.intro (show ((ofL (beL 32 (ofR a).val)).toList == (ofL (beL 32 (ofR a).val)).toList) = true from by simp)
      (And.intro (show a < 115792089237316195423570985008687907853269984665640564039457584007913129639936 from ha)
      (And.intro (show smtS (.inr a) from ha)
      (And.intro (show (l.take 5000).length = 32 ∧ 52435875175126190479447740508185965837690552500527637822603658699938581184513 ≤ deN 32 (l.take 5000) from ⟨h, hp⟩)
      (And.intro (show (l.take 5000).length = 32 ∧ 52435875175126190479447740508185965837690552500527637822603658699938581184513 ≤ deN 32 (l.take 5000) from ⟨h, hp⟩)
      (And.intro (show (0 : Int) ≤ 5000 ∧ (5000 : Int) ≤ (ofL l).size from ⟨by decide, by show (5000 : Int) ≤ (l.length : Int); omega⟩)
      (And.intro (show decide (((l.length : Nat) : Int) > 5000) = true from decide_eq_true (by omega)) trivial)))))))))))
theorem frBytes_gives (a : Nat) (s : ByteArray) (ha : a < 115792089237316195423570985008687907853269984665640564039457584007913129639936) (hs : s.size ≤ maxLen) : Gives Try.prog 5 [.t (.ag [.n 4 a]), .t (.v (.string s))] (.v (.bool true)) := by
  obtain ⟨l, rfl⟩ : ∃ l, s = ofL l := ⟨s.data.toList, (ofL_eta s).symm⟩
  have hm : l.length ≤ 9223372036854775807 := by have h : l.length ≤ maxLen := hs; simpa [maxLen] using h
  by_cases hl : l.length ≤ 5000
  · by_cases h : l.length = 32
    · by_cases hp : deN 32 l < 52435875175126190479447740508185965837690552500527637822603658699938581184513
      · exact frBytes_ok a l ha hl hm h hp
      · exact frBytes_no a l ha hl hm h (Nat.le_of_not_lt hp)
    · exact frBytes_len a l ha hl hm h
  · have hl' : 5000 < l.length := by omega
    have hm' : (l.take 5000).length ≤ 9223372036854775807 := by rw [List.length_take]; omega
    exact frBytes_lenL a l ha hl' hm' (by rw [List.length_take]; omega)
theorem Try.own : ownKnob Try.prog.godebug = none := by kernel_rfl

set_option maxRecDepth 100000 in
theorem frBytes_lifted (os : Os) (started : os.Started) (H : Type) (enc : TypeId × Value → H) :
    ReturnsInHanded {} Try.checked os 5 .any (Rows.frBytesSpec.pre6 enc Try.prog Try.f5 Rows.frBytesRow.domain false) (Rows.frBytesSpec.post enc Try.prog Try.f5 false true false false) := by
  refine returnsInHanded_of_change (C := Try.checked) Try.own started (by kernel_rfl) Try.func5
    (ChangeSpec.witness6 (enc := enc) (C := Try.checked) false ⟨#[], #[.agg (Array.replicate 4 (.int .u64 0)), .string ByteArray.empty], []⟩ 8 (by kernel_rfl) (by kernel_rfl) (by kernel_rfl) (by kernel_rfl)) ?_
  intro W base args ds gs before hval0 hW _ _
  have hval : ∀ (j : Nat) t v, Try.f5.params[j]? = some t → args[j]? = some v → Value.okWide Try.prog W .any base t v := hval0
  have hW' := hW
  obtain ⟨p, q, hA0, hV, rfl, _, _⟩ := hW
  have hA : DataW.TrodAll enc Try.prog W 0 (fun _ => true) true Try.f5.params.toList args.toList ds p := hA0
  rw [Try.params5] at hA hval
  obtain ⟨v0, v1, d0, d1, p0, p1, rfl, rfl, rfl, h0, h1⟩ := trodAll_two hA
  obtain ⟨rfl, rfl⟩ := trodVars_none hV
  obtain ⟨c0, rfl, u0, l0, rfl, s0⟩ := open_flat 8 (by kernel_rfl) (by kernel_rfl) (hval 0 _ v0 rfl rfl) h0
  obtain ⟨x0, b0, rfl⟩ := u_limbs 4 c0 u0 (l0.trans (by kernel_rfl))
  replace b0 := Nat.lt_of_lt_of_eq b0 (show _ = 115792089237316195423570985008687907853269984665640564039457584007913129639936 from rfl)
  obtain ⟨x1, rfl, rfl, rfl, b1⟩ := Go.ChangeMaps.open_string Try.underlying9 (hval 1 _ v1 rfl rfl) h1
  clear hA0 hval0
  simp only [List.append_nil] at hW'
  obtain ⟨v, hv, hrun⟩ := frBytes_gives x0 x1 b0 b1
  simp only [AV.val?, Option.some.injEq] at hv
  subst hv
  refine (hrun W [_, _] ⟨rfl, rfl, trivial⟩).mono fun e W' ⟨he, hb⟩ => ?_
  subst he
  exact ⟨_, rfl, _, _, _, [], [], [], hW', trodAll_mk1 (shut_bool Try.underlying4 true), trodAll_mk2 (s0 _ _ _ _) (Go.ChangeMaps.shut_string Try.underlying9 b1), rfl, hb.frame _, fun h => by cases h⟩

theorem frBytes_holds : Rows.FrBytesSaid :=
  OpenClaim.holds_of_wide 5 Try.f5 rfl rfl rfl rfl rfl rfl rfl ⟨rfl, rfl, rfl, rfl, rfl⟩ rfl rfl rfl rfl rfl (by kernel_rfl) Try.func5 (by kernel_rfl)
    (of_decide_eq_true (by kernel_rfl)) (by unfold Func.isWrapper; first | (rw [if_pos (by decide +kernel)]; kernel_rfl) | (rw [if_neg (by decide +kernel)]; exact ⟨rfl, rfl⟩))
    (fun os started H enc _ => frBytes_lifted os started H enc)
end Go.Proofs.Ytoahfmgdlpgjoaa
