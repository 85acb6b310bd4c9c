/- Pruned: Gd. -/
import Derived.Test.YtbejkhmdmojojaaGreatQGe
import Derived.Test.YtbejkhmdmojojaaGreatQGc
import Derived.Test.YtbejkhmdmojojaaGreatQGa
/- Contract of point.Get2. -/
set_option linter.unusedSimpArgs false
set_option linter.unusedVariables false
namespace Go.Proofs.YtbejkhmdmojojaaGreat
open Go.Ev Go.RowKit
def c2 (l : List UInt8) (i : Nat) : Nat := match i with
  | 0 => deN 48 ((maskL l).take 48)
  | 1 => deN 48 (((maskL l).drop 48).take 48)
  | 2 => deN 48 ((((maskL l).drop 48).drop 48).take 48)
  | _ => deN 48 (((((maskL l).drop 48).drop 48).drop 48).take 48)
def sy2 (a : F2) (high : Bool) : F2 := match high with | true => neg2 (rt2 a) | false => rt2 a
theorem get2_e3 (l : List UInt8) (h : l.length ≠ 96 ∧ l.length ≠ 192) : Gives Tryz.prog 4 [.t (.v (.string (ofL l)))] (.tp [.ag [.c (.int .u64 0), .c (.int .u64 0), .c (.int .u64 0), .c (.int .u64 0), .c (.int .u64 0), .c (.int .u64 0), .c (.int .u64 0), .c (.int .u64 0), .c (.int .u64 0), .c (.int .u64 0), .c (.int .u64 0), .c (.int .u64 0), .c (.int .u64 0), .c (.int .u64 0), .c (.int .u64 0), .c (.int .u64 0), .c (.int .u64 0), .c (.int .u64 0), .c (.int .u64 0), .c (.int .u64 0), .c (.int .u64 0), .c (.int .u64 0), .c (.int .u64 0), .c (.int .u64 0), .c (.bool false)], .v (.int .i64 3)]) :=
  fn_gives_at (P := Tryz.prog) (X := rulesX _) (env := [eHd96, efgetP, eIn2, eTimes2, ePlus2, eSmP, eRoot2, eNeg2, eOut2, eRig2, eGrp2]) ⟨eHd96_ok, efgetP_ok, eIn2_ok, eTimes2_ok, ePlus2_ok, eSmP_ok, eRoot2_ok, eNeg2_ok, eOut2_ok, eRig2_ok, eGrp2_ok, trivial⟩ Tryz.func4 2 (oL [(3, wO 0)]) (by kernel_rfl) ⟨_, rfl⟩
      (And.intro (show l.length ≠ 96 ∧ l.length ≠ 192 from h) trivial)
theorem get2_e32 (l : List UInt8) (h : (l.length = 96 ∧ top3 l ≠ 4 ∧ top3 l ≠ 5 ∧ top3 l ≠ 6) ∨ (l.length = 192 ∧ top3 l ≠ 0 ∧ top3 l ≠ 2)) : Gives Tryz.prog 4 [.t (.v (.string (ofL l)))] (.tp [.ag [.c (.int .u64 0), .c (.int .u64 0), .c (.int .u64 0), .c (.int .u64 0), .c (.int .u64 0), .c (.int .u64 0), .c (.int .u64 0), .c (.int .u64 0), .c (.int .u64 0), .c (.int .u64 0), .c (.int .u64 0), .c (.int .u64 0), .c (.int .u64 0), .c (.int .u64 0), .c (.int .u64 0), .c (.int .u64 0), .c (.int .u64 0), .c (.int .u64 0), .c (.int .u64 0), .c (.int .u64 0), .c (.int .u64 0), .c (.int .u64 0), .c (.int .u64 0), .c (.int .u64 0), .c (.bool false)], .v (.int .i64 32)]) :=
  fn_gives_at (P := Tryz.prog) (X := rulesX _) (env := [eHd96, efgetP, eIn2, eTimes2, ePlus2, eSmP, eRoot2, eNeg2, eOut2, eRig2, eGrp2]) ⟨eHd96_ok, efgetP_ok, eIn2_ok, eTimes2_ok, ePlus2_ok, eSmP_ok, eRoot2_ok, eNeg2_ok, eOut2_ok, eRig2_ok, eGrp2_ok, trivial⟩ Tryz.func4 2 (oL [(3, wO 1)]) (by kernel_rfl) ⟨_, rfl⟩
      (And.intro (show (l.length = 96 ∧ top3 l ≠ 4 ∧ top3 l ≠ 5 ∧ top3 l ≠ 6) ∨ (l.length = 192 ∧ top3 l ≠ 0 ∧ top3 l ≠ 2) from h) trivial)
theorem get2_e33 (l : List UInt8) (h : ((l.length = 96 ∧ top3 l = 6) ∨ (l.length = 192 ∧ top3 l = 2)) ∧ ¬ allZ (maskL l)) : Gives Tryz.prog 4 [.t (.v (.string (ofL l)))] (.tp [.ag [.c (.int .u64 0), .c (.int .u64 0), .c (.int .u64 0), .c (.int .u64 0), .c (.int .u64 0), .c (.int .u64 0), .c (.int .u64 0), .c (.int .u64 0), .c (.int .u64 0), .c (.int .u64 0), .c (.int .u64 0), .c (.int .u64 0), .c (.int .u64 0), .c (.int .u64 0), .c (.int .u64 0), .c (.int .u64 0), .c (.int .u64 0), .c (.int .u64 0), .c (.int .u64 0), .c (.int .u64 0), .c (.int .u64 0), .c (.int .u64 0), .c (.int .u64 0), .c (.int .u64 0), .c (.bool false)], .v (.int .i64 33)]) :=
  fn_gives_at (P := Tryz.prog) (X := rulesX _) (env := [eHd96, efgetP, eIn2, eTimes2, ePlus2, eSmP, eRoot2, eNeg2, eOut2, eRig2, eGrp2]) ⟨eHd96_ok, efgetP_ok, eIn2_ok, eTimes2_ok, ePlus2_ok, eSmP_ok, eRoot2_ok, eNeg2_ok, eOut2_ok, eRig2_ok, eGrp2_ok, trivial⟩ Tryz.func4 2 (oL [(3, wO 2)]) (by kernel_rfl) ⟨_, rfl⟩
      (And.intro (show ((l.length = 96 ∧ top3 l = 6) ∨ (l.length = 192 ∧ top3 l = 2)) ∧ ¬ allZ (maskL l) from h) trivial)
theorem get2_i6 (l : List UInt8) (h : (l.length = 96 ∧ top3 l = 6) ∧ allZ (maskL l)) : Gives Tryz.prog 4 [.t (.v (.string (ofL l)))] (.tp [.ag [.c (.int .u64 0), .c (.int .u64 0), .c (.int .u64 0), .c (.int .u64 0), .c (.int .u64 0), .c (.int .u64 0), .c (.int .u64 0), .c (.int .u64 0), .c (.int .u64 0), .c (.int .u64 0), .c (.int .u64 0), .c (.int .u64 0), .c (.int .u64 0), .c (.int .u64 0), .c (.int .u64 0), .c (.int .u64 0), .c (.int .u64 0), .c (.int .u64 0), .c (.int .u64 0), .c (.int .u64 0), .c (.int .u64 0), .c (.int .u64 0), .c (.int .u64 0), .c (.int .u64 0), .c (.bool true)], .v (.int .i64 0)]) :=
  fn_gives_at (P := Tryz.prog) (X := rulesX _) (env := [eHd96, efgetP, eIn2, eTimes2, ePlus2, eSmP, eRoot2, eNeg2, eOut2, eRig2, eGrp2]) ⟨eHd96_ok, efgetP_ok, eIn2_ok, eTimes2_ok, ePlus2_ok, eSmP_ok, eRoot2_ok, eNeg2_ok, eOut2_ok, eRig2_ok, eGrp2_ok, trivial⟩ Tryz.func4 2 (oL [(3, wO 6)]) (by kernel_rfl) ⟨_, rfl⟩
      (And.intro (show (l.length = 96 ∧ top3 l = 6) ∧ allZ (maskL l) from h) trivial)
theorem get2_i7 (l : List UInt8) (h : (l.length = 192 ∧ top3 l = 2) ∧ allZ (maskL l)) : Gives Tryz.prog 4 [.t (.v (.string (ofL l)))] (.tp [.ag [.c (.int .u64 0), .c (.int .u64 0), .c (.int .u64 0), .c (.int .u64 0), .c (.int .u64 0), .c (.int .u64 0), .c (.int .u64 0), .c (.int .u64 0), .c (.int .u64 0), .c (.int .u64 0), .c (.int .u64 0), .c (.int .u64 0), .c (.int .u64 0), .c (.int .u64 0), .c (.int .u64 0), .c (.int .u64 0), .c (.int .u64 0), .c (.int .u64 0), .c (.int .u64 0), .c (.int .u64 0), .c (.int .u64 0), .c (.int .u64 0), .c (.int .u64 0), .c (.int .u64 0), .c (.bool true)], .v (.int .i64 0)]) :=
  fn_gives_at (P := Tryz.prog) (X := rulesX _) (env := [eHd96, efgetP, eIn2, eTimes2, ePlus2, eSmP, eRoot2, eNeg2, eOut2, eRig2, eGrp2]) ⟨eHd96_ok, efgetP_ok, eIn2_ok, eTimes2_ok, ePlus2_ok, eSmP_ok, eRoot2_ok, eNeg2_ok, eOut2_ok, eRig2_ok, eGrp2_ok, trivial⟩ Tryz.func4 2 (oL [(3, wO 7)]) (by kernel_rfl) ⟨_, rfl⟩
      (And.intro (show (l.length = 192 ∧ top3 l = 2) ∧ allZ (maskL l) from h) trivial)
theorem zgd_0 (l : List UInt8) (hL : l.length = 96) : (((ofL (((maskL l).drop 48).drop 48)).size : Nat) : Int) = ((0 : Nat) : Int) := by rw [show (ofL (((maskL l).drop 48).drop 48)).size = 0 from (show ((((maskL l).drop 48).drop 48)).length = 0 from by simp [mask_length, hL])]
theorem zgd_1 (l : List UInt8) (hL : l.length = 96) : (0 : Int) ≤ 48 ∧ (48 : Int) ≤ (ofL ((maskL l).drop 48)).size := ⟨by decide, by rw [show (ofL ((maskL l).drop 48)).size = 48 from (show (((maskL l).drop 48)).length = 48 from by simp [mask_length, hL])]; decide⟩
theorem zgd_2 (l : List UInt8) (hL : l.length = 96) (h1 : c2 l 1 < 4002409555221667393417789825735904156556882819939007885332058136124031650490837864442687629129015664037894272559787) : (((maskL l).drop 48).take 48).length = 48 ∧ deN 48 (((maskL l).drop 48).take 48) < 4002409555221667393417789825735904156556882819939007885332058136124031650490837864442687629129015664037894272559787 := ⟨by simp [mask_length, hL], h1⟩
theorem zgd_3 (l : List UInt8) (hL : l.length = 96) : (((ofL ((maskL l).drop 48)).size : Nat) : Int) = ((48 : Nat) : Int) := by rw [show (ofL ((maskL l).drop 48)).size = 48 from (show (((maskL l).drop 48)).length = 48 from by simp [mask_length, hL])]
theorem zgd_4 (l : List UInt8) (hL : l.length = 96) : (0 : Int) ≤ 48 ∧ (48 : Int) ≤ (ofL (maskL l)).size := ⟨by decide, by rw [show (ofL (maskL l)).size = 96 from (show ((maskL l)).length = 96 from by simp [mask_length, hL])]; decide⟩
theorem zgd_5 (l : List UInt8) (hL : l.length = 96) (h0 : c2 l 0 < 4002409555221667393417789825735904156556882819939007885332058136124031650490837864442687629129015664037894272559787) : ((maskL l).take 48).length = 48 ∧ deN 48 ((maskL l).take 48) < 4002409555221667393417789825735904156556882819939007885332058136124031650490837864442687629129015664037894272559787 := ⟨by simp [mask_length, hL], h0⟩
theorem zgd_6 (l : List UInt8) (hL : l.length = 96) : (((ofL (maskL l)).size : Nat) : Int) = ((96 : Nat) : Int) := by rw [show (ofL (maskL l)).size = 96 from (show ((maskL l)).length = 96 from by simp [mask_length, hL])]
theorem zgd_7 (l : List UInt8) (hL : l.length = 96) (ht : top3 l = 4) : l.length = 96 ∧ top3 l = 4 := ⟨hL, ht⟩
theorem get2_s4n (l : List UInt8) (hL : l.length = 96) (ht : top3 l = 4) (h0 : c2 l 0 < 4002409555221667393417789825735904156556882819939007885332058136124031650490837864442687629129015664037894272559787) (h1 : c2 l 1 < 4002409555221667393417789825735904156556882819939007885332058136124031650490837864442687629129015664037894272559787) (hq : ¬ sq2 (add2 (mul2 (mul2 ((ofP (deN 48 (((maskL l).drop 48).take 48)), ofP (deN 48 ((maskL l).take 48))) : F2) ((ofP (deN 48 (((maskL l).drop 48).take 48)), ofP (deN 48 ((maskL l).take 48))) : F2)) ((ofP (deN 48 (((maskL l).drop 48).take 48)), ofP (deN 48 ((maskL l).take 48))) : F2)) (ofP (4 % 18446744073709551616), ofP (4 % 18446744073709551616)))) : Gives Tryz.prog 4 [.t (.v (.string (ofL l)))] (.tp [.ag [.c (.int .u64 0), .c (.int .u64 0), .c (.int .u64 0), .c (.int .u64 0), .c (.int .u64 0), .c (.int .u64 0), .c (.int .u64 0), .c (.int .u64 0), .c (.int .u64 0), .c (.int .u64 0), .c (.int .u64 0), .c (.int .u64 0), .c (.int .u64 0), .c (.int .u64 0), .c (.int .u64 0), .c (.int .u64 0), .c (.int .u64 0), .c (.int .u64 0), .c (.int .u64 0), .c (.int .u64 0), .c (.int .u64 0), .c (.int .u64 0), .c (.int .u64 0), .c (.int .u64 0), .c (.bool false)], .v (.int .i64 30)]) :=
  fn_gives_at (P := Tryz.prog) (X := rulesX _) (env := [eHd96, efgetP, eIn2, eTimes2, ePlus2, eSmP, eRoot2, eNeg2, eOut2, eRig2, eGrp2]) ⟨eHd96_ok, efgetP_ok, eIn2_ok, eTimes2_ok, ePlus2_ok, eSmP_ok, eRoot2_ok, eNeg2_ok, eOut2_ok, eRig2_ok, eGrp2_ok, trivial⟩ Tryz.func4 2 (oL [(3, wO 3), (29, { ch := 1, hi := fun _ => 96 }), (36, rO 5 0), (37, wO 1), (45, rO 5 0), (57, { ch := 1, hi := fun _ => 48 }), (64, rO 5 0), (65, wO 1), (73, rO 5 0), (85, { ch := 1, hi := fun _ => 0 }), (129, wO 1)]) (by kernel_rfl) ⟨_, rfl⟩
      (And.intro (show ¬ sq2 (add2 (mul2 (mul2 ((ofP (deN 48 (((maskL l).drop 48).take 48)), ofP (deN 48 ((maskL l).take 48))) : F2) ((ofP (deN 48 (((maskL l).drop 48).take 48)), ofP (deN 48 ((maskL l).take 48))) : F2)) ((ofP (deN 48 (((maskL l).drop 48).take 48)), ofP (deN 48 ((maskL l).take 48))) : F2)) (ofP (4 % 18446744073709551616), ofP (4 % 18446744073709551616))) from hq)
      (And.intro (zgd_0 l hL)
      (And.intro (zgd_1 l hL)
      (And.intro (zgd_2 l hL h1)
      (And.intro (zgd_1 l hL)
      (And.intro (zgd_3 l hL)
      (And.intro (zgd_4 l hL)
      (And.intro (zgd_5 l hL h0)
      (And.intro (zgd_4 l hL)
      (And.intro (zgd_6 l hL)
      (And.intro (zgd_7 l hL ht) trivial)))))))))))
theorem zgd_8 (l : List UInt8) (hq : sq2 (add2 (mul2 (mul2 ((ofP (deN 48 (((maskL l).drop 48).take 48)), ofP (deN 48 ((maskL l).take 48))) : F2) ((ofP (deN 48 (((maskL l).drop 48).take 48)), ofP (deN 48 ((maskL l).take 48))) : F2)) ((ofP (deN 48 (((maskL l).drop 48).take 48)), ofP (deN 48 ((maskL l).take 48))) : F2)) (ofP (4 % 18446744073709551616), ofP (4 % 18446744073709551616)))) : sq2 (add2 (mul2 (mul2 ((ofP (deN 48 (((maskL l).drop 48).take 48)), ofP (deN 48 ((maskL l).take 48))) : F2) ((ofP (deN 48 (((maskL l).drop 48).take 48)), ofP (deN 48 ((maskL l).take 48))) : F2)) ((ofP (deN 48 (((maskL l).drop 48).take 48)), ofP (deN 48 ((maskL l).take 48))) : F2)) (ofP (4 % 18446744073709551616), ofP (4 % 18446744073709551616))) := hq
theorem get2_s4g (l : List UInt8) (hL : l.length = 96) (ht : top3 l = 4) (h0 : c2 l 0 < 4002409555221667393417789825735904156556882819939007885332058136124031650490837864442687629129015664037894272559787) (h1 : c2 l 1 < 4002409555221667393417789825735904156556882819939007885332058136124031650490837864442687629129015664037894272559787) (hq : sq2 (add2 (mul2 (mul2 ((ofP (deN 48 (((maskL l).drop 48).take 48)), ofP (deN 48 ((maskL l).take 48))) : F2) ((ofP (deN 48 (((maskL l).drop 48).take 48)), ofP (deN 48 ((maskL l).take 48))) : F2)) ((ofP (deN 48 (((maskL l).drop 48).take 48)), ofP (deN 48 ((maskL l).take 48))) : F2)) (ofP (4 % 18446744073709551616), ofP (4 % 18446744073709551616)))) (hg : sml2 ((((ofP (deN 48 (((maskL l).drop 48).take 48)), ofP (deN 48 ((maskL l).take 48))) : F2).1.val, ((ofP (deN 48 (((maskL l).drop 48).take 48)), ofP (deN 48 ((maskL l).take 48))) : F2).2.val), ((rt2 (add2 (mul2 (mul2 ((ofP (deN 48 (((maskL l).drop 48).take 48)), ofP (deN 48 ((maskL l).take 48))) : F2) ((ofP (deN 48 (((maskL l).drop 48).take 48)), ofP (deN 48 ((maskL l).take 48))) : F2)) ((ofP (deN 48 (((maskL l).drop 48).take 48)), ofP (deN 48 ((maskL l).take 48))) : F2)) (ofP (4 % 18446744073709551616), ofP (4 % 18446744073709551616)))).1.val, (rt2 (add2 (mul2 (mul2 ((ofP (deN 48 (((maskL l).drop 48).take 48)), ofP (deN 48 ((maskL l).take 48))) : F2) ((ofP (deN 48 (((maskL l).drop 48).take 48)), ofP (deN 48 ((maskL l).take 48))) : F2)) ((ofP (deN 48 (((maskL l).drop 48).take 48)), ofP (deN 48 ((maskL l).take 48))) : F2)) (ofP (4 % 18446744073709551616), ofP (4 % 18446744073709551616)))).2.val), false) ∧ may2 ((((ofP (deN 48 (((maskL l).drop 48).take 48)), ofP (deN 48 ((maskL l).take 48))) : F2).1.val, ((ofP (deN 48 (((maskL l).drop 48).take 48)), ofP (deN 48 ((maskL l).take 48))) : F2).2.val), ((rt2 (add2 (mul2 (mul2 ((ofP (deN 48 (((maskL l).drop 48).take 48)), ofP (deN 48 ((maskL l).take 48))) : F2) ((ofP (deN 48 (((maskL l).drop 48).take 48)), ofP (deN 48 ((maskL l).take 48))) : F2)) ((ofP (deN 48 (((maskL l).drop 48).take 48)), ofP (deN 48 ((maskL l).take 48))) : F2)) (ofP (4 % 18446744073709551616), ofP (4 % 18446744073709551616)))).1.val, (rt2 (add2 (mul2 (mul2 ((ofP (deN 48 (((maskL l).drop 48).take 48)), ofP (deN 48 ((maskL l).take 48))) : F2) ((ofP (deN 48 (((maskL l).drop 48).take 48)), ofP (deN 48 ((maskL l).take 48))) : F2)) ((ofP (deN 48 (((maskL l).drop 48).take 48)), ofP (deN 48 ((maskL l).take 48))) : F2)) (ofP (4 % 18446744073709551616), ofP (4 % 18446744073709551616)))).2.val), false) ∧ ¬ grp2 ((((ofP (deN 48 (((maskL l).drop 48).take 48)), ofP (deN 48 ((maskL l).take 48))) : F2).1.val, ((ofP (deN 48 (((maskL l).drop 48).take 48)), ofP (deN 48 ((maskL l).take 48))) : F2).2.val), ((rt2 (add2 (mul2 (mul2 ((ofP (deN 48 (((maskL l).drop 48).take 48)), ofP (deN 48 ((maskL l).take 48))) : F2) ((ofP (deN 48 (((maskL l).drop 48).take 48)), ofP (deN 48 ((maskL l).take 48))) : F2)) ((ofP (deN 48 (((maskL l).drop 48).take 48)), ofP (deN 48 ((maskL l).take 48))) : F2)) (ofP (4 % 18446744073709551616), ofP (4 % 18446744073709551616)))).1.val, (rt2 (add2 (mul2 (mul2 ((ofP (deN 48 (((maskL l).drop 48).take 48)), ofP (deN 48 ((maskL l).take 48))) : F2) ((ofP (deN 48 (((maskL l).drop 48).take 48)), ofP (deN 48 ((maskL l).take 48))) : F2)) ((ofP (deN 48 (((maskL l).drop 48).take 48)), ofP (deN 48 ((maskL l).take 48))) : F2)) (ofP (4 % 18446744073709551616), ofP (4 % 18446744073709551616)))).2.val), false)) : Gives Tryz.prog 4 [.t (.v (.string (ofL l)))] (.tp [.ag [.c (.int .u64 0), .c (.int .u64 0), .c (.int .u64 0), .c (.int .u64 0), .c (.int .u64 0), .c (.int .u64 0), .c (.int .u64 0), .c (.int .u64 0), .c (.int .u64 0), .c (.int .u64 0), .c (.int .u64 0), .c (.int .u64 0), .c (.int .u64 0), .c (.int .u64 0), .c (.int .u64 0), .c (.int .u64 0), .c (.int .u64 0), .c (.int .u64 0), .c (.int .u64 0), .c (.int .u64 0), .c (.int .u64 0), .c (.int .u64 0), .c (.int .u64 0), .c (.int .u64 0), .c (.bool false)], .v (.int .i64 31)]) :=
  fn_gives_at (P := Tryz.prog) (X := rulesX _) (env := [eHd96, efgetP, eIn2, eTimes2, ePlus2, eSmP, eRoot2, eNeg2, eOut2, eRig2, eGrp2]) ⟨eHd96_ok, efgetP_ok, eIn2_ok, eTimes2_ok, ePlus2_ok, eSmP_ok, eRoot2_ok, eNeg2_ok, eOut2_ok, eRig2_ok, eGrp2_ok, trivial⟩ Tryz.func4 2 (oL [(3, wO 3), (29, { ch := 1, hi := fun _ => 96 }), (36, rO 5 0), (37, wO 1), (45, rO 5 0), (57, { ch := 1, hi := fun _ => 48 }), (64, rO 5 0), (65, wO 1), (73, rO 5 0), (85, { ch := 1, hi := fun _ => 0 }), (129, wO 0), (146, wO 0), (150, wO 1)]) (by kernel_rfl) ⟨_, rfl⟩
      (And.intro (show sml2 ((((ofP (deN 48 (((maskL l).drop 48).take 48)), ofP (deN 48 ((maskL l).take 48))) : F2).1.val, ((ofP (deN 48 (((maskL l).drop 48).take 48)), ofP (deN 48 ((maskL l).take 48))) : F2).2.val), ((rt2 (add2 (mul2 (mul2 ((ofP (deN 48 (((maskL l).drop 48).take 48)), ofP (deN 48 ((maskL l).take 48))) : F2) ((ofP (deN 48 (((maskL l).drop 48).take 48)), ofP (deN 48 ((maskL l).take 48))) : F2)) ((ofP (deN 48 (((maskL l).drop 48).take 48)), ofP (deN 48 ((maskL l).take 48))) : F2)) (ofP (4 % 18446744073709551616), ofP (4 % 18446744073709551616)))).1.val, (rt2 (add2 (mul2 (mul2 ((ofP (deN 48 (((maskL l).drop 48).take 48)), ofP (deN 48 ((maskL l).take 48))) : F2) ((ofP (deN 48 (((maskL l).drop 48).take 48)), ofP (deN 48 ((maskL l).take 48))) : F2)) ((ofP (deN 48 (((maskL l).drop 48).take 48)), ofP (deN 48 ((maskL l).take 48))) : F2)) (ofP (4 % 18446744073709551616), ofP (4 % 18446744073709551616)))).2.val), false) ∧ may2 ((((ofP (deN 48 (((maskL l).drop 48).take 48)), ofP (deN 48 ((maskL l).take 48))) : F2).1.val, ((ofP (deN 48 (((maskL l).drop 48).take 48)), ofP (deN 48 ((maskL l).take 48))) : F2).2.val), ((rt2 (add2 (mul2 (mul2 ((ofP (deN 48 (((maskL l).drop 48).take 48)), ofP (deN 48 ((maskL l).take 48))) : F2) ((ofP (deN 48 (((maskL l).drop 48).take 48)), ofP (deN 48 ((maskL l).take 48))) : F2)) ((ofP (deN 48 (((maskL l).drop 48).take 48)), ofP (deN 48 ((maskL l).take 48))) : F2)) (ofP (4 % 18446744073709551616), ofP (4 % 18446744073709551616)))).1.val, (rt2 (add2 (mul2 (mul2 ((ofP (deN 48 (((maskL l).drop 48).take 48)), ofP (deN 48 ((maskL l).take 48))) : F2) ((ofP (deN 48 (((maskL l).drop 48).take 48)), ofP (deN 48 ((maskL l).take 48))) : F2)) ((ofP (deN 48 (((maskL l).drop 48).take 48)), ofP (deN 48 ((maskL l).take 48))) : F2)) (ofP (4 % 18446744073709551616), ofP (4 % 18446744073709551616)))).2.val), false) ∧ ¬ grp2 ((((ofP (deN 48 (((maskL l).drop 48).take 48)), ofP (deN 48 ((maskL l).take 48))) : F2).1.val, ((ofP (deN 48 (((maskL l).drop 48).take 48)), ofP (deN 48 ((maskL l).take 48))) : F2).2.val), ((rt2 (add2 (mul2 (mul2 ((ofP (deN 48 (((maskL l).drop 48).take 48)), ofP (deN 48 ((maskL l).take 48))) : F2) ((ofP (deN 48 (((maskL l).drop 48).take 48)), ofP (deN 48 ((maskL l).take 48))) : F2)) ((ofP (deN 48 (((maskL l).drop 48).take 48)), ofP (deN 48 ((maskL l).take 48))) : F2)) (ofP (4 % 18446744073709551616), ofP (4 % 18446744073709551616)))).1.val, (rt2 (add2 (mul2 (mul2 ((ofP (deN 48 (((maskL l).drop 48).take 48)), ofP (deN 48 ((maskL l).take 48))) : F2) ((ofP (deN 48 (((maskL l).drop 48).take 48)), ofP (deN 48 ((maskL l).take 48))) : F2)) ((ofP (deN 48 (((maskL l).drop 48).take 48)), ofP (deN 48 ((maskL l).take 48))) : F2)) (ofP (4 % 18446744073709551616), ofP (4 % 18446744073709551616)))).2.val), false) from hg)
      (And.intro (show sml2 ((((ofP (deN 48 (((maskL l).drop 48).take 48)), ofP (deN 48 ((maskL l).take 48))) : F2).1.val, ((ofP (deN 48 (((maskL l).drop 48).take 48)), ofP (deN 48 ((maskL l).take 48))) : F2).2.val), ((rt2 (add2 (mul2 (mul2 ((ofP (deN 48 (((maskL l).drop 48).take 48)), ofP (deN 48 ((maskL l).take 48))) : F2) ((ofP (deN 48 (((maskL l).drop 48).take 48)), ofP (deN 48 ((maskL l).take 48))) : F2)) ((ofP (deN 48 (((maskL l).drop 48).take 48)), ofP (deN 48 ((maskL l).take 48))) : F2)) (ofP (4 % 18446744073709551616), ofP (4 % 18446744073709551616)))).1.val, (rt2 (add2 (mul2 (mul2 ((ofP (deN 48 (((maskL l).drop 48).take 48)), ofP (deN 48 ((maskL l).take 48))) : F2) ((ofP (deN 48 (((maskL l).drop 48).take 48)), ofP (deN 48 ((maskL l).take 48))) : F2)) ((ofP (deN 48 (((maskL l).drop 48).take 48)), ofP (deN 48 ((maskL l).take 48))) : F2)) (ofP (4 % 18446744073709551616), ofP (4 % 18446744073709551616)))).2.val), false) ∧ may2 ((((ofP (deN 48 (((maskL l).drop 48).take 48)), ofP (deN 48 ((maskL l).take 48))) : F2).1.val, ((ofP (deN 48 (((maskL l).drop 48).take 48)), ofP (deN 48 ((maskL l).take 48))) : F2).2.val), ((rt2 (add2 (mul2 (mul2 ((ofP (deN 48 (((maskL l).drop 48).take 48)), ofP (deN 48 ((maskL l).take 48))) : F2) ((ofP (deN 48 (((maskL l).drop 48).take 48)), ofP (deN 48 ((maskL l).take 48))) : F2)) ((ofP (deN 48 (((maskL l).drop 48).take 48)), ofP (deN 48 ((maskL l).take 48))) : F2)) (ofP (4 % 18446744073709551616), ofP (4 % 18446744073709551616)))).1.val, (rt2 (add2 (mul2 (mul2 ((ofP (deN 48 (((maskL l).drop 48).take 48)), ofP (deN 48 ((maskL l).take 48))) : F2) ((ofP (deN 48 (((maskL l).drop 48).take 48)), ofP (deN 48 ((maskL l).take 48))) : F2)) ((ofP (deN 48 (((maskL l).drop 48).take 48)), ofP (deN 48 ((maskL l).take 48))) : F2)) (ofP (4 % 18446744073709551616), ofP (4 % 18446744073709551616)))).2.val), false) from ⟨hg.1, hg.2.1⟩)
      (And.intro (zgd_8 l hq)
      (And.intro (zgd_0 l hL)
      (And.intro (zgd_1 l hL)
      (And.intro (zgd_2 l hL h1)
      (And.intro (zgd_1 l hL)
      (And.intro (zgd_3 l hL)
      (And.intro (zgd_4 l hL)
      (And.intro (zgd_5 l hL h0)
      (And.intro (zgd_4 l hL)
      (And.intro (zgd_6 l hL)
      (And.intro (zgd_7 l hL ht) trivial)))))))))))))
theorem get2_s4ok (l : List UInt8) (hL : l.length = 96) (ht : top3 l = 4) (h0 : c2 l 0 < 4002409555221667393417789825735904156556882819939007885332058136124031650490837864442687629129015664037894272559787) (h1 : c2 l 1 < 4002409555221667393417789825735904156556882819939007885332058136124031650490837864442687629129015664037894272559787) (hq : sq2 (add2 (mul2 (mul2 ((ofP (deN 48 (((maskL l).drop 48).take 48)), ofP (deN 48 ((maskL l).take 48))) : F2) ((ofP (deN 48 (((maskL l).drop 48).take 48)), ofP (deN 48 ((maskL l).take 48))) : F2)) ((ofP (deN 48 (((maskL l).drop 48).take 48)), ofP (deN 48 ((maskL l).take 48))) : F2)) (ofP (4 % 18446744073709551616), ofP (4 % 18446744073709551616)))) (hg : sml2 ((((ofP (deN 48 (((maskL l).drop 48).take 48)), ofP (deN 48 ((maskL l).take 48))) : F2).1.val, ((ofP (deN 48 (((maskL l).drop 48).take 48)), ofP (deN 48 ((maskL l).take 48))) : F2).2.val), ((rt2 (add2 (mul2 (mul2 ((ofP (deN 48 (((maskL l).drop 48).take 48)), ofP (deN 48 ((maskL l).take 48))) : F2) ((ofP (deN 48 (((maskL l).drop 48).take 48)), ofP (deN 48 ((maskL l).take 48))) : F2)) ((ofP (deN 48 (((maskL l).drop 48).take 48)), ofP (deN 48 ((maskL l).take 48))) : F2)) (ofP (4 % 18446744073709551616), ofP (4 % 18446744073709551616)))).1.val, (rt2 (add2 (mul2 (mul2 ((ofP (deN 48 (((maskL l).drop 48).take 48)), ofP (deN 48 ((maskL l).take 48))) : F2) ((ofP (deN 48 (((maskL l).drop 48).take 48)), ofP (deN 48 ((maskL l).take 48))) : F2)) ((ofP (deN 48 (((maskL l).drop 48).take 48)), ofP (deN 48 ((maskL l).take 48))) : F2)) (ofP (4 % 18446744073709551616), ofP (4 % 18446744073709551616)))).2.val), false) ∧ may2 ((((ofP (deN 48 (((maskL l).drop 48).take 48)), ofP (deN 48 ((maskL l).take 48))) : F2).1.val, ((ofP (deN 48 (((maskL l).drop 48).take 48)), ofP (deN 48 ((maskL l).take 48))) : F2).2.val), ((rt2 (add2 (mul2 (mul2 ((ofP (deN 48 (((maskL l).drop 48).take 48)), ofP (deN 48 ((maskL l).take 48))) : F2) ((ofP (deN 48 (((maskL l).drop 48).take 48)), ofP (deN 48 ((maskL l).take 48))) : F2)) ((ofP (deN 48 (((maskL l).drop 48).take 48)), ofP (deN 48 ((maskL l).take 48))) : F2)) (ofP (4 % 18446744073709551616), ofP (4 % 18446744073709551616)))).1.val, (rt2 (add2 (mul2 (mul2 ((ofP (deN 48 (((maskL l).drop 48).take 48)), ofP (deN 48 ((maskL l).take 48))) : F2) ((ofP (deN 48 (((maskL l).drop 48).take 48)), ofP (deN 48 ((maskL l).take 48))) : F2)) ((ofP (deN 48 (((maskL l).drop 48).take 48)), ofP (deN 48 ((maskL l).take 48))) : F2)) (ofP (4 % 18446744073709551616), ofP (4 % 18446744073709551616)))).2.val), false) ∧ grp2 ((((ofP (deN 48 (((maskL l).drop 48).take 48)), ofP (deN 48 ((maskL l).take 48))) : F2).1.val, ((ofP (deN 48 (((maskL l).drop 48).take 48)), ofP (deN 48 ((maskL l).take 48))) : F2).2.val), ((rt2 (add2 (mul2 (mul2 ((ofP (deN 48 (((maskL l).drop 48).take 48)), ofP (deN 48 ((maskL l).take 48))) : F2) ((ofP (deN 48 (((maskL l).drop 48).take 48)), ofP (deN 48 ((maskL l).take 48))) : F2)) ((ofP (deN 48 (((maskL l).drop 48).take 48)), ofP (deN 48 ((maskL l).take 48))) : F2)) (ofP (4 % 18446744073709551616), ofP (4 % 18446744073709551616)))).1.val, (rt2 (add2 (mul2 (mul2 ((ofP (deN 48 (((maskL l).drop 48).take 48)), ofP (deN 48 ((maskL l).take 48))) : F2) ((ofP (deN 48 (((maskL l).drop 48).take 48)), ofP (deN 48 ((maskL l).take 48))) : F2)) ((ofP (deN 48 (((maskL l).drop 48).take 48)), ofP (deN 48 ((maskL l).take 48))) : F2)) (ofP (4 % 18446744073709551616), ofP (4 % 18446744073709551616)))).2.val), false)) : Gives Tryz.prog 4 [.t (.v (.string (ofL l)))] (.tp [.ag [.q ((ofP (deN 48 (((maskL l).drop 48).take 48)), ofP (deN 48 ((maskL l).take 48))) : F2).1, .q ((ofP (deN 48 (((maskL l).drop 48).take 48)), ofP (deN 48 ((maskL l).take 48))) : F2).2, .q (rt2 (add2 (mul2 (mul2 ((ofP (deN 48 (((maskL l).drop 48).take 48)), ofP (deN 48 ((maskL l).take 48))) : F2) ((ofP (deN 48 (((maskL l).drop 48).take 48)), ofP (deN 48 ((maskL l).take 48))) : F2)) ((ofP (deN 48 (((maskL l).drop 48).take 48)), ofP (deN 48 ((maskL l).take 48))) : F2)) (ofP (4 % 18446744073709551616), ofP (4 % 18446744073709551616)))).1, .q (rt2 (add2 (mul2 (mul2 ((ofP (deN 48 (((maskL l).drop 48).take 48)), ofP (deN 48 ((maskL l).take 48))) : F2) ((ofP (deN 48 (((maskL l).drop 48).take 48)), ofP (deN 48 ((maskL l).take 48))) : F2)) ((ofP (deN 48 (((maskL l).drop 48).take 48)), ofP (deN 48 ((maskL l).take 48))) : F2)) (ofP (4 % 18446744073709551616), ofP (4 % 18446744073709551616)))).2, .c (.bool false)], .v (.int .i64 0)]) :=
  fn_gives_at (P := Tryz.prog) (X := rulesX _) (env := [eHd96, efgetP, eIn2, eTimes2, ePlus2, eSmP, eRoot2, eNeg2, eOut2, eRig2, eGrp2]) ⟨eHd96_ok, efgetP_ok, eIn2_ok, eTimes2_ok, ePlus2_ok, eSmP_ok, eRoot2_ok, eNeg2_ok, eOut2_ok, eRig2_ok, eGrp2_ok, trivial⟩ Tryz.func4 2 (oL [(3, wO 3), (29, { ch := 1, hi := fun _ => 96 }), (36, rO 5 0), (37, wO 1), (45, rO 5 0), (57, { ch := 1, hi := fun _ => 48 }), (64, rO 5 0), (65, wO 1), (73, rO 5 0), (85, { ch := 1, hi := fun _ => 0 }), (129, wO 0), (146, wO 0), (150, wO 0)]) (by kernel_rfl) ⟨_, rfl⟩
      (And.intro (show sml2 ((((ofP (deN 48 (((maskL l).drop 48).take 48)), ofP (deN 48 ((maskL l).take 48))) : F2).1.val, ((ofP (deN 48 (((maskL l).drop 48).take 48)), ofP (deN 48 ((maskL l).take 48))) : F2).2.val), ((rt2 (add2 (mul2 (mul2 ((ofP (deN 48 (((maskL l).drop 48).take 48)), ofP (deN 48 ((maskL l).take 48))) : F2) ((ofP (deN 48 (((maskL l).drop 48).take 48)), ofP (deN 48 ((maskL l).take 48))) : F2)) ((ofP (deN 48 (((maskL l).drop 48).take 48)), ofP (deN 48 ((maskL l).take 48))) : F2)) (ofP (4 % 18446744073709551616), ofP (4 % 18446744073709551616)))).1.val, (rt2 (add2 (mul2 (mul2 ((ofP (deN 48 (((maskL l).drop 48).take 48)), ofP (deN 48 ((maskL l).take 48))) : F2) ((ofP (deN 48 (((maskL l).drop 48).take 48)), ofP (deN 48 ((maskL l).take 48))) : F2)) ((ofP (deN 48 (((maskL l).drop 48).take 48)), ofP (deN 48 ((maskL l).take 48))) : F2)) (ofP (4 % 18446744073709551616), ofP (4 % 18446744073709551616)))).2.val), false) ∧ may2 ((((ofP (deN 48 (((maskL l).drop 48).take 48)), ofP (deN 48 ((maskL l).take 48))) : F2).1.val, ((ofP (deN 48 (((maskL l).drop 48).take 48)), ofP (deN 48 ((maskL l).take 48))) : F2).2.val), ((rt2 (add2 (mul2 (mul2 ((ofP (deN 48 (((maskL l).drop 48).take 48)), ofP (deN 48 ((maskL l).take 48))) : F2) ((ofP (deN 48 (((maskL l).drop 48).take 48)), ofP (deN 48 ((maskL l).take 48))) : F2)) ((ofP (deN 48 (((maskL l).drop 48).take 48)), ofP (deN 48 ((maskL l).take 48))) : F2)) (ofP (4 % 18446744073709551616), ofP (4 % 18446744073709551616)))).1.val, (rt2 (add2 (mul2 (mul2 ((ofP (deN 48 (((maskL l).drop 48).take 48)), ofP (deN 48 ((maskL l).take 48))) : F2) ((ofP (deN 48 (((maskL l).drop 48).take 48)), ofP (deN 48 ((maskL l).take 48))) : F2)) ((ofP (deN 48 (((maskL l).drop 48).take 48)), ofP (deN 48 ((maskL l).take 48))) : F2)) (ofP (4 % 18446744073709551616), ofP (4 % 18446744073709551616)))).2.val), false) ∧ grp2 ((((ofP (deN 48 (((maskL l).drop 48).take 48)), ofP (deN 48 ((maskL l).take 48))) : F2).1.val, ((ofP (deN 48 (((maskL l).drop 48).take 48)), ofP (deN 48 ((maskL l).take 48))) : F2).2.val), ((rt2 (add2 (mul2 (mul2 ((ofP (deN 48 (((maskL l).drop 48).take 48)), ofP (deN 48 ((maskL l).take 48))) : F2) ((ofP (deN 48 (((maskL l).drop 48).take 48)), ofP (deN 48 ((maskL l).take 48))) : F2)) ((ofP (deN 48 (((maskL l).drop 48).take 48)), ofP (deN 48 ((maskL l).take 48))) : F2)) (ofP (4 % 18446744073709551616), ofP (4 % 18446744073709551616)))).1.val, (rt2 (add2 (mul2 (mul2 ((ofP (deN 48 (((maskL l).drop 48).take 48)), ofP (deN 48 ((maskL l).take 48))) : F2) ((ofP (deN 48 (((maskL l).drop 48).take 48)), ofP (deN 48 ((maskL l).take 48))) : F2)) ((ofP (deN 48 (((maskL l).drop 48).take 48)), ofP (deN 48 ((maskL l).take 48))) : F2)) (ofP (4 % 18446744073709551616), ofP (4 % 18446744073709551616)))).2.val), false) from hg)
      (And.intro (show sml2 ((((ofP (deN 48 (((maskL l).drop 48).take 48)), ofP (deN 48 ((maskL l).take 48))) : F2).1.val, ((ofP (deN 48 (((maskL l).drop 48).take 48)), ofP (deN 48 ((maskL l).take 48))) : F2).2.val), ((rt2 (add2 (mul2 (mul2 ((ofP (deN 48 (((maskL l).drop 48).take 48)), ofP (deN 48 ((maskL l).take 48))) : F2) ((ofP (deN 48 (((maskL l).drop 48).take 48)), ofP (deN 48 ((maskL l).take 48))) : F2)) ((ofP (deN 48 (((maskL l).drop 48).take 48)), ofP (deN 48 ((maskL l).take 48))) : F2)) (ofP (4 % 18446744073709551616), ofP (4 % 18446744073709551616)))).1.val, (rt2 (add2 (mul2 (mul2 ((ofP (deN 48 (((maskL l).drop 48).take 48)), ofP (deN 48 ((maskL l).take 48))) : F2) ((ofP (deN 48 (((maskL l).drop 48).take 48)), ofP (deN 48 ((maskL l).take 48))) : F2)) ((ofP (deN 48 (((maskL l).drop 48).take 48)), ofP (deN 48 ((maskL l).take 48))) : F2)) (ofP (4 % 18446744073709551616), ofP (4 % 18446744073709551616)))).2.val), false) ∧ may2 ((((ofP (deN 48 (((maskL l).drop 48).take 48)), ofP (deN 48 ((maskL l).take 48))) : F2).1.val, ((ofP (deN 48 (((maskL l).drop 48).take 48)), ofP (deN 48 ((maskL l).take 48))) : F2).2.val), ((rt2 (add2 (mul2 (mul2 ((ofP (deN 48 (((maskL l).drop 48).take 48)), ofP (deN 48 ((maskL l).take 48))) : F2) ((ofP (deN 48 (((maskL l).drop 48).take 48)), ofP (deN 48 ((maskL l).take 48))) : F2)) ((ofP (deN 48 (((maskL l).drop 48).take 48)), ofP (deN 48 ((maskL l).take 48))) : F2)) (ofP (4 % 18446744073709551616), ofP (4 % 18446744073709551616)))).1.val, (rt2 (add2 (mul2 (mul2 ((ofP (deN 48 (((maskL l).drop 48).take 48)), ofP (deN 48 ((maskL l).take 48))) : F2) ((ofP (deN 48 (((maskL l).drop 48).take 48)), ofP (deN 48 ((maskL l).take 48))) : F2)) ((ofP (deN 48 (((maskL l).drop 48).take 48)), ofP (deN 48 ((maskL l).take 48))) : F2)) (ofP (4 % 18446744073709551616), ofP (4 % 18446744073709551616)))).2.val), false) from ⟨hg.1, hg.2.1⟩)
      (And.intro (zgd_8 l hq)
      (And.intro (zgd_0 l hL)
      (And.intro (zgd_1 l hL)
      (And.intro (zgd_2 l hL h1)
      (And.intro (zgd_1 l hL)
      (And.intro (zgd_3 l hL)
      (And.intro (zgd_4 l hL)
      (And.intro (zgd_5 l hL h0)
      (And.intro (zgd_4 l hL)
      (And.intro (zgd_6 l hL)
      (And.intro (zgd_7 l hL ht) trivial)))))))))))))
theorem zgd_9 (l : List UInt8) (hL : l.length = 96) (h1 : 4002409555221667393417789825735904156556882819939007885332058136124031650490837864442687629129015664037894272559787 ≤ c2 l 1) : (((maskL l).drop 48).take 48).length = 48 ∧ 4002409555221667393417789825735904156556882819939007885332058136124031650490837864442687629129015664037894272559787 ≤ deN 48 (((maskL l).drop 48).take 48) := ⟨by simp [mask_length, hL], h1⟩
theorem get2_s4r10 (l : List UInt8) (hL : l.length = 96) (ht : top3 l = 4) (h0 : c2 l 0 < 4002409555221667393417789825735904156556882819939007885332058136124031650490837864442687629129015664037894272559787) (h1 : 4002409555221667393417789825735904156556882819939007885332058136124031650490837864442687629129015664037894272559787 ≤ c2 l 1) : Gives Tryz.prog 4 [.t (.v (.string (ofL l)))] (.tp [.ag [.c (.int .u64 0), .c (.int .u64 0), .c (.int .u64 0), .c (.int .u64 0), .c (.int .u64 0), .c (.int .u64 0), .c (.int .u64 0), .c (.int .u64 0), .c (.int .u64 0), .c (.int .u64 0), .c (.int .u64 0), .c (.int .u64 0), .c (.int .u64 0), .c (.int .u64 0), .c (.int .u64 0), .c (.int .u64 0), .c (.int .u64 0), .c (.int .u64 0), .c (.int .u64 0), .c (.int .u64 0), .c (.int .u64 0), .c (.int .u64 0), .c (.int .u64 0), .c (.int .u64 0), .c (.bool false)], .v (.int .i64 20)]) :=
  fn_gives_at (P := Tryz.prog) (X := rulesX _) (env := [eHd96, efgetP, eIn2, eTimes2, ePlus2, eSmP, eRoot2, eNeg2, eOut2, eRig2, eGrp2]) ⟨eHd96_ok, efgetP_ok, eIn2_ok, eTimes2_ok, ePlus2_ok, eSmP_ok, eRoot2_ok, eNeg2_ok, eOut2_ok, eRig2_ok, eGrp2_ok, trivial⟩ Tryz.func4 2 (oL [(3, wO 3), (29, { ch := 1, hi := fun _ => 96 }), (36, rO 5 0), (37, wO 1), (45, rO 5 0), (57, { ch := 1, hi := fun _ => 48 }), (64, rO 5 0), (65, wO 2), (73, rO 5 0), (85, { ch := 1, hi := fun _ => 0 })]) (by kernel_rfl) ⟨_, rfl⟩
      (And.intro (zgd_0 l hL)
      (And.intro (zgd_1 l hL)
      (And.intro (zgd_9 l hL h1)
      (And.intro (zgd_1 l hL)
      (And.intro (zgd_3 l hL)
      (And.intro (zgd_4 l hL)
      (And.intro (zgd_5 l hL h0)
      (And.intro (zgd_4 l hL)
      (And.intro (zgd_6 l hL)
      (And.intro (zgd_7 l hL ht) trivial))))))))))
theorem zgd_10 (l : List UInt8) (hL : l.length = 96) (h0 : 4002409555221667393417789825735904156556882819939007885332058136124031650490837864442687629129015664037894272559787 ≤ c2 l 0) : ((maskL l).take 48).length = 48 ∧ 4002409555221667393417789825735904156556882819939007885332058136124031650490837864442687629129015664037894272559787 ≤ deN 48 ((maskL l).take 48) := ⟨by simp [mask_length, hL], h0⟩
theorem get2_s4r01 (l : List UInt8) (hL : l.length = 96) (ht : top3 l = 4) (h0 : 4002409555221667393417789825735904156556882819939007885332058136124031650490837864442687629129015664037894272559787 ≤ c2 l 0) (h1 : c2 l 1 < 4002409555221667393417789825735904156556882819939007885332058136124031650490837864442687629129015664037894272559787) : Gives Tryz.prog 4 [.t (.v (.string (ofL l)))] (.tp [.ag [.c (.int .u64 0), .c (.int .u64 0), .c (.int .u64 0), .c (.int .u64 0), .c (.int .u64 0), .c (.int .u64 0), .c (.int .u64 0), .c (.int .u64 0), .c (.int .u64 0), .c (.int .u64 0), .c (.int .u64 0), .c (.int .u64 0), .c (.int .u64 0), .c (.int .u64 0), .c (.int .u64 0), .c (.int .u64 0), .c (.int .u64 0), .c (.int .u64 0), .c (.int .u64 0), .c (.int .u64 0), .c (.int .u64 0), .c (.int .u64 0), .c (.int .u64 0), .c (.int .u64 0), .c (.bool false)], .v (.int .i64 20)]) :=
  fn_gives_at (P := Tryz.prog) (X := rulesX _) (env := [eHd96, efgetP, eIn2, eTimes2, ePlus2, eSmP, eRoot2, eNeg2, eOut2, eRig2, eGrp2]) ⟨eHd96_ok, efgetP_ok, eIn2_ok, eTimes2_ok, ePlus2_ok, eSmP_ok, eRoot2_ok, eNeg2_ok, eOut2_ok, eRig2_ok, eGrp2_ok, trivial⟩ Tryz.func4 2 (oL [(3, wO 3), (29, { ch := 1, hi := fun _ => 96 }), (36, rO 5 0), (37, wO 2), (45, rO 5 0), (57, { ch := 1, hi := fun _ => 48 }), (64, rO 5 0), (65, wO 1), (73, rO 5 0), (83, { ch := 1, hi := fun _ => 0 })]) (by kernel_rfl) ⟨_, rfl⟩
      (And.intro (zgd_0 l hL)
      (And.intro (zgd_1 l hL)
      (And.intro (zgd_2 l hL h1)
      (And.intro (zgd_1 l hL)
      (And.intro (zgd_3 l hL)
      (And.intro (zgd_4 l hL)
      (And.intro (zgd_10 l hL h0)
      (And.intro (zgd_4 l hL)
      (And.intro (zgd_6 l hL)
      (And.intro (zgd_7 l hL ht) trivial))))))))))
theorem get2_s4r00 (l : List UInt8) (hL : l.length = 96) (ht : top3 l = 4) (h0 : 4002409555221667393417789825735904156556882819939007885332058136124031650490837864442687629129015664037894272559787 ≤ c2 l 0) (h1 : 4002409555221667393417789825735904156556882819939007885332058136124031650490837864442687629129015664037894272559787 ≤ c2 l 1) : Gives Tryz.prog 4 [.t (.v (.string (ofL l)))] (.tp [.ag [.c (.int .u64 0), .c (.int .u64 0), .c (.int .u64 0), .c (.int .u64 0), .c (.int .u64 0), .c (.int .u64 0), .c (.int .u64 0), .c (.int .u64 0), .c (.int .u64 0), .c (.int .u64 0), .c (.int .u64 0), .c (.int .u64 0), .c (.int .u64 0), .c (.int .u64 0), .c (.int .u64 0), .c (.int .u64 0), .c (.int .u64 0), .c (.int .u64 0), .c (.int .u64 0), .c (.int .u64 0), .c (.int .u64 0), .c (.int .u64 0), .c (.int .u64 0), .c (.int .u64 0), .c (.bool false)], .v (.int .i64 20)]) :=
  fn_gives_at (P := Tryz.prog) (X := rulesX _) (env := [eHd96, efgetP, eIn2, eTimes2, ePlus2, eSmP, eRoot2, eNeg2, eOut2, eRig2, eGrp2]) ⟨eHd96_ok, efgetP_ok, eIn2_ok, eTimes2_ok, ePlus2_ok, eSmP_ok, eRoot2_ok, eNeg2_ok, eOut2_ok, eRig2_ok, eGrp2_ok, trivial⟩ Tryz.func4 2 (oL [(3, wO 3), (29, { ch := 1, hi := fun _ => 96 }), (36, rO 5 0), (37, wO 2), (45, rO 5 0), (57, { ch := 1, hi := fun _ => 48 }), (64, rO 5 0), (65, wO 2), (73, rO 5 0), (83, { ch := 1, hi := fun _ => 0 })]) (by kernel_rfl) ⟨_, rfl⟩
      (And.intro (zgd_0 l hL)
      (And.intro (zgd_1 l hL)
      (And.intro (zgd_9 l hL h1)
      (And.intro (zgd_1 l hL)
      (And.intro (zgd_3 l hL)
      (And.intro (zgd_4 l hL)
      (And.intro (zgd_10 l hL h0)
      (And.intro (zgd_4 l hL)
      (And.intro (zgd_6 l hL)
      (And.intro (zgd_7 l hL ht) trivial))))))))))
theorem zgd_11 (l : List UInt8) (hL : l.length = 96) (ht : top3 l = 5) : l.length = 96 ∧ top3 l = 5 := ⟨hL, ht⟩
theorem get2_s5n (l : List UInt8) (hL : l.length = 96) (ht : top3 l = 5) (h0 : c2 l 0 < 4002409555221667393417789825735904156556882819939007885332058136124031650490837864442687629129015664037894272559787) (h1 : c2 l 1 < 4002409555221667393417789825735904156556882819939007885332058136124031650490837864442687629129015664037894272559787) (hq : ¬ sq2 (add2 (mul2 (mul2 ((ofP (deN 48 (((maskL l).drop 48).take 48)), ofP (deN 48 ((maskL l).take 48))) : F2) ((ofP (deN 48 (((maskL l).drop 48).take 48)), ofP (deN 48 ((maskL l).take 48))) : F2)) ((ofP (deN 48 (((maskL l).drop 48).take 48)), ofP (deN 48 ((maskL l).take 48))) : F2)) (ofP (4 % 18446744073709551616), ofP (4 % 18446744073709551616)))) : Gives Tryz.prog 4 [.t (.v (.string (ofL l)))] (.tp [.ag [.c (.int .u64 0), .c (.int .u64 0), .c (.int .u64 0), .c (.int .u64 0), .c (.int .u64 0), .c (.int .u64 0), .c (.int .u64 0), .c (.int .u64 0), .c (.int .u64 0), .c (.int .u64 0), .c (.int .u64 0), .c (.int .u64 0), .c (.int .u64 0), .c (.int .u64 0), .c (.int .u64 0), .c (.int .u64 0), .c (.int .u64 0), .c (.int .u64 0), .c (.int .u64 0), .c (.int .u64 0), .c (.int .u64 0), .c (.int .u64 0), .c (.int .u64 0), .c (.int .u64 0), .c (.bool false)], .v (.int .i64 30)]) :=
  fn_gives_at (P := Tryz.prog) (X := rulesX _) (env := [eHd96, efgetP, eIn2, eTimes2, ePlus2, eSmP, eRoot2, eNeg2, eOut2, eRig2, eGrp2]) ⟨eHd96_ok, efgetP_ok, eIn2_ok, eTimes2_ok, ePlus2_ok, eSmP_ok, eRoot2_ok, eNeg2_ok, eOut2_ok, eRig2_ok, eGrp2_ok, trivial⟩ Tryz.func4 2 (oL [(3, wO 4), (29, { ch := 1, hi := fun _ => 96 }), (36, rO 5 0), (37, wO 1), (45, rO 5 0), (57, { ch := 1, hi := fun _ => 48 }), (64, rO 5 0), (65, wO 1), (73, rO 5 0), (85, { ch := 1, hi := fun _ => 0 }), (129, wO 1)]) (by kernel_rfl) ⟨_, rfl⟩
      (And.intro (show ¬ sq2 (add2 (mul2 (mul2 ((ofP (deN 48 (((maskL l).drop 48).take 48)), ofP (deN 48 ((maskL l).take 48))) : F2) ((ofP (deN 48 (((maskL l).drop 48).take 48)), ofP (deN 48 ((maskL l).take 48))) : F2)) ((ofP (deN 48 (((maskL l).drop 48).take 48)), ofP (deN 48 ((maskL l).take 48))) : F2)) (ofP (4 % 18446744073709551616), ofP (4 % 18446744073709551616))) from hq)
      (And.intro (zgd_0 l hL)
      (And.intro (zgd_1 l hL)
      (And.intro (zgd_2 l hL h1)
      (And.intro (zgd_1 l hL)
      (And.intro (zgd_3 l hL)
      (And.intro (zgd_4 l hL)
      (And.intro (zgd_5 l hL h0)
      (And.intro (zgd_4 l hL)
      (And.intro (zgd_6 l hL)
      (And.intro (zgd_11 l hL ht) trivial)))))))))))
theorem get2_s5g (l : List UInt8) (hL : l.length = 96) (ht : top3 l = 5) (h0 : c2 l 0 < 4002409555221667393417789825735904156556882819939007885332058136124031650490837864442687629129015664037894272559787) (h1 : c2 l 1 < 4002409555221667393417789825735904156556882819939007885332058136124031650490837864442687629129015664037894272559787) (hq : sq2 (add2 (mul2 (mul2 ((ofP (deN 48 (((maskL l).drop 48).take 48)), ofP (deN 48 ((maskL l).take 48))) : F2) ((ofP (deN 48 (((maskL l).drop 48).take 48)), ofP (deN 48 ((maskL l).take 48))) : F2)) ((ofP (deN 48 (((maskL l).drop 48).take 48)), ofP (deN 48 ((maskL l).take 48))) : F2)) (ofP (4 % 18446744073709551616), ofP (4 % 18446744073709551616)))) (hg : sml2 ((((ofP (deN 48 (((maskL l).drop 48).take 48)), ofP (deN 48 ((maskL l).take 48))) : F2).1.val, ((ofP (deN 48 (((maskL l).drop 48).take 48)), ofP (deN 48 ((maskL l).take 48))) : F2).2.val), ((neg2 (rt2 (add2 (mul2 (mul2 ((ofP (deN 48 (((maskL l).drop 48).take 48)), ofP (deN 48 ((maskL l).take 48))) : F2) ((ofP (deN 48 (((maskL l).drop 48).take 48)), ofP (deN 48 ((maskL l).take 48))) : F2)) ((ofP (deN 48 (((maskL l).drop 48).take 48)), ofP (deN 48 ((maskL l).take 48))) : F2)) (ofP (4 % 18446744073709551616), ofP (4 % 18446744073709551616))))).1.val, (neg2 (rt2 (add2 (mul2 (mul2 ((ofP (deN 48 (((maskL l).drop 48).take 48)), ofP (deN 48 ((maskL l).take 48))) : F2) ((ofP (deN 48 (((maskL l).drop 48).take 48)), ofP (deN 48 ((maskL l).take 48))) : F2)) ((ofP (deN 48 (((maskL l).drop 48).take 48)), ofP (deN 48 ((maskL l).take 48))) : F2)) (ofP (4 % 18446744073709551616), ofP (4 % 18446744073709551616))))).2.val), false) ∧ may2 ((((ofP (deN 48 (((maskL l).drop 48).take 48)), ofP (deN 48 ((maskL l).take 48))) : F2).1.val, ((ofP (deN 48 (((maskL l).drop 48).take 48)), ofP (deN 48 ((maskL l).take 48))) : F2).2.val), ((neg2 (rt2 (add2 (mul2 (mul2 ((ofP (deN 48 (((maskL l).drop 48).take 48)), ofP (deN 48 ((maskL l).take 48))) : F2) ((ofP (deN 48 (((maskL l).drop 48).take 48)), ofP (deN 48 ((maskL l).take 48))) : F2)) ((ofP (deN 48 (((maskL l).drop 48).take 48)), ofP (deN 48 ((maskL l).take 48))) : F2)) (ofP (4 % 18446744073709551616), ofP (4 % 18446744073709551616))))).1.val, (neg2 (rt2 (add2 (mul2 (mul2 ((ofP (deN 48 (((maskL l).drop 48).take 48)), ofP (deN 48 ((maskL l).take 48))) : F2) ((ofP (deN 48 (((maskL l).drop 48).take 48)), ofP (deN 48 ((maskL l).take 48))) : F2)) ((ofP (deN 48 (((maskL l).drop 48).take 48)), ofP (deN 48 ((maskL l).take 48))) : F2)) (ofP (4 % 18446744073709551616), ofP (4 % 18446744073709551616))))).2.val), false) ∧ ¬ grp2 ((((ofP (deN 48 (((maskL l).drop 48).take 48)), ofP (deN 48 ((maskL l).take 48))) : F2).1.val, ((ofP (deN 48 (((maskL l).drop 48).take 48)), ofP (deN 48 ((maskL l).take 48))) : F2).2.val), ((neg2 (rt2 (add2 (mul2 (mul2 ((ofP (deN 48 (((maskL l).drop 48).take 48)), ofP (deN 48 ((maskL l).take 48))) : F2) ((ofP (deN 48 (((maskL l).drop 48).take 48)), ofP (deN 48 ((maskL l).take 48))) : F2)) ((ofP (deN 48 (((maskL l).drop 48).take 48)), ofP (deN 48 ((maskL l).take 48))) : F2)) (ofP (4 % 18446744073709551616), ofP (4 % 18446744073709551616))))).1.val, (neg2 (rt2 (add2 (mul2 (mul2 ((ofP (deN 48 (((maskL l).drop 48).take 48)), ofP (deN 48 ((maskL l).take 48))) : F2) ((ofP (deN 48 (((maskL l).drop 48).take 48)), ofP (deN 48 ((maskL l).take 48))) : F2)) ((ofP (deN 48 (((maskL l).drop 48).take 48)), ofP (deN 48 ((maskL l).take 48))) : F2)) (ofP (4 % 18446744073709551616), ofP (4 % 18446744073709551616))))).2.val), false)) : Gives Tryz.prog 4 [.t (.v (.string (ofL l)))] (.tp [.ag [.c (.int .u64 0), .c (.int .u64 0), .c (.int .u64 0), .c (.int .u64 0), .c (.int .u64 0), .c (.int .u64 0), .c (.int .u64 0), .c (.int .u64 0), .c (.int .u64 0), .c (.int .u64 0), .c (.int .u64 0), .c (.int .u64 0), .c (.int .u64 0), .c (.int .u64 0), .c (.int .u64 0), .c (.int .u64 0), .c (.int .u64 0), .c (.int .u64 0), .c (.int .u64 0), .c (.int .u64 0), .c (.int .u64 0), .c (.int .u64 0), .c (.int .u64 0), .c (.int .u64 0), .c (.bool false)], .v (.int .i64 31)]) :=
  fn_gives_at (P := Tryz.prog) (X := rulesX _) (env := [eHd96, efgetP, eIn2, eTimes2, ePlus2, eSmP, eRoot2, eNeg2, eOut2, eRig2, eGrp2]) ⟨eHd96_ok, efgetP_ok, eIn2_ok, eTimes2_ok, ePlus2_ok, eSmP_ok, eRoot2_ok, eNeg2_ok, eOut2_ok, eRig2_ok, eGrp2_ok, trivial⟩ Tryz.func4 2 (oL [(3, wO 4), (29, { ch := 1, hi := fun _ => 96 }), (36, rO 5 0), (37, wO 1), (45, rO 5 0), (57, { ch := 1, hi := fun _ => 48 }), (64, rO 5 0), (65, wO 1), (73, rO 5 0), (85, { ch := 1, hi := fun _ => 0 }), (129, wO 0), (149, wO 0), (153, wO 1)]) (by kernel_rfl) ⟨_, rfl⟩
      (And.intro (show sml2 ((((ofP (deN 48 (((maskL l).drop 48).take 48)), ofP (deN 48 ((maskL l).take 48))) : F2).1.val, ((ofP (deN 48 (((maskL l).drop 48).take 48)), ofP (deN 48 ((maskL l).take 48))) : F2).2.val), ((neg2 (rt2 (add2 (mul2 (mul2 ((ofP (deN 48 (((maskL l).drop 48).take 48)), ofP (deN 48 ((maskL l).take 48))) : F2) ((ofP (deN 48 (((maskL l).drop 48).take 48)), ofP (deN 48 ((maskL l).take 48))) : F2)) ((ofP (deN 48 (((maskL l).drop 48).take 48)), ofP (deN 48 ((maskL l).take 48))) : F2)) (ofP (4 % 18446744073709551616), ofP (4 % 18446744073709551616))))).1.val, (neg2 (rt2 (add2 (mul2 (mul2 ((ofP (deN 48 (((maskL l).drop 48).take 48)), ofP (deN 48 ((maskL l).take 48))) : F2) ((ofP (deN 48 (((maskL l).drop 48).take 48)), ofP (deN 48 ((maskL l).take 48))) : F2)) ((ofP (deN 48 (((maskL l).drop 48).take 48)), ofP (deN 48 ((maskL l).take 48))) : F2)) (ofP (4 % 18446744073709551616), ofP (4 % 18446744073709551616))))).2.val), false) ∧ may2 ((((ofP (deN 48 (((maskL l).drop 48).take 48)), ofP (deN 48 ((maskL l).take 48))) : F2).1.val, ((ofP (deN 48 (((maskL l).drop 48).take 48)), ofP (deN 48 ((maskL l).take 48))) : F2).2.val), ((neg2 (rt2 (add2 (mul2 (mul2 ((ofP (deN 48 (((maskL l).drop 48).take 48)), ofP (deN 48 ((maskL l).take 48))) : F2) ((ofP (deN 48 (((maskL l).drop 48).take 48)), ofP (deN 48 ((maskL l).take 48))) : F2)) ((ofP (deN 48 (((maskL l).drop 48).take 48)), ofP (deN 48 ((maskL l).take 48))) : F2)) (ofP (4 % 18446744073709551616), ofP (4 % 18446744073709551616))))).1.val, (neg2 (rt2 (add2 (mul2 (mul2 ((ofP (deN 48 (((maskL l).drop 48).take 48)), ofP (deN 48 ((maskL l).take 48))) : F2) ((ofP (deN 48 (((maskL l).drop 48).take 48)), ofP (deN 48 ((maskL l).take 48))) : F2)) ((ofP (deN 48 (((maskL l).drop 48).take 48)), ofP (deN 48 ((maskL l).take 48))) : F2)) (ofP (4 % 18446744073709551616), ofP (4 % 18446744073709551616))))).2.val), false) ∧ ¬ grp2 ((((ofP (deN 48 (((maskL l).drop 48).take 48)), ofP (deN 48 ((maskL l).take 48))) : F2).1.val, ((ofP (deN 48 (((maskL l).drop 48).take 48)), ofP (deN 48 ((maskL l).take 48))) : F2).2.val), ((neg2 (rt2 (add2 (mul2 (mul2 ((ofP (deN 48 (((maskL l).drop 48).take 48)), ofP (deN 48 ((maskL l).take 48))) : F2) ((ofP (deN 48 (((maskL l).drop 48).take 48)), ofP (deN 48 ((maskL l).take 48))) : F2)) ((ofP (deN 48 (((maskL l).drop 48).take 48)), ofP (deN 48 ((maskL l).take 48))) : F2)) (ofP (4 % 18446744073709551616), ofP (4 % 18446744073709551616))))).1.val, (neg2 (rt2 (add2 (mul2 (mul2 ((ofP (deN 48 (((maskL l).drop 48).take 48)), ofP (deN 48 ((maskL l).take 48))) : F2) ((ofP (deN 48 (((maskL l).drop 48).take 48)), ofP (deN 48 ((maskL l).take 48))) : F2)) ((ofP (deN 48 (((maskL l).drop 48).take 48)), ofP (deN 48 ((maskL l).take 48))) : F2)) (ofP (4 % 18446744073709551616), ofP (4 % 18446744073709551616))))).2.val), false) from hg)
      (And.intro (show sml2 ((((ofP (deN 48 (((maskL l).drop 48).take 48)), ofP (deN 48 ((maskL l).take 48))) : F2).1.val, ((ofP (deN 48 (((maskL l).drop 48).take 48)), ofP (deN 48 ((maskL l).take 48))) : F2).2.val), ((neg2 (rt2 (add2 (mul2 (mul2 ((ofP (deN 48 (((maskL l).drop 48).take 48)), ofP (deN 48 ((maskL l).take 48))) : F2) ((ofP (deN 48 (((maskL l).drop 48).take 48)), ofP (deN 48 ((maskL l).take 48))) : F2)) ((ofP (deN 48 (((maskL l).drop 48).take 48)), ofP (deN 48 ((maskL l).take 48))) : F2)) (ofP (4 % 18446744073709551616), ofP (4 % 18446744073709551616))))).1.val, (neg2 (rt2 (add2 (mul2 (mul2 ((ofP (deN 48 (((maskL l).drop 48).take 48)), ofP (deN 48 ((maskL l).take 48))) : F2) ((ofP (deN 48 (((maskL l).drop 48).take 48)), ofP (deN 48 ((maskL l).take 48))) : F2)) ((ofP (deN 48 (((maskL l).drop 48).take 48)), ofP (deN 48 ((maskL l).take 48))) : F2)) (ofP (4 % 18446744073709551616), ofP (4 % 18446744073709551616))))).2.val), false) ∧ may2 ((((ofP (deN 48 (((maskL l).drop 48).take 48)), ofP (deN 48 ((maskL l).take 48))) : F2).1.val, ((ofP (deN 48 (((maskL l).drop 48).take 48)), ofP (deN 48 ((maskL l).take 48))) : F2).2.val), ((neg2 (rt2 (add2 (mul2 (mul2 ((ofP (deN 48 (((maskL l).drop 48).take 48)), ofP (deN 48 ((maskL l).take 48))) : F2) ((ofP (deN 48 (((maskL l).drop 48).take 48)), ofP (deN 48 ((maskL l).take 48))) : F2)) ((ofP (deN 48 (((maskL l).drop 48).take 48)), ofP (deN 48 ((maskL l).take 48))) : F2)) (ofP (4 % 18446744073709551616), ofP (4 % 18446744073709551616))))).1.val, (neg2 (rt2 (add2 (mul2 (mul2 ((ofP (deN 48 (((maskL l).drop 48).take 48)), ofP (deN 48 ((maskL l).take 48))) : F2) ((ofP (deN 48 (((maskL l).drop 48).take 48)), ofP (deN 48 ((maskL l).take 48))) : F2)) ((ofP (deN 48 (((maskL l).drop 48).take 48)), ofP (deN 48 ((maskL l).take 48))) : F2)) (ofP (4 % 18446744073709551616), ofP (4 % 18446744073709551616))))).2.val), false) from ⟨hg.1, hg.2.1⟩)
      (And.intro (zgd_8 l hq)
      (And.intro (zgd_0 l hL)
      (And.intro (zgd_1 l hL)
      (And.intro (zgd_2 l hL h1)
      (And.intro (zgd_1 l hL)
      (And.intro (zgd_3 l hL)
      (And.intro (zgd_4 l hL)
      (And.intro (zgd_5 l hL h0)
      (And.intro (zgd_4 l hL)
      (And.intro (zgd_6 l hL)
      (And.intro (zgd_11 l hL ht) trivial)))))))))))))
theorem get2_s5ok (l : List UInt8) (hL : l.length = 96) (ht : top3 l = 5) (h0 : c2 l 0 < 4002409555221667393417789825735904156556882819939007885332058136124031650490837864442687629129015664037894272559787) (h1 : c2 l 1 < 4002409555221667393417789825735904156556882819939007885332058136124031650490837864442687629129015664037894272559787) (hq : sq2 (add2 (mul2 (mul2 ((ofP (deN 48 (((maskL l).drop 48).take 48)), ofP (deN 48 ((maskL l).take 48))) : F2) ((ofP (deN 48 (((maskL l).drop 48).take 48)), ofP (deN 48 ((maskL l).take 48))) : F2)) ((ofP (deN 48 (((maskL l).drop 48).take 48)), ofP (deN 48 ((maskL l).take 48))) : F2)) (ofP (4 % 18446744073709551616), ofP (4 % 18446744073709551616)))) (hg : sml2 ((((ofP (deN 48 (((maskL l).drop 48).take 48)), ofP (deN 48 ((maskL l).take 48))) : F2).1.val, ((ofP (deN 48 (((maskL l).drop 48).take 48)), ofP (deN 48 ((maskL l).take 48))) : F2).2.val), ((neg2 (rt2 (add2 (mul2 (mul2 ((ofP (deN 48 (((maskL l).drop 48).take 48)), ofP (deN 48 ((maskL l).take 48))) : F2) ((ofP (deN 48 (((maskL l).drop 48).take 48)), ofP (deN 48 ((maskL l).take 48))) : F2)) ((ofP (deN 48 (((maskL l).drop 48).take 48)), ofP (deN 48 ((maskL l).take 48))) : F2)) (ofP (4 % 18446744073709551616), ofP (4 % 18446744073709551616))))).1.val, (neg2 (rt2 (add2 (mul2 (mul2 ((ofP (deN 48 (((maskL l).drop 48).take 48)), ofP (deN 48 ((maskL l).take 48))) : F2) ((ofP (deN 48 (((maskL l).drop 48).take 48)), ofP (deN 48 ((maskL l).take 48))) : F2)) ((ofP (deN 48 (((maskL l).drop 48).take 48)), ofP (deN 48 ((maskL l).take 48))) : F2)) (ofP (4 % 18446744073709551616), ofP (4 % 18446744073709551616))))).2.val), false) ∧ may2 ((((ofP (deN 48 (((maskL l).drop 48).take 48)), ofP (deN 48 ((maskL l).take 48))) : F2).1.val, ((ofP (deN 48 (((maskL l).drop 48).take 48)), ofP (deN 48 ((maskL l).take 48))) : F2).2.val), ((neg2 (rt2 (add2 (mul2 (mul2 ((ofP (deN 48 (((maskL l).drop 48).take 48)), ofP (deN 48 ((maskL l).take 48))) : F2) ((ofP (deN 48 (((maskL l).drop 48).take 48)), ofP (deN 48 ((maskL l).take 48))) : F2)) ((ofP (deN 48 (((maskL l).drop 48).take 48)), ofP (deN 48 ((maskL l).take 48))) : F2)) (ofP (4 % 18446744073709551616), ofP (4 % 18446744073709551616))))).1.val, (neg2 (rt2 (add2 (mul2 (mul2 ((ofP (deN 48 (((maskL l).drop 48).take 48)), ofP (deN 48 ((maskL l).take 48))) : F2) ((ofP (deN 48 (((maskL l).drop 48).take 48)), ofP (deN 48 ((maskL l).take 48))) : F2)) ((ofP (deN 48 (((maskL l).drop 48).take 48)), ofP (deN 48 ((maskL l).take 48))) : F2)) (ofP (4 % 18446744073709551616), ofP (4 % 18446744073709551616))))).2.val), false) ∧ grp2 ((((ofP (deN 48 (((maskL l).drop 48).take 48)), ofP (deN 48 ((maskL l).take 48))) : F2).1.val, ((ofP (deN 48 (((maskL l).drop 48).take 48)), ofP (deN 48 ((maskL l).take 48))) : F2).2.val), ((neg2 (rt2 (add2 (mul2 (mul2 ((ofP (deN 48 (((maskL l).drop 48).take 48)), ofP (deN 48 ((maskL l).take 48))) : F2) ((ofP (deN 48 (((maskL l).drop 48).take 48)), ofP (deN 48 ((maskL l).take 48))) : F2)) ((ofP (deN 48 (((maskL l).drop 48).take 48)), ofP (deN 48 ((maskL l).take 48))) : F2)) (ofP (4 % 18446744073709551616), ofP (4 % 18446744073709551616))))).1.val, (neg2 (rt2 (add2 (mul2 (mul2 ((ofP (deN 48 (((maskL l).drop 48).take 48)), ofP (deN 48 ((maskL l).take 48))) : F2) ((ofP (deN 48 (((maskL l).drop 48).take 48)), ofP (deN 48 ((maskL l).take 48))) : F2)) ((ofP (deN 48 (((maskL l).drop 48).take 48)), ofP (deN 48 ((maskL l).take 48))) : F2)) (ofP (4 % 18446744073709551616), ofP (4 % 18446744073709551616))))).2.val), false)) : Gives Tryz.prog 4 [.t (.v (.string (ofL l)))] (.tp [.ag [.q ((ofP (deN 48 (((maskL l).drop 48).take 48)), ofP (deN 48 ((maskL l).take 48))) : F2).1, .q ((ofP (deN 48 (((maskL l).drop 48).take 48)), ofP (deN 48 ((maskL l).take 48))) : F2).2, .q (neg2 (rt2 (add2 (mul2 (mul2 ((ofP (deN 48 (((maskL l).drop 48).take 48)), ofP (deN 48 ((maskL l).take 48))) : F2) ((ofP (deN 48 (((maskL l).drop 48).take 48)), ofP (deN 48 ((maskL l).take 48))) : F2)) ((ofP (deN 48 (((maskL l).drop 48).take 48)), ofP (deN 48 ((maskL l).take 48))) : F2)) (ofP (4 % 18446744073709551616), ofP (4 % 18446744073709551616))))).1, .q (neg2 (rt2 (add2 (mul2 (mul2 ((ofP (deN 48 (((maskL l).drop 48).take 48)), ofP (deN 48 ((maskL l).take 48))) : F2) ((ofP (deN 48 (((maskL l).drop 48).take 48)), ofP (deN 48 ((maskL l).take 48))) : F2)) ((ofP (deN 48 (((maskL l).drop 48).take 48)), ofP (deN 48 ((maskL l).take 48))) : F2)) (ofP (4 % 18446744073709551616), ofP (4 % 18446744073709551616))))).2, .c (.bool false)], .v (.int .i64 0)]) :=
  fn_gives_at (P := Tryz.prog) (X := rulesX _) (env := [eHd96, efgetP, eIn2, eTimes2, ePlus2, eSmP, eRoot2, eNeg2, eOut2, eRig2, eGrp2]) ⟨eHd96_ok, efgetP_ok, eIn2_ok, eTimes2_ok, ePlus2_ok, eSmP_ok, eRoot2_ok, eNeg2_ok, eOut2_ok, eRig2_ok, eGrp2_ok, trivial⟩ Tryz.func4 2 (oL [(3, wO 4), (29, { ch := 1, hi := fun _ => 96 }), (36, rO 5 0), (37, wO 1), (45, rO 5 0), (57, { ch := 1, hi := fun _ => 48 }), (64, rO 5 0), (65, wO 1), (73, rO 5 0), (85, { ch := 1, hi := fun _ => 0 }), (129, wO 0), (149, wO 0), (153, wO 0)]) (by kernel_rfl) ⟨_, rfl⟩
      (And.intro (show sml2 ((((ofP (deN 48 (((maskL l).drop 48).take 48)), ofP (deN 48 ((maskL l).take 48))) : F2).1.val, ((ofP (deN 48 (((maskL l).drop 48).take 48)), ofP (deN 48 ((maskL l).take 48))) : F2).2.val), ((neg2 (rt2 (add2 (mul2 (mul2 ((ofP (deN 48 (((maskL l).drop 48).take 48)), ofP (deN 48 ((maskL l).take 48))) : F2) ((ofP (deN 48 (((maskL l).drop 48).take 48)), ofP (deN 48 ((maskL l).take 48))) : F2)) ((ofP (deN 48 (((maskL l).drop 48).take 48)), ofP (deN 48 ((maskL l).take 48))) : F2)) (ofP (4 % 18446744073709551616), ofP (4 % 18446744073709551616))))).1.val, (neg2 (rt2 (add2 (mul2 (mul2 ((ofP (deN 48 (((maskL l).drop 48).take 48)), ofP (deN 48 ((maskL l).take 48))) : F2) ((ofP (deN 48 (((maskL l).drop 48).take 48)), ofP (deN 48 ((maskL l).take 48))) : F2)) ((ofP (deN 48 (((maskL l).drop 48).take 48)), ofP (deN 48 ((maskL l).take 48))) : F2)) (ofP (4 % 18446744073709551616), ofP (4 % 18446744073709551616))))).2.val), false) ∧ may2 ((((ofP (deN 48 (((maskL l).drop 48).take 48)), ofP (deN 48 ((maskL l).take 48))) : F2).1.val, ((ofP (deN 48 (((maskL l).drop 48).take 48)), ofP (deN 48 ((maskL l).take 48))) : F2).2.val), ((neg2 (rt2 (add2 (mul2 (mul2 ((ofP (deN 48 (((maskL l).drop 48).take 48)), ofP (deN 48 ((maskL l).take 48))) : F2) ((ofP (deN 48 (((maskL l).drop 48).take 48)), ofP (deN 48 ((maskL l).take 48))) : F2)) ((ofP (deN 48 (((maskL l).drop 48).take 48)), ofP (deN 48 ((maskL l).take 48))) : F2)) (ofP (4 % 18446744073709551616), ofP (4 % 18446744073709551616))))).1.val, (neg2 (rt2 (add2 (mul2 (mul2 ((ofP (deN 48 (((maskL l).drop 48).take 48)), ofP (deN 48 ((maskL l).take 48))) : F2) ((ofP (deN 48 (((maskL l).drop 48).take 48)), ofP (deN 48 ((maskL l).take 48))) : F2)) ((ofP (deN 48 (((maskL l).drop 48).take 48)), ofP (deN 48 ((maskL l).take 48))) : F2)) (ofP (4 % 18446744073709551616), ofP (4 % 18446744073709551616))))).2.val), false) ∧ grp2 ((((ofP (deN 48 (((maskL l).drop 48).take 48)), ofP (deN 48 ((maskL l).take 48))) : F2).1.val, ((ofP (deN 48 (((maskL l).drop 48).take 48)), ofP (deN 48 ((maskL l).take 48))) : F2).2.val), ((neg2 (rt2 (add2 (mul2 (mul2 ((ofP (deN 48 (((maskL l).drop 48).take 48)), ofP (deN 48 ((maskL l).take 48))) : F2) ((ofP (deN 48 (((maskL l).drop 48).take 48)), ofP (deN 48 ((maskL l).take 48))) : F2)) ((ofP (deN 48 (((maskL l).drop 48).take 48)), ofP (deN 48 ((maskL l).take 48))) : F2)) (ofP (4 % 18446744073709551616), ofP (4 % 18446744073709551616))))).1.val, (neg2 (rt2 (add2 (mul2 (mul2 ((ofP (deN 48 (((maskL l).drop 48).take 48)), ofP (deN 48 ((maskL l).take 48))) : F2) ((ofP (deN 48 (((maskL l).drop 48).take 48)), ofP (deN 48 ((maskL l).take 48))) : F2)) ((ofP (deN 48 (((maskL l).drop 48).take 48)), ofP (deN 48 ((maskL l).take 48))) : F2)) (ofP (4 % 18446744073709551616), ofP (4 % 18446744073709551616))))).2.val), false) from hg)
      (And.intro (show sml2 ((((ofP (deN 48 (((maskL l).drop 48).take 48)), ofP (deN 48 ((maskL l).take 48))) : F2).1.val, ((ofP (deN 48 (((maskL l).drop 48).take 48)), ofP (deN 48 ((maskL l).take 48))) : F2).2.val), ((neg2 (rt2 (add2 (mul2 (mul2 ((ofP (deN 48 (((maskL l).drop 48).take 48)), ofP (deN 48 ((maskL l).take 48))) : F2) ((ofP (deN 48 (((maskL l).drop 48).take 48)), ofP (deN 48 ((maskL l).take 48))) : F2)) ((ofP (deN 48 (((maskL l).drop 48).take 48)), ofP (deN 48 ((maskL l).take 48))) : F2)) (ofP (4 % 18446744073709551616), ofP (4 % 18446744073709551616))))).1.val, (neg2 (rt2 (add2 (mul2 (mul2 ((ofP (deN 48 (((maskL l).drop 48).take 48)), ofP (deN 48 ((maskL l).take 48))) : F2) ((ofP (deN 48 (((maskL l).drop 48).take 48)), ofP (deN 48 ((maskL l).take 48))) : F2)) ((ofP (deN 48 (((maskL l).drop 48).take 48)), ofP (deN 48 ((maskL l).take 48))) : F2)) (ofP (4 % 18446744073709551616), ofP (4 % 18446744073709551616))))).2.val), false) ∧ may2 ((((ofP (deN 48 (((maskL l).drop 48).take 48)), ofP (deN 48 ((maskL l).take 48))) : F2).1.val, ((ofP (deN 48 (((maskL l).drop 48).take 48)), ofP (deN 48 ((maskL l).take 48))) : F2).2.val), ((neg2 (rt2 (add2 (mul2 (mul2 ((ofP (deN 48 (((maskL l).drop 48).take 48)), ofP (deN 48 ((maskL l).take 48))) : F2) ((ofP (deN 48 (((maskL l).drop 48).take 48)), ofP (deN 48 ((maskL l).take 48))) : F2)) ((ofP (deN 48 (((maskL l).drop 48).take 48)), ofP (deN 48 ((maskL l).take 48))) : F2)) (ofP (4 % 18446744073709551616), ofP (4 % 18446744073709551616))))).1.val, (neg2 (rt2 (add2 (mul2 (mul2 ((ofP (deN 48 (((maskL l).drop 48).take 48)), ofP (deN 48 ((maskL l).take 48))) : F2) ((ofP (deN 48 (((maskL l).drop 48).take 48)), ofP (deN 48 ((maskL l).take 48))) : F2)) ((ofP (deN 48 (((maskL l).drop 48).take 48)), ofP (deN 48 ((maskL l).take 48))) : F2)) (ofP (4 % 18446744073709551616), ofP (4 % 18446744073709551616))))).2.val), false) from ⟨hg.1, hg.2.1⟩)
      (And.intro (zgd_8 l hq)
      (And.intro (zgd_0 l hL)
      (And.intro (zgd_1 l hL)
      (And.intro (zgd_2 l hL h1)
      (And.intro (zgd_1 l hL)
      (And.intro (zgd_3 l hL)
      (And.intro (zgd_4 l hL)
      (And.intro (zgd_5 l hL h0)
      (And.intro (zgd_4 l hL)
      (And.intro (zgd_6 l hL)
      (And.intro (zgd_11 l hL ht) trivial)))))))))))))
theorem get2_s5r10 (l : List UInt8) (hL : l.length = 96) (ht : top3 l = 5) (h0 : c2 l 0 < 4002409555221667393417789825735904156556882819939007885332058136124031650490837864442687629129015664037894272559787) (h1 : 4002409555221667393417789825735904156556882819939007885332058136124031650490837864442687629129015664037894272559787 ≤ c2 l 1) : Gives Tryz.prog 4 [.t (.v (.string (ofL l)))] (.tp [.ag [.c (.int .u64 0), .c (.int .u64 0), .c (.int .u64 0), .c (.int .u64 0), .c (.int .u64 0), .c (.int .u64 0), .c (.int .u64 0), .c (.int .u64 0), .c (.int .u64 0), .c (.int .u64 0), .c (.int .u64 0), .c (.int .u64 0), .c (.int .u64 0), .c (.int .u64 0), .c (.int .u64 0), .c (.int .u64 0), .c (.int .u64 0), .c (.int .u64 0), .c (.int .u64 0), .c (.int .u64 0), .c (.int .u64 0), .c (.int .u64 0), .c (.int .u64 0), .c (.int .u64 0), .c (.bool false)], .v (.int .i64 20)]) :=
  fn_gives_at (P := Tryz.prog) (X := rulesX _) (env := [eHd96, efgetP, eIn2, eTimes2, ePlus2, eSmP, eRoot2, eNeg2, eOut2, eRig2, eGrp2]) ⟨eHd96_ok, efgetP_ok, eIn2_ok, eTimes2_ok, ePlus2_ok, eSmP_ok, eRoot2_ok, eNeg2_ok, eOut2_ok, eRig2_ok, eGrp2_ok, trivial⟩ Tryz.func4 2 (oL [(3, wO 4), (29, { ch := 1, hi := fun _ => 96 }), (36, rO 5 0), (37, wO 1), (45, rO 5 0), (57, { ch := 1, hi := fun _ => 48 }), (64, rO 5 0), (65, wO 2), (73, rO 5 0), (85, { ch := 1, hi := fun _ => 0 })]) (by kernel_rfl) ⟨_, rfl⟩
      (And.intro (zgd_0 l hL)
      (And.intro (zgd_1 l hL)
      (And.intro (zgd_9 l hL h1)
      (And.intro (zgd_1 l hL)
      (And.intro (zgd_3 l hL)
      (And.intro (zgd_4 l hL)
      (And.intro (zgd_5 l hL h0)
      (And.intro (zgd_4 l hL)
      (And.intro (zgd_6 l hL)
      (And.intro (zgd_11 l hL ht) trivial))))))))))
theorem get2_s5r01 (l : List UInt8) (hL : l.length = 96) (ht : top3 l = 5) (h0 : 4002409555221667393417789825735904156556882819939007885332058136124031650490837864442687629129015664037894272559787 ≤ c2 l 0) (h1 : c2 l 1 < 4002409555221667393417789825735904156556882819939007885332058136124031650490837864442687629129015664037894272559787) : Gives Tryz.prog 4 [.t (.v (.string (ofL l)))] (.tp [.ag [.c (.int .u64 0), .c (.int .u64 0), .c (.int .u64 0), .c (.int .u64 0), .c (.int .u64 0), .c (.int .u64 0), .c (.int .u64 0), .c (.int .u64 0), .c (.int .u64 0), .c (.int .u64 0), .c (.int .u64 0), .c (.int .u64 0), .c (.int .u64 0), .c (.int .u64 0), .c (.int .u64 0), .c (.int .u64 0), .c (.int .u64 0), .c (.int .u64 0), .c (.int .u64 0), .c (.int .u64 0), .c (.int .u64 0), .c (.int .u64 0), .c (.int .u64 0), .c (.int .u64 0), .c (.bool false)], .v (.int .i64 20)]) :=
  fn_gives_at (P := Tryz.prog) (X := rulesX _) (env := [eHd96, efgetP, eIn2, eTimes2, ePlus2, eSmP, eRoot2, eNeg2, eOut2, eRig2, eGrp2]) ⟨eHd96_ok, efgetP_ok, eIn2_ok, eTimes2_ok, ePlus2_ok, eSmP_ok, eRoot2_ok, eNeg2_ok, eOut2_ok, eRig2_ok, eGrp2_ok, trivial⟩ Tryz.func4 2 (oL [(3, wO 4), (29, { ch := 1, hi := fun _ => 96 }), (36, rO 5 0), (37, wO 2), (45, rO 5 0), (57, { ch := 1, hi := fun _ => 48 }), (64, rO 5 0), (65, wO 1), (73, rO 5 0), (83, { ch := 1, hi := fun _ => 0 })]) (by kernel_rfl) ⟨_, rfl⟩
      (And.intro (zgd_0 l hL)
      (And.intro (zgd_1 l hL)
      (And.intro (zgd_2 l hL h1)
      (And.intro (zgd_1 l hL)
      (And.intro (zgd_3 l hL)
      (And.intro (zgd_4 l hL)
      (And.intro (zgd_10 l hL h0)
      (And.intro (zgd_4 l hL)
      (And.intro (zgd_6 l hL)
      (And.intro (zgd_11 l hL ht) trivial))))))))))
theorem get2_s5r00 (l : List UInt8) (hL : l.length = 96) (ht : top3 l = 5) (h0 : 4002409555221667393417789825735904156556882819939007885332058136124031650490837864442687629129015664037894272559787 ≤ c2 l 0) (h1 : 4002409555221667393417789825735904156556882819939007885332058136124031650490837864442687629129015664037894272559787 ≤ c2 l 1) : Gives Tryz.prog 4 [.t (.v (.string (ofL l)))] (.tp [.ag [.c (.int .u64 0), .c (.int .u64 0), .c (.int .u64 0), .c (.int .u64 0), .c (.int .u64 0), .c (.int .u64 0), .c (.int .u64 0), .c (.int .u64 0), .c (.int .u64 0), .c (.int .u64 0), .c (.int .u64 0), .c (.int .u64 0), .c (.int .u64 0), .c (.int .u64 0), .c (.int .u64 0), .c (.int .u64 0), .c (.int .u64 0), .c (.int .u64 0), .c (.int .u64 0), .c (.int .u64 0), .c (.int .u64 0), .c (.int .u64 0), .c (.int .u64 0), .c (.int .u64 0), .c (.bool false)], .v (.int .i64 20)]) :=
  fn_gives_at (P := Tryz.prog) (X := rulesX _) (env := [eHd96, efgetP, eIn2, eTimes2, ePlus2, eSmP, eRoot2, eNeg2, eOut2, eRig2, eGrp2]) ⟨eHd96_ok, efgetP_ok, eIn2_ok, eTimes2_ok, ePlus2_ok, eSmP_ok, eRoot2_ok, eNeg2_ok, eOut2_ok, eRig2_ok, eGrp2_ok, trivial⟩ Tryz.func4 2 (oL [(3, wO 4), (29, { ch := 1, hi := fun _ => 96 }), (36, rO 5 0), (37, wO 2), (45, rO 5 0), (57, { ch := 1, hi := fun _ => 48 }), (64, rO 5 0), (65, wO 2), (73, rO 5 0), (83, { ch := 1, hi := fun _ => 0 })]) (by kernel_rfl) ⟨_, rfl⟩
      (And.intro (zgd_0 l hL)
      (And.intro (zgd_1 l hL)
      (And.intro (zgd_9 l hL h1)
      (And.intro (zgd_1 l hL)
      (And.intro (zgd_3 l hL)
      (And.intro (zgd_4 l hL)
      (And.intro (zgd_10 l hL h0)
      (And.intro (zgd_4 l hL)
      (And.intro (zgd_6 l hL)
      (And.intro (zgd_11 l hL ht) trivial))))))))))
theorem zgd_12 (l : List UInt8) (hL : l.length = 192) : (((ofL (((((maskL l).drop 48).drop 48).drop 48).drop 48)).size : Nat) : Int) = ((0 : Nat) : Int) := by rw [show (ofL (((((maskL l).drop 48).drop 48).drop 48).drop 48)).size = 0 from (show ((((((maskL l).drop 48).drop 48).drop 48).drop 48)).length = 0 from by simp [mask_length, hL])]
theorem zgd_13 (l : List UInt8) (hL : l.length = 192) : (0 : Int) ≤ 48 ∧ (48 : Int) ≤ (ofL ((((maskL l).drop 48).drop 48).drop 48)).size := ⟨by decide, by rw [show (ofL ((((maskL l).drop 48).drop 48).drop 48)).size = 48 from (show (((((maskL l).drop 48).drop 48).drop 48)).length = 48 from by simp [mask_length, hL])]; decide⟩
theorem zgd_14 (l : List UInt8) (hL : l.length = 192) (h3 : c2 l 3 < 4002409555221667393417789825735904156556882819939007885332058136124031650490837864442687629129015664037894272559787) : (((((maskL l).drop 48).drop 48).drop 48).take 48).length = 48 ∧ deN 48 (((((maskL l).drop 48).drop 48).drop 48).take 48) < 4002409555221667393417789825735904156556882819939007885332058136124031650490837864442687629129015664037894272559787 := ⟨by simp [mask_length, hL], h3⟩
theorem zgd_15 (l : List UInt8) (hL : l.length = 192) : (((ofL ((((maskL l).drop 48).drop 48).drop 48)).size : Nat) : Int) = ((48 : Nat) : Int) := by rw [show (ofL ((((maskL l).drop 48).drop 48).drop 48)).size = 48 from (show (((((maskL l).drop 48).drop 48).drop 48)).length = 48 from by simp [mask_length, hL])]
theorem zgd_16 (l : List UInt8) (hL : l.length = 192) : (0 : Int) ≤ 48 ∧ (48 : Int) ≤ (ofL (((maskL l).drop 48).drop 48)).size := ⟨by decide, by rw [show (ofL (((maskL l).drop 48).drop 48)).size = 96 from (show ((((maskL l).drop 48).drop 48)).length = 96 from by simp [mask_length, hL])]; decide⟩
theorem zgd_17 (l : List UInt8) (hL : l.length = 192) (h2 : c2 l 2 < 4002409555221667393417789825735904156556882819939007885332058136124031650490837864442687629129015664037894272559787) : ((((maskL l).drop 48).drop 48).take 48).length = 48 ∧ deN 48 ((((maskL l).drop 48).drop 48).take 48) < 4002409555221667393417789825735904156556882819939007885332058136124031650490837864442687629129015664037894272559787 := ⟨by simp [mask_length, hL], h2⟩
theorem zgd_18 (l : List UInt8) (hL : l.length = 192) : (((ofL (((maskL l).drop 48).drop 48)).size : Nat) : Int) = ((96 : Nat) : Int) := by rw [show (ofL (((maskL l).drop 48).drop 48)).size = 96 from (show ((((maskL l).drop 48).drop 48)).length = 96 from by simp [mask_length, hL])]
theorem zgd_19 (l : List UInt8) (hL : l.length = 192) : (0 : Int) ≤ 48 ∧ (48 : Int) ≤ (ofL ((maskL l).drop 48)).size := ⟨by decide, by rw [show (ofL ((maskL l).drop 48)).size = 144 from (show (((maskL l).drop 48)).length = 144 from by simp [mask_length, hL])]; decide⟩
theorem zgd_20 (l : List UInt8) (hL : l.length = 192) (h1 : c2 l 1 < 4002409555221667393417789825735904156556882819939007885332058136124031650490837864442687629129015664037894272559787) : (((maskL l).drop 48).take 48).length = 48 ∧ deN 48 (((maskL l).drop 48).take 48) < 4002409555221667393417789825735904156556882819939007885332058136124031650490837864442687629129015664037894272559787 := ⟨by simp [mask_length, hL], h1⟩
theorem zgd_21 (l : List UInt8) (hL : l.length = 192) : (((ofL ((maskL l).drop 48)).size : Nat) : Int) = ((144 : Nat) : Int) := by rw [show (ofL ((maskL l).drop 48)).size = 144 from (show (((maskL l).drop 48)).length = 144 from by simp [mask_length, hL])]
theorem zgd_22 (l : List UInt8) (hL : l.length = 192) : (0 : Int) ≤ 48 ∧ (48 : Int) ≤ (ofL (maskL l)).size := ⟨by decide, by rw [show (ofL (maskL l)).size = 192 from (show ((maskL l)).length = 192 from by simp [mask_length, hL])]; decide⟩
theorem zgd_23 (l : List UInt8) (hL : l.length = 192) (h0 : c2 l 0 < 4002409555221667393417789825735904156556882819939007885332058136124031650490837864442687629129015664037894272559787) : ((maskL l).take 48).length = 48 ∧ deN 48 ((maskL l).take 48) < 4002409555221667393417789825735904156556882819939007885332058136124031650490837864442687629129015664037894272559787 := ⟨by simp [mask_length, hL], h0⟩
theorem zgd_24 (l : List UInt8) (hL : l.length = 192) : (((ofL (maskL l)).size : Nat) : Int) = ((192 : Nat) : Int) := by rw [show (ofL (maskL l)).size = 192 from (show ((maskL l)).length = 192 from by simp [mask_length, hL])]
theorem zgd_25 (l : List UInt8) (hL : l.length = 192) (ht : top3 l = 0) : l.length = 192 ∧ top3 l = 0 := ⟨hL, ht⟩
theorem get2_ln (l : List UInt8) (hL : l.length = 192) (ht : top3 l = 0) (h0 : c2 l 0 < 4002409555221667393417789825735904156556882819939007885332058136124031650490837864442687629129015664037894272559787) (h1 : c2 l 1 < 4002409555221667393417789825735904156556882819939007885332058136124031650490837864442687629129015664037894272559787) (h2 : c2 l 2 < 4002409555221667393417789825735904156556882819939007885332058136124031650490837864442687629129015664037894272559787) (h3 : c2 l 3 < 4002409555221667393417789825735904156556882819939007885332058136124031650490837864442687629129015664037894272559787) (hr : sml2 ((((ofP (deN 48 (((maskL l).drop 48).take 48)), ofP (deN 48 ((maskL l).take 48))) : F2).1.val, ((ofP (deN 48 (((maskL l).drop 48).take 48)), ofP (deN 48 ((maskL l).take 48))) : F2).2.val), (((ofP (deN 48 (((((maskL l).drop 48).drop 48).drop 48).take 48)), ofP (deN 48 ((((maskL l).drop 48).drop 48).take 48))) : F2).1.val, ((ofP (deN 48 (((((maskL l).drop 48).drop 48).drop 48).take 48)), ofP (deN 48 ((((maskL l).drop 48).drop 48).take 48))) : F2).2.val), false) ∧ ¬ may2 ((((ofP (deN 48 (((maskL l).drop 48).take 48)), ofP (deN 48 ((maskL l).take 48))) : F2).1.val, ((ofP (deN 48 (((maskL l).drop 48).take 48)), ofP (deN 48 ((maskL l).take 48))) : F2).2.val), (((ofP (deN 48 (((((maskL l).drop 48).drop 48).drop 48).take 48)), ofP (deN 48 ((((maskL l).drop 48).drop 48).take 48))) : F2).1.val, ((ofP (deN 48 (((((maskL l).drop 48).drop 48).drop 48).take 48)), ofP (deN 48 ((((maskL l).drop 48).drop 48).take 48))) : F2).2.val), false)) : Gives Tryz.prog 4 [.t (.v (.string (ofL l)))] (.tp [.ag [.c (.int .u64 0), .c (.int .u64 0), .c (.int .u64 0), .c (.int .u64 0), .c (.int .u64 0), .c (.int .u64 0), .c (.int .u64 0), .c (.int .u64 0), .c (.int .u64 0), .c (.int .u64 0), .c (.int .u64 0), .c (.int .u64 0), .c (.int .u64 0), .c (.int .u64 0), .c (.int .u64 0), .c (.int .u64 0), .c (.int .u64 0), .c (.int .u64 0), .c (.int .u64 0), .c (.int .u64 0), .c (.int .u64 0), .c (.int .u64 0), .c (.int .u64 0), .c (.int .u64 0), .c (.bool false)], .v (.int .i64 30)]) :=
  fn_gives_at (P := Tryz.prog) (X := rulesX _) (env := [eHd96, efgetP, eIn2, eTimes2, ePlus2, eSmP, eRoot2, eNeg2, eOut2, eRig2, eGrp2]) ⟨eHd96_ok, efgetP_ok, eIn2_ok, eTimes2_ok, ePlus2_ok, eSmP_ok, eRoot2_ok, eNeg2_ok, eOut2_ok, eRig2_ok, eGrp2_ok, trivial⟩ Tryz.func4 2 (oL [(3, wO 5), (29, { ch := 1, hi := fun _ => 192 }), (36, rO 5 0), (37, wO 1), (45, rO 5 0), (57, { ch := 1, hi := fun _ => 144 }), (64, rO 5 0), (65, wO 1), (73, rO 5 0), (85, { ch := 1, hi := fun _ => 96 }), (92, rO 5 0), (93, wO 1), (101, rO 5 0), (113, { ch := 1, hi := fun _ => 48 }), (120, rO 5 0), (121, wO 1), (129, rO 5 0), (141, { ch := 1, hi := fun _ => 0 }), (178, wO 1)]) (by kernel_rfl) ⟨_, rfl⟩
      (And.intro (show sml2 ((((ofP (deN 48 (((maskL l).drop 48).take 48)), ofP (deN 48 ((maskL l).take 48))) : F2).1.val, ((ofP (deN 48 (((maskL l).drop 48).take 48)), ofP (deN 48 ((maskL l).take 48))) : F2).2.val), (((ofP (deN 48 (((((maskL l).drop 48).drop 48).drop 48).take 48)), ofP (deN 48 ((((maskL l).drop 48).drop 48).take 48))) : F2).1.val, ((ofP (deN 48 (((((maskL l).drop 48).drop 48).drop 48).take 48)), ofP (deN 48 ((((maskL l).drop 48).drop 48).take 48))) : F2).2.val), false) ∧ ¬ may2 ((((ofP (deN 48 (((maskL l).drop 48).take 48)), ofP (deN 48 ((maskL l).take 48))) : F2).1.val, ((ofP (deN 48 (((maskL l).drop 48).take 48)), ofP (deN 48 ((maskL l).take 48))) : F2).2.val), (((ofP (deN 48 (((((maskL l).drop 48).drop 48).drop 48).take 48)), ofP (deN 48 ((((maskL l).drop 48).drop 48).take 48))) : F2).1.val, ((ofP (deN 48 (((((maskL l).drop 48).drop 48).drop 48).take 48)), ofP (deN 48 ((((maskL l).drop 48).drop 48).take 48))) : F2).2.val), false) from hr)
      (And.intro (zgd_12 l hL)
      (And.intro (zgd_13 l hL)
      (And.intro (zgd_14 l hL h3)
      (And.intro (zgd_13 l hL)
      (And.intro (zgd_15 l hL)
      (And.intro (zgd_16 l hL)
      (And.intro (zgd_17 l hL h2)
      (And.intro (zgd_16 l hL)
      (And.intro (zgd_18 l hL)
      (And.intro (zgd_19 l hL)
      (And.intro (zgd_20 l hL h1)
      (And.intro (zgd_19 l hL)
      (And.intro (zgd_21 l hL)
      (And.intro (zgd_22 l hL)
      (And.intro (zgd_23 l hL h0)
      (And.intro (zgd_22 l hL)
      (And.intro (zgd_24 l hL)
      (And.intro (zgd_25 l hL ht) trivial)))))))))))))))))))
theorem get2_lg (l : List UInt8) (hL : l.length = 192) (ht : top3 l = 0) (h0 : c2 l 0 < 4002409555221667393417789825735904156556882819939007885332058136124031650490837864442687629129015664037894272559787) (h1 : c2 l 1 < 4002409555221667393417789825735904156556882819939007885332058136124031650490837864442687629129015664037894272559787) (h2 : c2 l 2 < 4002409555221667393417789825735904156556882819939007885332058136124031650490837864442687629129015664037894272559787) (h3 : c2 l 3 < 4002409555221667393417789825735904156556882819939007885332058136124031650490837864442687629129015664037894272559787) (hg : sml2 ((((ofP (deN 48 (((maskL l).drop 48).take 48)), ofP (deN 48 ((maskL l).take 48))) : F2).1.val, ((ofP (deN 48 (((maskL l).drop 48).take 48)), ofP (deN 48 ((maskL l).take 48))) : F2).2.val), (((ofP (deN 48 (((((maskL l).drop 48).drop 48).drop 48).take 48)), ofP (deN 48 ((((maskL l).drop 48).drop 48).take 48))) : F2).1.val, ((ofP (deN 48 (((((maskL l).drop 48).drop 48).drop 48).take 48)), ofP (deN 48 ((((maskL l).drop 48).drop 48).take 48))) : F2).2.val), false) ∧ may2 ((((ofP (deN 48 (((maskL l).drop 48).take 48)), ofP (deN 48 ((maskL l).take 48))) : F2).1.val, ((ofP (deN 48 (((maskL l).drop 48).take 48)), ofP (deN 48 ((maskL l).take 48))) : F2).2.val), (((ofP (deN 48 (((((maskL l).drop 48).drop 48).drop 48).take 48)), ofP (deN 48 ((((maskL l).drop 48).drop 48).take 48))) : F2).1.val, ((ofP (deN 48 (((((maskL l).drop 48).drop 48).drop 48).take 48)), ofP (deN 48 ((((maskL l).drop 48).drop 48).take 48))) : F2).2.val), false) ∧ ¬ grp2 ((((ofP (deN 48 (((maskL l).drop 48).take 48)), ofP (deN 48 ((maskL l).take 48))) : F2).1.val, ((ofP (deN 48 (((maskL l).drop 48).take 48)), ofP (deN 48 ((maskL l).take 48))) : F2).2.val), (((ofP (deN 48 (((((maskL l).drop 48).drop 48).drop 48).take 48)), ofP (deN 48 ((((maskL l).drop 48).drop 48).take 48))) : F2).1.val, ((ofP (deN 48 (((((maskL l).drop 48).drop 48).drop 48).take 48)), ofP (deN 48 ((((maskL l).drop 48).drop 48).take 48))) : F2).2.val), false)) : Gives Tryz.prog 4 [.t (.v (.string (ofL l)))] (.tp [.ag [.c (.int .u64 0), .c (.int .u64 0), .c (.int .u64 0), .c (.int .u64 0), .c (.int .u64 0), .c (.int .u64 0), .c (.int .u64 0), .c (.int .u64 0), .c (.int .u64 0), .c (.int .u64 0), .c (.int .u64 0), .c (.int .u64 0), .c (.int .u64 0), .c (.int .u64 0), .c (.int .u64 0), .c (.int .u64 0), .c (.int .u64 0), .c (.int .u64 0), .c (.int .u64 0), .c (.int .u64 0), .c (.int .u64 0), .c (.int .u64 0), .c (.int .u64 0), .c (.int .u64 0), .c (.bool false)], .v (.int .i64 31)]) :=
  fn_gives_at (P := Tryz.prog) (X := rulesX _) (env := [eHd96, efgetP, eIn2, eTimes2, ePlus2, eSmP, eRoot2, eNeg2, eOut2, eRig2, eGrp2]) ⟨eHd96_ok, efgetP_ok, eIn2_ok, eTimes2_ok, ePlus2_ok, eSmP_ok, eRoot2_ok, eNeg2_ok, eOut2_ok, eRig2_ok, eGrp2_ok, trivial⟩ Tryz.func4 2 (oL [(3, wO 5), (29, { ch := 1, hi := fun _ => 192 }), (36, rO 5 0), (37, wO 1), (45, rO 5 0), (57, { ch := 1, hi := fun _ => 144 }), (64, rO 5 0), (65, wO 1), (73, rO 5 0), (85, { ch := 1, hi := fun _ => 96 }), (92, rO 5 0), (93, wO 1), (101, rO 5 0), (113, { ch := 1, hi := fun _ => 48 }), (120, rO 5 0), (121, wO 1), (129, rO 5 0), (141, { ch := 1, hi := fun _ => 0 }), (178, wO 0), (182, wO 1)]) (by kernel_rfl) ⟨_, rfl⟩
      (And.intro (show sml2 ((((ofP (deN 48 (((maskL l).drop 48).take 48)), ofP (deN 48 ((maskL l).take 48))) : F2).1.val, ((ofP (deN 48 (((maskL l).drop 48).take 48)), ofP (deN 48 ((maskL l).take 48))) : F2).2.val), (((ofP (deN 48 (((((maskL l).drop 48).drop 48).drop 48).take 48)), ofP (deN 48 ((((maskL l).drop 48).drop 48).take 48))) : F2).1.val, ((ofP (deN 48 (((((maskL l).drop 48).drop 48).drop 48).take 48)), ofP (deN 48 ((((maskL l).drop 48).drop 48).take 48))) : F2).2.val), false) ∧ may2 ((((ofP (deN 48 (((maskL l).drop 48).take 48)), ofP (deN 48 ((maskL l).take 48))) : F2).1.val, ((ofP (deN 48 (((maskL l).drop 48).take 48)), ofP (deN 48 ((maskL l).take 48))) : F2).2.val), (((ofP (deN 48 (((((maskL l).drop 48).drop 48).drop 48).take 48)), ofP (deN 48 ((((maskL l).drop 48).drop 48).take 48))) : F2).1.val, ((ofP (deN 48 (((((maskL l).drop 48).drop 48).drop 48).take 48)), ofP (deN 48 ((((maskL l).drop 48).drop 48).take 48))) : F2).2.val), false) ∧ ¬ grp2 ((((ofP (deN 48 (((maskL l).drop 48).take 48)), ofP (deN 48 ((maskL l).take 48))) : F2).1.val, ((ofP (deN 48 (((maskL l).drop 48).take 48)), ofP (deN 48 ((maskL l).take 48))) : F2).2.val), (((ofP (deN 48 (((((maskL l).drop 48).drop 48).drop 48).take 48)), ofP (deN 48 ((((maskL l).drop 48).drop 48).take 48))) : F2).1.val, ((ofP (deN 48 (((((maskL l).drop 48).drop 48).drop 48).take 48)), ofP (deN 48 ((((maskL l).drop 48).drop 48).take 48))) : F2).2.val), false) from hg)
      (And.intro (show sml2 ((((ofP (deN 48 (((maskL l).drop 48).take 48)), ofP (deN 48 ((maskL l).take 48))) : F2).1.val, ((ofP (deN 48 (((maskL l).drop 48).take 48)), ofP (deN 48 ((maskL l).take 48))) : F2).2.val), (((ofP (deN 48 (((((maskL l).drop 48).drop 48).drop 48).take 48)), ofP (deN 48 ((((maskL l).drop 48).drop 48).take 48))) : F2).1.val, ((ofP (deN 48 (((((maskL l).drop 48).drop 48).drop 48).take 48)), ofP (deN 48 ((((maskL l).drop 48).drop 48).take 48))) : F2).2.val), false) ∧ may2 ((((ofP (deN 48 (((maskL l).drop 48).take 48)), ofP (deN 48 ((maskL l).take 48))) : F2).1.val, ((ofP (deN 48 (((maskL l).drop 48).take 48)), ofP (deN 48 ((maskL l).take 48))) : F2).2.val), (((ofP (deN 48 (((((maskL l).drop 48).drop 48).drop 48).take 48)), ofP (deN 48 ((((maskL l).drop 48).drop 48).take 48))) : F2).1.val, ((ofP (deN 48 (((((maskL l).drop 48).drop 48).drop 48).take 48)), ofP (deN 48 ((((maskL l).drop 48).drop 48).take 48))) : F2).2.val), false) from ⟨hg.1, hg.2.1⟩)
      (And.intro (zgd_12 l hL)
      (And.intro (zgd_13 l hL)
      (And.intro (zgd_14 l hL h3)
      (And.intro (zgd_13 l hL)
      (And.intro (zgd_15 l hL)
      (And.intro (zgd_16 l hL)
      (And.intro (zgd_17 l hL h2)
      (And.intro (zgd_16 l hL)
      (And.intro (zgd_18 l hL)
      (And.intro (zgd_19 l hL)
      (And.intro (zgd_20 l hL h1)
      (And.intro (zgd_19 l hL)
      (And.intro (zgd_21 l hL)
      (And.intro (zgd_22 l hL)
      (And.intro (zgd_23 l hL h0)
      (And.intro (zgd_22 l hL)
      (And.intro (zgd_24 l hL)
      (And.intro (zgd_25 l hL ht) trivial))))))))))))))))))))
theorem get2_lok (l : List UInt8) (hL : l.length = 192) (ht : top3 l = 0) (h0 : c2 l 0 < 4002409555221667393417789825735904156556882819939007885332058136124031650490837864442687629129015664037894272559787) (h1 : c2 l 1 < 4002409555221667393417789825735904156556882819939007885332058136124031650490837864442687629129015664037894272559787) (h2 : c2 l 2 < 4002409555221667393417789825735904156556882819939007885332058136124031650490837864442687629129015664037894272559787) (h3 : c2 l 3 < 4002409555221667393417789825735904156556882819939007885332058136124031650490837864442687629129015664037894272559787) (hg : sml2 ((((ofP (deN 48 (((maskL l).drop 48).take 48)), ofP (deN 48 ((maskL l).take 48))) : F2).1.val, ((ofP (deN 48 (((maskL l).drop 48).take 48)), ofP (deN 48 ((maskL l).take 48))) : F2).2.val), (((ofP (deN 48 (((((maskL l).drop 48).drop 48).drop 48).take 48)), ofP (deN 48 ((((maskL l).drop 48).drop 48).take 48))) : F2).1.val, ((ofP (deN 48 (((((maskL l).drop 48).drop 48).drop 48).take 48)), ofP (deN 48 ((((maskL l).drop 48).drop 48).take 48))) : F2).2.val), false) ∧ may2 ((((ofP (deN 48 (((maskL l).drop 48).take 48)), ofP (deN 48 ((maskL l).take 48))) : F2).1.val, ((ofP (deN 48 (((maskL l).drop 48).take 48)), ofP (deN 48 ((maskL l).take 48))) : F2).2.val), (((ofP (deN 48 (((((maskL l).drop 48).drop 48).drop 48).take 48)), ofP (deN 48 ((((maskL l).drop 48).drop 48).take 48))) : F2).1.val, ((ofP (deN 48 (((((maskL l).drop 48).drop 48).drop 48).take 48)), ofP (deN 48 ((((maskL l).drop 48).drop 48).take 48))) : F2).2.val), false) ∧ grp2 ((((ofP (deN 48 (((maskL l).drop 48).take 48)), ofP (deN 48 ((maskL l).take 48))) : F2).1.val, ((ofP (deN 48 (((maskL l).drop 48).take 48)), ofP (deN 48 ((maskL l).take 48))) : F2).2.val), (((ofP (deN 48 (((((maskL l).drop 48).drop 48).drop 48).take 48)), ofP (deN 48 ((((maskL l).drop 48).drop 48).take 48))) : F2).1.val, ((ofP (deN 48 (((((maskL l).drop 48).drop 48).drop 48).take 48)), ofP (deN 48 ((((maskL l).drop 48).drop 48).take 48))) : F2).2.val), false)) : Gives Tryz.prog 4 [.t (.v (.string (ofL l)))] (.tp [.ag [.q ((ofP (deN 48 (((maskL l).drop 48).take 48)), ofP (deN 48 ((maskL l).take 48))) : F2).1, .q ((ofP (deN 48 (((maskL l).drop 48).take 48)), ofP (deN 48 ((maskL l).take 48))) : F2).2, .q ((ofP (deN 48 (((((maskL l).drop 48).drop 48).drop 48).take 48)), ofP (deN 48 ((((maskL l).drop 48).drop 48).take 48))) : F2).1, .q ((ofP (deN 48 (((((maskL l).drop 48).drop 48).drop 48).take 48)), ofP (deN 48 ((((maskL l).drop 48).drop 48).take 48))) : F2).2, .c (.bool false)], .v (.int .i64 0)]) :=
  fn_gives_at (P := Tryz.prog) (X := rulesX _) (env := [eHd96, efgetP, eIn2, eTimes2, ePlus2, eSmP, eRoot2, eNeg2, eOut2, eRig2, eGrp2]) ⟨eHd96_ok, efgetP_ok, eIn2_ok, eTimes2_ok, ePlus2_ok, eSmP_ok, eRoot2_ok, eNeg2_ok, eOut2_ok, eRig2_ok, eGrp2_ok, trivial⟩ Tryz.func4 2 (oL [(3, wO 5), (29, { ch := 1, hi := fun _ => 192 }), (36, rO 5 0), (37, wO 1), (45, rO 5 0), (57, { ch := 1, hi := fun _ => 144 }), (64, rO 5 0), (65, wO 1), (73, rO 5 0), (85, { ch := 1, hi := fun _ => 96 }), (92, rO 5 0), (93, wO 1), (101, rO 5 0), (113, { ch := 1, hi := fun _ => 48 }), (120, rO 5 0), (121, wO 1), (129, rO 5 0), (141, { ch := 1, hi := fun _ => 0 }), (178, wO 0), (182, wO 0)]) (by kernel_rfl) ⟨_, rfl⟩
      (And.intro (show sml2 ((((ofP (deN 48 (((maskL l).drop 48).take 48)), ofP (deN 48 ((maskL l).take 48))) : F2).1.val, ((ofP (deN 48 (((maskL l).drop 48).take 48)), ofP (deN 48 ((maskL l).take 48))) : F2).2.val), (((ofP (deN 48 (((((maskL l).drop 48).drop 48).drop 48).take 48)), ofP (deN 48 ((((maskL l).drop 48).drop 48).take 48))) : F2).1.val, ((ofP (deN 48 (((((maskL l).drop 48).drop 48).drop 48).take 48)), ofP (deN 48 ((((maskL l).drop 48).drop 48).take 48))) : F2).2.val), false) ∧ may2 ((((ofP (deN 48 (((maskL l).drop 48).take 48)), ofP (deN 48 ((maskL l).take 48))) : F2).1.val, ((ofP (deN 48 (((maskL l).drop 48).take 48)), ofP (deN 48 ((maskL l).take 48))) : F2).2.val), (((ofP (deN 48 (((((maskL l).drop 48).drop 48).drop 48).take 48)), ofP (deN 48 ((((maskL l).drop 48).drop 48).take 48))) : F2).1.val, ((ofP (deN 48 (((((maskL l).drop 48).drop 48).drop 48).take 48)), ofP (deN 48 ((((maskL l).drop 48).drop 48).take 48))) : F2).2.val), false) ∧ grp2 ((((ofP (deN 48 (((maskL l).drop 48).take 48)), ofP (deN 48 ((maskL l).take 48))) : F2).1.val, ((ofP (deN 48 (((maskL l).drop 48).take 48)), ofP (deN 48 ((maskL l).take 48))) : F2).2.val), (((ofP (deN 48 (((((maskL l).drop 48).drop 48).drop 48).take 48)), ofP (deN 48 ((((maskL l).drop 48).drop 48).take 48))) : F2).1.val, ((ofP (deN 48 (((((maskL l).drop 48).drop 48).drop 48).take 48)), ofP (deN 48 ((((maskL l).drop 48).drop 48).take 48))) : F2).2.val), false) from hg)
      (And.intro (show sml2 ((((ofP (deN 48 (((maskL l).drop 48).take 48)), ofP (deN 48 ((maskL l).take 48))) : F2).1.val, ((ofP (deN 48 (((maskL l).drop 48).take 48)), ofP (deN 48 ((maskL l).take 48))) : F2).2.val), (((ofP (deN 48 (((((maskL l).drop 48).drop 48).drop 48).take 48)), ofP (deN 48 ((((maskL l).drop 48).drop 48).take 48))) : F2).1.val, ((ofP (deN 48 (((((maskL l).drop 48).drop 48).drop 48).take 48)), ofP (deN 48 ((((maskL l).drop 48).drop 48).take 48))) : F2).2.val), false) ∧ may2 ((((ofP (deN 48 (((maskL l).drop 48).take 48)), ofP (deN 48 ((maskL l).take 48))) : F2).1.val, ((ofP (deN 48 (((maskL l).drop 48).take 48)), ofP (deN 48 ((maskL l).take 48))) : F2).2.val), (((ofP (deN 48 (((((maskL l).drop 48).drop 48).drop 48).take 48)), ofP (deN 48 ((((maskL l).drop 48).drop 48).take 48))) : F2).1.val, ((ofP (deN 48 (((((maskL l).drop 48).drop 48).drop 48).take 48)), ofP (deN 48 ((((maskL l).drop 48).drop 48).take 48))) : F2).2.val), false) from ⟨hg.1, hg.2.1⟩)
      (And.intro (zgd_12 l hL)
      (And.intro (zgd_13 l hL)
      (And.intro (zgd_14 l hL h3)
      (And.intro (zgd_13 l hL)
      (And.intro (zgd_15 l hL)
      (And.intro (zgd_16 l hL)
      (And.intro (zgd_17 l hL h2)
      (And.intro (zgd_16 l hL)
      (And.intro (zgd_18 l hL)
      (And.intro (zgd_19 l hL)
      (And.intro (zgd_20 l hL h1)
      (And.intro (zgd_19 l hL)
      (And.intro (zgd_21 l hL)
      (And.intro (zgd_22 l hL)
      (And.intro (zgd_23 l hL h0)
      (And.intro (zgd_22 l hL)
      (And.intro (zgd_24 l hL)
      (And.intro (zgd_25 l hL ht) trivial))))))))))))))))))))
theorem zgd_26 (l : List UInt8) (hL : l.length = 192) (h3 : 4002409555221667393417789825735904156556882819939007885332058136124031650490837864442687629129015664037894272559787 ≤ c2 l 3) : (((((maskL l).drop 48).drop 48).drop 48).take 48).length = 48 ∧ 4002409555221667393417789825735904156556882819939007885332058136124031650490837864442687629129015664037894272559787 ≤ deN 48 (((((maskL l).drop 48).drop 48).drop 48).take 48) := ⟨by simp [mask_length, hL], h3⟩
theorem get2_l1110 (l : List UInt8) (hL : l.length = 192) (ht : top3 l = 0) (h0 : c2 l 0 < 4002409555221667393417789825735904156556882819939007885332058136124031650490837864442687629129015664037894272559787) (h1 : c2 l 1 < 4002409555221667393417789825735904156556882819939007885332058136124031650490837864442687629129015664037894272559787) (h2 : c2 l 2 < 4002409555221667393417789825735904156556882819939007885332058136124031650490837864442687629129015664037894272559787) (h3 : 4002409555221667393417789825735904156556882819939007885332058136124031650490837864442687629129015664037894272559787 ≤ c2 l 3) : Gives Tryz.prog 4 [.t (.v (.string (ofL l)))] (.tp [.ag [.c (.int .u64 0), .c (.int .u64 0), .c (.int .u64 0), .c (.int .u64 0), .c (.int .u64 0), .c (.int .u64 0), .c (.int .u64 0), .c (.int .u64 0), .c (.int .u64 0), .c (.int .u64 0), .c (.int .u64 0), .c (.int .u64 0), .c (.int .u64 0), .c (.int .u64 0), .c (.int .u64 0), .c (.int .u64 0), .c (.int .u64 0), .c (.int .u64 0), .c (.int .u64 0), .c (.int .u64 0), .c (.int .u64 0), .c (.int .u64 0), .c (.int .u64 0), .c (.int .u64 0), .c (.bool false)], .v (.int .i64 20)]) :=
  fn_gives_at (P := Tryz.prog) (X := rulesX _) (env := [eHd96, efgetP, eIn2, eTimes2, ePlus2, eSmP, eRoot2, eNeg2, eOut2, eRig2, eGrp2]) ⟨eHd96_ok, efgetP_ok, eIn2_ok, eTimes2_ok, ePlus2_ok, eSmP_ok, eRoot2_ok, eNeg2_ok, eOut2_ok, eRig2_ok, eGrp2_ok, trivial⟩ Tryz.func4 2 (oL [(3, wO 5), (29, { ch := 1, hi := fun _ => 192 }), (36, rO 5 0), (37, wO 1), (45, rO 5 0), (57, { ch := 1, hi := fun _ => 144 }), (64, rO 5 0), (65, wO 1), (73, rO 5 0), (85, { ch := 1, hi := fun _ => 96 }), (92, rO 5 0), (93, wO 1), (101, rO 5 0), (113, { ch := 1, hi := fun _ => 48 }), (120, rO 5 0), (121, wO 2), (129, rO 5 0), (141, { ch := 1, hi := fun _ => 0 })]) (by kernel_rfl) ⟨_, rfl⟩
      (And.intro (zgd_12 l hL)
      (And.intro (zgd_13 l hL)
      (And.intro (zgd_26 l hL h3)
      (And.intro (zgd_13 l hL)
      (And.intro (zgd_15 l hL)
      (And.intro (zgd_16 l hL)
      (And.intro (zgd_17 l hL h2)
      (And.intro (zgd_16 l hL)
      (And.intro (zgd_18 l hL)
      (And.intro (zgd_19 l hL)
      (And.intro (zgd_20 l hL h1)
      (And.intro (zgd_19 l hL)
      (And.intro (zgd_21 l hL)
      (And.intro (zgd_22 l hL)
      (And.intro (zgd_23 l hL h0)
      (And.intro (zgd_22 l hL)
      (And.intro (zgd_24 l hL)
      (And.intro (zgd_25 l hL ht) trivial))))))))))))))))))
theorem zgd_27 (l : List UInt8) (hL : l.length = 192) (h2 : 4002409555221667393417789825735904156556882819939007885332058136124031650490837864442687629129015664037894272559787 ≤ c2 l 2) : ((((maskL l).drop 48).drop 48).take 48).length = 48 ∧ 4002409555221667393417789825735904156556882819939007885332058136124031650490837864442687629129015664037894272559787 ≤ deN 48 ((((maskL l).drop 48).drop 48).take 48) := ⟨by simp [mask_length, hL], h2⟩
theorem get2_l1101 (l : List UInt8) (hL : l.length = 192) (ht : top3 l = 0) (h0 : c2 l 0 < 4002409555221667393417789825735904156556882819939007885332058136124031650490837864442687629129015664037894272559787) (h1 : c2 l 1 < 4002409555221667393417789825735904156556882819939007885332058136124031650490837864442687629129015664037894272559787) (h2 : 4002409555221667393417789825735904156556882819939007885332058136124031650490837864442687629129015664037894272559787 ≤ c2 l 2) (h3 : c2 l 3 < 4002409555221667393417789825735904156556882819939007885332058136124031650490837864442687629129015664037894272559787) : Gives Tryz.prog 4 [.t (.v (.string (ofL l)))] (.tp [.ag [.c (.int .u64 0), .c (.int .u64 0), .c (.int .u64 0), .c (.int .u64 0), .c (.int .u64 0), .c (.int .u64 0), .c (.int .u64 0), .c (.int .u64 0), .c (.int .u64 0), .c (.int .u64 0), .c (.int .u64 0), .c (.int .u64 0), .c (.int .u64 0), .c (.int .u64 0), .c (.int .u64 0), .c (.int .u64 0), .c (.int .u64 0), .c (.int .u64 0), .c (.int .u64 0), .c (.int .u64 0), .c (.int .u64 0), .c (.int .u64 0), .c (.int .u64 0), .c (.int .u64 0), .c (.bool false)], .v (.int .i64 20)]) :=
  fn_gives_at (P := Tryz.prog) (X := rulesX _) (env := [eHd96, efgetP, eIn2, eTimes2, ePlus2, eSmP, eRoot2, eNeg2, eOut2, eRig2, eGrp2]) ⟨eHd96_ok, efgetP_ok, eIn2_ok, eTimes2_ok, ePlus2_ok, eSmP_ok, eRoot2_ok, eNeg2_ok, eOut2_ok, eRig2_ok, eGrp2_ok, trivial⟩ Tryz.func4 2 (oL [(3, wO 5), (29, { ch := 1, hi := fun _ => 192 }), (36, rO 5 0), (37, wO 1), (45, rO 5 0), (57, { ch := 1, hi := fun _ => 144 }), (64, rO 5 0), (65, wO 1), (73, rO 5 0), (85, { ch := 1, hi := fun _ => 96 }), (92, rO 5 0), (93, wO 2), (101, rO 5 0), (113, { ch := 1, hi := fun _ => 48 }), (120, rO 5 0), (121, wO 1), (129, rO 5 0), (139, { ch := 1, hi := fun _ => 0 })]) (by kernel_rfl) ⟨_, rfl⟩
      (And.intro (zgd_12 l hL)
      (And.intro (zgd_13 l hL)
      (And.intro (zgd_14 l hL h3)
      (And.intro (zgd_13 l hL)
      (And.intro (zgd_15 l hL)
      (And.intro (zgd_16 l hL)
      (And.intro (zgd_27 l hL h2)
      (And.intro (zgd_16 l hL)
      (And.intro (zgd_18 l hL)
      (And.intro (zgd_19 l hL)
      (And.intro (zgd_20 l hL h1)
      (And.intro (zgd_19 l hL)
      (And.intro (zgd_21 l hL)
      (And.intro (zgd_22 l hL)
      (And.intro (zgd_23 l hL h0)
      (And.intro (zgd_22 l hL)
      (And.intro (zgd_24 l hL)
      (And.intro (zgd_25 l hL ht) trivial))))))))))))))))))
theorem get2_l1100 (l : List UInt8) (hL : l.length = 192) (ht : top3 l = 0) (h0 : c2 l 0 < 4002409555221667393417789825735904156556882819939007885332058136124031650490837864442687629129015664037894272559787) (h1 : c2 l 1 < 4002409555221667393417789825735904156556882819939007885332058136124031650490837864442687629129015664037894272559787) (h2 : 4002409555221667393417789825735904156556882819939007885332058136124031650490837864442687629129015664037894272559787 ≤ c2 l 2) (h3 : 4002409555221667393417789825735904156556882819939007885332058136124031650490837864442687629129015664037894272559787 ≤ c2 l 3) : Gives Tryz.prog 4 [.t (.v (.string (ofL l)))] (.tp [.ag [.c (.int .u64 0), .c (.int .u64 0), .c (.int .u64 0), .c (.int .u64 0), .c (.int .u64 0), .c (.int .u64 0), .c (.int .u64 0), .c (.int .u64 0), .c (.int .u64 0), .c (.int .u64 0), .c (.int .u64 0), .c (.int .u64 0), .c (.int .u64 0), .c (.int .u64 0), .c (.int .u64 0), .c (.int .u64 0), .c (.int .u64 0), .c (.int .u64 0), .c (.int .u64 0), .c (.int .u64 0), .c (.int .u64 0), .c (.int .u64 0), .c (.int .u64 0), .c (.int .u64 0), .c (.bool false)], .v (.int .i64 20)]) :=
  fn_gives_at (P := Tryz.prog) (X := rulesX _) (env := [eHd96, efgetP, eIn2, eTimes2, ePlus2, eSmP, eRoot2, eNeg2, eOut2, eRig2, eGrp2]) ⟨eHd96_ok, efgetP_ok, eIn2_ok, eTimes2_ok, ePlus2_ok, eSmP_ok, eRoot2_ok, eNeg2_ok, eOut2_ok, eRig2_ok, eGrp2_ok, trivial⟩ Tryz.func4 2 (oL [(3, wO 5), (29, { ch := 1, hi := fun _ => 192 }), (36, rO 5 0), (37, wO 1), (45, rO 5 0), (57, { ch := 1, hi := fun _ => 144 }), (64, rO 5 0), (65, wO 1), (73, rO 5 0), (85, { ch := 1, hi := fun _ => 96 }), (92, rO 5 0), (93, wO 2), (101, rO 5 0), (113, { ch := 1, hi := fun _ => 48 }), (120, rO 5 0), (121, wO 2), (129, rO 5 0), (139, { ch := 1, hi := fun _ => 0 })]) (by kernel_rfl) ⟨_, rfl⟩
      (And.intro (zgd_12 l hL)
      (And.intro (zgd_13 l hL)
      (And.intro (zgd_26 l hL h3)
      (And.intro (zgd_13 l hL)
      (And.intro (zgd_15 l hL)
      (And.intro (zgd_16 l hL)
      (And.intro (zgd_27 l hL h2)
      (And.intro (zgd_16 l hL)
      (And.intro (zgd_18 l hL)
      (And.intro (zgd_19 l hL)
      (And.intro (zgd_20 l hL h1)
      (And.intro (zgd_19 l hL)
      (And.intro (zgd_21 l hL)
      (And.intro (zgd_22 l hL)
      (And.intro (zgd_23 l hL h0)
      (And.intro (zgd_22 l hL)
      (And.intro (zgd_24 l hL)
      (And.intro (zgd_25 l hL ht) trivial))))))))))))))))))
theorem zgd_28 (l : List UInt8) (hL : l.length = 192) (h1 : 4002409555221667393417789825735904156556882819939007885332058136124031650490837864442687629129015664037894272559787 ≤ c2 l 1) : (((maskL l).drop 48).take 48).length = 48 ∧ 4002409555221667393417789825735904156556882819939007885332058136124031650490837864442687629129015664037894272559787 ≤ deN 48 (((maskL l).drop 48).take 48) := ⟨by simp [mask_length, hL], h1⟩
theorem get2_l1011 (l : List UInt8) (hL : l.length = 192) (ht : top3 l = 0) (h0 : c2 l 0 < 4002409555221667393417789825735904156556882819939007885332058136124031650490837864442687629129015664037894272559787) (h1 : 4002409555221667393417789825735904156556882819939007885332058136124031650490837864442687629129015664037894272559787 ≤ c2 l 1) (h2 : c2 l 2 < 4002409555221667393417789825735904156556882819939007885332058136124031650490837864442687629129015664037894272559787) (h3 : c2 l 3 < 4002409555221667393417789825735904156556882819939007885332058136124031650490837864442687629129015664037894272559787) : Gives Tryz.prog 4 [.t (.v (.string (ofL l)))] (.tp [.ag [.c (.int .u64 0), .c (.int .u64 0), .c (.int .u64 0), .c (.int .u64 0), .c (.int .u64 0), .c (.int .u64 0), .c (.int .u64 0), .c (.int .u64 0), .c (.int .u64 0), .c (.int .u64 0), .c (.int .u64 0), .c (.int .u64 0), .c (.int .u64 0), .c (.int .u64 0), .c (.int .u64 0), .c (.int .u64 0), .c (.int .u64 0), .c (.int .u64 0), .c (.int .u64 0), .c (.int .u64 0), .c (.int .u64 0), .c (.int .u64 0), .c (.int .u64 0), .c (.int .u64 0), .c (.bool false)], .v (.int .i64 20)]) :=
  fn_gives_at (P := Tryz.prog) (X := rulesX _) (env := [eHd96, efgetP, eIn2, eTimes2, ePlus2, eSmP, eRoot2, eNeg2, eOut2, eRig2, eGrp2]) ⟨eHd96_ok, efgetP_ok, eIn2_ok, eTimes2_ok, ePlus2_ok, eSmP_ok, eRoot2_ok, eNeg2_ok, eOut2_ok, eRig2_ok, eGrp2_ok, trivial⟩ Tryz.func4 2 (oL [(3, wO 5), (29, { ch := 1, hi := fun _ => 192 }), (36, rO 5 0), (37, wO 1), (45, rO 5 0), (57, { ch := 1, hi := fun _ => 144 }), (64, rO 5 0), (65, wO 2), (73, rO 5 0), (85, { ch := 1, hi := fun _ => 96 }), (92, rO 5 0), (93, wO 1), (101, rO 5 0), (111, { ch := 1, hi := fun _ => 48 }), (118, rO 5 0), (119, wO 1), (127, rO 5 0), (137, { ch := 1, hi := fun _ => 0 })]) (by kernel_rfl) ⟨_, rfl⟩
      (And.intro (zgd_12 l hL)
      (And.intro (zgd_13 l hL)
      (And.intro (zgd_14 l hL h3)
      (And.intro (zgd_13 l hL)
      (And.intro (zgd_15 l hL)
      (And.intro (zgd_16 l hL)
      (And.intro (zgd_17 l hL h2)
      (And.intro (zgd_16 l hL)
      (And.intro (zgd_18 l hL)
      (And.intro (zgd_19 l hL)
      (And.intro (zgd_28 l hL h1)
      (And.intro (zgd_19 l hL)
      (And.intro (zgd_21 l hL)
      (And.intro (zgd_22 l hL)
      (And.intro (zgd_23 l hL h0)
      (And.intro (zgd_22 l hL)
      (And.intro (zgd_24 l hL)
      (And.intro (zgd_25 l hL ht) trivial))))))))))))))))))
theorem get2_l1010 (l : List UInt8) (hL : l.length = 192) (ht : top3 l = 0) (h0 : c2 l 0 < 4002409555221667393417789825735904156556882819939007885332058136124031650490837864442687629129015664037894272559787) (h1 : 4002409555221667393417789825735904156556882819939007885332058136124031650490837864442687629129015664037894272559787 ≤ c2 l 1) (h2 : c2 l 2 < 4002409555221667393417789825735904156556882819939007885332058136124031650490837864442687629129015664037894272559787) (h3 : 4002409555221667393417789825735904156556882819939007885332058136124031650490837864442687629129015664037894272559787 ≤ c2 l 3) : Gives Tryz.prog 4 [.t (.v (.string (ofL l)))] (.tp [.ag [.c (.int .u64 0), .c (.int .u64 0), .c (.int .u64 0), .c (.int .u64 0), .c (.int .u64 0), .c (.int .u64 0), .c (.int .u64 0), .c (.int .u64 0), .c (.int .u64 0), .c (.int .u64 0), .c (.int .u64 0), .c (.int .u64 0), .c (.int .u64 0), .c (.int .u64 0), .c (.int .u64 0), .c (.int .u64 0), .c (.int .u64 0), .c (.int .u64 0), .c (.int .u64 0), .c (.int .u64 0), .c (.int .u64 0), .c (.int .u64 0), .c (.int .u64 0), .c (.int .u64 0), .c (.bool false)], .v (.int .i64 20)]) :=
  fn_gives_at (P := Tryz.prog) (X := rulesX _) (env := [eHd96, efgetP, eIn2, eTimes2, ePlus2, eSmP, eRoot2, eNeg2, eOut2, eRig2, eGrp2]) ⟨eHd96_ok, efgetP_ok, eIn2_ok, eTimes2_ok, ePlus2_ok, eSmP_ok, eRoot2_ok, eNeg2_ok, eOut2_ok, eRig2_ok, eGrp2_ok, trivial⟩ Tryz.func4 2 (oL [(3, wO 5), (29, { ch := 1, hi := fun _ => 192 }), (36, rO 5 0), (37, wO 1), (45, rO 5 0), (57, { ch := 1, hi := fun _ => 144 }), (64, rO 5 0), (65, wO 2), (73, rO 5 0), (85, { ch := 1, hi := fun _ => 96 }), (92, rO 5 0), (93, wO 1), (101, rO 5 0), (111, { ch := 1, hi := fun _ => 48 }), (118, rO 5 0), (119, wO 2), (127, rO 5 0), (137, { ch := 1, hi := fun _ => 0 })]) (by kernel_rfl) ⟨_, rfl⟩
      (And.intro (zgd_12 l hL)
      (And.intro (zgd_13 l hL)
      (And.intro (zgd_26 l hL h3)
      (And.intro (zgd_13 l hL)
      (And.intro (zgd_15 l hL)
      (And.intro (zgd_16 l hL)
      (And.intro (zgd_17 l hL h2)
      (And.intro (zgd_16 l hL)
      (And.intro (zgd_18 l hL)
      (And.intro (zgd_19 l hL)
      (And.intro (zgd_28 l hL h1)
      (And.intro (zgd_19 l hL)
      (And.intro (zgd_21 l hL)
      (And.intro (zgd_22 l hL)
      (And.intro (zgd_23 l hL h0)
      (And.intro (zgd_22 l hL)
      (And.intro (zgd_24 l hL)
      (And.intro (zgd_25 l hL ht) trivial))))))))))))))))))
theorem get2_l1001 (l : List UInt8) (hL : l.length = 192) (ht : top3 l = 0) (h0 : c2 l 0 < 4002409555221667393417789825735904156556882819939007885332058136124031650490837864442687629129015664037894272559787) (h1 : 4002409555221667393417789825735904156556882819939007885332058136124031650490837864442687629129015664037894272559787 ≤ c2 l 1) (h2 : 4002409555221667393417789825735904156556882819939007885332058136124031650490837864442687629129015664037894272559787 ≤ c2 l 2) (h3 : c2 l 3 < 4002409555221667393417789825735904156556882819939007885332058136124031650490837864442687629129015664037894272559787) : Gives Tryz.prog 4 [.t (.v (.string (ofL l)))] (.tp [.ag [.c (.int .u64 0), .c (.int .u64 0), .c (.int .u64 0), .c (.int .u64 0), .c (.int .u64 0), .c (.int .u64 0), .c (.int .u64 0), .c (.int .u64 0), .c (.int .u64 0), .c (.int .u64 0), .c (.int .u64 0), .c (.int .u64 0), .c (.int .u64 0), .c (.int .u64 0), .c (.int .u64 0), .c (.int .u64 0), .c (.int .u64 0), .c (.int .u64 0), .c (.int .u64 0), .c (.int .u64 0), .c (.int .u64 0), .c (.int .u64 0), .c (.int .u64 0), .c (.int .u64 0), .c (.bool false)], .v (.int .i64 20)]) :=
  fn_gives_at (P := Tryz.prog) (X := rulesX _) (env := [eHd96, efgetP, eIn2, eTimes2, ePlus2, eSmP, eRoot2, eNeg2, eOut2, eRig2, eGrp2]) ⟨eHd96_ok, efgetP_ok, eIn2_ok, eTimes2_ok, ePlus2_ok, eSmP_ok, eRoot2_ok, eNeg2_ok, eOut2_ok, eRig2_ok, eGrp2_ok, trivial⟩ Tryz.func4 2 (oL [(3, wO 5), (29, { ch := 1, hi := fun _ => 192 }), (36, rO 5 0), (37, wO 1), (45, rO 5 0), (57, { ch := 1, hi := fun _ => 144 }), (64, rO 5 0), (65, wO 2), (73, rO 5 0), (85, { ch := 1, hi := fun _ => 96 }), (92, rO 5 0), (93, wO 2), (101, rO 5 0), (111, { ch := 1, hi := fun _ => 48 }), (118, rO 5 0), (119, wO 1), (127, rO 5 0), (137, { ch := 1, hi := fun _ => 0 })]) (by kernel_rfl) ⟨_, rfl⟩
      (And.intro (zgd_12 l hL)
      (And.intro (zgd_13 l hL)
      (And.intro (zgd_14 l hL h3)
      (And.intro (zgd_13 l hL)
      (And.intro (zgd_15 l hL)
      (And.intro (zgd_16 l hL)
      (And.intro (zgd_27 l hL h2)
      (And.intro (zgd_16 l hL)
      (And.intro (zgd_18 l hL)
      (And.intro (zgd_19 l hL)
      (And.intro (zgd_28 l hL h1)
      (And.intro (zgd_19 l hL)
      (And.intro (zgd_21 l hL)
      (And.intro (zgd_22 l hL)
      (And.intro (zgd_23 l hL h0)
      (And.intro (zgd_22 l hL)
      (And.intro (zgd_24 l hL)
      (And.intro (zgd_25 l hL ht) trivial))))))))))))))))))
theorem get2_l1000 (l : List UInt8) (hL : l.length = 192) (ht : top3 l = 0) (h0 : c2 l 0 < 4002409555221667393417789825735904156556882819939007885332058136124031650490837864442687629129015664037894272559787) (h1 : 4002409555221667393417789825735904156556882819939007885332058136124031650490837864442687629129015664037894272559787 ≤ c2 l 1) (h2 : 4002409555221667393417789825735904156556882819939007885332058136124031650490837864442687629129015664037894272559787 ≤ c2 l 2) (h3 : 4002409555221667393417789825735904156556882819939007885332058136124031650490837864442687629129015664037894272559787 ≤ c2 l 3) : Gives Tryz.prog 4 [.t (.v (.string (ofL l)))] (.tp [.ag [.c (.int .u64 0), .c (.int .u64 0), .c (.int .u64 0), .c (.int .u64 0), .c (.int .u64 0), .c (.int .u64 0), .c (.int .u64 0), .c (.int .u64 0), .c (.int .u64 0), .c (.int .u64 0), .c (.int .u64 0), .c (.int .u64 0), .c (.int .u64 0), .c (.int .u64 0), .c (.int .u64 0), .c (.int .u64 0), .c (.int .u64 0), .c (.int .u64 0), .c (.int .u64 0), .c (.int .u64 0), .c (.int .u64 0), .c (.int .u64 0), .c (.int .u64 0), .c (.int .u64 0), .c (.bool false)], .v (.int .i64 20)]) :=
  fn_gives_at (P := Tryz.prog) (X := rulesX _) (env := [eHd96, efgetP, eIn2, eTimes2, ePlus2, eSmP, eRoot2, eNeg2, eOut2, eRig2, eGrp2]) ⟨eHd96_ok, efgetP_ok, eIn2_ok, eTimes2_ok, ePlus2_ok, eSmP_ok, eRoot2_ok, eNeg2_ok, eOut2_ok, eRig2_ok, eGrp2_ok, trivial⟩ Tryz.func4 2 (oL [(3, wO 5), (29, { ch := 1, hi := fun _ => 192 }), (36, rO 5 0), (37, wO 1), (45, rO 5 0), (57, { ch := 1, hi := fun _ => 144 }), (64, rO 5 0), (65, wO 2), (73, rO 5 0), (85, { ch := 1, hi := fun _ => 96 }), (92, rO 5 0), (93, wO 2), (101, rO 5 0), (111, { ch := 1, hi := fun _ => 48 }), (118, rO 5 0), (119, wO 2), (127, rO 5 0), (137, { ch := 1, hi := fun _ => 0 })]) (by kernel_rfl) ⟨_, rfl⟩
      (And.intro (zgd_12 l hL)
      (And.intro (zgd_13 l hL)
      (And.intro (zgd_26 l hL h3)
      (And.intro (zgd_13 l hL)
      (And.intro (zgd_15 l hL)
      (And.intro (zgd_16 l hL)
      (And.intro (zgd_27 l hL h2)
      (And.intro (zgd_16 l hL)
      (And.intro (zgd_18 l hL)
      (And.intro (zgd_19 l hL)
      (And.intro (zgd_28 l hL h1)
      (And.intro (zgd_19 l hL)
      (And.intro (zgd_21 l hL)
      (And.intro (zgd_22 l hL)
      (And.intro (zgd_23 l hL h0)
      (And.intro (zgd_22 l hL)
      (And.intro (zgd_24 l hL)
      (And.intro (zgd_25 l hL ht) trivial))))))))))))))))))
theorem zgd_29 (l : List UInt8) (hL : l.length = 192) (h0 : 4002409555221667393417789825735904156556882819939007885332058136124031650490837864442687629129015664037894272559787 ≤ c2 l 0) : ((maskL l).take 48).length = 48 ∧ 4002409555221667393417789825735904156556882819939007885332058136124031650490837864442687629129015664037894272559787 ≤ deN 48 ((maskL l).take 48) := ⟨by simp [mask_length, hL], h0⟩
theorem get2_l0111 (l : List UInt8) (hL : l.length = 192) (ht : top3 l = 0) (h0 : 4002409555221667393417789825735904156556882819939007885332058136124031650490837864442687629129015664037894272559787 ≤ c2 l 0) (h1 : c2 l 1 < 4002409555221667393417789825735904156556882819939007885332058136124031650490837864442687629129015664037894272559787) (h2 : c2 l 2 < 4002409555221667393417789825735904156556882819939007885332058136124031650490837864442687629129015664037894272559787) (h3 : c2 l 3 < 4002409555221667393417789825735904156556882819939007885332058136124031650490837864442687629129015664037894272559787) : Gives Tryz.prog 4 [.t (.v (.string (ofL l)))] (.tp [.ag [.c (.int .u64 0), .c (.int .u64 0), .c (.int .u64 0), .c (.int .u64 0), .c (.int .u64 0), .c (.int .u64 0), .c (.int .u64 0), .c (.int .u64 0), .c (.int .u64 0), .c (.int .u64 0), .c (.int .u64 0), .c (.int .u64 0), .c (.int .u64 0), .c (.int .u64 0), .c (.int .u64 0), .c (.int .u64 0), .c (.int .u64 0), .c (.int .u64 0), .c (.int .u64 0), .c (.int .u64 0), .c (.int .u64 0), .c (.int .u64 0), .c (.int .u64 0), .c (.int .u64 0), .c (.bool false)], .v (.int .i64 20)]) :=
  fn_gives_at (P := Tryz.prog) (X := rulesX _) (env := [eHd96, efgetP, eIn2, eTimes2, ePlus2, eSmP, eRoot2, eNeg2, eOut2, eRig2, eGrp2]) ⟨eHd96_ok, efgetP_ok, eIn2_ok, eTimes2_ok, ePlus2_ok, eSmP_ok, eRoot2_ok, eNeg2_ok, eOut2_ok, eRig2_ok, eGrp2_ok, trivial⟩ Tryz.func4 2 (oL [(3, wO 5), (29, { ch := 1, hi := fun _ => 192 }), (36, rO 5 0), (37, wO 2), (45, rO 5 0), (57, { ch := 1, hi := fun _ => 144 }), (64, rO 5 0), (65, wO 1), (73, rO 5 0), (83, { ch := 1, hi := fun _ => 96 }), (90, rO 5 0), (91, wO 1), (99, rO 5 0), (109, { ch := 1, hi := fun _ => 48 }), (116, rO 5 0), (117, wO 1), (125, rO 5 0), (135, { ch := 1, hi := fun _ => 0 })]) (by kernel_rfl) ⟨_, rfl⟩
      (And.intro (zgd_12 l hL)
      (And.intro (zgd_13 l hL)
      (And.intro (zgd_14 l hL h3)
      (And.intro (zgd_13 l hL)
      (And.intro (zgd_15 l hL)
      (And.intro (zgd_16 l hL)
      (And.intro (zgd_17 l hL h2)
      (And.intro (zgd_16 l hL)
      (And.intro (zgd_18 l hL)
      (And.intro (zgd_19 l hL)
      (And.intro (zgd_20 l hL h1)
      (And.intro (zgd_19 l hL)
      (And.intro (zgd_21 l hL)
      (And.intro (zgd_22 l hL)
      (And.intro (zgd_29 l hL h0)
      (And.intro (zgd_22 l hL)
      (And.intro (zgd_24 l hL)
      (And.intro (zgd_25 l hL ht) trivial))))))))))))))))))
theorem get2_l0110 (l : List UInt8) (hL : l.length = 192) (ht : top3 l = 0) (h0 : 4002409555221667393417789825735904156556882819939007885332058136124031650490837864442687629129015664037894272559787 ≤ c2 l 0) (h1 : c2 l 1 < 4002409555221667393417789825735904156556882819939007885332058136124031650490837864442687629129015664037894272559787) (h2 : c2 l 2 < 4002409555221667393417789825735904156556882819939007885332058136124031650490837864442687629129015664037894272559787) (h3 : 4002409555221667393417789825735904156556882819939007885332058136124031650490837864442687629129015664037894272559787 ≤ c2 l 3) : Gives Tryz.prog 4 [.t (.v (.string (ofL l)))] (.tp [.ag [.c (.int .u64 0), .c (.int .u64 0), .c (.int .u64 0), .c (.int .u64 0), .c (.int .u64 0), .c (.int .u64 0), .c (.int .u64 0), .c (.int .u64 0), .c (.int .u64 0), .c (.int .u64 0), .c (.int .u64 0), .c (.int .u64 0), .c (.int .u64 0), .c (.int .u64 0), .c (.int .u64 0), .c (.int .u64 0), .c (.int .u64 0), .c (.int .u64 0), .c (.int .u64 0), .c (.int .u64 0), .c (.int .u64 0), .c (.int .u64 0), .c (.int .u64 0), .c (.int .u64 0), .c (.bool false)], .v (.int .i64 20)]) :=
  fn_gives_at (P := Tryz.prog) (X := rulesX _) (env := [eHd96, efgetP, eIn2, eTimes2, ePlus2, eSmP, eRoot2, eNeg2, eOut2, eRig2, eGrp2]) ⟨eHd96_ok, efgetP_ok, eIn2_ok, eTimes2_ok, ePlus2_ok, eSmP_ok, eRoot2_ok, eNeg2_ok, eOut2_ok, eRig2_ok, eGrp2_ok, trivial⟩ Tryz.func4 2 (oL [(3, wO 5), (29, { ch := 1, hi := fun _ => 192 }), (36, rO 5 0), (37, wO 2), (45, rO 5 0), (57, { ch := 1, hi := fun _ => 144 }), (64, rO 5 0), (65, wO 1), (73, rO 5 0), (83, { ch := 1, hi := fun _ => 96 }), (90, rO 5 0), (91, wO 1), (99, rO 5 0), (109, { ch := 1, hi := fun _ => 48 }), (116, rO 5 0), (117, wO 2), (125, rO 5 0), (135, { ch := 1, hi := fun _ => 0 })]) (by kernel_rfl) ⟨_, rfl⟩
      (And.intro (zgd_12 l hL)
      (And.intro (zgd_13 l hL)
      (And.intro (zgd_26 l hL h3)
      (And.intro (zgd_13 l hL)
      (And.intro (zgd_15 l hL)
      (And.intro (zgd_16 l hL)
      (And.intro (zgd_17 l hL h2)
      (And.intro (zgd_16 l hL)
      (And.intro (zgd_18 l hL)
      (And.intro (zgd_19 l hL)
      (And.intro (zgd_20 l hL h1)
      (And.intro (zgd_19 l hL)
      (And.intro (zgd_21 l hL)
      (And.intro (zgd_22 l hL)
      (And.intro (zgd_29 l hL h0)
      (And.intro (zgd_22 l hL)
      (And.intro (zgd_24 l hL)
      (And.intro (zgd_25 l hL ht) trivial))))))))))))))))))
theorem get2_l0101 (l : List UInt8) (hL : l.length = 192) (ht : top3 l = 0) (h0 : 4002409555221667393417789825735904156556882819939007885332058136124031650490837864442687629129015664037894272559787 ≤ c2 l 0) (h1 : c2 l 1 < 4002409555221667393417789825735904156556882819939007885332058136124031650490837864442687629129015664037894272559787) (h2 : 4002409555221667393417789825735904156556882819939007885332058136124031650490837864442687629129015664037894272559787 ≤ c2 l 2) (h3 : c2 l 3 < 4002409555221667393417789825735904156556882819939007885332058136124031650490837864442687629129015664037894272559787) : Gives Tryz.prog 4 [.t (.v (.string (ofL l)))] (.tp [.ag [.c (.int .u64 0), .c (.int .u64 0), .c (.int .u64 0), .c (.int .u64 0), .c (.int .u64 0), .c (.int .u64 0), .c (.int .u64 0), .c (.int .u64 0), .c (.int .u64 0), .c (.int .u64 0), .c (.int .u64 0), .c (.int .u64 0), .c (.int .u64 0), .c (.int .u64 0), .c (.int .u64 0), .c (.int .u64 0), .c (.int .u64 0), .c (.int .u64 0), .c (.int .u64 0), .c (.int .u64 0), .c (.int .u64 0), .c (.int .u64 0), .c (.int .u64 0), .c (.int .u64 0), .c (.bool false)], .v (.int .i64 20)]) :=
  fn_gives_at (P := Tryz.prog) (X := rulesX _) (env := [eHd96, efgetP, eIn2, eTimes2, ePlus2, eSmP, eRoot2, eNeg2, eOut2, eRig2, eGrp2]) ⟨eHd96_ok, efgetP_ok, eIn2_ok, eTimes2_ok, ePlus2_ok, eSmP_ok, eRoot2_ok, eNeg2_ok, eOut2_ok, eRig2_ok, eGrp2_ok, trivial⟩ Tryz.func4 2 (oL [(3, wO 5), (29, { ch := 1, hi := fun _ => 192 }), (36, rO 5 0), (37, wO 2), (45, rO 5 0), (57, { ch := 1, hi := fun _ => 144 }), (64, rO 5 0), (65, wO 1), (73, rO 5 0), (83, { ch := 1, hi := fun _ => 96 }), (90, rO 5 0), (91, wO 2), (99, rO 5 0), (109, { ch := 1, hi := fun _ => 48 }), (116, rO 5 0), (117, wO 1), (125, rO 5 0), (135, { ch := 1, hi := fun _ => 0 })]) (by kernel_rfl) ⟨_, rfl⟩
      (And.intro (zgd_12 l hL)
      (And.intro (zgd_13 l hL)
      (And.intro (zgd_14 l hL h3)
      (And.intro (zgd_13 l hL)
      (And.intro (zgd_15 l hL)
      (And.intro (zgd_16 l hL)
      (And.intro (zgd_27 l hL h2)
      (And.intro (zgd_16 l hL)
      (And.intro (zgd_18 l hL)
      (And.intro (zgd_19 l hL)
      (And.intro (zgd_20 l hL h1)
      (And.intro (zgd_19 l hL)
      (And.intro (zgd_21 l hL)
      (And.intro (zgd_22 l hL)
      (And.intro (zgd_29 l hL h0)
      (And.intro (zgd_22 l hL)
      (And.intro (zgd_24 l hL)
      (And.intro (zgd_25 l hL ht) trivial))))))))))))))))))
theorem get2_l0100 (l : List UInt8) (hL : l.length = 192) (ht : top3 l = 0) (h0 : 4002409555221667393417789825735904156556882819939007885332058136124031650490837864442687629129015664037894272559787 ≤ c2 l 0) (h1 : c2 l 1 < 4002409555221667393417789825735904156556882819939007885332058136124031650490837864442687629129015664037894272559787) (h2 : 4002409555221667393417789825735904156556882819939007885332058136124031650490837864442687629129015664037894272559787 ≤ c2 l 2) (h3 : 4002409555221667393417789825735904156556882819939007885332058136124031650490837864442687629129015664037894272559787 ≤ c2 l 3) : Gives Tryz.prog 4 [.t (.v (.string (ofL l)))] (.tp [.ag [.c (.int .u64 0), .c (.int .u64 0), .c (.int .u64 0), .c (.int .u64 0), .c (.int .u64 0), .c (.int .u64 0), .c (.int .u64 0), .c (.int .u64 0), .c (.int .u64 0), .c (.int .u64 0), .c (.int .u64 0), .c (.int .u64 0), .c (.int .u64 0), .c (.int .u64 0), .c (.int .u64 0), .c (.int .u64 0), .c (.int .u64 0), .c (.int .u64 0), .c (.int .u64 0), .c (.int .u64 0), .c (.int .u64 0), .c (.int .u64 0), .c (.int .u64 0), .c (.int .u64 0), .c (.bool false)], .v (.int .i64 20)]) :=
  fn_gives_at (P := Tryz.prog) (X := rulesX _) (env := [eHd96, efgetP, eIn2, eTimes2, ePlus2, eSmP, eRoot2, eNeg2, eOut2, eRig2, eGrp2]) ⟨eHd96_ok, efgetP_ok, eIn2_ok, eTimes2_ok, ePlus2_ok, eSmP_ok, eRoot2_ok, eNeg2_ok, eOut2_ok, eRig2_ok, eGrp2_ok, trivial⟩ Tryz.func4 2 (oL [(3, wO 5), (29, { ch := 1, hi := fun _ => 192 }), (36, rO 5 0), (37, wO 2), (45, rO 5 0), (57, { ch := 1, hi := fun _ => 144 }), (64, rO 5 0), (65, wO 1), (73, rO 5 0), (83, { ch := 1, hi := fun _ => 96 }), (90, rO 5 0), (91, wO 2), (99, rO 5 0), (109, { ch := 1, hi := fun _ => 48 }), (116, rO 5 0), (117, wO 2), (125, rO 5 0), (135, { ch := 1, hi := fun _ => 0 })]) (by kernel_rfl) ⟨_, rfl⟩
      (And.intro (zgd_12 l hL)
      (And.intro (zgd_13 l hL)
      (And.intro (zgd_26 l hL h3)
      (And.intro (zgd_13 l hL)
      (And.intro (zgd_15 l hL)
      (And.intro (zgd_16 l hL)
      (And.intro (zgd_27 l hL h2)
      (And.intro (zgd_16 l hL)
      (And.intro (zgd_18 l hL)
      (And.intro (zgd_19 l hL)
      (And.intro (zgd_20 l hL h1)
      (And.intro (zgd_19 l hL)
      (And.intro (zgd_21 l hL)
      (And.intro (zgd_22 l hL)
      (And.intro (zgd_29 l hL h0)
      (And.intro (zgd_22 l hL)
      (And.intro (zgd_24 l hL)
      (And.intro (zgd_25 l hL ht) trivial))))))))))))))))))
theorem get2_l0011 (l : List UInt8) (hL : l.length = 192) (ht : top3 l = 0) (h0 : 4002409555221667393417789825735904156556882819939007885332058136124031650490837864442687629129015664037894272559787 ≤ c2 l 0) (h1 : 4002409555221667393417789825735904156556882819939007885332058136124031650490837864442687629129015664037894272559787 ≤ c2 l 1) (h2 : c2 l 2 < 4002409555221667393417789825735904156556882819939007885332058136124031650490837864442687629129015664037894272559787) (h3 : c2 l 3 < 4002409555221667393417789825735904156556882819939007885332058136124031650490837864442687629129015664037894272559787) : Gives Tryz.prog 4 [.t (.v (.string (ofL l)))] (.tp [.ag [.c (.int .u64 0), .c (.int .u64 0), .c (.int .u64 0), .c (.int .u64 0), .c (.int .u64 0), .c (.int .u64 0), .c (.int .u64 0), .c (.int .u64 0), .c (.int .u64 0), .c (.int .u64 0), .c (.int .u64 0), .c (.int .u64 0), .c (.int .u64 0), .c (.int .u64 0), .c (.int .u64 0), .c (.int .u64 0), .c (.int .u64 0), .c (.int .u64 0), .c (.int .u64 0), .c (.int .u64 0), .c (.int .u64 0), .c (.int .u64 0), .c (.int .u64 0), .c (.int .u64 0), .c (.bool false)], .v (.int .i64 20)]) :=
  fn_gives_at (P := Tryz.prog) (X := rulesX _) (env := [eHd96, efgetP, eIn2, eTimes2, ePlus2, eSmP, eRoot2, eNeg2, eOut2, eRig2, eGrp2]) ⟨eHd96_ok, efgetP_ok, eIn2_ok, eTimes2_ok, ePlus2_ok, eSmP_ok, eRoot2_ok, eNeg2_ok, eOut2_ok, eRig2_ok, eGrp2_ok, trivial⟩ Tryz.func4 2 (oL [(3, wO 5), (29, { ch := 1, hi := fun _ => 192 }), (36, rO 5 0), (37, wO 2), (45, rO 5 0), (57, { ch := 1, hi := fun _ => 144 }), (64, rO 5 0), (65, wO 2), (73, rO 5 0), (83, { ch := 1, hi := fun _ => 96 }), (90, rO 5 0), (91, wO 1), (99, rO 5 0), (109, { ch := 1, hi := fun _ => 48 }), (116, rO 5 0), (117, wO 1), (125, rO 5 0), (135, { ch := 1, hi := fun _ => 0 })]) (by kernel_rfl) ⟨_, rfl⟩
      (And.intro (zgd_12 l hL)
      (And.intro (zgd_13 l hL)
      (And.intro (zgd_14 l hL h3)
      (And.intro (zgd_13 l hL)
      (And.intro (zgd_15 l hL)
      (And.intro (zgd_16 l hL)
      (And.intro (zgd_17 l hL h2)
      (And.intro (zgd_16 l hL)
      (And.intro (zgd_18 l hL)
      (And.intro (zgd_19 l hL)
      (And.intro (zgd_28 l hL h1)
      (And.intro (zgd_19 l hL)
      (And.intro (zgd_21 l hL)
      (And.intro (zgd_22 l hL)
      (And.intro (zgd_29 l hL h0)
      (And.intro (zgd_22 l hL)
      (And.intro (zgd_24 l hL)
      (And.intro (zgd_25 l hL ht) trivial))))))))))))))))))
theorem get2_l0010 (l : List UInt8) (hL : l.length = 192) (ht : top3 l = 0) (h0 : 4002409555221667393417789825735904156556882819939007885332058136124031650490837864442687629129015664037894272559787 ≤ c2 l 0) (h1 : 4002409555221667393417789825735904156556882819939007885332058136124031650490837864442687629129015664037894272559787 ≤ c2 l 1) (h2 : c2 l 2 < 4002409555221667393417789825735904156556882819939007885332058136124031650490837864442687629129015664037894272559787) (h3 : 4002409555221667393417789825735904156556882819939007885332058136124031650490837864442687629129015664037894272559787 ≤ c2 l 3) : Gives Tryz.prog 4 [.t (.v (.string (ofL l)))] (.tp [.ag [.c (.int .u64 0), .c (.int .u64 0), .c (.int .u64 0), .c (.int .u64 0), .c (.int .u64 0), .c (.int .u64 0), .c (.int .u64 0), .c (.int .u64 0), .c (.int .u64 0), .c (.int .u64 0), .c (.int .u64 0), .c (.int .u64 0), .c (.int .u64 0), .c (.int .u64 0), .c (.int .u64 0), .c (.int .u64 0), .c (.int .u64 0), .c (.int .u64 0), .c (.int .u64 0), .c (.int .u64 0), .c (.int .u64 0), .c (.int .u64 0), .c (.int .u64 0), .c (.int .u64 0), .c (.bool false)], .v (.int .i64 20)]) :=
  fn_gives_at (P := Tryz.prog) (X := rulesX _) (env := [eHd96, efgetP, eIn2, eTimes2, ePlus2, eSmP, eRoot2, eNeg2, eOut2, eRig2, eGrp2]) ⟨eHd96_ok, efgetP_ok, eIn2_ok, eTimes2_ok, ePlus2_ok, eSmP_ok, eRoot2_ok, eNeg2_ok, eOut2_ok, eRig2_ok, eGrp2_ok, trivial⟩ Tryz.func4 2 (oL [(3, wO 5), (29, { ch := 1, hi := fun _ => 192 }), (36, rO 5 0), (37, wO 2), (45, rO 5 0), (57, { ch := 1, hi := fun _ => 144 }), (64, rO 5 0), (65, wO 2), (73, rO 5 0), (83, { ch := 1, hi := fun _ => 96 }), (90, rO 5 0), (91, wO 1), (99, rO 5 0), (109, { ch := 1, hi := fun _ => 48 }), (116, rO 5 0), (117, wO 2), (125, rO 5 0), (135, { ch := 1, hi := fun _ => 0 })]) (by kernel_rfl) ⟨_, rfl⟩
      (And.intro (zgd_12 l hL)
      (And.intro (zgd_13 l hL)
      (And.intro (zgd_26 l hL h3)
      (And.intro (zgd_13 l hL)
      (And.intro (zgd_15 l hL)
      (And.intro (zgd_16 l hL)
      (And.intro (zgd_17 l hL h2)
      (And.intro (zgd_16 l hL)
      (And.intro (zgd_18 l hL)
      (And.intro (zgd_19 l hL)
      (And.intro (zgd_28 l hL h1)
      (And.intro (zgd_19 l hL)
      (And.intro (zgd_21 l hL)
      (And.intro (zgd_22 l hL)
      (And.intro (zgd_29 l hL h0)
      (And.intro (zgd_22 l hL)
      (And.intro (zgd_24 l hL)
      (And.intro (zgd_25 l hL ht) trivial))))))))))))))))))
theorem get2_l0001 (l : List UInt8) (hL : l.length = 192) (ht : top3 l = 0) (h0 : 4002409555221667393417789825735904156556882819939007885332058136124031650490837864442687629129015664037894272559787 ≤ c2 l 0) (h1 : 4002409555221667393417789825735904156556882819939007885332058136124031650490837864442687629129015664037894272559787 ≤ c2 l 1) (h2 : 4002409555221667393417789825735904156556882819939007885332058136124031650490837864442687629129015664037894272559787 ≤ c2 l 2) (h3 : c2 l 3 < 4002409555221667393417789825735904156556882819939007885332058136124031650490837864442687629129015664037894272559787) : Gives Tryz.prog 4 [.t (.v (.string (ofL l)))] (.tp [.ag [.c (.int .u64 0), .c (.int .u64 0), .c (.int .u64 0), .c (.int .u64 0), .c (.int .u64 0), .c (.int .u64 0), .c (.int .u64 0), .c (.int .u64 0), .c (.int .u64 0), .c (.int .u64 0), .c (.int .u64 0), .c (.int .u64 0), .c (.int .u64 0), .c (.int .u64 0), .c (.int .u64 0), .c (.int .u64 0), .c (.int .u64 0), .c (.int .u64 0), .c (.int .u64 0), .c (.int .u64 0), .c (.int .u64 0), .c (.int .u64 0), .c (.int .u64 0), .c (.int .u64 0), .c (.bool false)], .v (.int .i64 20)]) :=
  fn_gives_at (P := Tryz.prog) (X := rulesX _) (env := [eHd96, efgetP, eIn2, eTimes2, ePlus2, eSmP, eRoot2, eNeg2, eOut2, eRig2, eGrp2]) ⟨eHd96_ok, efgetP_ok, eIn2_ok, eTimes2_ok, ePlus2_ok, eSmP_ok, eRoot2_ok, eNeg2_ok, eOut2_ok, eRig2_ok, eGrp2_ok, trivial⟩ Tryz.func4 2 (oL [(3, wO 5), (29, { ch := 1, hi := fun _ => 192 }), (36, rO 5 0), (37, wO 2), (45, rO 5 0), (57, { ch := 1, hi := fun _ => 144 }), (64, rO 5 0), (65, wO 2), (73, rO 5 0), (83, { ch := 1, hi := fun _ => 96 }), (90, rO 5 0), (91, wO 2), (99, rO 5 0), (109, { ch := 1, hi := fun _ => 48 }), (116, rO 5 0), (117, wO 1), (125, rO 5 0), (135, { ch := 1, hi := fun _ => 0 })]) (by kernel_rfl) ⟨_, rfl⟩
      (And.intro (zgd_12 l hL)
      (And.intro (zgd_13 l hL)
      (And.intro (zgd_14 l hL h3)
      (And.intro (zgd_13 l hL)
      (And.intro (zgd_15 l hL)
      (And.intro (zgd_16 l hL)
      (And.intro (zgd_27 l hL h2)
      (And.intro (zgd_16 l hL)
      (And.intro (zgd_18 l hL)
      (And.intro (zgd_19 l hL)
      (And.intro (zgd_28 l hL h1)
      (And.intro (zgd_19 l hL)
      (And.intro (zgd_21 l hL)
      (And.intro (zgd_22 l hL)
      (And.intro (zgd_29 l hL h0)
      (And.intro (zgd_22 l hL)
      (And.intro (zgd_24 l hL)
      (And.intro (zgd_25 l hL ht) trivial))))))))))))))))))
theorem get2_l0000 (l : List UInt8) (hL : l.length = 192) (ht : top3 l = 0) (h0 : 4002409555221667393417789825735904156556882819939007885332058136124031650490837864442687629129015664037894272559787 ≤ c2 l 0) (h1 : 4002409555221667393417789825735904156556882819939007885332058136124031650490837864442687629129015664037894272559787 ≤ c2 l 1) (h2 : 4002409555221667393417789825735904156556882819939007885332058136124031650490837864442687629129015664037894272559787 ≤ c2 l 2) (h3 : 4002409555221667393417789825735904156556882819939007885332058136124031650490837864442687629129015664037894272559787 ≤ c2 l 3) : Gives Tryz.prog 4 [.t (.v (.string (ofL l)))] (.tp [.ag [.c (.int .u64 0), .c (.int .u64 0), .c (.int .u64 0), .c (.int .u64 0), .c (.int .u64 0), .c (.int .u64 0), .c (.int .u64 0), .c (.int .u64 0), .c (.int .u64 0), .c (.int .u64 0), .c (.int .u64 0), .c (.int .u64 0), .c (.int .u64 0), .c (.int .u64 0), .c (.int .u64 0), .c (.int .u64 0), .c (.int .u64 0), .c (.int .u64 0), .c (.int .u64 0), .c (.int .u64 0), .c (.int .u64 0), .c (.int .u64 0), .c (.int .u64 0), .c (.int .u64 0), .c (.bool false)], .v (.int .i64 20)]) :=
  fn_gives_at (P := Tryz.prog) (X := rulesX _) (env := [eHd96, efgetP, eIn2, eTimes2, ePlus2, eSmP, eRoot2, eNeg2, eOut2, eRig2, eGrp2]) ⟨eHd96_ok, efgetP_ok, eIn2_ok, eTimes2_ok, ePlus2_ok, eSmP_ok, eRoot2_ok, eNeg2_ok, eOut2_ok, eRig2_ok, eGrp2_ok, trivial⟩ Tryz.func4 2 (oL [(3, wO 5), (29, { ch := 1, hi := fun _ => 192 }), (36, rO 5 0), (37, wO 2), (45, rO 5 0), (57, { ch := 1, hi := fun _ => 144 }), (64, rO 5 0), (65, wO 2), (73, rO 5 0), (83, { ch := 1, hi := fun _ => 96 }), (90, rO 5 0), (91, wO 2), (99, rO 5 0), (109, { ch := 1, hi := fun _ => 48 }), (116, rO 5 0), (117, wO 2), (125, rO 5 0), (135, { ch := 1, hi := fun _ => 0 })]) (by kernel_rfl) ⟨_, rfl⟩
      (And.intro (zgd_12 l hL)
      (And.intro (zgd_13 l hL)
      (And.intro (zgd_26 l hL h3)
      (And.intro (zgd_13 l hL)
      (And.intro (zgd_15 l hL)
      (And.intro (zgd_16 l hL)
      (And.intro (zgd_27 l hL h2)
      (And.intro (zgd_16 l hL)
      (And.intro (zgd_18 l hL)
      (And.intro (zgd_19 l hL)
      (And.intro (zgd_28 l hL h1)
      (And.intro (zgd_19 l hL)
      (And.intro (zgd_21 l hL)
      (And.intro (zgd_22 l hL)
      (And.intro (zgd_29 l hL h0)
      (And.intro (zgd_22 l hL)
      (And.intro (zgd_24 l hL)
      (And.intro (zgd_25 l hL ht) trivial))))))))))))))))))
def sh2 (l : List UInt8) : Prop := l.length = 96 ∧ (top3 l = 4 ∨ top3 l = 5)
def lo2 (l : List UInt8) : Prop := l.length = 192 ∧ top3 l = 0
theorem of2_val' (x : F2) : of2 (x.1.val, x.2.val) = x := by unfold of2; rw [ofP_val, ofP_val]
theorem small_pt2 (x y : F2) (b : Bool) : sml2 ((x.1.val, x.2.val), (y.1.val, y.2.val), b) := ⟨⟨small_q _, small_q _⟩, ⟨small_q _, small_q _⟩⟩
theorem neg_sq2 (a : F2) : mul2 (neg2 a) (neg2 a) = mul2 a a := by refine ext2 ?_ ?_ <;> simp only [mul2, neg2] <;> grind
theorem may_root2 (x : F2) (h : Bool) (hq : sq2 (rhs2 x)) : may2 ((x.1.val, x.2.val), ((sy2 (rhs2 x) h).1.val, (sy2 (rhs2 x) h).2.val), false) := by
  show is2 (x.1.val, x.2.val) ∧ is2 ((sy2 (rhs2 x) h).1.val, (sy2 (rhs2 x) h).2.val) ∧ mul2 (of2 ((sy2 (rhs2 x) h).1.val, (sy2 (rhs2 x) h).2.val)) (of2 ((sy2 (rhs2 x) h).1.val, (sy2 (rhs2 x) h).2.val)) = rhs2 (of2 (x.1.val, x.2.val))
  refine ⟨⟨x.1.isLt, x.2.isLt⟩, ⟨Fin.isLt _, Fin.isLt _⟩, ?_⟩
  rw [of2_val', of2_val']
  cases h
  · exact rt2_sq hq
  · show mul2 (neg2 (rt2 (rhs2 x))) (neg2 (rt2 (rhs2 x))) = rhs2 x
    rw [neg_sq2]; exact rt2_sq hq
def altG2 (l : List UInt8) : Alts := [(some (l.length ≠ 96 ∧ l.length ≠ 192), .tp [.ag [.c (.int .u64 0), .c (.int .u64 0), .c (.int .u64 0), .c (.int .u64 0), .c (.int .u64 0), .c (.int .u64 0), .c (.int .u64 0), .c (.int .u64 0), .c (.int .u64 0), .c (.int .u64 0), .c (.int .u64 0), .c (.int .u64 0), .c (.int .u64 0), .c (.int .u64 0), .c (.int .u64 0), .c (.int .u64 0), .c (.int .u64 0), .c (.int .u64 0), .c (.int .u64 0), .c (.int .u64 0), .c (.int .u64 0), .c (.int .u64 0), .c (.int .u64 0), .c (.int .u64 0), .c (.bool false)], .v (.int .i64 3)]), (some ((l.length = 96 ∧ top3 l ≠ 4 ∧ top3 l ≠ 5 ∧ top3 l ≠ 6) ∨ (l.length = 192 ∧ top3 l ≠ 0 ∧ top3 l ≠ 2)), .tp [.ag [.c (.int .u64 0), .c (.int .u64 0), .c (.int .u64 0), .c (.int .u64 0), .c (.int .u64 0), .c (.int .u64 0), .c (.int .u64 0), .c (.int .u64 0), .c (.int .u64 0), .c (.int .u64 0), .c (.int .u64 0), .c (.int .u64 0), .c (.int .u64 0), .c (.int .u64 0), .c (.int .u64 0), .c (.int .u64 0), .c (.int .u64 0), .c (.int .u64 0), .c (.int .u64 0), .c (.int .u64 0), .c (.int .u64 0), .c (.int .u64 0), .c (.int .u64 0), .c (.int .u64 0), .c (.bool false)], .v (.int .i64 32)]), (some (((l.length = 96 ∧ top3 l = 6) ∨ (l.length = 192 ∧ top3 l = 2)) ∧ ¬ allZ (maskL l)), .tp [.ag [.c (.int .u64 0), .c (.int .u64 0), .c (.int .u64 0), .c (.int .u64 0), .c (.int .u64 0), .c (.int .u64 0), .c (.int .u64 0), .c (.int .u64 0), .c (.int .u64 0), .c (.int .u64 0), .c (.int .u64 0), .c (.int .u64 0), .c (.int .u64 0), .c (.int .u64 0), .c (.int .u64 0), .c (.int .u64 0), .c (.int .u64 0), .c (.int .u64 0), .c (.int .u64 0), .c (.int .u64 0), .c (.int .u64 0), .c (.int .u64 0), .c (.int .u64 0), .c (.int .u64 0), .c (.bool false)], .v (.int .i64 33)]), (some (((l.length = 96 ∧ top3 l = 6) ∨ (l.length = 192 ∧ top3 l = 2)) ∧ allZ (maskL l)), .tp [.ag [.c (.int .u64 0), .c (.int .u64 0), .c (.int .u64 0), .c (.int .u64 0), .c (.int .u64 0), .c (.int .u64 0), .c (.int .u64 0), .c (.int .u64 0), .c (.int .u64 0), .c (.int .u64 0), .c (.int .u64 0), .c (.int .u64 0), .c (.int .u64 0), .c (.int .u64 0), .c (.int .u64 0), .c (.int .u64 0), .c (.int .u64 0), .c (.int .u64 0), .c (.int .u64 0), .c (.int .u64 0), .c (.int .u64 0), .c (.int .u64 0), .c (.int .u64 0), .c (.int .u64 0), .c (.bool true)], .v (.int .i64 0)]), (some (sh2 l ∧ ¬ (c2 l 0 < Pp ∧ c2 l 1 < Pp)), .tp [.ag [.c (.int .u64 0), .c (.int .u64 0), .c (.int .u64 0), .c (.int .u64 0), .c (.int .u64 0), .c (.int .u64 0), .c (.int .u64 0), .c (.int .u64 0), .c (.int .u64 0), .c (.int .u64 0), .c (.int .u64 0), .c (.int .u64 0), .c (.int .u64 0), .c (.int .u64 0), .c (.int .u64 0), .c (.int .u64 0), .c (.int .u64 0), .c (.int .u64 0), .c (.int .u64 0), .c (.int .u64 0), .c (.int .u64 0), .c (.int .u64 0), .c (.int .u64 0), .c (.int .u64 0), .c (.bool false)], .v (.int .i64 20)]), (some (sh2 l ∧ (c2 l 0 < Pp ∧ c2 l 1 < Pp) ∧ ¬ sq2 (rhs2 ((ofP (c2 l 1), ofP (c2 l 0)) : F2))), .tp [.ag [.c (.int .u64 0), .c (.int .u64 0), .c (.int .u64 0), .c (.int .u64 0), .c (.int .u64 0), .c (.int .u64 0), .c (.int .u64 0), .c (.int .u64 0), .c (.int .u64 0), .c (.int .u64 0), .c (.int .u64 0), .c (.int .u64 0), .c (.int .u64 0), .c (.int .u64 0), .c (.int .u64 0), .c (.int .u64 0), .c (.int .u64 0), .c (.int .u64 0), .c (.int .u64 0), .c (.int .u64 0), .c (.int .u64 0), .c (.int .u64 0), .c (.int .u64 0), .c (.int .u64 0), .c (.bool false)], .v (.int .i64 30)]), (some (sh2 l ∧ (c2 l 0 < Pp ∧ c2 l 1 < Pp) ∧ sq2 (rhs2 ((ofP (c2 l 1), ofP (c2 l 0)) : F2)) ∧ ¬ grp2 ((((ofP (c2 l 1), ofP (c2 l 0)) : F2).1.val, ((ofP (c2 l 1), ofP (c2 l 0)) : F2).2.val), ((sy2 (rhs2 ((ofP (c2 l 1), ofP (c2 l 0)) : F2)) (decide (top3 l = 5))).1.val, (sy2 (rhs2 ((ofP (c2 l 1), ofP (c2 l 0)) : F2)) (decide (top3 l = 5))).2.val), false)), .tp [.ag [.c (.int .u64 0), .c (.int .u64 0), .c (.int .u64 0), .c (.int .u64 0), .c (.int .u64 0), .c (.int .u64 0), .c (.int .u64 0), .c (.int .u64 0), .c (.int .u64 0), .c (.int .u64 0), .c (.int .u64 0), .c (.int .u64 0), .c (.int .u64 0), .c (.int .u64 0), .c (.int .u64 0), .c (.int .u64 0), .c (.int .u64 0), .c (.int .u64 0), .c (.int .u64 0), .c (.int .u64 0), .c (.int .u64 0), .c (.int .u64 0), .c (.int .u64 0), .c (.int .u64 0), .c (.bool false)], .v (.int .i64 31)]), (some (sh2 l ∧ (c2 l 0 < Pp ∧ c2 l 1 < Pp) ∧ sq2 (rhs2 ((ofP (c2 l 1), ofP (c2 l 0)) : F2)) ∧ grp2 ((((ofP (c2 l 1), ofP (c2 l 0)) : F2).1.val, ((ofP (c2 l 1), ofP (c2 l 0)) : F2).2.val), ((sy2 (rhs2 ((ofP (c2 l 1), ofP (c2 l 0)) : F2)) (decide (top3 l = 5))).1.val, (sy2 (rhs2 ((ofP (c2 l 1), ofP (c2 l 0)) : F2)) (decide (top3 l = 5))).2.val), false)), .tp [.ag [.q ((ofP (c2 l 1), ofP (c2 l 0)) : F2).1, .q ((ofP (c2 l 1), ofP (c2 l 0)) : F2).2, .q (sy2 (rhs2 ((ofP (c2 l 1), ofP (c2 l 0)) : F2)) (decide (top3 l = 5))).1, .q (sy2 (rhs2 ((ofP (c2 l 1), ofP (c2 l 0)) : F2)) (decide (top3 l = 5))).2, .c (.bool false)], .v (.int .i64 0)]), (some (lo2 l ∧ ¬ (c2 l 0 < Pp ∧ c2 l 1 < Pp ∧ c2 l 2 < Pp ∧ c2 l 3 < Pp)), .tp [.ag [.c (.int .u64 0), .c (.int .u64 0), .c (.int .u64 0), .c (.int .u64 0), .c (.int .u64 0), .c (.int .u64 0), .c (.int .u64 0), .c (.int .u64 0), .c (.int .u64 0), .c (.int .u64 0), .c (.int .u64 0), .c (.int .u64 0), .c (.int .u64 0), .c (.int .u64 0), .c (.int .u64 0), .c (.int .u64 0), .c (.int .u64 0), .c (.int .u64 0), .c (.int .u64 0), .c (.int .u64 0), .c (.int .u64 0), .c (.int .u64 0), .c (.int .u64 0), .c (.int .u64 0), .c (.bool false)], .v (.int .i64 20)]), (some (lo2 l ∧ (c2 l 0 < Pp ∧ c2 l 1 < Pp ∧ c2 l 2 < Pp ∧ c2 l 3 < Pp) ∧ ¬ may2 ((((ofP (c2 l 1), ofP (c2 l 0)) : F2).1.val, ((ofP (c2 l 1), ofP (c2 l 0)) : F2).2.val), (((ofP (c2 l 3), ofP (c2 l 2)) : F2).1.val, ((ofP (c2 l 3), ofP (c2 l 2)) : F2).2.val), false)), .tp [.ag [.c (.int .u64 0), .c (.int .u64 0), .c (.int .u64 0), .c (.int .u64 0), .c (.int .u64 0), .c (.int .u64 0), .c (.int .u64 0), .c (.int .u64 0), .c (.int .u64 0), .c (.int .u64 0), .c (.int .u64 0), .c (.int .u64 0), .c (.int .u64 0), .c (.int .u64 0), .c (.int .u64 0), .c (.int .u64 0), .c (.int .u64 0), .c (.int .u64 0), .c (.int .u64 0), .c (.int .u64 0), .c (.int .u64 0), .c (.int .u64 0), .c (.int .u64 0), .c (.int .u64 0), .c (.bool false)], .v (.int .i64 30)]), (some (lo2 l ∧ (c2 l 0 < Pp ∧ c2 l 1 < Pp ∧ c2 l 2 < Pp ∧ c2 l 3 < Pp) ∧ may2 ((((ofP (c2 l 1), ofP (c2 l 0)) : F2).1.val, ((ofP (c2 l 1), ofP (c2 l 0)) : F2).2.val), (((ofP (c2 l 3), ofP (c2 l 2)) : F2).1.val, ((ofP (c2 l 3), ofP (c2 l 2)) : F2).2.val), false) ∧ ¬ grp2 ((((ofP (c2 l 1), ofP (c2 l 0)) : F2).1.val, ((ofP (c2 l 1), ofP (c2 l 0)) : F2).2.val), (((ofP (c2 l 3), ofP (c2 l 2)) : F2).1.val, ((ofP (c2 l 3), ofP (c2 l 2)) : F2).2.val), false)), .tp [.ag [.c (.int .u64 0), .c (.int .u64 0), .c (.int .u64 0), .c (.int .u64 0), .c (.int .u64 0), .c (.int .u64 0), .c (.int .u64 0), .c (.int .u64 0), .c (.int .u64 0), .c (.int .u64 0), .c (.int .u64 0), .c (.int .u64 0), .c (.int .u64 0), .c (.int .u64 0), .c (.int .u64 0), .c (.int .u64 0), .c (.int .u64 0), .c (.int .u64 0), .c (.int .u64 0), .c (.int .u64 0), .c (.int .u64 0), .c (.int .u64 0), .c (.int .u64 0), .c (.int .u64 0), .c (.bool false)], .v (.int .i64 31)]), (some (lo2 l ∧ (c2 l 0 < Pp ∧ c2 l 1 < Pp ∧ c2 l 2 < Pp ∧ c2 l 3 < Pp) ∧ may2 ((((ofP (c2 l 1), ofP (c2 l 0)) : F2).1.val, ((ofP (c2 l 1), ofP (c2 l 0)) : F2).2.val), (((ofP (c2 l 3), ofP (c2 l 2)) : F2).1.val, ((ofP (c2 l 3), ofP (c2 l 2)) : F2).2.val), false) ∧ grp2 ((((ofP (c2 l 1), ofP (c2 l 0)) : F2).1.val, ((ofP (c2 l 1), ofP (c2 l 0)) : F2).2.val), (((ofP (c2 l 3), ofP (c2 l 2)) : F2).1.val, ((ofP (c2 l 3), ofP (c2 l 2)) : F2).2.val), false)), .tp [.ag [.q ((ofP (c2 l 1), ofP (c2 l 0)) : F2).1, .q ((ofP (c2 l 1), ofP (c2 l 0)) : F2).2, .q ((ofP (c2 l 3), ofP (c2 l 2)) : F2).1, .q ((ofP (c2 l 3), ofP (c2 l 2)) : F2).2, .c (.bool false)], .v (.int .i64 0)])]
set_option maxHeartbeats 4000000 in
theorem get2_all (l : List UInt8) : ∀ c r, (c, r) ∈ altG2 l → c.getD True → Gives Tryz.prog 4 [.t (.v (.string (ofL l)))] r := by
  intro c x hm hc
  simp only [altG2, List.mem_cons, Prod.mk.injEq, List.not_mem_nil, or_false] at hm
  rcases hm with ⟨rfl, rfl⟩ | ⟨rfl, rfl⟩ | ⟨rfl, rfl⟩ | ⟨rfl, rfl⟩ | ⟨rfl, rfl⟩ | ⟨rfl, rfl⟩ | ⟨rfl, rfl⟩ | ⟨rfl, rfl⟩ | ⟨rfl, rfl⟩ | ⟨rfl, rfl⟩ | ⟨rfl, rfl⟩ | ⟨rfl, rfl⟩
  · exact get2_e3 l hc
  · exact get2_e32 l hc
  · exact get2_e33 l hc
  · obtain ⟨h | h, hz⟩ := hc
    · exact get2_i6 l ⟨h, hz⟩
    · exact get2_i7 l ⟨h, hz⟩
  · obtain ⟨⟨hL, ht | ht⟩, h⟩ := hc
    · by_cases h0 : c2 l 0 < Pp
      · by_cases h1 : c2 l 1 < Pp
        · exact absurd ⟨h0, h1⟩ h
        · exact get2_s4r10 l hL ht h0 (Nat.le_of_not_lt h1)
      · by_cases h1 : c2 l 1 < Pp
        · exact get2_s4r01 l hL ht (Nat.le_of_not_lt h0) h1
        · exact get2_s4r00 l hL ht (Nat.le_of_not_lt h0) (Nat.le_of_not_lt h1)
    · by_cases h0 : c2 l 0 < Pp
      · by_cases h1 : c2 l 1 < Pp
        · exact absurd ⟨h0, h1⟩ h
        · exact get2_s5r10 l hL ht h0 (Nat.le_of_not_lt h1)
      · by_cases h1 : c2 l 1 < Pp
        · exact get2_s5r01 l hL ht (Nat.le_of_not_lt h0) h1
        · exact get2_s5r00 l hL ht (Nat.le_of_not_lt h0) (Nat.le_of_not_lt h1)
  · obtain ⟨⟨hL, ht | ht⟩, ⟨h0, h1⟩, hq⟩ := hc
    · exact get2_s4n l hL ht h0 h1 hq
    · exact get2_s5n l hL ht h0 h1 hq
  · obtain ⟨⟨hL, ht | ht⟩, ⟨h0, h1⟩, hq, hg⟩ := hc
    · have e : decide (top3 l = 5) = false := by rw [ht]; rfl
      rw [e] at hg
      exact get2_s4g l hL ht h0 h1 hq ⟨small_pt2 _ _ _, may_root2 _ false hq, hg⟩
    · have e : decide (top3 l = 5) = true := by rw [ht]; rfl
      rw [e] at hg
      exact get2_s5g l hL ht h0 h1 hq ⟨small_pt2 _ _ _, may_root2 _ true hq, hg⟩
  · obtain ⟨⟨hL, ht | ht⟩, ⟨h0, h1⟩, hq, hg⟩ := hc
    · have e : decide (top3 l = 5) = false := by rw [ht]; rfl
      rw [e] at hg ⊢
      exact get2_s4ok l hL ht h0 h1 hq ⟨small_pt2 _ _ _, may_root2 _ false hq, hg⟩
    · have e : decide (top3 l = 5) = true := by rw [ht]; rfl
      rw [e] at hg ⊢
      exact get2_s5ok l hL ht h0 h1 hq ⟨small_pt2 _ _ _, may_root2 _ true hq, hg⟩
  · obtain ⟨⟨hL, ht⟩, h⟩ := hc
    by_cases h0 : c2 l 0 < Pp
    · by_cases h1 : c2 l 1 < Pp
      · by_cases h2 : c2 l 2 < Pp
        · by_cases h3 : c2 l 3 < Pp
          · exact absurd ⟨h0, h1, h2, h3⟩ h
          · exact get2_l1110 l hL ht h0 h1 h2 (Nat.le_of_not_lt h3)
        · by_cases h3 : c2 l 3 < Pp
          · exact get2_l1101 l hL ht h0 h1 (Nat.le_of_not_lt h2) h3
          · exact get2_l1100 l hL ht h0 h1 (Nat.le_of_not_lt h2) (Nat.le_of_not_lt h3)
      · by_cases h2 : c2 l 2 < Pp
        · by_cases h3 : c2 l 3 < Pp
          · exact get2_l1011 l hL ht h0 (Nat.le_of_not_lt h1) h2 h3
          · exact get2_l1010 l hL ht h0 (Nat.le_of_not_lt h1) h2 (Nat.le_of_not_lt h3)
        · by_cases h3 : c2 l 3 < Pp
          · exact get2_l1001 l hL ht h0 (Nat.le_of_not_lt h1) (Nat.le_of_not_lt h2) h3
          · exact get2_l1000 l hL ht h0 (Nat.le_of_not_lt h1) (Nat.le_of_not_lt h2) (Nat.le_of_not_lt h3)
    · by_cases h1 : c2 l 1 < Pp
      · by_cases h2 : c2 l 2 < Pp
        · by_cases h3 : c2 l 3 < Pp
          · exact get2_l0111 l hL ht (Nat.le_of_not_lt h0) h1 h2 h3
          · exact get2_l0110 l hL ht (Nat.le_of_not_lt h0) h1 h2 (Nat.le_of_not_lt h3)
        · by_cases h3 : c2 l 3 < Pp
          · exact get2_l0101 l hL ht (Nat.le_of_not_lt h0) h1 (Nat.le_of_not_lt h2) h3
          · exact get2_l0100 l hL ht (Nat.le_of_not_lt h0) h1 (Nat.le_of_not_lt h2) (Nat.le_of_not_lt h3)
      · by_cases h2 : c2 l 2 < Pp
        · by_cases h3 : c2 l 3 < Pp
          · exact get2_l0011 l hL ht (Nat.le_of_not_lt h0) (Nat.le_of_not_lt h1) h2 h3
          · exact get2_l0010 l hL ht (Nat.le_of_not_lt h0) (Nat.le_of_not_lt h1) h2 (Nat.le_of_not_lt h3)
        · by_cases h3 : c2 l 3 < Pp
          · exact get2_l0001 l hL ht (Nat.le_of_not_lt h0) (Nat.le_of_not_lt h1) (Nat.le_of_not_lt h2) h3
          · exact get2_l0000 l hL ht (Nat.le_of_not_lt h0) (Nat.le_of_not_lt h1) (Nat.le_of_not_lt h2) (Nat.le_of_not_lt h3)
  · obtain ⟨⟨hL, ht⟩, ⟨h0, h1, h2, h3⟩, hr⟩ := hc
    exact get2_ln l hL ht h0 h1 h2 h3 ⟨small_pt2 _ _ _, hr⟩
  · obtain ⟨⟨hL, ht⟩, ⟨h0, h1, h2, h3⟩, hr, hg⟩ := hc
    exact get2_lg l hL ht h0 h1 h2 h3 ⟨small_pt2 _ _ _, hr, hg⟩
  · obtain ⟨⟨hL, ht⟩, ⟨h0, h1, h2, h3⟩, hr, hg⟩ := hc
    exact get2_lok l hL ht h0 h1 h2 h3 ⟨small_pt2 _ _ _, hr, hg⟩
def eGet2 : Entry := entry1 4 XPar.str altG2
theorem eGet2_ok : eGet2.OK Tryz.prog := entry1_ok (fun args w => Go.Proofs.enters_of (P := Tryz.prog) Tryz.func4 (by kernel_rfl) rfl args w) get2_all
end Go.Proofs.YtbejkhmdmojojaaGreat

/- Contract of chirographref10.Read where a coordinate takes 96 bytes. -/
set_option linter.unusedSimpArgs false
set_option linter.unusedVariables false
namespace Go.Proofs.YtbejkhmdmojojaaGreat
open Go.Ev Go.RowKit
theorem rd96_len (l : List UInt8) (h1 : l.length ≠ 96) (h2 : l.length ≠ 192) : Gives Tryz.prog 5 [.t (.v (.string (ofL l))), .t (.v (.int .i64 96))] (.tp [.ag [.c (.bool false), .c (.bool false), .c (.bool false), .c (.slice none 0 0)], .v (.int .i64 3)]) :=
  fn_gives_at (P := Tryz.prog) (X := rulesY _) (env := []) trivial Tryz.func5 0 (oL [(5, wT), (11, wT)]) (by kernel_rfl) ⟨_, rfl⟩
      (And.intro (show (((l.length : Nat) : Int) != 192) = true from by simp; omega) (And.intro (show (((l.length : Nat) : Int) != 96) = true from by simp; omega) trivial))
theorem zgd_30 (b : UInt8) (r : List UInt8) (hL : (ofL (b :: r)).size = 96) : ((((ofL (b :: r)).size : Nat) : Int) == 96) = true := by rw [hL]; decide
theorem zgd_31 (b : UInt8) (r : List UInt8) (hL : (ofL (b :: r)).size = 96) : (0 : Int) ≤ 0 ∧ (0 : Int) < (ofL (b :: r)).size ∧ ((ofL (b :: r))[(0 : Int).toNat]?.getD 0).toNat = b.toNat := ⟨by decide, by rw [hL]; decide, by rw [ofL_get]; rfl⟩
theorem zgd_32 (b : UInt8) (r : List UInt8) (hL : (ofL (b :: r)).size = 96) : ((((ofL (b :: r)).size : Nat) : Int) != 96) = false := by rw [hL]; decide
theorem rd96_10 (b : UInt8) (r : List UInt8) (hL : (ofL (b :: r)).size = 96) (hf : b.toNat / 32 = 0) : Gives Tryz.prog 5 [.t (.v (.string (ofL (b :: r)))), .t (.v (.int .i64 96))] (.tp [.ag [.c (.bool false), .c (.bool false), .c (.bool false), .c (.slice none 0 0)], .v (.int .i64 32)]) :=
  fn_gives_at (P := Tryz.prog) (X := rulesY _) (env := [ergetP]) ⟨ergetP_ok, trivial⟩ Tryz.func5 0 (oL [(5, wF), (14, rO 1 b.toNat), (15, { ch := 1, hi := fun _ => 0 }), (18, rO 1 b.toNat), (19, { ch := 1, hi := fun _ => 0 }), (23, rO 1 b.toNat), (24, { ch := 1, hi := fun _ => 0 }), (35, wT)]) (by kernel_rfl) ⟨_, rfl⟩
      (And.intro (zgd_30 b r hL)
      (And.intro (show IntKind.u8.wrap (((b.toNat : Nat) : Int).tdiv 32) = ((0 : Nat) : Int) from q32 b 0 (by omega))
      (And.intro (zgd_31 b r hL)
      (And.intro (show IntKind.u8.wrap (((b.toNat : Nat) : Int).tdiv 64) = ((0 : Nat) : Int) from q64 b 0 (by omega))
      (And.intro (zgd_31 b r hL)
      (And.intro (show IntKind.u8.wrap (((b.toNat : Nat) : Int).tdiv 128) = ((0 : Nat) : Int) from q128 b 0 (by omega))
      (And.intro (zgd_31 b r hL)
      (And.intro (zgd_32 b r hL) trivial))))))))
theorem rd96_11 (b : UInt8) (r : List UInt8) (hL : (ofL (b :: r)).size = 96) (hf : b.toNat / 32 = 1) : Gives Tryz.prog 5 [.t (.v (.string (ofL (b :: r)))), .t (.v (.int .i64 96))] (.tp [.ag [.c (.bool false), .c (.bool false), .c (.bool false), .c (.slice none 0 0)], .v (.int .i64 32)]) :=
  fn_gives_at (P := Tryz.prog) (X := rulesY _) (env := [ergetP]) ⟨ergetP_ok, trivial⟩ Tryz.func5 0 (oL [(5, wF), (14, rO 1 b.toNat), (15, { ch := 1, hi := fun _ => 0 }), (18, rO 1 b.toNat), (19, { ch := 1, hi := fun _ => 0 }), (23, rO 1 b.toNat), (24, { ch := 1, hi := fun _ => 1 }), (35, wT)]) (by kernel_rfl) ⟨_, rfl⟩
      (And.intro (zgd_30 b r hL)
      (And.intro (show IntKind.u8.wrap (((b.toNat : Nat) : Int).tdiv 32) = ((1 : Nat) : Int) from q32 b 1 (by omega))
      (And.intro (zgd_31 b r hL)
      (And.intro (show IntKind.u8.wrap (((b.toNat : Nat) : Int).tdiv 64) = ((0 : Nat) : Int) from q64 b 0 (by omega))
      (And.intro (zgd_31 b r hL)
      (And.intro (show IntKind.u8.wrap (((b.toNat : Nat) : Int).tdiv 128) = ((0 : Nat) : Int) from q128 b 0 (by omega))
      (And.intro (zgd_31 b r hL)
      (And.intro (zgd_32 b r hL) trivial))))))))
theorem rd96_12 (b : UInt8) (r : List UInt8) (hL : (ofL (b :: r)).size = 96) (hf : b.toNat / 32 = 2) : Gives Tryz.prog 5 [.t (.v (.string (ofL (b :: r)))), .t (.v (.int .i64 96))] (.tp [.ag [.c (.bool false), .c (.bool false), .c (.bool false), .c (.slice none 0 0)], .v (.int .i64 32)]) :=
  fn_gives_at (P := Tryz.prog) (X := rulesY _) (env := [ergetP]) ⟨ergetP_ok, trivial⟩ Tryz.func5 0 (oL [(5, wF), (14, rO 1 b.toNat), (15, { ch := 1, hi := fun _ => 0 }), (18, rO 1 b.toNat), (19, { ch := 1, hi := fun _ => 1 }), (23, rO 1 b.toNat), (24, { ch := 1, hi := fun _ => 2 }), (35, wT)]) (by kernel_rfl) ⟨_, rfl⟩
      (And.intro (zgd_30 b r hL)
      (And.intro (show IntKind.u8.wrap (((b.toNat : Nat) : Int).tdiv 32) = ((2 : Nat) : Int) from q32 b 2 (by omega))
      (And.intro (zgd_31 b r hL)
      (And.intro (show IntKind.u8.wrap (((b.toNat : Nat) : Int).tdiv 64) = ((1 : Nat) : Int) from q64 b 1 (by omega))
      (And.intro (zgd_31 b r hL)
      (And.intro (show IntKind.u8.wrap (((b.toNat : Nat) : Int).tdiv 128) = ((0 : Nat) : Int) from q128 b 0 (by omega))
      (And.intro (zgd_31 b r hL)
      (And.intro (zgd_32 b r hL) trivial))))))))
theorem rd96_13 (b : UInt8) (r : List UInt8) (hL : (ofL (b :: r)).size = 96) (hf : b.toNat / 32 = 3) : Gives Tryz.prog 5 [.t (.v (.string (ofL (b :: r)))), .t (.v (.int .i64 96))] (.tp [.ag [.c (.bool false), .c (.bool false), .c (.bool false), .c (.slice none 0 0)], .v (.int .i64 32)]) :=
  fn_gives_at (P := Tryz.prog) (X := rulesY _) (env := [ergetP]) ⟨ergetP_ok, trivial⟩ Tryz.func5 0 (oL [(5, wF), (14, rO 1 b.toNat), (15, { ch := 1, hi := fun _ => 0 }), (18, rO 1 b.toNat), (19, { ch := 1, hi := fun _ => 1 }), (23, rO 1 b.toNat), (24, { ch := 1, hi := fun _ => 3 }), (35, wT)]) (by kernel_rfl) ⟨_, rfl⟩
      (And.intro (zgd_30 b r hL)
      (And.intro (show IntKind.u8.wrap (((b.toNat : Nat) : Int).tdiv 32) = ((3 : Nat) : Int) from q32 b 3 (by omega))
      (And.intro (zgd_31 b r hL)
      (And.intro (show IntKind.u8.wrap (((b.toNat : Nat) : Int).tdiv 64) = ((1 : Nat) : Int) from q64 b 1 (by omega))
      (And.intro (zgd_31 b r hL)
      (And.intro (show IntKind.u8.wrap (((b.toNat : Nat) : Int).tdiv 128) = ((0 : Nat) : Int) from q128 b 0 (by omega))
      (And.intro (zgd_31 b r hL)
      (And.intro (zgd_32 b r hL) trivial))))))))
theorem zgd_33 (b : UInt8) (r : List UInt8) (hL : (ofL (b :: r)).size = 96) (hf : b.toNat / 32 = 4) : ((flat [.c (.int .u8 ((b.toNat % 32 : Nat) : Int)), .y r]).drop (0 * 1)).take (48 - 0) = (ofL ((maskL (b :: r)).take 48)).data.toList.map byteV ∧ 48 - 0 = (ofL ((maskL (b :: r)).take 48)).size := part_cells b r 0 48 ((maskL (b :: r)).take 48) (by simp only [List.drop_drop, List.drop_zero]) (by have h : r.length + 1 = 96 := hL; omega)
theorem zgd_34 (b : UInt8) (r : List UInt8) (hL : (ofL (b :: r)).size = 96) : (0 : Int) = ((0 : Nat) : Int) ∧ (48 : Int) = ((48 : Nat) : Int) ∧ 0 < 48 ∧ 48 ≤ (ofL (b :: r)).size := ⟨rfl, rfl, by decide, by rw [hL]; decide⟩
theorem zgd_35 (b : UInt8) (r : List UInt8) (hL : (ofL (b :: r)).size = 96) : ((((ofL (b :: r)).size : Nat) : Int)) = ((96 : Nat) : Int) := by rw [hL]
theorem zgd_36 (b : UInt8) (r : List UInt8) : (0 : Int) = ((0 : Nat) : Int) ∧ 0 < (ofL (b :: r)).size := ⟨rfl, Nat.succ_pos _⟩
theorem zgd_37 (b : UInt8) : ((b.toNat : Nat) : Int).tmod 32 = ((b.toNat % 32 : Nat) : Int) := rem_32 b
theorem zgd_38 (b : UInt8) (r : List UInt8) : flat [.c (byteV b), .y r] = (ofL (b :: r)).data.toList.map byteV := flat_cy _ _
theorem zgd_39 (b : UInt8) (r : List UInt8) (hL : (ofL (b :: r)).size = 96) (hf : b.toNat / 32 = 4) : IntKind.u8.wrap (((b.toNat : Nat) : Int).tdiv 32) = ((4 : Nat) : Int) := q32 b 4 (by omega)
theorem zgd_40 (b : UInt8) (r : List UInt8) (hL : (ofL (b :: r)).size = 96) (hf : b.toNat / 32 = 4) : IntKind.u8.wrap (((b.toNat : Nat) : Int).tdiv 64) = ((2 : Nat) : Int) := q64 b 2 (by omega)
theorem zgd_41 (b : UInt8) (r : List UInt8) (hL : (ofL (b :: r)).size = 96) (hf : b.toNat / 32 = 4) : IntKind.u8.wrap (((b.toNat : Nat) : Int).tdiv 128) = ((1 : Nat) : Int) := q128 b 1 (by omega)
theorem rd96_14r0 (b : UInt8) (r : List UInt8) (hL : (ofL (b :: r)).size = 96) (hf : b.toNat / 32 = 4) (h0 : 4002409555221667393417789825735904156556882819939007885332058136124031650490837864442687629129015664037894272559787 ≤ deN 48 ((maskL (b :: r)).take 48)) : Gives Tryz.prog 5 [.t (.v (.string (ofL (b :: r)))), .t (.v (.int .i64 96))] (.tp [.ag [.c (.bool false), .c (.bool false), .c (.bool false), .c (.slice none 0 0)], .v (.int .i64 20)]) :=
  fn_gives_at (P := Tryz.prog) (X := rulesY _) (env := [ergetP]) ⟨ergetP_ok, trivial⟩ Tryz.func5 0 (oL [(5, wF), (14, rO 1 b.toNat), (15, { ch := 1, hi := fun _ => 1 }), (18, rO 1 b.toNat), (19, { ch := 1, hi := fun _ => 2 }), (23, rO 1 b.toNat), (24, { ch := 1, hi := fun _ => 4 }), (35, wT), (51, { ch := 0, hi := fun _ => 0, ex := 2, cs := fun _ => [.c (byteV b), .y r] }), (55, rO 9 0), (57, { ch := 1, hi := fun _ => b.toNat % 32 }), (58, rO 9 0), (59, { ch := 0, hi := fun _ => 0, ex := 3 }), (65, { ch := 1, hi := fun _ => 96 }), (71, rO2 11 0 48), (72, { ch := 0, hi := fun _ => 0, ru := 12, av := fun _ => .v (.string (ofL ((maskL (b :: r)).take 48))) }), (73, wO 2)]) (by kernel_rfl) ⟨_, rfl⟩
      (And.intro (show ((maskL (b :: r)).take 48).length = 48 ∧ 4002409555221667393417789825735904156556882819939007885332058136124031650490837864442687629129015664037894272559787 ≤ deN 48 ((maskL (b :: r)).take 48) from ⟨by have h : r.length + 1 = 96 := hL; simp [mask_length, h], h0⟩)
      (And.intro (zgd_33 b r hL hf)
      (And.intro (zgd_34 b r hL)
      (And.intro (zgd_35 b r hL)
      (And.intro (zgd_36 b r)
      (And.intro (zgd_37 b)
      (And.intro (zgd_36 b r)
      (And.intro (zgd_38 b r)
      (And.intro (zgd_30 b r hL)
      (And.intro (zgd_39 b r hL hf)
      (And.intro (zgd_31 b r hL)
      (And.intro (zgd_40 b r hL hf)
      (And.intro (zgd_31 b r hL)
      (And.intro (zgd_41 b r hL hf)
      (And.intro (zgd_31 b r hL)
      (And.intro (zgd_32 b r hL) trivial))))))))))))))))
theorem zgd_42 (b : UInt8) (r : List UInt8) (hL : (ofL (b :: r)).size = 96) (hf : b.toNat / 32 = 4) : ((flat [.c (.int .u8 ((b.toNat % 32 : Nat) : Int)), .y r]).drop (48 * 1)).take (96 - 48) = (ofL (((maskL (b :: r)).drop 48).take 48)).data.toList.map byteV ∧ 96 - 48 = (ofL (((maskL (b :: r)).drop 48).take 48)).size := part_cells b r 48 48 (((maskL (b :: r)).drop 48).take 48) (rfl) (by have h : r.length + 1 = 96 := hL; omega)
theorem zgd_43 (b : UInt8) (r : List UInt8) (hL : (ofL (b :: r)).size = 96) : (48 : Int) = ((48 : Nat) : Int) ∧ (96 : Int) = ((96 : Nat) : Int) ∧ 48 < 96 ∧ 96 ≤ (ofL (b :: r)).size := ⟨rfl, rfl, by decide, by rw [hL]; decide⟩
theorem zgd_44 (b : UInt8) (r : List UInt8) (hL : (ofL (b :: r)).size = 96) (h0 : deN 48 ((maskL (b :: r)).take 48) < 4002409555221667393417789825735904156556882819939007885332058136124031650490837864442687629129015664037894272559787) : ((maskL (b :: r)).take 48).length = 48 ∧ deN 48 ((maskL (b :: r)).take 48) < 4002409555221667393417789825735904156556882819939007885332058136124031650490837864442687629129015664037894272559787 := ⟨by have h : r.length + 1 = 96 := hL; simp [mask_length, h], h0⟩
theorem rd96_14r1 (b : UInt8) (r : List UInt8) (hL : (ofL (b :: r)).size = 96) (hf : b.toNat / 32 = 4) (h0 : deN 48 ((maskL (b :: r)).take 48) < 4002409555221667393417789825735904156556882819939007885332058136124031650490837864442687629129015664037894272559787) (h1 : 4002409555221667393417789825735904156556882819939007885332058136124031650490837864442687629129015664037894272559787 ≤ deN 48 (((maskL (b :: r)).drop 48).take 48)) : Gives Tryz.prog 5 [.t (.v (.string (ofL (b :: r)))), .t (.v (.int .i64 96))] (.tp [.ag [.c (.bool false), .c (.bool false), .c (.bool false), .c (.slice none 0 0)], .v (.int .i64 20)]) :=
  fn_gives_at (P := Tryz.prog) (X := rulesY _) (env := [ergetP]) ⟨ergetP_ok, trivial⟩ Tryz.func5 0 (oL [(5, wF), (14, rO 1 b.toNat), (15, { ch := 1, hi := fun _ => 1 }), (18, rO 1 b.toNat), (19, { ch := 1, hi := fun _ => 2 }), (23, rO 1 b.toNat), (24, { ch := 1, hi := fun _ => 4 }), (35, wT), (51, { ch := 0, hi := fun _ => 0, ex := 2, cs := fun _ => [.c (byteV b), .y r] }), (55, rO 9 0), (57, { ch := 1, hi := fun _ => b.toNat % 32 }), (58, rO 9 0), (59, { ch := 0, hi := fun _ => 0, ex := 3 }), (65, { ch := 1, hi := fun _ => 96 }), (71, rO2 11 0 48), (72, { ch := 0, hi := fun _ => 0, ru := 12, av := fun _ => .v (.string (ofL ((maskL (b :: r)).take 48))) }), (73, wO 1), (94, { ch := 1, hi := fun _ => 96 }), (100, rO2 11 48 96), (101, { ch := 0, hi := fun _ => 0, ru := 12, av := fun _ => .v (.string (ofL (((maskL (b :: r)).drop 48).take 48))) }), (102, wO 2)]) (by kernel_rfl) ⟨_, rfl⟩
      (And.intro (show (((maskL (b :: r)).drop 48).take 48).length = 48 ∧ 4002409555221667393417789825735904156556882819939007885332058136124031650490837864442687629129015664037894272559787 ≤ deN 48 (((maskL (b :: r)).drop 48).take 48) from ⟨by have h : r.length + 1 = 96 := hL; simp [mask_length, h], h1⟩)
      (And.intro (zgd_42 b r hL hf)
      (And.intro (zgd_43 b r hL)
      (And.intro (zgd_35 b r hL)
      (And.intro (zgd_44 b r hL h0)
      (And.intro (zgd_33 b r hL hf)
      (And.intro (zgd_34 b r hL)
      (And.intro (zgd_35 b r hL)
      (And.intro (zgd_36 b r)
      (And.intro (zgd_37 b)
      (And.intro (zgd_36 b r)
      (And.intro (zgd_38 b r)
      (And.intro (zgd_30 b r hL)
      (And.intro (zgd_39 b r hL hf)
      (And.intro (zgd_31 b r hL)
      (And.intro (zgd_40 b r hL hf)
      (And.intro (zgd_31 b r hL)
      (And.intro (zgd_41 b r hL hf)
      (And.intro (zgd_31 b r hL)
      (And.intro (zgd_32 b r hL) trivial))))))))))))))))))))
theorem rd96_14k (b : UInt8) (r : List UInt8) (hL : (ofL (b :: r)).size = 96) (hf : b.toNat / 32 = 4) (h0 : deN 48 ((maskL (b :: r)).take 48) < 4002409555221667393417789825735904156556882819939007885332058136124031650490837864442687629129015664037894272559787) (h1 : deN 48 (((maskL (b :: r)).drop 48).take 48) < 4002409555221667393417789825735904156556882819939007885332058136124031650490837864442687629129015664037894272559787) : GivesN Tryz.prog 5 [.t (.v (.string (ofL (b :: r)))), .t (.v (.int .i64 96))] (fun k => .tp [.ag [.c (.bool true), .c (.bool false), .c (.bool false), .sx k 2], .v (.int .i64 0)]) (.gr [.q (ofP (deN 48 ((maskL (b :: r)).take 48))), .q (ofP (deN 48 (((maskL (b :: r)).drop 48).take 48)))] 24 6) :=
  fnN_gives (P := Tryz.prog) (X := rulesY _) (env := [ergetP]) ⟨ergetP_ok, trivial⟩ Tryz.func5 (fun args w => Go.Proofs.enters_of (P := Tryz.prog) Tryz.func5 (by kernel_rfl) rfl args w) 0 (oL [(5, wF), (14, rO 1 b.toNat), (15, { ch := 1, hi := fun _ => 1 }), (18, rO 1 b.toNat), (19, { ch := 1, hi := fun _ => 2 }), (23, rO 1 b.toNat), (24, { ch := 1, hi := fun _ => 4 }), (35, wT), (51, { ch := 0, hi := fun _ => 0, ex := 2, cs := fun _ => [.c (byteV b), .y r] }), (55, rO 9 0), (57, { ch := 1, hi := fun _ => b.toNat % 32 }), (58, rO 9 0), (59, { ch := 0, hi := fun _ => 0, ex := 3 }), (65, { ch := 1, hi := fun _ => 96 }), (71, rO2 11 0 48), (72, { ch := 0, hi := fun _ => 0, ru := 12, av := fun _ => .v (.string (ofL ((maskL (b :: r)).take 48))) }), (73, wO 1), (94, { ch := 1, hi := fun _ => 96 }), (100, rO2 11 48 96), (101, { ch := 0, hi := fun _ => 0, ru := 12, av := fun _ => .v (.string (ofL (((maskL (b :: r)).drop 48).take 48))) }), (102, wO 1), (123, { ch := 1, hi := fun _ => 96 })]) (r0 := .tp [.ag [.c (.bool true), .c (.bool false), .c (.bool false), .sx 115 2], .v (.int .i64 0)]) 115 (by kernel_rfl) rfl
      (And.intro (zgd_35 b r hL)
      (And.intro (show (((maskL (b :: r)).drop 48).take 48).length = 48 ∧ deN 48 (((maskL (b :: r)).drop 48).take 48) < 4002409555221667393417789825735904156556882819939007885332058136124031650490837864442687629129015664037894272559787 from ⟨by have h : r.length + 1 = 96 := hL; simp [mask_length, h], h1⟩)
      (And.intro (zgd_42 b r hL hf)
      (And.intro (zgd_43 b r hL)
      (And.intro (zgd_35 b r hL)
      (And.intro (zgd_44 b r hL h0)
      (And.intro (zgd_33 b r hL hf)
      (And.intro (zgd_34 b r hL)
      (And.intro (zgd_35 b r hL)
      (And.intro (zgd_36 b r)
      (And.intro (zgd_37 b)
      (And.intro (zgd_36 b r)
      (And.intro (zgd_38 b r)
      (And.intro (zgd_30 b r hL)
      (And.intro (zgd_39 b r hL hf)
      (And.intro (zgd_31 b r hL)
      (And.intro (zgd_40 b r hL hf)
      (And.intro (zgd_31 b r hL)
      (And.intro (zgd_41 b r hL hf)
      (And.intro (zgd_31 b r hL)
      (And.intro (zgd_32 b r hL) trivial))))))))))))))))))))) _ mv_head
theorem zgd_45 (b : UInt8) (r : List UInt8) (hL : (ofL (b :: r)).size = 96) (hf : b.toNat / 32 = 5) : ((flat [.c (.int .u8 ((b.toNat % 32 : Nat) : Int)), .y r]).drop (0 * 1)).take (48 - 0) = (ofL ((maskL (b :: r)).take 48)).data.toList.map byteV ∧ 48 - 0 = (ofL ((maskL (b :: r)).take 48)).size := part_cells b r 0 48 ((maskL (b :: r)).take 48) (by simp only [List.drop_drop, List.drop_zero]) (by have h : r.length + 1 = 96 := hL; omega)
theorem zgd_46 (b : UInt8) (r : List UInt8) (hL : (ofL (b :: r)).size = 96) (hf : b.toNat / 32 = 5) : IntKind.u8.wrap (((b.toNat : Nat) : Int).tdiv 32) = ((5 : Nat) : Int) := q32 b 5 (by omega)
theorem zgd_47 (b : UInt8) (r : List UInt8) (hL : (ofL (b :: r)).size = 96) (hf : b.toNat / 32 = 5) : IntKind.u8.wrap (((b.toNat : Nat) : Int).tdiv 64) = ((2 : Nat) : Int) := q64 b 2 (by omega)
theorem zgd_48 (b : UInt8) (r : List UInt8) (hL : (ofL (b :: r)).size = 96) (hf : b.toNat / 32 = 5) : IntKind.u8.wrap (((b.toNat : Nat) : Int).tdiv 128) = ((1 : Nat) : Int) := q128 b 1 (by omega)
theorem rd96_15r0 (b : UInt8) (r : List UInt8) (hL : (ofL (b :: r)).size = 96) (hf : b.toNat / 32 = 5) (h0 : 4002409555221667393417789825735904156556882819939007885332058136124031650490837864442687629129015664037894272559787 ≤ deN 48 ((maskL (b :: r)).take 48)) : Gives Tryz.prog 5 [.t (.v (.string (ofL (b :: r)))), .t (.v (.int .i64 96))] (.tp [.ag [.c (.bool false), .c (.bool false), .c (.bool false), .c (.slice none 0 0)], .v (.int .i64 20)]) :=
  fn_gives_at (P := Tryz.prog) (X := rulesY _) (env := [ergetP]) ⟨ergetP_ok, trivial⟩ Tryz.func5 0 (oL [(5, wF), (14, rO 1 b.toNat), (15, { ch := 1, hi := fun _ => 1 }), (18, rO 1 b.toNat), (19, { ch := 1, hi := fun _ => 2 }), (23, rO 1 b.toNat), (24, { ch := 1, hi := fun _ => 5 }), (35, wT), (51, { ch := 0, hi := fun _ => 0, ex := 2, cs := fun _ => [.c (byteV b), .y r] }), (55, rO 9 0), (57, { ch := 1, hi := fun _ => b.toNat % 32 }), (58, rO 9 0), (59, { ch := 0, hi := fun _ => 0, ex := 3 }), (65, { ch := 1, hi := fun _ => 96 }), (71, rO2 11 0 48), (72, { ch := 0, hi := fun _ => 0, ru := 12, av := fun _ => .v (.string (ofL ((maskL (b :: r)).take 48))) }), (73, wO 2)]) (by kernel_rfl) ⟨_, rfl⟩
      (And.intro (show ((maskL (b :: r)).take 48).length = 48 ∧ 4002409555221667393417789825735904156556882819939007885332058136124031650490837864442687629129015664037894272559787 ≤ deN 48 ((maskL (b :: r)).take 48) from ⟨by have h : r.length + 1 = 96 := hL; simp [mask_length, h], h0⟩)
      (And.intro (zgd_45 b r hL hf)
      (And.intro (zgd_34 b r hL)
      (And.intro (zgd_35 b r hL)
      (And.intro (zgd_36 b r)
      (And.intro (zgd_37 b)
      (And.intro (zgd_36 b r)
      (And.intro (zgd_38 b r)
      (And.intro (zgd_30 b r hL)
      (And.intro (zgd_46 b r hL hf)
      (And.intro (zgd_31 b r hL)
      (And.intro (zgd_47 b r hL hf)
      (And.intro (zgd_31 b r hL)
      (And.intro (zgd_48 b r hL hf)
      (And.intro (zgd_31 b r hL)
      (And.intro (zgd_32 b r hL) trivial))))))))))))))))
theorem zgd_49 (b : UInt8) (r : List UInt8) (hL : (ofL (b :: r)).size = 96) (hf : b.toNat / 32 = 5) : ((flat [.c (.int .u8 ((b.toNat % 32 : Nat) : Int)), .y r]).drop (48 * 1)).take (96 - 48) = (ofL (((maskL (b :: r)).drop 48).take 48)).data.toList.map byteV ∧ 96 - 48 = (ofL (((maskL (b :: r)).drop 48).take 48)).size := part_cells b r 48 48 (((maskL (b :: r)).drop 48).take 48) (rfl) (by have h : r.length + 1 = 96 := hL; omega)
theorem rd96_15r1 (b : UInt8) (r : List UInt8) (hL : (ofL (b :: r)).size = 96) (hf : b.toNat / 32 = 5) (h0 : deN 48 ((maskL (b :: r)).take 48) < 4002409555221667393417789825735904156556882819939007885332058136124031650490837864442687629129015664037894272559787) (h1 : 4002409555221667393417789825735904156556882819939007885332058136124031650490837864442687629129015664037894272559787 ≤ deN 48 (((maskL (b :: r)).drop 48).take 48)) : Gives Tryz.prog 5 [.t (.v (.string (ofL (b :: r)))), .t (.v (.int .i64 96))] (.tp [.ag [.c (.bool false), .c (.bool false), .c (.bool false), .c (.slice none 0 0)], .v (.int .i64 20)]) :=
  fn_gives_at (P := Tryz.prog) (X := rulesY _) (env := [ergetP]) ⟨ergetP_ok, trivial⟩ Tryz.func5 0 (oL [(5, wF), (14, rO 1 b.toNat), (15, { ch := 1, hi := fun _ => 1 }), (18, rO 1 b.toNat), (19, { ch := 1, hi := fun _ => 2 }), (23, rO 1 b.toNat), (24, { ch := 1, hi := fun _ => 5 }), (35, wT), (51, { ch := 0, hi := fun _ => 0, ex := 2, cs := fun _ => [.c (byteV b), .y r] }), (55, rO 9 0), (57, { ch := 1, hi := fun _ => b.toNat % 32 }), (58, rO 9 0), (59, { ch := 0, hi := fun _ => 0, ex := 3 }), (65, { ch := 1, hi := fun _ => 96 }), (71, rO2 11 0 48), (72, { ch := 0, hi := fun _ => 0, ru := 12, av := fun _ => .v (.string (ofL ((maskL (b :: r)).take 48))) }), (73, wO 1), (94, { ch := 1, hi := fun _ => 96 }), (100, rO2 11 48 96), (101, { ch := 0, hi := fun _ => 0, ru := 12, av := fun _ => .v (.string (ofL (((maskL (b :: r)).drop 48).take 48))) }), (102, wO 2)]) (by kernel_rfl) ⟨_, rfl⟩
      (And.intro (show (((maskL (b :: r)).drop 48).take 48).length = 48 ∧ 4002409555221667393417789825735904156556882819939007885332058136124031650490837864442687629129015664037894272559787 ≤ deN 48 (((maskL (b :: r)).drop 48).take 48) from ⟨by have h : r.length + 1 = 96 := hL; simp [mask_length, h], h1⟩)
      (And.intro (zgd_49 b r hL hf)
      (And.intro (zgd_43 b r hL)
      (And.intro (zgd_35 b r hL)
      (And.intro (zgd_44 b r hL h0)
      (And.intro (zgd_45 b r hL hf)
      (And.intro (zgd_34 b r hL)
      (And.intro (zgd_35 b r hL)
      (And.intro (zgd_36 b r)
      (And.intro (zgd_37 b)
      (And.intro (zgd_36 b r)
      (And.intro (zgd_38 b r)
      (And.intro (zgd_30 b r hL)
      (And.intro (zgd_46 b r hL hf)
      (And.intro (zgd_31 b r hL)
      (And.intro (zgd_47 b r hL hf)
      (And.intro (zgd_31 b r hL)
      (And.intro (zgd_48 b r hL hf)
      (And.intro (zgd_31 b r hL)
      (And.intro (zgd_32 b r hL) trivial))))))))))))))))))))
theorem rd96_15k (b : UInt8) (r : List UInt8) (hL : (ofL (b :: r)).size = 96) (hf : b.toNat / 32 = 5) (h0 : deN 48 ((maskL (b :: r)).take 48) < 4002409555221667393417789825735904156556882819939007885332058136124031650490837864442687629129015664037894272559787) (h1 : deN 48 (((maskL (b :: r)).drop 48).take 48) < 4002409555221667393417789825735904156556882819939007885332058136124031650490837864442687629129015664037894272559787) : GivesN Tryz.prog 5 [.t (.v (.string (ofL (b :: r)))), .t (.v (.int .i64 96))] (fun k => .tp [.ag [.c (.bool true), .c (.bool false), .c (.bool true), .sx k 2], .v (.int .i64 0)]) (.gr [.q (ofP (deN 48 ((maskL (b :: r)).take 48))), .q (ofP (deN 48 (((maskL (b :: r)).drop 48).take 48)))] 24 6) :=
  fnN_gives (P := Tryz.prog) (X := rulesY _) (env := [ergetP]) ⟨ergetP_ok, trivial⟩ Tryz.func5 (fun args w => Go.Proofs.enters_of (P := Tryz.prog) Tryz.func5 (by kernel_rfl) rfl args w) 0 (oL [(5, wF), (14, rO 1 b.toNat), (15, { ch := 1, hi := fun _ => 1 }), (18, rO 1 b.toNat), (19, { ch := 1, hi := fun _ => 2 }), (23, rO 1 b.toNat), (24, { ch := 1, hi := fun _ => 5 }), (35, wT), (51, { ch := 0, hi := fun _ => 0, ex := 2, cs := fun _ => [.c (byteV b), .y r] }), (55, rO 9 0), (57, { ch := 1, hi := fun _ => b.toNat % 32 }), (58, rO 9 0), (59, { ch := 0, hi := fun _ => 0, ex := 3 }), (65, { ch := 1, hi := fun _ => 96 }), (71, rO2 11 0 48), (72, { ch := 0, hi := fun _ => 0, ru := 12, av := fun _ => .v (.string (ofL ((maskL (b :: r)).take 48))) }), (73, wO 1), (94, { ch := 1, hi := fun _ => 96 }), (100, rO2 11 48 96), (101, { ch := 0, hi := fun _ => 0, ru := 12, av := fun _ => .v (.string (ofL (((maskL (b :: r)).drop 48).take 48))) }), (102, wO 1), (123, { ch := 1, hi := fun _ => 96 })]) (r0 := .tp [.ag [.c (.bool true), .c (.bool false), .c (.bool true), .sx 115 2], .v (.int .i64 0)]) 115 (by kernel_rfl) rfl
      (And.intro (zgd_35 b r hL)
      (And.intro (show (((maskL (b :: r)).drop 48).take 48).length = 48 ∧ deN 48 (((maskL (b :: r)).drop 48).take 48) < 4002409555221667393417789825735904156556882819939007885332058136124031650490837864442687629129015664037894272559787 from ⟨by have h : r.length + 1 = 96 := hL; simp [mask_length, h], h1⟩)
      (And.intro (zgd_49 b r hL hf)
      (And.intro (zgd_43 b r hL)
      (And.intro (zgd_35 b r hL)
      (And.intro (zgd_44 b r hL h0)
      (And.intro (zgd_45 b r hL hf)
      (And.intro (zgd_34 b r hL)
      (And.intro (zgd_35 b r hL)
      (And.intro (zgd_36 b r)
      (And.intro (zgd_37 b)
      (And.intro (zgd_36 b r)
      (And.intro (zgd_38 b r)
      (And.intro (zgd_30 b r hL)
      (And.intro (zgd_46 b r hL hf)
      (And.intro (zgd_31 b r hL)
      (And.intro (zgd_47 b r hL hf)
      (And.intro (zgd_31 b r hL)
      (And.intro (zgd_48 b r hL hf)
      (And.intro (zgd_31 b r hL)
      (And.intro (zgd_32 b r hL) trivial))))))))))))))))))))) _ mv_head
theorem zgd_50 (b : UInt8) (r : List UInt8) : some (rdI true false (b.toNat % 32) r 0) = some (rdI true false (b.toNat % 32) r 0) := rfl
theorem rd96_16z (b : UInt8) (r : List UInt8) (hL : (ofL (b :: r)).size = 96) (hf : b.toNat / 32 = 6) (hz : ∀ i, i < r.length + 1 → hv (b.toNat % 32) r i = 0) : Gives Tryz.prog 5 [.t (.v (.string (ofL (b :: r)))), .t (.v (.int .i64 96))] (.tp [.ag [.c (.bool true), .c (.bool true), .c (.bool false), .c (.slice none 0 0)], .v (.int .i64 0)]) :=
  fn_gives_at (P := Tryz.prog) (X := rulesY _) (env := [ergetP]) ⟨ergetP_ok, trivial⟩ Tryz.func5 0 (oL [(5, wF), (14, rO 1 b.toNat), (15, { ch := 1, hi := fun _ => 1 }), (18, rO 1 b.toNat), (19, { ch := 1, hi := fun _ => 3 }), (23, rO 1 b.toNat), (24, { ch := 1, hi := fun _ => 6 }), (35, wT), (51, { ch := 0, hi := fun _ => 0, ex := 2, cs := fun _ => [.c (byteV b), .y r] }), (55, rO 9 0), (57, { ch := 1, hi := fun _ => b.toNat % 32 }), (58, rO 9 0), (59, { ch := 0, hi := fun _ => 0, ex := 3 }), (65, lpO { I := rdI true false (b.toNat % 32) r 0, ex := .exit 0, E := rdZ true false, fr := 66 })]) (by kernel_rfl) ⟨_, rfl⟩
      (And.intro (zgd_50 b r)
      (And.intro (rd_zero true false (b.toNat % 32) r (show r.length + 1 ≤ 1000 from by have h : r.length + 1 = 96 := hL; omega) hz)
      (And.intro (zgd_36 b r)
      (And.intro (zgd_37 b)
      (And.intro (zgd_36 b r)
      (And.intro (zgd_38 b r)
      (And.intro (zgd_30 b r hL)
      (And.intro (show IntKind.u8.wrap (((b.toNat : Nat) : Int).tdiv 32) = ((6 : Nat) : Int) from q32 b 6 (by omega))
      (And.intro (zgd_31 b r hL)
      (And.intro (show IntKind.u8.wrap (((b.toNat : Nat) : Int).tdiv 64) = ((3 : Nat) : Int) from q64 b 3 (by omega))
      (And.intro (zgd_31 b r hL)
      (And.intro (show IntKind.u8.wrap (((b.toNat : Nat) : Int).tdiv 128) = ((1 : Nat) : Int) from q128 b 1 (by omega))
      (And.intro (zgd_31 b r hL)
      (And.intro (zgd_32 b r hL) trivial))))))))))))))
theorem rd96_16n (b : UInt8) (r : List UInt8) (hL : (ofL (b :: r)).size = 96) (hf : b.toNat / 32 = 6) (j : Nat) (hj : j < r.length + 1) (hz : hv (b.toNat % 32) r j ≠ 0) : Gives Tryz.prog 5 [.t (.v (.string (ofL (b :: r)))), .t (.v (.int .i64 96))] (.tp [.ag [.c (.bool false), .c (.bool false), .c (.bool false), .c (.slice none 0 0)], .v (.int .i64 33)]) :=
  fn_gives_at (P := Tryz.prog) (X := rulesY _) (env := [ergetP]) ⟨ergetP_ok, trivial⟩ Tryz.func5 0 (oL [(5, wF), (14, rO 1 b.toNat), (15, { ch := 1, hi := fun _ => 1 }), (18, rO 1 b.toNat), (19, { ch := 1, hi := fun _ => 3 }), (23, rO 1 b.toNat), (24, { ch := 1, hi := fun _ => 6 }), (35, wT), (51, { ch := 0, hi := fun _ => 0, ex := 2, cs := fun _ => [.c (byteV b), .y r] }), (55, rO 9 0), (57, { ch := 1, hi := fun _ => b.toNat % 32 }), (58, rO 9 0), (59, { ch := 0, hi := fun _ => 0, ex := 3 }), (65, lpO { I := rdI true false (b.toNat % 32) r 0, ex := .ret, E := rdE, fr := 66 })]) (by kernel_rfl) ⟨_, rfl⟩
      (And.intro (zgd_50 b r)
      (And.intro (rd_no true false (b.toNat % 32) r (show r.length + 1 ≤ 1000 from by have h : r.length + 1 = 96 := hL; omega) j hj hz)
      (And.intro (zgd_36 b r)
      (And.intro (zgd_37 b)
      (And.intro (zgd_36 b r)
      (And.intro (zgd_38 b r)
      (And.intro (zgd_30 b r hL)
      (And.intro (show IntKind.u8.wrap (((b.toNat : Nat) : Int).tdiv 32) = ((6 : Nat) : Int) from q32 b 6 (by omega))
      (And.intro (zgd_31 b r hL)
      (And.intro (show IntKind.u8.wrap (((b.toNat : Nat) : Int).tdiv 64) = ((3 : Nat) : Int) from q64 b 3 (by omega))
      (And.intro (zgd_31 b r hL)
      (And.intro (show IntKind.u8.wrap (((b.toNat : Nat) : Int).tdiv 128) = ((1 : Nat) : Int) from q128 b 1 (by omega))
      (And.intro (zgd_31 b r hL)
      (And.intro (zgd_32 b r hL) trivial))))))))))))))
theorem rd96_17 (b : UInt8) (r : List UInt8) (hL : (ofL (b :: r)).size = 96) (hf : b.toNat / 32 = 7) : Gives Tryz.prog 5 [.t (.v (.string (ofL (b :: r)))), .t (.v (.int .i64 96))] (.tp [.ag [.c (.bool false), .c (.bool false), .c (.bool false), .c (.slice none 0 0)], .v (.int .i64 32)]) :=
  fn_gives_at (P := Tryz.prog) (X := rulesY _) (env := [ergetP]) ⟨ergetP_ok, trivial⟩ Tryz.func5 0 (oL [(5, wF), (14, rO 1 b.toNat), (15, { ch := 1, hi := fun _ => 1 }), (18, rO 1 b.toNat), (19, { ch := 1, hi := fun _ => 3 }), (23, rO 1 b.toNat), (24, { ch := 1, hi := fun _ => 7 }), (35, wT)]) (by kernel_rfl) ⟨_, rfl⟩
      (And.intro (zgd_30 b r hL)
      (And.intro (show IntKind.u8.wrap (((b.toNat : Nat) : Int).tdiv 32) = ((7 : Nat) : Int) from q32 b 7 (by omega))
      (And.intro (zgd_31 b r hL)
      (And.intro (show IntKind.u8.wrap (((b.toNat : Nat) : Int).tdiv 64) = ((3 : Nat) : Int) from q64 b 3 (by omega))
      (And.intro (zgd_31 b r hL)
      (And.intro (show IntKind.u8.wrap (((b.toNat : Nat) : Int).tdiv 128) = ((1 : Nat) : Int) from q128 b 1 (by omega))
      (And.intro (zgd_31 b r hL)
      (And.intro (zgd_32 b r hL) trivial))))))))
theorem zgd_51 (b : UInt8) (r : List UInt8) (hL : (ofL (b :: r)).size = 192) (hf : b.toNat / 32 = 0) : ((flat [.c (.int .u8 ((b.toNat % 32 : Nat) : Int)), .y r]).drop (0 * 1)).take (48 - 0) = (ofL ((maskL (b :: r)).take 48)).data.toList.map byteV ∧ 48 - 0 = (ofL ((maskL (b :: r)).take 48)).size := part_cells b r 0 48 ((maskL (b :: r)).take 48) (by simp only [List.drop_drop, List.drop_zero]) (by have h : r.length + 1 = 192 := hL; omega)
theorem zgd_52 (b : UInt8) (r : List UInt8) (hL : (ofL (b :: r)).size = 192) : (0 : Int) = ((0 : Nat) : Int) ∧ (48 : Int) = ((48 : Nat) : Int) ∧ 0 < 48 ∧ 48 ≤ (ofL (b :: r)).size := ⟨rfl, rfl, by decide, by rw [hL]; decide⟩
theorem zgd_53 (b : UInt8) (r : List UInt8) (hL : (ofL (b :: r)).size = 192) : ((((ofL (b :: r)).size : Nat) : Int)) = ((192 : Nat) : Int) := by rw [hL]
theorem zgd_54 (b : UInt8) (r : List UInt8) (hL : (ofL (b :: r)).size = 192) : ((((ofL (b :: r)).size : Nat) : Int) == 96) = false := by rw [hL]; decide
theorem zgd_55 (b : UInt8) (r : List UInt8) (hL : (ofL (b :: r)).size = 192) (hf : b.toNat / 32 = 0) : IntKind.u8.wrap (((b.toNat : Nat) : Int).tdiv 32) = ((0 : Nat) : Int) := q32 b 0 (by omega)
theorem zgd_56 (b : UInt8) (r : List UInt8) (hL : (ofL (b :: r)).size = 192) : (0 : Int) ≤ 0 ∧ (0 : Int) < (ofL (b :: r)).size ∧ ((ofL (b :: r))[(0 : Int).toNat]?.getD 0).toNat = b.toNat := ⟨by decide, by rw [hL]; decide, by rw [ofL_get]; rfl⟩
theorem zgd_57 (b : UInt8) (r : List UInt8) (hL : (ofL (b :: r)).size = 192) (hf : b.toNat / 32 = 0) : IntKind.u8.wrap (((b.toNat : Nat) : Int).tdiv 64) = ((0 : Nat) : Int) := q64 b 0 (by omega)
theorem zgd_58 (b : UInt8) (r : List UInt8) (hL : (ofL (b :: r)).size = 192) (hf : b.toNat / 32 = 0) : IntKind.u8.wrap (((b.toNat : Nat) : Int).tdiv 128) = ((0 : Nat) : Int) := q128 b 0 (by omega)
theorem zgd_59 (b : UInt8) (r : List UInt8) (hL : (ofL (b :: r)).size = 192) : ((((ofL (b :: r)).size : Nat) : Int) != 192) = false := by rw [hL]; decide
theorem zgd_60 (b : UInt8) (r : List UInt8) (hL : (ofL (b :: r)).size = 192) : ((((ofL (b :: r)).size : Nat) : Int) != 96) = true := by rw [hL]; decide
theorem rd96_00r0 (b : UInt8) (r : List UInt8) (hL : (ofL (b :: r)).size = 192) (hf : b.toNat / 32 = 0) (h0 : 4002409555221667393417789825735904156556882819939007885332058136124031650490837864442687629129015664037894272559787 ≤ deN 48 ((maskL (b :: r)).take 48)) : Gives Tryz.prog 5 [.t (.v (.string (ofL (b :: r)))), .t (.v (.int .i64 96))] (.tp [.ag [.c (.bool false), .c (.bool false), .c (.bool false), .c (.slice none 0 0)], .v (.int .i64 20)]) :=
  fn_gives_at (P := Tryz.prog) (X := rulesY _) (env := [ergetP]) ⟨ergetP_ok, trivial⟩ Tryz.func5 0 (oL [(5, wT), (11, wF), (14, rO 1 b.toNat), (15, { ch := 1, hi := fun _ => 0 }), (18, rO 1 b.toNat), (19, { ch := 1, hi := fun _ => 0 }), (23, rO 1 b.toNat), (24, { ch := 1, hi := fun _ => 0 }), (35, wF), (51, { ch := 0, hi := fun _ => 0, ex := 2, cs := fun _ => [.c (byteV b), .y r] }), (55, rO 9 0), (57, { ch := 1, hi := fun _ => b.toNat % 32 }), (58, rO 9 0), (59, { ch := 0, hi := fun _ => 0, ex := 3 }), (65, { ch := 1, hi := fun _ => 192 }), (71, rO2 11 0 48), (72, { ch := 0, hi := fun _ => 0, ru := 12, av := fun _ => .v (.string (ofL ((maskL (b :: r)).take 48))) }), (73, wO 2)]) (by kernel_rfl) ⟨_, rfl⟩
      (And.intro (show ((maskL (b :: r)).take 48).length = 48 ∧ 4002409555221667393417789825735904156556882819939007885332058136124031650490837864442687629129015664037894272559787 ≤ deN 48 ((maskL (b :: r)).take 48) from ⟨by have h : r.length + 1 = 192 := hL; simp [mask_length, h], h0⟩)
      (And.intro (zgd_51 b r hL hf)
      (And.intro (zgd_52 b r hL)
      (And.intro (zgd_53 b r hL)
      (And.intro (zgd_36 b r)
      (And.intro (zgd_37 b)
      (And.intro (zgd_36 b r)
      (And.intro (zgd_38 b r)
      (And.intro (zgd_54 b r hL)
      (And.intro (zgd_55 b r hL hf)
      (And.intro (zgd_56 b r hL)
      (And.intro (zgd_57 b r hL hf)
      (And.intro (zgd_56 b r hL)
      (And.intro (zgd_58 b r hL hf)
      (And.intro (zgd_56 b r hL)
      (And.intro (zgd_59 b r hL)
      (And.intro (zgd_60 b r hL) trivial)))))))))))))))))
theorem zgd_61 (b : UInt8) (r : List UInt8) (hL : (ofL (b :: r)).size = 192) (hf : b.toNat / 32 = 0) : ((flat [.c (.int .u8 ((b.toNat % 32 : Nat) : Int)), .y r]).drop (48 * 1)).take (96 - 48) = (ofL (((maskL (b :: r)).drop 48).take 48)).data.toList.map byteV ∧ 96 - 48 = (ofL (((maskL (b :: r)).drop 48).take 48)).size := part_cells b r 48 48 (((maskL (b :: r)).drop 48).take 48) (rfl) (by have h : r.length + 1 = 192 := hL; omega)
theorem zgd_62 (b : UInt8) (r : List UInt8) (hL : (ofL (b :: r)).size = 192) : (48 : Int) = ((48 : Nat) : Int) ∧ (96 : Int) = ((96 : Nat) : Int) ∧ 48 < 96 ∧ 96 ≤ (ofL (b :: r)).size := ⟨rfl, rfl, by decide, by rw [hL]; decide⟩
theorem zgd_63 (b : UInt8) (r : List UInt8) (hL : (ofL (b :: r)).size = 192) (h0 : deN 48 ((maskL (b :: r)).take 48) < 4002409555221667393417789825735904156556882819939007885332058136124031650490837864442687629129015664037894272559787) : ((maskL (b :: r)).take 48).length = 48 ∧ deN 48 ((maskL (b :: r)).take 48) < 4002409555221667393417789825735904156556882819939007885332058136124031650490837864442687629129015664037894272559787 := ⟨by have h : r.length + 1 = 192 := hL; simp [mask_length, h], h0⟩
theorem rd96_00r1 (b : UInt8) (r : List UInt8) (hL : (ofL (b :: r)).size = 192) (hf : b.toNat / 32 = 0) (h0 : deN 48 ((maskL (b :: r)).take 48) < 4002409555221667393417789825735904156556882819939007885332058136124031650490837864442687629129015664037894272559787) (h1 : 4002409555221667393417789825735904156556882819939007885332058136124031650490837864442687629129015664037894272559787 ≤ deN 48 (((maskL (b :: r)).drop 48).take 48)) : Gives Tryz.prog 5 [.t (.v (.string (ofL (b :: r)))), .t (.v (.int .i64 96))] (.tp [.ag [.c (.bool false), .c (.bool false), .c (.bool false), .c (.slice none 0 0)], .v (.int .i64 20)]) :=
  fn_gives_at (P := Tryz.prog) (X := rulesY _) (env := [ergetP]) ⟨ergetP_ok, trivial⟩ Tryz.func5 0 (oL [(5, wT), (11, wF), (14, rO 1 b.toNat), (15, { ch := 1, hi := fun _ => 0 }), (18, rO 1 b.toNat), (19, { ch := 1, hi := fun _ => 0 }), (23, rO 1 b.toNat), (24, { ch := 1, hi := fun _ => 0 }), (35, wF), (51, { ch := 0, hi := fun _ => 0, ex := 2, cs := fun _ => [.c (byteV b), .y r] }), (55, rO 9 0), (57, { ch := 1, hi := fun _ => b.toNat % 32 }), (58, rO 9 0), (59, { ch := 0, hi := fun _ => 0, ex := 3 }), (65, { ch := 1, hi := fun _ => 192 }), (71, rO2 11 0 48), (72, { ch := 0, hi := fun _ => 0, ru := 12, av := fun _ => .v (.string (ofL ((maskL (b :: r)).take 48))) }), (73, wO 1), (94, { ch := 1, hi := fun _ => 192 }), (100, rO2 11 48 96), (101, { ch := 0, hi := fun _ => 0, ru := 12, av := fun _ => .v (.string (ofL (((maskL (b :: r)).drop 48).take 48))) }), (102, wO 2)]) (by kernel_rfl) ⟨_, rfl⟩
      (And.intro (show (((maskL (b :: r)).drop 48).take 48).length = 48 ∧ 4002409555221667393417789825735904156556882819939007885332058136124031650490837864442687629129015664037894272559787 ≤ deN 48 (((maskL (b :: r)).drop 48).take 48) from ⟨by have h : r.length + 1 = 192 := hL; simp [mask_length, h], h1⟩)
      (And.intro (zgd_61 b r hL hf)
      (And.intro (zgd_62 b r hL)
      (And.intro (zgd_53 b r hL)
      (And.intro (zgd_63 b r hL h0)
      (And.intro (zgd_51 b r hL hf)
      (And.intro (zgd_52 b r hL)
      (And.intro (zgd_53 b r hL)
      (And.intro (zgd_36 b r)
      (And.intro (zgd_37 b)
      (And.intro (zgd_36 b r)
      (And.intro (zgd_38 b r)
      (And.intro (zgd_54 b r hL)
      (And.intro (zgd_55 b r hL hf)
      (And.intro (zgd_56 b r hL)
      (And.intro (zgd_57 b r hL hf)
      (And.intro (zgd_56 b r hL)
      (And.intro (zgd_58 b r hL hf)
      (And.intro (zgd_56 b r hL)
      (And.intro (zgd_59 b r hL)
      (And.intro (zgd_60 b r hL) trivial)))))))))))))))))))))
theorem zgd_64 (b : UInt8) (r : List UInt8) (hL : (ofL (b :: r)).size = 192) (hf : b.toNat / 32 = 0) : ((flat [.c (.int .u8 ((b.toNat % 32 : Nat) : Int)), .y r]).drop (96 * 1)).take (144 - 96) = (ofL ((((maskL (b :: r)).drop 48).drop 48).take 48)).data.toList.map byteV ∧ 144 - 96 = (ofL ((((maskL (b :: r)).drop 48).drop 48).take 48)).size := part_cells b r 96 48 ((((maskL (b :: r)).drop 48).drop 48).take 48) (by simp only [List.drop_drop, List.drop_zero]) (by have h : r.length + 1 = 192 := hL; omega)
theorem zgd_65 (b : UInt8) (r : List UInt8) (hL : (ofL (b :: r)).size = 192) : (96 : Int) = ((96 : Nat) : Int) ∧ (144 : Int) = ((144 : Nat) : Int) ∧ 96 < 144 ∧ 144 ≤ (ofL (b :: r)).size := ⟨rfl, rfl, by decide, by rw [hL]; decide⟩
theorem zgd_66 (b : UInt8) (r : List UInt8) (hL : (ofL (b :: r)).size = 192) (h1 : deN 48 (((maskL (b :: r)).drop 48).take 48) < 4002409555221667393417789825735904156556882819939007885332058136124031650490837864442687629129015664037894272559787) : (((maskL (b :: r)).drop 48).take 48).length = 48 ∧ deN 48 (((maskL (b :: r)).drop 48).take 48) < 4002409555221667393417789825735904156556882819939007885332058136124031650490837864442687629129015664037894272559787 := ⟨by have h : r.length + 1 = 192 := hL; simp [mask_length, h], h1⟩
theorem rd96_00r2 (b : UInt8) (r : List UInt8) (hL : (ofL (b :: r)).size = 192) (hf : b.toNat / 32 = 0) (h0 : deN 48 ((maskL (b :: r)).take 48) < 4002409555221667393417789825735904156556882819939007885332058136124031650490837864442687629129015664037894272559787) (h1 : deN 48 (((maskL (b :: r)).drop 48).take 48) < 4002409555221667393417789825735904156556882819939007885332058136124031650490837864442687629129015664037894272559787) (h2 : 4002409555221667393417789825735904156556882819939007885332058136124031650490837864442687629129015664037894272559787 ≤ deN 48 ((((maskL (b :: r)).drop 48).drop 48).take 48)) : Gives Tryz.prog 5 [.t (.v (.string (ofL (b :: r)))), .t (.v (.int .i64 96))] (.tp [.ag [.c (.bool false), .c (.bool false), .c (.bool false), .c (.slice none 0 0)], .v (.int .i64 20)]) :=
  fn_gives_at (P := Tryz.prog) (X := rulesY _) (env := [ergetP]) ⟨ergetP_ok, trivial⟩ Tryz.func5 0 (oL [(5, wT), (11, wF), (14, rO 1 b.toNat), (15, { ch := 1, hi := fun _ => 0 }), (18, rO 1 b.toNat), (19, { ch := 1, hi := fun _ => 0 }), (23, rO 1 b.toNat), (24, { ch := 1, hi := fun _ => 0 }), (35, wF), (51, { ch := 0, hi := fun _ => 0, ex := 2, cs := fun _ => [.c (byteV b), .y r] }), (55, rO 9 0), (57, { ch := 1, hi := fun _ => b.toNat % 32 }), (58, rO 9 0), (59, { ch := 0, hi := fun _ => 0, ex := 3 }), (65, { ch := 1, hi := fun _ => 192 }), (71, rO2 11 0 48), (72, { ch := 0, hi := fun _ => 0, ru := 12, av := fun _ => .v (.string (ofL ((maskL (b :: r)).take 48))) }), (73, wO 1), (94, { ch := 1, hi := fun _ => 192 }), (100, rO2 11 48 96), (101, { ch := 0, hi := fun _ => 0, ru := 12, av := fun _ => .v (.string (ofL (((maskL (b :: r)).drop 48).take 48))) }), (102, wO 1), (123, { ch := 1, hi := fun _ => 192 }), (129, rO2 11 96 144), (130, { ch := 0, hi := fun _ => 0, ru := 12, av := fun _ => .v (.string (ofL ((((maskL (b :: r)).drop 48).drop 48).take 48))) }), (131, wO 2)]) (by kernel_rfl) ⟨_, rfl⟩
      (And.intro (show ((((maskL (b :: r)).drop 48).drop 48).take 48).length = 48 ∧ 4002409555221667393417789825735904156556882819939007885332058136124031650490837864442687629129015664037894272559787 ≤ deN 48 ((((maskL (b :: r)).drop 48).drop 48).take 48) from ⟨by have h : r.length + 1 = 192 := hL; simp [mask_length, h], h2⟩)
      (And.intro (zgd_64 b r hL hf)
      (And.intro (zgd_65 b r hL)
      (And.intro (zgd_53 b r hL)
      (And.intro (zgd_66 b r hL h1)
      (And.intro (zgd_61 b r hL hf)
      (And.intro (zgd_62 b r hL)
      (And.intro (zgd_53 b r hL)
      (And.intro (zgd_63 b r hL h0)
      (And.intro (zgd_51 b r hL hf)
      (And.intro (zgd_52 b r hL)
      (And.intro (zgd_53 b r hL)
      (And.intro (zgd_36 b r)
      (And.intro (zgd_37 b)
      (And.intro (zgd_36 b r)
      (And.intro (zgd_38 b r)
      (And.intro (zgd_54 b r hL)
      (And.intro (zgd_55 b r hL hf)
      (And.intro (zgd_56 b r hL)
      (And.intro (zgd_57 b r hL hf)
      (And.intro (zgd_56 b r hL)
      (And.intro (zgd_58 b r hL hf)
      (And.intro (zgd_56 b r hL)
      (And.intro (zgd_59 b r hL)
      (And.intro (zgd_60 b r hL) trivial)))))))))))))))))))))))))
theorem zgd_67 (b : UInt8) (r : List UInt8) (hL : (ofL (b :: r)).size = 192) (hf : b.toNat / 32 = 0) : ((flat [.c (.int .u8 ((b.toNat % 32 : Nat) : Int)), .y r]).drop (144 * 1)).take (192 - 144) = (ofL (((((maskL (b :: r)).drop 48).drop 48).drop 48).take 48)).data.toList.map byteV ∧ 192 - 144 = (ofL (((((maskL (b :: r)).drop 48).drop 48).drop 48).take 48)).size := part_cells b r 144 48 (((((maskL (b :: r)).drop 48).drop 48).drop 48).take 48) (by simp only [List.drop_drop, List.drop_zero]) (by have h : r.length + 1 = 192 := hL; omega)
theorem zgd_68 (b : UInt8) (r : List UInt8) (hL : (ofL (b :: r)).size = 192) : (144 : Int) = ((144 : Nat) : Int) ∧ (192 : Int) = ((192 : Nat) : Int) ∧ 144 < 192 ∧ 192 ≤ (ofL (b :: r)).size := ⟨rfl, rfl, by decide, by rw [hL]; decide⟩
theorem zgd_69 (b : UInt8) (r : List UInt8) (hL : (ofL (b :: r)).size = 192) (h2 : deN 48 ((((maskL (b :: r)).drop 48).drop 48).take 48) < 4002409555221667393417789825735904156556882819939007885332058136124031650490837864442687629129015664037894272559787) : ((((maskL (b :: r)).drop 48).drop 48).take 48).length = 48 ∧ deN 48 ((((maskL (b :: r)).drop 48).drop 48).take 48) < 4002409555221667393417789825735904156556882819939007885332058136124031650490837864442687629129015664037894272559787 := ⟨by have h : r.length + 1 = 192 := hL; simp [mask_length, h], h2⟩
theorem rd96_00r3 (b : UInt8) (r : List UInt8) (hL : (ofL (b :: r)).size = 192) (hf : b.toNat / 32 = 0) (h0 : deN 48 ((maskL (b :: r)).take 48) < 4002409555221667393417789825735904156556882819939007885332058136124031650490837864442687629129015664037894272559787) (h1 : deN 48 (((maskL (b :: r)).drop 48).take 48) < 4002409555221667393417789825735904156556882819939007885332058136124031650490837864442687629129015664037894272559787) (h2 : deN 48 ((((maskL (b :: r)).drop 48).drop 48).take 48) < 4002409555221667393417789825735904156556882819939007885332058136124031650490837864442687629129015664037894272559787) (h3 : 4002409555221667393417789825735904156556882819939007885332058136124031650490837864442687629129015664037894272559787 ≤ deN 48 (((((maskL (b :: r)).drop 48).drop 48).drop 48).take 48)) : Gives Tryz.prog 5 [.t (.v (.string (ofL (b :: r)))), .t (.v (.int .i64 96))] (.tp [.ag [.c (.bool false), .c (.bool false), .c (.bool false), .c (.slice none 0 0)], .v (.int .i64 20)]) :=
  fn_gives_at (P := Tryz.prog) (X := rulesY _) (env := [ergetP]) ⟨ergetP_ok, trivial⟩ Tryz.func5 0 (oL [(5, wT), (11, wF), (14, rO 1 b.toNat), (15, { ch := 1, hi := fun _ => 0 }), (18, rO 1 b.toNat), (19, { ch := 1, hi := fun _ => 0 }), (23, rO 1 b.toNat), (24, { ch := 1, hi := fun _ => 0 }), (35, wF), (51, { ch := 0, hi := fun _ => 0, ex := 2, cs := fun _ => [.c (byteV b), .y r] }), (55, rO 9 0), (57, { ch := 1, hi := fun _ => b.toNat % 32 }), (58, rO 9 0), (59, { ch := 0, hi := fun _ => 0, ex := 3 }), (65, { ch := 1, hi := fun _ => 192 }), (71, rO2 11 0 48), (72, { ch := 0, hi := fun _ => 0, ru := 12, av := fun _ => .v (.string (ofL ((maskL (b :: r)).take 48))) }), (73, wO 1), (94, { ch := 1, hi := fun _ => 192 }), (100, rO2 11 48 96), (101, { ch := 0, hi := fun _ => 0, ru := 12, av := fun _ => .v (.string (ofL (((maskL (b :: r)).drop 48).take 48))) }), (102, wO 1), (123, { ch := 1, hi := fun _ => 192 }), (129, rO2 11 96 144), (130, { ch := 0, hi := fun _ => 0, ru := 12, av := fun _ => .v (.string (ofL ((((maskL (b :: r)).drop 48).drop 48).take 48))) }), (131, wO 1), (152, { ch := 1, hi := fun _ => 192 }), (158, rO2 11 144 192), (159, { ch := 0, hi := fun _ => 0, ru := 12, av := fun _ => .v (.string (ofL (((((maskL (b :: r)).drop 48).drop 48).drop 48).take 48))) }), (160, wO 2)]) (by kernel_rfl) ⟨_, rfl⟩
      (And.intro (show (((((maskL (b :: r)).drop 48).drop 48).drop 48).take 48).length = 48 ∧ 4002409555221667393417789825735904156556882819939007885332058136124031650490837864442687629129015664037894272559787 ≤ deN 48 (((((maskL (b :: r)).drop 48).drop 48).drop 48).take 48) from ⟨by have h : r.length + 1 = 192 := hL; simp [mask_length, h], h3⟩)
      (And.intro (zgd_67 b r hL hf)
      (And.intro (zgd_68 b r hL)
      (And.intro (zgd_53 b r hL)
      (And.intro (zgd_69 b r hL h2)
      (And.intro (zgd_64 b r hL hf)
      (And.intro (zgd_65 b r hL)
      (And.intro (zgd_53 b r hL)
      (And.intro (zgd_66 b r hL h1)
      (And.intro (zgd_61 b r hL hf)
      (And.intro (zgd_62 b r hL)
      (And.intro (zgd_53 b r hL)
      (And.intro (zgd_63 b r hL h0)
      (And.intro (zgd_51 b r hL hf)
      (And.intro (zgd_52 b r hL)
      (And.intro (zgd_53 b r hL)
      (And.intro (zgd_36 b r)
      (And.intro (zgd_37 b)
      (And.intro (zgd_36 b r)
      (And.intro (zgd_38 b r)
      (And.intro (zgd_54 b r hL)
      (And.intro (zgd_55 b r hL hf)
      (And.intro (zgd_56 b r hL)
      (And.intro (zgd_57 b r hL hf)
      (And.intro (zgd_56 b r hL)
      (And.intro (zgd_58 b r hL hf)
      (And.intro (zgd_56 b r hL)
      (And.intro (zgd_59 b r hL)
      (And.intro (zgd_60 b r hL) trivial)))))))))))))))))))))))))))))
theorem rd96_00k (b : UInt8) (r : List UInt8) (hL : (ofL (b :: r)).size = 192) (hf : b.toNat / 32 = 0) (h0 : deN 48 ((maskL (b :: r)).take 48) < 4002409555221667393417789825735904156556882819939007885332058136124031650490837864442687629129015664037894272559787) (h1 : deN 48 (((maskL (b :: r)).drop 48).take 48) < 4002409555221667393417789825735904156556882819939007885332058136124031650490837864442687629129015664037894272559787) (h2 : deN 48 ((((maskL (b :: r)).drop 48).drop 48).take 48) < 4002409555221667393417789825735904156556882819939007885332058136124031650490837864442687629129015664037894272559787) (h3 : deN 48 (((((maskL (b :: r)).drop 48).drop 48).drop 48).take 48) < 4002409555221667393417789825735904156556882819939007885332058136124031650490837864442687629129015664037894272559787) : GivesN Tryz.prog 5 [.t (.v (.string (ofL (b :: r)))), .t (.v (.int .i64 96))] (fun k => .tp [.ag [.c (.bool false), .c (.bool false), .c (.bool false), .sx k 4], .v (.int .i64 0)]) (.gr [.q (ofP (deN 48 ((maskL (b :: r)).take 48))), .q (ofP (deN 48 (((maskL (b :: r)).drop 48).take 48))), .q (ofP (deN 48 ((((maskL (b :: r)).drop 48).drop 48).take 48))), .q (ofP (deN 48 (((((maskL (b :: r)).drop 48).drop 48).drop 48).take 48)))] 24 6) :=
  fnN_gives (P := Tryz.prog) (X := rulesY _) (env := [ergetP]) ⟨ergetP_ok, trivial⟩ Tryz.func5 (fun args w => Go.Proofs.enters_of (P := Tryz.prog) Tryz.func5 (by kernel_rfl) rfl args w) 0 (oL [(5, wT), (11, wF), (14, rO 1 b.toNat), (15, { ch := 1, hi := fun _ => 0 }), (18, rO 1 b.toNat), (19, { ch := 1, hi := fun _ => 0 }), (23, rO 1 b.toNat), (24, { ch := 1, hi := fun _ => 0 }), (35, wF), (51, { ch := 0, hi := fun _ => 0, ex := 2, cs := fun _ => [.c (byteV b), .y r] }), (55, rO 9 0), (57, { ch := 1, hi := fun _ => b.toNat % 32 }), (58, rO 9 0), (59, { ch := 0, hi := fun _ => 0, ex := 3 }), (65, { ch := 1, hi := fun _ => 192 }), (71, rO2 11 0 48), (72, { ch := 0, hi := fun _ => 0, ru := 12, av := fun _ => .v (.string (ofL ((maskL (b :: r)).take 48))) }), (73, wO 1), (94, { ch := 1, hi := fun _ => 192 }), (100, rO2 11 48 96), (101, { ch := 0, hi := fun _ => 0, ru := 12, av := fun _ => .v (.string (ofL (((maskL (b :: r)).drop 48).take 48))) }), (102, wO 1), (123, { ch := 1, hi := fun _ => 192 }), (129, rO2 11 96 144), (130, { ch := 0, hi := fun _ => 0, ru := 12, av := fun _ => .v (.string (ofL ((((maskL (b :: r)).drop 48).drop 48).take 48))) }), (131, wO 1), (152, { ch := 1, hi := fun _ => 192 }), (158, rO2 11 144 192), (159, { ch := 0, hi := fun _ => 0, ru := 12, av := fun _ => .v (.string (ofL (((((maskL (b :: r)).drop 48).drop 48).drop 48).take 48))) }), (160, wO 1), (181, { ch := 1, hi := fun _ => 192 })]) (r0 := .tp [.ag [.c (.bool false), .c (.bool false), .c (.bool false), .sx 173 4], .v (.int .i64 0)]) 173 (by kernel_rfl) rfl
      (And.intro (zgd_53 b r hL)
      (And.intro (show (((((maskL (b :: r)).drop 48).drop 48).drop 48).take 48).length = 48 ∧ deN 48 (((((maskL (b :: r)).drop 48).drop 48).drop 48).take 48) < 4002409555221667393417789825735904156556882819939007885332058136124031650490837864442687629129015664037894272559787 from ⟨by have h : r.length + 1 = 192 := hL; simp [mask_length, h], h3⟩)
      (And.intro (zgd_67 b r hL hf)
      (And.intro (zgd_68 b r hL)
      (And.intro (zgd_53 b r hL)
      (And.intro (zgd_69 b r hL h2)
      (And.intro (zgd_64 b r hL hf)
      (And.intro (zgd_65 b r hL)
      (And.intro (zgd_53 b r hL)
      (And.intro (zgd_66 b r hL h1)
      (And.intro (zgd_61 b r hL hf)
      (And.intro (zgd_62 b r hL)
      (And.intro (zgd_53 b r hL)
      (And.intro (zgd_63 b r hL h0)
      (And.intro (zgd_51 b r hL hf)
      (And.intro (zgd_52 b r hL)
      (And.intro (zgd_53 b r hL)
      (And.intro (zgd_36 b r)
      (And.intro (zgd_37 b)
      (And.intro (zgd_36 b r)
      (And.intro (zgd_38 b r)
      (And.intro (zgd_54 b r hL)
      (And.intro (zgd_55 b r hL hf)
      (And.intro (zgd_56 b r hL)
      (And.intro (zgd_57 b r hL hf)
      (And.intro (zgd_56 b r hL)
      (And.intro (zgd_58 b r hL hf)
      (And.intro (zgd_56 b r hL)
      (And.intro (zgd_59 b r hL)
      (And.intro (zgd_60 b r hL) trivial)))))))))))))))))))))))))))))) _ mv_head
theorem rd96_01 (b : UInt8) (r : List UInt8) (hL : (ofL (b :: r)).size = 192) (hf : b.toNat / 32 = 1) : Gives Tryz.prog 5 [.t (.v (.string (ofL (b :: r)))), .t (.v (.int .i64 96))] (.tp [.ag [.c (.bool false), .c (.bool false), .c (.bool false), .c (.slice none 0 0)], .v (.int .i64 32)]) :=
  fn_gives_at (P := Tryz.prog) (X := rulesY _) (env := [ergetP]) ⟨ergetP_ok, trivial⟩ Tryz.func5 0 (oL [(5, wT), (11, wF), (14, rO 1 b.toNat), (15, { ch := 1, hi := fun _ => 0 }), (18, rO 1 b.toNat), (19, { ch := 1, hi := fun _ => 0 }), (23, rO 1 b.toNat), (24, { ch := 1, hi := fun _ => 1 }), (35, wF)]) (by kernel_rfl) ⟨_, rfl⟩
      (And.intro (zgd_54 b r hL)
      (And.intro (show IntKind.u8.wrap (((b.toNat : Nat) : Int).tdiv 32) = ((1 : Nat) : Int) from q32 b 1 (by omega))
      (And.intro (zgd_56 b r hL)
      (And.intro (show IntKind.u8.wrap (((b.toNat : Nat) : Int).tdiv 64) = ((0 : Nat) : Int) from q64 b 0 (by omega))
      (And.intro (zgd_56 b r hL)
      (And.intro (show IntKind.u8.wrap (((b.toNat : Nat) : Int).tdiv 128) = ((0 : Nat) : Int) from q128 b 0 (by omega))
      (And.intro (zgd_56 b r hL)
      (And.intro (zgd_59 b r hL)
      (And.intro (zgd_60 b r hL) trivial)))))))))
theorem zgd_70 (b : UInt8) (r : List UInt8) : some (rdI false false (b.toNat % 32) r 0) = some (rdI false false (b.toNat % 32) r 0) := rfl
theorem rd96_02z (b : UInt8) (r : List UInt8) (hL : (ofL (b :: r)).size = 192) (hf : b.toNat / 32 = 2) (hz : ∀ i, i < r.length + 1 → hv (b.toNat % 32) r i = 0) : Gives Tryz.prog 5 [.t (.v (.string (ofL (b :: r)))), .t (.v (.int .i64 96))] (.tp [.ag [.c (.bool false), .c (.bool true), .c (.bool false), .c (.slice none 0 0)], .v (.int .i64 0)]) :=
  fn_gives_at (P := Tryz.prog) (X := rulesY _) (env := [ergetP]) ⟨ergetP_ok, trivial⟩ Tryz.func5 0 (oL [(5, wT), (11, wF), (14, rO 1 b.toNat), (15, { ch := 1, hi := fun _ => 0 }), (18, rO 1 b.toNat), (19, { ch := 1, hi := fun _ => 1 }), (23, rO 1 b.toNat), (24, { ch := 1, hi := fun _ => 2 }), (35, wF), (51, { ch := 0, hi := fun _ => 0, ex := 2, cs := fun _ => [.c (byteV b), .y r] }), (55, rO 9 0), (57, { ch := 1, hi := fun _ => b.toNat % 32 }), (58, rO 9 0), (59, { ch := 0, hi := fun _ => 0, ex := 3 }), (65, lpO { I := rdI false false (b.toNat % 32) r 0, ex := .exit 0, E := rdZ false false, fr := 66 })]) (by kernel_rfl) ⟨_, rfl⟩
      (And.intro (zgd_70 b r)
      (And.intro (rd_zero false false (b.toNat % 32) r (show r.length + 1 ≤ 1000 from by have h : r.length + 1 = 192 := hL; omega) hz)
      (And.intro (zgd_36 b r)
      (And.intro (zgd_37 b)
      (And.intro (zgd_36 b r)
      (And.intro (zgd_38 b r)
      (And.intro (zgd_54 b r hL)
      (And.intro (show IntKind.u8.wrap (((b.toNat : Nat) : Int).tdiv 32) = ((2 : Nat) : Int) from q32 b 2 (by omega))
      (And.intro (zgd_56 b r hL)
      (And.intro (show IntKind.u8.wrap (((b.toNat : Nat) : Int).tdiv 64) = ((1 : Nat) : Int) from q64 b 1 (by omega))
      (And.intro (zgd_56 b r hL)
      (And.intro (show IntKind.u8.wrap (((b.toNat : Nat) : Int).tdiv 128) = ((0 : Nat) : Int) from q128 b 0 (by omega))
      (And.intro (zgd_56 b r hL)
      (And.intro (zgd_59 b r hL)
      (And.intro (zgd_60 b r hL) trivial)))))))))))))))
theorem rd96_02n (b : UInt8) (r : List UInt8) (hL : (ofL (b :: r)).size = 192) (hf : b.toNat / 32 = 2) (j : Nat) (hj : j < r.length + 1) (hz : hv (b.toNat % 32) r j ≠ 0) : Gives Tryz.prog 5 [.t (.v (.string (ofL (b :: r)))), .t (.v (.int .i64 96))] (.tp [.ag [.c (.bool false), .c (.bool false), .c (.bool false), .c (.slice none 0 0)], .v (.int .i64 33)]) :=
  fn_gives_at (P := Tryz.prog) (X := rulesY _) (env := [ergetP]) ⟨ergetP_ok, trivial⟩ Tryz.func5 0 (oL [(5, wT), (11, wF), (14, rO 1 b.toNat), (15, { ch := 1, hi := fun _ => 0 }), (18, rO 1 b.toNat), (19, { ch := 1, hi := fun _ => 1 }), (23, rO 1 b.toNat), (24, { ch := 1, hi := fun _ => 2 }), (35, wF), (51, { ch := 0, hi := fun _ => 0, ex := 2, cs := fun _ => [.c (byteV b), .y r] }), (55, rO 9 0), (57, { ch := 1, hi := fun _ => b.toNat % 32 }), (58, rO 9 0), (59, { ch := 0, hi := fun _ => 0, ex := 3 }), (65, lpO { I := rdI false false (b.toNat % 32) r 0, ex := .ret, E := rdE, fr := 66 })]) (by kernel_rfl) ⟨_, rfl⟩
      (And.intro (zgd_70 b r)
      (And.intro (rd_no false false (b.toNat % 32) r (show r.length + 1 ≤ 1000 from by have h : r.length + 1 = 192 := hL; omega) j hj hz)
      (And.intro (zgd_36 b r)
      (And.intro (zgd_37 b)
      (And.intro (zgd_36 b r)
      (And.intro (zgd_38 b r)
      (And.intro (zgd_54 b r hL)
      (And.intro (show IntKind.u8.wrap (((b.toNat : Nat) : Int).tdiv 32) = ((2 : Nat) : Int) from q32 b 2 (by omega))
      (And.intro (zgd_56 b r hL)
      (And.intro (show IntKind.u8.wrap (((b.toNat : Nat) : Int).tdiv 64) = ((1 : Nat) : Int) from q64 b 1 (by omega))
      (And.intro (zgd_56 b r hL)
      (And.intro (show IntKind.u8.wrap (((b.toNat : Nat) : Int).tdiv 128) = ((0 : Nat) : Int) from q128 b 0 (by omega))
      (And.intro (zgd_56 b r hL)
      (And.intro (zgd_59 b r hL)
      (And.intro (zgd_60 b r hL) trivial)))))))))))))))
theorem rd96_03 (b : UInt8) (r : List UInt8) (hL : (ofL (b :: r)).size = 192) (hf : b.toNat / 32 = 3) : Gives Tryz.prog 5 [.t (.v (.string (ofL (b :: r)))), .t (.v (.int .i64 96))] (.tp [.ag [.c (.bool false), .c (.bool false), .c (.bool false), .c (.slice none 0 0)], .v (.int .i64 32)]) :=
  fn_gives_at (P := Tryz.prog) (X := rulesY _) (env := [ergetP]) ⟨ergetP_ok, trivial⟩ Tryz.func5 0 (oL [(5, wT), (11, wF), (14, rO 1 b.toNat), (15, { ch := 1, hi := fun _ => 0 }), (18, rO 1 b.toNat), (19, { ch := 1, hi := fun _ => 1 }), (23, rO 1 b.toNat), (24, { ch := 1, hi := fun _ => 3 }), (35, wF)]) (by kernel_rfl) ⟨_, rfl⟩
      (And.intro (zgd_54 b r hL)
      (And.intro (show IntKind.u8.wrap (((b.toNat : Nat) : Int).tdiv 32) = ((3 : Nat) : Int) from q32 b 3 (by omega))
      (And.intro (zgd_56 b r hL)
      (And.intro (show IntKind.u8.wrap (((b.toNat : Nat) : Int).tdiv 64) = ((1 : Nat) : Int) from q64 b 1 (by omega))
      (And.intro (zgd_56 b r hL)
      (And.intro (show IntKind.u8.wrap (((b.toNat : Nat) : Int).tdiv 128) = ((0 : Nat) : Int) from q128 b 0 (by omega))
      (And.intro (zgd_56 b r hL)
      (And.intro (zgd_59 b r hL)
      (And.intro (zgd_60 b r hL) trivial)))))))))
theorem rd96_04 (b : UInt8) (r : List UInt8) (hL : (ofL (b :: r)).size = 192) (hf : b.toNat / 32 = 4) : Gives Tryz.prog 5 [.t (.v (.string (ofL (b :: r)))), .t (.v (.int .i64 96))] (.tp [.ag [.c (.bool false), .c (.bool false), .c (.bool false), .c (.slice none 0 0)], .v (.int .i64 32)]) :=
  fn_gives_at (P := Tryz.prog) (X := rulesY _) (env := [ergetP]) ⟨ergetP_ok, trivial⟩ Tryz.func5 0 (oL [(5, wT), (11, wF), (14, rO 1 b.toNat), (15, { ch := 1, hi := fun _ => 1 }), (18, rO 1 b.toNat), (19, { ch := 1, hi := fun _ => 2 }), (23, rO 1 b.toNat), (24, { ch := 1, hi := fun _ => 4 }), (35, wF)]) (by kernel_rfl) ⟨_, rfl⟩
      (And.intro (zgd_54 b r hL)
      (And.intro (show IntKind.u8.wrap (((b.toNat : Nat) : Int).tdiv 32) = ((4 : Nat) : Int) from q32 b 4 (by omega))
      (And.intro (zgd_56 b r hL)
      (And.intro (show IntKind.u8.wrap (((b.toNat : Nat) : Int).tdiv 64) = ((2 : Nat) : Int) from q64 b 2 (by omega))
      (And.intro (zgd_56 b r hL)
      (And.intro (show IntKind.u8.wrap (((b.toNat : Nat) : Int).tdiv 128) = ((1 : Nat) : Int) from q128 b 1 (by omega))
      (And.intro (zgd_56 b r hL)
      (And.intro (zgd_59 b r hL)
      (And.intro (zgd_60 b r hL) trivial)))))))))
theorem rd96_05 (b : UInt8) (r : List UInt8) (hL : (ofL (b :: r)).size = 192) (hf : b.toNat / 32 = 5) : Gives Tryz.prog 5 [.t (.v (.string (ofL (b :: r)))), .t (.v (.int .i64 96))] (.tp [.ag [.c (.bool false), .c (.bool false), .c (.bool false), .c (.slice none 0 0)], .v (.int .i64 32)]) :=
  fn_gives_at (P := Tryz.prog) (X := rulesY _) (env := [ergetP]) ⟨ergetP_ok, trivial⟩ Tryz.func5 0 (oL [(5, wT), (11, wF), (14, rO 1 b.toNat), (15, { ch := 1, hi := fun _ => 1 }), (18, rO 1 b.toNat), (19, { ch := 1, hi := fun _ => 2 }), (23, rO 1 b.toNat), (24, { ch := 1, hi := fun _ => 5 }), (35, wF)]) (by kernel_rfl) ⟨_, rfl⟩
      (And.intro (zgd_54 b r hL)
      (And.intro (show IntKind.u8.wrap (((b.toNat : Nat) : Int).tdiv 32) = ((5 : Nat) : Int) from q32 b 5 (by omega))
      (And.intro (zgd_56 b r hL)
      (And.intro (show IntKind.u8.wrap (((b.toNat : Nat) : Int).tdiv 64) = ((2 : Nat) : Int) from q64 b 2 (by omega))
      (And.intro (zgd_56 b r hL)
      (And.intro (show IntKind.u8.wrap (((b.toNat : Nat) : Int).tdiv 128) = ((1 : Nat) : Int) from q128 b 1 (by omega))
      (And.intro (zgd_56 b r hL)
      (And.intro (zgd_59 b r hL)
      (And.intro (zgd_60 b r hL) trivial)))))))))
theorem rd96_06 (b : UInt8) (r : List UInt8) (hL : (ofL (b :: r)).size = 192) (hf : b.toNat / 32 = 6) : Gives Tryz.prog 5 [.t (.v (.string (ofL (b :: r)))), .t (.v (.int .i64 96))] (.tp [.ag [.c (.bool false), .c (.bool false), .c (.bool false), .c (.slice none 0 0)], .v (.int .i64 32)]) :=
  fn_gives_at (P := Tryz.prog) (X := rulesY _) (env := [ergetP]) ⟨ergetP_ok, trivial⟩ Tryz.func5 0 (oL [(5, wT), (11, wF), (14, rO 1 b.toNat), (15, { ch := 1, hi := fun _ => 1 }), (18, rO 1 b.toNat), (19, { ch := 1, hi := fun _ => 3 }), (23, rO 1 b.toNat), (24, { ch := 1, hi := fun _ => 6 }), (35, wF)]) (by kernel_rfl) ⟨_, rfl⟩
      (And.intro (zgd_54 b r hL)
      (And.intro (show IntKind.u8.wrap (((b.toNat : Nat) : Int).tdiv 32) = ((6 : Nat) : Int) from q32 b 6 (by omega))
      (And.intro (zgd_56 b r hL)
      (And.intro (show IntKind.u8.wrap (((b.toNat : Nat) : Int).tdiv 64) = ((3 : Nat) : Int) from q64 b 3 (by omega))
      (And.intro (zgd_56 b r hL)
      (And.intro (show IntKind.u8.wrap (((b.toNat : Nat) : Int).tdiv 128) = ((1 : Nat) : Int) from q128 b 1 (by omega))
      (And.intro (zgd_56 b r hL)
      (And.intro (zgd_59 b r hL)
      (And.intro (zgd_60 b r hL) trivial)))))))))
theorem rd96_07 (b : UInt8) (r : List UInt8) (hL : (ofL (b :: r)).size = 192) (hf : b.toNat / 32 = 7) : Gives Tryz.prog 5 [.t (.v (.string (ofL (b :: r)))), .t (.v (.int .i64 96))] (.tp [.ag [.c (.bool false), .c (.bool false), .c (.bool false), .c (.slice none 0 0)], .v (.int .i64 32)]) :=
  fn_gives_at (P := Tryz.prog) (X := rulesY _) (env := [ergetP]) ⟨ergetP_ok, trivial⟩ Tryz.func5 0 (oL [(5, wT), (11, wF), (14, rO 1 b.toNat), (15, { ch := 1, hi := fun _ => 1 }), (18, rO 1 b.toNat), (19, { ch := 1, hi := fun _ => 3 }), (23, rO 1 b.toNat), (24, { ch := 1, hi := fun _ => 7 }), (35, wF)]) (by kernel_rfl) ⟨_, rfl⟩
      (And.intro (zgd_54 b r hL)
      (And.intro (show IntKind.u8.wrap (((b.toNat : Nat) : Int).tdiv 32) = ((7 : Nat) : Int) from q32 b 7 (by omega))
      (And.intro (zgd_56 b r hL)
      (And.intro (show IntKind.u8.wrap (((b.toNat : Nat) : Int).tdiv 64) = ((3 : Nat) : Int) from q64 b 3 (by omega))
      (And.intro (zgd_56 b r hL)
      (And.intro (show IntKind.u8.wrap (((b.toNat : Nat) : Int).tdiv 128) = ((1 : Nat) : Int) from q128 b 1 (by omega))
      (And.intro (zgd_56 b r hL)
      (And.intro (zgd_59 b r hL)
      (And.intro (zgd_60 b r hL) trivial)))))))))
def altRd96 (l : List UInt8) : Alts := [(some (l.length ≠ 96 ∧ l.length ≠ 192), .tp [.ag [.c (.bool false), .c (.bool false), .c (.bool false), .c (.slice none 0 0)], .v (.int .i64 3)]), (some ((l.length = 96 ∧ top3 l ≠ 4 ∧ top3 l ≠ 5 ∧ top3 l ≠ 6) ∨ (l.length = 192 ∧ top3 l ≠ 0 ∧ top3 l ≠ 2)), .tp [.ag [.c (.bool false), .c (.bool false), .c (.bool false), .c (.slice none 0 0)], .v (.int .i64 32)]), (some (((l.length = 96 ∧ top3 l = 6) ∨ (l.length = 192 ∧ top3 l = 2)) ∧ ¬ allZ (maskL l)), .tp [.ag [.c (.bool false), .c (.bool false), .c (.bool false), .c (.slice none 0 0)], .v (.int .i64 33)]), (some ((l.length = 96 ∧ top3 l = 6) ∧ allZ (maskL l)), .tp [.ag [.c (.bool true), .c (.bool true), .c (.bool false), .c (.slice none 0 0)], .v (.int .i64 0)]), (some ((l.length = 192 ∧ top3 l = 2) ∧ allZ (maskL l)), .tp [.ag [.c (.bool false), .c (.bool true), .c (.bool false), .c (.slice none 0 0)], .v (.int .i64 0)]), (some (sh2 l ∧ ¬ (c2 l 0 < Pp ∧ c2 l 1 < Pp)), .tp [.ag [.c (.bool false), .c (.bool false), .c (.bool false), .c (.slice none 0 0)], .v (.int .i64 20)]), (some (lo2 l ∧ ¬ (c2 l 0 < Pp ∧ c2 l 1 < Pp ∧ c2 l 2 < Pp ∧ c2 l 3 < Pp)), .tp [.ag [.c (.bool false), .c (.bool false), .c (.bool false), .c (.slice none 0 0)], .v (.int .i64 20)])]
def eRd96 : Entry := entry2 5 XPar.str (XPar.int .i64) (fun l m => match decide (m = 96) with | true => altRd96 l | false => [])
theorem rd96 (l : List UInt8) : ∀ c r, (c, r) ∈ altRd96 l → c.getD True → Gives Tryz.prog 5 [.t (.v (.string (ofL l))), .t (.v (.int .i64 96))] r := by
  intro c x hm hc
  simp only [altRd96, List.mem_cons, Prod.mk.injEq, List.not_mem_nil, or_false] at hm
  rcases hm with ⟨rfl, rfl⟩ | ⟨rfl, rfl⟩ | ⟨rfl, rfl⟩ | ⟨rfl, rfl⟩ | ⟨rfl, rfl⟩ | ⟨rfl, rfl⟩ | ⟨rfl, rfl⟩
  · exact rd96_len l hc.1 hc.2
  · match l, hc with
    | [], hc => simp at hc
    | b :: r, hc =>
      have hb := UInt8.toNat_lt b
      rcases hc with ⟨hL, h4, h5, h6⟩ | ⟨hL, h0, h2⟩
      · have h4 : b.toNat / 32 ≠ 4 := h4
        have h5 : b.toNat / 32 ≠ 5 := h5
        have h6 : b.toNat / 32 ≠ 6 := h6
        obtain h | h | h | h | h : b.toNat / 32 = 0 ∨ b.toNat / 32 = 1 ∨ b.toNat / 32 = 2 ∨ b.toNat / 32 = 3 ∨ b.toNat / 32 = 7 := by omega
        · exact rd96_10 b r hL h
        · exact rd96_11 b r hL h
        · exact rd96_12 b r hL h
        · exact rd96_13 b r hL h
        · exact rd96_17 b r hL h
      · have h0 : b.toNat / 32 ≠ 0 := h0
        have h2 : b.toNat / 32 ≠ 2 := h2
        obtain h | h | h | h | h | h : b.toNat / 32 = 1 ∨ b.toNat / 32 = 3 ∨ b.toNat / 32 = 4 ∨ b.toNat / 32 = 5 ∨ b.toNat / 32 = 6 ∨ b.toNat / 32 = 7 := by omega
        · exact rd96_01 b r hL h
        · exact rd96_03 b r hL h
        · exact rd96_04 b r hL h
        · exact rd96_05 b r hL h
        · exact rd96_06 b r hL h
        · exact rd96_07 b r hL h
  · match l, hc with
    | [], hc => simp at hc
    | b :: r, hc =>
      obtain ⟨hc, hn⟩ := hc
      obtain ⟨j, hj, hz⟩ := not_allZ b r hn
      rcases hc with ⟨hL, h⟩ | ⟨hL, h⟩
      · exact rd96_16n b r hL h j hj hz
      · exact rd96_02n b r hL h j hj hz
  · match l, hc with
    | [], hc => simp at hc
    | b :: r, hc => exact rd96_16z b r hc.1.1 hc.1.2 ((allZ_iff b r).1 hc.2)
  · match l, hc with
    | [], hc => simp at hc
    | b :: r, hc => exact rd96_02z b r hc.1.1 hc.1.2 ((allZ_iff b r).1 hc.2)
  · match l, hc with
    | [], hc => exact absurd hc.1.1 (by simp)
    | b :: r, hc =>
      obtain ⟨⟨hL, h | h⟩, hn⟩ := hc
      · have h : b.toNat / 32 = 4 := h
        have hn : ¬ (c2 (b :: r) 0 < Pp ∧ c2 (b :: r) 1 < Pp) := hn
        by_cases g0 : ¬ c2 (b :: r) 0 < Pp
        · exact rd96_14r0 b r hL (by omega) (Nat.le_of_not_lt g0)
        have g0 := Classical.not_not.1 g0
        by_cases g1 : ¬ c2 (b :: r) 1 < Pp
        · exact rd96_14r1 b r hL (by omega) g0 (Nat.le_of_not_lt g1)
        have g1 := Classical.not_not.1 g1
        exact absurd ⟨g0, g1⟩ hn
      · have h : b.toNat / 32 = 5 := h
        have hn : ¬ (c2 (b :: r) 0 < Pp ∧ c2 (b :: r) 1 < Pp) := hn
        by_cases g0 : ¬ c2 (b :: r) 0 < Pp
        · exact rd96_15r0 b r hL (by omega) (Nat.le_of_not_lt g0)
        have g0 := Classical.not_not.1 g0
        by_cases g1 : ¬ c2 (b :: r) 1 < Pp
        · exact rd96_15r1 b r hL (by omega) g0 (Nat.le_of_not_lt g1)
        have g1 := Classical.not_not.1 g1
        exact absurd ⟨g0, g1⟩ hn
  · match l, hc with
    | [], hc => exact absurd hc.1.1 (by simp)
    | b :: r, hc =>
      obtain ⟨⟨hL, h⟩, hn⟩ := hc
      have h : b.toNat / 32 = 0 := h
      by_cases g0 : ¬ c2 (b :: r) 0 < Pp
      · exact rd96_00r0 b r hL (by omega) (Nat.le_of_not_lt g0)
      have g0 := Classical.not_not.1 g0
      by_cases g1 : ¬ c2 (b :: r) 1 < Pp
      · exact rd96_00r1 b r hL (by omega) g0 (Nat.le_of_not_lt g1)
      have g1 := Classical.not_not.1 g1
      by_cases g2 : ¬ c2 (b :: r) 2 < Pp
      · exact rd96_00r2 b r hL (by omega) g0 g1 (Nat.le_of_not_lt g2)
      have g2 := Classical.not_not.1 g2
      by_cases g3 : ¬ c2 (b :: r) 3 < Pp
      · exact rd96_00r3 b r hL (by omega) g0 g1 g2 (Nat.le_of_not_lt g3)
      have g3 := Classical.not_not.1 g3
      exact absurd ⟨g0, g1, g2, g3⟩ hn
theorem eRd96_ok : eRd96.OK Tryz.prog := entry2_ok (fun args w => Go.Proofs.enters_of (P := Tryz.prog) Tryz.func5 (by kernel_rfl) rfl args w) (fun l m c r hm hc => by
  by_cases e : m = 96
  · subst e
    exact rd96 l c r hm hc
  · rw [decide_eq_false e] at hm
    cases hm)
theorem rdk96_s4 (l : List UInt8) (hL : l.length = 96) (ht : top3 l = 4) (h0 : c2 l 0 < Pp) (h1 : c2 l 1 < Pp) : GivesN Tryz.prog 5 [.t (.v (.string (ofL l))), .t (.v (.int .i64 96))] (fun k => .tp [.ag [.c (.bool true), .c (.bool false), .c (.bool false), .sx k 2], .v (.int .i64 0)]) (.gr [.q (ofP (c2 l 0)), .q (ofP (c2 l 1))] 24 6) := by
  cases l with
  | nil => cases hL
  | cons b r => exact rd96_14k b r hL ht h0 h1
theorem rdk96_s5 (l : List UInt8) (hL : l.length = 96) (ht : top3 l = 5) (h0 : c2 l 0 < Pp) (h1 : c2 l 1 < Pp) : GivesN Tryz.prog 5 [.t (.v (.string (ofL l))), .t (.v (.int .i64 96))] (fun k => .tp [.ag [.c (.bool true), .c (.bool false), .c (.bool true), .sx k 2], .v (.int .i64 0)]) (.gr [.q (ofP (c2 l 0)), .q (ofP (c2 l 1))] 24 6) := by
  cases l with
  | nil => cases hL
  | cons b r => exact rd96_15k b r hL ht h0 h1
theorem rdk96_l (l : List UInt8) (hL : l.length = 192) (ht : top3 l = 0) (h0 : c2 l 0 < Pp) (h1 : c2 l 1 < Pp) (h2 : c2 l 2 < Pp) (h3 : c2 l 3 < Pp) : GivesN Tryz.prog 5 [.t (.v (.string (ofL l))), .t (.v (.int .i64 96))] (fun k => .tp [.ag [.c (.bool false), .c (.bool false), .c (.bool false), .sx k 4], .v (.int .i64 0)]) (.gr [.q (ofP (c2 l 0)), .q (ofP (c2 l 1)), .q (ofP (c2 l 2)), .q (ofP (c2 l 3))] 24 6) := by
  cases l with
  | nil => cases hL
  | cons b r => exact rd96_00k b r hL ht h0 h1 h2 h3
end Go.Proofs.YtbejkhmdmojojaaGreat
