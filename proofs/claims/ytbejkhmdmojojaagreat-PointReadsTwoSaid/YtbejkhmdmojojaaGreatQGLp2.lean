/- Whatever bytes are given, chirographlaw10.PointReadsTwo says true: they are read as just that point of the second curve, or refused. -/
import Derived.Test.YtbejkhmdmojojaaGreatQOpn
import Derived.Test.YtbejkhmdmojojaaGreatQGd
import Derived.Test.YtbejkhmdmojojaaGreatQGc
import Derived.Test.YtbejkhmdmojojaaGreatQGr
import Derived.Test.YtbejkhmdmojojaaGreatQAl3
import Derived.Test.YtbejkhmdmojojaaGreatQOpt
import Derived.ChangeMaps5
import Derived.Test.YtbejkhmdmojojaaGreatRows
/- Arguments that are points: two coordinates of numbers of 64 bits and a bool. Nothing here names a program. -/
set_option linter.unusedSimpArgs false
set_option linter.unusedVariables false
namespace Go.Ev
open Go.ChangeShapes Go.WideShapes Go.ChangeAt Go.RowKit

section
variable {H : Type} {enc : TypeId × Value → H} {P : Program} {w w' : World} {base base' : Nat} {spare spare' : Nat → Bool} {held held' : Bool}

end

end Go.Ev

/- Whatever bytes are given, chirographlaw10.PointReadsTwo says true: they are read as just that point of the second curve, or refused. -/
set_option linter.unusedSimpArgs false
set_option linter.unusedVariables false
namespace Go.Proofs.YtbejkhmdmojojaaGreat
open Go.Ev Go.ChangeShapes Go.WideShapes Go.ChangeAt Go.RowKit
theorem right2_run (x : F2) : Gives Tryz.prog 7 [.t (.ag (q2 x))] (.ag (q2 (add2 (mul2 x (mul2 x x)) (ofP 4, ofP 4)))) :=
  fn_gives (env := [eMul2r, eAdd2r]) ⟨eMul2r_ok, eAdd2r_ok, trivial⟩ Tryz.func7 0 o0 (by kernel_rfl) trivial
def eRight2r : Entry := entry1 7 parL2.x (fun x => [(none, .ag (q2 (rhs2 x)))])
theorem cube2 (x : F2) : mul2 x (mul2 x x) = mul2 (mul2 x x) x := by refine ext2 ?_ ?_ <;> simp only [mul2] <;> grind
theorem eRight2r_ok : eRight2r.OK Tryz.prog := entry1_ok (fun args w => Go.Proofs.enters_of (P := Tryz.prog) Tryz.func7 (by kernel_rfl) rfl args w) (fun x => only (by
  have h := right2_run x
  rw [cube2] at h
  exact h))
theorem form2r {l : List UInt8} (h0 : ¬ (l.length ≠ 96 ∧ l.length ≠ 192)) (hs : ¬ ((l.length = 96 ∧ top3 l ≠ 4 ∧ top3 l ≠ 5 ∧ top3 l ≠ 6) ∨ (l.length = 192 ∧ top3 l ≠ 0 ∧ top3 l ≠ 2))) (hi : ¬ ((l.length = 96 ∧ top3 l = 6) ∨ (l.length = 192 ∧ top3 l = 2))) : sh2 l ∨ lo2 l := by
  unfold sh2 lo2
  omega
theorem may_rt4 (x : F2) (hq : sq2 (rhs2 x)) : may2 ((x.1.val, x.2.val), ((rt2 (rhs2 x)).1.val, (rt2 (rhs2 x)).2.val), false) := by
  have h := may_root2 x false hq
  rw [show sy2 (rhs2 x) false = rt2 (rhs2 x) from rfl] at h
  exact h
theorem may_rt5 (x : F2) (hq : sq2 (rhs2 x)) : may2 ((x.1.val, x.2.val), ((neg2 (rt2 (rhs2 x))).1.val, (neg2 (rt2 (rhs2 x))).2.val), false) := by
  have h := may_root2 x true hq
  rw [show sy2 (rhs2 x) true = neg2 (rt2 (rhs2 x)) from rfl] at h
  exact h
theorem smt_in2 (x : F2) : sm2 (.inl x) := by first | trivial | (unfold sm2; trivial) | simp [sm2]
theorem zglp2_0 : flat [.c (.int .u64 0), .c (.int .u64 0), .c (.int .u64 0), .c (.int .u64 0), .c (.int .u64 0), .c (.int .u64 0), .c (.int .u64 0), .c (.int .u64 0), .c (.int .u64 0), .c (.int .u64 0), .c (.int .u64 0), .c (.int .u64 0), .c (.int .u64 0), .c (.int .u64 0), .c (.int .u64 0), .c (.int .u64 0), .c (.int .u64 0), .c (.int .u64 0), .c (.int .u64 0), .c (.int .u64 0), .c (.int .u64 0), .c (.int .u64 0), .c (.int .u64 0), .c (.int .u64 0), .c (.bool false)] = flat [.c (.int .u64 0), .c (.int .u64 0), .c (.int .u64 0), .c (.int .u64 0), .c (.int .u64 0), .c (.int .u64 0), .c (.int .u64 0), .c (.int .u64 0), .c (.int .u64 0), .c (.int .u64 0), .c (.int .u64 0), .c (.int .u64 0), .c (.int .u64 0), .c (.int .u64 0), .c (.int .u64 0), .c (.int .u64 0), .c (.int .u64 0), .c (.int .u64 0), .c (.int .u64 0), .c (.int .u64 0), .c (.int .u64 0), .c (.int .u64 0), .c (.int .u64 0), .c (.int .u64 0), .c (.bool false)] := rfl
theorem p2_e0 (l : List UInt8) (h : l.length ≠ 96 ∧ l.length ≠ 192) : Gives Tryz.prog 3 [.t (.v (.string (ofL l)))] (.v (.bool true)) :=
  fn_gives_at (P := Tryz.prog) (X := rulesY _) (env := [eGet2, eRd96, eAlive, eRight2r, eSq2r, eDRoot, eHigh2r, eNeg2r, eROn2, eGrp2]) ⟨eGet2_ok, eRd96_ok, eAlive_ok, eRight2r_ok, eSq2r_ok, eDRoot_ok, eHigh2r_ok, eNeg2r_ok, eROn2_ok, eGrp2_ok, trivial⟩ Tryz.func3 0 (oL [(2, wO 0), (10, wO 0), (27, wO 0)]) (by kernel_rfl) ⟨_, rfl⟩
      (And.intro zglp2_0
      (And.intro (show l.length ≠ 96 ∧ l.length ≠ 192 from h)
      (And.intro (show l.length ≠ 96 ∧ l.length ≠ 192 from h) trivial)))
theorem p2_e1 (l : List UInt8) (h : (l.length = 96 ∧ top3 l ≠ 4 ∧ top3 l ≠ 5 ∧ top3 l ≠ 6) ∨ (l.length = 192 ∧ top3 l ≠ 0 ∧ top3 l ≠ 2)) : Gives Tryz.prog 3 [.t (.v (.string (ofL l)))] (.v (.bool true)) :=
  fn_gives_at (P := Tryz.prog) (X := rulesY _) (env := [eGet2, eRd96, eAlive, eRight2r, eSq2r, eDRoot, eHigh2r, eNeg2r, eROn2, eGrp2]) ⟨eGet2_ok, eRd96_ok, eAlive_ok, eRight2r_ok, eSq2r_ok, eDRoot_ok, eHigh2r_ok, eNeg2r_ok, eROn2_ok, eGrp2_ok, trivial⟩ Tryz.func3 0 (oL [(2, wO 1), (10, wO 1), (27, wO 0)]) (by kernel_rfl) ⟨_, rfl⟩
      (And.intro zglp2_0
      (And.intro (show (l.length = 96 ∧ top3 l ≠ 4 ∧ top3 l ≠ 5 ∧ top3 l ≠ 6) ∨ (l.length = 192 ∧ top3 l ≠ 0 ∧ top3 l ≠ 2) from h)
      (And.intro (show (l.length = 96 ∧ top3 l ≠ 4 ∧ top3 l ≠ 5 ∧ top3 l ≠ 6) ∨ (l.length = 192 ∧ top3 l ≠ 0 ∧ top3 l ≠ 2) from h) trivial)))
theorem p2_e2 (l : List UInt8) (h : ((l.length = 96 ∧ top3 l = 6) ∨ (l.length = 192 ∧ top3 l = 2)) ∧ ¬ allZ (maskL l)) : Gives Tryz.prog 3 [.t (.v (.string (ofL l)))] (.v (.bool true)) :=
  fn_gives_at (P := Tryz.prog) (X := rulesY _) (env := [eGet2, eRd96, eAlive, eRight2r, eSq2r, eDRoot, eHigh2r, eNeg2r, eROn2, eGrp2]) ⟨eGet2_ok, eRd96_ok, eAlive_ok, eRight2r_ok, eSq2r_ok, eDRoot_ok, eHigh2r_ok, eNeg2r_ok, eROn2_ok, eGrp2_ok, trivial⟩ Tryz.func3 0 (oL [(2, wO 2), (10, wO 2), (27, wO 0)]) (by kernel_rfl) ⟨_, rfl⟩
      (And.intro zglp2_0
      (And.intro (show ((l.length = 96 ∧ top3 l = 6) ∨ (l.length = 192 ∧ top3 l = 2)) ∧ ¬ allZ (maskL l) from h)
      (And.intro (show ((l.length = 96 ∧ top3 l = 6) ∨ (l.length = 192 ∧ top3 l = 2)) ∧ ¬ allZ (maskL l) from h) trivial)))
theorem p2_e4 (l : List UInt8) (h : sh2 l ∧ ¬ (c2 l 0 < Pp ∧ c2 l 1 < Pp)) : Gives Tryz.prog 3 [.t (.v (.string (ofL l)))] (.v (.bool true)) :=
  fn_gives_at (P := Tryz.prog) (X := rulesY _) (env := [eGet2, eRd96, eAlive, eRight2r, eSq2r, eDRoot, eHigh2r, eNeg2r, eROn2, eGrp2]) ⟨eGet2_ok, eRd96_ok, eAlive_ok, eRight2r_ok, eSq2r_ok, eDRoot_ok, eHigh2r_ok, eNeg2r_ok, eROn2_ok, eGrp2_ok, trivial⟩ Tryz.func3 0 (oL [(2, wO 4), (10, wO 5), (27, wO 0)]) (by kernel_rfl) ⟨_, rfl⟩
      (And.intro zglp2_0
      (And.intro (show sh2 l ∧ ¬ (c2 l 0 < Pp ∧ c2 l 1 < Pp) from h)
      (And.intro (show sh2 l ∧ ¬ (c2 l 0 < Pp ∧ c2 l 1 < Pp) from h) trivial)))
theorem p2_e8 (l : List UInt8) (h : lo2 l ∧ ¬ (c2 l 0 < Pp ∧ c2 l 1 < Pp ∧ c2 l 2 < Pp ∧ c2 l 3 < Pp)) : Gives Tryz.prog 3 [.t (.v (.string (ofL l)))] (.v (.bool true)) :=
  fn_gives_at (P := Tryz.prog) (X := rulesY _) (env := [eGet2, eRd96, eAlive, eRight2r, eSq2r, eDRoot, eHigh2r, eNeg2r, eROn2, eGrp2]) ⟨eGet2_ok, eRd96_ok, eAlive_ok, eRight2r_ok, eSq2r_ok, eDRoot_ok, eHigh2r_ok, eNeg2r_ok, eROn2_ok, eGrp2_ok, trivial⟩ Tryz.func3 0 (oL [(2, wO 8), (10, wO 6), (27, wO 0)]) (by kernel_rfl) ⟨_, rfl⟩
      (And.intro zglp2_0
      (And.intro (show lo2 l ∧ ¬ (c2 l 0 < Pp ∧ c2 l 1 < Pp ∧ c2 l 2 < Pp ∧ c2 l 3 < Pp) from h)
      (And.intro (show lo2 l ∧ ¬ (c2 l 0 < Pp ∧ c2 l 1 < Pp ∧ c2 l 2 < Pp ∧ c2 l 3 < Pp) from h) trivial)))
theorem zglp2_1 : flat [.c (.int .u64 0), .c (.int .u64 0), .c (.int .u64 0), .c (.int .u64 0), .c (.int .u64 0), .c (.int .u64 0), .c (.int .u64 0), .c (.int .u64 0), .c (.int .u64 0), .c (.int .u64 0), .c (.int .u64 0), .c (.int .u64 0), .c (.int .u64 0), .c (.int .u64 0), .c (.int .u64 0), .c (.int .u64 0), .c (.int .u64 0), .c (.int .u64 0), .c (.int .u64 0), .c (.int .u64 0), .c (.int .u64 0), .c (.int .u64 0), .c (.int .u64 0), .c (.int .u64 0), .c (.bool true)] = flat [.c (.int .u64 0), .c (.int .u64 0), .c (.int .u64 0), .c (.int .u64 0), .c (.int .u64 0), .c (.int .u64 0), .c (.int .u64 0), .c (.int .u64 0), .c (.int .u64 0), .c (.int .u64 0), .c (.int .u64 0), .c (.int .u64 0), .c (.int .u64 0), .c (.int .u64 0), .c (.int .u64 0), .c (.int .u64 0), .c (.int .u64 0), .c (.int .u64 0), .c (.int .u64 0), .c (.int .u64 0), .c (.int .u64 0), .c (.int .u64 0), .c (.int .u64 0), .c (.int .u64 0), .c (.bool true)] := rfl
theorem p2_i6 (l : List UInt8) (h : (l.length = 96 ∧ top3 l = 6) ∧ allZ (maskL l)) : Gives Tryz.prog 3 [.t (.v (.string (ofL l)))] (.v (.bool true)) :=
  fn_gives_at (P := Tryz.prog) (X := rulesY _) (env := [eGet2, eRd96, eAlive, eRight2r, eSq2r, eDRoot, eHigh2r, eNeg2r, eROn2, eGrp2]) ⟨eGet2_ok, eRd96_ok, eAlive_ok, eRight2r_ok, eSq2r_ok, eDRoot_ok, eHigh2r_ok, eNeg2r_ok, eROn2_ok, eGrp2_ok, trivial⟩ Tryz.func3 0 (oL [(2, wO 3), (10, wO 3), (28, wO 0)]) (by kernel_rfl) ⟨_, rfl⟩
      (And.intro zglp2_1
      (And.intro (show (l.length = 96 ∧ top3 l = 6) ∧ allZ (maskL l) from h)
      (And.intro (show ((l.length = 96 ∧ top3 l = 6) ∨ (l.length = 192 ∧ top3 l = 2)) ∧ allZ (maskL l) from ⟨.inl h.1, h.2⟩) trivial)))
theorem p2_i2 (l : List UInt8) (h : (l.length = 192 ∧ top3 l = 2) ∧ allZ (maskL l)) : Gives Tryz.prog 3 [.t (.v (.string (ofL l)))] (.v (.bool true)) :=
  fn_gives_at (P := Tryz.prog) (X := rulesY _) (env := [eGet2, eRd96, eAlive, eRight2r, eSq2r, eDRoot, eHigh2r, eNeg2r, eROn2, eGrp2]) ⟨eGet2_ok, eRd96_ok, eAlive_ok, eRight2r_ok, eSq2r_ok, eDRoot_ok, eHigh2r_ok, eNeg2r_ok, eROn2_ok, eGrp2_ok, trivial⟩ Tryz.func3 0 (oL [(2, wO 3), (10, wO 4), (28, wO 0)]) (by kernel_rfl) ⟨_, rfl⟩
      (And.intro zglp2_1
      (And.intro (show (l.length = 192 ∧ top3 l = 2) ∧ allZ (maskL l) from h)
      (And.intro (show ((l.length = 96 ∧ top3 l = 6) ∨ (l.length = 192 ∧ top3 l = 2)) ∧ allZ (maskL l) from ⟨.inr h.1, h.2⟩) trivial)))
theorem zglp2_2 (l : List UInt8) (hL : l.length = 96) (ht : top3 l = 4) (hx : (c2 l 0 < Pp ∧ c2 l 1 < Pp)) : GivesN Tryz.prog 5 [.t (.v (.string (ofL l))), .t (.v (.int .i64 96))] (fun k => .tp [.ag [.c (.bool true), .c (.bool false), .c (.bool false), .sx k 2], .v (.int .i64 0)]) (.gr [.q (ofP (c2 l 0)), .q (ofP (c2 l 1))] 24 6) := rdk96_s4 l hL ht hx.1 hx.2
theorem p2_n4 (l : List UInt8) (hL : l.length = 96) (ht : top3 l = 4) (hx : (c2 l 0 < Pp ∧ c2 l 1 < Pp)) (hq : ¬ sq2 (rhs2 ((ofP (c2 l 1), ofP (c2 l 0)) : F2))) : Gives Tryz.prog 3 [.t (.v (.string (ofL l)))] (.v (.bool true)) :=
  fn_gives_at (P := Tryz.prog) (X := rulesY _) (env := [eGet2, eRd96, eAlive, eRight2r, eSq2r, eDRoot, eHigh2r, eNeg2r, eROn2, eGrp2]) ⟨eGet2_ok, eRd96_ok, eAlive_ok, eRight2r_ok, eSq2r_ok, eDRoot_ok, eHigh2r_ok, eNeg2r_ok, eROn2_ok, eGrp2_ok, trivial⟩ Tryz.func3 0 (oL [(2, wO 5), (10, { ch := 0, hi := fun _ => 0, ex := 4, av := fun k => .tp [.ag [.c (.bool true), .c (.bool false), .c (.bool false), .sx k 2], .v (.int .i64 0)], lp := some { kd := 9, I := { n := 0, sl := [] }, ex := .normal, E := { n := 0, sl := [], hp := [(0, .gr [.q (ofP (c2 l 0)), .q (ofP (c2 l 1))] 24 6)] }, fr := 0 } }), (43, wO 1), (50, wO 0)]) (by kernel_rfl) ⟨_, rfl⟩
      (And.intro zglp2_0
      (And.intro (show ¬ sq2 (rhs2 ((ofP (c2 l 1), ofP (c2 l 0)) : F2)) from hq)
      (And.intro (zglp2_2 l hL ht hx)
      (And.intro (show sh2 l ∧ (c2 l 0 < Pp ∧ c2 l 1 < Pp) ∧ ¬ sq2 (rhs2 ((ofP (c2 l 1), ofP (c2 l 0)) : F2)) from ⟨⟨hL, .inl ht⟩, hx, hq⟩) trivial))))
theorem zglp2_3 (l : List UInt8) (hq : sq2 (rhs2 ((ofP (c2 l 1), ofP (c2 l 0)) : F2))) : sml2 ((((ofP (c2 l 1), ofP (c2 l 0)) : F2).1.val, ((ofP (c2 l 1), ofP (c2 l 0)) : F2).2.val), ((rt2 (rhs2 ((ofP (c2 l 1), ofP (c2 l 0)) : F2))).1.val, (rt2 (rhs2 ((ofP (c2 l 1), ofP (c2 l 0)) : F2))).2.val), false) ∧ may2 ((((ofP (c2 l 1), ofP (c2 l 0)) : F2).1.val, ((ofP (c2 l 1), ofP (c2 l 0)) : F2).2.val), ((rt2 (rhs2 ((ofP (c2 l 1), ofP (c2 l 0)) : F2))).1.val, (rt2 (rhs2 ((ofP (c2 l 1), ofP (c2 l 0)) : F2))).2.val), false) := ⟨small_pt2 _ _ _, may_rt4 ((ofP (c2 l 1), ofP (c2 l 0)) : F2) hq⟩
theorem zglp2_4 (l : List UInt8) : ¬ hi2 (rt2 (rhs2 ((ofP (c2 l 1), ofP (c2 l 0)) : F2))) := not_hi_low2 _
theorem zglp2_5 (l : List UInt8) (hq : sq2 (rhs2 ((ofP (c2 l 1), ofP (c2 l 0)) : F2))) : sm2 (.inl (rhs2 ((ofP (c2 l 1), ofP (c2 l 0)) : F2))) ∧ sq2 (el2 (.inl (rhs2 ((ofP (c2 l 1), ofP (c2 l 0)) : F2)))) := ⟨smt_in2 _, hq⟩
theorem zglp2_6 (l : List UInt8) (hq : sq2 (rhs2 ((ofP (c2 l 1), ofP (c2 l 0)) : F2))) : sq2 (rhs2 ((ofP (c2 l 1), ofP (c2 l 0)) : F2)) := hq
theorem p2_g4 (l : List UInt8) (hL : l.length = 96) (ht : top3 l = 4) (hx : (c2 l 0 < Pp ∧ c2 l 1 < Pp)) (hq : sq2 (rhs2 ((ofP (c2 l 1), ofP (c2 l 0)) : F2))) (hg : ¬ grp2 ((((ofP (c2 l 1), ofP (c2 l 0)) : F2).1.val, ((ofP (c2 l 1), ofP (c2 l 0)) : F2).2.val), ((rt2 (rhs2 ((ofP (c2 l 1), ofP (c2 l 0)) : F2))).1.val, (rt2 (rhs2 ((ofP (c2 l 1), ofP (c2 l 0)) : F2))).2.val), false)) : Gives Tryz.prog 3 [.t (.v (.string (ofL l)))] (.v (.bool true)) :=
  fn_gives_at (P := Tryz.prog) (X := rulesY _) (env := [eGet2, eRd96, eAlive, eRight2r, eSq2r, eDRoot, eHigh2r, eNeg2r, eROn2, eGrp2]) ⟨eGet2_ok, eRd96_ok, eAlive_ok, eRight2r_ok, eSq2r_ok, eDRoot_ok, eHigh2r_ok, eNeg2r_ok, eROn2_ok, eGrp2_ok, trivial⟩ Tryz.func3 0 (oL [(2, wO 6), (10, { ch := 0, hi := fun _ => 0, ex := 4, av := fun k => .tp [.ag [.c (.bool true), .c (.bool false), .c (.bool false), .sx k 2], .v (.int .i64 0)], lp := some { kd := 9, I := { n := 0, sl := [] }, ex := .normal, E := { n := 0, sl := [], hp := [(0, .gr [.q (ofP (c2 l 0)), .q (ofP (c2 l 1))] 24 6)] }, fr := 0 } }), (43, wO 0), (46, wO 0), (59, wO 1), (64, wO 0), (68, wO 1), (76, wO 0)]) (by kernel_rfl) ⟨_, rfl⟩
      (And.intro zglp2_0
      (And.intro (show sml2 ((((ofP (c2 l 1), ofP (c2 l 0)) : F2).1.val, ((ofP (c2 l 1), ofP (c2 l 0)) : F2).2.val), ((rt2 (rhs2 ((ofP (c2 l 1), ofP (c2 l 0)) : F2))).1.val, (rt2 (rhs2 ((ofP (c2 l 1), ofP (c2 l 0)) : F2))).2.val), false) ∧ may2 ((((ofP (c2 l 1), ofP (c2 l 0)) : F2).1.val, ((ofP (c2 l 1), ofP (c2 l 0)) : F2).2.val), ((rt2 (rhs2 ((ofP (c2 l 1), ofP (c2 l 0)) : F2))).1.val, (rt2 (rhs2 ((ofP (c2 l 1), ofP (c2 l 0)) : F2))).2.val), false) ∧ ¬ grp2 ((((ofP (c2 l 1), ofP (c2 l 0)) : F2).1.val, ((ofP (c2 l 1), ofP (c2 l 0)) : F2).2.val), ((rt2 (rhs2 ((ofP (c2 l 1), ofP (c2 l 0)) : F2))).1.val, (rt2 (rhs2 ((ofP (c2 l 1), ofP (c2 l 0)) : F2))).2.val), false) from ⟨small_pt2 _ _ _, may_rt4 ((ofP (c2 l 1), ofP (c2 l 0)) : F2) hq, hg⟩)
      (And.intro (zglp2_3 l hq)
      (And.intro (zglp2_4 l)
      (And.intro (zglp2_5 l hq)
      (And.intro (zglp2_6 l hq)
      (And.intro (zglp2_2 l hL ht hx)
      (And.intro (show sh2 l ∧ (c2 l 0 < Pp ∧ c2 l 1 < Pp) ∧ sq2 (rhs2 ((ofP (c2 l 1), ofP (c2 l 0)) : F2)) ∧ ¬ grp2 ((((ofP (c2 l 1), ofP (c2 l 0)) : F2).1.val, ((ofP (c2 l 1), ofP (c2 l 0)) : F2).2.val), ((sy2 (rhs2 ((ofP (c2 l 1), ofP (c2 l 0)) : F2)) (decide (top3 l = 5))).1.val, (sy2 (rhs2 ((ofP (c2 l 1), ofP (c2 l 0)) : F2)) (decide (top3 l = 5))).2.val), false) from ⟨⟨hL, .inl ht⟩, hx, hq, by rw [(show decide (top3 l = 5) = false from by rw [ht]; rfl)]; exact hg⟩) trivial))))))))
theorem p2_k4 (l : List UInt8) (hL : l.length = 96) (ht : top3 l = 4) (hx : (c2 l 0 < Pp ∧ c2 l 1 < Pp)) (hq : sq2 (rhs2 ((ofP (c2 l 1), ofP (c2 l 0)) : F2))) (hg : grp2 ((((ofP (c2 l 1), ofP (c2 l 0)) : F2).1.val, ((ofP (c2 l 1), ofP (c2 l 0)) : F2).2.val), ((rt2 (rhs2 ((ofP (c2 l 1), ofP (c2 l 0)) : F2))).1.val, (rt2 (rhs2 ((ofP (c2 l 1), ofP (c2 l 0)) : F2))).2.val), false)) : Gives Tryz.prog 3 [.t (.v (.string (ofL l)))] (.v (.bool true)) :=
  fn_gives_at (P := Tryz.prog) (X := rulesY _) (env := [eGet2, eRd96, eAlive, eRight2r, eSq2r, eDRoot, eHigh2r, eNeg2r, eROn2, eGrp2]) ⟨eGet2_ok, eRd96_ok, eAlive_ok, eRight2r_ok, eSq2r_ok, eDRoot_ok, eHigh2r_ok, eNeg2r_ok, eROn2_ok, eGrp2_ok, trivial⟩ Tryz.func3 0 (oL [(2, wO 7), (10, { ch := 0, hi := fun _ => 0, ex := 4, av := fun k => .tp [.ag [.c (.bool true), .c (.bool false), .c (.bool false), .sx k 2], .v (.int .i64 0)], lp := some { kd := 9, I := { n := 0, sl := [] }, ex := .normal, E := { n := 0, sl := [], hp := [(0, .gr [.q (ofP (c2 l 0)), .q (ofP (c2 l 1))] 24 6)] }, fr := 0 } }), (43, wO 0), (46, wO 0), (59, wO 1), (64, wO 0), (68, wO 0), (76, wO 0)]) (by kernel_rfl) ⟨_, rfl⟩
      (And.intro (show flat [.q ((ofP (c2 l 1), ofP (c2 l 0)) : F2).1, .q ((ofP (c2 l 1), ofP (c2 l 0)) : F2).2, .q (sy2 (rhs2 ((ofP (c2 l 1), ofP (c2 l 0)) : F2)) (decide (top3 l = 5))).1, .q (sy2 (rhs2 ((ofP (c2 l 1), ofP (c2 l 0)) : F2)) (decide (top3 l = 5))).2, .c (.bool false)] = flat [.q ((ofP (c2 l 1), ofP (c2 l 0)) : F2).1, .q ((ofP (c2 l 1), ofP (c2 l 0)) : F2).2, .q (rt2 (rhs2 ((ofP (c2 l 1), ofP (c2 l 0)) : F2))).1, .q (rt2 (rhs2 ((ofP (c2 l 1), ofP (c2 l 0)) : F2))).2, .c (.bool false)] from by rw [(show decide (top3 l = 5) = false from by rw [ht]; rfl)]; rfl)
      (And.intro (show sml2 ((((ofP (c2 l 1), ofP (c2 l 0)) : F2).1.val, ((ofP (c2 l 1), ofP (c2 l 0)) : F2).2.val), ((rt2 (rhs2 ((ofP (c2 l 1), ofP (c2 l 0)) : F2))).1.val, (rt2 (rhs2 ((ofP (c2 l 1), ofP (c2 l 0)) : F2))).2.val), false) ∧ may2 ((((ofP (c2 l 1), ofP (c2 l 0)) : F2).1.val, ((ofP (c2 l 1), ofP (c2 l 0)) : F2).2.val), ((rt2 (rhs2 ((ofP (c2 l 1), ofP (c2 l 0)) : F2))).1.val, (rt2 (rhs2 ((ofP (c2 l 1), ofP (c2 l 0)) : F2))).2.val), false) ∧ grp2 ((((ofP (c2 l 1), ofP (c2 l 0)) : F2).1.val, ((ofP (c2 l 1), ofP (c2 l 0)) : F2).2.val), ((rt2 (rhs2 ((ofP (c2 l 1), ofP (c2 l 0)) : F2))).1.val, (rt2 (rhs2 ((ofP (c2 l 1), ofP (c2 l 0)) : F2))).2.val), false) from ⟨small_pt2 _ _ _, may_rt4 ((ofP (c2 l 1), ofP (c2 l 0)) : F2) hq, hg⟩)
      (And.intro (zglp2_3 l hq)
      (And.intro (zglp2_4 l)
      (And.intro (zglp2_5 l hq)
      (And.intro (zglp2_6 l hq)
      (And.intro (zglp2_2 l hL ht hx)
      (And.intro (show sh2 l ∧ (c2 l 0 < Pp ∧ c2 l 1 < Pp) ∧ sq2 (rhs2 ((ofP (c2 l 1), ofP (c2 l 0)) : F2)) ∧ grp2 ((((ofP (c2 l 1), ofP (c2 l 0)) : F2).1.val, ((ofP (c2 l 1), ofP (c2 l 0)) : F2).2.val), ((sy2 (rhs2 ((ofP (c2 l 1), ofP (c2 l 0)) : F2)) (decide (top3 l = 5))).1.val, (sy2 (rhs2 ((ofP (c2 l 1), ofP (c2 l 0)) : F2)) (decide (top3 l = 5))).2.val), false) from ⟨⟨hL, .inl ht⟩, hx, hq, by rw [(show decide (top3 l = 5) = false from by rw [ht]; rfl)]; exact hg⟩) trivial))))))))
theorem zglp2_7 (l : List UInt8) (hL : l.length = 96) (ht : top3 l = 5) (hx : (c2 l 0 < Pp ∧ c2 l 1 < Pp)) : GivesN Tryz.prog 5 [.t (.v (.string (ofL l))), .t (.v (.int .i64 96))] (fun k => .tp [.ag [.c (.bool true), .c (.bool false), .c (.bool true), .sx k 2], .v (.int .i64 0)]) (.gr [.q (ofP (c2 l 0)), .q (ofP (c2 l 1))] 24 6) := rdk96_s5 l hL ht hx.1 hx.2
theorem p2_n5 (l : List UInt8) (hL : l.length = 96) (ht : top3 l = 5) (hx : (c2 l 0 < Pp ∧ c2 l 1 < Pp)) (hq : ¬ sq2 (rhs2 ((ofP (c2 l 1), ofP (c2 l 0)) : F2))) : Gives Tryz.prog 3 [.t (.v (.string (ofL l)))] (.v (.bool true)) :=
  fn_gives_at (P := Tryz.prog) (X := rulesY _) (env := [eGet2, eRd96, eAlive, eRight2r, eSq2r, eDRoot, eHigh2r, eNeg2r, eROn2, eGrp2]) ⟨eGet2_ok, eRd96_ok, eAlive_ok, eRight2r_ok, eSq2r_ok, eDRoot_ok, eHigh2r_ok, eNeg2r_ok, eROn2_ok, eGrp2_ok, trivial⟩ Tryz.func3 0 (oL [(2, wO 5), (10, { ch := 0, hi := fun _ => 0, ex := 4, av := fun k => .tp [.ag [.c (.bool true), .c (.bool false), .c (.bool true), .sx k 2], .v (.int .i64 0)], lp := some { kd := 9, I := { n := 0, sl := [] }, ex := .normal, E := { n := 0, sl := [], hp := [(0, .gr [.q (ofP (c2 l 0)), .q (ofP (c2 l 1))] 24 6)] }, fr := 0 } }), (43, wO 1), (50, wO 0)]) (by kernel_rfl) ⟨_, rfl⟩
      (And.intro zglp2_0
      (And.intro (show ¬ sq2 (rhs2 ((ofP (c2 l 1), ofP (c2 l 0)) : F2)) from hq)
      (And.intro (zglp2_7 l hL ht hx)
      (And.intro (show sh2 l ∧ (c2 l 0 < Pp ∧ c2 l 1 < Pp) ∧ ¬ sq2 (rhs2 ((ofP (c2 l 1), ofP (c2 l 0)) : F2)) from ⟨⟨hL, .inr ht⟩, hx, hq⟩) trivial))))
theorem zglp2_8 (l : List UInt8) (hq : sq2 (rhs2 ((ofP (c2 l 1), ofP (c2 l 0)) : F2))) : sml2 ((((ofP (c2 l 1), ofP (c2 l 0)) : F2).1.val, ((ofP (c2 l 1), ofP (c2 l 0)) : F2).2.val), ((neg2 (rt2 (rhs2 ((ofP (c2 l 1), ofP (c2 l 0)) : F2)))).1.val, (neg2 (rt2 (rhs2 ((ofP (c2 l 1), ofP (c2 l 0)) : F2)))).2.val), false) ∧ may2 ((((ofP (c2 l 1), ofP (c2 l 0)) : F2).1.val, ((ofP (c2 l 1), ofP (c2 l 0)) : F2).2.val), ((neg2 (rt2 (rhs2 ((ofP (c2 l 1), ofP (c2 l 0)) : F2)))).1.val, (neg2 (rt2 (rhs2 ((ofP (c2 l 1), ofP (c2 l 0)) : F2)))).2.val), false) := ⟨small_pt2 _ _ _, may_rt5 ((ofP (c2 l 1), ofP (c2 l 0)) : F2) hq⟩
theorem p2_g5 (l : List UInt8) (hL : l.length = 96) (ht : top3 l = 5) (hx : (c2 l 0 < Pp ∧ c2 l 1 < Pp)) (hq : sq2 (rhs2 ((ofP (c2 l 1), ofP (c2 l 0)) : F2))) (hg : ¬ grp2 ((((ofP (c2 l 1), ofP (c2 l 0)) : F2).1.val, ((ofP (c2 l 1), ofP (c2 l 0)) : F2).2.val), ((neg2 (rt2 (rhs2 ((ofP (c2 l 1), ofP (c2 l 0)) : F2)))).1.val, (neg2 (rt2 (rhs2 ((ofP (c2 l 1), ofP (c2 l 0)) : F2)))).2.val), false)) : Gives Tryz.prog 3 [.t (.v (.string (ofL l)))] (.v (.bool true)) :=
  fn_gives_at (P := Tryz.prog) (X := rulesY _) (env := [eGet2, eRd96, eAlive, eRight2r, eSq2r, eDRoot, eHigh2r, eNeg2r, eROn2, eGrp2]) ⟨eGet2_ok, eRd96_ok, eAlive_ok, eRight2r_ok, eSq2r_ok, eDRoot_ok, eHigh2r_ok, eNeg2r_ok, eROn2_ok, eGrp2_ok, trivial⟩ Tryz.func3 0 (oL [(2, wO 6), (10, { ch := 0, hi := fun _ => 0, ex := 4, av := fun k => .tp [.ag [.c (.bool true), .c (.bool false), .c (.bool true), .sx k 2], .v (.int .i64 0)], lp := some { kd := 9, I := { n := 0, sl := [] }, ex := .normal, E := { n := 0, sl := [], hp := [(0, .gr [.q (ofP (c2 l 0)), .q (ofP (c2 l 1))] 24 6)] }, fr := 0 } }), (43, wO 0), (46, wO 0), (59, wO 1), (68, wO 0), (72, wO 1), (80, wO 0)]) (by kernel_rfl) ⟨_, rfl⟩
      (And.intro zglp2_0
      (And.intro (show sml2 ((((ofP (c2 l 1), ofP (c2 l 0)) : F2).1.val, ((ofP (c2 l 1), ofP (c2 l 0)) : F2).2.val), ((neg2 (rt2 (rhs2 ((ofP (c2 l 1), ofP (c2 l 0)) : F2)))).1.val, (neg2 (rt2 (rhs2 ((ofP (c2 l 1), ofP (c2 l 0)) : F2)))).2.val), false) ∧ may2 ((((ofP (c2 l 1), ofP (c2 l 0)) : F2).1.val, ((ofP (c2 l 1), ofP (c2 l 0)) : F2).2.val), ((neg2 (rt2 (rhs2 ((ofP (c2 l 1), ofP (c2 l 0)) : F2)))).1.val, (neg2 (rt2 (rhs2 ((ofP (c2 l 1), ofP (c2 l 0)) : F2)))).2.val), false) ∧ ¬ grp2 ((((ofP (c2 l 1), ofP (c2 l 0)) : F2).1.val, ((ofP (c2 l 1), ofP (c2 l 0)) : F2).2.val), ((neg2 (rt2 (rhs2 ((ofP (c2 l 1), ofP (c2 l 0)) : F2)))).1.val, (neg2 (rt2 (rhs2 ((ofP (c2 l 1), ofP (c2 l 0)) : F2)))).2.val), false) from ⟨small_pt2 _ _ _, may_rt5 ((ofP (c2 l 1), ofP (c2 l 0)) : F2) hq, hg⟩)
      (And.intro (zglp2_8 l hq)
      (And.intro (zglp2_4 l)
      (And.intro (zglp2_5 l hq)
      (And.intro (zglp2_6 l hq)
      (And.intro (zglp2_7 l hL ht hx)
      (And.intro (show sh2 l ∧ (c2 l 0 < Pp ∧ c2 l 1 < Pp) ∧ sq2 (rhs2 ((ofP (c2 l 1), ofP (c2 l 0)) : F2)) ∧ ¬ grp2 ((((ofP (c2 l 1), ofP (c2 l 0)) : F2).1.val, ((ofP (c2 l 1), ofP (c2 l 0)) : F2).2.val), ((sy2 (rhs2 ((ofP (c2 l 1), ofP (c2 l 0)) : F2)) (decide (top3 l = 5))).1.val, (sy2 (rhs2 ((ofP (c2 l 1), ofP (c2 l 0)) : F2)) (decide (top3 l = 5))).2.val), false) from ⟨⟨hL, .inr ht⟩, hx, hq, by rw [(show decide (top3 l = 5) = true from by rw [ht]; rfl)]; exact hg⟩) trivial))))))))
theorem p2_k5 (l : List UInt8) (hL : l.length = 96) (ht : top3 l = 5) (hx : (c2 l 0 < Pp ∧ c2 l 1 < Pp)) (hq : sq2 (rhs2 ((ofP (c2 l 1), ofP (c2 l 0)) : F2))) (hg : grp2 ((((ofP (c2 l 1), ofP (c2 l 0)) : F2).1.val, ((ofP (c2 l 1), ofP (c2 l 0)) : F2).2.val), ((neg2 (rt2 (rhs2 ((ofP (c2 l 1), ofP (c2 l 0)) : F2)))).1.val, (neg2 (rt2 (rhs2 ((ofP (c2 l 1), ofP (c2 l 0)) : F2)))).2.val), false)) : Gives Tryz.prog 3 [.t (.v (.string (ofL l)))] (.v (.bool true)) :=
  fn_gives_at (P := Tryz.prog) (X := rulesY _) (env := [eGet2, eRd96, eAlive, eRight2r, eSq2r, eDRoot, eHigh2r, eNeg2r, eROn2, eGrp2]) ⟨eGet2_ok, eRd96_ok, eAlive_ok, eRight2r_ok, eSq2r_ok, eDRoot_ok, eHigh2r_ok, eNeg2r_ok, eROn2_ok, eGrp2_ok, trivial⟩ Tryz.func3 0 (oL [(2, wO 7), (10, { ch := 0, hi := fun _ => 0, ex := 4, av := fun k => .tp [.ag [.c (.bool true), .c (.bool false), .c (.bool true), .sx k 2], .v (.int .i64 0)], lp := some { kd := 9, I := { n := 0, sl := [] }, ex := .normal, E := { n := 0, sl := [], hp := [(0, .gr [.q (ofP (c2 l 0)), .q (ofP (c2 l 1))] 24 6)] }, fr := 0 } }), (43, wO 0), (46, wO 0), (59, wO 1), (68, wO 0), (72, wO 0), (80, wO 0)]) (by kernel_rfl) ⟨_, rfl⟩
      (And.intro (show flat [.q ((ofP (c2 l 1), ofP (c2 l 0)) : F2).1, .q ((ofP (c2 l 1), ofP (c2 l 0)) : F2).2, .q (sy2 (rhs2 ((ofP (c2 l 1), ofP (c2 l 0)) : F2)) (decide (top3 l = 5))).1, .q (sy2 (rhs2 ((ofP (c2 l 1), ofP (c2 l 0)) : F2)) (decide (top3 l = 5))).2, .c (.bool false)] = flat [.q ((ofP (c2 l 1), ofP (c2 l 0)) : F2).1, .q ((ofP (c2 l 1), ofP (c2 l 0)) : F2).2, .q (neg2 (rt2 (rhs2 ((ofP (c2 l 1), ofP (c2 l 0)) : F2)))).1, .q (neg2 (rt2 (rhs2 ((ofP (c2 l 1), ofP (c2 l 0)) : F2)))).2, .c (.bool false)] from by rw [(show decide (top3 l = 5) = true from by rw [ht]; rfl)]; rfl)
      (And.intro (show sml2 ((((ofP (c2 l 1), ofP (c2 l 0)) : F2).1.val, ((ofP (c2 l 1), ofP (c2 l 0)) : F2).2.val), ((neg2 (rt2 (rhs2 ((ofP (c2 l 1), ofP (c2 l 0)) : F2)))).1.val, (neg2 (rt2 (rhs2 ((ofP (c2 l 1), ofP (c2 l 0)) : F2)))).2.val), false) ∧ may2 ((((ofP (c2 l 1), ofP (c2 l 0)) : F2).1.val, ((ofP (c2 l 1), ofP (c2 l 0)) : F2).2.val), ((neg2 (rt2 (rhs2 ((ofP (c2 l 1), ofP (c2 l 0)) : F2)))).1.val, (neg2 (rt2 (rhs2 ((ofP (c2 l 1), ofP (c2 l 0)) : F2)))).2.val), false) ∧ grp2 ((((ofP (c2 l 1), ofP (c2 l 0)) : F2).1.val, ((ofP (c2 l 1), ofP (c2 l 0)) : F2).2.val), ((neg2 (rt2 (rhs2 ((ofP (c2 l 1), ofP (c2 l 0)) : F2)))).1.val, (neg2 (rt2 (rhs2 ((ofP (c2 l 1), ofP (c2 l 0)) : F2)))).2.val), false) from ⟨small_pt2 _ _ _, may_rt5 ((ofP (c2 l 1), ofP (c2 l 0)) : F2) hq, hg⟩)
      (And.intro (zglp2_8 l hq)
      (And.intro (zglp2_4 l)
      (And.intro (zglp2_5 l hq)
      (And.intro (zglp2_6 l hq)
      (And.intro (zglp2_7 l hL ht hx)
      (And.intro (show sh2 l ∧ (c2 l 0 < Pp ∧ c2 l 1 < Pp) ∧ sq2 (rhs2 ((ofP (c2 l 1), ofP (c2 l 0)) : F2)) ∧ grp2 ((((ofP (c2 l 1), ofP (c2 l 0)) : F2).1.val, ((ofP (c2 l 1), ofP (c2 l 0)) : F2).2.val), ((sy2 (rhs2 ((ofP (c2 l 1), ofP (c2 l 0)) : F2)) (decide (top3 l = 5))).1.val, (sy2 (rhs2 ((ofP (c2 l 1), ofP (c2 l 0)) : F2)) (decide (top3 l = 5))).2.val), false) from ⟨⟨hL, .inr ht⟩, hx, hq, by rw [(show decide (top3 l = 5) = true from by rw [ht]; rfl)]; exact hg⟩) trivial))))))))
theorem p2_ln (l : List UInt8) (h : lo2 l ∧ (c2 l 0 < Pp ∧ c2 l 1 < Pp ∧ c2 l 2 < Pp ∧ c2 l 3 < Pp) ∧ ¬ may2 ((((ofP (c2 l 1), ofP (c2 l 0)) : F2).1.val, ((ofP (c2 l 1), ofP (c2 l 0)) : F2).2.val), (((ofP (c2 l 3), ofP (c2 l 2)) : F2).1.val, ((ofP (c2 l 3), ofP (c2 l 2)) : F2).2.val), false)) : Gives Tryz.prog 3 [.t (.v (.string (ofL l)))] (.v (.bool true)) :=
  fn_gives_at (P := Tryz.prog) (X := rulesY _) (env := [eGet2, eRd96, eAlive, eRight2r, eSq2r, eDRoot, eHigh2r, eNeg2r, eROn2, eGrp2]) ⟨eGet2_ok, eRd96_ok, eAlive_ok, eRight2r_ok, eSq2r_ok, eDRoot_ok, eHigh2r_ok, eNeg2r_ok, eROn2_ok, eGrp2_ok, trivial⟩ Tryz.func3 0 (oL [(2, wO 9), (10, { ch := 0, hi := fun _ => 0, ex := 4, av := fun k => .tp [.ag [.c (.bool false), .c (.bool false), .c (.bool false), .sx k 4], .v (.int .i64 0)], lp := some { kd := 9, I := { n := 0, sl := [] }, ex := .normal, E := { n := 0, sl := [], hp := [(0, .gr [.q (ofP (c2 l 0)), .q (ofP (c2 l 1)), .q (ofP (c2 l 2)), .q (ofP (c2 l 3))] 24 6)] }, fr := 0 } }), (49, wO 1), (57, wO 0)]) (by kernel_rfl) ⟨_, rfl⟩
      (And.intro zglp2_0
      (And.intro (show sml2 ((((ofP (c2 l 1), ofP (c2 l 0)) : F2).1.val, ((ofP (c2 l 1), ofP (c2 l 0)) : F2).2.val), (((ofP (c2 l 3), ofP (c2 l 2)) : F2).1.val, ((ofP (c2 l 3), ofP (c2 l 2)) : F2).2.val), false) ∧ ¬ may2 ((((ofP (c2 l 1), ofP (c2 l 0)) : F2).1.val, ((ofP (c2 l 1), ofP (c2 l 0)) : F2).2.val), (((ofP (c2 l 3), ofP (c2 l 2)) : F2).1.val, ((ofP (c2 l 3), ofP (c2 l 2)) : F2).2.val), false) from ⟨small_pt2 _ _ _, h.2.2⟩)
      (And.intro (show GivesN Tryz.prog 5 [.t (.v (.string (ofL l))), .t (.v (.int .i64 96))] (fun k => .tp [.ag [.c (.bool false), .c (.bool false), .c (.bool false), .sx k 4], .v (.int .i64 0)]) (.gr [.q (ofP (c2 l 0)), .q (ofP (c2 l 1)), .q (ofP (c2 l 2)), .q (ofP (c2 l 3))] 24 6) from rdk96_l l h.1.1 h.1.2 h.2.1.1 h.2.1.2.1 h.2.1.2.2.1 h.2.1.2.2.2)
      (And.intro (show lo2 l ∧ (c2 l 0 < Pp ∧ c2 l 1 < Pp ∧ c2 l 2 < Pp ∧ c2 l 3 < Pp) ∧ ¬ may2 ((((ofP (c2 l 1), ofP (c2 l 0)) : F2).1.val, ((ofP (c2 l 1), ofP (c2 l 0)) : F2).2.val), (((ofP (c2 l 3), ofP (c2 l 2)) : F2).1.val, ((ofP (c2 l 3), ofP (c2 l 2)) : F2).2.val), false) from h) trivial))))
theorem p2_lg (l : List UInt8) (h : lo2 l ∧ (c2 l 0 < Pp ∧ c2 l 1 < Pp ∧ c2 l 2 < Pp ∧ c2 l 3 < Pp) ∧ may2 ((((ofP (c2 l 1), ofP (c2 l 0)) : F2).1.val, ((ofP (c2 l 1), ofP (c2 l 0)) : F2).2.val), (((ofP (c2 l 3), ofP (c2 l 2)) : F2).1.val, ((ofP (c2 l 3), ofP (c2 l 2)) : F2).2.val), false) ∧ ¬ grp2 ((((ofP (c2 l 1), ofP (c2 l 0)) : F2).1.val, ((ofP (c2 l 1), ofP (c2 l 0)) : F2).2.val), (((ofP (c2 l 3), ofP (c2 l 2)) : F2).1.val, ((ofP (c2 l 3), ofP (c2 l 2)) : F2).2.val), false)) : Gives Tryz.prog 3 [.t (.v (.string (ofL l)))] (.v (.bool true)) :=
  fn_gives_at (P := Tryz.prog) (X := rulesY _) (env := [eGet2, eRd96, eAlive, eRight2r, eSq2r, eDRoot, eHigh2r, eNeg2r, eROn2, eGrp2]) ⟨eGet2_ok, eRd96_ok, eAlive_ok, eRight2r_ok, eSq2r_ok, eDRoot_ok, eHigh2r_ok, eNeg2r_ok, eROn2_ok, eGrp2_ok, trivial⟩ Tryz.func3 0 (oL [(2, wO 10), (10, { ch := 0, hi := fun _ => 0, ex := 4, av := fun k => .tp [.ag [.c (.bool false), .c (.bool false), .c (.bool false), .sx k 4], .v (.int .i64 0)], lp := some { kd := 9, I := { n := 0, sl := [] }, ex := .normal, E := { n := 0, sl := [], hp := [(0, .gr [.q (ofP (c2 l 0)), .q (ofP (c2 l 1)), .q (ofP (c2 l 2)), .q (ofP (c2 l 3))] 24 6)] }, fr := 0 } }), (49, wO 0), (53, wO 1), (61, wO 0)]) (by kernel_rfl) ⟨_, rfl⟩
      (And.intro zglp2_0
      (And.intro (show sml2 ((((ofP (c2 l 1), ofP (c2 l 0)) : F2).1.val, ((ofP (c2 l 1), ofP (c2 l 0)) : F2).2.val), (((ofP (c2 l 3), ofP (c2 l 2)) : F2).1.val, ((ofP (c2 l 3), ofP (c2 l 2)) : F2).2.val), false) ∧ may2 ((((ofP (c2 l 1), ofP (c2 l 0)) : F2).1.val, ((ofP (c2 l 1), ofP (c2 l 0)) : F2).2.val), (((ofP (c2 l 3), ofP (c2 l 2)) : F2).1.val, ((ofP (c2 l 3), ofP (c2 l 2)) : F2).2.val), false) ∧ ¬ grp2 ((((ofP (c2 l 1), ofP (c2 l 0)) : F2).1.val, ((ofP (c2 l 1), ofP (c2 l 0)) : F2).2.val), (((ofP (c2 l 3), ofP (c2 l 2)) : F2).1.val, ((ofP (c2 l 3), ofP (c2 l 2)) : F2).2.val), false) from ⟨small_pt2 _ _ _, h.2.2.1, h.2.2.2⟩)
      (And.intro (show sml2 ((((ofP (c2 l 1), ofP (c2 l 0)) : F2).1.val, ((ofP (c2 l 1), ofP (c2 l 0)) : F2).2.val), (((ofP (c2 l 3), ofP (c2 l 2)) : F2).1.val, ((ofP (c2 l 3), ofP (c2 l 2)) : F2).2.val), false) ∧ may2 ((((ofP (c2 l 1), ofP (c2 l 0)) : F2).1.val, ((ofP (c2 l 1), ofP (c2 l 0)) : F2).2.val), (((ofP (c2 l 3), ofP (c2 l 2)) : F2).1.val, ((ofP (c2 l 3), ofP (c2 l 2)) : F2).2.val), false) from ⟨small_pt2 _ _ _, h.2.2.1⟩)
      (And.intro (show GivesN Tryz.prog 5 [.t (.v (.string (ofL l))), .t (.v (.int .i64 96))] (fun k => .tp [.ag [.c (.bool false), .c (.bool false), .c (.bool false), .sx k 4], .v (.int .i64 0)]) (.gr [.q (ofP (c2 l 0)), .q (ofP (c2 l 1)), .q (ofP (c2 l 2)), .q (ofP (c2 l 3))] 24 6) from rdk96_l l h.1.1 h.1.2 h.2.1.1 h.2.1.2.1 h.2.1.2.2.1 h.2.1.2.2.2)
      (And.intro (show lo2 l ∧ (c2 l 0 < Pp ∧ c2 l 1 < Pp ∧ c2 l 2 < Pp ∧ c2 l 3 < Pp) ∧ may2 ((((ofP (c2 l 1), ofP (c2 l 0)) : F2).1.val, ((ofP (c2 l 1), ofP (c2 l 0)) : F2).2.val), (((ofP (c2 l 3), ofP (c2 l 2)) : F2).1.val, ((ofP (c2 l 3), ofP (c2 l 2)) : F2).2.val), false) ∧ ¬ grp2 ((((ofP (c2 l 1), ofP (c2 l 0)) : F2).1.val, ((ofP (c2 l 1), ofP (c2 l 0)) : F2).2.val), (((ofP (c2 l 3), ofP (c2 l 2)) : F2).1.val, ((ofP (c2 l 3), ofP (c2 l 2)) : F2).2.val), false) from h) trivial)))))
theorem p2_lk (l : List UInt8) (h : lo2 l ∧ (c2 l 0 < Pp ∧ c2 l 1 < Pp ∧ c2 l 2 < Pp ∧ c2 l 3 < Pp) ∧ may2 ((((ofP (c2 l 1), ofP (c2 l 0)) : F2).1.val, ((ofP (c2 l 1), ofP (c2 l 0)) : F2).2.val), (((ofP (c2 l 3), ofP (c2 l 2)) : F2).1.val, ((ofP (c2 l 3), ofP (c2 l 2)) : F2).2.val), false) ∧ grp2 ((((ofP (c2 l 1), ofP (c2 l 0)) : F2).1.val, ((ofP (c2 l 1), ofP (c2 l 0)) : F2).2.val), (((ofP (c2 l 3), ofP (c2 l 2)) : F2).1.val, ((ofP (c2 l 3), ofP (c2 l 2)) : F2).2.val), false)) : Gives Tryz.prog 3 [.t (.v (.string (ofL l)))] (.v (.bool true)) :=
  fn_gives_at (P := Tryz.prog) (X := rulesY _) (env := [eGet2, eRd96, eAlive, eRight2r, eSq2r, eDRoot, eHigh2r, eNeg2r, eROn2, eGrp2]) ⟨eGet2_ok, eRd96_ok, eAlive_ok, eRight2r_ok, eSq2r_ok, eDRoot_ok, eHigh2r_ok, eNeg2r_ok, eROn2_ok, eGrp2_ok, trivial⟩ Tryz.func3 0 (oL [(2, wO 11), (10, { ch := 0, hi := fun _ => 0, ex := 4, av := fun k => .tp [.ag [.c (.bool false), .c (.bool false), .c (.bool false), .sx k 4], .v (.int .i64 0)], lp := some { kd := 9, I := { n := 0, sl := [] }, ex := .normal, E := { n := 0, sl := [], hp := [(0, .gr [.q (ofP (c2 l 0)), .q (ofP (c2 l 1)), .q (ofP (c2 l 2)), .q (ofP (c2 l 3))] 24 6)] }, fr := 0 } }), (49, wO 0), (53, wO 0), (61, wO 0)]) (by kernel_rfl) ⟨_, rfl⟩
      (And.intro (show flat [.q ((ofP (c2 l 1), ofP (c2 l 0)) : F2).1, .q ((ofP (c2 l 1), ofP (c2 l 0)) : F2).2, .q ((ofP (c2 l 3), ofP (c2 l 2)) : F2).1, .q ((ofP (c2 l 3), ofP (c2 l 2)) : F2).2, .c (.bool false)] = flat [.q ((ofP (c2 l 1), ofP (c2 l 0)) : F2).1, .q ((ofP (c2 l 1), ofP (c2 l 0)) : F2).2, .q ((ofP (c2 l 3), ofP (c2 l 2)) : F2).1, .q ((ofP (c2 l 3), ofP (c2 l 2)) : F2).2, .c (.bool false)] from rfl)
      (And.intro (show sml2 ((((ofP (c2 l 1), ofP (c2 l 0)) : F2).1.val, ((ofP (c2 l 1), ofP (c2 l 0)) : F2).2.val), (((ofP (c2 l 3), ofP (c2 l 2)) : F2).1.val, ((ofP (c2 l 3), ofP (c2 l 2)) : F2).2.val), false) ∧ may2 ((((ofP (c2 l 1), ofP (c2 l 0)) : F2).1.val, ((ofP (c2 l 1), ofP (c2 l 0)) : F2).2.val), (((ofP (c2 l 3), ofP (c2 l 2)) : F2).1.val, ((ofP (c2 l 3), ofP (c2 l 2)) : F2).2.val), false) ∧ grp2 ((((ofP (c2 l 1), ofP (c2 l 0)) : F2).1.val, ((ofP (c2 l 1), ofP (c2 l 0)) : F2).2.val), (((ofP (c2 l 3), ofP (c2 l 2)) : F2).1.val, ((ofP (c2 l 3), ofP (c2 l 2)) : F2).2.val), false) from ⟨small_pt2 _ _ _, h.2.2.1, h.2.2.2⟩)
      (And.intro (show sml2 ((((ofP (c2 l 1), ofP (c2 l 0)) : F2).1.val, ((ofP (c2 l 1), ofP (c2 l 0)) : F2).2.val), (((ofP (c2 l 3), ofP (c2 l 2)) : F2).1.val, ((ofP (c2 l 3), ofP (c2 l 2)) : F2).2.val), false) ∧ may2 ((((ofP (c2 l 1), ofP (c2 l 0)) : F2).1.val, ((ofP (c2 l 1), ofP (c2 l 0)) : F2).2.val), (((ofP (c2 l 3), ofP (c2 l 2)) : F2).1.val, ((ofP (c2 l 3), ofP (c2 l 2)) : F2).2.val), false) from ⟨small_pt2 _ _ _, h.2.2.1⟩)
      (And.intro (show GivesN Tryz.prog 5 [.t (.v (.string (ofL l))), .t (.v (.int .i64 96))] (fun k => .tp [.ag [.c (.bool false), .c (.bool false), .c (.bool false), .sx k 4], .v (.int .i64 0)]) (.gr [.q (ofP (c2 l 0)), .q (ofP (c2 l 1)), .q (ofP (c2 l 2)), .q (ofP (c2 l 3))] 24 6) from rdk96_l l h.1.1 h.1.2 h.2.1.1 h.2.1.2.1 h.2.1.2.2.1 h.2.1.2.2.2)
      (And.intro (show lo2 l ∧ (c2 l 0 < Pp ∧ c2 l 1 < Pp ∧ c2 l 2 < Pp ∧ c2 l 3 < Pp) ∧ may2 ((((ofP (c2 l 1), ofP (c2 l 0)) : F2).1.val, ((ofP (c2 l 1), ofP (c2 l 0)) : F2).2.val), (((ofP (c2 l 3), ofP (c2 l 2)) : F2).1.val, ((ofP (c2 l 3), ofP (c2 l 2)) : F2).2.val), false) ∧ grp2 ((((ofP (c2 l 1), ofP (c2 l 0)) : F2).1.val, ((ofP (c2 l 1), ofP (c2 l 0)) : F2).2.val), (((ofP (c2 l 3), ofP (c2 l 2)) : F2).1.val, ((ofP (c2 l 3), ofP (c2 l 2)) : F2).2.val), false) from h) trivial)))))
theorem pointReadsTwo_list (l : List UInt8) : Gives Tryz.prog 3 [.t (.v (.string (ofL l)))] (.v (.bool true)) := by
  by_cases h0 : l.length ≠ 96 ∧ l.length ≠ 192
  · exact p2_e0 l h0
  by_cases hs : (l.length = 96 ∧ top3 l ≠ 4 ∧ top3 l ≠ 5 ∧ top3 l ≠ 6) ∨ (l.length = 192 ∧ top3 l ≠ 0 ∧ top3 l ≠ 2)
  · exact p2_e1 l hs
  by_cases hi : (l.length = 96 ∧ top3 l = 6) ∨ (l.length = 192 ∧ top3 l = 2)
  · by_cases hz : allZ (maskL l)
    · rcases hi with hi | hi
      · exact p2_i6 l ⟨hi, hz⟩
      · exact p2_i2 l ⟨hi, hz⟩
    · exact p2_e2 l ⟨hi, hz⟩
  rcases form2r h0 hs hi with s | s
  · by_cases hx : c2 l 0 < Pp ∧ c2 l 1 < Pp
    · by_cases hq : sq2 (rhs2 ((ofP (c2 l 1), ofP (c2 l 0)) : F2))
      · obtain ⟨hL, ht | ht⟩ := s
        · by_cases hg : grp2 ((((ofP (c2 l 1), ofP (c2 l 0)) : F2).1.val, ((ofP (c2 l 1), ofP (c2 l 0)) : F2).2.val), ((rt2 (rhs2 ((ofP (c2 l 1), ofP (c2 l 0)) : F2))).1.val, (rt2 (rhs2 ((ofP (c2 l 1), ofP (c2 l 0)) : F2))).2.val), false)
          · exact p2_k4 l hL ht hx hq hg
          · exact p2_g4 l hL ht hx hq hg
        · by_cases hg : grp2 ((((ofP (c2 l 1), ofP (c2 l 0)) : F2).1.val, ((ofP (c2 l 1), ofP (c2 l 0)) : F2).2.val), ((neg2 (rt2 (rhs2 ((ofP (c2 l 1), ofP (c2 l 0)) : F2)))).1.val, (neg2 (rt2 (rhs2 ((ofP (c2 l 1), ofP (c2 l 0)) : F2)))).2.val), false)
          · exact p2_k5 l hL ht hx hq hg
          · exact p2_g5 l hL ht hx hq hg
      · obtain ⟨hL, ht | ht⟩ := s
        · exact p2_n4 l hL ht hx hq
        · exact p2_n5 l hL ht hx hq
    · exact p2_e4 l ⟨s, hx⟩
  · by_cases hx : c2 l 0 < Pp ∧ c2 l 1 < Pp ∧ c2 l 2 < Pp ∧ c2 l 3 < Pp
    · by_cases hm : may2 ((((ofP (c2 l 1), ofP (c2 l 0)) : F2).1.val, ((ofP (c2 l 1), ofP (c2 l 0)) : F2).2.val), (((ofP (c2 l 3), ofP (c2 l 2)) : F2).1.val, ((ofP (c2 l 3), ofP (c2 l 2)) : F2).2.val), false)
      · by_cases hg : grp2 ((((ofP (c2 l 1), ofP (c2 l 0)) : F2).1.val, ((ofP (c2 l 1), ofP (c2 l 0)) : F2).2.val), (((ofP (c2 l 3), ofP (c2 l 2)) : F2).1.val, ((ofP (c2 l 3), ofP (c2 l 2)) : F2).2.val), false)
        · exact p2_lk l ⟨s, hx, hm, hg⟩
        · exact p2_lg l ⟨s, hx, hm, hg⟩
      · exact p2_ln l ⟨s, hx, hm⟩
    · exact p2_e8 l ⟨s, hx⟩
theorem pointReadsTwo_gives (s : ByteArray) {p : Prop} (_ : p) : Gives Tryz.prog 3 [.t (.v (.string s))] (.v (.bool true)) := by
  have h := pointReadsTwo_list s.data.toList
  rwa [show ofL s.data.toList = s from by unfold ofL; rw [Array.toArray_toList]] at h
theorem Tryz.own : ownKnob Tryz.prog.godebug = none := by kernel_rfl

set_option maxRecDepth 100000 in
theorem pointReadsTwo_lifted (os : Os) (started : os.Started) (H : Type) (enc : TypeId × Value → H) :
    ReturnsInHanded {} Tryz.checked os 3 .any (Rows.pointReadsTwoSpec.pre6 enc Tryz.prog Tryz.f3 Rows.pointReadsTwoRow.domain false) (Rows.pointReadsTwoSpec.post enc Tryz.prog Tryz.f3 false true false false) := by
  refine returnsInHanded_of_change (C := Tryz.checked) Tryz.own started (by kernel_rfl) Tryz.func3
    (ChangeSpec.witness6 (enc := enc) (C := Tryz.checked) false ⟨#[], #[.string ByteArray.empty], []⟩ 8 (by kernel_rfl) (by kernel_rfl) (by kernel_rfl) (by kernel_rfl)) ?_
  intro W base args ds gs before hval0 hW _ _
  have hval : ∀ (j : Nat) t v, Tryz.f3.params[j]? = some t → args[j]? = some v → Value.okWide Tryz.prog W .any base t v := hval0
  have hW' := hW
  obtain ⟨p, q, hA0, hV, rfl, _, _⟩ := hW
  have hA : DataW.TrodAll enc Tryz.prog W 0 (fun _ => true) true Tryz.f3.params.toList args.toList ds p := hA0
  rw [Tryz.params3] at hA hval
  obtain ⟨v0, d0, rfl, rfl, h0⟩ := trodAll_one hA
  obtain ⟨rfl, rfl⟩ := trodVars_none hV
  obtain ⟨x0, rfl, rfl, rfl, b0⟩ := Go.ChangeMaps.open_string Tryz.underlying9 (hval 0 _ v0 rfl rfl) h0
  clear hA0 hval0
  simp only [List.append_nil] at hW'
  obtain ⟨v, hv, hrun⟩ := pointReadsTwo_gives x0 b0
  simp only [AV.val?, Option.some.injEq] at hv
  subst hv
  refine (hrun W [_] ⟨rfl, trivial⟩).mono fun e W' ⟨he, hb⟩ => ?_
  subst he
  exact ⟨_, rfl, _, _, _, [], [], [], hW', trodAll_mk1 (shut_bool Tryz.underlying4 true), trodAll_mk1 (Go.ChangeMaps.shut_string Tryz.underlying9 b0), rfl, hb.frame _, fun h => by cases h⟩

theorem pointReadsTwo_holds : Rows.PointReadsTwoSaid :=
  OpenClaim.holds_of_wide 3 Tryz.f3 rfl rfl rfl rfl rfl rfl rfl ⟨rfl, rfl, rfl, rfl, rfl⟩ rfl rfl rfl rfl rfl (by kernel_rfl) Tryz.func3 (by kernel_rfl)
    (of_decide_eq_true (by kernel_rfl)) (by unfold Func.isWrapper; first | (rw [if_pos (by decide +kernel)]; kernel_rfl) | (rw [if_neg (by decide +kernel)]; exact ⟨rfl, rfl⟩))
    (fun os started H enc _ => pointReadsTwo_lifted os started H enc)
end Go.Proofs.YtbejkhmdmojojaaGreat
