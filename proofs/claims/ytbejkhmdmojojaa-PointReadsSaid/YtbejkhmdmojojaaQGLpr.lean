/- Whatever bytes are given, chirographlaw10.PointReads says true: they are read as just that point of the first curve, or refused. -/
import Derived.Test.YtbejkhmdmojojaaQOpn
import Derived.Test.YtbejkhmdmojojaaQGe
import Derived.Test.YtbejkhmdmojojaaQAl3
import Derived.Test.YtbejkhmdmojojaaQGc
import Derived.Test.YtbejkhmdmojojaaQGr
import Derived.Test.YtbejkhmdmojojaaQOpt
import Derived.ChangeMaps5
import Derived.Test.YtbejkhmdmojojaaRows
/- Arguments that are points: two coordinates of numbers of 64 bits and a bool. Nothing here names a program. -/
set_option linter.unusedSimpArgs false
set_option linter.unusedVariables false
namespace Go.Ev
open Go.ChangeShapes Go.WideShapes Go.ChangeAt Go.RowKit

section
variable {H : Type} {enc : TypeId × Value → H} {P : Program} {w w' : World} {base base' : Nat} {spare spare' : Nat → Bool} {held held' : Bool}

end

end Go.Ev

/- Whatever bytes are given, chirographlaw10.PointReads says true: they are read as just that point of the first curve, or refused. -/
set_option linter.unusedSimpArgs false
set_option linter.unusedVariables false
namespace Go.Proofs.Ytbejkhmdmojojaa
open Go.Ev Go.ChangeShapes Go.WideShapes Go.ChangeAt Go.RowKit
theorem right1_run (x : Fin Pp) : Gives Try.prog 21 [.t (.ag [.q x])] (.ag [.q (x * (x * x) + ofP 4)]) :=
  fn_gives (env := [eMulPr, eAddP]) ⟨eMulPr_ok, eAddP_ok, trivial⟩ Try.func21 0 o0 (by kernel_rfl) trivial
def eRight1r : Entry := entry1 21 parQ.x (fun x => [(none, .ag [.q (rhs1 x)])])
theorem eRight1r_ok : eRight1r.OK Try.prog := entry1_ok (fun args w => Go.Proofs.enters_of (P := Try.prog) Try.func21 (by kernel_rfl) rfl args w) (fun x => only (by
  have h := right1_run x
  rw [show x * (x * x) + ofP 4 = rhs1 x by unfold rhs1; grind] at h
  exact h))
theorem form1r {l : List UInt8} (h0 : ¬ (l.length ≠ 48 ∧ l.length ≠ 96)) (hs : ¬ ((l.length = 48 ∧ top3 l ≠ 4 ∧ top3 l ≠ 5 ∧ top3 l ≠ 6) ∨ (l.length = 96 ∧ top3 l ≠ 0 ∧ top3 l ≠ 2))) (hi : ¬ ((l.length = 48 ∧ top3 l = 6) ∨ (l.length = 96 ∧ top3 l = 2))) : sh1 l ∨ lo1 l := by
  unfold sh1 lo1
  omega
theorem smt_in (x : Fin Pp) : smtP (.inl x) := by first | trivial | (unfold smtP; trivial) | simp [smtP]
theorem pr_e0 (l : List UInt8) (h : l.length ≠ 48 ∧ l.length ≠ 96) : Gives Try.prog 4 [.t (.v (.string (ofL l)))] (.v (.bool true)) :=
  fn_gives_at (P := Try.prog) (X := rulesY _) (env := [eGet1, eRd48, eAlive, eRight1r, eSquareP, eFRootP, eHighPr, eNegPr, eROn1, eGrp1]) ⟨eGet1_ok, eRd48_ok, eAlive_ok, eRight1r_ok, eSquareP_ok, eFRootP_ok, eHighPr_ok, eNegPr_ok, eROn1_ok, eGrp1_ok, trivial⟩ Try.func4 0 (oL [(2, wO 0), (10, wO 0), (27, wO 0)]) (by kernel_rfl) ⟨_, rfl⟩
      (And.intro (show flat [.c (.int .u64 0), .c (.int .u64 0), .c (.int .u64 0), .c (.int .u64 0), .c (.int .u64 0), .c (.int .u64 0), .c (.int .u64 0), .c (.int .u64 0), .c (.int .u64 0), .c (.int .u64 0), .c (.int .u64 0), .c (.int .u64 0), .c (.bool false)] = flat [.c (.int .u64 0), .c (.int .u64 0), .c (.int .u64 0), .c (.int .u64 0), .c (.int .u64 0), .c (.int .u64 0), .c (.int .u64 0), .c (.int .u64 0), .c (.int .u64 0), .c (.int .u64 0), .c (.int .u64 0), .c (.int .u64 0), .c (.bool false)] from rfl)
      (And.intro (show l.length ≠ 48 ∧ l.length ≠ 96 from h)
      (And.intro (show l.length ≠ 48 ∧ l.length ≠ 96 from h) trivial)))
theorem pr_e1 (l : List UInt8) (h : (l.length = 48 ∧ top3 l ≠ 4 ∧ top3 l ≠ 5 ∧ top3 l ≠ 6) ∨ (l.length = 96 ∧ top3 l ≠ 0 ∧ top3 l ≠ 2)) : Gives Try.prog 4 [.t (.v (.string (ofL l)))] (.v (.bool true)) :=
  fn_gives_at (P := Try.prog) (X := rulesY _) (env := [eGet1, eRd48, eAlive, eRight1r, eSquareP, eFRootP, eHighPr, eNegPr, eROn1, eGrp1]) ⟨eGet1_ok, eRd48_ok, eAlive_ok, eRight1r_ok, eSquareP_ok, eFRootP_ok, eHighPr_ok, eNegPr_ok, eROn1_ok, eGrp1_ok, trivial⟩ Try.func4 0 (oL [(2, wO 1), (10, wO 1), (27, wO 0)]) (by kernel_rfl) ⟨_, rfl⟩
      (And.intro (show flat [.c (.int .u64 0), .c (.int .u64 0), .c (.int .u64 0), .c (.int .u64 0), .c (.int .u64 0), .c (.int .u64 0), .c (.int .u64 0), .c (.int .u64 0), .c (.int .u64 0), .c (.int .u64 0), .c (.int .u64 0), .c (.int .u64 0), .c (.bool false)] = flat [.c (.int .u64 0), .c (.int .u64 0), .c (.int .u64 0), .c (.int .u64 0), .c (.int .u64 0), .c (.int .u64 0), .c (.int .u64 0), .c (.int .u64 0), .c (.int .u64 0), .c (.int .u64 0), .c (.int .u64 0), .c (.int .u64 0), .c (.bool false)] from rfl)
      (And.intro (show (l.length = 48 ∧ top3 l ≠ 4 ∧ top3 l ≠ 5 ∧ top3 l ≠ 6) ∨ (l.length = 96 ∧ top3 l ≠ 0 ∧ top3 l ≠ 2) from h)
      (And.intro (show (l.length = 48 ∧ top3 l ≠ 4 ∧ top3 l ≠ 5 ∧ top3 l ≠ 6) ∨ (l.length = 96 ∧ top3 l ≠ 0 ∧ top3 l ≠ 2) from h) trivial)))
theorem pr_e2 (l : List UInt8) (h : ((l.length = 48 ∧ top3 l = 6) ∨ (l.length = 96 ∧ top3 l = 2)) ∧ ¬ allZ (maskL l)) : Gives Try.prog 4 [.t (.v (.string (ofL l)))] (.v (.bool true)) :=
  fn_gives_at (P := Try.prog) (X := rulesY _) (env := [eGet1, eRd48, eAlive, eRight1r, eSquareP, eFRootP, eHighPr, eNegPr, eROn1, eGrp1]) ⟨eGet1_ok, eRd48_ok, eAlive_ok, eRight1r_ok, eSquareP_ok, eFRootP_ok, eHighPr_ok, eNegPr_ok, eROn1_ok, eGrp1_ok, trivial⟩ Try.func4 0 (oL [(2, wO 2), (10, wO 2), (27, wO 0)]) (by kernel_rfl) ⟨_, rfl⟩
      (And.intro (show flat [.c (.int .u64 0), .c (.int .u64 0), .c (.int .u64 0), .c (.int .u64 0), .c (.int .u64 0), .c (.int .u64 0), .c (.int .u64 0), .c (.int .u64 0), .c (.int .u64 0), .c (.int .u64 0), .c (.int .u64 0), .c (.int .u64 0), .c (.bool false)] = flat [.c (.int .u64 0), .c (.int .u64 0), .c (.int .u64 0), .c (.int .u64 0), .c (.int .u64 0), .c (.int .u64 0), .c (.int .u64 0), .c (.int .u64 0), .c (.int .u64 0), .c (.int .u64 0), .c (.int .u64 0), .c (.int .u64 0), .c (.bool false)] from rfl)
      (And.intro (show ((l.length = 48 ∧ top3 l = 6) ∨ (l.length = 96 ∧ top3 l = 2)) ∧ ¬ allZ (maskL l) from h)
      (And.intro (show ((l.length = 48 ∧ top3 l = 6) ∨ (l.length = 96 ∧ top3 l = 2)) ∧ ¬ allZ (maskL l) from h) trivial)))
theorem pr_e4 (l : List UInt8) (h : sh1 l ∧ ¬ nX l < Pp) : Gives Try.prog 4 [.t (.v (.string (ofL l)))] (.v (.bool true)) :=
  fn_gives_at (P := Try.prog) (X := rulesY _) (env := [eGet1, eRd48, eAlive, eRight1r, eSquareP, eFRootP, eHighPr, eNegPr, eROn1, eGrp1]) ⟨eGet1_ok, eRd48_ok, eAlive_ok, eRight1r_ok, eSquareP_ok, eFRootP_ok, eHighPr_ok, eNegPr_ok, eROn1_ok, eGrp1_ok, trivial⟩ Try.func4 0 (oL [(2, wO 4), (10, wO 5), (27, wO 0)]) (by kernel_rfl) ⟨_, rfl⟩
      (And.intro (show flat [.c (.int .u64 0), .c (.int .u64 0), .c (.int .u64 0), .c (.int .u64 0), .c (.int .u64 0), .c (.int .u64 0), .c (.int .u64 0), .c (.int .u64 0), .c (.int .u64 0), .c (.int .u64 0), .c (.int .u64 0), .c (.int .u64 0), .c (.bool false)] = flat [.c (.int .u64 0), .c (.int .u64 0), .c (.int .u64 0), .c (.int .u64 0), .c (.int .u64 0), .c (.int .u64 0), .c (.int .u64 0), .c (.int .u64 0), .c (.int .u64 0), .c (.int .u64 0), .c (.int .u64 0), .c (.int .u64 0), .c (.bool false)] from rfl)
      (And.intro (show sh1 l ∧ ¬ nX l < Pp from h)
      (And.intro (show sh1 l ∧ ¬ nX l < Pp from h) trivial)))
theorem pr_e8 (l : List UInt8) (h : lo1 l ∧ ¬ (nX l < Pp ∧ nY l < Pp)) : Gives Try.prog 4 [.t (.v (.string (ofL l)))] (.v (.bool true)) :=
  fn_gives_at (P := Try.prog) (X := rulesY _) (env := [eGet1, eRd48, eAlive, eRight1r, eSquareP, eFRootP, eHighPr, eNegPr, eROn1, eGrp1]) ⟨eGet1_ok, eRd48_ok, eAlive_ok, eRight1r_ok, eSquareP_ok, eFRootP_ok, eHighPr_ok, eNegPr_ok, eROn1_ok, eGrp1_ok, trivial⟩ Try.func4 0 (oL [(2, wO 8), (10, wO 6), (27, wO 0)]) (by kernel_rfl) ⟨_, rfl⟩
      (And.intro (show flat [.c (.int .u64 0), .c (.int .u64 0), .c (.int .u64 0), .c (.int .u64 0), .c (.int .u64 0), .c (.int .u64 0), .c (.int .u64 0), .c (.int .u64 0), .c (.int .u64 0), .c (.int .u64 0), .c (.int .u64 0), .c (.int .u64 0), .c (.bool false)] = flat [.c (.int .u64 0), .c (.int .u64 0), .c (.int .u64 0), .c (.int .u64 0), .c (.int .u64 0), .c (.int .u64 0), .c (.int .u64 0), .c (.int .u64 0), .c (.int .u64 0), .c (.int .u64 0), .c (.int .u64 0), .c (.int .u64 0), .c (.bool false)] from rfl)
      (And.intro (show lo1 l ∧ ¬ (nX l < Pp ∧ nY l < Pp) from h)
      (And.intro (show lo1 l ∧ ¬ (nX l < Pp ∧ nY l < Pp) from h) trivial)))
theorem pr_i6 (l : List UInt8) (h : (l.length = 48 ∧ top3 l = 6) ∧ allZ (maskL l)) : Gives Try.prog 4 [.t (.v (.string (ofL l)))] (.v (.bool true)) :=
  fn_gives_at (P := Try.prog) (X := rulesY _) (env := [eGet1, eRd48, eAlive, eRight1r, eSquareP, eFRootP, eHighPr, eNegPr, eROn1, eGrp1]) ⟨eGet1_ok, eRd48_ok, eAlive_ok, eRight1r_ok, eSquareP_ok, eFRootP_ok, eHighPr_ok, eNegPr_ok, eROn1_ok, eGrp1_ok, trivial⟩ Try.func4 0 (oL [(2, wO 3), (10, wO 3), (28, wO 0)]) (by kernel_rfl) ⟨_, rfl⟩
      (And.intro (show flat [.c (.int .u64 0), .c (.int .u64 0), .c (.int .u64 0), .c (.int .u64 0), .c (.int .u64 0), .c (.int .u64 0), .c (.int .u64 0), .c (.int .u64 0), .c (.int .u64 0), .c (.int .u64 0), .c (.int .u64 0), .c (.int .u64 0), .c (.bool true)] = flat [.c (.int .u64 0), .c (.int .u64 0), .c (.int .u64 0), .c (.int .u64 0), .c (.int .u64 0), .c (.int .u64 0), .c (.int .u64 0), .c (.int .u64 0), .c (.int .u64 0), .c (.int .u64 0), .c (.int .u64 0), .c (.int .u64 0), .c (.bool true)] from rfl)
      (And.intro (show (l.length = 48 ∧ top3 l = 6) ∧ allZ (maskL l) from h)
      (And.intro (show ((l.length = 48 ∧ top3 l = 6) ∨ (l.length = 96 ∧ top3 l = 2)) ∧ allZ (maskL l) from ⟨.inl h.1, h.2⟩) trivial)))
theorem pr_i2 (l : List UInt8) (h : (l.length = 96 ∧ top3 l = 2) ∧ allZ (maskL l)) : Gives Try.prog 4 [.t (.v (.string (ofL l)))] (.v (.bool true)) :=
  fn_gives_at (P := Try.prog) (X := rulesY _) (env := [eGet1, eRd48, eAlive, eRight1r, eSquareP, eFRootP, eHighPr, eNegPr, eROn1, eGrp1]) ⟨eGet1_ok, eRd48_ok, eAlive_ok, eRight1r_ok, eSquareP_ok, eFRootP_ok, eHighPr_ok, eNegPr_ok, eROn1_ok, eGrp1_ok, trivial⟩ Try.func4 0 (oL [(2, wO 3), (10, wO 4), (28, wO 0)]) (by kernel_rfl) ⟨_, rfl⟩
      (And.intro (show flat [.c (.int .u64 0), .c (.int .u64 0), .c (.int .u64 0), .c (.int .u64 0), .c (.int .u64 0), .c (.int .u64 0), .c (.int .u64 0), .c (.int .u64 0), .c (.int .u64 0), .c (.int .u64 0), .c (.int .u64 0), .c (.int .u64 0), .c (.bool true)] = flat [.c (.int .u64 0), .c (.int .u64 0), .c (.int .u64 0), .c (.int .u64 0), .c (.int .u64 0), .c (.int .u64 0), .c (.int .u64 0), .c (.int .u64 0), .c (.int .u64 0), .c (.int .u64 0), .c (.int .u64 0), .c (.int .u64 0), .c (.bool true)] from rfl)
      (And.intro (show (l.length = 96 ∧ top3 l = 2) ∧ allZ (maskL l) from h)
      (And.intro (show ((l.length = 48 ∧ top3 l = 6) ∨ (l.length = 96 ∧ top3 l = 2)) ∧ allZ (maskL l) from ⟨.inr h.1, h.2⟩) trivial)))
theorem pr_n4 (l : List UInt8) (hL : l.length = 48) (ht : top3 l = 4) (hx : nX l < Pp) (hq : ¬ sqP (rhs1 (ofP (nX l)))) : Gives Try.prog 4 [.t (.v (.string (ofL l)))] (.v (.bool true)) :=
  fn_gives_at (P := Try.prog) (X := rulesY _) (env := [eGet1, eRd48, eAlive, eRight1r, eSquareP, eFRootP, eHighPr, eNegPr, eROn1, eGrp1]) ⟨eGet1_ok, eRd48_ok, eAlive_ok, eRight1r_ok, eSquareP_ok, eFRootP_ok, eHighPr_ok, eNegPr_ok, eROn1_ok, eGrp1_ok, trivial⟩ Try.func4 0 (oL [(2, wO 5), (10, { ch := 0, hi := fun _ => 0, ex := 4, av := fun k => .tp [.ag [.c (.bool true), .c (.bool false), .c (.bool false), .sx k 1], .v (.int .i64 0)], lp := some { kd := 9, I := { n := 0, sl := [] }, ex := .normal, E := { n := 0, sl := [], hp := [(0, .gr [.q (ofP (nX l))] 24 6)] }, fr := 0 } }), (38, wO 1), (45, wO 0)]) (by kernel_rfl) ⟨_, rfl⟩
      (And.intro (show flat [.c (.int .u64 0), .c (.int .u64 0), .c (.int .u64 0), .c (.int .u64 0), .c (.int .u64 0), .c (.int .u64 0), .c (.int .u64 0), .c (.int .u64 0), .c (.int .u64 0), .c (.int .u64 0), .c (.int .u64 0), .c (.int .u64 0), .c (.bool false)] = flat [.c (.int .u64 0), .c (.int .u64 0), .c (.int .u64 0), .c (.int .u64 0), .c (.int .u64 0), .c (.int .u64 0), .c (.int .u64 0), .c (.int .u64 0), .c (.int .u64 0), .c (.int .u64 0), .c (.int .u64 0), .c (.int .u64 0), .c (.bool false)] from rfl)
      (And.intro (show ¬ sqP (rhs1 (ofP (nX l))) from hq)
      (And.intro (show GivesN Try.prog 20 [.t (.v (.string (ofL l))), .t (.v (.int .i64 48))] (fun k => .tp [.ag [.c (.bool true), .c (.bool false), .c (.bool false), .sx k 1], .v (.int .i64 0)]) (.gr [.q (ofP (nX l))] 24 6) from rdk48_s4 l hL ht hx)
      (And.intro (show sh1 l ∧ nX l < Pp ∧ ¬ sqP (rhs1 (ofP (nX l))) from ⟨⟨hL, .inl ht⟩, hx, hq⟩) trivial))))
theorem pr_g4 (l : List UInt8) (hL : l.length = 48) (ht : top3 l = 4) (hx : nX l < Pp) (hq : sqP (rhs1 (ofP (nX l)))) (hg : ¬ grp1 ((ofP (nX l)).val, (lowP (rtP (rhs1 (ofP (nX l))))).val, false)) : Gives Try.prog 4 [.t (.v (.string (ofL l)))] (.v (.bool true)) :=
  fn_gives_at (P := Try.prog) (X := rulesY _) (env := [eGet1, eRd48, eAlive, eRight1r, eSquareP, eFRootP, eHighPr, eNegPr, eROn1, eGrp1]) ⟨eGet1_ok, eRd48_ok, eAlive_ok, eRight1r_ok, eSquareP_ok, eFRootP_ok, eHighPr_ok, eNegPr_ok, eROn1_ok, eGrp1_ok, trivial⟩ Try.func4 0 (oL [(2, wO 6), (10, { ch := 0, hi := fun _ => 0, ex := 4, av := fun k => .tp [.ag [.c (.bool true), .c (.bool false), .c (.bool false), .sx k 1], .v (.int .i64 0)], lp := some { kd := 9, I := { n := 0, sl := [] }, ex := .normal, E := { n := 0, sl := [], hp := [(0, .gr [.q (ofP (nX l))] 24 6)] }, fr := 0 } }), (38, wO 0), (41, wO 0), (54, wO 1), (59, wO 0), (63, wO 1), (71, wO 0)]) (by kernel_rfl) ⟨_, rfl⟩
      (And.intro (show flat [.c (.int .u64 0), .c (.int .u64 0), .c (.int .u64 0), .c (.int .u64 0), .c (.int .u64 0), .c (.int .u64 0), .c (.int .u64 0), .c (.int .u64 0), .c (.int .u64 0), .c (.int .u64 0), .c (.int .u64 0), .c (.int .u64 0), .c (.bool false)] = flat [.c (.int .u64 0), .c (.int .u64 0), .c (.int .u64 0), .c (.int .u64 0), .c (.int .u64 0), .c (.int .u64 0), .c (.int .u64 0), .c (.int .u64 0), .c (.int .u64 0), .c (.int .u64 0), .c (.int .u64 0), .c (.int .u64 0), .c (.bool false)] from rfl)
      (And.intro (show sml1 ((ofP (nX l)).val, (lowP (rtP (rhs1 (ofP (nX l))))).val, false) ∧ may1 ((ofP (nX l)).val, (lowP (rtP (rhs1 (ofP (nX l))))).val, false) ∧ ¬ grp1 ((ofP (nX l)).val, (lowP (rtP (rhs1 (ofP (nX l))))).val, false) from ⟨small_pt _ _ _, may_root _ false hq, hg⟩)
      (And.intro (show sml1 ((ofP (nX l)).val, (lowP (rtP (rhs1 (ofP (nX l))))).val, false) ∧ may1 ((ofP (nX l)).val, (lowP (rtP (rhs1 (ofP (nX l))))).val, false) from ⟨small_pt _ _ _, may_root _ false hq⟩)
      (And.intro (show ¬ hiP (lowP (rtP (rhs1 (ofP (nX l))))) from not_hi_low _)
      (And.intro (show smtP (.inl (rhs1 (ofP (nX l)))) ∧ sqP (eltP (.inl (rhs1 (ofP (nX l))))) from ⟨smt_in _, hq⟩)
      (And.intro (show sqP (rhs1 (ofP (nX l))) from hq)
      (And.intro (show GivesN Try.prog 20 [.t (.v (.string (ofL l))), .t (.v (.int .i64 48))] (fun k => .tp [.ag [.c (.bool true), .c (.bool false), .c (.bool false), .sx k 1], .v (.int .i64 0)]) (.gr [.q (ofP (nX l))] 24 6) from rdk48_s4 l hL ht hx)
      (And.intro (show sh1 l ∧ nX l < Pp ∧ sqP (rhs1 (ofP (nX l))) ∧ ¬ grp1 ((ofP (nX l)).val, (sy1 (rhs1 (ofP (nX l))) (decide (top3 l = 5))).val, false) from ⟨⟨hL, .inl ht⟩, hx, hq, by rw [(show decide (top3 l = 5) = false from by rw [ht]; rfl)]; exact hg⟩) trivial))))))))
theorem pr_k4 (l : List UInt8) (hL : l.length = 48) (ht : top3 l = 4) (hx : nX l < Pp) (hq : sqP (rhs1 (ofP (nX l)))) (hg : grp1 ((ofP (nX l)).val, (lowP (rtP (rhs1 (ofP (nX l))))).val, false)) : Gives Try.prog 4 [.t (.v (.string (ofL l)))] (.v (.bool true)) :=
  fn_gives_at (P := Try.prog) (X := rulesY _) (env := [eGet1, eRd48, eAlive, eRight1r, eSquareP, eFRootP, eHighPr, eNegPr, eROn1, eGrp1]) ⟨eGet1_ok, eRd48_ok, eAlive_ok, eRight1r_ok, eSquareP_ok, eFRootP_ok, eHighPr_ok, eNegPr_ok, eROn1_ok, eGrp1_ok, trivial⟩ Try.func4 0 (oL [(2, wO 7), (10, { ch := 0, hi := fun _ => 0, ex := 4, av := fun k => .tp [.ag [.c (.bool true), .c (.bool false), .c (.bool false), .sx k 1], .v (.int .i64 0)], lp := some { kd := 9, I := { n := 0, sl := [] }, ex := .normal, E := { n := 0, sl := [], hp := [(0, .gr [.q (ofP (nX l))] 24 6)] }, fr := 0 } }), (38, wO 0), (41, wO 0), (54, wO 1), (59, wO 0), (63, wO 0), (71, wO 0)]) (by kernel_rfl) ⟨_, rfl⟩
      (And.intro (show flat [.q (ofP (nX l)), .q (sy1 (rhs1 (ofP (nX l))) (decide (top3 l = 5))), .c (.bool false)] = flat [.q (ofP (nX l)), .q (lowP (rtP (rhs1 (ofP (nX l))))), .c (.bool false)] from by rw [(show decide (top3 l = 5) = false from by rw [ht]; rfl)]; rfl)
      (And.intro (show sml1 ((ofP (nX l)).val, (lowP (rtP (rhs1 (ofP (nX l))))).val, false) ∧ may1 ((ofP (nX l)).val, (lowP (rtP (rhs1 (ofP (nX l))))).val, false) ∧ grp1 ((ofP (nX l)).val, (lowP (rtP (rhs1 (ofP (nX l))))).val, false) from ⟨small_pt _ _ _, may_root _ false hq, hg⟩)
      (And.intro (show sml1 ((ofP (nX l)).val, (lowP (rtP (rhs1 (ofP (nX l))))).val, false) ∧ may1 ((ofP (nX l)).val, (lowP (rtP (rhs1 (ofP (nX l))))).val, false) from ⟨small_pt _ _ _, may_root _ false hq⟩)
      (And.intro (show ¬ hiP (lowP (rtP (rhs1 (ofP (nX l))))) from not_hi_low _)
      (And.intro (show smtP (.inl (rhs1 (ofP (nX l)))) ∧ sqP (eltP (.inl (rhs1 (ofP (nX l))))) from ⟨smt_in _, hq⟩)
      (And.intro (show sqP (rhs1 (ofP (nX l))) from hq)
      (And.intro (show GivesN Try.prog 20 [.t (.v (.string (ofL l))), .t (.v (.int .i64 48))] (fun k => .tp [.ag [.c (.bool true), .c (.bool false), .c (.bool false), .sx k 1], .v (.int .i64 0)]) (.gr [.q (ofP (nX l))] 24 6) from rdk48_s4 l hL ht hx)
      (And.intro (show sh1 l ∧ nX l < Pp ∧ sqP (rhs1 (ofP (nX l))) ∧ grp1 ((ofP (nX l)).val, (sy1 (rhs1 (ofP (nX l))) (decide (top3 l = 5))).val, false) from ⟨⟨hL, .inl ht⟩, hx, hq, by rw [(show decide (top3 l = 5) = false from by rw [ht]; rfl)]; exact hg⟩) trivial))))))))
theorem pr_n5 (l : List UInt8) (hL : l.length = 48) (ht : top3 l = 5) (hx : nX l < Pp) (hq : ¬ sqP (rhs1 (ofP (nX l)))) : Gives Try.prog 4 [.t (.v (.string (ofL l)))] (.v (.bool true)) :=
  fn_gives_at (P := Try.prog) (X := rulesY _) (env := [eGet1, eRd48, eAlive, eRight1r, eSquareP, eFRootP, eHighPr, eNegPr, eROn1, eGrp1]) ⟨eGet1_ok, eRd48_ok, eAlive_ok, eRight1r_ok, eSquareP_ok, eFRootP_ok, eHighPr_ok, eNegPr_ok, eROn1_ok, eGrp1_ok, trivial⟩ Try.func4 0 (oL [(2, wO 5), (10, { ch := 0, hi := fun _ => 0, ex := 4, av := fun k => .tp [.ag [.c (.bool true), .c (.bool false), .c (.bool true), .sx k 1], .v (.int .i64 0)], lp := some { kd := 9, I := { n := 0, sl := [] }, ex := .normal, E := { n := 0, sl := [], hp := [(0, .gr [.q (ofP (nX l))] 24 6)] }, fr := 0 } }), (38, wO 1), (45, wO 0)]) (by kernel_rfl) ⟨_, rfl⟩
      (And.intro (show flat [.c (.int .u64 0), .c (.int .u64 0), .c (.int .u64 0), .c (.int .u64 0), .c (.int .u64 0), .c (.int .u64 0), .c (.int .u64 0), .c (.int .u64 0), .c (.int .u64 0), .c (.int .u64 0), .c (.int .u64 0), .c (.int .u64 0), .c (.bool false)] = flat [.c (.int .u64 0), .c (.int .u64 0), .c (.int .u64 0), .c (.int .u64 0), .c (.int .u64 0), .c (.int .u64 0), .c (.int .u64 0), .c (.int .u64 0), .c (.int .u64 0), .c (.int .u64 0), .c (.int .u64 0), .c (.int .u64 0), .c (.bool false)] from rfl)
      (And.intro (show ¬ sqP (rhs1 (ofP (nX l))) from hq)
      (And.intro (show GivesN Try.prog 20 [.t (.v (.string (ofL l))), .t (.v (.int .i64 48))] (fun k => .tp [.ag [.c (.bool true), .c (.bool false), .c (.bool true), .sx k 1], .v (.int .i64 0)]) (.gr [.q (ofP (nX l))] 24 6) from rdk48_s5 l hL ht hx)
      (And.intro (show sh1 l ∧ nX l < Pp ∧ ¬ sqP (rhs1 (ofP (nX l))) from ⟨⟨hL, .inr ht⟩, hx, hq⟩) trivial))))
theorem pr_g5 (l : List UInt8) (hL : l.length = 48) (ht : top3 l = 5) (hx : nX l < Pp) (hq : sqP (rhs1 (ofP (nX l)))) (hg : ¬ grp1 ((ofP (nX l)).val, (-(lowP (rtP (rhs1 (ofP (nX l)))))).val, false)) : Gives Try.prog 4 [.t (.v (.string (ofL l)))] (.v (.bool true)) :=
  fn_gives_at (P := Try.prog) (X := rulesY _) (env := [eGet1, eRd48, eAlive, eRight1r, eSquareP, eFRootP, eHighPr, eNegPr, eROn1, eGrp1]) ⟨eGet1_ok, eRd48_ok, eAlive_ok, eRight1r_ok, eSquareP_ok, eFRootP_ok, eHighPr_ok, eNegPr_ok, eROn1_ok, eGrp1_ok, trivial⟩ Try.func4 0 (oL [(2, wO 6), (10, { ch := 0, hi := fun _ => 0, ex := 4, av := fun k => .tp [.ag [.c (.bool true), .c (.bool false), .c (.bool true), .sx k 1], .v (.int .i64 0)], lp := some { kd := 9, I := { n := 0, sl := [] }, ex := .normal, E := { n := 0, sl := [], hp := [(0, .gr [.q (ofP (nX l))] 24 6)] }, fr := 0 } }), (38, wO 0), (41, wO 0), (54, wO 1), (63, wO 0), (67, wO 1), (75, wO 0)]) (by kernel_rfl) ⟨_, rfl⟩
      (And.intro (show flat [.c (.int .u64 0), .c (.int .u64 0), .c (.int .u64 0), .c (.int .u64 0), .c (.int .u64 0), .c (.int .u64 0), .c (.int .u64 0), .c (.int .u64 0), .c (.int .u64 0), .c (.int .u64 0), .c (.int .u64 0), .c (.int .u64 0), .c (.bool false)] = flat [.c (.int .u64 0), .c (.int .u64 0), .c (.int .u64 0), .c (.int .u64 0), .c (.int .u64 0), .c (.int .u64 0), .c (.int .u64 0), .c (.int .u64 0), .c (.int .u64 0), .c (.int .u64 0), .c (.int .u64 0), .c (.int .u64 0), .c (.bool false)] from rfl)
      (And.intro (show sml1 ((ofP (nX l)).val, (-(lowP (rtP (rhs1 (ofP (nX l)))))).val, false) ∧ may1 ((ofP (nX l)).val, (-(lowP (rtP (rhs1 (ofP (nX l)))))).val, false) ∧ ¬ grp1 ((ofP (nX l)).val, (-(lowP (rtP (rhs1 (ofP (nX l)))))).val, false) from ⟨small_pt _ _ _, may_root _ true hq, hg⟩)
      (And.intro (show sml1 ((ofP (nX l)).val, (-(lowP (rtP (rhs1 (ofP (nX l)))))).val, false) ∧ may1 ((ofP (nX l)).val, (-(lowP (rtP (rhs1 (ofP (nX l)))))).val, false) from ⟨small_pt _ _ _, may_root _ true hq⟩)
      (And.intro (show ¬ hiP (lowP (rtP (rhs1 (ofP (nX l))))) from not_hi_low _)
      (And.intro (show smtP (.inl (rhs1 (ofP (nX l)))) ∧ sqP (eltP (.inl (rhs1 (ofP (nX l))))) from ⟨smt_in _, hq⟩)
      (And.intro (show sqP (rhs1 (ofP (nX l))) from hq)
      (And.intro (show GivesN Try.prog 20 [.t (.v (.string (ofL l))), .t (.v (.int .i64 48))] (fun k => .tp [.ag [.c (.bool true), .c (.bool false), .c (.bool true), .sx k 1], .v (.int .i64 0)]) (.gr [.q (ofP (nX l))] 24 6) from rdk48_s5 l hL ht hx)
      (And.intro (show sh1 l ∧ nX l < Pp ∧ sqP (rhs1 (ofP (nX l))) ∧ ¬ grp1 ((ofP (nX l)).val, (sy1 (rhs1 (ofP (nX l))) (decide (top3 l = 5))).val, false) from ⟨⟨hL, .inr ht⟩, hx, hq, by rw [(show decide (top3 l = 5) = true from by rw [ht]; rfl)]; exact hg⟩) trivial))))))))
theorem pr_k5 (l : List UInt8) (hL : l.length = 48) (ht : top3 l = 5) (hx : nX l < Pp) (hq : sqP (rhs1 (ofP (nX l)))) (hg : grp1 ((ofP (nX l)).val, (-(lowP (rtP (rhs1 (ofP (nX l)))))).val, false)) : Gives Try.prog 4 [.t (.v (.string (ofL l)))] (.v (.bool true)) :=
  fn_gives_at (P := Try.prog) (X := rulesY _) (env := [eGet1, eRd48, eAlive, eRight1r, eSquareP, eFRootP, eHighPr, eNegPr, eROn1, eGrp1]) ⟨eGet1_ok, eRd48_ok, eAlive_ok, eRight1r_ok, eSquareP_ok, eFRootP_ok, eHighPr_ok, eNegPr_ok, eROn1_ok, eGrp1_ok, trivial⟩ Try.func4 0 (oL [(2, wO 7), (10, { ch := 0, hi := fun _ => 0, ex := 4, av := fun k => .tp [.ag [.c (.bool true), .c (.bool false), .c (.bool true), .sx k 1], .v (.int .i64 0)], lp := some { kd := 9, I := { n := 0, sl := [] }, ex := .normal, E := { n := 0, sl := [], hp := [(0, .gr [.q (ofP (nX l))] 24 6)] }, fr := 0 } }), (38, wO 0), (41, wO 0), (54, wO 1), (63, wO 0), (67, wO 0), (75, wO 0)]) (by kernel_rfl) ⟨_, rfl⟩
      (And.intro (show flat [.q (ofP (nX l)), .q (sy1 (rhs1 (ofP (nX l))) (decide (top3 l = 5))), .c (.bool false)] = flat [.q (ofP (nX l)), .q (-(lowP (rtP (rhs1 (ofP (nX l)))))), .c (.bool false)] from by rw [(show decide (top3 l = 5) = true from by rw [ht]; rfl)]; rfl)
      (And.intro (show sml1 ((ofP (nX l)).val, (-(lowP (rtP (rhs1 (ofP (nX l)))))).val, false) ∧ may1 ((ofP (nX l)).val, (-(lowP (rtP (rhs1 (ofP (nX l)))))).val, false) ∧ grp1 ((ofP (nX l)).val, (-(lowP (rtP (rhs1 (ofP (nX l)))))).val, false) from ⟨small_pt _ _ _, may_root _ true hq, hg⟩)
      (And.intro (show sml1 ((ofP (nX l)).val, (-(lowP (rtP (rhs1 (ofP (nX l)))))).val, false) ∧ may1 ((ofP (nX l)).val, (-(lowP (rtP (rhs1 (ofP (nX l)))))).val, false) from ⟨small_pt _ _ _, may_root _ true hq⟩)
      (And.intro (show ¬ hiP (lowP (rtP (rhs1 (ofP (nX l))))) from not_hi_low _)
      (And.intro (show smtP (.inl (rhs1 (ofP (nX l)))) ∧ sqP (eltP (.inl (rhs1 (ofP (nX l))))) from ⟨smt_in _, hq⟩)
      (And.intro (show sqP (rhs1 (ofP (nX l))) from hq)
      (And.intro (show GivesN Try.prog 20 [.t (.v (.string (ofL l))), .t (.v (.int .i64 48))] (fun k => .tp [.ag [.c (.bool true), .c (.bool false), .c (.bool true), .sx k 1], .v (.int .i64 0)]) (.gr [.q (ofP (nX l))] 24 6) from rdk48_s5 l hL ht hx)
      (And.intro (show sh1 l ∧ nX l < Pp ∧ sqP (rhs1 (ofP (nX l))) ∧ grp1 ((ofP (nX l)).val, (sy1 (rhs1 (ofP (nX l))) (decide (top3 l = 5))).val, false) from ⟨⟨hL, .inr ht⟩, hx, hq, by rw [(show decide (top3 l = 5) = true from by rw [ht]; rfl)]; exact hg⟩) trivial))))))))
theorem pr_ln (l : List UInt8) (h : lo1 l ∧ (nX l < Pp ∧ nY l < Pp) ∧ ¬ may1 ((ofP (nX l)).val, (ofP (nY l)).val, false)) : Gives Try.prog 4 [.t (.v (.string (ofL l)))] (.v (.bool true)) :=
  fn_gives_at (P := Try.prog) (X := rulesY _) (env := [eGet1, eRd48, eAlive, eRight1r, eSquareP, eFRootP, eHighPr, eNegPr, eROn1, eGrp1]) ⟨eGet1_ok, eRd48_ok, eAlive_ok, eRight1r_ok, eSquareP_ok, eFRootP_ok, eHighPr_ok, eNegPr_ok, eROn1_ok, eGrp1_ok, trivial⟩ Try.func4 0 (oL [(2, wO 9), (10, { ch := 0, hi := fun _ => 0, ex := 4, av := fun k => .tp [.ag [.c (.bool false), .c (.bool false), .c (.bool false), .sx k 2], .v (.int .i64 0)], lp := some { kd := 9, I := { n := 0, sl := [] }, ex := .normal, E := { n := 0, sl := [], hp := [(0, .gr [.q (ofP (nX l)), .q (ofP (nY l))] 24 6)] }, fr := 0 } }), (39, wO 1), (47, wO 0)]) (by kernel_rfl) ⟨_, rfl⟩
      (And.intro (show flat [.c (.int .u64 0), .c (.int .u64 0), .c (.int .u64 0), .c (.int .u64 0), .c (.int .u64 0), .c (.int .u64 0), .c (.int .u64 0), .c (.int .u64 0), .c (.int .u64 0), .c (.int .u64 0), .c (.int .u64 0), .c (.int .u64 0), .c (.bool false)] = flat [.c (.int .u64 0), .c (.int .u64 0), .c (.int .u64 0), .c (.int .u64 0), .c (.int .u64 0), .c (.int .u64 0), .c (.int .u64 0), .c (.int .u64 0), .c (.int .u64 0), .c (.int .u64 0), .c (.int .u64 0), .c (.int .u64 0), .c (.bool false)] from rfl)
      (And.intro (show sml1 ((ofP (nX l)).val, (ofP (nY l)).val, false) ∧ ¬ may1 ((ofP (nX l)).val, (ofP (nY l)).val, false) from ⟨small_pt _ _ _, h.2.2⟩)
      (And.intro (show GivesN Try.prog 20 [.t (.v (.string (ofL l))), .t (.v (.int .i64 48))] (fun k => .tp [.ag [.c (.bool false), .c (.bool false), .c (.bool false), .sx k 2], .v (.int .i64 0)]) (.gr [.q (ofP (nX l)), .q (ofP (nY l))] 24 6) from rdk48_l l h.1.1 h.1.2 h.2.1.1 h.2.1.2)
      (And.intro (show lo1 l ∧ (nX l < Pp ∧ nY l < Pp) ∧ ¬ may1 ((ofP (nX l)).val, (ofP (nY l)).val, false) from h) trivial))))
theorem pr_lg (l : List UInt8) (h : lo1 l ∧ (nX l < Pp ∧ nY l < Pp) ∧ may1 ((ofP (nX l)).val, (ofP (nY l)).val, false) ∧ ¬ grp1 ((ofP (nX l)).val, (ofP (nY l)).val, false)) : Gives Try.prog 4 [.t (.v (.string (ofL l)))] (.v (.bool true)) :=
  fn_gives_at (P := Try.prog) (X := rulesY _) (env := [eGet1, eRd48, eAlive, eRight1r, eSquareP, eFRootP, eHighPr, eNegPr, eROn1, eGrp1]) ⟨eGet1_ok, eRd48_ok, eAlive_ok, eRight1r_ok, eSquareP_ok, eFRootP_ok, eHighPr_ok, eNegPr_ok, eROn1_ok, eGrp1_ok, trivial⟩ Try.func4 0 (oL [(2, wO 10), (10, { ch := 0, hi := fun _ => 0, ex := 4, av := fun k => .tp [.ag [.c (.bool false), .c (.bool false), .c (.bool false), .sx k 2], .v (.int .i64 0)], lp := some { kd := 9, I := { n := 0, sl := [] }, ex := .normal, E := { n := 0, sl := [], hp := [(0, .gr [.q (ofP (nX l)), .q (ofP (nY l))] 24 6)] }, fr := 0 } }), (39, wO 0), (43, wO 1), (51, wO 0)]) (by kernel_rfl) ⟨_, rfl⟩
      (And.intro (show flat [.c (.int .u64 0), .c (.int .u64 0), .c (.int .u64 0), .c (.int .u64 0), .c (.int .u64 0), .c (.int .u64 0), .c (.int .u64 0), .c (.int .u64 0), .c (.int .u64 0), .c (.int .u64 0), .c (.int .u64 0), .c (.int .u64 0), .c (.bool false)] = flat [.c (.int .u64 0), .c (.int .u64 0), .c (.int .u64 0), .c (.int .u64 0), .c (.int .u64 0), .c (.int .u64 0), .c (.int .u64 0), .c (.int .u64 0), .c (.int .u64 0), .c (.int .u64 0), .c (.int .u64 0), .c (.int .u64 0), .c (.bool false)] from rfl)
      (And.intro (show sml1 ((ofP (nX l)).val, (ofP (nY l)).val, false) ∧ may1 ((ofP (nX l)).val, (ofP (nY l)).val, false) ∧ ¬ grp1 ((ofP (nX l)).val, (ofP (nY l)).val, false) from ⟨small_pt _ _ _, h.2.2.1, h.2.2.2⟩)
      (And.intro (show sml1 ((ofP (nX l)).val, (ofP (nY l)).val, false) ∧ may1 ((ofP (nX l)).val, (ofP (nY l)).val, false) from ⟨small_pt _ _ _, h.2.2.1⟩)
      (And.intro (show GivesN Try.prog 20 [.t (.v (.string (ofL l))), .t (.v (.int .i64 48))] (fun k => .tp [.ag [.c (.bool false), .c (.bool false), .c (.bool false), .sx k 2], .v (.int .i64 0)]) (.gr [.q (ofP (nX l)), .q (ofP (nY l))] 24 6) from rdk48_l l h.1.1 h.1.2 h.2.1.1 h.2.1.2)
      (And.intro (show lo1 l ∧ (nX l < Pp ∧ nY l < Pp) ∧ may1 ((ofP (nX l)).val, (ofP (nY l)).val, false) ∧ ¬ grp1 ((ofP (nX l)).val, (ofP (nY l)).val, false) from h) trivial)))))
theorem pr_lk (l : List UInt8) (h : lo1 l ∧ (nX l < Pp ∧ nY l < Pp) ∧ may1 ((ofP (nX l)).val, (ofP (nY l)).val, false) ∧ grp1 ((ofP (nX l)).val, (ofP (nY l)).val, false)) : Gives Try.prog 4 [.t (.v (.string (ofL l)))] (.v (.bool true)) :=
  fn_gives_at (P := Try.prog) (X := rulesY _) (env := [eGet1, eRd48, eAlive, eRight1r, eSquareP, eFRootP, eHighPr, eNegPr, eROn1, eGrp1]) ⟨eGet1_ok, eRd48_ok, eAlive_ok, eRight1r_ok, eSquareP_ok, eFRootP_ok, eHighPr_ok, eNegPr_ok, eROn1_ok, eGrp1_ok, trivial⟩ Try.func4 0 (oL [(2, wO 11), (10, { ch := 0, hi := fun _ => 0, ex := 4, av := fun k => .tp [.ag [.c (.bool false), .c (.bool false), .c (.bool false), .sx k 2], .v (.int .i64 0)], lp := some { kd := 9, I := { n := 0, sl := [] }, ex := .normal, E := { n := 0, sl := [], hp := [(0, .gr [.q (ofP (nX l)), .q (ofP (nY l))] 24 6)] }, fr := 0 } }), (39, wO 0), (43, wO 0), (51, wO 0)]) (by kernel_rfl) ⟨_, rfl⟩
      (And.intro (show flat [.q (ofP (nX l)), .q (ofP (nY l)), .c (.bool false)] = flat [.q (ofP (nX l)), .q (ofP (nY l)), .c (.bool false)] from rfl)
      (And.intro (show sml1 ((ofP (nX l)).val, (ofP (nY l)).val, false) ∧ may1 ((ofP (nX l)).val, (ofP (nY l)).val, false) ∧ grp1 ((ofP (nX l)).val, (ofP (nY l)).val, false) from ⟨small_pt _ _ _, h.2.2.1, h.2.2.2⟩)
      (And.intro (show sml1 ((ofP (nX l)).val, (ofP (nY l)).val, false) ∧ may1 ((ofP (nX l)).val, (ofP (nY l)).val, false) from ⟨small_pt _ _ _, h.2.2.1⟩)
      (And.intro (show GivesN Try.prog 20 [.t (.v (.string (ofL l))), .t (.v (.int .i64 48))] (fun k => .tp [.ag [.c (.bool false), .c (.bool false), .c (.bool false), .sx k 2], .v (.int .i64 0)]) (.gr [.q (ofP (nX l)), .q (ofP (nY l))] 24 6) from rdk48_l l h.1.1 h.1.2 h.2.1.1 h.2.1.2)
      (And.intro (show lo1 l ∧ (nX l < Pp ∧ nY l < Pp) ∧ may1 ((ofP (nX l)).val, (ofP (nY l)).val, false) ∧ grp1 ((ofP (nX l)).val, (ofP (nY l)).val, false) from h) trivial)))))
theorem pointReads_list (l : List UInt8) : Gives Try.prog 4 [.t (.v (.string (ofL l)))] (.v (.bool true)) := by
  by_cases h0 : l.length ≠ 48 ∧ l.length ≠ 96
  · exact pr_e0 l h0
  by_cases hs : (l.length = 48 ∧ top3 l ≠ 4 ∧ top3 l ≠ 5 ∧ top3 l ≠ 6) ∨ (l.length = 96 ∧ top3 l ≠ 0 ∧ top3 l ≠ 2)
  · exact pr_e1 l hs
  by_cases hi : (l.length = 48 ∧ top3 l = 6) ∨ (l.length = 96 ∧ top3 l = 2)
  · by_cases hz : allZ (maskL l)
    · rcases hi with hi | hi
      · exact pr_i6 l ⟨hi, hz⟩
      · exact pr_i2 l ⟨hi, hz⟩
    · exact pr_e2 l ⟨hi, hz⟩
  rcases form1r h0 hs hi with s | s
  · by_cases hx : nX l < Pp
    · by_cases hq : sqP (rhs1 (ofP (nX l)))
      · obtain ⟨hL, ht | ht⟩ := s
        · by_cases hg : grp1 ((ofP (nX l)).val, (lowP (rtP (rhs1 (ofP (nX l))))).val, false)
          · exact pr_k4 l hL ht hx hq hg
          · exact pr_g4 l hL ht hx hq hg
        · by_cases hg : grp1 ((ofP (nX l)).val, (-(lowP (rtP (rhs1 (ofP (nX l)))))).val, false)
          · exact pr_k5 l hL ht hx hq hg
          · exact pr_g5 l hL ht hx hq hg
      · obtain ⟨hL, ht | ht⟩ := s
        · exact pr_n4 l hL ht hx hq
        · exact pr_n5 l hL ht hx hq
    · exact pr_e4 l ⟨s, hx⟩
  · by_cases hx : nX l < Pp ∧ nY l < Pp
    · by_cases hm : may1 ((ofP (nX l)).val, (ofP (nY l)).val, false)
      · by_cases hg : grp1 ((ofP (nX l)).val, (ofP (nY l)).val, false)
        · exact pr_lk l ⟨s, hx, hm, hg⟩
        · exact pr_lg l ⟨s, hx, hm, hg⟩
      · exact pr_ln l ⟨s, hx, hm⟩
    · exact pr_e8 l ⟨s, hx⟩
theorem pointReads_gives (s : ByteArray) {p : Prop} (_ : p) : Gives Try.prog 4 [.t (.v (.string s))] (.v (.bool true)) := by
  have h := pointReads_list s.data.toList
  rwa [show ofL s.data.toList = s from by unfold ofL; rw [Array.toArray_toList]] at h
theorem Try.own : ownKnob Try.prog.godebug = none := by kernel_rfl

set_option maxRecDepth 100000 in
theorem pointReads_lifted (os : Os) (started : os.Started) (H : Type) (enc : TypeId × Value → H) :
    ReturnsInHanded {} Try.checked os 4 .any (Rows.pointReadsSpec.pre6 enc Try.prog Try.f4 Rows.pointReadsRow.domain false) (Rows.pointReadsSpec.post enc Try.prog Try.f4 false true false false) := by
  refine returnsInHanded_of_change (C := Try.checked) Try.own started (by kernel_rfl) Try.func4
    (ChangeSpec.witness6 (enc := enc) (C := Try.checked) false ⟨#[], #[.string ByteArray.empty], []⟩ 8 (by kernel_rfl) (by kernel_rfl) (by kernel_rfl) (by kernel_rfl)) ?_
  intro W base args ds gs before hval0 hW _ _
  have hval : ∀ (j : Nat) t v, Try.f4.params[j]? = some t → args[j]? = some v → Value.okWide Try.prog W .any base t v := hval0
  have hW' := hW
  obtain ⟨p, q, hA0, hV, rfl, _, _⟩ := hW
  have hA : DataW.TrodAll enc Try.prog W 0 (fun _ => true) true Try.f4.params.toList args.toList ds p := hA0
  rw [Try.params4] at hA hval
  obtain ⟨v0, d0, rfl, rfl, h0⟩ := trodAll_one hA
  obtain ⟨rfl, rfl⟩ := trodVars_none hV
  obtain ⟨x0, rfl, rfl, rfl, b0⟩ := Go.ChangeMaps.open_string Try.underlying9 (hval 0 _ v0 rfl rfl) h0
  clear hA0 hval0
  simp only [List.append_nil] at hW'
  obtain ⟨v, hv, hrun⟩ := pointReads_gives x0 b0
  simp only [AV.val?, Option.some.injEq] at hv
  subst hv
  refine (hrun W [_] ⟨rfl, trivial⟩).mono fun e W' ⟨he, hb⟩ => ?_
  subst he
  exact ⟨_, rfl, _, _, _, [], [], [], hW', trodAll_mk1 (shut_bool Try.underlying4 true), trodAll_mk1 (Go.ChangeMaps.shut_string Try.underlying9 b0), rfl, hb.frame _, fun h => by cases h⟩

theorem pointReads_holds : Rows.PointReadsSaid :=
  OpenClaim.holds_of_wide 4 Try.f4 rfl rfl rfl rfl rfl rfl rfl ⟨rfl, rfl, rfl, rfl, rfl⟩ rfl rfl rfl rfl rfl (by kernel_rfl) Try.func4 (by kernel_rfl)
    (of_decide_eq_true (by kernel_rfl)) (by unfold Func.isWrapper; first | (rw [if_pos (by decide +kernel)]; kernel_rfl) | (rw [if_neg (by decide +kernel)]; exact ⟨rfl, rfl⟩))
    (fun os started H enc _ => pointReads_lifted os started H enc)
end Go.Proofs.Ytbejkhmdmojojaa
