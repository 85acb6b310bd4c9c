/- Pruned: Gd. -/
import Derived.Test.YtmbllhibdbeplaaQGe
import Derived.Test.YtmbllhibdbeplaaQGc
import Derived.Test.YtmbllhibdbeplaaQGb
import Derived.Test.YtmbllhibdbeplaaQZhAl3
/- Contract of point.Get2. -/
set_option linter.unusedSimpArgs false
set_option linter.unusedVariables false
namespace Go.Proofs.Ytmbllhibdbeplaa
open Go.Ev Go.RowKit
def c2 (l : List UInt8) (i : Nat) : Nat := match i with
  | 0 => deN 48 ((maskL l).take 48)
  | 1 => deN 48 (((maskL l).drop 48).take 48)
  | 2 => deN 48 ((((maskL l).drop 48).drop 48).take 48)
  | _ => deN 48 (((((maskL l).drop 48).drop 48).drop 48).take 48)
def sy2 (a : F2) (high : Bool) : F2 := match high with | true => neg2 (rt2 a) | false => rt2 a
def sh2 (l : List UInt8) : Prop := l.length = 96 ∧ (top3 l = 4 ∨ top3 l = 5)
def lo2 (l : List UInt8) : Prop := l.length = 192 ∧ top3 l = 0
end Go.Proofs.Ytmbllhibdbeplaa

/- What Get answers: a point, or nothing and an error; what is put is got again, and what is got, put again, is the bytes. -/
set_option linter.unusedSimpArgs false
set_option linter.unusedVariables false
namespace Go.Proofs.Ytmbllhibdbeplaa
open Go.Ev Go.RowKit
theorem Gives.same {P : Program} {f : FuncId} {xs : List XV} {a b : List Ch} {r : AV} (h : Gives P f xs (.tp [.ag a, r])) (e : AV.val? (.tp [.ag a, r]) = AV.val? (.tp [.ag b, r])) : Gives P f xs (.tp [.ag b, r]) := by
  obtain ⟨v, h1, h2⟩ := h
  exact ⟨v, e ▸ h1, h2⟩
/-! The first curve. -/
def inf1 (l : List UInt8) : Prop := (l.length = 48 ∧ top3 l = 6) ∨ (l.length = 96 ∧ top3 l = 2)
instance (l : List UInt8) : Decidable (inf1 l) := inferInstanceAs (Decidable (_ ∨ _))
def gx1 (l : List UInt8) : Fin Pp := if inf1 l then 0 else ofP (nX l)
def gy1 (l : List UInt8) : Fin Pp := if inf1 l then 0 else if l.length = 48 then sy1 (rhs1 (ofP (nX l))) (decide (top3 l = 5)) else ofP (nY l)
def ok1 (l : List UInt8) : Prop :=
  (inf1 l ∧ allZ (maskL l)) ∨ (sh1 l ∧ nX l < Pp ∧ sqP (rhs1 (ofP (nX l))) ∧ grp1 ((ofP (nX l)).val, (sy1 (rhs1 (ofP (nX l))) (decide (top3 l = 5))).val, false)) ∨
    (lo1 l ∧ (nX l < Pp ∧ nY l < Pp) ∧ may1 ((ofP (nX l)).val, (ofP (nY l)).val, false) ∧ grp1 ((ofP (nX l)).val, (ofP (nY l)).val, false))
def z13 : List Ch := [.c (.int .u64 0), .c (.int .u64 0), .c (.int .u64 0), .c (.int .u64 0), .c (.int .u64 0), .c (.int .u64 0), .c (.int .u64 0), .c (.int .u64 0), .c (.int .u64 0), .c (.int .u64 0), .c (.int .u64 0), .c (.int .u64 0), .c (.bool false)]
def cd1 (l : List UInt8) (k : Int) : Prop := k ≠ 0 ∧ Gives Try.prog 23 [.t (.v (.string (ofL l)))] (.tp [.ag z13, .v (.int .i64 k)])
theorem at1 (l : List UInt8) (i : Nat) {c : Option Prop} {r : AV} (h : (altG1 l)[i]? = some (c, r)) (hc : c.getD True) : Gives Try.prog 23 [.t (.v (.string (ofL l)))] r := get1_all l c r (List.mem_of_getElem? h) hc
theorem form1 {l : List UInt8} (h0 : ¬ (l.length ≠ 48 ∧ l.length ≠ 96)) (hs : ¬ ((l.length = 48 ∧ top3 l ≠ 4 ∧ top3 l ≠ 5 ∧ top3 l ≠ 6) ∨ (l.length = 96 ∧ top3 l ≠ 0 ∧ top3 l ≠ 2))) (hi : ¬ inf1 l) : sh1 l ∨ lo1 l := by
  unfold sh1 lo1
  unfold inf1 at hi
  omega
theorem not_inf_sh {l : List UInt8} (h : sh1 l) : ¬ inf1 l := by unfold inf1; unfold sh1 at h; omega
theorem not_inf_lo {l : List UInt8} (h : lo1 l) : ¬ inf1 l := by unfold inf1; unfold lo1 at h; omega
theorem zero_q1 : AV.val? (.tp [.ag [.c (.int .u64 0), .c (.int .u64 0), .c (.int .u64 0), .c (.int .u64 0), .c (.int .u64 0), .c (.int .u64 0), .c (.int .u64 0), .c (.int .u64 0), .c (.int .u64 0), .c (.int .u64 0), .c (.int .u64 0), .c (.int .u64 0), .c (.bool true)], .v (.int .i64 0)]) = AV.val? (.tp [.ag [.q 0, .q 0, .c (.bool true)], .v (.int .i64 0)]) := rfl
theorem good1 (l : List UInt8) (h : ok1 l) : Gives Try.prog 23 [.t (.v (.string (ofL l)))] (.tp [.ag [.q (gx1 l), .q (gy1 l), .c (.bool (decide (inf1 l)))], .v (.int .i64 0)]) := by
  rcases h with ⟨hi, hz⟩ | ⟨s, h⟩ | ⟨s, h⟩
  · rw [show gx1 l = 0 from if_pos hi, show gy1 l = 0 from if_pos hi, show decide (inf1 l) = true from decide_eq_true hi]
    exact Gives.same (at1 l 3 rfl ⟨hi, hz⟩) zero_q1
  · rw [show gx1 l = _ from if_neg (not_inf_sh s), show gy1 l = _ from if_neg (not_inf_sh s), show decide (inf1 l) = false from decide_eq_false (not_inf_sh s), if_pos s.1]
    exact at1 l 7 rfl ⟨s, h⟩
  · rw [show gx1 l = _ from if_neg (not_inf_lo s), show gy1 l = _ from if_neg (not_inf_lo s), show decide (inf1 l) = false from decide_eq_false (not_inf_lo s), if_neg (by have := s.1; omega)]
    exact at1 l 11 rfl ⟨s, h⟩
end Go.Proofs.Ytmbllhibdbeplaa

/- What Get answers on the second curve: a point, or nothing and an error; what is put is got again, and what is got, put again, is the bytes. -/
set_option linter.unusedSimpArgs false
set_option linter.unusedVariables false
namespace Go.Proofs.Ytmbllhibdbeplaa
open Go.Ev Go.RowKit
def inf2 (l : List UInt8) : Prop := (l.length = 96 ∧ top3 l = 6) ∨ (l.length = 192 ∧ top3 l = 2)
instance (l : List UInt8) : Decidable (inf2 l) := inferInstanceAs (Decidable (_ ∨ _))
def xs2 (l : List UInt8) : F2 := (ofP (c2 l 1), ofP (c2 l 0))
def ys2 (l : List UInt8) : F2 := (ofP (c2 l 3), ofP (c2 l 2))
def nn (a : F2) : N2 := (a.1.val, a.2.val)
def ok2 (l : List UInt8) : Prop :=
  (inf2 l ∧ allZ (maskL l)) ∨ (sh2 l ∧ (c2 l 0 < Pp ∧ c2 l 1 < Pp) ∧ sq2 (rhs2 (xs2 l)) ∧ grp2 (nn (xs2 l), nn (sy2 (rhs2 (xs2 l)) (decide (top3 l = 5))), false)) ∨
    (lo2 l ∧ (c2 l 0 < Pp ∧ c2 l 1 < Pp ∧ c2 l 2 < Pp ∧ c2 l 3 < Pp) ∧ may2 (nn (xs2 l), nn (ys2 l), false) ∧ grp2 (nn (xs2 l), nn (ys2 l), false))
end Go.Proofs.Ytmbllhibdbeplaa
