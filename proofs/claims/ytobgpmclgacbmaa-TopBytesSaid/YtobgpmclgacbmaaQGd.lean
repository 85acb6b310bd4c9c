/- Pruned: Gd. -/
import Derived.Test.YtobgpmclgacbmaaQGe
import Derived.Test.YtobgpmclgacbmaaQGc
import Derived.Test.YtobgpmclgacbmaaQGb
import Derived.Test.YtobgpmclgacbmaaQHa
/- Contract of point.Get2. -/
set_option linter.unusedSimpArgs false
set_option linter.unusedVariables false
namespace Go.Proofs.Ytobgpmclgacbmaa
open Go.Ev Go.RowKit
def c2 (l : List UInt8) (i : Nat) : Nat := match i with
  | 0 => deN 48 ((maskL l).take 48)
  | 1 => deN 48 (((maskL l).drop 48).take 48)
  | 2 => deN 48 ((((maskL l).drop 48).drop 48).take 48)
  | _ => deN 48 (((((maskL l).drop 48).drop 48).drop 48).take 48)
end Go.Proofs.Ytobgpmclgacbmaa

/- What Get answers: a point, or nothing and an error; what is put is got again, and what is got, put again, is the bytes. -/
set_option linter.unusedSimpArgs false
set_option linter.unusedVariables false
namespace Go.Proofs.Ytobgpmclgacbmaa
open Go.Ev Go.RowKit
theorem Gives.same {P : Program} {f : FuncId} {xs : List XV} {a b : List Ch} {r : AV} (h : Gives P f xs (.tp [.ag a, r])) (e : AV.val? (.tp [.ag a, r]) = AV.val? (.tp [.ag b, r])) : Gives P f xs (.tp [.ag b, r]) := by
  obtain ⟨v, h1, h2⟩ := h
  exact ⟨v, e ▸ h1, h2⟩
/-! The first curve. -/
def inf1 (l : List UInt8) : Prop := (l.length = 48 ∧ top3 l = 6) ∨ (l.length = 96 ∧ top3 l = 2)
instance (l : List UInt8) : Decidable (inf1 l) := inferInstanceAs (Decidable (_ ∨ _))
def gx1 (l : List UInt8) : Fin Pp := if inf1 l then 0 else ofP (nX l)
def gy1 (l : List UInt8) : Fin Pp := if inf1 l then 0 else if l.length = 48 then sy1 (rhs1 (ofP (nX l))) (decide (top3 l = 5)) else ofP (nY l)
def ok1 (l : List UInt8) : Prop :=
  (inf1 l ∧ allZ (maskL l)) ∨ (sh1 l ∧ nX l < Pp ∧ sqP (rhs1 (ofP (nX l))) ∧ grp1 ((ofP (nX l)).val, (sy1 (rhs1 (ofP (nX l))) (decide (top3 l = 5))).val, false)) ∨
    (lo1 l ∧ (nX l < Pp ∧ nY l < Pp) ∧ may1 ((ofP (nX l)).val, (ofP (nY l)).val, false) ∧ grp1 ((ofP (nX l)).val, (ofP (nY l)).val, false))
theorem at1 (l : List UInt8) (i : Nat) {c : Option Prop} {r : AV} (h : (altG1 l)[i]? = some (c, r)) (hc : c.getD True) : Gives Try.prog 7 [.t (.v (.string (ofL l)))] r := get1_all l c r (List.mem_of_getElem? h) hc
theorem not_inf_sh {l : List UInt8} (h : sh1 l) : ¬ inf1 l := by unfold inf1; unfold sh1 at h; omega
theorem not_inf_lo {l : List UInt8} (h : lo1 l) : ¬ inf1 l := by unfold inf1; unfold lo1 at h; omega
theorem zero_q1 : AV.val? (.tp [.ag [.c (.int .u64 0), .c (.int .u64 0), .c (.int .u64 0), .c (.int .u64 0), .c (.int .u64 0), .c (.int .u64 0), .c (.int .u64 0), .c (.int .u64 0), .c (.int .u64 0), .c (.int .u64 0), .c (.int .u64 0), .c (.int .u64 0), .c (.bool true)], .v (.int .i64 0)]) = AV.val? (.tp [.ag [.q 0, .q 0, .c (.bool true)], .v (.int .i64 0)]) := rfl
theorem good1 (l : List UInt8) (h : ok1 l) : Gives Try.prog 7 [.t (.v (.string (ofL l)))] (.tp [.ag [.q (gx1 l), .q (gy1 l), .c (.bool (decide (inf1 l)))], .v (.int .i64 0)]) := by
  rcases h with ⟨hi, hz⟩ | ⟨s, h⟩ | ⟨s, h⟩
  · rw [show gx1 l = 0 from if_pos hi, show gy1 l = 0 from if_pos hi, show decide (inf1 l) = true from decide_eq_true hi]
    exact Gives.same (at1 l 3 rfl ⟨hi, hz⟩) zero_q1
  · rw [show gx1 l = _ from if_neg (not_inf_sh s), show gy1 l = _ from if_neg (not_inf_sh s), show decide (inf1 l) = false from decide_eq_false (not_inf_sh s), if_pos s.1]
    exact at1 l 7 rfl ⟨s, h⟩
  · rw [show gx1 l = _ from if_neg (not_inf_lo s), show gy1 l = _ from if_neg (not_inf_lo s), show decide (inf1 l) = false from decide_eq_false (not_inf_lo s), if_neg (by have := s.1; omega)]
    exact at1 l 11 rfl ⟨s, h⟩
theorem b1_0 : b1 0 = List.replicate 48 0 := by decide +kernel
theorem nX_short {l : List UInt8} {x : Fin Pp} (h : maskL l = b1 x) : nX l = x.val := by unfold nX; rw [h, take_b1', de_b1]
theorem nX_long {l : List UInt8} {x y : Fin Pp} (h : maskL l = b1 x ++ b1 y) : nX l = x.val := by unfold nX; rw [h, take_b1, de_b1]
theorem nY_long {l : List UInt8} {x y : Fin Pp} (h : maskL l = b1 x ++ b1 y) : nY l = y.val := by unfold nY; rw [h, drop_b1, take_b1', de_b1]
theorem hi0 : decide (hiP 0) = false := decide_eq_false not_hi_zero
theorem back_inf1 (s : Bool) : ok1 (putL1 0 0 true s) ∧ inf1 (putL1 0 0 true s) := by
  obtain ⟨ht, hm⟩ := put1_head 0 0 true s
  have hl := put1_length 0 0 true s
  rw [hi0] at ht
  have hi : inf1 (putL1 0 0 true s) := by
    unfold inf1
    cases s
    · exact .inr ⟨hl, ht⟩
    · exact .inl ⟨hl, ht⟩
  refine ⟨.inl ⟨hi, ?_⟩, hi⟩
  rw [hm]
  intro b hb
  cases s
  · have hb : b ∈ b1 0 ++ b1 0 := hb
    rw [b1_0, List.replicate_append_replicate] at hb
    exact List.eq_of_mem_replicate hb
  · have hb : b ∈ b1 0 := hb
    rw [b1_0] at hb
    exact List.eq_of_mem_replicate hb
theorem sy_back1 {x y : Fin Pp} (h : y * y = rhs1 x) : sy1 (rhs1 x) (decide (hiP y)) = y := by
  rw [← h]
  by_cases hy : hiP y
  · rw [decide_eq_true hy]
    show -(lowP (rtP (y * y))) = y
    rw [low_rt, show lowP y = -y from if_pos hy]; exact neg_negP y
  · rw [decide_eq_false hy]
    show lowP (rtP (y * y)) = y
    rw [low_rt, show lowP y = y from if_neg hy]
theorem back_short1 (x y : Fin Pp) (h : y * y = rhs1 x) (hg : grp1 (x.val, y.val, false)) : ok1 (putL1 x y false true) ∧ gx1 (putL1 x y false true) = x ∧ gy1 (putL1 x y false true) = y ∧ ¬ inf1 (putL1 x y false true) := by
  obtain ⟨ht, hm⟩ := put1_head x y false true
  have hl : (putL1 x y false true).length = 48 := put1_length x y false true
  generalize putL1 x y false true = l at *
  have hx : nX l = x.val := nX_short hm
  have ht' : (top3 l = 4 ∨ top3 l = 5) ∧ decide (top3 l = 5) = decide (hiP y) := by
    by_cases hy : hiP y
    · rw [decide_eq_true hy] at ht ⊢
      have ht : top3 l = 5 := ht
      rw [ht]; exact ⟨.inr rfl, rfl⟩
    · rw [decide_eq_false hy] at ht ⊢
      have ht : top3 l = 4 := ht
      rw [ht]; exact ⟨.inl rfl, rfl⟩
  have hs : sh1 l := ⟨hl, ht'.1⟩
  have hX : ofP (nX l) = x := by rw [hx]; exact ofP_val x
  have hY : sy1 (rhs1 (ofP (nX l))) (decide (top3 l = 5)) = y := by rw [hX, ht'.2]; exact sy_back1 h
  refine ⟨.inr (.inl ⟨hs, by rw [hx]; exact x.isLt, by rw [hX, ← h]; exact sq_sq y, by rw [hY, hX]; exact hg⟩), ?_, ?_, not_inf_sh hs⟩
  · exact (if_neg (not_inf_sh hs)).trans hX
  · exact (if_neg (not_inf_sh hs)).trans ((if_pos hl).trans hY)
theorem back_long1 (x y : Fin Pp) (h : y * y = rhs1 x) (hg : grp1 (x.val, y.val, false)) : ok1 (putL1 x y false false) ∧ gx1 (putL1 x y false false) = x ∧ gy1 (putL1 x y false false) = y ∧ ¬ inf1 (putL1 x y false false) := by
  obtain ⟨ht, hm⟩ := put1_head x y false false
  have hl : (putL1 x y false false).length = 96 := put1_length x y false false
  generalize putL1 x y false false = l at *
  have hx : nX l = x.val := nX_long hm
  have hy : nY l = y.val := nY_long hm
  have hs : lo1 l := ⟨hl, ht.trans (by cases decide (hiP y) <;> rfl)⟩
  have hX : ofP (nX l) = x := by rw [hx]; exact ofP_val x
  have hY : ofP (nY l) = y := by rw [hy]; exact ofP_val y
  refine ⟨.inr (.inr ⟨hs, ⟨by rw [hx]; exact x.isLt, by rw [hy]; exact y.isLt⟩, ?_, by rw [hX, hY]; exact hg⟩), ?_, ?_, not_inf_lo hs⟩
  · rw [hX, hY]
    show is1 x.val ∧ is1 y.val ∧ ofP y.val * ofP y.val = rhs1 (ofP x.val)
    rw [ofP_val, ofP_val]
    exact ⟨x.isLt, y.isLt, h⟩
  · exact (if_neg (not_inf_lo hs)).trans hX
  · exact (if_neg (not_inf_lo hs)).trans ((if_neg (by omega)).trans hY)
theorem back1 (x y : Fin Pp) (i s : Bool) (h : may1 (x.val, y.val, i)) (hg : grp1 (x.val, y.val, i)) : ok1 (putL1 x y i s) ∧ gx1 (putL1 x y i s) = x ∧ gy1 (putL1 x y i s) = y ∧ decide (inf1 (putL1 x y i s)) = i := by
  cases i with
  | true =>
    obtain ⟨h1, h2⟩ : x.val = 0 ∧ y.val = 0 := h
    obtain rfl : x = 0 := Fin.ext h1
    obtain rfl : y = 0 := Fin.ext h2
    obtain ⟨h3, h4⟩ := back_inf1 s
    exact ⟨h3, if_pos h4, if_pos h4, decide_eq_true h4⟩
  | false =>
    have h : is1 x.val ∧ is1 y.val ∧ ofP y.val * ofP y.val = rhs1 (ofP x.val) := h
    have h := h.2.2
    rw [ofP_val, ofP_val] at h
    cases s with
    | true =>
      obtain ⟨a, b, c, d⟩ := back_short1 x y h hg
      exact ⟨a, b, c, decide_eq_false d⟩
    | false =>
      obtain ⟨a, b, c, d⟩ := back_long1 x y h hg
      exact ⟨a, b, c, decide_eq_false d⟩
end Go.Proofs.Ytobgpmclgacbmaa

/- What Get answers on the second curve: a point, or nothing and an error; what is put is got again, and what is got, put again, is the bytes. -/
set_option linter.unusedSimpArgs false
set_option linter.unusedVariables false
namespace Go.Proofs.Ytobgpmclgacbmaa
open Go.Ev Go.RowKit
def inf2 (l : List UInt8) : Prop := (l.length = 96 ∧ top3 l = 6) ∨ (l.length = 192 ∧ top3 l = 2)
instance (l : List UInt8) : Decidable (inf2 l) := inferInstanceAs (Decidable (_ ∨ _))
end Go.Proofs.Ytobgpmclgacbmaa
