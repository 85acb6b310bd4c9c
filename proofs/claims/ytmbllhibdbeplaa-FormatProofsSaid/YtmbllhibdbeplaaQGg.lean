/- Pruned: Gg. -/
import Derived.Test.YtmbllhibdbeplaaQGf
import Derived.Test.YtmbllhibdbeplaaQGc
import Derived.Test.YtmbllhibdbeplaaQGb
import Derived.Test.YtmbllhibdbeplaaQGa
/- chirographlaw23.FormatCircuits: any circuit is written as just those bytes, or refused. -/
set_option linter.unusedSimpArgs false
set_option linter.unusedVariables false
namespace Go.Proofs.Ytmbllhibdbeplaa
open Go.Ev Go.RowKit
def eFAlive : Entry := entry0 12 [(none, .v (.bool true))]
theorem eFAlive_ok : eFAlive.OK Try.prog := entry0_ok (fun args w => Go.Proofs.enters_of (P := Try.prog) Try.func12 (by kernel_rfl) rfl args w) (only (fn_gives_at (P := Try.prog) (X := rulesY _) (env := [eFCnt]) ⟨eFCnt_ok, trivial⟩ Try.func12 8 (oL [(32, { ch := 0, hi := fun _ => 0, ex := 2, cs := fun _ => [.y [67, 72, 87, 49]] }), (96, wT)]) (by kernel_rfl) ⟨_, rfl⟩ (And.intro (show true = true from rfl) (And.intro (show flat [.y [67, 72, 87, 49]] = (ofL [67, 72, 87, 49]).data.toList.map byteV from flat_y _) trivial))))
def bd (l : List GT) : Int := if (∀ g, g ∈ l → cleanG g) then 0 else 1
end Go.Proofs.Ytmbllhibdbeplaa

/- Contracts of Put1 and Put2 in one alternative; of format.PutPublics, PutKey and chirographlaw23.points. -/
set_option linter.unusedSimpArgs false
set_option linter.unusedVariables false
namespace Go.Proofs.Ytmbllhibdbeplaa
open Go.Ev Go.RowKit
instance (a : A1) : Decidable (may1 a) := by unfold may1 is1; infer_instance
instance (a : A2) : Decidable (may2 a) := by unfold may2 is2; infer_instance
instance (a : A1) : Decidable (grp1 a) := by unfold grp1; infer_instance
instance (a : A2) : Decidable (grp2 a) := by unfold grp2; infer_instance
def p1E (a : A1) : Int := if may1 a then (if grp1 a then 0 else 31) else 30
def p1S (a : A1) : List UInt8 := if may1 a ∧ grp1 a then putL1 (ofP a.1) (ofP a.2.1) a.2.2 true else []
def p2E (a : A2) : Int := if may2 a then (if grp2 a then 0 else 31) else 30
def p2S (a : A2) : List UInt8 := if may2 a ∧ grp2 a then putL2 (of2 a.1) (of2 a.2.1) a.2.2 true else []
theorem p1S_le (a : A1) : (p1S a).length ≤ 48 := by
  unfold p1S
  split
  · rw [put1_length]; exact Nat.le_refl _
  · exact Nat.zero_le _
theorem p2S_le (a : A2) : (p2S a).length ≤ 96 := by
  unfold p2S
  split
  · rw [put2_length]; exact Nat.le_refl _
  · exact Nat.zero_le _
def ePut1T : Entry := entry1 34 parA1.x (fun a => [(some (sml1 a), .tp [.v (.string (ofL (p1S a))), .v (.int .i64 (p1E a))])])
theorem ePut1T_ok : ePut1T.OK Try.prog := entry1_ok (fun args w => Go.Proofs.enters_of (P := Try.prog) Try.func34 (by kernel_rfl) rfl args w) (fun a => onlyIf (fun h => by
  unfold p1S p1E
  by_cases h1 : may1 a
  · by_cases h2 : grp1 a
    · rw [if_pos ⟨h1, h2⟩, if_pos h1, if_pos h2]; exact Put1_ok a h h1 h2
    · rw [if_neg (fun e => h2 e.2), if_pos h1, if_neg h2]; exact Put1_no2 a h h1 h2
  · rw [if_neg (fun e => h1 e.1), if_neg h1]; exact Put1_no1 a h h1))
def ePut2T : Entry := entry1 17 parA2.x (fun a => [(some (sml2 a), .tp [.v (.string (ofL (p2S a))), .v (.int .i64 (p2E a))])])
theorem ePut2T_ok : ePut2T.OK Try.prog := entry1_ok (fun args w => Go.Proofs.enters_of (P := Try.prog) Try.func17 (by kernel_rfl) rfl args w) (fun a => onlyIf (fun h => by
  unfold p2S p2E
  by_cases h1 : may2 a
  · by_cases h2 : grp2 a
    · rw [if_pos ⟨h1, h2⟩, if_pos h1, if_pos h2]; exact Put2_ok a h h1 h2
    · rw [if_neg (fun e => h2 e.2), if_pos h1, if_neg h2]; exact Put2_no2 a h h1 h2
  · rw [if_neg (fun e => h1 e.1), if_neg h1]; exact Put2_no1 a h h1))
/-! format.PutPublics -/
/-! points -/
def ptP (a : A1) : List Ch := [.n 6 a.1, .n 6 a.2.1, .c (.bool a.2.2)]
def ptC (a : A1) : List Value := flat (ptP a)
theorem ptC_length (a : A1) : (ptC a).length = 13 := by unfold ptC ptP; simp [flat, Ch.cells, limbs_length]
def ptsC (ps : List A1) : List Value := ps.flatMap ptC
theorem pt_at (ps : List A1) (i : Nat) (a : A1) (h : ps[i]? = some a) : sizes (ptP a) = 13 ∧ ((flat [.l (ptsC ps)]).drop (i * 13)).take 13 = flat (ptP a) := by
  refine ⟨rfl, ?_⟩
  rw [flat_l]
  exact rows_at ptC ptC_length ps i a h
theorem plt {ps : List A1} {i : Nat} {x : A1} (h : ps[i]? = some x) : i < ps.length := (List.getElem?_eq_some_iff.1 h).1
theorem pmem {ps : List A1} {i : Nat} {x : A1} (h : ps[i]? = some x) : x ∈ ps := List.mem_of_getElem? h
theorem pof {ps : List A1} {i : Nat} (h : i < ps.length) : ∃ x, ps[i]? = some x := ⟨_, List.getElem?_eq_getElem h⟩
def ptsB (ps : List A1) : List UInt8 := ps.flatMap p1S
def smP1 (ps : List A1) : Prop := ∀ a, a ∈ ps → sml1 a
theorem ptsB_length (ps : List A1) : (ptsB ps).length ≤ 48 * ps.length := by
  induction ps with
  | nil => exact Nat.le_refl _
  | cons a ps ih => have := p1S_le a; simp only [ptsB, List.flatMap_cons, List.length_append, List.length_cons] at ih ⊢; omega
theorem ptsB_succ {ps : List A1} {i : Nat} {a : A1} (h : ps[i]? = some a) : ptsB (ps.take (i + 1)) = ptsB (ps.take i) ++ p1S a := by
  rw [List.take_add_one, h]; simp [ptsB]
/-- The first error among points. -/
def ptE : List A1 → Int
  | [] => 0
  | a :: l => if p1E a = 0 then ptE l else p1E a
theorem ptE_append : ∀ (l : List A1) (a : A1), ptE (l ++ [a]) = if ptE l = 0 then p1E a else ptE l
  | [], a => by simp only [List.nil_append, ptE]; by_cases h : p1E a = 0 <;> simp [h]
  | b :: l, a => by
    simp only [List.cons_append, ptE]
    by_cases h : p1E b = 0
    · simp only [h, if_true]; exact ptE_append l a
    · simp only [h, if_false]
theorem ptE_succ {ps : List A1} {i : Nat} {a : A1} (h : ps[i]? = some a) : ptE (ps.take (i + 1)) = if ptE (ps.take i) = 0 then p1E a else ptE (ps.take i) := by
  rw [List.take_add_one, h]; exact ptE_append _ a
theorem pts_first : ∀ ps : List A1, (ptE ps = 0 ∧ ∀ a, a ∈ ps → p1E a = 0) ∨ ∃ (j : Nat) (a : A1), ps[j]? = some a ∧ p1E a ≠ 0 ∧ ptE ps = p1E a ∧ ∀ (i : Nat) (y : A1), i < j → ps[i]? = some y → p1E y = 0
  | [] => .inl ⟨rfl, fun x hx => by cases hx⟩
  | n :: ns => by
    by_cases h : p1E n = 0
    · rcases pts_first ns with ⟨h0, h1⟩ | ⟨j, x, h1, h2, h4, h3⟩
      · exact .inl ⟨by simp only [ptE, h, if_true]; exact h0, fun x hx => by rcases List.mem_cons.1 hx with rfl | hx; exact h; exact h1 x hx⟩
      · refine .inr ⟨j + 1, x, h1, h2, by simp only [ptE, h, if_true]; exact h4, fun i y hi hy => ?_⟩
        match i, hy with
        | 0, hy => simp only [List.getElem?_cons_zero, Option.some.injEq] at hy; subst hy; exact h
        | i + 1, hy => exact h3 i y (by omega) (by simpa using hy)
    · exact .inr ⟨0, n, rfl, h, by simp only [ptE, h, if_false], fun i y hi => by omega⟩
def poI (ps : List A1) (b : List UInt8) (z : Int) : LState := { n := 28, sl := [(4, .v (.string (ofL b))), (9, .sz 0 ps.length), (10, .v (.int .i64 ((ps.length : Nat) : Int))), (11, .v (.int .i64 z))], hp := [(0, .rz [.l (ptsC ps)])] }
def poE (b : List UInt8) : LState := { n := 28, sl := [(4, .v (.string (ofL b)))], hp := [] }
def poF (e : Int) : LState := { n := 28, sl := [(2, .v (.string (ofL []))), (3, .v (.int .i64 e))], hp := [] }
theorem po_round (ps : List A1) (hm : ps.length ≤ 9223372036854775807) (hn : ps.length ≤ 1000000) (hs : smP1 ps) (i : Nat) (a : A1) (ha : ps[i]? = some a) (h0 : p1E a = 0) : Sound Try.prog 0 false (loopB Try.f16 0) (poI ps (ptsB (ps.take i)) (i : Int)).aa .normal (poI ps (ptsB (ps.take (i + 1))) ((i + 1 : Nat) : Int)).aa := by
  have hi := plt ha
  have hs := roundK_sound (P := Try.prog) (X := rulesY _) (env := [ePut1T]) ⟨ePut1T_ok, trivial⟩ (n := 0) (os := oL [(7, wT), (8, rO 14 i), (9, { ch := 0, hi := fun _ => 0, ru := 8, cs := fun _ => ptP a }), (13, wO 0), (20, wF), (23, rO 6 0)]) (fb := 0) (rd := false) (c := (loopB Try.f16 0)) (k := 7) (I := poI ps (ptsB (ps.take i)) (i : Int)) (sk := [4, 9, 10, 11]) (hk := [0]) (lk := []) (ex := .normal)
    (L := poI ps (ptsB (ps.take i) ++ p1S a) (IntKind.i64.wrap ((i : Int) + 1))) (by kernel_rfl)
    (And.intro (show (ofL (ptsB (ps.take i))).size + (ofL (p1S a)).size ≤ 9223372036854775807 from by
        have h1 := ptsB_length (ps.take i)
        have h2 := p1S_le a
        have h3 := List.length_take_le i ps
        show (ptsB (ps.take i)).length + (p1S a).length ≤ _
        omega)
      (And.intro (show (p1E a != 0) = false from by rw [h0]; rfl)
      (And.intro (show sml1 a from hs a (pmem ha))
      (And.intro (pt_at ps i a ha)
      (And.intro (show (i : Int) = ((i : Nat) : Int) ∧ i < ps.length from ⟨rfl, hi⟩)
      (And.intro (show decide ((i : Int) < ((ps.length : Nat) : Int)) = true from decide_eq_true (by omega)) trivial))))))
  rw [show IntKind.i64.wrap ((i : Int) + 1) = ((i + 1 : Nat) : Int) by rw [wrap_i64]; omega, ← ptsB_succ ha] at hs
  exact hs
theorem po_bad (ps : List A1) (hm : ps.length ≤ 9223372036854775807) (hs : smP1 ps) (b : List UInt8) (i : Nat) (a : A1) (ha : ps[i]? = some a) (h0 : p1E a ≠ 0) : Sound Try.prog 0 false (loopB Try.f16 0) (poI ps b (i : Int)).aa .ret (poF (p1E a)).aa := by
  have hi := plt ha
  exact roundK_sound (P := Try.prog) (X := rulesY _) (env := [ePut1T]) ⟨ePut1T_ok, trivial⟩ (n := 0) (os := oL [(7, wT), (8, rO 14 i), (9, { ch := 0, hi := fun _ => 0, ru := 8, cs := fun _ => ptP a }), (13, wO 0), (20, wT)]) (fb := 0) (rd := false) (c := (loopB Try.f16 0)) (k := 7) (I := poI ps b (i : Int)) (sk := [2, 3]) (hk := []) (lk := []) (ex := .ret)
    (L := poF (p1E a)) (by kernel_rfl)
    (And.intro (show (p1E a != 0) = true from by simpa using h0)
      (And.intro (show sml1 a from hs a (pmem ha))
      (And.intro (pt_at ps i a ha)
      (And.intro (show (i : Int) = ((i : Nat) : Int) ∧ i < ps.length from ⟨rfl, hi⟩)
      (And.intro (show decide ((i : Int) < ((ps.length : Nat) : Int)) = true from decide_eq_true (by omega)) trivial)))))
theorem po_end (ps : List A1) (b : List UInt8) : Sound Try.prog 0 false (loopB Try.f16 0) (poI ps b ((ps.length : Nat) : Int)).aa (.exit 0) (poE b).aa :=
  roundK_sound (P := Try.prog) (X := rulesY _) (env := []) trivial (n := 0) (os := oL [(7, wF)]) (fb := 0) (rd := false) (c := (loopB Try.f16 0)) (k := 7) (I := poI ps b ((ps.length : Nat) : Int)) (sk := [4]) (hk := []) (lk := []) (ex := .exit 0)
    (L := poE b) (by kernel_rfl) (And.intro (show decide (((ps.length : Nat) : Int) < ((ps.length : Nat) : Int)) = false from decide_eq_false (by omega)) trivial)
theorem po_all (ps : List A1) (hn : ps.length ≤ 1000000) (hs : smP1 ps) (hc : ∀ a, a ∈ ps → p1E a = 0) : Sound Try.prog 0 false (.loop (loopB Try.f16 0)) (poI ps [] 0).aa (.exit 0) (poE (ptsB ps)).aa := by
  refine loop_ok (m := fun y : { i : Nat // i ≤ ps.length } => ps.length - y.val) (fun y => poI ps (ptsB (ps.take y.val)) (y.val : Int)) (by simp) (fun y => ?_) ⟨0, by omega⟩
  obtain ⟨i, hi⟩ := y
  by_cases e : i < ps.length
  · obtain ⟨x, hx⟩ := pof e
    exact .inl ⟨⟨i + 1, e⟩, by show ps.length - (i + 1) < ps.length - i; omega, po_round ps (by omega) hn hs i x hx (hc x (pmem hx))⟩
  · have e : i = ps.length := by omega
    subst e
    rw [List.take_length]
    exact .inr (po_end ps _)
theorem po_no (ps : List A1) (hn : ps.length ≤ 1000000) (hs : smP1 ps) (j : Nat) (x : A1) (hj : ps[j]? = some x) (hx : p1E x ≠ 0) (hp : ∀ (i : Nat) (y : A1), i < j → ps[i]? = some y → p1E y = 0) : Sound Try.prog 0 false (.loop (loopB Try.f16 0)) (poI ps [] 0).aa .ret (poF (p1E x)).aa := by
  refine loop_ok (m := fun y : { i : Nat // i ≤ j } => j - y.val) (fun y => poI ps (ptsB (ps.take y.val)) (y.val : Int)) (by simp) (fun y => ?_) ⟨0, by omega⟩
  obtain ⟨i, hi⟩ := y
  by_cases e : i < j
  · obtain ⟨g, hg⟩ := pof (show i < ps.length by have := plt hj; omega)
    exact .inl ⟨⟨i + 1, by omega⟩, by show j - (i + 1) < j - i; omega, po_round ps (by omega) hn hs i g hg (hp i g e hg)⟩
  · have e : i = j := by omega
    subst e
    exact .inr (po_bad ps (by omega) hs _ i x hj hx)
theorem pts_yes (ps : List A1) (hn : ps.length ≤ 1000000) (hs : smP1 ps) (hc : ptE ps = 0) : Gives Try.prog 16 [.rz [.l (ptsC ps)] ps.length] (.tp [.v (.string (ofL (ptsB ps))), .v (.int .i64 0)]) := by
  rcases pts_first ps with ⟨_, h⟩ | ⟨j, x, h1, h2, h4, h3⟩
  · exact fn_gives_at (P := Try.prog) (X := rulesY _) (env := []) trivial Try.func16 0 (oL [(7, lpO { I := poI ps [] 0, ex := .exit 0, E := poE (ptsB ps), fr := 8 })]) (by kernel_rfl) ⟨_, rfl⟩
      (And.intro (show some (poI ps [] 0) = some (poI ps [] 0) from rfl) (And.intro (po_all ps hn hs h) trivial))
  · exact absurd (h4.symm.trans hc) h2
theorem pts_no (ps : List A1) (hn : ps.length ≤ 1000000) (hs : smP1 ps) (hc : ptE ps ≠ 0) : Gives Try.prog 16 [.rz [.l (ptsC ps)] ps.length] (.tp [.v (.string (ofL [])), .v (.int .i64 (ptE ps))]) := by
  rcases pts_first ps with ⟨h, _⟩ | ⟨j, x, h1, h2, h4, h3⟩
  · exact absurd h hc
  · rw [h4]
    exact fn_gives_at (P := Try.prog) (X := rulesY _) (env := []) trivial Try.func16 0 (oL [(7, lpO { I := poI ps [] 0, ex := .ret, E := poF (p1E x), fr := 8 })]) (by kernel_rfl) ⟨_, rfl⟩
      (And.intro (show some (poI ps [] 0) = some (poI ps [] 0) from rfl) (And.intro (po_no ps hn hs j x h1 h2 h3) trivial))
end Go.Proofs.Ytmbllhibdbeplaa

/- Contract of format.PutKey. -/
set_option linter.unusedSimpArgs false
set_option linter.unusedVariables false
namespace Go.Proofs.Ytmbllhibdbeplaa
open Go.Ev Go.RowKit
theorem two_y (a b : List UInt8) : (flat [.y a, .y b]).take (a.length + (ofL b).size) = (ofL (a ++ b)).data.toList.map byteV ∧ a.length + (ofL b).size = (ofL (a ++ b)).size := by
  have e : (ofL b).size = b.length := rfl
  have e2 : (ofL (a ++ b)).size = (a ++ b).length := rfl
  rw [e, e2, List.length_append]
  refine ⟨?_, rfl⟩
  have e3 : flat [.y a, .y b] = (a ++ b).map byteV := by simp [flat, Ch.cells]
  rw [e3, List.take_of_length_le (by simp)]
  rfl
end Go.Proofs.Ytmbllhibdbeplaa

/- Contract of setup.Put. -/
set_option linter.unusedSimpArgs false
set_option linter.unusedVariables false
namespace Go.Proofs.Ytmbllhibdbeplaa
open Go.Ev Go.RowKit
structure VT where
  l : Int
  p : Int
  q0 : A1
  q1 : A1
  q2 : A1
  q3 : A1
  q4 : A1
  s0 : A1
  s1 : A1
  s2 : A1
  b : A2
def VT.pts (v : VT) : List A1 := [v.q0, v.q1, v.q2, v.q3, v.q4, v.s0, v.s1, v.s2]
def VT.ch (v : VT) : List Ch := [.c (.int .i64 v.l), .c (.int .i64 v.p), .n 6 v.q0.1, .n 6 v.q0.2.1, .c (.bool v.q0.2.2), .n 6 v.q1.1, .n 6 v.q1.2.1, .c (.bool v.q1.2.2), .n 6 v.q2.1, .n 6 v.q2.2.1, .c (.bool v.q2.2.2), .n 6 v.q3.1, .n 6 v.q3.2.1, .c (.bool v.q3.2.2), .n 6 v.q4.1, .n 6 v.q4.2.1, .c (.bool v.q4.2.2), .n 6 v.s0.1, .n 6 v.s0.2.1, .c (.bool v.s0.2.2), .n 6 v.s1.1, .n 6 v.s1.2.1, .c (.bool v.s1.2.2), .n 6 v.s2.1, .n 6 v.s2.2.1, .c (.bool v.s2.2.2), .n 6 v.b.1.1, .n 6 v.b.1.2, .n 6 v.b.2.1.1, .n 6 v.b.2.1.2, .c (.bool v.b.2.2)]
def VT.pc (v : VT) : List Ch := [.n 6 v.q0.1, .n 6 v.q0.2.1, .c (.bool v.q0.2.2), .n 6 v.q1.1, .n 6 v.q1.2.1, .c (.bool v.q1.2.2), .n 6 v.q2.1, .n 6 v.q2.2.1, .c (.bool v.q2.2.2), .n 6 v.q3.1, .n 6 v.q3.2.1, .c (.bool v.q3.2.2), .n 6 v.q4.1, .n 6 v.q4.2.1, .c (.bool v.q4.2.2), .n 6 v.s0.1, .n 6 v.s0.2.1, .c (.bool v.s0.2.2), .n 6 v.s1.1, .n 6 v.s1.2.1, .c (.bool v.s1.2.2), .n 6 v.s2.1, .n 6 v.s2.2.1, .c (.bool v.s2.2.2)]
def VT.sm (v : VT) : Prop := smP1 v.pts ∧ sml2 v.b
theorem VT.pc_flat (v : VT) : flat v.pc = flat [.l (ptsC v.pts)] := by
  simp [VT.pc, VT.pts, ptsC, ptC, ptP, flat, Ch.cells]
def spJ (v : VT) (out : List UInt8) : LState := { n := 71, sl := [(1, .p 0 0), (4, .v (.string (ofL out))), (41, .sx 30 8), (42, .v (.int .i64 8)), (43, .v (.int .i64 0))], hp := [(0, .own v.ch 62), (30, .gr v.pc 56 13)] }
def spI (v : VT) (C : List Value) (out : List UInt8) (z : Int) : LState := { n := 71, sl := [(1, .p 0 0), (4, .v (.string (ofL out))), (41, .sx 30 8), (42, .v (.int .i64 8)), (43, .v (.int .i64 z))], hp := [(0, .own v.ch 62), (30, .gr [.l C] 56 13)] }
def spE (v : VT) (out : List UInt8) : LState := { n := 71, sl := [(1, .p 0 0), (4, .v (.string (ofL out)))], hp := [(0, .own v.ch 62)] }
def spF (e : Int) : LState := { n := 71, sl := [(2, .v (.string (ofL []))), (3, .v (.int .i64 e))], hp := [] }
theorem sp_round (v : VT) (ps : List A1) (hn : ps.length = 8) (hs : smP1 ps) (i : Nat) (a : A1) (ha : ps[i]? = some a) (h0 : p1E a = 0) (out : List UInt8) (ho : out.length ≤ 1000000) : Sound Try.prog 0 false (loopB Try.f20 0) (spI v (ptsC ps) out (i : Int)).aa .normal (spI v (ptsC ps) (out ++ p1S a) ((i + 1 : Nat) : Int)).aa := by
  have hi := plt ha
  rw [hn] at hi
  have hs := roundK_sound (P := Try.prog) (X := rulesY _) (env := [ePut1T]) ⟨ePut1T_ok, trivial⟩ (n := 0) (os := oL [(37, wT), (38, rO 9 i), (39, { ch := 0, hi := fun _ => 0, ru := 8, cs := fun _ => ptP a }), (43, wO 0), (50, wF), (53, rO 6 0)]) (fb := 0) (rd := false) (c := (loopB Try.f20 0)) (k := 37) (I := spI v (ptsC ps) out (i : Int)) (sk := [1, 4, 41, 42, 43]) (hk := [0, 30]) (lk := []) (ex := .normal)
    (L := spI v (ptsC ps) (out ++ p1S a) (IntKind.i64.wrap ((i : Int) + 1))) (by kernel_rfl)
    (And.intro (show (ofL out).size + (ofL (p1S a)).size ≤ 9223372036854775807 from by
        have h1 := p1S_le a
        show out.length + (p1S a).length ≤ _
        omega)
      (And.intro (show (p1E a != 0) = false from by rw [h0]; rfl)
      (And.intro (show sml1 a from hs a (pmem ha))
      (And.intro (pt_at ps i a ha)
      (And.intro (show (i : Int) = ((i : Nat) : Int) ∧ i < 8 from ⟨rfl, hi⟩)
      (And.intro (show decide ((i : Int) < 8) = true from decide_eq_true (by omega)) trivial))))))
  rw [show IntKind.i64.wrap ((i : Int) + 1) = ((i + 1 : Nat) : Int) by rw [wrap_i64]; omega] at hs
  exact hs
theorem sp_bad (v : VT) (ps : List A1) (hn : ps.length = 8) (hs : smP1 ps) (out : List UInt8) (i : Nat) (a : A1) (ha : ps[i]? = some a) (h0 : p1E a ≠ 0) : Sound Try.prog 0 false (loopB Try.f20 0) (spI v (ptsC ps) out (i : Int)).aa .ret (spF (p1E a)).aa := by
  have hi := plt ha
  rw [hn] at hi
  exact roundK_sound (P := Try.prog) (X := rulesY _) (env := [ePut1T]) ⟨ePut1T_ok, trivial⟩ (n := 0) (os := oL [(37, wT), (38, rO 9 i), (39, { ch := 0, hi := fun _ => 0, ru := 8, cs := fun _ => ptP a }), (43, wO 0), (50, wT)]) (fb := 0) (rd := false) (c := (loopB Try.f20 0)) (k := 37) (I := spI v (ptsC ps) out (i : Int)) (sk := [2, 3]) (hk := []) (lk := []) (ex := .ret)
    (L := spF (p1E a)) (by kernel_rfl)
    (And.intro (show (p1E a != 0) = true from by simpa using h0)
      (And.intro (show sml1 a from hs a (pmem ha))
      (And.intro (pt_at ps i a ha)
      (And.intro (show (i : Int) = ((i : Nat) : Int) ∧ i < 8 from ⟨rfl, hi⟩)
      (And.intro (show decide ((i : Int) < 8) = true from decide_eq_true (by omega)) trivial)))))
theorem sp_end (v : VT) (ps : List A1) (out : List UInt8) : Sound Try.prog 0 false (loopB Try.f20 0) (spI v (ptsC ps) out 8).aa (.exit 0) (spE v out).aa :=
  roundK_sound (P := Try.prog) (X := rulesY _) (env := []) trivial (n := 0) (os := oL []) (fb := 0) (rd := false) (c := (loopB Try.f20 0)) (k := 37) (I := spI v (ptsC ps) out 8) (sk := [1, 4]) (hk := [0]) (lk := []) (ex := .exit 0)
    (L := spE v out) (by kernel_rfl) trivial
theorem sp_all (v : VT) (ps : List A1) (hn : ps.length = 8) (hs : smP1 ps) (hc : ∀ a, a ∈ ps → p1E a = 0) (o0 : List UInt8) (h0 : o0.length ≤ 1000) : Sound Try.prog 0 false (.loop (loopB Try.f20 0)) (spI v (ptsC ps) o0 0).aa (.exit 0) (spE v (o0 ++ ptsB ps)).aa := by
  have hh := loop_ok (P := Try.prog) (fb := 0) (rd := false) (body := (loopB Try.f20 0)) (ex := .exit 0) (E := spE v (o0 ++ ptsB (ps.take 8))) (m := fun y : { i : Nat // i ≤ 8 } => 8 - y.val) (fun y => spI v (ptsC ps) (o0 ++ ptsB (ps.take y.val)) (y.val : Int)) (by simp) (fun y => ?_) ⟨0, by omega⟩
  · have e1 : ps.take 8 = ps := List.take_of_length_le (by omega)
    have e2 : o0 ++ ptsB (ps.take 0) = o0 := by simp [ptsB]
    have h2 : Sound Try.prog 0 false (.loop (loopB Try.f20 0)) (spI v (ptsC ps) (o0 ++ ptsB (ps.take 0)) 0).aa (.exit 0) (spE v (o0 ++ ptsB (ps.take 8))).aa := hh
    rw [e1, e2] at h2
    exact h2
  obtain ⟨i, hi⟩ := y
  by_cases e : i < 8
  · obtain ⟨x, hx⟩ := pof (show i < ps.length by omega)
    have h1 := sp_round v ps hn hs i x hx (hc x (pmem hx)) (o0 ++ ptsB (ps.take i)) (by have := ptsB_length (ps.take i); have := List.length_take_le i ps; rw [List.length_append]; have : (ps.take i).length ≤ 8 := (by rw [List.length_take]; omega); omega)
    rw [List.append_assoc, ← ptsB_succ hx] at h1
    exact .inl ⟨⟨i + 1, e⟩, by show 8 - (i + 1) < 8 - i; omega, h1⟩
  · have e : i = 8 := by omega
    subst e
    exact .inr (sp_end v ps _)
theorem sp_no (v : VT) (ps : List A1) (hn : ps.length = 8) (hs : smP1 ps) (j : Nat) (x : A1) (hj : ps[j]? = some x) (hx : p1E x ≠ 0) (hp : ∀ (i : Nat) (y : A1), i < j → ps[i]? = some y → p1E y = 0) (o0 : List UInt8) (h0 : o0.length ≤ 1000) : Sound Try.prog 0 false (.loop (loopB Try.f20 0)) (spI v (ptsC ps) o0 0).aa .ret (spF (p1E x)).aa := by
  have hh := loop_ok (P := Try.prog) (fb := 0) (rd := false) (body := (loopB Try.f20 0)) (ex := .ret) (E := spF (p1E x)) (m := fun y : { i : Nat // i ≤ j } => j - y.val) (fun y => spI v (ptsC ps) (o0 ++ ptsB (ps.take y.val)) (y.val : Int)) (by simp) (fun y => ?_) ⟨0, by omega⟩
  · have e2 : o0 ++ ptsB (ps.take 0) = o0 := by simp [ptsB]
    have h2 : Sound Try.prog 0 false (.loop (loopB Try.f20 0)) (spI v (ptsC ps) (o0 ++ ptsB (ps.take 0)) 0).aa .ret (spF (p1E x)).aa := hh
    rw [e2] at h2
    exact h2
  obtain ⟨i, hi⟩ := y
  by_cases e : i < j
  · obtain ⟨g, hg⟩ := pof (show i < ps.length by have := plt hj; omega)
    have h1 := sp_round v ps hn hs i g hg (hp i g e hg) (o0 ++ ptsB (ps.take i)) (by have := ptsB_length (ps.take i); have := List.length_take_le i ps; rw [List.length_append]; have : (ps.take i).length ≤ 8 := (by rw [List.length_take]; omega); omega)
    rw [List.append_assoc, ← ptsB_succ hg] at h1
    exact .inl ⟨⟨i + 1, by omega⟩, by show j - (i + 1) < j - i; omega, h1⟩
  · have e : i = j := by omega
    subst e
    exact .inr (sp_bad v ps hn hs _ i x hj hx)
def spR (v : VT) (out : List UInt8) : LState := { n := 71, sl := [(1, .p 0 0), (4, .v (.string (ofL out)))], hp := [(0, .own v.ch 62)] }
theorem sp_region (v : VT) (out : List UInt8) : Sound Try.prog 0 false (drawB Try.f20 0) (spR v out).aa .normal (spJ v out).aa := by
  have hL : True ∧ (some (spJ v out) = some (spJ v out)) := ⟨trivial, rfl⟩
  exact regionT_sound (P := Try.prog) (X := rulesY _) (env := []) trivial (inlN_ok (P := Try.prog) (X := rulesY _) (env := []) (os := oL []) trivial 0) (os := oL []) (fb := 0) (k := 30) (I := spR v out) (E := spJ v out) (by kernel_rfl)
    (And.intro (And.intro (And.intro (And.intro (And.intro (And.intro (And.intro hL trivial) (And.intro (And.intro hL trivial) trivial)) (And.intro (And.intro (And.intro hL trivial) trivial) trivial)) (And.intro (And.intro (And.intro (And.intro hL trivial) trivial) trivial) trivial)) (And.intro (And.intro (And.intro (And.intro (And.intro hL trivial) trivial) trivial) trivial) trivial)) (And.intro (And.intro (And.intro (And.intro (And.intro (And.intro hL trivial) (And.intro (And.intro hL trivial) trivial)) (And.intro (And.intro (And.intro hL trivial) trivial) trivial)) (And.intro (And.intro (And.intro (And.intro hL trivial) trivial) trivial) trivial)) (And.intro (And.intro (And.intro (And.intro (And.intro hL trivial) (And.intro (And.intro hL trivial) trivial)) (And.intro (And.intro (And.intro hL trivial) trivial) trivial)) (And.intro (And.intro (And.intro (And.intro hL trivial) trivial) trivial) trivial)) (And.intro (And.intro (And.intro (And.intro (And.intro hL trivial) trivial) trivial) (And.intro (And.intro (And.intro (And.intro hL trivial) trivial) trivial) trivial)) trivial))) (And.intro (And.intro (And.intro (And.intro (And.intro (And.intro hL trivial) trivial) trivial) trivial) (And.intro (And.intro (And.intro (And.intro (And.intro hL trivial) trivial) trivial) (And.intro (And.intro (And.intro (And.intro hL trivial) trivial) trivial) trivial)) trivial)) trivial))) (And.intro (And.intro (And.intro (And.intro (And.intro (And.intro (And.intro hL trivial) (And.intro (And.intro hL trivial) trivial)) (And.intro (And.intro (And.intro hL trivial) trivial) trivial)) (And.intro (And.intro (And.intro (And.intro hL trivial) trivial) trivial) trivial)) (And.intro (And.intro (And.intro (And.intro (And.intro hL trivial) (And.intro (And.intro hL trivial) trivial)) (And.intro (And.intro (And.intro hL trivial) trivial) trivial)) (And.intro (And.intro (And.intro (And.intro hL trivial) trivial) trivial) trivial)) (And.intro (And.intro (And.intro (And.intro (And.intro hL trivial) trivial) trivial) (And.intro (And.intro (And.intro (And.intro hL trivial) trivial) trivial) trivial)) trivial))) (And.intro (And.intro (And.intro (And.intro (And.intro (And.intro hL trivial) (And.intro (And.intro hL trivial) trivial)) (And.intro (And.intro (And.intro hL trivial) trivial) trivial)) (And.intro (And.intro (And.intro (And.intro hL trivial) trivial) trivial) trivial)) (And.intro (And.intro (And.intro (And.intro (And.intro hL trivial) trivial) trivial) trivial) trivial)) (And.intro (And.intro (And.intro (And.intro (And.intro (And.intro hL trivial) trivial) trivial) (And.intro (And.intro (And.intro (And.intro hL trivial) trivial) trivial) trivial)) (And.intro (And.intro (And.intro (And.intro (And.intro hL trivial) trivial) trivial) trivial) trivial)) trivial))) (And.intro (And.intro (And.intro (And.intro (And.intro (And.intro (And.intro hL trivial) trivial) trivial) trivial) (And.intro (And.intro (And.intro (And.intro (And.intro hL trivial) trivial) trivial) (And.intro (And.intro (And.intro (And.intro hL trivial) trivial) trivial) trivial)) trivial)) (And.intro (And.intro (And.intro (And.intro (And.intro (And.intro hL trivial) trivial) trivial) (And.intro (And.intro (And.intro (And.intro hL trivial) trivial) trivial) trivial)) (And.intro (And.intro (And.intro (And.intro (And.intro hL trivial) trivial) trivial) trivial) trivial)) trivial)) trivial)))
theorem sp_pre (v : VT) (ps : List A1) (hp : flat v.pc = flat [.l (ptsC ps)]) (out : List UInt8) : fitsP (spJ v out).aa (spI v (ptsC ps) out 0) [] := by
  have e : fitsP (spJ v out).aa (spI v (ptsC ps) out 0) [] = (((true = true ∧ 0 = 0) ∧ (Value.string (ofL out)) = (Value.string (ofL out)) ∧ (true = true ∧ 8 = 8) ∧ (Value.int .i64 8) = (Value.int .i64 8) ∧ (Value.int .i64 0) = (Value.int .i64 0) ∧ True) ∧ ((62 = 62 ∧ flat v.ch = flat v.ch) ∧ ((56 = 56 ∧ 13 = 13) ∧ flat v.pc = flat [.l (ptsC ps)]) ∧ True)) := by kernel_rfl
  rw [e]
  exact ⟨⟨⟨rfl, rfl⟩, rfl, ⟨rfl, rfl⟩, rfl, rfl, trivial⟩, ⟨rfl, rfl⟩, ⟨⟨rfl, rfl⟩, hp⟩, trivial⟩
def spO (v : VT) : List UInt8 := [UInt8.ofNat (IntKind.u8.wrap v.l).toNat, UInt8.ofNat (IntKind.u8.wrap v.p).toNat]
def spOK (v : VT) : Prop := 0 ≤ v.l ∧ v.l ≤ 255 ∧ 0 ≤ v.p ∧ v.p ≤ 255
instance (v : VT) : Decidable (spOK v) := by unfold spOK; infer_instance
def spEr (v : VT) : Int := if spOK v then (if ptE v.pts = 0 then p2E v.b else ptE v.pts) else 1
def spS (v : VT) : List UInt8 := if spEr v = 0 then spO v ++ ptsB v.pts ++ p2S v.b else []
theorem sp_arg0 (v : VT)  (h : v.l < 0) : Gives Try.prog 20 [.t (.ag v.ch)] (.tp [.v (.string (ofL [])), .v (.int .i64 1)]) := by
  exact fn_gives_at (P := Try.prog) (X := rulesY _) (env := [ePut1T, ePut2T]) ⟨ePut1T_ok, ePut2T_ok, trivial⟩ Try.func20 1 (oL [(5, wT)]) (by kernel_rfl) ⟨_, rfl⟩
    (And.intro (show decide (v.l < 0) = true from decide_eq_true h) trivial)
theorem sp_arg1 (v : VT) (h0 : ¬ v.l < 0) (h : v.l > 255) : Gives Try.prog 20 [.t (.ag v.ch)] (.tp [.v (.string (ofL [])), .v (.int .i64 1)]) := by
  exact fn_gives_at (P := Try.prog) (X := rulesY _) (env := [ePut1T, ePut2T]) ⟨ePut1T_ok, ePut2T_ok, trivial⟩ Try.func20 1 (oL [(5, wF), (9, wT)]) (by kernel_rfl) ⟨_, rfl⟩
    (And.intro (show decide (v.l > 255) = true from decide_eq_true h)
      (And.intro (show decide (v.l < 0) = false from decide_eq_false h0) trivial))
theorem sp_arg2 (v : VT) (h0 : ¬ v.l < 0) (h1 : ¬ v.l > 255) (h : v.p < 0) : Gives Try.prog 20 [.t (.ag v.ch)] (.tp [.v (.string (ofL [])), .v (.int .i64 1)]) := by
  exact fn_gives_at (P := Try.prog) (X := rulesY _) (env := [ePut1T, ePut2T]) ⟨ePut1T_ok, ePut2T_ok, trivial⟩ Try.func20 1 (oL [(5, wF), (9, wF), (14, wT)]) (by kernel_rfl) ⟨_, rfl⟩
    (And.intro (show decide (v.p < 0) = true from decide_eq_true h)
      (And.intro (show decide (v.l > 255) = false from decide_eq_false h1)
      (And.intro (show decide (v.l < 0) = false from decide_eq_false h0) trivial)))
theorem sp_arg3 (v : VT) (h0 : ¬ v.l < 0) (h1 : ¬ v.l > 255) (h2 : ¬ v.p < 0) (h : v.p > 255) : Gives Try.prog 20 [.t (.ag v.ch)] (.tp [.v (.string (ofL [])), .v (.int .i64 1)]) := by
  exact fn_gives_at (P := Try.prog) (X := rulesY _) (env := [ePut1T, ePut2T]) ⟨ePut1T_ok, ePut2T_ok, trivial⟩ Try.func20 1 (oL [(5, wF), (9, wF), (14, wF), (19, wT)]) (by kernel_rfl) ⟨_, rfl⟩
    (And.intro (show decide (v.p > 255) = true from decide_eq_true h)
      (And.intro (show decide (v.p < 0) = false from decide_eq_false h2)
      (And.intro (show decide (v.l > 255) = false from decide_eq_false h1)
      (And.intro (show decide (v.l < 0) = false from decide_eq_false h0) trivial))))
theorem sp_pbad (v : VT) (n0 : ¬ v.l < 0) (n1 : ¬ v.l > 255) (n2 : ¬ v.p < 0) (n3 : ¬ v.p > 255) (hs : v.sm) (j : Nat) (x : A1) (h1 : v.pts[j]? = some x) (h2 : p1E x ≠ 0) (h3 : ∀ (i : Nat) (y : A1), i < j → v.pts[i]? = some y → p1E y = 0) : Gives Try.prog 20 [.t (.ag v.ch)] (.tp [.v (.string (ofL [])), .v (.int .i64 (p1E x))]) := by
  exact fn_gives_at (P := Try.prog) (X := rulesY _) (env := [ePut1T, ePut2T]) ⟨ePut1T_ok, ePut2T_ok, trivial⟩ Try.func20 1 (oL [(5, wF), (9, wF), (14, wF), (19, wF), (30, lpO { kd := 5, I := spR v [UInt8.ofNat (IntKind.u8.wrap v.l).toNat, UInt8.ofNat (IntKind.u8.wrap v.p).toNat], ex := .normal, E := spJ v [UInt8.ofNat (IntKind.u8.wrap v.l).toNat, UInt8.ofNat (IntKind.u8.wrap v.p).toNat], fr := 37 }), (37, lpO { I := spJ v [UInt8.ofNat (IntKind.u8.wrap v.l).toNat, UInt8.ofNat (IntKind.u8.wrap v.p).toNat], ex := .ret, E := spF (p1E x), fr := 38 })]) (by kernel_rfl) ⟨_, rfl⟩
    (And.intro (show some (spJ v [UInt8.ofNat (IntKind.u8.wrap v.l).toNat, UInt8.ofNat (IntKind.u8.wrap v.p).toNat]) = some (spJ v [UInt8.ofNat (IntKind.u8.wrap v.l).toNat, UInt8.ofNat (IntKind.u8.wrap v.p).toNat]) from rfl)
      (And.intro ((sp_no v v.pts rfl hs.1 j x h1 h2 h3 [UInt8.ofNat (IntKind.u8.wrap v.l).toNat, UInt8.ofNat (IntKind.u8.wrap v.p).toNat] (by simp)).pre [] (by kernel_rfl) (sp_pre v v.pts v.pc_flat [UInt8.ofNat (IntKind.u8.wrap v.l).toNat, UInt8.ofNat (IntKind.u8.wrap v.p).toNat]))
      (And.intro (show some (spR v [UInt8.ofNat (IntKind.u8.wrap v.l).toNat, UInt8.ofNat (IntKind.u8.wrap v.p).toNat]) = some (spR v [UInt8.ofNat (IntKind.u8.wrap v.l).toNat, UInt8.ofNat (IntKind.u8.wrap v.p).toNat]) from rfl)
      (And.intro (sp_region v [UInt8.ofNat (IntKind.u8.wrap v.l).toNat, UInt8.ofNat (IntKind.u8.wrap v.p).toNat])
      (And.intro (show decide (v.p > 255) = false from decide_eq_false n3)
      (And.intro (show decide (v.p < 0) = false from decide_eq_false n2)
      (And.intro (show decide (v.l > 255) = false from decide_eq_false n1)
      (And.intro (show decide (v.l < 0) = false from decide_eq_false n0) trivial))))))))
theorem sp_bbad (v : VT) (n0 : ¬ v.l < 0) (n1 : ¬ v.l > 255) (n2 : ¬ v.p < 0) (n3 : ¬ v.p > 255) (hs : v.sm) (hc : ∀ a, a ∈ v.pts → p1E a = 0) (h : p2E v.b ≠ 0) : Gives Try.prog 20 [.t (.ag v.ch)] (.tp [.v (.string (ofL [])), .v (.int .i64 (p2E v.b))]) := by
  exact fn_gives_at (P := Try.prog) (X := rulesY _) (env := [ePut1T, ePut2T]) ⟨ePut1T_ok, ePut2T_ok, trivial⟩ Try.func20 1 (oL [(5, wF), (9, wF), (14, wF), (19, wF), (30, lpO { kd := 5, I := spR v [UInt8.ofNat (IntKind.u8.wrap v.l).toNat, UInt8.ofNat (IntKind.u8.wrap v.p).toNat], ex := .normal, E := spJ v [UInt8.ofNat (IntKind.u8.wrap v.l).toNat, UInt8.ofNat (IntKind.u8.wrap v.p).toNat], fr := 37 }), (37, lpO { I := spJ v [UInt8.ofNat (IntKind.u8.wrap v.l).toNat, UInt8.ofNat (IntKind.u8.wrap v.p).toNat], ex := .exit 0, E := spE v ([UInt8.ofNat (IntKind.u8.wrap v.l).toNat, UInt8.ofNat (IntKind.u8.wrap v.p).toNat] ++ ptsB v.pts), fr := 38 }), (40, wO 0), (47, wT)]) (by kernel_rfl) ⟨_, rfl⟩
    (And.intro (show (p2E v.b != 0) = true from by simpa using h)
      (And.intro (show sml2 v.b from hs.2)
      (And.intro (show some (spJ v [UInt8.ofNat (IntKind.u8.wrap v.l).toNat, UInt8.ofNat (IntKind.u8.wrap v.p).toNat]) = some (spJ v [UInt8.ofNat (IntKind.u8.wrap v.l).toNat, UInt8.ofNat (IntKind.u8.wrap v.p).toNat]) from rfl)
      (And.intro ((sp_all v v.pts rfl hs.1 hc [UInt8.ofNat (IntKind.u8.wrap v.l).toNat, UInt8.ofNat (IntKind.u8.wrap v.p).toNat] (by simp)).pre [] (by kernel_rfl) (sp_pre v v.pts v.pc_flat [UInt8.ofNat (IntKind.u8.wrap v.l).toNat, UInt8.ofNat (IntKind.u8.wrap v.p).toNat]))
      (And.intro (show some (spR v [UInt8.ofNat (IntKind.u8.wrap v.l).toNat, UInt8.ofNat (IntKind.u8.wrap v.p).toNat]) = some (spR v [UInt8.ofNat (IntKind.u8.wrap v.l).toNat, UInt8.ofNat (IntKind.u8.wrap v.p).toNat]) from rfl)
      (And.intro (sp_region v [UInt8.ofNat (IntKind.u8.wrap v.l).toNat, UInt8.ofNat (IntKind.u8.wrap v.p).toNat])
      (And.intro (show decide (v.p > 255) = false from decide_eq_false n3)
      (And.intro (show decide (v.p < 0) = false from decide_eq_false n2)
      (And.intro (show decide (v.l > 255) = false from decide_eq_false n1)
      (And.intro (show decide (v.l < 0) = false from decide_eq_false n0) trivial))))))))))
theorem sp_good (v : VT) (n0 : ¬ v.l < 0) (n1 : ¬ v.l > 255) (n2 : ¬ v.p < 0) (n3 : ¬ v.p > 255) (hs : v.sm) (hc : ∀ a, a ∈ v.pts → p1E a = 0) (h : p2E v.b = 0) : Gives Try.prog 20 [.t (.ag v.ch)] (.tp [.v (.string (ofL (([UInt8.ofNat (IntKind.u8.wrap v.l).toNat, UInt8.ofNat (IntKind.u8.wrap v.p).toNat] ++ ptsB v.pts) ++ p2S v.b))), .v (.int .i64 0)]) := by
  exact fn_gives_at (P := Try.prog) (X := rulesY _) (env := [ePut1T, ePut2T]) ⟨ePut1T_ok, ePut2T_ok, trivial⟩ Try.func20 1 (oL [(5, wF), (9, wF), (14, wF), (19, wF), (30, lpO { kd := 5, I := spR v [UInt8.ofNat (IntKind.u8.wrap v.l).toNat, UInt8.ofNat (IntKind.u8.wrap v.p).toNat], ex := .normal, E := spJ v [UInt8.ofNat (IntKind.u8.wrap v.l).toNat, UInt8.ofNat (IntKind.u8.wrap v.p).toNat], fr := 37 }), (37, lpO { I := spJ v [UInt8.ofNat (IntKind.u8.wrap v.l).toNat, UInt8.ofNat (IntKind.u8.wrap v.p).toNat], ex := .exit 0, E := spE v ([UInt8.ofNat (IntKind.u8.wrap v.l).toNat, UInt8.ofNat (IntKind.u8.wrap v.p).toNat] ++ ptsB v.pts), fr := 38 }), (40, wO 0), (47, wF), (50, rO 6 0)]) (by kernel_rfl) ⟨_, rfl⟩
    (And.intro (show (ofL ([UInt8.ofNat (IntKind.u8.wrap v.l).toNat, UInt8.ofNat (IntKind.u8.wrap v.p).toNat] ++ ptsB v.pts)).size + (ofL (p2S v.b)).size ≤ 9223372036854775807 from by
      have h1 := p2S_le v.b
      have h2 := ptsB_length v.pts
      have h4 : v.pts.length = 8 := rfl
      show (([UInt8.ofNat (IntKind.u8.wrap v.l).toNat, UInt8.ofNat (IntKind.u8.wrap v.p).toNat] ++ ptsB v.pts)).length + (p2S v.b).length ≤ _
      rw [List.length_append]
      simp only [List.length_cons, List.length_nil]
      omega)
      (And.intro (show (p2E v.b != 0) = false from by rw [h]; rfl)
      (And.intro (show sml2 v.b from hs.2)
      (And.intro (show some (spJ v [UInt8.ofNat (IntKind.u8.wrap v.l).toNat, UInt8.ofNat (IntKind.u8.wrap v.p).toNat]) = some (spJ v [UInt8.ofNat (IntKind.u8.wrap v.l).toNat, UInt8.ofNat (IntKind.u8.wrap v.p).toNat]) from rfl)
      (And.intro ((sp_all v v.pts rfl hs.1 hc [UInt8.ofNat (IntKind.u8.wrap v.l).toNat, UInt8.ofNat (IntKind.u8.wrap v.p).toNat] (by simp)).pre [] (by kernel_rfl) (sp_pre v v.pts v.pc_flat [UInt8.ofNat (IntKind.u8.wrap v.l).toNat, UInt8.ofNat (IntKind.u8.wrap v.p).toNat]))
      (And.intro (show some (spR v [UInt8.ofNat (IntKind.u8.wrap v.l).toNat, UInt8.ofNat (IntKind.u8.wrap v.p).toNat]) = some (spR v [UInt8.ofNat (IntKind.u8.wrap v.l).toNat, UInt8.ofNat (IntKind.u8.wrap v.p).toNat]) from rfl)
      (And.intro (sp_region v [UInt8.ofNat (IntKind.u8.wrap v.l).toNat, UInt8.ofNat (IntKind.u8.wrap v.p).toNat])
      (And.intro (show decide (v.p > 255) = false from decide_eq_false n3)
      (And.intro (show decide (v.p < 0) = false from decide_eq_false n2)
      (And.intro (show decide (v.l > 255) = false from decide_eq_false n1)
      (And.intro (show decide (v.l < 0) = false from decide_eq_false n0) trivial)))))))))))
theorem sp_gives (v : VT) (hs : v.sm) : Gives Try.prog 20 [.t (.ag v.ch)] (.tp [.v (.string (ofL (spS v))), .v (.int .i64 (spEr v))]) := by
  by_cases n0 : v.l < 0
  · rw [show spEr v = 1 from if_neg (fun h => absurd h.1 (by omega)), show spS v = [] from if_neg (by rw [show spEr v = 1 from if_neg (fun h => absurd h.1 (by omega))]; decide)]
    exact sp_arg0 v n0
  by_cases n1 : v.l > 255
  · rw [show spEr v = 1 from if_neg (fun h => absurd h.2.1 (by omega)), show spS v = [] from if_neg (by rw [show spEr v = 1 from if_neg (fun h => absurd h.2.1 (by omega))]; decide)]
    exact sp_arg1 v n0 n1
  by_cases n2 : v.p < 0
  · rw [show spEr v = 1 from if_neg (fun h => absurd h.2.2.1 (by omega)), show spS v = [] from if_neg (by rw [show spEr v = 1 from if_neg (fun h => absurd h.2.2.1 (by omega))]; decide)]
    exact sp_arg2 v n0 n1 n2
  by_cases n3 : v.p > 255
  · rw [show spEr v = 1 from if_neg (fun h => absurd h.2.2.2 (by omega)), show spS v = [] from if_neg (by rw [show spEr v = 1 from if_neg (fun h => absurd h.2.2.2 (by omega))]; decide)]
    exact sp_arg3 v n0 n1 n2 n3
  have hk : spOK v := ⟨by omega, by omega, by omega, by omega⟩
  rcases pts_first v.pts with ⟨h0, hc⟩ | ⟨j, x, h1, h2, h4, h3⟩
  · have he : spEr v = p2E v.b := by unfold spEr; rw [if_pos hk, if_pos h0]
    by_cases h : p2E v.b = 0
    · rw [show spS v = spO v ++ ptsB v.pts ++ p2S v.b from if_pos (by rw [he, h]), he, h]
      exact sp_good v n0 n1 n2 n3 hs hc h
    · rw [show spS v = [] from if_neg (by rw [he]; exact h), he]
      exact sp_bbad v n0 n1 n2 n3 hs hc h
  · have he : spEr v = p1E x := by unfold spEr; rw [if_pos hk, if_neg (by rw [h4]; exact h2), h4]
    rw [show spS v = [] from if_neg (by rw [he]; exact h2), he]
    exact sp_pbad v n0 n1 n2 n3 hs j x h1 h2 h3
end Go.Proofs.Ytmbllhibdbeplaa
