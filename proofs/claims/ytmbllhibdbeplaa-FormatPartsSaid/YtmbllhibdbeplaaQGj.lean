/- Pruned: Gj. -/
import Derived.Test.YtmbllhibdbeplaaQGd
import Derived.Test.YtmbllhibdbeplaaQGf
import Derived.Test.YtmbllhibdbeplaaQGc
import Derived.Test.YtmbllhibdbeplaaQE2
import Derived.Test.YtmbllhibdbeplaaQGg
import Derived.Test.YtmbllhibdbeplaaQGb
import Derived.Test.YtmbllhibdbeplaaQGa
/- Contracts of Get1, Get2 and fr.Get in one alternative; which errors they name. -/
set_option linter.unusedSimpArgs false
set_option linter.unusedVariables false
namespace Go.Proofs.Ytmbllhibdbeplaa
open Go.Ev Go.RowKit
instance (l : List UInt8) : Decidable (allZ l) := by unfold allZ; infer_instance
instance (a : Fin Pp) : Decidable (sqP a) := by unfold sqP; infer_instance
instance (a : F2) : Decidable (sq2 a) := by unfold sq2; infer_instance
instance (l : List UInt8) : Decidable (sh1 l) := by unfold sh1; infer_instance
instance (l : List UInt8) : Decidable (lo1 l) := by unfold lo1; infer_instance
instance (l : List UInt8) : Decidable (sh2 l) := by unfold sh2; infer_instance
instance (l : List UInt8) : Decidable (lo2 l) := by unfold lo2; infer_instance
instance (l : List UInt8) : Decidable (ok1 l) := by unfold ok1; infer_instance
instance (l : List UInt8) : Decidable (ok2 l) := by unfold ok2; infer_instance
def pt1 (a : A1) : List Ch := [.n 6 a.1, .n 6 a.2.1, .c (.bool a.2.2)]
def g1E (l : List UInt8) : Int :=
  if l.length ≠ 48 ∧ l.length ≠ 96 then 3 else if (l.length = 48 ∧ top3 l ≠ 4 ∧ top3 l ≠ 5 ∧ top3 l ≠ 6) ∨ (l.length = 96 ∧ top3 l ≠ 0 ∧ top3 l ≠ 2) then 32 else
  if inf1 l then (if allZ (maskL l) then 0 else 33) else
  if l.length = 48 then (if nX l < Pp then (if sqP (rhs1 (ofP (nX l))) then (if grp1 ((ofP (nX l)).val, (sy1 (rhs1 (ofP (nX l))) (decide (top3 l = 5))).val, false) then 0 else 31) else 30) else 20) else
  (if (nX l < Pp ∧ nY l < Pp) then (if may1 ((ofP (nX l)).val, (ofP (nY l)).val, false) then (if grp1 ((ofP (nX l)).val, (ofP (nY l)).val, false) then 0 else 31) else 30) else 20)
theorem g1_cases (l : List UInt8) : (ok1 l ∧ g1E l = 0) ∨ (¬ ok1 l ∧ cd1 l (g1E l)) := by
  by_cases h : ok1 l
  · refine .inl ⟨h, ?_⟩
    have h0 := h
    unfold g1E
    rcases h with ⟨hi, hz⟩ | ⟨s, h1, h2, h3⟩ | ⟨s, h1, h2, h3⟩
    · rw [if_neg (by unfold inf1 at hi; omega), if_neg (by unfold inf1 at hi; omega), if_pos hi, if_pos hz]
    · rw [if_neg (by have := s.1; omega), if_neg (by unfold sh1 at s; omega), if_neg (not_inf_sh s), if_pos s.1, if_pos h1, if_pos h2, if_pos h3]
    · rw [if_neg (by have := s.1; omega), if_neg (by unfold lo1 at s; omega), if_neg (not_inf_lo s), if_neg (by have := s.1; omega), if_pos h1, if_pos h2, if_pos h3]
  · refine .inr ⟨h, ?_⟩
    by_cases h0 : l.length ≠ 48 ∧ l.length ≠ 96
    · rw [show g1E l = 3 from if_pos h0]; exact ⟨by decide, at1 l 0 rfl h0⟩
    by_cases hs : (l.length = 48 ∧ top3 l ≠ 4 ∧ top3 l ≠ 5 ∧ top3 l ≠ 6) ∨ (l.length = 96 ∧ top3 l ≠ 0 ∧ top3 l ≠ 2)
    · rw [show g1E l = 32 from (if_neg h0).trans (if_pos hs)]; exact ⟨by decide, at1 l 1 rfl hs⟩
    by_cases hi : inf1 l
    · by_cases hz : allZ (maskL l)
      · exact absurd (.inl ⟨hi, hz⟩) h
      · rw [show g1E l = 33 from (if_neg h0).trans ((if_neg hs).trans ((if_pos hi).trans (if_neg hz)))]; exact ⟨by decide, at1 l 2 rfl ⟨hi, hz⟩⟩
    have e0 : g1E l = _ := (if_neg h0).trans ((if_neg hs).trans (if_neg hi))
    rcases form1 h0 hs hi with s | s
    · have e1 := e0.trans (if_pos s.1)
      by_cases hx : nX l < Pp
      · by_cases hq : sqP (rhs1 (ofP (nX l)))
        · by_cases hg : grp1 ((ofP (nX l)).val, (sy1 (rhs1 (ofP (nX l))) (decide (top3 l = 5))).val, false)
          · exact absurd (.inr (.inl ⟨s, hx, hq, hg⟩)) h
          · rw [e1.trans ((if_pos hx).trans ((if_pos hq).trans (if_neg hg)))]; exact ⟨by decide, at1 l 6 rfl ⟨s, hx, hq, hg⟩⟩
        · rw [e1.trans ((if_pos hx).trans (if_neg hq))]; exact ⟨by decide, at1 l 5 rfl ⟨s, hx, hq⟩⟩
      · rw [e1.trans (if_neg hx)]; exact ⟨by decide, at1 l 4 rfl ⟨s, hx⟩⟩
    · have e1 := e0.trans (if_neg (by have := s.1; omega))
      by_cases hx : (nX l < Pp ∧ nY l < Pp)
      · by_cases hm : may1 ((ofP (nX l)).val, (ofP (nY l)).val, false)
        · by_cases hg : grp1 ((ofP (nX l)).val, (ofP (nY l)).val, false)
          · exact absurd (.inr (.inr ⟨s, hx, hm, hg⟩)) h
          · rw [e1.trans ((if_pos hx).trans ((if_pos hm).trans (if_neg hg)))]; exact ⟨by decide, at1 l 10 rfl ⟨s, hx, hm, hg⟩⟩
        · rw [e1.trans ((if_pos hx).trans (if_neg hm))]; exact ⟨by decide, at1 l 9 rfl ⟨s, hx, hm⟩⟩
      · rw [e1.trans (if_neg hx)]; exact ⟨by decide, at1 l 8 rfl ⟨s, hx⟩⟩
def g1V (l : List UInt8) : A1 := if ok1 l then ((gx1 l).val, (gy1 l).val, decide (inf1 l)) else (0, 0, false)
theorem g1_gives (l : List UInt8) : Gives Try.prog 23 [.t (.v (.string (ofL l)))] (.tp [.ag (pt1 (g1V l)), .v (.int .i64 (g1E l))]) := by
  rcases g1_cases l with ⟨h, e⟩ | ⟨h, e⟩
  · rw [show g1V l = ((gx1 l).val, (gy1 l).val, decide (inf1 l)) from if_pos h, e]
    exact Gives.same (good1 l h) rfl
  · rw [show g1V l = (0, 0, false) from if_neg h]
    exact Gives.same e.2 rfl
def eGet1T : Entry := entry1 23 XPar.str (fun l => [(none, .tp [.ag (pt1 (g1V l)), .v (.int .i64 (g1E l))])])
theorem eGet1T_ok : eGet1T.OK Try.prog := entry1_ok (fun args w => Go.Proofs.enters_of (P := Try.prog) Try.func23 (by kernel_rfl) rfl args w) (fun l => only (g1_gives l))
def gfE (l : List UInt8) : Int := if l.length = 32 then (if deN 32 l < Rr then 0 else 20) else 3
def gfV (l : List UInt8) : Nat := if l.length = 32 then (if deN 32 l < Rr then deN 32 l else 0) else 0
theorem gf_gives (l : List UInt8) : Gives Try.prog 24 [.t (.v (.string (ofL l)))] (.tp [.ag [.n 4 (gfV l)], .v (.int .i64 (gfE l))]) := by
  unfold gfV gfE
  by_cases h : l.length = 32
  · rw [if_pos h, if_pos h]
    by_cases h2 : deN 32 l < Rr
    · rw [if_pos h2, if_pos h2]
      have e : (ofR (deN 32 l)).val = deN 32 l := Nat.mod_eq_of_lt h2
      have h3 := fgetS_ok l h h2
      have h4 : Gives Try.prog 24 [.t (.v (.string (ofL l)))] (.tp [.ag [.n 4 (ofR (deN 32 l)).val], .v (.int .i64 0)]) := Gives.same h3 rfl
      rw [e] at h4
      exact h4
    · rw [if_neg h2, if_neg h2]
      exact Gives.same (fgetS_no l h (Nat.le_of_not_lt h2)) rfl
  · rw [if_neg h, if_neg h]
    exact Gives.same (fgetS_len l h) rfl
def eFGetT : Entry := entry1 24 XPar.str (fun l => [(none, .tp [.ag [.n 4 (gfV l)], .v (.int .i64 (gfE l))])])
theorem eFGetT_ok : eFGetT.OK Try.prog := entry1_ok (fun args w => Go.Proofs.enters_of (P := Try.prog) Try.func24 (by kernel_rfl) rfl args w) (fun l => only (gf_gives l))
theorem g1_none {l : List UInt8} (h : g1E l ≠ 0) : g1V l = (0, 0, false) := by
  rcases g1_cases l with ⟨h1, e⟩ | ⟨h1, e⟩
  · exact absurd e h
  · exact if_neg h1
theorem gf_none {l : List UInt8} (h : gfE l ≠ 0) : gfV l = 0 := by
  unfold gfE at h
  unfold gfV
  by_cases h1 : l.length = 32
  · rw [if_pos h1] at h ⊢
    by_cases h2 : deN 32 l < Rr
    · rw [if_pos h2] at h; exact absurd rfl h
    · rw [if_neg h2]
  · rw [if_neg h1]
end Go.Proofs.Ytmbllhibdbeplaa

/- Taking parts off a string, one after the other, the first error kept. Nothing here names a program. -/
set_option linter.unusedSimpArgs false
set_option linter.unusedVariables false
namespace Go.Ev
/-- One part taken off: the error, and what is left. -/
def rst (sz : Nat) (E : List UInt8 → Int) (st : Int × List UInt8) : Int × List UInt8 := if st.1 = 0 then (E (st.2.take sz), st.2.drop sz) else st
/-- The part's value. -/
def rvl {α : Type} (sz : Nat) (V : List UInt8 → α) (z : α) (st : Int × List UInt8) : α := if st.1 = 0 then V (st.2.take sz) else z
def nst (sz : Nat) (E : List UInt8 → Int) : Nat → Int × List UInt8 → Int × List UInt8
  | 0, st => st
  | n + 1, st => rst sz E (nst sz E n st)
def chk (sz : Nat) (l : List UInt8) (i : Nat) : List UInt8 := (l.drop (sz * i)).take sz
section
variable {sz : Nat} {E : List UInt8 → Int}
theorem rst_bad {st : Int × List UInt8} (h : st.1 ≠ 0) : rst sz E st = st := if_neg h
theorem rst_ok {l : List UInt8} : rst sz E (0, l) = (E (l.take sz), l.drop sz) := rfl
theorem nst_bad {st : Int × List UInt8} (h : st.1 ≠ 0) : ∀ n, nst sz E n st = st
  | 0 => rfl
  | n + 1 => by
    show rst sz E (nst sz E n st) = st
    rw [nst_bad h n, rst_bad h]
theorem nst_zero : ∀ (n : Nat) (st : Int × List UInt8), (nst sz E n st).1 = 0 → st.1 = 0 ∧ nst sz E n st = (0, st.2.drop (sz * n)) ∧ ∀ i, i < n → E (chk sz st.2 i) = 0
  | 0, (e, l), h => by
    have h : e = 0 := h
    subst h
    exact ⟨rfl, by simp [nst], fun i hi => by omega⟩
  | n + 1, st, h => by
    by_cases h0 : (nst sz E n st).1 = 0
    · obtain ⟨h1, h2, h3⟩ := nst_zero n st h0
      have e : nst sz E (n + 1) st = (E (chk sz st.2 n), st.2.drop (sz * (n + 1))) := by
        show rst sz E (nst sz E n st) = _
        rw [h2, rst_ok, List.drop_drop, Nat.mul_succ]
        rfl
      rw [e] at h ⊢
      have h : E (chk sz st.2 n) = 0 := h
      rw [h]
      refine ⟨h1, rfl, fun i hi => ?_⟩
      rcases Nat.lt_or_ge i n with hh | hh
      · exact h3 i hh
      · rw [show i = n by omega]; exact h
    · have e : nst sz E (n + 1) st = nst sz E n st := rst_bad h0
      rw [e] at h
      exact absurd h h0
theorem nst_all {l : List UInt8} : ∀ n, (∀ i, i < n → E (chk sz l i) = 0) → nst sz E n (0, l) = (0, l.drop (sz * n))
  | 0, _ => by simp [nst]
  | n + 1, h => by
    show rst sz E (nst sz E n (0, l)) = _
    rw [nst_all n (fun i hi => h i (by omega)), rst_ok, List.drop_drop, Nat.mul_succ]
    rw [show E ((l.drop (sz * n)).take sz) = 0 from h n (by omega)]
theorem nst_first : ∀ (n : Nat) {l : List UInt8}, (nst sz E n (0, l)).1 ≠ 0 → ∃ j, j < n ∧ (∀ i, i < j → E (chk sz l i) = 0) ∧ E (chk sz l j) = (nst sz E n (0, l)).1
  | 0, l, h => absurd rfl h
  | n + 1, l, h => by
    by_cases h0 : (nst sz E n (0, l)).1 = 0
    · obtain ⟨_, h2, h3⟩ := nst_zero n (0, l) h0
      refine ⟨n, by omega, h3, ?_⟩
      show _ = (rst sz E (nst sz E n (0, l))).1
      rw [h2, rst_ok]
      rfl
    · obtain ⟨j, h1, h2, h3⟩ := nst_first n h0
      refine ⟨j, by omega, h2, ?_⟩
      show _ = (rst sz E (nst sz E n (0, l))).1
      rw [rst_bad h0]
      exact h3
end
end Go.Ev

/- Rounds of format.GetProof's loops. -/
set_option linter.unusedSimpArgs false
set_option linter.unusedVariables false
namespace Go.Proofs.Ytmbllhibdbeplaa
open Go.Ev Go.RowKit
def z13L : List Ch := List.replicate 12 (.c (.int .u64 0)) ++ [.c (.bool false)]
def z141 : List Ch := (List.replicate 9 z13L).flatten ++ List.replicate 24 (.c (.int .u64 0))
def p1z : A1 := (0, 0, false)
def gpI (p : PF) (sb : List UInt8) (e i : Int) : LState := { n := 58, sl := [(2, .p 0 0), (4, .p 23 0), (5, .p 35 0), (23, .ag [.p 35 0, .p 35 13, .p 35 26, .p 35 39, .p 35 52, .p 35 65, .p 35 78, .p 35 91, .p 35 104]), (24, .v (.int .i64 i))], hp := [(0, .own z141 58), (23, .own [.c (.string (ofL sb)), .c (.int .i64 e)] 102), (35, .own p.ch 58)] }
def gpK (p : PF) (sb : List UInt8) (e i : Int) : LState := { n := 58, sl := [(2, .p 0 0), (4, .p 23 0), (5, .p 35 0), (38, .ag [.p 35 117, .p 35 121, .p 35 125, .p 35 129, .p 35 133, .p 35 137]), (39, .v (.int .i64 i))], hp := [(0, .own z141 58), (23, .own [.c (.string (ofL sb)), .c (.int .i64 e)] 102), (35, .own p.ch 58)] }
def gpE (p : PF) (sb : List UInt8) (e : Int) : LState := { n := 58, sl := [(2, .p 0 0), (4, .p 23 0), (5, .p 35 0)], hp := [(0, .own z141 58), (23, .own [.c (.string (ofL sb)), .c (.int .i64 e)] 102), (35, .own p.ch 58)] }
theorem gpa0A (p : PF) (sb : List UInt8) (e : Int) (hl : 48 ≤ sb.length) (h : (g1E (sb.take 48)) = 0) : Sound Try.prog 0 false (loopB Try.f22 0) (gpI p sb 0 0).aa .normal (gpI { p with a0 := (g1V (sb.take 48)) } (sb.drop 48) (g1E (sb.take 48)) 1).aa :=
  roundP_sound (P := Try.prog) (X := rulesY _) (env := [eGet1T, eFGetT]) ⟨eGet1T_ok, eFGetT_ok, trivial⟩ (n := 3) (os := oL [(66, rO 5 0), (80, rO 5 0), (98, wF)]) (fb := 0) (rd := false) (c := (loopB Try.f22 0)) (k := 47) (I := gpI p sb 0 0) (J := gpI { p with a0 := (g1V (sb.take 48)) } (sb.drop 48) (g1E (sb.take 48)) 1) (τ := []) (ex := .normal) (by kernel_rfl)
    (And.intro (show ((true = true ∧ 0 = 0) ∧ (true = true ∧ 0 = 0) ∧ (true = true ∧ 0 = 0) ∧ ((true = true ∧ 0 = 0) ∧ (true = true ∧ 13 = 13) ∧ (true = true ∧ 26 = 26) ∧ (true = true ∧ 39 = 39) ∧ (true = true ∧ 52 = 52) ∧ (true = true ∧ 65 = 65) ∧ (true = true ∧ 78 = 78) ∧ (true = true ∧ 91 = 91) ∧ (true = true ∧ 104 = 104) ∧ True) ∧ (Value.int .i64 (IntKind.i64.wrap (0 + 1))) = (Value.int .i64 1) ∧ True) ∧ ((58 = 58 ∧ flat z141 = flat z141) ∧ (102 = 102 ∧ flat [.c (.string (ofL (sb.drop 48))), .c (.int .i64 (g1E (sb.take 48)))] = flat [.c (.string (ofL (sb.drop 48))), .c (.int .i64 (g1E (sb.take 48)))]) ∧ (58 = 58 ∧ flat [.n 6 (g1V (sb.take 48)).1, .n 6 (g1V (sb.take 48)).2.1, .c (.bool (g1V (sb.take 48)).2.2), .n 6 p.a1.1, .n 6 p.a1.2.1, .c (.bool p.a1.2.2), .n 6 p.a2.1, .n 6 p.a2.2.1, .c (.bool p.a2.2.2), .n 6 p.a3.1, .n 6 p.a3.2.1, .c (.bool p.a3.2.2), .n 6 p.a4.1, .n 6 p.a4.2.1, .c (.bool p.a4.2.2), .n 6 p.a5.1, .n 6 p.a5.2.1, .c (.bool p.a5.2.2), .n 6 p.a6.1, .n 6 p.a6.2.1, .c (.bool p.a6.2.2), .n 6 p.a7.1, .n 6 p.a7.2.1, .c (.bool p.a7.2.2), .n 6 p.a8.1, .n 6 p.a8.2.1, .c (.bool p.a8.2.2), .n 4 p.f0, .n 4 p.f1, .n 4 p.f2, .n 4 p.f3, .n 4 p.f4, .n 4 p.f5] = flat ({ p with a0 := (g1V (sb.take 48)) } : PF).ch) ∧ True) from ⟨⟨⟨rfl, rfl⟩, ⟨rfl, rfl⟩, ⟨rfl, rfl⟩, ⟨⟨rfl, rfl⟩, ⟨rfl, rfl⟩, ⟨rfl, rfl⟩, ⟨rfl, rfl⟩, ⟨rfl, rfl⟩, ⟨rfl, rfl⟩, ⟨rfl, rfl⟩, ⟨rfl, rfl⟩, ⟨rfl, rfl⟩, trivial⟩, rfl, trivial⟩, ⟨rfl, rfl⟩, ⟨rfl, rfl⟩, ⟨rfl, rfl⟩, trivial⟩)
      (And.intro (show ((g1E (sb.take 48)) != 0) = false from by rw [h]; rfl)
      (And.intro (show (0 : Int) ≤ 48 ∧ (48 : Int) ≤ (ofL sb).size from ⟨by decide, by show (48 : Int) ≤ (sb.length : Nat); omega⟩)
      (And.intro (show (0 : Int) ≤ 48 ∧ (48 : Int) ≤ (ofL sb).size from ⟨by decide, by show (48 : Int) ≤ (sb.length : Nat); omega⟩) trivial))))
theorem gpa0B (p : PF) (sb : List UInt8) (e : Int) (hl : 48 ≤ sb.length) (h : (g1E (sb.take 48)) ≠ 0) : Sound Try.prog 0 false (loopB Try.f22 0) (gpI p sb 0 0).aa .normal (gpI { p with a0 := (g1V (sb.take 48)) } (sb.drop 48) (g1E (sb.take 48)) 1).aa :=
  roundP_sound (P := Try.prog) (X := rulesY _) (env := [eGet1T, eFGetT]) ⟨eGet1T_ok, eFGetT_ok, trivial⟩ (n := 3) (os := oL [(66, rO 5 0), (80, rO 5 0), (98, wT)]) (fb := 0) (rd := false) (c := (loopB Try.f22 0)) (k := 47) (I := gpI p sb 0 0) (J := gpI { p with a0 := (g1V (sb.take 48)) } (sb.drop 48) (g1E (sb.take 48)) 1) (τ := []) (ex := .normal) (by kernel_rfl)
    (And.intro (show ((true = true ∧ 0 = 0) ∧ (true = true ∧ 0 = 0) ∧ (true = true ∧ 0 = 0) ∧ ((true = true ∧ 0 = 0) ∧ (true = true ∧ 13 = 13) ∧ (true = true ∧ 26 = 26) ∧ (true = true ∧ 39 = 39) ∧ (true = true ∧ 52 = 52) ∧ (true = true ∧ 65 = 65) ∧ (true = true ∧ 78 = 78) ∧ (true = true ∧ 91 = 91) ∧ (true = true ∧ 104 = 104) ∧ True) ∧ (Value.int .i64 (IntKind.i64.wrap (0 + 1))) = (Value.int .i64 1) ∧ True) ∧ ((58 = 58 ∧ flat z141 = flat z141) ∧ (102 = 102 ∧ flat [.c (.string (ofL (sb.drop 48))), .c (.int .i64 (g1E (sb.take 48)))] = flat [.c (.string (ofL (sb.drop 48))), .c (.int .i64 (g1E (sb.take 48)))]) ∧ (58 = 58 ∧ flat [.c (.int .u64 0), .c (.int .u64 0), .c (.int .u64 0), .c (.int .u64 0), .c (.int .u64 0), .c (.int .u64 0), .c (.int .u64 0), .c (.int .u64 0), .c (.int .u64 0), .c (.int .u64 0), .c (.int .u64 0), .c (.int .u64 0), .c (.bool false), .n 6 p.a1.1, .n 6 p.a1.2.1, .c (.bool p.a1.2.2), .n 6 p.a2.1, .n 6 p.a2.2.1, .c (.bool p.a2.2.2), .n 6 p.a3.1, .n 6 p.a3.2.1, .c (.bool p.a3.2.2), .n 6 p.a4.1, .n 6 p.a4.2.1, .c (.bool p.a4.2.2), .n 6 p.a5.1, .n 6 p.a5.2.1, .c (.bool p.a5.2.2), .n 6 p.a6.1, .n 6 p.a6.2.1, .c (.bool p.a6.2.2), .n 6 p.a7.1, .n 6 p.a7.2.1, .c (.bool p.a7.2.2), .n 6 p.a8.1, .n 6 p.a8.2.1, .c (.bool p.a8.2.2), .n 4 p.f0, .n 4 p.f1, .n 4 p.f2, .n 4 p.f3, .n 4 p.f4, .n 4 p.f5] = flat ({ p with a0 := (g1V (sb.take 48)) } : PF).ch) ∧ True) from ⟨⟨⟨rfl, rfl⟩, ⟨rfl, rfl⟩, ⟨rfl, rfl⟩, ⟨⟨rfl, rfl⟩, ⟨rfl, rfl⟩, ⟨rfl, rfl⟩, ⟨rfl, rfl⟩, ⟨rfl, rfl⟩, ⟨rfl, rfl⟩, ⟨rfl, rfl⟩, ⟨rfl, rfl⟩, ⟨rfl, rfl⟩, trivial⟩, rfl, trivial⟩, ⟨rfl, rfl⟩, ⟨rfl, rfl⟩, ⟨rfl, by rw [g1_none h]; kernel_rfl⟩, trivial⟩)
      (And.intro (show ((g1E (sb.take 48)) != 0) = true from by simpa using h)
      (And.intro (show (0 : Int) ≤ 48 ∧ (48 : Int) ≤ (ofL sb).size from ⟨by decide, by show (48 : Int) ≤ (sb.length : Nat); omega⟩)
      (And.intro (show (0 : Int) ≤ 48 ∧ (48 : Int) ≤ (ofL sb).size from ⟨by decide, by show (48 : Int) ≤ (sb.length : Nat); omega⟩) trivial))))
theorem gpa0C (p : PF) (sb : List UInt8) (e : Int) (h : e ≠ 0) : Sound Try.prog 0 false (loopB Try.f22 0) (gpI p sb e 0).aa .normal (gpI { p with a0 := p1z } sb e 1).aa :=
  roundP_sound (P := Try.prog) (X := rulesY _) (env := [eGet1T, eFGetT]) ⟨eGet1T_ok, eFGetT_ok, trivial⟩ (n := 3) (os := oL [(59, wT)]) (fb := 0) (rd := false) (c := (loopB Try.f22 0)) (k := 47) (I := gpI p sb e 0) (J := gpI { p with a0 := p1z } sb e 1) (τ := []) (ex := .normal) (by kernel_rfl)
    (And.intro (show ((true = true ∧ 0 = 0) ∧ (true = true ∧ 0 = 0) ∧ (true = true ∧ 0 = 0) ∧ ((true = true ∧ 0 = 0) ∧ (true = true ∧ 13 = 13) ∧ (true = true ∧ 26 = 26) ∧ (true = true ∧ 39 = 39) ∧ (true = true ∧ 52 = 52) ∧ (true = true ∧ 65 = 65) ∧ (true = true ∧ 78 = 78) ∧ (true = true ∧ 91 = 91) ∧ (true = true ∧ 104 = 104) ∧ True) ∧ (Value.int .i64 (IntKind.i64.wrap (0 + 1))) = (Value.int .i64 1) ∧ True) ∧ ((58 = 58 ∧ flat z141 = flat z141) ∧ (102 = 102 ∧ flat [.c (.string (ofL sb)), .c (.int .i64 e)] = flat [.c (.string (ofL sb)), .c (.int .i64 e)]) ∧ (58 = 58 ∧ flat [.c (.int .u64 0), .c (.int .u64 0), .c (.int .u64 0), .c (.int .u64 0), .c (.int .u64 0), .c (.int .u64 0), .c (.int .u64 0), .c (.int .u64 0), .c (.int .u64 0), .c (.int .u64 0), .c (.int .u64 0), .c (.int .u64 0), .c (.bool false), .n 6 p.a1.1, .n 6 p.a1.2.1, .c (.bool p.a1.2.2), .n 6 p.a2.1, .n 6 p.a2.2.1, .c (.bool p.a2.2.2), .n 6 p.a3.1, .n 6 p.a3.2.1, .c (.bool p.a3.2.2), .n 6 p.a4.1, .n 6 p.a4.2.1, .c (.bool p.a4.2.2), .n 6 p.a5.1, .n 6 p.a5.2.1, .c (.bool p.a5.2.2), .n 6 p.a6.1, .n 6 p.a6.2.1, .c (.bool p.a6.2.2), .n 6 p.a7.1, .n 6 p.a7.2.1, .c (.bool p.a7.2.2), .n 6 p.a8.1, .n 6 p.a8.2.1, .c (.bool p.a8.2.2), .n 4 p.f0, .n 4 p.f1, .n 4 p.f2, .n 4 p.f3, .n 4 p.f4, .n 4 p.f5] = flat ({ p with a0 := p1z } : PF).ch) ∧ True) from ⟨⟨⟨rfl, rfl⟩, ⟨rfl, rfl⟩, ⟨rfl, rfl⟩, ⟨⟨rfl, rfl⟩, ⟨rfl, rfl⟩, ⟨rfl, rfl⟩, ⟨rfl, rfl⟩, ⟨rfl, rfl⟩, ⟨rfl, rfl⟩, ⟨rfl, rfl⟩, ⟨rfl, rfl⟩, ⟨rfl, rfl⟩, trivial⟩, rfl, trivial⟩, ⟨rfl, rfl⟩, ⟨rfl, rfl⟩, ⟨rfl, by kernel_rfl⟩, trivial⟩)
      (And.intro (show (e != 0) = true from by simpa using h) trivial))
theorem gpa1A (p : PF) (sb : List UInt8) (e : Int) (hl : 48 ≤ sb.length) (h : (g1E (sb.take 48)) = 0) : Sound Try.prog 0 false (loopB Try.f22 0) (gpI p sb 0 1).aa .normal (gpI { p with a1 := (g1V (sb.take 48)) } (sb.drop 48) (g1E (sb.take 48)) 2).aa :=
  roundP_sound (P := Try.prog) (X := rulesY _) (env := [eGet1T, eFGetT]) ⟨eGet1T_ok, eFGetT_ok, trivial⟩ (n := 3) (os := oL [(66, rO 5 0), (80, rO 5 0), (98, wF)]) (fb := 0) (rd := false) (c := (loopB Try.f22 0)) (k := 47) (I := gpI p sb 0 1) (J := gpI { p with a1 := (g1V (sb.take 48)) } (sb.drop 48) (g1E (sb.take 48)) 2) (τ := []) (ex := .normal) (by kernel_rfl)
    (And.intro (show ((true = true ∧ 0 = 0) ∧ (true = true ∧ 0 = 0) ∧ (true = true ∧ 0 = 0) ∧ ((true = true ∧ 0 = 0) ∧ (true = true ∧ 13 = 13) ∧ (true = true ∧ 26 = 26) ∧ (true = true ∧ 39 = 39) ∧ (true = true ∧ 52 = 52) ∧ (true = true ∧ 65 = 65) ∧ (true = true ∧ 78 = 78) ∧ (true = true ∧ 91 = 91) ∧ (true = true ∧ 104 = 104) ∧ True) ∧ (Value.int .i64 (IntKind.i64.wrap (1 + 1))) = (Value.int .i64 2) ∧ True) ∧ ((58 = 58 ∧ flat z141 = flat z141) ∧ (102 = 102 ∧ flat [.c (.string (ofL (sb.drop 48))), .c (.int .i64 (g1E (sb.take 48)))] = flat [.c (.string (ofL (sb.drop 48))), .c (.int .i64 (g1E (sb.take 48)))]) ∧ (58 = 58 ∧ flat [.n 6 p.a0.1, .n 6 p.a0.2.1, .c (.bool p.a0.2.2), .n 6 (g1V (sb.take 48)).1, .n 6 (g1V (sb.take 48)).2.1, .c (.bool (g1V (sb.take 48)).2.2), .n 6 p.a2.1, .n 6 p.a2.2.1, .c (.bool p.a2.2.2), .n 6 p.a3.1, .n 6 p.a3.2.1, .c (.bool p.a3.2.2), .n 6 p.a4.1, .n 6 p.a4.2.1, .c (.bool p.a4.2.2), .n 6 p.a5.1, .n 6 p.a5.2.1, .c (.bool p.a5.2.2), .n 6 p.a6.1, .n 6 p.a6.2.1, .c (.bool p.a6.2.2), .n 6 p.a7.1, .n 6 p.a7.2.1, .c (.bool p.a7.2.2), .n 6 p.a8.1, .n 6 p.a8.2.1, .c (.bool p.a8.2.2), .n 4 p.f0, .n 4 p.f1, .n 4 p.f2, .n 4 p.f3, .n 4 p.f4, .n 4 p.f5] = flat ({ p with a1 := (g1V (sb.take 48)) } : PF).ch) ∧ True) from ⟨⟨⟨rfl, rfl⟩, ⟨rfl, rfl⟩, ⟨rfl, rfl⟩, ⟨⟨rfl, rfl⟩, ⟨rfl, rfl⟩, ⟨rfl, rfl⟩, ⟨rfl, rfl⟩, ⟨rfl, rfl⟩, ⟨rfl, rfl⟩, ⟨rfl, rfl⟩, ⟨rfl, rfl⟩, ⟨rfl, rfl⟩, trivial⟩, rfl, trivial⟩, ⟨rfl, rfl⟩, ⟨rfl, rfl⟩, ⟨rfl, rfl⟩, trivial⟩)
      (And.intro (show ((g1E (sb.take 48)) != 0) = false from by rw [h]; rfl)
      (And.intro (show (0 : Int) ≤ 48 ∧ (48 : Int) ≤ (ofL sb).size from ⟨by decide, by show (48 : Int) ≤ (sb.length : Nat); omega⟩)
      (And.intro (show (0 : Int) ≤ 48 ∧ (48 : Int) ≤ (ofL sb).size from ⟨by decide, by show (48 : Int) ≤ (sb.length : Nat); omega⟩) trivial))))
theorem gpa1B (p : PF) (sb : List UInt8) (e : Int) (hl : 48 ≤ sb.length) (h : (g1E (sb.take 48)) ≠ 0) : Sound Try.prog 0 false (loopB Try.f22 0) (gpI p sb 0 1).aa .normal (gpI { p with a1 := (g1V (sb.take 48)) } (sb.drop 48) (g1E (sb.take 48)) 2).aa :=
  roundP_sound (P := Try.prog) (X := rulesY _) (env := [eGet1T, eFGetT]) ⟨eGet1T_ok, eFGetT_ok, trivial⟩ (n := 3) (os := oL [(66, rO 5 0), (80, rO 5 0), (98, wT)]) (fb := 0) (rd := false) (c := (loopB Try.f22 0)) (k := 47) (I := gpI p sb 0 1) (J := gpI { p with a1 := (g1V (sb.take 48)) } (sb.drop 48) (g1E (sb.take 48)) 2) (τ := []) (ex := .normal) (by kernel_rfl)
    (And.intro (show ((true = true ∧ 0 = 0) ∧ (true = true ∧ 0 = 0) ∧ (true = true ∧ 0 = 0) ∧ ((true = true ∧ 0 = 0) ∧ (true = true ∧ 13 = 13) ∧ (true = true ∧ 26 = 26) ∧ (true = true ∧ 39 = 39) ∧ (true = true ∧ 52 = 52) ∧ (true = true ∧ 65 = 65) ∧ (true = true ∧ 78 = 78) ∧ (true = true ∧ 91 = 91) ∧ (true = true ∧ 104 = 104) ∧ True) ∧ (Value.int .i64 (IntKind.i64.wrap (1 + 1))) = (Value.int .i64 2) ∧ True) ∧ ((58 = 58 ∧ flat z141 = flat z141) ∧ (102 = 102 ∧ flat [.c (.string (ofL (sb.drop 48))), .c (.int .i64 (g1E (sb.take 48)))] = flat [.c (.string (ofL (sb.drop 48))), .c (.int .i64 (g1E (sb.take 48)))]) ∧ (58 = 58 ∧ flat [.n 6 p.a0.1, .n 6 p.a0.2.1, .c (.bool p.a0.2.2), .c (.int .u64 0), .c (.int .u64 0), .c (.int .u64 0), .c (.int .u64 0), .c (.int .u64 0), .c (.int .u64 0), .c (.int .u64 0), .c (.int .u64 0), .c (.int .u64 0), .c (.int .u64 0), .c (.int .u64 0), .c (.int .u64 0), .c (.bool false), .n 6 p.a2.1, .n 6 p.a2.2.1, .c (.bool p.a2.2.2), .n 6 p.a3.1, .n 6 p.a3.2.1, .c (.bool p.a3.2.2), .n 6 p.a4.1, .n 6 p.a4.2.1, .c (.bool p.a4.2.2), .n 6 p.a5.1, .n 6 p.a5.2.1, .c (.bool p.a5.2.2), .n 6 p.a6.1, .n 6 p.a6.2.1, .c (.bool p.a6.2.2), .n 6 p.a7.1, .n 6 p.a7.2.1, .c (.bool p.a7.2.2), .n 6 p.a8.1, .n 6 p.a8.2.1, .c (.bool p.a8.2.2), .n 4 p.f0, .n 4 p.f1, .n 4 p.f2, .n 4 p.f3, .n 4 p.f4, .n 4 p.f5] = flat ({ p with a1 := (g1V (sb.take 48)) } : PF).ch) ∧ True) from ⟨⟨⟨rfl, rfl⟩, ⟨rfl, rfl⟩, ⟨rfl, rfl⟩, ⟨⟨rfl, rfl⟩, ⟨rfl, rfl⟩, ⟨rfl, rfl⟩, ⟨rfl, rfl⟩, ⟨rfl, rfl⟩, ⟨rfl, rfl⟩, ⟨rfl, rfl⟩, ⟨rfl, rfl⟩, ⟨rfl, rfl⟩, trivial⟩, rfl, trivial⟩, ⟨rfl, rfl⟩, ⟨rfl, rfl⟩, ⟨rfl, by rw [g1_none h]; kernel_rfl⟩, trivial⟩)
      (And.intro (show ((g1E (sb.take 48)) != 0) = true from by simpa using h)
      (And.intro (show (0 : Int) ≤ 48 ∧ (48 : Int) ≤ (ofL sb).size from ⟨by decide, by show (48 : Int) ≤ (sb.length : Nat); omega⟩)
      (And.intro (show (0 : Int) ≤ 48 ∧ (48 : Int) ≤ (ofL sb).size from ⟨by decide, by show (48 : Int) ≤ (sb.length : Nat); omega⟩) trivial))))
theorem gpa1C (p : PF) (sb : List UInt8) (e : Int) (h : e ≠ 0) : Sound Try.prog 0 false (loopB Try.f22 0) (gpI p sb e 1).aa .normal (gpI { p with a1 := p1z } sb e 2).aa :=
  roundP_sound (P := Try.prog) (X := rulesY _) (env := [eGet1T, eFGetT]) ⟨eGet1T_ok, eFGetT_ok, trivial⟩ (n := 3) (os := oL [(59, wT)]) (fb := 0) (rd := false) (c := (loopB Try.f22 0)) (k := 47) (I := gpI p sb e 1) (J := gpI { p with a1 := p1z } sb e 2) (τ := []) (ex := .normal) (by kernel_rfl)
    (And.intro (show ((true = true ∧ 0 = 0) ∧ (true = true ∧ 0 = 0) ∧ (true = true ∧ 0 = 0) ∧ ((true = true ∧ 0 = 0) ∧ (true = true ∧ 13 = 13) ∧ (true = true ∧ 26 = 26) ∧ (true = true ∧ 39 = 39) ∧ (true = true ∧ 52 = 52) ∧ (true = true ∧ 65 = 65) ∧ (true = true ∧ 78 = 78) ∧ (true = true ∧ 91 = 91) ∧ (true = true ∧ 104 = 104) ∧ True) ∧ (Value.int .i64 (IntKind.i64.wrap (1 + 1))) = (Value.int .i64 2) ∧ True) ∧ ((58 = 58 ∧ flat z141 = flat z141) ∧ (102 = 102 ∧ flat [.c (.string (ofL sb)), .c (.int .i64 e)] = flat [.c (.string (ofL sb)), .c (.int .i64 e)]) ∧ (58 = 58 ∧ flat [.n 6 p.a0.1, .n 6 p.a0.2.1, .c (.bool p.a0.2.2), .c (.int .u64 0), .c (.int .u64 0), .c (.int .u64 0), .c (.int .u64 0), .c (.int .u64 0), .c (.int .u64 0), .c (.int .u64 0), .c (.int .u64 0), .c (.int .u64 0), .c (.int .u64 0), .c (.int .u64 0), .c (.int .u64 0), .c (.bool false), .n 6 p.a2.1, .n 6 p.a2.2.1, .c (.bool p.a2.2.2), .n 6 p.a3.1, .n 6 p.a3.2.1, .c (.bool p.a3.2.2), .n 6 p.a4.1, .n 6 p.a4.2.1, .c (.bool p.a4.2.2), .n 6 p.a5.1, .n 6 p.a5.2.1, .c (.bool p.a5.2.2), .n 6 p.a6.1, .n 6 p.a6.2.1, .c (.bool p.a6.2.2), .n 6 p.a7.1, .n 6 p.a7.2.1, .c (.bool p.a7.2.2), .n 6 p.a8.1, .n 6 p.a8.2.1, .c (.bool p.a8.2.2), .n 4 p.f0, .n 4 p.f1, .n 4 p.f2, .n 4 p.f3, .n 4 p.f4, .n 4 p.f5] = flat ({ p with a1 := p1z } : PF).ch) ∧ True) from ⟨⟨⟨rfl, rfl⟩, ⟨rfl, rfl⟩, ⟨rfl, rfl⟩, ⟨⟨rfl, rfl⟩, ⟨rfl, rfl⟩, ⟨rfl, rfl⟩, ⟨rfl, rfl⟩, ⟨rfl, rfl⟩, ⟨rfl, rfl⟩, ⟨rfl, rfl⟩, ⟨rfl, rfl⟩, ⟨rfl, rfl⟩, trivial⟩, rfl, trivial⟩, ⟨rfl, rfl⟩, ⟨rfl, rfl⟩, ⟨rfl, by kernel_rfl⟩, trivial⟩)
      (And.intro (show (e != 0) = true from by simpa using h) trivial))
theorem gpa2A (p : PF) (sb : List UInt8) (e : Int) (hl : 48 ≤ sb.length) (h : (g1E (sb.take 48)) = 0) : Sound Try.prog 0 false (loopB Try.f22 0) (gpI p sb 0 2).aa .normal (gpI { p with a2 := (g1V (sb.take 48)) } (sb.drop 48) (g1E (sb.take 48)) 3).aa :=
  roundP_sound (P := Try.prog) (X := rulesY _) (env := [eGet1T, eFGetT]) ⟨eGet1T_ok, eFGetT_ok, trivial⟩ (n := 3) (os := oL [(66, rO 5 0), (80, rO 5 0), (98, wF)]) (fb := 0) (rd := false) (c := (loopB Try.f22 0)) (k := 47) (I := gpI p sb 0 2) (J := gpI { p with a2 := (g1V (sb.take 48)) } (sb.drop 48) (g1E (sb.take 48)) 3) (τ := []) (ex := .normal) (by kernel_rfl)
    (And.intro (show ((true = true ∧ 0 = 0) ∧ (true = true ∧ 0 = 0) ∧ (true = true ∧ 0 = 0) ∧ ((true = true ∧ 0 = 0) ∧ (true = true ∧ 13 = 13) ∧ (true = true ∧ 26 = 26) ∧ (true = true ∧ 39 = 39) ∧ (true = true ∧ 52 = 52) ∧ (true = true ∧ 65 = 65) ∧ (true = true ∧ 78 = 78) ∧ (true = true ∧ 91 = 91) ∧ (true = true ∧ 104 = 104) ∧ True) ∧ (Value.int .i64 (IntKind.i64.wrap (2 + 1))) = (Value.int .i64 3) ∧ True) ∧ ((58 = 58 ∧ flat z141 = flat z141) ∧ (102 = 102 ∧ flat [.c (.string (ofL (sb.drop 48))), .c (.int .i64 (g1E (sb.take 48)))] = flat [.c (.string (ofL (sb.drop 48))), .c (.int .i64 (g1E (sb.take 48)))]) ∧ (58 = 58 ∧ flat [.n 6 p.a0.1, .n 6 p.a0.2.1, .c (.bool p.a0.2.2), .n 6 p.a1.1, .n 6 p.a1.2.1, .c (.bool p.a1.2.2), .n 6 (g1V (sb.take 48)).1, .n 6 (g1V (sb.take 48)).2.1, .c (.bool (g1V (sb.take 48)).2.2), .n 6 p.a3.1, .n 6 p.a3.2.1, .c (.bool p.a3.2.2), .n 6 p.a4.1, .n 6 p.a4.2.1, .c (.bool p.a4.2.2), .n 6 p.a5.1, .n 6 p.a5.2.1, .c (.bool p.a5.2.2), .n 6 p.a6.1, .n 6 p.a6.2.1, .c (.bool p.a6.2.2), .n 6 p.a7.1, .n 6 p.a7.2.1, .c (.bool p.a7.2.2), .n 6 p.a8.1, .n 6 p.a8.2.1, .c (.bool p.a8.2.2), .n 4 p.f0, .n 4 p.f1, .n 4 p.f2, .n 4 p.f3, .n 4 p.f4, .n 4 p.f5] = flat ({ p with a2 := (g1V (sb.take 48)) } : PF).ch) ∧ True) from ⟨⟨⟨rfl, rfl⟩, ⟨rfl, rfl⟩, ⟨rfl, rfl⟩, ⟨⟨rfl, rfl⟩, ⟨rfl, rfl⟩, ⟨rfl, rfl⟩, ⟨rfl, rfl⟩, ⟨rfl, rfl⟩, ⟨rfl, rfl⟩, ⟨rfl, rfl⟩, ⟨rfl, rfl⟩, ⟨rfl, rfl⟩, trivial⟩, rfl, trivial⟩, ⟨rfl, rfl⟩, ⟨rfl, rfl⟩, ⟨rfl, rfl⟩, trivial⟩)
      (And.intro (show ((g1E (sb.take 48)) != 0) = false from by rw [h]; rfl)
      (And.intro (show (0 : Int) ≤ 48 ∧ (48 : Int) ≤ (ofL sb).size from ⟨by decide, by show (48 : Int) ≤ (sb.length : Nat); omega⟩)
      (And.intro (show (0 : Int) ≤ 48 ∧ (48 : Int) ≤ (ofL sb).size from ⟨by decide, by show (48 : Int) ≤ (sb.length : Nat); omega⟩) trivial))))
theorem gpa2B (p : PF) (sb : List UInt8) (e : Int) (hl : 48 ≤ sb.length) (h : (g1E (sb.take 48)) ≠ 0) : Sound Try.prog 0 false (loopB Try.f22 0) (gpI p sb 0 2).aa .normal (gpI { p with a2 := (g1V (sb.take 48)) } (sb.drop 48) (g1E (sb.take 48)) 3).aa :=
  roundP_sound (P := Try.prog) (X := rulesY _) (env := [eGet1T, eFGetT]) ⟨eGet1T_ok, eFGetT_ok, trivial⟩ (n := 3) (os := oL [(66, rO 5 0), (80, rO 5 0), (98, wT)]) (fb := 0) (rd := false) (c := (loopB Try.f22 0)) (k := 47) (I := gpI p sb 0 2) (J := gpI { p with a2 := (g1V (sb.take 48)) } (sb.drop 48) (g1E (sb.take 48)) 3) (τ := []) (ex := .normal) (by kernel_rfl)
    (And.intro (show ((true = true ∧ 0 = 0) ∧ (true = true ∧ 0 = 0) ∧ (true = true ∧ 0 = 0) ∧ ((true = true ∧ 0 = 0) ∧ (true = true ∧ 13 = 13) ∧ (true = true ∧ 26 = 26) ∧ (true = true ∧ 39 = 39) ∧ (true = true ∧ 52 = 52) ∧ (true = true ∧ 65 = 65) ∧ (true = true ∧ 78 = 78) ∧ (true = true ∧ 91 = 91) ∧ (true = true ∧ 104 = 104) ∧ True) ∧ (Value.int .i64 (IntKind.i64.wrap (2 + 1))) = (Value.int .i64 3) ∧ True) ∧ ((58 = 58 ∧ flat z141 = flat z141) ∧ (102 = 102 ∧ flat [.c (.string (ofL (sb.drop 48))), .c (.int .i64 (g1E (sb.take 48)))] = flat [.c (.string (ofL (sb.drop 48))), .c (.int .i64 (g1E (sb.take 48)))]) ∧ (58 = 58 ∧ flat [.n 6 p.a0.1, .n 6 p.a0.2.1, .c (.bool p.a0.2.2), .n 6 p.a1.1, .n 6 p.a1.2.1, .c (.bool p.a1.2.2), .c (.int .u64 0), .c (.int .u64 0), .c (.int .u64 0), .c (.int .u64 0), .c (.int .u64 0), .c (.int .u64 0), .c (.int .u64 0), .c (.int .u64 0), .c (.int .u64 0), .c (.int .u64 0), .c (.int .u64 0), .c (.int .u64 0), .c (.bool false), .n 6 p.a3.1, .n 6 p.a3.2.1, .c (.bool p.a3.2.2), .n 6 p.a4.1, .n 6 p.a4.2.1, .c (.bool p.a4.2.2), .n 6 p.a5.1, .n 6 p.a5.2.1, .c (.bool p.a5.2.2), .n 6 p.a6.1, .n 6 p.a6.2.1, .c (.bool p.a6.2.2), .n 6 p.a7.1, .n 6 p.a7.2.1, .c (.bool p.a7.2.2), .n 6 p.a8.1, .n 6 p.a8.2.1, .c (.bool p.a8.2.2), .n 4 p.f0, .n 4 p.f1, .n 4 p.f2, .n 4 p.f3, .n 4 p.f4, .n 4 p.f5] = flat ({ p with a2 := (g1V (sb.take 48)) } : PF).ch) ∧ True) from ⟨⟨⟨rfl, rfl⟩, ⟨rfl, rfl⟩, ⟨rfl, rfl⟩, ⟨⟨rfl, rfl⟩, ⟨rfl, rfl⟩, ⟨rfl, rfl⟩, ⟨rfl, rfl⟩, ⟨rfl, rfl⟩, ⟨rfl, rfl⟩, ⟨rfl, rfl⟩, ⟨rfl, rfl⟩, ⟨rfl, rfl⟩, trivial⟩, rfl, trivial⟩, ⟨rfl, rfl⟩, ⟨rfl, rfl⟩, ⟨rfl, by rw [g1_none h]; kernel_rfl⟩, trivial⟩)
      (And.intro (show ((g1E (sb.take 48)) != 0) = true from by simpa using h)
      (And.intro (show (0 : Int) ≤ 48 ∧ (48 : Int) ≤ (ofL sb).size from ⟨by decide, by show (48 : Int) ≤ (sb.length : Nat); omega⟩)
      (And.intro (show (0 : Int) ≤ 48 ∧ (48 : Int) ≤ (ofL sb).size from ⟨by decide, by show (48 : Int) ≤ (sb.length : Nat); omega⟩) trivial))))
theorem gpa2C (p : PF) (sb : List UInt8) (e : Int) (h : e ≠ 0) : Sound Try.prog 0 false (loopB Try.f22 0) (gpI p sb e 2).aa .normal (gpI { p with a2 := p1z } sb e 3).aa :=
  roundP_sound (P := Try.prog) (X := rulesY _) (env := [eGet1T, eFGetT]) ⟨eGet1T_ok, eFGetT_ok, trivial⟩ (n := 3) (os := oL [(59, wT)]) (fb := 0) (rd := false) (c := (loopB Try.f22 0)) (k := 47) (I := gpI p sb e 2) (J := gpI { p with a2 := p1z } sb e 3) (τ := []) (ex := .normal) (by kernel_rfl)
    (And.intro (show ((true = true ∧ 0 = 0) ∧ (true = true ∧ 0 = 0) ∧ (true = true ∧ 0 = 0) ∧ ((true = true ∧ 0 = 0) ∧ (true = true ∧ 13 = 13) ∧ (true = true ∧ 26 = 26) ∧ (true = true ∧ 39 = 39) ∧ (true = true ∧ 52 = 52) ∧ (true = true ∧ 65 = 65) ∧ (true = true ∧ 78 = 78) ∧ (true = true ∧ 91 = 91) ∧ (true = true ∧ 104 = 104) ∧ True) ∧ (Value.int .i64 (IntKind.i64.wrap (2 + 1))) = (Value.int .i64 3) ∧ True) ∧ ((58 = 58 ∧ flat z141 = flat z141) ∧ (102 = 102 ∧ flat [.c (.string (ofL sb)), .c (.int .i64 e)] = flat [.c (.string (ofL sb)), .c (.int .i64 e)]) ∧ (58 = 58 ∧ flat [.n 6 p.a0.1, .n 6 p.a0.2.1, .c (.bool p.a0.2.2), .n 6 p.a1.1, .n 6 p.a1.2.1, .c (.bool p.a1.2.2), .c (.int .u64 0), .c (.int .u64 0), .c (.int .u64 0), .c (.int .u64 0), .c (.int .u64 0), .c (.int .u64 0), .c (.int .u64 0), .c (.int .u64 0), .c (.int .u64 0), .c (.int .u64 0), .c (.int .u64 0), .c (.int .u64 0), .c (.bool false), .n 6 p.a3.1, .n 6 p.a3.2.1, .c (.bool p.a3.2.2), .n 6 p.a4.1, .n 6 p.a4.2.1, .c (.bool p.a4.2.2), .n 6 p.a5.1, .n 6 p.a5.2.1, .c (.bool p.a5.2.2), .n 6 p.a6.1, .n 6 p.a6.2.1, .c (.bool p.a6.2.2), .n 6 p.a7.1, .n 6 p.a7.2.1, .c (.bool p.a7.2.2), .n 6 p.a8.1, .n 6 p.a8.2.1, .c (.bool p.a8.2.2), .n 4 p.f0, .n 4 p.f1, .n 4 p.f2, .n 4 p.f3, .n 4 p.f4, .n 4 p.f5] = flat ({ p with a2 := p1z } : PF).ch) ∧ True) from ⟨⟨⟨rfl, rfl⟩, ⟨rfl, rfl⟩, ⟨rfl, rfl⟩, ⟨⟨rfl, rfl⟩, ⟨rfl, rfl⟩, ⟨rfl, rfl⟩, ⟨rfl, rfl⟩, ⟨rfl, rfl⟩, ⟨rfl, rfl⟩, ⟨rfl, rfl⟩, ⟨rfl, rfl⟩, ⟨rfl, rfl⟩, trivial⟩, rfl, trivial⟩, ⟨rfl, rfl⟩, ⟨rfl, rfl⟩, ⟨rfl, by kernel_rfl⟩, trivial⟩)
      (And.intro (show (e != 0) = true from by simpa using h) trivial))
theorem gpa3A (p : PF) (sb : List UInt8) (e : Int) (hl : 48 ≤ sb.length) (h : (g1E (sb.take 48)) = 0) : Sound Try.prog 0 false (loopB Try.f22 0) (gpI p sb 0 3).aa .normal (gpI { p with a3 := (g1V (sb.take 48)) } (sb.drop 48) (g1E (sb.take 48)) 4).aa :=
  roundP_sound (P := Try.prog) (X := rulesY _) (env := [eGet1T, eFGetT]) ⟨eGet1T_ok, eFGetT_ok, trivial⟩ (n := 3) (os := oL [(66, rO 5 0), (80, rO 5 0), (98, wF)]) (fb := 0) (rd := false) (c := (loopB Try.f22 0)) (k := 47) (I := gpI p sb 0 3) (J := gpI { p with a3 := (g1V (sb.take 48)) } (sb.drop 48) (g1E (sb.take 48)) 4) (τ := []) (ex := .normal) (by kernel_rfl)
    (And.intro (show ((true = true ∧ 0 = 0) ∧ (true = true ∧ 0 = 0) ∧ (true = true ∧ 0 = 0) ∧ ((true = true ∧ 0 = 0) ∧ (true = true ∧ 13 = 13) ∧ (true = true ∧ 26 = 26) ∧ (true = true ∧ 39 = 39) ∧ (true = true ∧ 52 = 52) ∧ (true = true ∧ 65 = 65) ∧ (true = true ∧ 78 = 78) ∧ (true = true ∧ 91 = 91) ∧ (true = true ∧ 104 = 104) ∧ True) ∧ (Value.int .i64 (IntKind.i64.wrap (3 + 1))) = (Value.int .i64 4) ∧ True) ∧ ((58 = 58 ∧ flat z141 = flat z141) ∧ (102 = 102 ∧ flat [.c (.string (ofL (sb.drop 48))), .c (.int .i64 (g1E (sb.take 48)))] = flat [.c (.string (ofL (sb.drop 48))), .c (.int .i64 (g1E (sb.take 48)))]) ∧ (58 = 58 ∧ flat [.n 6 p.a0.1, .n 6 p.a0.2.1, .c (.bool p.a0.2.2), .n 6 p.a1.1, .n 6 p.a1.2.1, .c (.bool p.a1.2.2), .n 6 p.a2.1, .n 6 p.a2.2.1, .c (.bool p.a2.2.2), .n 6 (g1V (sb.take 48)).1, .n 6 (g1V (sb.take 48)).2.1, .c (.bool (g1V (sb.take 48)).2.2), .n 6 p.a4.1, .n 6 p.a4.2.1, .c (.bool p.a4.2.2), .n 6 p.a5.1, .n 6 p.a5.2.1, .c (.bool p.a5.2.2), .n 6 p.a6.1, .n 6 p.a6.2.1, .c (.bool p.a6.2.2), .n 6 p.a7.1, .n 6 p.a7.2.1, .c (.bool p.a7.2.2), .n 6 p.a8.1, .n 6 p.a8.2.1, .c (.bool p.a8.2.2), .n 4 p.f0, .n 4 p.f1, .n 4 p.f2, .n 4 p.f3, .n 4 p.f4, .n 4 p.f5] = flat ({ p with a3 := (g1V (sb.take 48)) } : PF).ch) ∧ True) from ⟨⟨⟨rfl, rfl⟩, ⟨rfl, rfl⟩, ⟨rfl, rfl⟩, ⟨⟨rfl, rfl⟩, ⟨rfl, rfl⟩, ⟨rfl, rfl⟩, ⟨rfl, rfl⟩, ⟨rfl, rfl⟩, ⟨rfl, rfl⟩, ⟨rfl, rfl⟩, ⟨rfl, rfl⟩, ⟨rfl, rfl⟩, trivial⟩, rfl, trivial⟩, ⟨rfl, rfl⟩, ⟨rfl, rfl⟩, ⟨rfl, rfl⟩, trivial⟩)
      (And.intro (show ((g1E (sb.take 48)) != 0) = false from by rw [h]; rfl)
      (And.intro (show (0 : Int) ≤ 48 ∧ (48 : Int) ≤ (ofL sb).size from ⟨by decide, by show (48 : Int) ≤ (sb.length : Nat); omega⟩)
      (And.intro (show (0 : Int) ≤ 48 ∧ (48 : Int) ≤ (ofL sb).size from ⟨by decide, by show (48 : Int) ≤ (sb.length : Nat); omega⟩) trivial))))
theorem gpa3B (p : PF) (sb : List UInt8) (e : Int) (hl : 48 ≤ sb.length) (h : (g1E (sb.take 48)) ≠ 0) : Sound Try.prog 0 false (loopB Try.f22 0) (gpI p sb 0 3).aa .normal (gpI { p with a3 := (g1V (sb.take 48)) } (sb.drop 48) (g1E (sb.take 48)) 4).aa :=
  roundP_sound (P := Try.prog) (X := rulesY _) (env := [eGet1T, eFGetT]) ⟨eGet1T_ok, eFGetT_ok, trivial⟩ (n := 3) (os := oL [(66, rO 5 0), (80, rO 5 0), (98, wT)]) (fb := 0) (rd := false) (c := (loopB Try.f22 0)) (k := 47) (I := gpI p sb 0 3) (J := gpI { p with a3 := (g1V (sb.take 48)) } (sb.drop 48) (g1E (sb.take 48)) 4) (τ := []) (ex := .normal) (by kernel_rfl)
    (And.intro (show ((true = true ∧ 0 = 0) ∧ (true = true ∧ 0 = 0) ∧ (true = true ∧ 0 = 0) ∧ ((true = true ∧ 0 = 0) ∧ (true = true ∧ 13 = 13) ∧ (true = true ∧ 26 = 26) ∧ (true = true ∧ 39 = 39) ∧ (true = true ∧ 52 = 52) ∧ (true = true ∧ 65 = 65) ∧ (true = true ∧ 78 = 78) ∧ (true = true ∧ 91 = 91) ∧ (true = true ∧ 104 = 104) ∧ True) ∧ (Value.int .i64 (IntKind.i64.wrap (3 + 1))) = (Value.int .i64 4) ∧ True) ∧ ((58 = 58 ∧ flat z141 = flat z141) ∧ (102 = 102 ∧ flat [.c (.string (ofL (sb.drop 48))), .c (.int .i64 (g1E (sb.take 48)))] = flat [.c (.string (ofL (sb.drop 48))), .c (.int .i64 (g1E (sb.take 48)))]) ∧ (58 = 58 ∧ flat [.n 6 p.a0.1, .n 6 p.a0.2.1, .c (.bool p.a0.2.2), .n 6 p.a1.1, .n 6 p.a1.2.1, .c (.bool p.a1.2.2), .n 6 p.a2.1, .n 6 p.a2.2.1, .c (.bool p.a2.2.2), .c (.int .u64 0), .c (.int .u64 0), .c (.int .u64 0), .c (.int .u64 0), .c (.int .u64 0), .c (.int .u64 0), .c (.int .u64 0), .c (.int .u64 0), .c (.int .u64 0), .c (.int .u64 0), .c (.int .u64 0), .c (.int .u64 0), .c (.bool false), .n 6 p.a4.1, .n 6 p.a4.2.1, .c (.bool p.a4.2.2), .n 6 p.a5.1, .n 6 p.a5.2.1, .c (.bool p.a5.2.2), .n 6 p.a6.1, .n 6 p.a6.2.1, .c (.bool p.a6.2.2), .n 6 p.a7.1, .n 6 p.a7.2.1, .c (.bool p.a7.2.2), .n 6 p.a8.1, .n 6 p.a8.2.1, .c (.bool p.a8.2.2), .n 4 p.f0, .n 4 p.f1, .n 4 p.f2, .n 4 p.f3, .n 4 p.f4, .n 4 p.f5] = flat ({ p with a3 := (g1V (sb.take 48)) } : PF).ch) ∧ True) from ⟨⟨⟨rfl, rfl⟩, ⟨rfl, rfl⟩, ⟨rfl, rfl⟩, ⟨⟨rfl, rfl⟩, ⟨rfl, rfl⟩, ⟨rfl, rfl⟩, ⟨rfl, rfl⟩, ⟨rfl, rfl⟩, ⟨rfl, rfl⟩, ⟨rfl, rfl⟩, ⟨rfl, rfl⟩, ⟨rfl, rfl⟩, trivial⟩, rfl, trivial⟩, ⟨rfl, rfl⟩, ⟨rfl, rfl⟩, ⟨rfl, by rw [g1_none h]; kernel_rfl⟩, trivial⟩)
      (And.intro (show ((g1E (sb.take 48)) != 0) = true from by simpa using h)
      (And.intro (show (0 : Int) ≤ 48 ∧ (48 : Int) ≤ (ofL sb).size from ⟨by decide, by show (48 : Int) ≤ (sb.length : Nat); omega⟩)
      (And.intro (show (0 : Int) ≤ 48 ∧ (48 : Int) ≤ (ofL sb).size from ⟨by decide, by show (48 : Int) ≤ (sb.length : Nat); omega⟩) trivial))))
theorem gpa3C (p : PF) (sb : List UInt8) (e : Int) (h : e ≠ 0) : Sound Try.prog 0 false (loopB Try.f22 0) (gpI p sb e 3).aa .normal (gpI { p with a3 := p1z } sb e 4).aa :=
  roundP_sound (P := Try.prog) (X := rulesY _) (env := [eGet1T, eFGetT]) ⟨eGet1T_ok, eFGetT_ok, trivial⟩ (n := 3) (os := oL [(59, wT)]) (fb := 0) (rd := false) (c := (loopB Try.f22 0)) (k := 47) (I := gpI p sb e 3) (J := gpI { p with a3 := p1z } sb e 4) (τ := []) (ex := .normal) (by kernel_rfl)
    (And.intro (show ((true = true ∧ 0 = 0) ∧ (true = true ∧ 0 = 0) ∧ (true = true ∧ 0 = 0) ∧ ((true = true ∧ 0 = 0) ∧ (true = true ∧ 13 = 13) ∧ (true = true ∧ 26 = 26) ∧ (true = true ∧ 39 = 39) ∧ (true = true ∧ 52 = 52) ∧ (true = true ∧ 65 = 65) ∧ (true = true ∧ 78 = 78) ∧ (true = true ∧ 91 = 91) ∧ (true = true ∧ 104 = 104) ∧ True) ∧ (Value.int .i64 (IntKind.i64.wrap (3 + 1))) = (Value.int .i64 4) ∧ True) ∧ ((58 = 58 ∧ flat z141 = flat z141) ∧ (102 = 102 ∧ flat [.c (.string (ofL sb)), .c (.int .i64 e)] = flat [.c (.string (ofL sb)), .c (.int .i64 e)]) ∧ (58 = 58 ∧ flat [.n 6 p.a0.1, .n 6 p.a0.2.1, .c (.bool p.a0.2.2), .n 6 p.a1.1, .n 6 p.a1.2.1, .c (.bool p.a1.2.2), .n 6 p.a2.1, .n 6 p.a2.2.1, .c (.bool p.a2.2.2), .c (.int .u64 0), .c (.int .u64 0), .c (.int .u64 0), .c (.int .u64 0), .c (.int .u64 0), .c (.int .u64 0), .c (.int .u64 0), .c (.int .u64 0), .c (.int .u64 0), .c (.int .u64 0), .c (.int .u64 0), .c (.int .u64 0), .c (.bool false), .n 6 p.a4.1, .n 6 p.a4.2.1, .c (.bool p.a4.2.2), .n 6 p.a5.1, .n 6 p.a5.2.1, .c (.bool p.a5.2.2), .n 6 p.a6.1, .n 6 p.a6.2.1, .c (.bool p.a6.2.2), .n 6 p.a7.1, .n 6 p.a7.2.1, .c (.bool p.a7.2.2), .n 6 p.a8.1, .n 6 p.a8.2.1, .c (.bool p.a8.2.2), .n 4 p.f0, .n 4 p.f1, .n 4 p.f2, .n 4 p.f3, .n 4 p.f4, .n 4 p.f5] = flat ({ p with a3 := p1z } : PF).ch) ∧ True) from ⟨⟨⟨rfl, rfl⟩, ⟨rfl, rfl⟩, ⟨rfl, rfl⟩, ⟨⟨rfl, rfl⟩, ⟨rfl, rfl⟩, ⟨rfl, rfl⟩, ⟨rfl, rfl⟩, ⟨rfl, rfl⟩, ⟨rfl, rfl⟩, ⟨rfl, rfl⟩, ⟨rfl, rfl⟩, ⟨rfl, rfl⟩, trivial⟩, rfl, trivial⟩, ⟨rfl, rfl⟩, ⟨rfl, rfl⟩, ⟨rfl, by kernel_rfl⟩, trivial⟩)
      (And.intro (show (e != 0) = true from by simpa using h) trivial))
theorem gpa4A (p : PF) (sb : List UInt8) (e : Int) (hl : 48 ≤ sb.length) (h : (g1E (sb.take 48)) = 0) : Sound Try.prog 0 false (loopB Try.f22 0) (gpI p sb 0 4).aa .normal (gpI { p with a4 := (g1V (sb.take 48)) } (sb.drop 48) (g1E (sb.take 48)) 5).aa :=
  roundP_sound (P := Try.prog) (X := rulesY _) (env := [eGet1T, eFGetT]) ⟨eGet1T_ok, eFGetT_ok, trivial⟩ (n := 3) (os := oL [(66, rO 5 0), (80, rO 5 0), (98, wF)]) (fb := 0) (rd := false) (c := (loopB Try.f22 0)) (k := 47) (I := gpI p sb 0 4) (J := gpI { p with a4 := (g1V (sb.take 48)) } (sb.drop 48) (g1E (sb.take 48)) 5) (τ := []) (ex := .normal) (by kernel_rfl)
    (And.intro (show ((true = true ∧ 0 = 0) ∧ (true = true ∧ 0 = 0) ∧ (true = true ∧ 0 = 0) ∧ ((true = true ∧ 0 = 0) ∧ (true = true ∧ 13 = 13) ∧ (true = true ∧ 26 = 26) ∧ (true = true ∧ 39 = 39) ∧ (true = true ∧ 52 = 52) ∧ (true = true ∧ 65 = 65) ∧ (true = true ∧ 78 = 78) ∧ (true = true ∧ 91 = 91) ∧ (true = true ∧ 104 = 104) ∧ True) ∧ (Value.int .i64 (IntKind.i64.wrap (4 + 1))) = (Value.int .i64 5) ∧ True) ∧ ((58 = 58 ∧ flat z141 = flat z141) ∧ (102 = 102 ∧ flat [.c (.string (ofL (sb.drop 48))), .c (.int .i64 (g1E (sb.take 48)))] = flat [.c (.string (ofL (sb.drop 48))), .c (.int .i64 (g1E (sb.take 48)))]) ∧ (58 = 58 ∧ flat [.n 6 p.a0.1, .n 6 p.a0.2.1, .c (.bool p.a0.2.2), .n 6 p.a1.1, .n 6 p.a1.2.1, .c (.bool p.a1.2.2), .n 6 p.a2.1, .n 6 p.a2.2.1, .c (.bool p.a2.2.2), .n 6 p.a3.1, .n 6 p.a3.2.1, .c (.bool p.a3.2.2), .n 6 (g1V (sb.take 48)).1, .n 6 (g1V (sb.take 48)).2.1, .c (.bool (g1V (sb.take 48)).2.2), .n 6 p.a5.1, .n 6 p.a5.2.1, .c (.bool p.a5.2.2), .n 6 p.a6.1, .n 6 p.a6.2.1, .c (.bool p.a6.2.2), .n 6 p.a7.1, .n 6 p.a7.2.1, .c (.bool p.a7.2.2), .n 6 p.a8.1, .n 6 p.a8.2.1, .c (.bool p.a8.2.2), .n 4 p.f0, .n 4 p.f1, .n 4 p.f2, .n 4 p.f3, .n 4 p.f4, .n 4 p.f5] = flat ({ p with a4 := (g1V (sb.take 48)) } : PF).ch) ∧ True) from ⟨⟨⟨rfl, rfl⟩, ⟨rfl, rfl⟩, ⟨rfl, rfl⟩, ⟨⟨rfl, rfl⟩, ⟨rfl, rfl⟩, ⟨rfl, rfl⟩, ⟨rfl, rfl⟩, ⟨rfl, rfl⟩, ⟨rfl, rfl⟩, ⟨rfl, rfl⟩, ⟨rfl, rfl⟩, ⟨rfl, rfl⟩, trivial⟩, rfl, trivial⟩, ⟨rfl, rfl⟩, ⟨rfl, rfl⟩, ⟨rfl, rfl⟩, trivial⟩)
      (And.intro (show ((g1E (sb.take 48)) != 0) = false from by rw [h]; rfl)
      (And.intro (show (0 : Int) ≤ 48 ∧ (48 : Int) ≤ (ofL sb).size from ⟨by decide, by show (48 : Int) ≤ (sb.length : Nat); omega⟩)
      (And.intro (show (0 : Int) ≤ 48 ∧ (48 : Int) ≤ (ofL sb).size from ⟨by decide, by show (48 : Int) ≤ (sb.length : Nat); omega⟩) trivial))))
theorem gpa4B (p : PF) (sb : List UInt8) (e : Int) (hl : 48 ≤ sb.length) (h : (g1E (sb.take 48)) ≠ 0) : Sound Try.prog 0 false (loopB Try.f22 0) (gpI p sb 0 4).aa .normal (gpI { p with a4 := (g1V (sb.take 48)) } (sb.drop 48) (g1E (sb.take 48)) 5).aa :=
  roundP_sound (P := Try.prog) (X := rulesY _) (env := [eGet1T, eFGetT]) ⟨eGet1T_ok, eFGetT_ok, trivial⟩ (n := 3) (os := oL [(66, rO 5 0), (80, rO 5 0), (98, wT)]) (fb := 0) (rd := false) (c := (loopB Try.f22 0)) (k := 47) (I := gpI p sb 0 4) (J := gpI { p with a4 := (g1V (sb.take 48)) } (sb.drop 48) (g1E (sb.take 48)) 5) (τ := []) (ex := .normal) (by kernel_rfl)
    (And.intro (show ((true = true ∧ 0 = 0) ∧ (true = true ∧ 0 = 0) ∧ (true = true ∧ 0 = 0) ∧ ((true = true ∧ 0 = 0) ∧ (true = true ∧ 13 = 13) ∧ (true = true ∧ 26 = 26) ∧ (true = true ∧ 39 = 39) ∧ (true = true ∧ 52 = 52) ∧ (true = true ∧ 65 = 65) ∧ (true = true ∧ 78 = 78) ∧ (true = true ∧ 91 = 91) ∧ (true = true ∧ 104 = 104) ∧ True) ∧ (Value.int .i64 (IntKind.i64.wrap (4 + 1))) = (Value.int .i64 5) ∧ True) ∧ ((58 = 58 ∧ flat z141 = flat z141) ∧ (102 = 102 ∧ flat [.c (.string (ofL (sb.drop 48))), .c (.int .i64 (g1E (sb.take 48)))] = flat [.c (.string (ofL (sb.drop 48))), .c (.int .i64 (g1E (sb.take 48)))]) ∧ (58 = 58 ∧ flat [.n 6 p.a0.1, .n 6 p.a0.2.1, .c (.bool p.a0.2.2), .n 6 p.a1.1, .n 6 p.a1.2.1, .c (.bool p.a1.2.2), .n 6 p.a2.1, .n 6 p.a2.2.1, .c (.bool p.a2.2.2), .n 6 p.a3.1, .n 6 p.a3.2.1, .c (.bool p.a3.2.2), .c (.int .u64 0), .c (.int .u64 0), .c (.int .u64 0), .c (.int .u64 0), .c (.int .u64 0), .c (.int .u64 0), .c (.int .u64 0), .c (.int .u64 0), .c (.int .u64 0), .c (.int .u64 0), .c (.int .u64 0), .c (.int .u64 0), .c (.bool false), .n 6 p.a5.1, .n 6 p.a5.2.1, .c (.bool p.a5.2.2), .n 6 p.a6.1, .n 6 p.a6.2.1, .c (.bool p.a6.2.2), .n 6 p.a7.1, .n 6 p.a7.2.1, .c (.bool p.a7.2.2), .n 6 p.a8.1, .n 6 p.a8.2.1, .c (.bool p.a8.2.2), .n 4 p.f0, .n 4 p.f1, .n 4 p.f2, .n 4 p.f3, .n 4 p.f4, .n 4 p.f5] = flat ({ p with a4 := (g1V (sb.take 48)) } : PF).ch) ∧ True) from ⟨⟨⟨rfl, rfl⟩, ⟨rfl, rfl⟩, ⟨rfl, rfl⟩, ⟨⟨rfl, rfl⟩, ⟨rfl, rfl⟩, ⟨rfl, rfl⟩, ⟨rfl, rfl⟩, ⟨rfl, rfl⟩, ⟨rfl, rfl⟩, ⟨rfl, rfl⟩, ⟨rfl, rfl⟩, ⟨rfl, rfl⟩, trivial⟩, rfl, trivial⟩, ⟨rfl, rfl⟩, ⟨rfl, rfl⟩, ⟨rfl, by rw [g1_none h]; kernel_rfl⟩, trivial⟩)
      (And.intro (show ((g1E (sb.take 48)) != 0) = true from by simpa using h)
      (And.intro (show (0 : Int) ≤ 48 ∧ (48 : Int) ≤ (ofL sb).size from ⟨by decide, by show (48 : Int) ≤ (sb.length : Nat); omega⟩)
      (And.intro (show (0 : Int) ≤ 48 ∧ (48 : Int) ≤ (ofL sb).size from ⟨by decide, by show (48 : Int) ≤ (sb.length : Nat); omega⟩) trivial))))
theorem gpa4C (p : PF) (sb : List UInt8) (e : Int) (h : e ≠ 0) : Sound Try.prog 0 false (loopB Try.f22 0) (gpI p sb e 4).aa .normal (gpI { p with a4 := p1z } sb e 5).aa :=
  roundP_sound (P := Try.prog) (X := rulesY _) (env := [eGet1T, eFGetT]) ⟨eGet1T_ok, eFGetT_ok, trivial⟩ (n := 3) (os := oL [(59, wT)]) (fb := 0) (rd := false) (c := (loopB Try.f22 0)) (k := 47) (I := gpI p sb e 4) (J := gpI { p with a4 := p1z } sb e 5) (τ := []) (ex := .normal) (by kernel_rfl)
    (And.intro (show ((true = true ∧ 0 = 0) ∧ (true = true ∧ 0 = 0) ∧ (true = true ∧ 0 = 0) ∧ ((true = true ∧ 0 = 0) ∧ (true = true ∧ 13 = 13) ∧ (true = true ∧ 26 = 26) ∧ (true = true ∧ 39 = 39) ∧ (true = true ∧ 52 = 52) ∧ (true = true ∧ 65 = 65) ∧ (true = true ∧ 78 = 78) ∧ (true = true ∧ 91 = 91) ∧ (true = true ∧ 104 = 104) ∧ True) ∧ (Value.int .i64 (IntKind.i64.wrap (4 + 1))) = (Value.int .i64 5) ∧ True) ∧ ((58 = 58 ∧ flat z141 = flat z141) ∧ (102 = 102 ∧ flat [.c (.string (ofL sb)), .c (.int .i64 e)] = flat [.c (.string (ofL sb)), .c (.int .i64 e)]) ∧ (58 = 58 ∧ flat [.n 6 p.a0.1, .n 6 p.a0.2.1, .c (.bool p.a0.2.2), .n 6 p.a1.1, .n 6 p.a1.2.1, .c (.bool p.a1.2.2), .n 6 p.a2.1, .n 6 p.a2.2.1, .c (.bool p.a2.2.2), .n 6 p.a3.1, .n 6 p.a3.2.1, .c (.bool p.a3.2.2), .c (.int .u64 0), .c (.int .u64 0), .c (.int .u64 0), .c (.int .u64 0), .c (.int .u64 0), .c (.int .u64 0), .c (.int .u64 0), .c (.int .u64 0), .c (.int .u64 0), .c (.int .u64 0), .c (.int .u64 0), .c (.int .u64 0), .c (.bool false), .n 6 p.a5.1, .n 6 p.a5.2.1, .c (.bool p.a5.2.2), .n 6 p.a6.1, .n 6 p.a6.2.1, .c (.bool p.a6.2.2), .n 6 p.a7.1, .n 6 p.a7.2.1, .c (.bool p.a7.2.2), .n 6 p.a8.1, .n 6 p.a8.2.1, .c (.bool p.a8.2.2), .n 4 p.f0, .n 4 p.f1, .n 4 p.f2, .n 4 p.f3, .n 4 p.f4, .n 4 p.f5] = flat ({ p with a4 := p1z } : PF).ch) ∧ True) from ⟨⟨⟨rfl, rfl⟩, ⟨rfl, rfl⟩, ⟨rfl, rfl⟩, ⟨⟨rfl, rfl⟩, ⟨rfl, rfl⟩, ⟨rfl, rfl⟩, ⟨rfl, rfl⟩, ⟨rfl, rfl⟩, ⟨rfl, rfl⟩, ⟨rfl, rfl⟩, ⟨rfl, rfl⟩, ⟨rfl, rfl⟩, trivial⟩, rfl, trivial⟩, ⟨rfl, rfl⟩, ⟨rfl, rfl⟩, ⟨rfl, by kernel_rfl⟩, trivial⟩)
      (And.intro (show (e != 0) = true from by simpa using h) trivial))
theorem gpa5A (p : PF) (sb : List UInt8) (e : Int) (hl : 48 ≤ sb.length) (h : (g1E (sb.take 48)) = 0) : Sound Try.prog 0 false (loopB Try.f22 0) (gpI p sb 0 5).aa .normal (gpI { p with a5 := (g1V (sb.take 48)) } (sb.drop 48) (g1E (sb.take 48)) 6).aa :=
  roundP_sound (P := Try.prog) (X := rulesY _) (env := [eGet1T, eFGetT]) ⟨eGet1T_ok, eFGetT_ok, trivial⟩ (n := 3) (os := oL [(66, rO 5 0), (80, rO 5 0), (98, wF)]) (fb := 0) (rd := false) (c := (loopB Try.f22 0)) (k := 47) (I := gpI p sb 0 5) (J := gpI { p with a5 := (g1V (sb.take 48)) } (sb.drop 48) (g1E (sb.take 48)) 6) (τ := []) (ex := .normal) (by kernel_rfl)
    (And.intro (show ((true = true ∧ 0 = 0) ∧ (true = true ∧ 0 = 0) ∧ (true = true ∧ 0 = 0) ∧ ((true = true ∧ 0 = 0) ∧ (true = true ∧ 13 = 13) ∧ (true = true ∧ 26 = 26) ∧ (true = true ∧ 39 = 39) ∧ (true = true ∧ 52 = 52) ∧ (true = true ∧ 65 = 65) ∧ (true = true ∧ 78 = 78) ∧ (true = true ∧ 91 = 91) ∧ (true = true ∧ 104 = 104) ∧ True) ∧ (Value.int .i64 (IntKind.i64.wrap (5 + 1))) = (Value.int .i64 6) ∧ True) ∧ ((58 = 58 ∧ flat z141 = flat z141) ∧ (102 = 102 ∧ flat [.c (.string (ofL (sb.drop 48))), .c (.int .i64 (g1E (sb.take 48)))] = flat [.c (.string (ofL (sb.drop 48))), .c (.int .i64 (g1E (sb.take 48)))]) ∧ (58 = 58 ∧ flat [.n 6 p.a0.1, .n 6 p.a0.2.1, .c (.bool p.a0.2.2), .n 6 p.a1.1, .n 6 p.a1.2.1, .c (.bool p.a1.2.2), .n 6 p.a2.1, .n 6 p.a2.2.1, .c (.bool p.a2.2.2), .n 6 p.a3.1, .n 6 p.a3.2.1, .c (.bool p.a3.2.2), .n 6 p.a4.1, .n 6 p.a4.2.1, .c (.bool p.a4.2.2), .n 6 (g1V (sb.take 48)).1, .n 6 (g1V (sb.take 48)).2.1, .c (.bool (g1V (sb.take 48)).2.2), .n 6 p.a6.1, .n 6 p.a6.2.1, .c (.bool p.a6.2.2), .n 6 p.a7.1, .n 6 p.a7.2.1, .c (.bool p.a7.2.2), .n 6 p.a8.1, .n 6 p.a8.2.1, .c (.bool p.a8.2.2), .n 4 p.f0, .n 4 p.f1, .n 4 p.f2, .n 4 p.f3, .n 4 p.f4, .n 4 p.f5] = flat ({ p with a5 := (g1V (sb.take 48)) } : PF).ch) ∧ True) from ⟨⟨⟨rfl, rfl⟩, ⟨rfl, rfl⟩, ⟨rfl, rfl⟩, ⟨⟨rfl, rfl⟩, ⟨rfl, rfl⟩, ⟨rfl, rfl⟩, ⟨rfl, rfl⟩, ⟨rfl, rfl⟩, ⟨rfl, rfl⟩, ⟨rfl, rfl⟩, ⟨rfl, rfl⟩, ⟨rfl, rfl⟩, trivial⟩, rfl, trivial⟩, ⟨rfl, rfl⟩, ⟨rfl, rfl⟩, ⟨rfl, rfl⟩, trivial⟩)
      (And.intro (show ((g1E (sb.take 48)) != 0) = false from by rw [h]; rfl)
      (And.intro (show (0 : Int) ≤ 48 ∧ (48 : Int) ≤ (ofL sb).size from ⟨by decide, by show (48 : Int) ≤ (sb.length : Nat); omega⟩)
      (And.intro (show (0 : Int) ≤ 48 ∧ (48 : Int) ≤ (ofL sb).size from ⟨by decide, by show (48 : Int) ≤ (sb.length : Nat); omega⟩) trivial))))
theorem gpa5B (p : PF) (sb : List UInt8) (e : Int) (hl : 48 ≤ sb.length) (h : (g1E (sb.take 48)) ≠ 0) : Sound Try.prog 0 false (loopB Try.f22 0) (gpI p sb 0 5).aa .normal (gpI { p with a5 := (g1V (sb.take 48)) } (sb.drop 48) (g1E (sb.take 48)) 6).aa :=
  roundP_sound (P := Try.prog) (X := rulesY _) (env := [eGet1T, eFGetT]) ⟨eGet1T_ok, eFGetT_ok, trivial⟩ (n := 3) (os := oL [(66, rO 5 0), (80, rO 5 0), (98, wT)]) (fb := 0) (rd := false) (c := (loopB Try.f22 0)) (k := 47) (I := gpI p sb 0 5) (J := gpI { p with a5 := (g1V (sb.take 48)) } (sb.drop 48) (g1E (sb.take 48)) 6) (τ := []) (ex := .normal) (by kernel_rfl)
    (And.intro (show ((true = true ∧ 0 = 0) ∧ (true = true ∧ 0 = 0) ∧ (true = true ∧ 0 = 0) ∧ ((true = true ∧ 0 = 0) ∧ (true = true ∧ 13 = 13) ∧ (true = true ∧ 26 = 26) ∧ (true = true ∧ 39 = 39) ∧ (true = true ∧ 52 = 52) ∧ (true = true ∧ 65 = 65) ∧ (true = true ∧ 78 = 78) ∧ (true = true ∧ 91 = 91) ∧ (true = true ∧ 104 = 104) ∧ True) ∧ (Value.int .i64 (IntKind.i64.wrap (5 + 1))) = (Value.int .i64 6) ∧ True) ∧ ((58 = 58 ∧ flat z141 = flat z141) ∧ (102 = 102 ∧ flat [.c (.string (ofL (sb.drop 48))), .c (.int .i64 (g1E (sb.take 48)))] = flat [.c (.string (ofL (sb.drop 48))), .c (.int .i64 (g1E (sb.take 48)))]) ∧ (58 = 58 ∧ flat [.n 6 p.a0.1, .n 6 p.a0.2.1, .c (.bool p.a0.2.2), .n 6 p.a1.1, .n 6 p.a1.2.1, .c (.bool p.a1.2.2), .n 6 p.a2.1, .n 6 p.a2.2.1, .c (.bool p.a2.2.2), .n 6 p.a3.1, .n 6 p.a3.2.1, .c (.bool p.a3.2.2), .n 6 p.a4.1, .n 6 p.a4.2.1, .c (.bool p.a4.2.2), .c (.int .u64 0), .c (.int .u64 0), .c (.int .u64 0), .c (.int .u64 0), .c (.int .u64 0), .c (.int .u64 0), .c (.int .u64 0), .c (.int .u64 0), .c (.int .u64 0), .c (.int .u64 0), .c (.int .u64 0), .c (.int .u64 0), .c (.bool false), .n 6 p.a6.1, .n 6 p.a6.2.1, .c (.bool p.a6.2.2), .n 6 p.a7.1, .n 6 p.a7.2.1, .c (.bool p.a7.2.2), .n 6 p.a8.1, .n 6 p.a8.2.1, .c (.bool p.a8.2.2), .n 4 p.f0, .n 4 p.f1, .n 4 p.f2, .n 4 p.f3, .n 4 p.f4, .n 4 p.f5] = flat ({ p with a5 := (g1V (sb.take 48)) } : PF).ch) ∧ True) from ⟨⟨⟨rfl, rfl⟩, ⟨rfl, rfl⟩, ⟨rfl, rfl⟩, ⟨⟨rfl, rfl⟩, ⟨rfl, rfl⟩, ⟨rfl, rfl⟩, ⟨rfl, rfl⟩, ⟨rfl, rfl⟩, ⟨rfl, rfl⟩, ⟨rfl, rfl⟩, ⟨rfl, rfl⟩, ⟨rfl, rfl⟩, trivial⟩, rfl, trivial⟩, ⟨rfl, rfl⟩, ⟨rfl, rfl⟩, ⟨rfl, by rw [g1_none h]; kernel_rfl⟩, trivial⟩)
      (And.intro (show ((g1E (sb.take 48)) != 0) = true from by simpa using h)
      (And.intro (show (0 : Int) ≤ 48 ∧ (48 : Int) ≤ (ofL sb).size from ⟨by decide, by show (48 : Int) ≤ (sb.length : Nat); omega⟩)
      (And.intro (show (0 : Int) ≤ 48 ∧ (48 : Int) ≤ (ofL sb).size from ⟨by decide, by show (48 : Int) ≤ (sb.length : Nat); omega⟩) trivial))))
theorem gpa5C (p : PF) (sb : List UInt8) (e : Int) (h : e ≠ 0) : Sound Try.prog 0 false (loopB Try.f22 0) (gpI p sb e 5).aa .normal (gpI { p with a5 := p1z } sb e 6).aa :=
  roundP_sound (P := Try.prog) (X := rulesY _) (env := [eGet1T, eFGetT]) ⟨eGet1T_ok, eFGetT_ok, trivial⟩ (n := 3) (os := oL [(59, wT)]) (fb := 0) (rd := false) (c := (loopB Try.f22 0)) (k := 47) (I := gpI p sb e 5) (J := gpI { p with a5 := p1z } sb e 6) (τ := []) (ex := .normal) (by kernel_rfl)
    (And.intro (show ((true = true ∧ 0 = 0) ∧ (true = true ∧ 0 = 0) ∧ (true = true ∧ 0 = 0) ∧ ((true = true ∧ 0 = 0) ∧ (true = true ∧ 13 = 13) ∧ (true = true ∧ 26 = 26) ∧ (true = true ∧ 39 = 39) ∧ (true = true ∧ 52 = 52) ∧ (true = true ∧ 65 = 65) ∧ (true = true ∧ 78 = 78) ∧ (true = true ∧ 91 = 91) ∧ (true = true ∧ 104 = 104) ∧ True) ∧ (Value.int .i64 (IntKind.i64.wrap (5 + 1))) = (Value.int .i64 6) ∧ True) ∧ ((58 = 58 ∧ flat z141 = flat z141) ∧ (102 = 102 ∧ flat [.c (.string (ofL sb)), .c (.int .i64 e)] = flat [.c (.string (ofL sb)), .c (.int .i64 e)]) ∧ (58 = 58 ∧ flat [.n 6 p.a0.1, .n 6 p.a0.2.1, .c (.bool p.a0.2.2), .n 6 p.a1.1, .n 6 p.a1.2.1, .c (.bool p.a1.2.2), .n 6 p.a2.1, .n 6 p.a2.2.1, .c (.bool p.a2.2.2), .n 6 p.a3.1, .n 6 p.a3.2.1, .c (.bool p.a3.2.2), .n 6 p.a4.1, .n 6 p.a4.2.1, .c (.bool p.a4.2.2), .c (.int .u64 0), .c (.int .u64 0), .c (.int .u64 0), .c (.int .u64 0), .c (.int .u64 0), .c (.int .u64 0), .c (.int .u64 0), .c (.int .u64 0), .c (.int .u64 0), .c (.int .u64 0), .c (.int .u64 0), .c (.int .u64 0), .c (.bool false), .n 6 p.a6.1, .n 6 p.a6.2.1, .c (.bool p.a6.2.2), .n 6 p.a7.1, .n 6 p.a7.2.1, .c (.bool p.a7.2.2), .n 6 p.a8.1, .n 6 p.a8.2.1, .c (.bool p.a8.2.2), .n 4 p.f0, .n 4 p.f1, .n 4 p.f2, .n 4 p.f3, .n 4 p.f4, .n 4 p.f5] = flat ({ p with a5 := p1z } : PF).ch) ∧ True) from ⟨⟨⟨rfl, rfl⟩, ⟨rfl, rfl⟩, ⟨rfl, rfl⟩, ⟨⟨rfl, rfl⟩, ⟨rfl, rfl⟩, ⟨rfl, rfl⟩, ⟨rfl, rfl⟩, ⟨rfl, rfl⟩, ⟨rfl, rfl⟩, ⟨rfl, rfl⟩, ⟨rfl, rfl⟩, ⟨rfl, rfl⟩, trivial⟩, rfl, trivial⟩, ⟨rfl, rfl⟩, ⟨rfl, rfl⟩, ⟨rfl, by kernel_rfl⟩, trivial⟩)
      (And.intro (show (e != 0) = true from by simpa using h) trivial))
theorem gpa6A (p : PF) (sb : List UInt8) (e : Int) (hl : 48 ≤ sb.length) (h : (g1E (sb.take 48)) = 0) : Sound Try.prog 0 false (loopB Try.f22 0) (gpI p sb 0 6).aa .normal (gpI { p with a6 := (g1V (sb.take 48)) } (sb.drop 48) (g1E (sb.take 48)) 7).aa :=
  roundP_sound (P := Try.prog) (X := rulesY _) (env := [eGet1T, eFGetT]) ⟨eGet1T_ok, eFGetT_ok, trivial⟩ (n := 3) (os := oL [(66, rO 5 0), (80, rO 5 0), (98, wF)]) (fb := 0) (rd := false) (c := (loopB Try.f22 0)) (k := 47) (I := gpI p sb 0 6) (J := gpI { p with a6 := (g1V (sb.take 48)) } (sb.drop 48) (g1E (sb.take 48)) 7) (τ := []) (ex := .normal) (by kernel_rfl)
    (And.intro (show ((true = true ∧ 0 = 0) ∧ (true = true ∧ 0 = 0) ∧ (true = true ∧ 0 = 0) ∧ ((true = true ∧ 0 = 0) ∧ (true = true ∧ 13 = 13) ∧ (true = true ∧ 26 = 26) ∧ (true = true ∧ 39 = 39) ∧ (true = true ∧ 52 = 52) ∧ (true = true ∧ 65 = 65) ∧ (true = true ∧ 78 = 78) ∧ (true = true ∧ 91 = 91) ∧ (true = true ∧ 104 = 104) ∧ True) ∧ (Value.int .i64 (IntKind.i64.wrap (6 + 1))) = (Value.int .i64 7) ∧ True) ∧ ((58 = 58 ∧ flat z141 = flat z141) ∧ (102 = 102 ∧ flat [.c (.string (ofL (sb.drop 48))), .c (.int .i64 (g1E (sb.take 48)))] = flat [.c (.string (ofL (sb.drop 48))), .c (.int .i64 (g1E (sb.take 48)))]) ∧ (58 = 58 ∧ flat [.n 6 p.a0.1, .n 6 p.a0.2.1, .c (.bool p.a0.2.2), .n 6 p.a1.1, .n 6 p.a1.2.1, .c (.bool p.a1.2.2), .n 6 p.a2.1, .n 6 p.a2.2.1, .c (.bool p.a2.2.2), .n 6 p.a3.1, .n 6 p.a3.2.1, .c (.bool p.a3.2.2), .n 6 p.a4.1, .n 6 p.a4.2.1, .c (.bool p.a4.2.2), .n 6 p.a5.1, .n 6 p.a5.2.1, .c (.bool p.a5.2.2), .n 6 (g1V (sb.take 48)).1, .n 6 (g1V (sb.take 48)).2.1, .c (.bool (g1V (sb.take 48)).2.2), .n 6 p.a7.1, .n 6 p.a7.2.1, .c (.bool p.a7.2.2), .n 6 p.a8.1, .n 6 p.a8.2.1, .c (.bool p.a8.2.2), .n 4 p.f0, .n 4 p.f1, .n 4 p.f2, .n 4 p.f3, .n 4 p.f4, .n 4 p.f5] = flat ({ p with a6 := (g1V (sb.take 48)) } : PF).ch) ∧ True) from ⟨⟨⟨rfl, rfl⟩, ⟨rfl, rfl⟩, ⟨rfl, rfl⟩, ⟨⟨rfl, rfl⟩, ⟨rfl, rfl⟩, ⟨rfl, rfl⟩, ⟨rfl, rfl⟩, ⟨rfl, rfl⟩, ⟨rfl, rfl⟩, ⟨rfl, rfl⟩, ⟨rfl, rfl⟩, ⟨rfl, rfl⟩, trivial⟩, rfl, trivial⟩, ⟨rfl, rfl⟩, ⟨rfl, rfl⟩, ⟨rfl, rfl⟩, trivial⟩)
      (And.intro (show ((g1E (sb.take 48)) != 0) = false from by rw [h]; rfl)
      (And.intro (show (0 : Int) ≤ 48 ∧ (48 : Int) ≤ (ofL sb).size from ⟨by decide, by show (48 : Int) ≤ (sb.length : Nat); omega⟩)
      (And.intro (show (0 : Int) ≤ 48 ∧ (48 : Int) ≤ (ofL sb).size from ⟨by decide, by show (48 : Int) ≤ (sb.length : Nat); omega⟩) trivial))))
theorem gpa6B (p : PF) (sb : List UInt8) (e : Int) (hl : 48 ≤ sb.length) (h : (g1E (sb.take 48)) ≠ 0) : Sound Try.prog 0 false (loopB Try.f22 0) (gpI p sb 0 6).aa .normal (gpI { p with a6 := (g1V (sb.take 48)) } (sb.drop 48) (g1E (sb.take 48)) 7).aa :=
  roundP_sound (P := Try.prog) (X := rulesY _) (env := [eGet1T, eFGetT]) ⟨eGet1T_ok, eFGetT_ok, trivial⟩ (n := 3) (os := oL [(66, rO 5 0), (80, rO 5 0), (98, wT)]) (fb := 0) (rd := false) (c := (loopB Try.f22 0)) (k := 47) (I := gpI p sb 0 6) (J := gpI { p with a6 := (g1V (sb.take 48)) } (sb.drop 48) (g1E (sb.take 48)) 7) (τ := []) (ex := .normal) (by kernel_rfl)
    (And.intro (show ((true = true ∧ 0 = 0) ∧ (true = true ∧ 0 = 0) ∧ (true = true ∧ 0 = 0) ∧ ((true = true ∧ 0 = 0) ∧ (true = true ∧ 13 = 13) ∧ (true = true ∧ 26 = 26) ∧ (true = true ∧ 39 = 39) ∧ (true = true ∧ 52 = 52) ∧ (true = true ∧ 65 = 65) ∧ (true = true ∧ 78 = 78) ∧ (true = true ∧ 91 = 91) ∧ (true = true ∧ 104 = 104) ∧ True) ∧ (Value.int .i64 (IntKind.i64.wrap (6 + 1))) = (Value.int .i64 7) ∧ True) ∧ ((58 = 58 ∧ flat z141 = flat z141) ∧ (102 = 102 ∧ flat [.c (.string (ofL (sb.drop 48))), .c (.int .i64 (g1E (sb.take 48)))] = flat [.c (.string (ofL (sb.drop 48))), .c (.int .i64 (g1E (sb.take 48)))]) ∧ (58 = 58 ∧ flat [.n 6 p.a0.1, .n 6 p.a0.2.1, .c (.bool p.a0.2.2), .n 6 p.a1.1, .n 6 p.a1.2.1, .c (.bool p.a1.2.2), .n 6 p.a2.1, .n 6 p.a2.2.1, .c (.bool p.a2.2.2), .n 6 p.a3.1, .n 6 p.a3.2.1, .c (.bool p.a3.2.2), .n 6 p.a4.1, .n 6 p.a4.2.1, .c (.bool p.a4.2.2), .n 6 p.a5.1, .n 6 p.a5.2.1, .c (.bool p.a5.2.2), .c (.int .u64 0), .c (.int .u64 0), .c (.int .u64 0), .c (.int .u64 0), .c (.int .u64 0), .c (.int .u64 0), .c (.int .u64 0), .c (.int .u64 0), .c (.int .u64 0), .c (.int .u64 0), .c (.int .u64 0), .c (.int .u64 0), .c (.bool false), .n 6 p.a7.1, .n 6 p.a7.2.1, .c (.bool p.a7.2.2), .n 6 p.a8.1, .n 6 p.a8.2.1, .c (.bool p.a8.2.2), .n 4 p.f0, .n 4 p.f1, .n 4 p.f2, .n 4 p.f3, .n 4 p.f4, .n 4 p.f5] = flat ({ p with a6 := (g1V (sb.take 48)) } : PF).ch) ∧ True) from ⟨⟨⟨rfl, rfl⟩, ⟨rfl, rfl⟩, ⟨rfl, rfl⟩, ⟨⟨rfl, rfl⟩, ⟨rfl, rfl⟩, ⟨rfl, rfl⟩, ⟨rfl, rfl⟩, ⟨rfl, rfl⟩, ⟨rfl, rfl⟩, ⟨rfl, rfl⟩, ⟨rfl, rfl⟩, ⟨rfl, rfl⟩, trivial⟩, rfl, trivial⟩, ⟨rfl, rfl⟩, ⟨rfl, rfl⟩, ⟨rfl, by rw [g1_none h]; kernel_rfl⟩, trivial⟩)
      (And.intro (show ((g1E (sb.take 48)) != 0) = true from by simpa using h)
      (And.intro (show (0 : Int) ≤ 48 ∧ (48 : Int) ≤ (ofL sb).size from ⟨by decide, by show (48 : Int) ≤ (sb.length : Nat); omega⟩)
      (And.intro (show (0 : Int) ≤ 48 ∧ (48 : Int) ≤ (ofL sb).size from ⟨by decide, by show (48 : Int) ≤ (sb.length : Nat); omega⟩) trivial))))
theorem gpa6C (p : PF) (sb : List UInt8) (e : Int) (h : e ≠ 0) : Sound Try.prog 0 false (loopB Try.f22 0) (gpI p sb e 6).aa .normal (gpI { p with a6 := p1z } sb e 7).aa :=
  roundP_sound (P := Try.prog) (X := rulesY _) (env := [eGet1T, eFGetT]) ⟨eGet1T_ok, eFGetT_ok, trivial⟩ (n := 3) (os := oL [(59, wT)]) (fb := 0) (rd := false) (c := (loopB Try.f22 0)) (k := 47) (I := gpI p sb e 6) (J := gpI { p with a6 := p1z } sb e 7) (τ := []) (ex := .normal) (by kernel_rfl)
    (And.intro (show ((true = true ∧ 0 = 0) ∧ (true = true ∧ 0 = 0) ∧ (true = true ∧ 0 = 0) ∧ ((true = true ∧ 0 = 0) ∧ (true = true ∧ 13 = 13) ∧ (true = true ∧ 26 = 26) ∧ (true = true ∧ 39 = 39) ∧ (true = true ∧ 52 = 52) ∧ (true = true ∧ 65 = 65) ∧ (true = true ∧ 78 = 78) ∧ (true = true ∧ 91 = 91) ∧ (true = true ∧ 104 = 104) ∧ True) ∧ (Value.int .i64 (IntKind.i64.wrap (6 + 1))) = (Value.int .i64 7) ∧ True) ∧ ((58 = 58 ∧ flat z141 = flat z141) ∧ (102 = 102 ∧ flat [.c (.string (ofL sb)), .c (.int .i64 e)] = flat [.c (.string (ofL sb)), .c (.int .i64 e)]) ∧ (58 = 58 ∧ flat [.n 6 p.a0.1, .n 6 p.a0.2.1, .c (.bool p.a0.2.2), .n 6 p.a1.1, .n 6 p.a1.2.1, .c (.bool p.a1.2.2), .n 6 p.a2.1, .n 6 p.a2.2.1, .c (.bool p.a2.2.2), .n 6 p.a3.1, .n 6 p.a3.2.1, .c (.bool p.a3.2.2), .n 6 p.a4.1, .n 6 p.a4.2.1, .c (.bool p.a4.2.2), .n 6 p.a5.1, .n 6 p.a5.2.1, .c (.bool p.a5.2.2), .c (.int .u64 0), .c (.int .u64 0), .c (.int .u64 0), .c (.int .u64 0), .c (.int .u64 0), .c (.int .u64 0), .c (.int .u64 0), .c (.int .u64 0), .c (.int .u64 0), .c (.int .u64 0), .c (.int .u64 0), .c (.int .u64 0), .c (.bool false), .n 6 p.a7.1, .n 6 p.a7.2.1, .c (.bool p.a7.2.2), .n 6 p.a8.1, .n 6 p.a8.2.1, .c (.bool p.a8.2.2), .n 4 p.f0, .n 4 p.f1, .n 4 p.f2, .n 4 p.f3, .n 4 p.f4, .n 4 p.f5] = flat ({ p with a6 := p1z } : PF).ch) ∧ True) from ⟨⟨⟨rfl, rfl⟩, ⟨rfl, rfl⟩, ⟨rfl, rfl⟩, ⟨⟨rfl, rfl⟩, ⟨rfl, rfl⟩, ⟨rfl, rfl⟩, ⟨rfl, rfl⟩, ⟨rfl, rfl⟩, ⟨rfl, rfl⟩, ⟨rfl, rfl⟩, ⟨rfl, rfl⟩, ⟨rfl, rfl⟩, trivial⟩, rfl, trivial⟩, ⟨rfl, rfl⟩, ⟨rfl, rfl⟩, ⟨rfl, by kernel_rfl⟩, trivial⟩)
      (And.intro (show (e != 0) = true from by simpa using h) trivial))
theorem gpa7A (p : PF) (sb : List UInt8) (e : Int) (hl : 48 ≤ sb.length) (h : (g1E (sb.take 48)) = 0) : Sound Try.prog 0 false (loopB Try.f22 0) (gpI p sb 0 7).aa .normal (gpI { p with a7 := (g1V (sb.take 48)) } (sb.drop 48) (g1E (sb.take 48)) 8).aa :=
  roundP_sound (P := Try.prog) (X := rulesY _) (env := [eGet1T, eFGetT]) ⟨eGet1T_ok, eFGetT_ok, trivial⟩ (n := 3) (os := oL [(66, rO 5 0), (80, rO 5 0), (98, wF)]) (fb := 0) (rd := false) (c := (loopB Try.f22 0)) (k := 47) (I := gpI p sb 0 7) (J := gpI { p with a7 := (g1V (sb.take 48)) } (sb.drop 48) (g1E (sb.take 48)) 8) (τ := []) (ex := .normal) (by kernel_rfl)
    (And.intro (show ((true = true ∧ 0 = 0) ∧ (true = true ∧ 0 = 0) ∧ (true = true ∧ 0 = 0) ∧ ((true = true ∧ 0 = 0) ∧ (true = true ∧ 13 = 13) ∧ (true = true ∧ 26 = 26) ∧ (true = true ∧ 39 = 39) ∧ (true = true ∧ 52 = 52) ∧ (true = true ∧ 65 = 65) ∧ (true = true ∧ 78 = 78) ∧ (true = true ∧ 91 = 91) ∧ (true = true ∧ 104 = 104) ∧ True) ∧ (Value.int .i64 (IntKind.i64.wrap (7 + 1))) = (Value.int .i64 8) ∧ True) ∧ ((58 = 58 ∧ flat z141 = flat z141) ∧ (102 = 102 ∧ flat [.c (.string (ofL (sb.drop 48))), .c (.int .i64 (g1E (sb.take 48)))] = flat [.c (.string (ofL (sb.drop 48))), .c (.int .i64 (g1E (sb.take 48)))]) ∧ (58 = 58 ∧ flat [.n 6 p.a0.1, .n 6 p.a0.2.1, .c (.bool p.a0.2.2), .n 6 p.a1.1, .n 6 p.a1.2.1, .c (.bool p.a1.2.2), .n 6 p.a2.1, .n 6 p.a2.2.1, .c (.bool p.a2.2.2), .n 6 p.a3.1, .n 6 p.a3.2.1, .c (.bool p.a3.2.2), .n 6 p.a4.1, .n 6 p.a4.2.1, .c (.bool p.a4.2.2), .n 6 p.a5.1, .n 6 p.a5.2.1, .c (.bool p.a5.2.2), .n 6 p.a6.1, .n 6 p.a6.2.1, .c (.bool p.a6.2.2), .n 6 (g1V (sb.take 48)).1, .n 6 (g1V (sb.take 48)).2.1, .c (.bool (g1V (sb.take 48)).2.2), .n 6 p.a8.1, .n 6 p.a8.2.1, .c (.bool p.a8.2.2), .n 4 p.f0, .n 4 p.f1, .n 4 p.f2, .n 4 p.f3, .n 4 p.f4, .n 4 p.f5] = flat ({ p with a7 := (g1V (sb.take 48)) } : PF).ch) ∧ True) from ⟨⟨⟨rfl, rfl⟩, ⟨rfl, rfl⟩, ⟨rfl, rfl⟩, ⟨⟨rfl, rfl⟩, ⟨rfl, rfl⟩, ⟨rfl, rfl⟩, ⟨rfl, rfl⟩, ⟨rfl, rfl⟩, ⟨rfl, rfl⟩, ⟨rfl, rfl⟩, ⟨rfl, rfl⟩, ⟨rfl, rfl⟩, trivial⟩, rfl, trivial⟩, ⟨rfl, rfl⟩, ⟨rfl, rfl⟩, ⟨rfl, rfl⟩, trivial⟩)
      (And.intro (show ((g1E (sb.take 48)) != 0) = false from by rw [h]; rfl)
      (And.intro (show (0 : Int) ≤ 48 ∧ (48 : Int) ≤ (ofL sb).size from ⟨by decide, by show (48 : Int) ≤ (sb.length : Nat); omega⟩)
      (And.intro (show (0 : Int) ≤ 48 ∧ (48 : Int) ≤ (ofL sb).size from ⟨by decide, by show (48 : Int) ≤ (sb.length : Nat); omega⟩) trivial))))
theorem gpa7B (p : PF) (sb : List UInt8) (e : Int) (hl : 48 ≤ sb.length) (h : (g1E (sb.take 48)) ≠ 0) : Sound Try.prog 0 false (loopB Try.f22 0) (gpI p sb 0 7).aa .normal (gpI { p with a7 := (g1V (sb.take 48)) } (sb.drop 48) (g1E (sb.take 48)) 8).aa :=
  roundP_sound (P := Try.prog) (X := rulesY _) (env := [eGet1T, eFGetT]) ⟨eGet1T_ok, eFGetT_ok, trivial⟩ (n := 3) (os := oL [(66, rO 5 0), (80, rO 5 0), (98, wT)]) (fb := 0) (rd := false) (c := (loopB Try.f22 0)) (k := 47) (I := gpI p sb 0 7) (J := gpI { p with a7 := (g1V (sb.take 48)) } (sb.drop 48) (g1E (sb.take 48)) 8) (τ := []) (ex := .normal) (by kernel_rfl)
    (And.intro (show ((true = true ∧ 0 = 0) ∧ (true = true ∧ 0 = 0) ∧ (true = true ∧ 0 = 0) ∧ ((true = true ∧ 0 = 0) ∧ (true = true ∧ 13 = 13) ∧ (true = true ∧ 26 = 26) ∧ (true = true ∧ 39 = 39) ∧ (true = true ∧ 52 = 52) ∧ (true = true ∧ 65 = 65) ∧ (true = true ∧ 78 = 78) ∧ (true = true ∧ 91 = 91) ∧ (true = true ∧ 104 = 104) ∧ True) ∧ (Value.int .i64 (IntKind.i64.wrap (7 + 1))) = (Value.int .i64 8) ∧ True) ∧ ((58 = 58 ∧ flat z141 = flat z141) ∧ (102 = 102 ∧ flat [.c (.string (ofL (sb.drop 48))), .c (.int .i64 (g1E (sb.take 48)))] = flat [.c (.string (ofL (sb.drop 48))), .c (.int .i64 (g1E (sb.take 48)))]) ∧ (58 = 58 ∧ flat [.n 6 p.a0.1, .n 6 p.a0.2.1, .c (.bool p.a0.2.2), .n 6 p.a1.1, .n 6 p.a1.2.1, .c (.bool p.a1.2.2), .n 6 p.a2.1, .n 6 p.a2.2.1, .c (.bool p.a2.2.2), .n 6 p.a3.1, .n 6 p.a3.2.1, .c (.bool p.a3.2.2), .n 6 p.a4.1, .n 6 p.a4.2.1, .c (.bool p.a4.2.2), .n 6 p.a5.1, .n 6 p.a5.2.1, .c (.bool p.a5.2.2), .n 6 p.a6.1, .n 6 p.a6.2.1, .c (.bool p.a6.2.2), .c (.int .u64 0), .c (.int .u64 0), .c (.int .u64 0), .c (.int .u64 0), .c (.int .u64 0), .c (.int .u64 0), .c (.int .u64 0), .c (.int .u64 0), .c (.int .u64 0), .c (.int .u64 0), .c (.int .u64 0), .c (.int .u64 0), .c (.bool false), .n 6 p.a8.1, .n 6 p.a8.2.1, .c (.bool p.a8.2.2), .n 4 p.f0, .n 4 p.f1, .n 4 p.f2, .n 4 p.f3, .n 4 p.f4, .n 4 p.f5] = flat ({ p with a7 := (g1V (sb.take 48)) } : PF).ch) ∧ True) from ⟨⟨⟨rfl, rfl⟩, ⟨rfl, rfl⟩, ⟨rfl, rfl⟩, ⟨⟨rfl, rfl⟩, ⟨rfl, rfl⟩, ⟨rfl, rfl⟩, ⟨rfl, rfl⟩, ⟨rfl, rfl⟩, ⟨rfl, rfl⟩, ⟨rfl, rfl⟩, ⟨rfl, rfl⟩, ⟨rfl, rfl⟩, trivial⟩, rfl, trivial⟩, ⟨rfl, rfl⟩, ⟨rfl, rfl⟩, ⟨rfl, by rw [g1_none h]; kernel_rfl⟩, trivial⟩)
      (And.intro (show ((g1E (sb.take 48)) != 0) = true from by simpa using h)
      (And.intro (show (0 : Int) ≤ 48 ∧ (48 : Int) ≤ (ofL sb).size from ⟨by decide, by show (48 : Int) ≤ (sb.length : Nat); omega⟩)
      (And.intro (show (0 : Int) ≤ 48 ∧ (48 : Int) ≤ (ofL sb).size from ⟨by decide, by show (48 : Int) ≤ (sb.length : Nat); omega⟩) trivial))))
theorem gpa7C (p : PF) (sb : List UInt8) (e : Int) (h : e ≠ 0) : Sound Try.prog 0 false (loopB Try.f22 0) (gpI p sb e 7).aa .normal (gpI { p with a7 := p1z } sb e 8).aa :=
  roundP_sound (P := Try.prog) (X := rulesY _) (env := [eGet1T, eFGetT]) ⟨eGet1T_ok, eFGetT_ok, trivial⟩ (n := 3) (os := oL [(59, wT)]) (fb := 0) (rd := false) (c := (loopB Try.f22 0)) (k := 47) (I := gpI p sb e 7) (J := gpI { p with a7 := p1z } sb e 8) (τ := []) (ex := .normal) (by kernel_rfl)
    (And.intro (show ((true = true ∧ 0 = 0) ∧ (true = true ∧ 0 = 0) ∧ (true = true ∧ 0 = 0) ∧ ((true = true ∧ 0 = 0) ∧ (true = true ∧ 13 = 13) ∧ (true = true ∧ 26 = 26) ∧ (true = true ∧ 39 = 39) ∧ (true = true ∧ 52 = 52) ∧ (true = true ∧ 65 = 65) ∧ (true = true ∧ 78 = 78) ∧ (true = true ∧ 91 = 91) ∧ (true = true ∧ 104 = 104) ∧ True) ∧ (Value.int .i64 (IntKind.i64.wrap (7 + 1))) = (Value.int .i64 8) ∧ True) ∧ ((58 = 58 ∧ flat z141 = flat z141) ∧ (102 = 102 ∧ flat [.c (.string (ofL sb)), .c (.int .i64 e)] = flat [.c (.string (ofL sb)), .c (.int .i64 e)]) ∧ (58 = 58 ∧ flat [.n 6 p.a0.1, .n 6 p.a0.2.1, .c (.bool p.a0.2.2), .n 6 p.a1.1, .n 6 p.a1.2.1, .c (.bool p.a1.2.2), .n 6 p.a2.1, .n 6 p.a2.2.1, .c (.bool p.a2.2.2), .n 6 p.a3.1, .n 6 p.a3.2.1, .c (.bool p.a3.2.2), .n 6 p.a4.1, .n 6 p.a4.2.1, .c (.bool p.a4.2.2), .n 6 p.a5.1, .n 6 p.a5.2.1, .c (.bool p.a5.2.2), .n 6 p.a6.1, .n 6 p.a6.2.1, .c (.bool p.a6.2.2), .c (.int .u64 0), .c (.int .u64 0), .c (.int .u64 0), .c (.int .u64 0), .c (.int .u64 0), .c (.int .u64 0), .c (.int .u64 0), .c (.int .u64 0), .c (.int .u64 0), .c (.int .u64 0), .c (.int .u64 0), .c (.int .u64 0), .c (.bool false), .n 6 p.a8.1, .n 6 p.a8.2.1, .c (.bool p.a8.2.2), .n 4 p.f0, .n 4 p.f1, .n 4 p.f2, .n 4 p.f3, .n 4 p.f4, .n 4 p.f5] = flat ({ p with a7 := p1z } : PF).ch) ∧ True) from ⟨⟨⟨rfl, rfl⟩, ⟨rfl, rfl⟩, ⟨rfl, rfl⟩, ⟨⟨rfl, rfl⟩, ⟨rfl, rfl⟩, ⟨rfl, rfl⟩, ⟨rfl, rfl⟩, ⟨rfl, rfl⟩, ⟨rfl, rfl⟩, ⟨rfl, rfl⟩, ⟨rfl, rfl⟩, ⟨rfl, rfl⟩, trivial⟩, rfl, trivial⟩, ⟨rfl, rfl⟩, ⟨rfl, rfl⟩, ⟨rfl, by kernel_rfl⟩, trivial⟩)
      (And.intro (show (e != 0) = true from by simpa using h) trivial))
theorem gpa8A (p : PF) (sb : List UInt8) (e : Int) (hl : 48 ≤ sb.length) (h : (g1E (sb.take 48)) = 0) : Sound Try.prog 0 false (loopB Try.f22 0) (gpI p sb 0 8).aa .normal (gpI { p with a8 := (g1V (sb.take 48)) } (sb.drop 48) (g1E (sb.take 48)) 9).aa :=
  roundP_sound (P := Try.prog) (X := rulesY _) (env := [eGet1T, eFGetT]) ⟨eGet1T_ok, eFGetT_ok, trivial⟩ (n := 3) (os := oL [(66, rO 5 0), (80, rO 5 0), (98, wF)]) (fb := 0) (rd := false) (c := (loopB Try.f22 0)) (k := 47) (I := gpI p sb 0 8) (J := gpI { p with a8 := (g1V (sb.take 48)) } (sb.drop 48) (g1E (sb.take 48)) 9) (τ := []) (ex := .normal) (by kernel_rfl)
    (And.intro (show ((true = true ∧ 0 = 0) ∧ (true = true ∧ 0 = 0) ∧ (true = true ∧ 0 = 0) ∧ ((true = true ∧ 0 = 0) ∧ (true = true ∧ 13 = 13) ∧ (true = true ∧ 26 = 26) ∧ (true = true ∧ 39 = 39) ∧ (true = true ∧ 52 = 52) ∧ (true = true ∧ 65 = 65) ∧ (true = true ∧ 78 = 78) ∧ (true = true ∧ 91 = 91) ∧ (true = true ∧ 104 = 104) ∧ True) ∧ (Value.int .i64 (IntKind.i64.wrap (8 + 1))) = (Value.int .i64 9) ∧ True) ∧ ((58 = 58 ∧ flat z141 = flat z141) ∧ (102 = 102 ∧ flat [.c (.string (ofL (sb.drop 48))), .c (.int .i64 (g1E (sb.take 48)))] = flat [.c (.string (ofL (sb.drop 48))), .c (.int .i64 (g1E (sb.take 48)))]) ∧ (58 = 58 ∧ flat [.n 6 p.a0.1, .n 6 p.a0.2.1, .c (.bool p.a0.2.2), .n 6 p.a1.1, .n 6 p.a1.2.1, .c (.bool p.a1.2.2), .n 6 p.a2.1, .n 6 p.a2.2.1, .c (.bool p.a2.2.2), .n 6 p.a3.1, .n 6 p.a3.2.1, .c (.bool p.a3.2.2), .n 6 p.a4.1, .n 6 p.a4.2.1, .c (.bool p.a4.2.2), .n 6 p.a5.1, .n 6 p.a5.2.1, .c (.bool p.a5.2.2), .n 6 p.a6.1, .n 6 p.a6.2.1, .c (.bool p.a6.2.2), .n 6 p.a7.1, .n 6 p.a7.2.1, .c (.bool p.a7.2.2), .n 6 (g1V (sb.take 48)).1, .n 6 (g1V (sb.take 48)).2.1, .c (.bool (g1V (sb.take 48)).2.2), .n 4 p.f0, .n 4 p.f1, .n 4 p.f2, .n 4 p.f3, .n 4 p.f4, .n 4 p.f5] = flat ({ p with a8 := (g1V (sb.take 48)) } : PF).ch) ∧ True) from ⟨⟨⟨rfl, rfl⟩, ⟨rfl, rfl⟩, ⟨rfl, rfl⟩, ⟨⟨rfl, rfl⟩, ⟨rfl, rfl⟩, ⟨rfl, rfl⟩, ⟨rfl, rfl⟩, ⟨rfl, rfl⟩, ⟨rfl, rfl⟩, ⟨rfl, rfl⟩, ⟨rfl, rfl⟩, ⟨rfl, rfl⟩, trivial⟩, rfl, trivial⟩, ⟨rfl, rfl⟩, ⟨rfl, rfl⟩, ⟨rfl, rfl⟩, trivial⟩)
      (And.intro (show ((g1E (sb.take 48)) != 0) = false from by rw [h]; rfl)
      (And.intro (show (0 : Int) ≤ 48 ∧ (48 : Int) ≤ (ofL sb).size from ⟨by decide, by show (48 : Int) ≤ (sb.length : Nat); omega⟩)
      (And.intro (show (0 : Int) ≤ 48 ∧ (48 : Int) ≤ (ofL sb).size from ⟨by decide, by show (48 : Int) ≤ (sb.length : Nat); omega⟩) trivial))))
theorem gpa8B (p : PF) (sb : List UInt8) (e : Int) (hl : 48 ≤ sb.length) (h : (g1E (sb.take 48)) ≠ 0) : Sound Try.prog 0 false (loopB Try.f22 0) (gpI p sb 0 8).aa .normal (gpI { p with a8 := (g1V (sb.take 48)) } (sb.drop 48) (g1E (sb.take 48)) 9).aa :=
  roundP_sound (P := Try.prog) (X := rulesY _) (env := [eGet1T, eFGetT]) ⟨eGet1T_ok, eFGetT_ok, trivial⟩ (n := 3) (os := oL [(66, rO 5 0), (80, rO 5 0), (98, wT)]) (fb := 0) (rd := false) (c := (loopB Try.f22 0)) (k := 47) (I := gpI p sb 0 8) (J := gpI { p with a8 := (g1V (sb.take 48)) } (sb.drop 48) (g1E (sb.take 48)) 9) (τ := []) (ex := .normal) (by kernel_rfl)
    (And.intro (show ((true = true ∧ 0 = 0) ∧ (true = true ∧ 0 = 0) ∧ (true = true ∧ 0 = 0) ∧ ((true = true ∧ 0 = 0) ∧ (true = true ∧ 13 = 13) ∧ (true = true ∧ 26 = 26) ∧ (true = true ∧ 39 = 39) ∧ (true = true ∧ 52 = 52) ∧ (true = true ∧ 65 = 65) ∧ (true = true ∧ 78 = 78) ∧ (true = true ∧ 91 = 91) ∧ (true = true ∧ 104 = 104) ∧ True) ∧ (Value.int .i64 (IntKind.i64.wrap (8 + 1))) = (Value.int .i64 9) ∧ True) ∧ ((58 = 58 ∧ flat z141 = flat z141) ∧ (102 = 102 ∧ flat [.c (.string (ofL (sb.drop 48))), .c (.int .i64 (g1E (sb.take 48)))] = flat [.c (.string (ofL (sb.drop 48))), .c (.int .i64 (g1E (sb.take 48)))]) ∧ (58 = 58 ∧ flat [.n 6 p.a0.1, .n 6 p.a0.2.1, .c (.bool p.a0.2.2), .n 6 p.a1.1, .n 6 p.a1.2.1, .c (.bool p.a1.2.2), .n 6 p.a2.1, .n 6 p.a2.2.1, .c (.bool p.a2.2.2), .n 6 p.a3.1, .n 6 p.a3.2.1, .c (.bool p.a3.2.2), .n 6 p.a4.1, .n 6 p.a4.2.1, .c (.bool p.a4.2.2), .n 6 p.a5.1, .n 6 p.a5.2.1, .c (.bool p.a5.2.2), .n 6 p.a6.1, .n 6 p.a6.2.1, .c (.bool p.a6.2.2), .n 6 p.a7.1, .n 6 p.a7.2.1, .c (.bool p.a7.2.2), .c (.int .u64 0), .c (.int .u64 0), .c (.int .u64 0), .c (.int .u64 0), .c (.int .u64 0), .c (.int .u64 0), .c (.int .u64 0), .c (.int .u64 0), .c (.int .u64 0), .c (.int .u64 0), .c (.int .u64 0), .c (.int .u64 0), .c (.bool false), .n 4 p.f0, .n 4 p.f1, .n 4 p.f2, .n 4 p.f3, .n 4 p.f4, .n 4 p.f5] = flat ({ p with a8 := (g1V (sb.take 48)) } : PF).ch) ∧ True) from ⟨⟨⟨rfl, rfl⟩, ⟨rfl, rfl⟩, ⟨rfl, rfl⟩, ⟨⟨rfl, rfl⟩, ⟨rfl, rfl⟩, ⟨rfl, rfl⟩, ⟨rfl, rfl⟩, ⟨rfl, rfl⟩, ⟨rfl, rfl⟩, ⟨rfl, rfl⟩, ⟨rfl, rfl⟩, ⟨rfl, rfl⟩, trivial⟩, rfl, trivial⟩, ⟨rfl, rfl⟩, ⟨rfl, rfl⟩, ⟨rfl, by rw [g1_none h]; kernel_rfl⟩, trivial⟩)
      (And.intro (show ((g1E (sb.take 48)) != 0) = true from by simpa using h)
      (And.intro (show (0 : Int) ≤ 48 ∧ (48 : Int) ≤ (ofL sb).size from ⟨by decide, by show (48 : Int) ≤ (sb.length : Nat); omega⟩)
      (And.intro (show (0 : Int) ≤ 48 ∧ (48 : Int) ≤ (ofL sb).size from ⟨by decide, by show (48 : Int) ≤ (sb.length : Nat); omega⟩) trivial))))
theorem gpa8C (p : PF) (sb : List UInt8) (e : Int) (h : e ≠ 0) : Sound Try.prog 0 false (loopB Try.f22 0) (gpI p sb e 8).aa .normal (gpI { p with a8 := p1z } sb e 9).aa :=
  roundP_sound (P := Try.prog) (X := rulesY _) (env := [eGet1T, eFGetT]) ⟨eGet1T_ok, eFGetT_ok, trivial⟩ (n := 3) (os := oL [(59, wT)]) (fb := 0) (rd := false) (c := (loopB Try.f22 0)) (k := 47) (I := gpI p sb e 8) (J := gpI { p with a8 := p1z } sb e 9) (τ := []) (ex := .normal) (by kernel_rfl)
    (And.intro (show ((true = true ∧ 0 = 0) ∧ (true = true ∧ 0 = 0) ∧ (true = true ∧ 0 = 0) ∧ ((true = true ∧ 0 = 0) ∧ (true = true ∧ 13 = 13) ∧ (true = true ∧ 26 = 26) ∧ (true = true ∧ 39 = 39) ∧ (true = true ∧ 52 = 52) ∧ (true = true ∧ 65 = 65) ∧ (true = true ∧ 78 = 78) ∧ (true = true ∧ 91 = 91) ∧ (true = true ∧ 104 = 104) ∧ True) ∧ (Value.int .i64 (IntKind.i64.wrap (8 + 1))) = (Value.int .i64 9) ∧ True) ∧ ((58 = 58 ∧ flat z141 = flat z141) ∧ (102 = 102 ∧ flat [.c (.string (ofL sb)), .c (.int .i64 e)] = flat [.c (.string (ofL sb)), .c (.int .i64 e)]) ∧ (58 = 58 ∧ flat [.n 6 p.a0.1, .n 6 p.a0.2.1, .c (.bool p.a0.2.2), .n 6 p.a1.1, .n 6 p.a1.2.1, .c (.bool p.a1.2.2), .n 6 p.a2.1, .n 6 p.a2.2.1, .c (.bool p.a2.2.2), .n 6 p.a3.1, .n 6 p.a3.2.1, .c (.bool p.a3.2.2), .n 6 p.a4.1, .n 6 p.a4.2.1, .c (.bool p.a4.2.2), .n 6 p.a5.1, .n 6 p.a5.2.1, .c (.bool p.a5.2.2), .n 6 p.a6.1, .n 6 p.a6.2.1, .c (.bool p.a6.2.2), .n 6 p.a7.1, .n 6 p.a7.2.1, .c (.bool p.a7.2.2), .c (.int .u64 0), .c (.int .u64 0), .c (.int .u64 0), .c (.int .u64 0), .c (.int .u64 0), .c (.int .u64 0), .c (.int .u64 0), .c (.int .u64 0), .c (.int .u64 0), .c (.int .u64 0), .c (.int .u64 0), .c (.int .u64 0), .c (.bool false), .n 4 p.f0, .n 4 p.f1, .n 4 p.f2, .n 4 p.f3, .n 4 p.f4, .n 4 p.f5] = flat ({ p with a8 := p1z } : PF).ch) ∧ True) from ⟨⟨⟨rfl, rfl⟩, ⟨rfl, rfl⟩, ⟨rfl, rfl⟩, ⟨⟨rfl, rfl⟩, ⟨rfl, rfl⟩, ⟨rfl, rfl⟩, ⟨rfl, rfl⟩, ⟨rfl, rfl⟩, ⟨rfl, rfl⟩, ⟨rfl, rfl⟩, ⟨rfl, rfl⟩, ⟨rfl, rfl⟩, trivial⟩, rfl, trivial⟩, ⟨rfl, rfl⟩, ⟨rfl, rfl⟩, ⟨rfl, by kernel_rfl⟩, trivial⟩)
      (And.intro (show (e != 0) = true from by simpa using h) trivial))
theorem gpb0A (p : PF) (sb : List UInt8) (e : Int) (hl : 32 ≤ sb.length) (h : (gfE (sb.take 32)) = 0) : Sound Try.prog 0 false (loopB Try.f22 1) (gpK p sb 0 0).aa .normal (gpK { p with f0 := (gfV (sb.take 32)) } (sb.drop 32) (gfE (sb.take 32)) 1).aa :=
  roundP_sound (P := Try.prog) (X := rulesY _) (env := [eGet1T, eFGetT]) ⟨eGet1T_ok, eFGetT_ok, trivial⟩ (n := 3) (os := oL [(66, rO 5 0), (80, rO 5 0), (98, wF)]) (fb := 0) (rd := false) (c := (loopB Try.f22 1)) (k := 47) (I := gpK p sb 0 0) (J := gpK { p with f0 := (gfV (sb.take 32)) } (sb.drop 32) (gfE (sb.take 32)) 1) (τ := []) (ex := .normal) (by kernel_rfl)
    (And.intro (show ((true = true ∧ 0 = 0) ∧ (true = true ∧ 0 = 0) ∧ (true = true ∧ 0 = 0) ∧ ((true = true ∧ 117 = 117) ∧ (true = true ∧ 121 = 121) ∧ (true = true ∧ 125 = 125) ∧ (true = true ∧ 129 = 129) ∧ (true = true ∧ 133 = 133) ∧ (true = true ∧ 137 = 137) ∧ True) ∧ (Value.int .i64 (IntKind.i64.wrap (0 + 1))) = (Value.int .i64 1) ∧ True) ∧ ((58 = 58 ∧ flat z141 = flat z141) ∧ (102 = 102 ∧ flat [.c (.string (ofL (sb.drop 32))), .c (.int .i64 (gfE (sb.take 32)))] = flat [.c (.string (ofL (sb.drop 32))), .c (.int .i64 (gfE (sb.take 32)))]) ∧ (58 = 58 ∧ flat [.n 6 p.a0.1, .n 6 p.a0.2.1, .c (.bool p.a0.2.2), .n 6 p.a1.1, .n 6 p.a1.2.1, .c (.bool p.a1.2.2), .n 6 p.a2.1, .n 6 p.a2.2.1, .c (.bool p.a2.2.2), .n 6 p.a3.1, .n 6 p.a3.2.1, .c (.bool p.a3.2.2), .n 6 p.a4.1, .n 6 p.a4.2.1, .c (.bool p.a4.2.2), .n 6 p.a5.1, .n 6 p.a5.2.1, .c (.bool p.a5.2.2), .n 6 p.a6.1, .n 6 p.a6.2.1, .c (.bool p.a6.2.2), .n 6 p.a7.1, .n 6 p.a7.2.1, .c (.bool p.a7.2.2), .n 6 p.a8.1, .n 6 p.a8.2.1, .c (.bool p.a8.2.2), .n 4 (gfV (sb.take 32)), .n 4 p.f1, .n 4 p.f2, .n 4 p.f3, .n 4 p.f4, .n 4 p.f5] = flat ({ p with f0 := (gfV (sb.take 32)) } : PF).ch) ∧ True) from ⟨⟨⟨rfl, rfl⟩, ⟨rfl, rfl⟩, ⟨rfl, rfl⟩, ⟨⟨rfl, rfl⟩, ⟨rfl, rfl⟩, ⟨rfl, rfl⟩, ⟨rfl, rfl⟩, ⟨rfl, rfl⟩, ⟨rfl, rfl⟩, trivial⟩, rfl, trivial⟩, ⟨rfl, rfl⟩, ⟨rfl, rfl⟩, ⟨rfl, rfl⟩, trivial⟩)
      (And.intro (show ((gfE (sb.take 32)) != 0) = false from by rw [h]; rfl)
      (And.intro (show (0 : Int) ≤ 32 ∧ (32 : Int) ≤ (ofL sb).size from ⟨by decide, by show (32 : Int) ≤ (sb.length : Nat); omega⟩)
      (And.intro (show (0 : Int) ≤ 32 ∧ (32 : Int) ≤ (ofL sb).size from ⟨by decide, by show (32 : Int) ≤ (sb.length : Nat); omega⟩) trivial))))
theorem gpb0B (p : PF) (sb : List UInt8) (e : Int) (hl : 32 ≤ sb.length) (h : (gfE (sb.take 32)) ≠ 0) : Sound Try.prog 0 false (loopB Try.f22 1) (gpK p sb 0 0).aa .normal (gpK { p with f0 := (gfV (sb.take 32)) } (sb.drop 32) (gfE (sb.take 32)) 1).aa :=
  roundP_sound (P := Try.prog) (X := rulesY _) (env := [eGet1T, eFGetT]) ⟨eGet1T_ok, eFGetT_ok, trivial⟩ (n := 3) (os := oL [(66, rO 5 0), (80, rO 5 0), (98, wT)]) (fb := 0) (rd := false) (c := (loopB Try.f22 1)) (k := 47) (I := gpK p sb 0 0) (J := gpK { p with f0 := (gfV (sb.take 32)) } (sb.drop 32) (gfE (sb.take 32)) 1) (τ := []) (ex := .normal) (by kernel_rfl)
    (And.intro (show ((true = true ∧ 0 = 0) ∧ (true = true ∧ 0 = 0) ∧ (true = true ∧ 0 = 0) ∧ ((true = true ∧ 117 = 117) ∧ (true = true ∧ 121 = 121) ∧ (true = true ∧ 125 = 125) ∧ (true = true ∧ 129 = 129) ∧ (true = true ∧ 133 = 133) ∧ (true = true ∧ 137 = 137) ∧ True) ∧ (Value.int .i64 (IntKind.i64.wrap (0 + 1))) = (Value.int .i64 1) ∧ True) ∧ ((58 = 58 ∧ flat z141 = flat z141) ∧ (102 = 102 ∧ flat [.c (.string (ofL (sb.drop 32))), .c (.int .i64 (gfE (sb.take 32)))] = flat [.c (.string (ofL (sb.drop 32))), .c (.int .i64 (gfE (sb.take 32)))]) ∧ (58 = 58 ∧ flat [.n 6 p.a0.1, .n 6 p.a0.2.1, .c (.bool p.a0.2.2), .n 6 p.a1.1, .n 6 p.a1.2.1, .c (.bool p.a1.2.2), .n 6 p.a2.1, .n 6 p.a2.2.1, .c (.bool p.a2.2.2), .n 6 p.a3.1, .n 6 p.a3.2.1, .c (.bool p.a3.2.2), .n 6 p.a4.1, .n 6 p.a4.2.1, .c (.bool p.a4.2.2), .n 6 p.a5.1, .n 6 p.a5.2.1, .c (.bool p.a5.2.2), .n 6 p.a6.1, .n 6 p.a6.2.1, .c (.bool p.a6.2.2), .n 6 p.a7.1, .n 6 p.a7.2.1, .c (.bool p.a7.2.2), .n 6 p.a8.1, .n 6 p.a8.2.1, .c (.bool p.a8.2.2), .c (.int .u64 0), .c (.int .u64 0), .c (.int .u64 0), .c (.int .u64 0), .n 4 p.f1, .n 4 p.f2, .n 4 p.f3, .n 4 p.f4, .n 4 p.f5] = flat ({ p with f0 := (gfV (sb.take 32)) } : PF).ch) ∧ True) from ⟨⟨⟨rfl, rfl⟩, ⟨rfl, rfl⟩, ⟨rfl, rfl⟩, ⟨⟨rfl, rfl⟩, ⟨rfl, rfl⟩, ⟨rfl, rfl⟩, ⟨rfl, rfl⟩, ⟨rfl, rfl⟩, ⟨rfl, rfl⟩, trivial⟩, rfl, trivial⟩, ⟨rfl, rfl⟩, ⟨rfl, rfl⟩, ⟨rfl, by rw [gf_none h]; kernel_rfl⟩, trivial⟩)
      (And.intro (show ((gfE (sb.take 32)) != 0) = true from by simpa using h)
      (And.intro (show (0 : Int) ≤ 32 ∧ (32 : Int) ≤ (ofL sb).size from ⟨by decide, by show (32 : Int) ≤ (sb.length : Nat); omega⟩)
      (And.intro (show (0 : Int) ≤ 32 ∧ (32 : Int) ≤ (ofL sb).size from ⟨by decide, by show (32 : Int) ≤ (sb.length : Nat); omega⟩) trivial))))
theorem gpb0C (p : PF) (sb : List UInt8) (e : Int) (h : e ≠ 0) : Sound Try.prog 0 false (loopB Try.f22 1) (gpK p sb e 0).aa .normal (gpK { p with f0 := 0 } sb e 1).aa :=
  roundP_sound (P := Try.prog) (X := rulesY _) (env := [eGet1T, eFGetT]) ⟨eGet1T_ok, eFGetT_ok, trivial⟩ (n := 3) (os := oL [(59, wT)]) (fb := 0) (rd := false) (c := (loopB Try.f22 1)) (k := 47) (I := gpK p sb e 0) (J := gpK { p with f0 := 0 } sb e 1) (τ := []) (ex := .normal) (by kernel_rfl)
    (And.intro (show ((true = true ∧ 0 = 0) ∧ (true = true ∧ 0 = 0) ∧ (true = true ∧ 0 = 0) ∧ ((true = true ∧ 117 = 117) ∧ (true = true ∧ 121 = 121) ∧ (true = true ∧ 125 = 125) ∧ (true = true ∧ 129 = 129) ∧ (true = true ∧ 133 = 133) ∧ (true = true ∧ 137 = 137) ∧ True) ∧ (Value.int .i64 (IntKind.i64.wrap (0 + 1))) = (Value.int .i64 1) ∧ True) ∧ ((58 = 58 ∧ flat z141 = flat z141) ∧ (102 = 102 ∧ flat [.c (.string (ofL sb)), .c (.int .i64 e)] = flat [.c (.string (ofL sb)), .c (.int .i64 e)]) ∧ (58 = 58 ∧ flat [.n 6 p.a0.1, .n 6 p.a0.2.1, .c (.bool p.a0.2.2), .n 6 p.a1.1, .n 6 p.a1.2.1, .c (.bool p.a1.2.2), .n 6 p.a2.1, .n 6 p.a2.2.1, .c (.bool p.a2.2.2), .n 6 p.a3.1, .n 6 p.a3.2.1, .c (.bool p.a3.2.2), .n 6 p.a4.1, .n 6 p.a4.2.1, .c (.bool p.a4.2.2), .n 6 p.a5.1, .n 6 p.a5.2.1, .c (.bool p.a5.2.2), .n 6 p.a6.1, .n 6 p.a6.2.1, .c (.bool p.a6.2.2), .n 6 p.a7.1, .n 6 p.a7.2.1, .c (.bool p.a7.2.2), .n 6 p.a8.1, .n 6 p.a8.2.1, .c (.bool p.a8.2.2), .c (.int .u64 0), .c (.int .u64 0), .c (.int .u64 0), .c (.int .u64 0), .n 4 p.f1, .n 4 p.f2, .n 4 p.f3, .n 4 p.f4, .n 4 p.f5] = flat ({ p with f0 := 0 } : PF).ch) ∧ True) from ⟨⟨⟨rfl, rfl⟩, ⟨rfl, rfl⟩, ⟨rfl, rfl⟩, ⟨⟨rfl, rfl⟩, ⟨rfl, rfl⟩, ⟨rfl, rfl⟩, ⟨rfl, rfl⟩, ⟨rfl, rfl⟩, ⟨rfl, rfl⟩, trivial⟩, rfl, trivial⟩, ⟨rfl, rfl⟩, ⟨rfl, rfl⟩, ⟨rfl, by kernel_rfl⟩, trivial⟩)
      (And.intro (show (e != 0) = true from by simpa using h) trivial))
theorem gpb1A (p : PF) (sb : List UInt8) (e : Int) (hl : 32 ≤ sb.length) (h : (gfE (sb.take 32)) = 0) : Sound Try.prog 0 false (loopB Try.f22 1) (gpK p sb 0 1).aa .normal (gpK { p with f1 := (gfV (sb.take 32)) } (sb.drop 32) (gfE (sb.take 32)) 2).aa :=
  roundP_sound (P := Try.prog) (X := rulesY _) (env := [eGet1T, eFGetT]) ⟨eGet1T_ok, eFGetT_ok, trivial⟩ (n := 3) (os := oL [(66, rO 5 0), (80, rO 5 0), (98, wF)]) (fb := 0) (rd := false) (c := (loopB Try.f22 1)) (k := 47) (I := gpK p sb 0 1) (J := gpK { p with f1 := (gfV (sb.take 32)) } (sb.drop 32) (gfE (sb.take 32)) 2) (τ := []) (ex := .normal) (by kernel_rfl)
    (And.intro (show ((true = true ∧ 0 = 0) ∧ (true = true ∧ 0 = 0) ∧ (true = true ∧ 0 = 0) ∧ ((true = true ∧ 117 = 117) ∧ (true = true ∧ 121 = 121) ∧ (true = true ∧ 125 = 125) ∧ (true = true ∧ 129 = 129) ∧ (true = true ∧ 133 = 133) ∧ (true = true ∧ 137 = 137) ∧ True) ∧ (Value.int .i64 (IntKind.i64.wrap (1 + 1))) = (Value.int .i64 2) ∧ True) ∧ ((58 = 58 ∧ flat z141 = flat z141) ∧ (102 = 102 ∧ flat [.c (.string (ofL (sb.drop 32))), .c (.int .i64 (gfE (sb.take 32)))] = flat [.c (.string (ofL (sb.drop 32))), .c (.int .i64 (gfE (sb.take 32)))]) ∧ (58 = 58 ∧ flat [.n 6 p.a0.1, .n 6 p.a0.2.1, .c (.bool p.a0.2.2), .n 6 p.a1.1, .n 6 p.a1.2.1, .c (.bool p.a1.2.2), .n 6 p.a2.1, .n 6 p.a2.2.1, .c (.bool p.a2.2.2), .n 6 p.a3.1, .n 6 p.a3.2.1, .c (.bool p.a3.2.2), .n 6 p.a4.1, .n 6 p.a4.2.1, .c (.bool p.a4.2.2), .n 6 p.a5.1, .n 6 p.a5.2.1, .c (.bool p.a5.2.2), .n 6 p.a6.1, .n 6 p.a6.2.1, .c (.bool p.a6.2.2), .n 6 p.a7.1, .n 6 p.a7.2.1, .c (.bool p.a7.2.2), .n 6 p.a8.1, .n 6 p.a8.2.1, .c (.bool p.a8.2.2), .n 4 p.f0, .n 4 (gfV (sb.take 32)), .n 4 p.f2, .n 4 p.f3, .n 4 p.f4, .n 4 p.f5] = flat ({ p with f1 := (gfV (sb.take 32)) } : PF).ch) ∧ True) from ⟨⟨⟨rfl, rfl⟩, ⟨rfl, rfl⟩, ⟨rfl, rfl⟩, ⟨⟨rfl, rfl⟩, ⟨rfl, rfl⟩, ⟨rfl, rfl⟩, ⟨rfl, rfl⟩, ⟨rfl, rfl⟩, ⟨rfl, rfl⟩, trivial⟩, rfl, trivial⟩, ⟨rfl, rfl⟩, ⟨rfl, rfl⟩, ⟨rfl, rfl⟩, trivial⟩)
      (And.intro (show ((gfE (sb.take 32)) != 0) = false from by rw [h]; rfl)
      (And.intro (show (0 : Int) ≤ 32 ∧ (32 : Int) ≤ (ofL sb).size from ⟨by decide, by show (32 : Int) ≤ (sb.length : Nat); omega⟩)
      (And.intro (show (0 : Int) ≤ 32 ∧ (32 : Int) ≤ (ofL sb).size from ⟨by decide, by show (32 : Int) ≤ (sb.length : Nat); omega⟩) trivial))))
theorem gpb1B (p : PF) (sb : List UInt8) (e : Int) (hl : 32 ≤ sb.length) (h : (gfE (sb.take 32)) ≠ 0) : Sound Try.prog 0 false (loopB Try.f22 1) (gpK p sb 0 1).aa .normal (gpK { p with f1 := (gfV (sb.take 32)) } (sb.drop 32) (gfE (sb.take 32)) 2).aa :=
  roundP_sound (P := Try.prog) (X := rulesY _) (env := [eGet1T, eFGetT]) ⟨eGet1T_ok, eFGetT_ok, trivial⟩ (n := 3) (os := oL [(66, rO 5 0), (80, rO 5 0), (98, wT)]) (fb := 0) (rd := false) (c := (loopB Try.f22 1)) (k := 47) (I := gpK p sb 0 1) (J := gpK { p with f1 := (gfV (sb.take 32)) } (sb.drop 32) (gfE (sb.take 32)) 2) (τ := []) (ex := .normal) (by kernel_rfl)
    (And.intro (show ((true = true ∧ 0 = 0) ∧ (true = true ∧ 0 = 0) ∧ (true = true ∧ 0 = 0) ∧ ((true = true ∧ 117 = 117) ∧ (true = true ∧ 121 = 121) ∧ (true = true ∧ 125 = 125) ∧ (true = true ∧ 129 = 129) ∧ (true = true ∧ 133 = 133) ∧ (true = true ∧ 137 = 137) ∧ True) ∧ (Value.int .i64 (IntKind.i64.wrap (1 + 1))) = (Value.int .i64 2) ∧ True) ∧ ((58 = 58 ∧ flat z141 = flat z141) ∧ (102 = 102 ∧ flat [.c (.string (ofL (sb.drop 32))), .c (.int .i64 (gfE (sb.take 32)))] = flat [.c (.string (ofL (sb.drop 32))), .c (.int .i64 (gfE (sb.take 32)))]) ∧ (58 = 58 ∧ flat [.n 6 p.a0.1, .n 6 p.a0.2.1, .c (.bool p.a0.2.2), .n 6 p.a1.1, .n 6 p.a1.2.1, .c (.bool p.a1.2.2), .n 6 p.a2.1, .n 6 p.a2.2.1, .c (.bool p.a2.2.2), .n 6 p.a3.1, .n 6 p.a3.2.1, .c (.bool p.a3.2.2), .n 6 p.a4.1, .n 6 p.a4.2.1, .c (.bool p.a4.2.2), .n 6 p.a5.1, .n 6 p.a5.2.1, .c (.bool p.a5.2.2), .n 6 p.a6.1, .n 6 p.a6.2.1, .c (.bool p.a6.2.2), .n 6 p.a7.1, .n 6 p.a7.2.1, .c (.bool p.a7.2.2), .n 6 p.a8.1, .n 6 p.a8.2.1, .c (.bool p.a8.2.2), .n 4 p.f0, .c (.int .u64 0), .c (.int .u64 0), .c (.int .u64 0), .c (.int .u64 0), .n 4 p.f2, .n 4 p.f3, .n 4 p.f4, .n 4 p.f5] = flat ({ p with f1 := (gfV (sb.take 32)) } : PF).ch) ∧ True) from ⟨⟨⟨rfl, rfl⟩, ⟨rfl, rfl⟩, ⟨rfl, rfl⟩, ⟨⟨rfl, rfl⟩, ⟨rfl, rfl⟩, ⟨rfl, rfl⟩, ⟨rfl, rfl⟩, ⟨rfl, rfl⟩, ⟨rfl, rfl⟩, trivial⟩, rfl, trivial⟩, ⟨rfl, rfl⟩, ⟨rfl, rfl⟩, ⟨rfl, by rw [gf_none h]; kernel_rfl⟩, trivial⟩)
      (And.intro (show ((gfE (sb.take 32)) != 0) = true from by simpa using h)
      (And.intro (show (0 : Int) ≤ 32 ∧ (32 : Int) ≤ (ofL sb).size from ⟨by decide, by show (32 : Int) ≤ (sb.length : Nat); omega⟩)
      (And.intro (show (0 : Int) ≤ 32 ∧ (32 : Int) ≤ (ofL sb).size from ⟨by decide, by show (32 : Int) ≤ (sb.length : Nat); omega⟩) trivial))))
theorem gpb1C (p : PF) (sb : List UInt8) (e : Int) (h : e ≠ 0) : Sound Try.prog 0 false (loopB Try.f22 1) (gpK p sb e 1).aa .normal (gpK { p with f1 := 0 } sb e 2).aa :=
  roundP_sound (P := Try.prog) (X := rulesY _) (env := [eGet1T, eFGetT]) ⟨eGet1T_ok, eFGetT_ok, trivial⟩ (n := 3) (os := oL [(59, wT)]) (fb := 0) (rd := false) (c := (loopB Try.f22 1)) (k := 47) (I := gpK p sb e 1) (J := gpK { p with f1 := 0 } sb e 2) (τ := []) (ex := .normal) (by kernel_rfl)
    (And.intro (show ((true = true ∧ 0 = 0) ∧ (true = true ∧ 0 = 0) ∧ (true = true ∧ 0 = 0) ∧ ((true = true ∧ 117 = 117) ∧ (true = true ∧ 121 = 121) ∧ (true = true ∧ 125 = 125) ∧ (true = true ∧ 129 = 129) ∧ (true = true ∧ 133 = 133) ∧ (true = true ∧ 137 = 137) ∧ True) ∧ (Value.int .i64 (IntKind.i64.wrap (1 + 1))) = (Value.int .i64 2) ∧ True) ∧ ((58 = 58 ∧ flat z141 = flat z141) ∧ (102 = 102 ∧ flat [.c (.string (ofL sb)), .c (.int .i64 e)] = flat [.c (.string (ofL sb)), .c (.int .i64 e)]) ∧ (58 = 58 ∧ flat [.n 6 p.a0.1, .n 6 p.a0.2.1, .c (.bool p.a0.2.2), .n 6 p.a1.1, .n 6 p.a1.2.1, .c (.bool p.a1.2.2), .n 6 p.a2.1, .n 6 p.a2.2.1, .c (.bool p.a2.2.2), .n 6 p.a3.1, .n 6 p.a3.2.1, .c (.bool p.a3.2.2), .n 6 p.a4.1, .n 6 p.a4.2.1, .c (.bool p.a4.2.2), .n 6 p.a5.1, .n 6 p.a5.2.1, .c (.bool p.a5.2.2), .n 6 p.a6.1, .n 6 p.a6.2.1, .c (.bool p.a6.2.2), .n 6 p.a7.1, .n 6 p.a7.2.1, .c (.bool p.a7.2.2), .n 6 p.a8.1, .n 6 p.a8.2.1, .c (.bool p.a8.2.2), .n 4 p.f0, .c (.int .u64 0), .c (.int .u64 0), .c (.int .u64 0), .c (.int .u64 0), .n 4 p.f2, .n 4 p.f3, .n 4 p.f4, .n 4 p.f5] = flat ({ p with f1 := 0 } : PF).ch) ∧ True) from ⟨⟨⟨rfl, rfl⟩, ⟨rfl, rfl⟩, ⟨rfl, rfl⟩, ⟨⟨rfl, rfl⟩, ⟨rfl, rfl⟩, ⟨rfl, rfl⟩, ⟨rfl, rfl⟩, ⟨rfl, rfl⟩, ⟨rfl, rfl⟩, trivial⟩, rfl, trivial⟩, ⟨rfl, rfl⟩, ⟨rfl, rfl⟩, ⟨rfl, by kernel_rfl⟩, trivial⟩)
      (And.intro (show (e != 0) = true from by simpa using h) trivial))
theorem gpb2A (p : PF) (sb : List UInt8) (e : Int) (hl : 32 ≤ sb.length) (h : (gfE (sb.take 32)) = 0) : Sound Try.prog 0 false (loopB Try.f22 1) (gpK p sb 0 2).aa .normal (gpK { p with f2 := (gfV (sb.take 32)) } (sb.drop 32) (gfE (sb.take 32)) 3).aa :=
  roundP_sound (P := Try.prog) (X := rulesY _) (env := [eGet1T, eFGetT]) ⟨eGet1T_ok, eFGetT_ok, trivial⟩ (n := 3) (os := oL [(66, rO 5 0), (80, rO 5 0), (98, wF)]) (fb := 0) (rd := false) (c := (loopB Try.f22 1)) (k := 47) (I := gpK p sb 0 2) (J := gpK { p with f2 := (gfV (sb.take 32)) } (sb.drop 32) (gfE (sb.take 32)) 3) (τ := []) (ex := .normal) (by kernel_rfl)
    (And.intro (show ((true = true ∧ 0 = 0) ∧ (true = true ∧ 0 = 0) ∧ (true = true ∧ 0 = 0) ∧ ((true = true ∧ 117 = 117) ∧ (true = true ∧ 121 = 121) ∧ (true = true ∧ 125 = 125) ∧ (true = true ∧ 129 = 129) ∧ (true = true ∧ 133 = 133) ∧ (true = true ∧ 137 = 137) ∧ True) ∧ (Value.int .i64 (IntKind.i64.wrap (2 + 1))) = (Value.int .i64 3) ∧ True) ∧ ((58 = 58 ∧ flat z141 = flat z141) ∧ (102 = 102 ∧ flat [.c (.string (ofL (sb.drop 32))), .c (.int .i64 (gfE (sb.take 32)))] = flat [.c (.string (ofL (sb.drop 32))), .c (.int .i64 (gfE (sb.take 32)))]) ∧ (58 = 58 ∧ flat [.n 6 p.a0.1, .n 6 p.a0.2.1, .c (.bool p.a0.2.2), .n 6 p.a1.1, .n 6 p.a1.2.1, .c (.bool p.a1.2.2), .n 6 p.a2.1, .n 6 p.a2.2.1, .c (.bool p.a2.2.2), .n 6 p.a3.1, .n 6 p.a3.2.1, .c (.bool p.a3.2.2), .n 6 p.a4.1, .n 6 p.a4.2.1, .c (.bool p.a4.2.2), .n 6 p.a5.1, .n 6 p.a5.2.1, .c (.bool p.a5.2.2), .n 6 p.a6.1, .n 6 p.a6.2.1, .c (.bool p.a6.2.2), .n 6 p.a7.1, .n 6 p.a7.2.1, .c (.bool p.a7.2.2), .n 6 p.a8.1, .n 6 p.a8.2.1, .c (.bool p.a8.2.2), .n 4 p.f0, .n 4 p.f1, .n 4 (gfV (sb.take 32)), .n 4 p.f3, .n 4 p.f4, .n 4 p.f5] = flat ({ p with f2 := (gfV (sb.take 32)) } : PF).ch) ∧ True) from ⟨⟨⟨rfl, rfl⟩, ⟨rfl, rfl⟩, ⟨rfl, rfl⟩, ⟨⟨rfl, rfl⟩, ⟨rfl, rfl⟩, ⟨rfl, rfl⟩, ⟨rfl, rfl⟩, ⟨rfl, rfl⟩, ⟨rfl, rfl⟩, trivial⟩, rfl, trivial⟩, ⟨rfl, rfl⟩, ⟨rfl, rfl⟩, ⟨rfl, rfl⟩, trivial⟩)
      (And.intro (show ((gfE (sb.take 32)) != 0) = false from by rw [h]; rfl)
      (And.intro (show (0 : Int) ≤ 32 ∧ (32 : Int) ≤ (ofL sb).size from ⟨by decide, by show (32 : Int) ≤ (sb.length : Nat); omega⟩)
      (And.intro (show (0 : Int) ≤ 32 ∧ (32 : Int) ≤ (ofL sb).size from ⟨by decide, by show (32 : Int) ≤ (sb.length : Nat); omega⟩) trivial))))
theorem gpb2B (p : PF) (sb : List UInt8) (e : Int) (hl : 32 ≤ sb.length) (h : (gfE (sb.take 32)) ≠ 0) : Sound Try.prog 0 false (loopB Try.f22 1) (gpK p sb 0 2).aa .normal (gpK { p with f2 := (gfV (sb.take 32)) } (sb.drop 32) (gfE (sb.take 32)) 3).aa :=
  roundP_sound (P := Try.prog) (X := rulesY _) (env := [eGet1T, eFGetT]) ⟨eGet1T_ok, eFGetT_ok, trivial⟩ (n := 3) (os := oL [(66, rO 5 0), (80, rO 5 0), (98, wT)]) (fb := 0) (rd := false) (c := (loopB Try.f22 1)) (k := 47) (I := gpK p sb 0 2) (J := gpK { p with f2 := (gfV (sb.take 32)) } (sb.drop 32) (gfE (sb.take 32)) 3) (τ := []) (ex := .normal) (by kernel_rfl)
    (And.intro (show ((true = true ∧ 0 = 0) ∧ (true = true ∧ 0 = 0) ∧ (true = true ∧ 0 = 0) ∧ ((true = true ∧ 117 = 117) ∧ (true = true ∧ 121 = 121) ∧ (true = true ∧ 125 = 125) ∧ (true = true ∧ 129 = 129) ∧ (true = true ∧ 133 = 133) ∧ (true = true ∧ 137 = 137) ∧ True) ∧ (Value.int .i64 (IntKind.i64.wrap (2 + 1))) = (Value.int .i64 3) ∧ True) ∧ ((58 = 58 ∧ flat z141 = flat z141) ∧ (102 = 102 ∧ flat [.c (.string (ofL (sb.drop 32))), .c (.int .i64 (gfE (sb.take 32)))] = flat [.c (.string (ofL (sb.drop 32))), .c (.int .i64 (gfE (sb.take 32)))]) ∧ (58 = 58 ∧ flat [.n 6 p.a0.1, .n 6 p.a0.2.1, .c (.bool p.a0.2.2), .n 6 p.a1.1, .n 6 p.a1.2.1, .c (.bool p.a1.2.2), .n 6 p.a2.1, .n 6 p.a2.2.1, .c (.bool p.a2.2.2), .n 6 p.a3.1, .n 6 p.a3.2.1, .c (.bool p.a3.2.2), .n 6 p.a4.1, .n 6 p.a4.2.1, .c (.bool p.a4.2.2), .n 6 p.a5.1, .n 6 p.a5.2.1, .c (.bool p.a5.2.2), .n 6 p.a6.1, .n 6 p.a6.2.1, .c (.bool p.a6.2.2), .n 6 p.a7.1, .n 6 p.a7.2.1, .c (.bool p.a7.2.2), .n 6 p.a8.1, .n 6 p.a8.2.1, .c (.bool p.a8.2.2), .n 4 p.f0, .n 4 p.f1, .c (.int .u64 0), .c (.int .u64 0), .c (.int .u64 0), .c (.int .u64 0), .n 4 p.f3, .n 4 p.f4, .n 4 p.f5] = flat ({ p with f2 := (gfV (sb.take 32)) } : PF).ch) ∧ True) from ⟨⟨⟨rfl, rfl⟩, ⟨rfl, rfl⟩, ⟨rfl, rfl⟩, ⟨⟨rfl, rfl⟩, ⟨rfl, rfl⟩, ⟨rfl, rfl⟩, ⟨rfl, rfl⟩, ⟨rfl, rfl⟩, ⟨rfl, rfl⟩, trivial⟩, rfl, trivial⟩, ⟨rfl, rfl⟩, ⟨rfl, rfl⟩, ⟨rfl, by rw [gf_none h]; kernel_rfl⟩, trivial⟩)
      (And.intro (show ((gfE (sb.take 32)) != 0) = true from by simpa using h)
      (And.intro (show (0 : Int) ≤ 32 ∧ (32 : Int) ≤ (ofL sb).size from ⟨by decide, by show (32 : Int) ≤ (sb.length : Nat); omega⟩)
      (And.intro (show (0 : Int) ≤ 32 ∧ (32 : Int) ≤ (ofL sb).size from ⟨by decide, by show (32 : Int) ≤ (sb.length : Nat); omega⟩) trivial))))
theorem gpb2C (p : PF) (sb : List UInt8) (e : Int) (h : e ≠ 0) : Sound Try.prog 0 false (loopB Try.f22 1) (gpK p sb e 2).aa .normal (gpK { p with f2 := 0 } sb e 3).aa :=
  roundP_sound (P := Try.prog) (X := rulesY _) (env := [eGet1T, eFGetT]) ⟨eGet1T_ok, eFGetT_ok, trivial⟩ (n := 3) (os := oL [(59, wT)]) (fb := 0) (rd := false) (c := (loopB Try.f22 1)) (k := 47) (I := gpK p sb e 2) (J := gpK { p with f2 := 0 } sb e 3) (τ := []) (ex := .normal) (by kernel_rfl)
    (And.intro (show ((true = true ∧ 0 = 0) ∧ (true = true ∧ 0 = 0) ∧ (true = true ∧ 0 = 0) ∧ ((true = true ∧ 117 = 117) ∧ (true = true ∧ 121 = 121) ∧ (true = true ∧ 125 = 125) ∧ (true = true ∧ 129 = 129) ∧ (true = true ∧ 133 = 133) ∧ (true = true ∧ 137 = 137) ∧ True) ∧ (Value.int .i64 (IntKind.i64.wrap (2 + 1))) = (Value.int .i64 3) ∧ True) ∧ ((58 = 58 ∧ flat z141 = flat z141) ∧ (102 = 102 ∧ flat [.c (.string (ofL sb)), .c (.int .i64 e)] = flat [.c (.string (ofL sb)), .c (.int .i64 e)]) ∧ (58 = 58 ∧ flat [.n 6 p.a0.1, .n 6 p.a0.2.1, .c (.bool p.a0.2.2), .n 6 p.a1.1, .n 6 p.a1.2.1, .c (.bool p.a1.2.2), .n 6 p.a2.1, .n 6 p.a2.2.1, .c (.bool p.a2.2.2), .n 6 p.a3.1, .n 6 p.a3.2.1, .c (.bool p.a3.2.2), .n 6 p.a4.1, .n 6 p.a4.2.1, .c (.bool p.a4.2.2), .n 6 p.a5.1, .n 6 p.a5.2.1, .c (.bool p.a5.2.2), .n 6 p.a6.1, .n 6 p.a6.2.1, .c (.bool p.a6.2.2), .n 6 p.a7.1, .n 6 p.a7.2.1, .c (.bool p.a7.2.2), .n 6 p.a8.1, .n 6 p.a8.2.1, .c (.bool p.a8.2.2), .n 4 p.f0, .n 4 p.f1, .c (.int .u64 0), .c (.int .u64 0), .c (.int .u64 0), .c (.int .u64 0), .n 4 p.f3, .n 4 p.f4, .n 4 p.f5] = flat ({ p with f2 := 0 } : PF).ch) ∧ True) from ⟨⟨⟨rfl, rfl⟩, ⟨rfl, rfl⟩, ⟨rfl, rfl⟩, ⟨⟨rfl, rfl⟩, ⟨rfl, rfl⟩, ⟨rfl, rfl⟩, ⟨rfl, rfl⟩, ⟨rfl, rfl⟩, ⟨rfl, rfl⟩, trivial⟩, rfl, trivial⟩, ⟨rfl, rfl⟩, ⟨rfl, rfl⟩, ⟨rfl, by kernel_rfl⟩, trivial⟩)
      (And.intro (show (e != 0) = true from by simpa using h) trivial))
theorem gpb3A (p : PF) (sb : List UInt8) (e : Int) (hl : 32 ≤ sb.length) (h : (gfE (sb.take 32)) = 0) : Sound Try.prog 0 false (loopB Try.f22 1) (gpK p sb 0 3).aa .normal (gpK { p with f3 := (gfV (sb.take 32)) } (sb.drop 32) (gfE (sb.take 32)) 4).aa :=
  roundP_sound (P := Try.prog) (X := rulesY _) (env := [eGet1T, eFGetT]) ⟨eGet1T_ok, eFGetT_ok, trivial⟩ (n := 3) (os := oL [(66, rO 5 0), (80, rO 5 0), (98, wF)]) (fb := 0) (rd := false) (c := (loopB Try.f22 1)) (k := 47) (I := gpK p sb 0 3) (J := gpK { p with f3 := (gfV (sb.take 32)) } (sb.drop 32) (gfE (sb.take 32)) 4) (τ := []) (ex := .normal) (by kernel_rfl)
    (And.intro (show ((true = true ∧ 0 = 0) ∧ (true = true ∧ 0 = 0) ∧ (true = true ∧ 0 = 0) ∧ ((true = true ∧ 117 = 117) ∧ (true = true ∧ 121 = 121) ∧ (true = true ∧ 125 = 125) ∧ (true = true ∧ 129 = 129) ∧ (true = true ∧ 133 = 133) ∧ (true = true ∧ 137 = 137) ∧ True) ∧ (Value.int .i64 (IntKind.i64.wrap (3 + 1))) = (Value.int .i64 4) ∧ True) ∧ ((58 = 58 ∧ flat z141 = flat z141) ∧ (102 = 102 ∧ flat [.c (.string (ofL (sb.drop 32))), .c (.int .i64 (gfE (sb.take 32)))] = flat [.c (.string (ofL (sb.drop 32))), .c (.int .i64 (gfE (sb.take 32)))]) ∧ (58 = 58 ∧ flat [.n 6 p.a0.1, .n 6 p.a0.2.1, .c (.bool p.a0.2.2), .n 6 p.a1.1, .n 6 p.a1.2.1, .c (.bool p.a1.2.2), .n 6 p.a2.1, .n 6 p.a2.2.1, .c (.bool p.a2.2.2), .n 6 p.a3.1, .n 6 p.a3.2.1, .c (.bool p.a3.2.2), .n 6 p.a4.1, .n 6 p.a4.2.1, .c (.bool p.a4.2.2), .n 6 p.a5.1, .n 6 p.a5.2.1, .c (.bool p.a5.2.2), .n 6 p.a6.1, .n 6 p.a6.2.1, .c (.bool p.a6.2.2), .n 6 p.a7.1, .n 6 p.a7.2.1, .c (.bool p.a7.2.2), .n 6 p.a8.1, .n 6 p.a8.2.1, .c (.bool p.a8.2.2), .n 4 p.f0, .n 4 p.f1, .n 4 p.f2, .n 4 (gfV (sb.take 32)), .n 4 p.f4, .n 4 p.f5] = flat ({ p with f3 := (gfV (sb.take 32)) } : PF).ch) ∧ True) from ⟨⟨⟨rfl, rfl⟩, ⟨rfl, rfl⟩, ⟨rfl, rfl⟩, ⟨⟨rfl, rfl⟩, ⟨rfl, rfl⟩, ⟨rfl, rfl⟩, ⟨rfl, rfl⟩, ⟨rfl, rfl⟩, ⟨rfl, rfl⟩, trivial⟩, rfl, trivial⟩, ⟨rfl, rfl⟩, ⟨rfl, rfl⟩, ⟨rfl, rfl⟩, trivial⟩)
      (And.intro (show ((gfE (sb.take 32)) != 0) = false from by rw [h]; rfl)
      (And.intro (show (0 : Int) ≤ 32 ∧ (32 : Int) ≤ (ofL sb).size from ⟨by decide, by show (32 : Int) ≤ (sb.length : Nat); omega⟩)
      (And.intro (show (0 : Int) ≤ 32 ∧ (32 : Int) ≤ (ofL sb).size from ⟨by decide, by show (32 : Int) ≤ (sb.length : Nat); omega⟩) trivial))))
theorem gpb3B (p : PF) (sb : List UInt8) (e : Int) (hl : 32 ≤ sb.length) (h : (gfE (sb.take 32)) ≠ 0) : Sound Try.prog 0 false (loopB Try.f22 1) (gpK p sb 0 3).aa .normal (gpK { p with f3 := (gfV (sb.take 32)) } (sb.drop 32) (gfE (sb.take 32)) 4).aa :=
  roundP_sound (P := Try.prog) (X := rulesY _) (env := [eGet1T, eFGetT]) ⟨eGet1T_ok, eFGetT_ok, trivial⟩ (n := 3) (os := oL [(66, rO 5 0), (80, rO 5 0), (98, wT)]) (fb := 0) (rd := false) (c := (loopB Try.f22 1)) (k := 47) (I := gpK p sb 0 3) (J := gpK { p with f3 := (gfV (sb.take 32)) } (sb.drop 32) (gfE (sb.take 32)) 4) (τ := []) (ex := .normal) (by kernel_rfl)
    (And.intro (show ((true = true ∧ 0 = 0) ∧ (true = true ∧ 0 = 0) ∧ (true = true ∧ 0 = 0) ∧ ((true = true ∧ 117 = 117) ∧ (true = true ∧ 121 = 121) ∧ (true = true ∧ 125 = 125) ∧ (true = true ∧ 129 = 129) ∧ (true = true ∧ 133 = 133) ∧ (true = true ∧ 137 = 137) ∧ True) ∧ (Value.int .i64 (IntKind.i64.wrap (3 + 1))) = (Value.int .i64 4) ∧ True) ∧ ((58 = 58 ∧ flat z141 = flat z141) ∧ (102 = 102 ∧ flat [.c (.string (ofL (sb.drop 32))), .c (.int .i64 (gfE (sb.take 32)))] = flat [.c (.string (ofL (sb.drop 32))), .c (.int .i64 (gfE (sb.take 32)))]) ∧ (58 = 58 ∧ flat [.n 6 p.a0.1, .n 6 p.a0.2.1, .c (.bool p.a0.2.2), .n 6 p.a1.1, .n 6 p.a1.2.1, .c (.bool p.a1.2.2), .n 6 p.a2.1, .n 6 p.a2.2.1, .c (.bool p.a2.2.2), .n 6 p.a3.1, .n 6 p.a3.2.1, .c (.bool p.a3.2.2), .n 6 p.a4.1, .n 6 p.a4.2.1, .c (.bool p.a4.2.2), .n 6 p.a5.1, .n 6 p.a5.2.1, .c (.bool p.a5.2.2), .n 6 p.a6.1, .n 6 p.a6.2.1, .c (.bool p.a6.2.2), .n 6 p.a7.1, .n 6 p.a7.2.1, .c (.bool p.a7.2.2), .n 6 p.a8.1, .n 6 p.a8.2.1, .c (.bool p.a8.2.2), .n 4 p.f0, .n 4 p.f1, .n 4 p.f2, .c (.int .u64 0), .c (.int .u64 0), .c (.int .u64 0), .c (.int .u64 0), .n 4 p.f4, .n 4 p.f5] = flat ({ p with f3 := (gfV (sb.take 32)) } : PF).ch) ∧ True) from ⟨⟨⟨rfl, rfl⟩, ⟨rfl, rfl⟩, ⟨rfl, rfl⟩, ⟨⟨rfl, rfl⟩, ⟨rfl, rfl⟩, ⟨rfl, rfl⟩, ⟨rfl, rfl⟩, ⟨rfl, rfl⟩, ⟨rfl, rfl⟩, trivial⟩, rfl, trivial⟩, ⟨rfl, rfl⟩, ⟨rfl, rfl⟩, ⟨rfl, by rw [gf_none h]; kernel_rfl⟩, trivial⟩)
      (And.intro (show ((gfE (sb.take 32)) != 0) = true from by simpa using h)
      (And.intro (show (0 : Int) ≤ 32 ∧ (32 : Int) ≤ (ofL sb).size from ⟨by decide, by show (32 : Int) ≤ (sb.length : Nat); omega⟩)
      (And.intro (show (0 : Int) ≤ 32 ∧ (32 : Int) ≤ (ofL sb).size from ⟨by decide, by show (32 : Int) ≤ (sb.length : Nat); omega⟩) trivial))))
theorem gpb3C (p : PF) (sb : List UInt8) (e : Int) (h : e ≠ 0) : Sound Try.prog 0 false (loopB Try.f22 1) (gpK p sb e 3).aa .normal (gpK { p with f3 := 0 } sb e 4).aa :=
  roundP_sound (P := Try.prog) (X := rulesY _) (env := [eGet1T, eFGetT]) ⟨eGet1T_ok, eFGetT_ok, trivial⟩ (n := 3) (os := oL [(59, wT)]) (fb := 0) (rd := false) (c := (loopB Try.f22 1)) (k := 47) (I := gpK p sb e 3) (J := gpK { p with f3 := 0 } sb e 4) (τ := []) (ex := .normal) (by kernel_rfl)
    (And.intro (show ((true = true ∧ 0 = 0) ∧ (true = true ∧ 0 = 0) ∧ (true = true ∧ 0 = 0) ∧ ((true = true ∧ 117 = 117) ∧ (true = true ∧ 121 = 121) ∧ (true = true ∧ 125 = 125) ∧ (true = true ∧ 129 = 129) ∧ (true = true ∧ 133 = 133) ∧ (true = true ∧ 137 = 137) ∧ True) ∧ (Value.int .i64 (IntKind.i64.wrap (3 + 1))) = (Value.int .i64 4) ∧ True) ∧ ((58 = 58 ∧ flat z141 = flat z141) ∧ (102 = 102 ∧ flat [.c (.string (ofL sb)), .c (.int .i64 e)] = flat [.c (.string (ofL sb)), .c (.int .i64 e)]) ∧ (58 = 58 ∧ flat [.n 6 p.a0.1, .n 6 p.a0.2.1, .c (.bool p.a0.2.2), .n 6 p.a1.1, .n 6 p.a1.2.1, .c (.bool p.a1.2.2), .n 6 p.a2.1, .n 6 p.a2.2.1, .c (.bool p.a2.2.2), .n 6 p.a3.1, .n 6 p.a3.2.1, .c (.bool p.a3.2.2), .n 6 p.a4.1, .n 6 p.a4.2.1, .c (.bool p.a4.2.2), .n 6 p.a5.1, .n 6 p.a5.2.1, .c (.bool p.a5.2.2), .n 6 p.a6.1, .n 6 p.a6.2.1, .c (.bool p.a6.2.2), .n 6 p.a7.1, .n 6 p.a7.2.1, .c (.bool p.a7.2.2), .n 6 p.a8.1, .n 6 p.a8.2.1, .c (.bool p.a8.2.2), .n 4 p.f0, .n 4 p.f1, .n 4 p.f2, .c (.int .u64 0), .c (.int .u64 0), .c (.int .u64 0), .c (.int .u64 0), .n 4 p.f4, .n 4 p.f5] = flat ({ p with f3 := 0 } : PF).ch) ∧ True) from ⟨⟨⟨rfl, rfl⟩, ⟨rfl, rfl⟩, ⟨rfl, rfl⟩, ⟨⟨rfl, rfl⟩, ⟨rfl, rfl⟩, ⟨rfl, rfl⟩, ⟨rfl, rfl⟩, ⟨rfl, rfl⟩, ⟨rfl, rfl⟩, trivial⟩, rfl, trivial⟩, ⟨rfl, rfl⟩, ⟨rfl, rfl⟩, ⟨rfl, by kernel_rfl⟩, trivial⟩)
      (And.intro (show (e != 0) = true from by simpa using h) trivial))
theorem gpb4A (p : PF) (sb : List UInt8) (e : Int) (hl : 32 ≤ sb.length) (h : (gfE (sb.take 32)) = 0) : Sound Try.prog 0 false (loopB Try.f22 1) (gpK p sb 0 4).aa .normal (gpK { p with f4 := (gfV (sb.take 32)) } (sb.drop 32) (gfE (sb.take 32)) 5).aa :=
  roundP_sound (P := Try.prog) (X := rulesY _) (env := [eGet1T, eFGetT]) ⟨eGet1T_ok, eFGetT_ok, trivial⟩ (n := 3) (os := oL [(66, rO 5 0), (80, rO 5 0), (98, wF)]) (fb := 0) (rd := false) (c := (loopB Try.f22 1)) (k := 47) (I := gpK p sb 0 4) (J := gpK { p with f4 := (gfV (sb.take 32)) } (sb.drop 32) (gfE (sb.take 32)) 5) (τ := []) (ex := .normal) (by kernel_rfl)
    (And.intro (show ((true = true ∧ 0 = 0) ∧ (true = true ∧ 0 = 0) ∧ (true = true ∧ 0 = 0) ∧ ((true = true ∧ 117 = 117) ∧ (true = true ∧ 121 = 121) ∧ (true = true ∧ 125 = 125) ∧ (true = true ∧ 129 = 129) ∧ (true = true ∧ 133 = 133) ∧ (true = true ∧ 137 = 137) ∧ True) ∧ (Value.int .i64 (IntKind.i64.wrap (4 + 1))) = (Value.int .i64 5) ∧ True) ∧ ((58 = 58 ∧ flat z141 = flat z141) ∧ (102 = 102 ∧ flat [.c (.string (ofL (sb.drop 32))), .c (.int .i64 (gfE (sb.take 32)))] = flat [.c (.string (ofL (sb.drop 32))), .c (.int .i64 (gfE (sb.take 32)))]) ∧ (58 = 58 ∧ flat [.n 6 p.a0.1, .n 6 p.a0.2.1, .c (.bool p.a0.2.2), .n 6 p.a1.1, .n 6 p.a1.2.1, .c (.bool p.a1.2.2), .n 6 p.a2.1, .n 6 p.a2.2.1, .c (.bool p.a2.2.2), .n 6 p.a3.1, .n 6 p.a3.2.1, .c (.bool p.a3.2.2), .n 6 p.a4.1, .n 6 p.a4.2.1, .c (.bool p.a4.2.2), .n 6 p.a5.1, .n 6 p.a5.2.1, .c (.bool p.a5.2.2), .n 6 p.a6.1, .n 6 p.a6.2.1, .c (.bool p.a6.2.2), .n 6 p.a7.1, .n 6 p.a7.2.1, .c (.bool p.a7.2.2), .n 6 p.a8.1, .n 6 p.a8.2.1, .c (.bool p.a8.2.2), .n 4 p.f0, .n 4 p.f1, .n 4 p.f2, .n 4 p.f3, .n 4 (gfV (sb.take 32)), .n 4 p.f5] = flat ({ p with f4 := (gfV (sb.take 32)) } : PF).ch) ∧ True) from ⟨⟨⟨rfl, rfl⟩, ⟨rfl, rfl⟩, ⟨rfl, rfl⟩, ⟨⟨rfl, rfl⟩, ⟨rfl, rfl⟩, ⟨rfl, rfl⟩, ⟨rfl, rfl⟩, ⟨rfl, rfl⟩, ⟨rfl, rfl⟩, trivial⟩, rfl, trivial⟩, ⟨rfl, rfl⟩, ⟨rfl, rfl⟩, ⟨rfl, rfl⟩, trivial⟩)
      (And.intro (show ((gfE (sb.take 32)) != 0) = false from by rw [h]; rfl)
      (And.intro (show (0 : Int) ≤ 32 ∧ (32 : Int) ≤ (ofL sb).size from ⟨by decide, by show (32 : Int) ≤ (sb.length : Nat); omega⟩)
      (And.intro (show (0 : Int) ≤ 32 ∧ (32 : Int) ≤ (ofL sb).size from ⟨by decide, by show (32 : Int) ≤ (sb.length : Nat); omega⟩) trivial))))
theorem gpb4B (p : PF) (sb : List UInt8) (e : Int) (hl : 32 ≤ sb.length) (h : (gfE (sb.take 32)) ≠ 0) : Sound Try.prog 0 false (loopB Try.f22 1) (gpK p sb 0 4).aa .normal (gpK { p with f4 := (gfV (sb.take 32)) } (sb.drop 32) (gfE (sb.take 32)) 5).aa :=
  roundP_sound (P := Try.prog) (X := rulesY _) (env := [eGet1T, eFGetT]) ⟨eGet1T_ok, eFGetT_ok, trivial⟩ (n := 3) (os := oL [(66, rO 5 0), (80, rO 5 0), (98, wT)]) (fb := 0) (rd := false) (c := (loopB Try.f22 1)) (k := 47) (I := gpK p sb 0 4) (J := gpK { p with f4 := (gfV (sb.take 32)) } (sb.drop 32) (gfE (sb.take 32)) 5) (τ := []) (ex := .normal) (by kernel_rfl)
    (And.intro (show ((true = true ∧ 0 = 0) ∧ (true = true ∧ 0 = 0) ∧ (true = true ∧ 0 = 0) ∧ ((true = true ∧ 117 = 117) ∧ (true = true ∧ 121 = 121) ∧ (true = true ∧ 125 = 125) ∧ (true = true ∧ 129 = 129) ∧ (true = true ∧ 133 = 133) ∧ (true = true ∧ 137 = 137) ∧ True) ∧ (Value.int .i64 (IntKind.i64.wrap (4 + 1))) = (Value.int .i64 5) ∧ True) ∧ ((58 = 58 ∧ flat z141 = flat z141) ∧ (102 = 102 ∧ flat [.c (.string (ofL (sb.drop 32))), .c (.int .i64 (gfE (sb.take 32)))] = flat [.c (.string (ofL (sb.drop 32))), .c (.int .i64 (gfE (sb.take 32)))]) ∧ (58 = 58 ∧ flat [.n 6 p.a0.1, .n 6 p.a0.2.1, .c (.bool p.a0.2.2), .n 6 p.a1.1, .n 6 p.a1.2.1, .c (.bool p.a1.2.2), .n 6 p.a2.1, .n 6 p.a2.2.1, .c (.bool p.a2.2.2), .n 6 p.a3.1, .n 6 p.a3.2.1, .c (.bool p.a3.2.2), .n 6 p.a4.1, .n 6 p.a4.2.1, .c (.bool p.a4.2.2), .n 6 p.a5.1, .n 6 p.a5.2.1, .c (.bool p.a5.2.2), .n 6 p.a6.1, .n 6 p.a6.2.1, .c (.bool p.a6.2.2), .n 6 p.a7.1, .n 6 p.a7.2.1, .c (.bool p.a7.2.2), .n 6 p.a8.1, .n 6 p.a8.2.1, .c (.bool p.a8.2.2), .n 4 p.f0, .n 4 p.f1, .n 4 p.f2, .n 4 p.f3, .c (.int .u64 0), .c (.int .u64 0), .c (.int .u64 0), .c (.int .u64 0), .n 4 p.f5] = flat ({ p with f4 := (gfV (sb.take 32)) } : PF).ch) ∧ True) from ⟨⟨⟨rfl, rfl⟩, ⟨rfl, rfl⟩, ⟨rfl, rfl⟩, ⟨⟨rfl, rfl⟩, ⟨rfl, rfl⟩, ⟨rfl, rfl⟩, ⟨rfl, rfl⟩, ⟨rfl, rfl⟩, ⟨rfl, rfl⟩, trivial⟩, rfl, trivial⟩, ⟨rfl, rfl⟩, ⟨rfl, rfl⟩, ⟨rfl, by rw [gf_none h]; kernel_rfl⟩, trivial⟩)
      (And.intro (show ((gfE (sb.take 32)) != 0) = true from by simpa using h)
      (And.intro (show (0 : Int) ≤ 32 ∧ (32 : Int) ≤ (ofL sb).size from ⟨by decide, by show (32 : Int) ≤ (sb.length : Nat); omega⟩)
      (And.intro (show (0 : Int) ≤ 32 ∧ (32 : Int) ≤ (ofL sb).size from ⟨by decide, by show (32 : Int) ≤ (sb.length : Nat); omega⟩) trivial))))
theorem gpb4C (p : PF) (sb : List UInt8) (e : Int) (h : e ≠ 0) : Sound Try.prog 0 false (loopB Try.f22 1) (gpK p sb e 4).aa .normal (gpK { p with f4 := 0 } sb e 5).aa :=
  roundP_sound (P := Try.prog) (X := rulesY _) (env := [eGet1T, eFGetT]) ⟨eGet1T_ok, eFGetT_ok, trivial⟩ (n := 3) (os := oL [(59, wT)]) (fb := 0) (rd := false) (c := (loopB Try.f22 1)) (k := 47) (I := gpK p sb e 4) (J := gpK { p with f4 := 0 } sb e 5) (τ := []) (ex := .normal) (by kernel_rfl)
    (And.intro (show ((true = true ∧ 0 = 0) ∧ (true = true ∧ 0 = 0) ∧ (true = true ∧ 0 = 0) ∧ ((true = true ∧ 117 = 117) ∧ (true = true ∧ 121 = 121) ∧ (true = true ∧ 125 = 125) ∧ (true = true ∧ 129 = 129) ∧ (true = true ∧ 133 = 133) ∧ (true = true ∧ 137 = 137) ∧ True) ∧ (Value.int .i64 (IntKind.i64.wrap (4 + 1))) = (Value.int .i64 5) ∧ True) ∧ ((58 = 58 ∧ flat z141 = flat z141) ∧ (102 = 102 ∧ flat [.c (.string (ofL sb)), .c (.int .i64 e)] = flat [.c (.string (ofL sb)), .c (.int .i64 e)]) ∧ (58 = 58 ∧ flat [.n 6 p.a0.1, .n 6 p.a0.2.1, .c (.bool p.a0.2.2), .n 6 p.a1.1, .n 6 p.a1.2.1, .c (.bool p.a1.2.2), .n 6 p.a2.1, .n 6 p.a2.2.1, .c (.bool p.a2.2.2), .n 6 p.a3.1, .n 6 p.a3.2.1, .c (.bool p.a3.2.2), .n 6 p.a4.1, .n 6 p.a4.2.1, .c (.bool p.a4.2.2), .n 6 p.a5.1, .n 6 p.a5.2.1, .c (.bool p.a5.2.2), .n 6 p.a6.1, .n 6 p.a6.2.1, .c (.bool p.a6.2.2), .n 6 p.a7.1, .n 6 p.a7.2.1, .c (.bool p.a7.2.2), .n 6 p.a8.1, .n 6 p.a8.2.1, .c (.bool p.a8.2.2), .n 4 p.f0, .n 4 p.f1, .n 4 p.f2, .n 4 p.f3, .c (.int .u64 0), .c (.int .u64 0), .c (.int .u64 0), .c (.int .u64 0), .n 4 p.f5] = flat ({ p with f4 := 0 } : PF).ch) ∧ True) from ⟨⟨⟨rfl, rfl⟩, ⟨rfl, rfl⟩, ⟨rfl, rfl⟩, ⟨⟨rfl, rfl⟩, ⟨rfl, rfl⟩, ⟨rfl, rfl⟩, ⟨rfl, rfl⟩, ⟨rfl, rfl⟩, ⟨rfl, rfl⟩, trivial⟩, rfl, trivial⟩, ⟨rfl, rfl⟩, ⟨rfl, rfl⟩, ⟨rfl, by kernel_rfl⟩, trivial⟩)
      (And.intro (show (e != 0) = true from by simpa using h) trivial))
theorem gpb5A (p : PF) (sb : List UInt8) (e : Int) (hl : 32 ≤ sb.length) (h : (gfE (sb.take 32)) = 0) : Sound Try.prog 0 false (loopB Try.f22 1) (gpK p sb 0 5).aa .normal (gpK { p with f5 := (gfV (sb.take 32)) } (sb.drop 32) (gfE (sb.take 32)) 6).aa :=
  roundP_sound (P := Try.prog) (X := rulesY _) (env := [eGet1T, eFGetT]) ⟨eGet1T_ok, eFGetT_ok, trivial⟩ (n := 3) (os := oL [(66, rO 5 0), (80, rO 5 0), (98, wF)]) (fb := 0) (rd := false) (c := (loopB Try.f22 1)) (k := 47) (I := gpK p sb 0 5) (J := gpK { p with f5 := (gfV (sb.take 32)) } (sb.drop 32) (gfE (sb.take 32)) 6) (τ := []) (ex := .normal) (by kernel_rfl)
    (And.intro (show ((true = true ∧ 0 = 0) ∧ (true = true ∧ 0 = 0) ∧ (true = true ∧ 0 = 0) ∧ ((true = true ∧ 117 = 117) ∧ (true = true ∧ 121 = 121) ∧ (true = true ∧ 125 = 125) ∧ (true = true ∧ 129 = 129) ∧ (true = true ∧ 133 = 133) ∧ (true = true ∧ 137 = 137) ∧ True) ∧ (Value.int .i64 (IntKind.i64.wrap (5 + 1))) = (Value.int .i64 6) ∧ True) ∧ ((58 = 58 ∧ flat z141 = flat z141) ∧ (102 = 102 ∧ flat [.c (.string (ofL (sb.drop 32))), .c (.int .i64 (gfE (sb.take 32)))] = flat [.c (.string (ofL (sb.drop 32))), .c (.int .i64 (gfE (sb.take 32)))]) ∧ (58 = 58 ∧ flat [.n 6 p.a0.1, .n 6 p.a0.2.1, .c (.bool p.a0.2.2), .n 6 p.a1.1, .n 6 p.a1.2.1, .c (.bool p.a1.2.2), .n 6 p.a2.1, .n 6 p.a2.2.1, .c (.bool p.a2.2.2), .n 6 p.a3.1, .n 6 p.a3.2.1, .c (.bool p.a3.2.2), .n 6 p.a4.1, .n 6 p.a4.2.1, .c (.bool p.a4.2.2), .n 6 p.a5.1, .n 6 p.a5.2.1, .c (.bool p.a5.2.2), .n 6 p.a6.1, .n 6 p.a6.2.1, .c (.bool p.a6.2.2), .n 6 p.a7.1, .n 6 p.a7.2.1, .c (.bool p.a7.2.2), .n 6 p.a8.1, .n 6 p.a8.2.1, .c (.bool p.a8.2.2), .n 4 p.f0, .n 4 p.f1, .n 4 p.f2, .n 4 p.f3, .n 4 p.f4, .n 4 (gfV (sb.take 32))] = flat ({ p with f5 := (gfV (sb.take 32)) } : PF).ch) ∧ True) from ⟨⟨⟨rfl, rfl⟩, ⟨rfl, rfl⟩, ⟨rfl, rfl⟩, ⟨⟨rfl, rfl⟩, ⟨rfl, rfl⟩, ⟨rfl, rfl⟩, ⟨rfl, rfl⟩, ⟨rfl, rfl⟩, ⟨rfl, rfl⟩, trivial⟩, rfl, trivial⟩, ⟨rfl, rfl⟩, ⟨rfl, rfl⟩, ⟨rfl, rfl⟩, trivial⟩)
      (And.intro (show ((gfE (sb.take 32)) != 0) = false from by rw [h]; rfl)
      (And.intro (show (0 : Int) ≤ 32 ∧ (32 : Int) ≤ (ofL sb).size from ⟨by decide, by show (32 : Int) ≤ (sb.length : Nat); omega⟩)
      (And.intro (show (0 : Int) ≤ 32 ∧ (32 : Int) ≤ (ofL sb).size from ⟨by decide, by show (32 : Int) ≤ (sb.length : Nat); omega⟩) trivial))))
theorem gpb5B (p : PF) (sb : List UInt8) (e : Int) (hl : 32 ≤ sb.length) (h : (gfE (sb.take 32)) ≠ 0) : Sound Try.prog 0 false (loopB Try.f22 1) (gpK p sb 0 5).aa .normal (gpK { p with f5 := (gfV (sb.take 32)) } (sb.drop 32) (gfE (sb.take 32)) 6).aa :=
  roundP_sound (P := Try.prog) (X := rulesY _) (env := [eGet1T, eFGetT]) ⟨eGet1T_ok, eFGetT_ok, trivial⟩ (n := 3) (os := oL [(66, rO 5 0), (80, rO 5 0), (98, wT)]) (fb := 0) (rd := false) (c := (loopB Try.f22 1)) (k := 47) (I := gpK p sb 0 5) (J := gpK { p with f5 := (gfV (sb.take 32)) } (sb.drop 32) (gfE (sb.take 32)) 6) (τ := []) (ex := .normal) (by kernel_rfl)
    (And.intro (show ((true = true ∧ 0 = 0) ∧ (true = true ∧ 0 = 0) ∧ (true = true ∧ 0 = 0) ∧ ((true = true ∧ 117 = 117) ∧ (true = true ∧ 121 = 121) ∧ (true = true ∧ 125 = 125) ∧ (true = true ∧ 129 = 129) ∧ (true = true ∧ 133 = 133) ∧ (true = true ∧ 137 = 137) ∧ True) ∧ (Value.int .i64 (IntKind.i64.wrap (5 + 1))) = (Value.int .i64 6) ∧ True) ∧ ((58 = 58 ∧ flat z141 = flat z141) ∧ (102 = 102 ∧ flat [.c (.string (ofL (sb.drop 32))), .c (.int .i64 (gfE (sb.take 32)))] = flat [.c (.string (ofL (sb.drop 32))), .c (.int .i64 (gfE (sb.take 32)))]) ∧ (58 = 58 ∧ flat [.n 6 p.a0.1, .n 6 p.a0.2.1, .c (.bool p.a0.2.2), .n 6 p.a1.1, .n 6 p.a1.2.1, .c (.bool p.a1.2.2), .n 6 p.a2.1, .n 6 p.a2.2.1, .c (.bool p.a2.2.2), .n 6 p.a3.1, .n 6 p.a3.2.1, .c (.bool p.a3.2.2), .n 6 p.a4.1, .n 6 p.a4.2.1, .c (.bool p.a4.2.2), .n 6 p.a5.1, .n 6 p.a5.2.1, .c (.bool p.a5.2.2), .n 6 p.a6.1, .n 6 p.a6.2.1, .c (.bool p.a6.2.2), .n 6 p.a7.1, .n 6 p.a7.2.1, .c (.bool p.a7.2.2), .n 6 p.a8.1, .n 6 p.a8.2.1, .c (.bool p.a8.2.2), .n 4 p.f0, .n 4 p.f1, .n 4 p.f2, .n 4 p.f3, .n 4 p.f4, .c (.int .u64 0), .c (.int .u64 0), .c (.int .u64 0), .c (.int .u64 0)] = flat ({ p with f5 := (gfV (sb.take 32)) } : PF).ch) ∧ True) from ⟨⟨⟨rfl, rfl⟩, ⟨rfl, rfl⟩, ⟨rfl, rfl⟩, ⟨⟨rfl, rfl⟩, ⟨rfl, rfl⟩, ⟨rfl, rfl⟩, ⟨rfl, rfl⟩, ⟨rfl, rfl⟩, ⟨rfl, rfl⟩, trivial⟩, rfl, trivial⟩, ⟨rfl, rfl⟩, ⟨rfl, rfl⟩, ⟨rfl, by rw [gf_none h]; kernel_rfl⟩, trivial⟩)
      (And.intro (show ((gfE (sb.take 32)) != 0) = true from by simpa using h)
      (And.intro (show (0 : Int) ≤ 32 ∧ (32 : Int) ≤ (ofL sb).size from ⟨by decide, by show (32 : Int) ≤ (sb.length : Nat); omega⟩)
      (And.intro (show (0 : Int) ≤ 32 ∧ (32 : Int) ≤ (ofL sb).size from ⟨by decide, by show (32 : Int) ≤ (sb.length : Nat); omega⟩) trivial))))
theorem gpb5C (p : PF) (sb : List UInt8) (e : Int) (h : e ≠ 0) : Sound Try.prog 0 false (loopB Try.f22 1) (gpK p sb e 5).aa .normal (gpK { p with f5 := 0 } sb e 6).aa :=
  roundP_sound (P := Try.prog) (X := rulesY _) (env := [eGet1T, eFGetT]) ⟨eGet1T_ok, eFGetT_ok, trivial⟩ (n := 3) (os := oL [(59, wT)]) (fb := 0) (rd := false) (c := (loopB Try.f22 1)) (k := 47) (I := gpK p sb e 5) (J := gpK { p with f5 := 0 } sb e 6) (τ := []) (ex := .normal) (by kernel_rfl)
    (And.intro (show ((true = true ∧ 0 = 0) ∧ (true = true ∧ 0 = 0) ∧ (true = true ∧ 0 = 0) ∧ ((true = true ∧ 117 = 117) ∧ (true = true ∧ 121 = 121) ∧ (true = true ∧ 125 = 125) ∧ (true = true ∧ 129 = 129) ∧ (true = true ∧ 133 = 133) ∧ (true = true ∧ 137 = 137) ∧ True) ∧ (Value.int .i64 (IntKind.i64.wrap (5 + 1))) = (Value.int .i64 6) ∧ True) ∧ ((58 = 58 ∧ flat z141 = flat z141) ∧ (102 = 102 ∧ flat [.c (.string (ofL sb)), .c (.int .i64 e)] = flat [.c (.string (ofL sb)), .c (.int .i64 e)]) ∧ (58 = 58 ∧ flat [.n 6 p.a0.1, .n 6 p.a0.2.1, .c (.bool p.a0.2.2), .n 6 p.a1.1, .n 6 p.a1.2.1, .c (.bool p.a1.2.2), .n 6 p.a2.1, .n 6 p.a2.2.1, .c (.bool p.a2.2.2), .n 6 p.a3.1, .n 6 p.a3.2.1, .c (.bool p.a3.2.2), .n 6 p.a4.1, .n 6 p.a4.2.1, .c (.bool p.a4.2.2), .n 6 p.a5.1, .n 6 p.a5.2.1, .c (.bool p.a5.2.2), .n 6 p.a6.1, .n 6 p.a6.2.1, .c (.bool p.a6.2.2), .n 6 p.a7.1, .n 6 p.a7.2.1, .c (.bool p.a7.2.2), .n 6 p.a8.1, .n 6 p.a8.2.1, .c (.bool p.a8.2.2), .n 4 p.f0, .n 4 p.f1, .n 4 p.f2, .n 4 p.f3, .n 4 p.f4, .c (.int .u64 0), .c (.int .u64 0), .c (.int .u64 0), .c (.int .u64 0)] = flat ({ p with f5 := 0 } : PF).ch) ∧ True) from ⟨⟨⟨rfl, rfl⟩, ⟨rfl, rfl⟩, ⟨rfl, rfl⟩, ⟨⟨rfl, rfl⟩, ⟨rfl, rfl⟩, ⟨rfl, rfl⟩, ⟨rfl, rfl⟩, ⟨rfl, rfl⟩, ⟨rfl, rfl⟩, trivial⟩, rfl, trivial⟩, ⟨rfl, rfl⟩, ⟨rfl, rfl⟩, ⟨rfl, by kernel_rfl⟩, trivial⟩)
      (And.intro (show (e != 0) = true from by simpa using h) trivial))
end Go.Proofs.Ytmbllhibdbeplaa

/- Contract of format.GetProof. -/
set_option linter.unusedSimpArgs false
set_option linter.unusedVariables false
namespace Go.Proofs.Ytmbllhibdbeplaa
open Go.Ev Go.RowKit
theorem gpa0 (p : PF) (st : Int × List UInt8) (hl : st.1 = 0 → 48 ≤ st.2.length) : Sound Try.prog 0 false (loopB Try.f22 0) (gpI p st.2 st.1 0).aa .normal (gpI { p with a0 := rvl 48 g1V p1z st } (rst 48 g1E st).2 (rst 48 g1E st).1 1).aa := by
  obtain ⟨e, sb⟩ := st
  by_cases h : e = 0
  · subst h
    by_cases h1 : g1E (sb.take 48) = 0
    · exact gpa0A p sb 0 (hl rfl) h1
    · exact gpa0B p sb 0 (hl rfl) h1
  · rw [show rst 48 g1E (e, sb) = (e, sb) from if_neg h, show rvl 48 g1V p1z (e, sb) = p1z from if_neg h]
    exact gpa0C p sb e h
theorem gpa1 (p : PF) (st : Int × List UInt8) (hl : st.1 = 0 → 48 ≤ st.2.length) : Sound Try.prog 0 false (loopB Try.f22 0) (gpI p st.2 st.1 1).aa .normal (gpI { p with a1 := rvl 48 g1V p1z st } (rst 48 g1E st).2 (rst 48 g1E st).1 2).aa := by
  obtain ⟨e, sb⟩ := st
  by_cases h : e = 0
  · subst h
    by_cases h1 : g1E (sb.take 48) = 0
    · exact gpa1A p sb 0 (hl rfl) h1
    · exact gpa1B p sb 0 (hl rfl) h1
  · rw [show rst 48 g1E (e, sb) = (e, sb) from if_neg h, show rvl 48 g1V p1z (e, sb) = p1z from if_neg h]
    exact gpa1C p sb e h
theorem gpa2 (p : PF) (st : Int × List UInt8) (hl : st.1 = 0 → 48 ≤ st.2.length) : Sound Try.prog 0 false (loopB Try.f22 0) (gpI p st.2 st.1 2).aa .normal (gpI { p with a2 := rvl 48 g1V p1z st } (rst 48 g1E st).2 (rst 48 g1E st).1 3).aa := by
  obtain ⟨e, sb⟩ := st
  by_cases h : e = 0
  · subst h
    by_cases h1 : g1E (sb.take 48) = 0
    · exact gpa2A p sb 0 (hl rfl) h1
    · exact gpa2B p sb 0 (hl rfl) h1
  · rw [show rst 48 g1E (e, sb) = (e, sb) from if_neg h, show rvl 48 g1V p1z (e, sb) = p1z from if_neg h]
    exact gpa2C p sb e h
theorem gpa3 (p : PF) (st : Int × List UInt8) (hl : st.1 = 0 → 48 ≤ st.2.length) : Sound Try.prog 0 false (loopB Try.f22 0) (gpI p st.2 st.1 3).aa .normal (gpI { p with a3 := rvl 48 g1V p1z st } (rst 48 g1E st).2 (rst 48 g1E st).1 4).aa := by
  obtain ⟨e, sb⟩ := st
  by_cases h : e = 0
  · subst h
    by_cases h1 : g1E (sb.take 48) = 0
    · exact gpa3A p sb 0 (hl rfl) h1
    · exact gpa3B p sb 0 (hl rfl) h1
  · rw [show rst 48 g1E (e, sb) = (e, sb) from if_neg h, show rvl 48 g1V p1z (e, sb) = p1z from if_neg h]
    exact gpa3C p sb e h
theorem gpa4 (p : PF) (st : Int × List UInt8) (hl : st.1 = 0 → 48 ≤ st.2.length) : Sound Try.prog 0 false (loopB Try.f22 0) (gpI p st.2 st.1 4).aa .normal (gpI { p with a4 := rvl 48 g1V p1z st } (rst 48 g1E st).2 (rst 48 g1E st).1 5).aa := by
  obtain ⟨e, sb⟩ := st
  by_cases h : e = 0
  · subst h
    by_cases h1 : g1E (sb.take 48) = 0
    · exact gpa4A p sb 0 (hl rfl) h1
    · exact gpa4B p sb 0 (hl rfl) h1
  · rw [show rst 48 g1E (e, sb) = (e, sb) from if_neg h, show rvl 48 g1V p1z (e, sb) = p1z from if_neg h]
    exact gpa4C p sb e h
theorem gpa5 (p : PF) (st : Int × List UInt8) (hl : st.1 = 0 → 48 ≤ st.2.length) : Sound Try.prog 0 false (loopB Try.f22 0) (gpI p st.2 st.1 5).aa .normal (gpI { p with a5 := rvl 48 g1V p1z st } (rst 48 g1E st).2 (rst 48 g1E st).1 6).aa := by
  obtain ⟨e, sb⟩ := st
  by_cases h : e = 0
  · subst h
    by_cases h1 : g1E (sb.take 48) = 0
    · exact gpa5A p sb 0 (hl rfl) h1
    · exact gpa5B p sb 0 (hl rfl) h1
  · rw [show rst 48 g1E (e, sb) = (e, sb) from if_neg h, show rvl 48 g1V p1z (e, sb) = p1z from if_neg h]
    exact gpa5C p sb e h
theorem gpa6 (p : PF) (st : Int × List UInt8) (hl : st.1 = 0 → 48 ≤ st.2.length) : Sound Try.prog 0 false (loopB Try.f22 0) (gpI p st.2 st.1 6).aa .normal (gpI { p with a6 := rvl 48 g1V p1z st } (rst 48 g1E st).2 (rst 48 g1E st).1 7).aa := by
  obtain ⟨e, sb⟩ := st
  by_cases h : e = 0
  · subst h
    by_cases h1 : g1E (sb.take 48) = 0
    · exact gpa6A p sb 0 (hl rfl) h1
    · exact gpa6B p sb 0 (hl rfl) h1
  · rw [show rst 48 g1E (e, sb) = (e, sb) from if_neg h, show rvl 48 g1V p1z (e, sb) = p1z from if_neg h]
    exact gpa6C p sb e h
theorem gpa7 (p : PF) (st : Int × List UInt8) (hl : st.1 = 0 → 48 ≤ st.2.length) : Sound Try.prog 0 false (loopB Try.f22 0) (gpI p st.2 st.1 7).aa .normal (gpI { p with a7 := rvl 48 g1V p1z st } (rst 48 g1E st).2 (rst 48 g1E st).1 8).aa := by
  obtain ⟨e, sb⟩ := st
  by_cases h : e = 0
  · subst h
    by_cases h1 : g1E (sb.take 48) = 0
    · exact gpa7A p sb 0 (hl rfl) h1
    · exact gpa7B p sb 0 (hl rfl) h1
  · rw [show rst 48 g1E (e, sb) = (e, sb) from if_neg h, show rvl 48 g1V p1z (e, sb) = p1z from if_neg h]
    exact gpa7C p sb e h
theorem gpa8 (p : PF) (st : Int × List UInt8) (hl : st.1 = 0 → 48 ≤ st.2.length) : Sound Try.prog 0 false (loopB Try.f22 0) (gpI p st.2 st.1 8).aa .normal (gpI { p with a8 := rvl 48 g1V p1z st } (rst 48 g1E st).2 (rst 48 g1E st).1 9).aa := by
  obtain ⟨e, sb⟩ := st
  by_cases h : e = 0
  · subst h
    by_cases h1 : g1E (sb.take 48) = 0
    · exact gpa8A p sb 0 (hl rfl) h1
    · exact gpa8B p sb 0 (hl rfl) h1
  · rw [show rst 48 g1E (e, sb) = (e, sb) from if_neg h, show rvl 48 g1V p1z (e, sb) = p1z from if_neg h]
    exact gpa8C p sb e h
def ppA (V : Nat → A1) (i : Nat) : PF := ⟨if 0 < i then V 0 else p1z, if 1 < i then V 1 else p1z, if 2 < i then V 2 else p1z, if 3 < i then V 3 else p1z, if 4 < i then V 4 else p1z, if 5 < i then V 5 else p1z, if 6 < i then V 6 else p1z, if 7 < i then V 7 else p1z, if 8 < i then V 8 else p1z, 0, 0, 0, 0, 0, 0⟩
theorem gpa_len (st : Int × List UInt8) (h0 : st.1 = 0 → 624 ≤ st.2.length) (i : Nat) (hi : i < 9) : (nst 48 g1E i st).1 = 0 → 48 ≤ (nst 48 g1E i st).2.length := by
  intro h
  obtain ⟨e, sb⟩ := st
  obtain ⟨h1, h2, _⟩ := nst_zero i (e, sb) h
  have h1 : e = 0 := h1
  subst h1
  have h4 : 624 ≤ sb.length := h0 rfl
  rw [h2]
  show 48 ≤ (sb.drop (48 * i)).length
  rw [List.length_drop]
  omega
theorem gpa_end (p : PF) (sb : List UInt8) (e : Int) : Sound Try.prog 0 false (loopB Try.f22 0) (gpI p sb e 9).aa (.exit 0) (gpE p sb e).aa :=
  roundK_sound (P := Try.prog) (X := rulesY _) (env := []) trivial (n := 0) (os := oL []) (fb := 0) (rd := false) (c := (loopB Try.f22 0)) (k := 47) (I := gpI p sb e 9) (sk := [2, 4, 5]) (hk := [0, 23, 35]) (lk := []) (ex := .exit 0)
    (L := gpE p sb e) (by kernel_rfl) trivial
theorem gpa_all (st : Int × List UInt8) (h0 : st.1 = 0 → 624 ≤ st.2.length) : Sound Try.prog 0 false (.loop (loopB Try.f22 0)) (gpI (ppA (fun j => rvl 48 g1V p1z (nst 48 g1E j st)) 0) st.2 st.1 0).aa (.exit 0) (gpE (ppA (fun j => rvl 48 g1V p1z (nst 48 g1E j st)) 9) (nst 48 g1E 9 st).2 (nst 48 g1E 9 st).1).aa := by
  have hh := loop_ok (P := Try.prog) (fb := 0) (rd := false) (body := (loopB Try.f22 0)) (ex := .exit 0) (E := gpE (ppA (fun j => rvl 48 g1V p1z (nst 48 g1E j st)) 9) (nst 48 g1E 9 st).2 (nst 48 g1E 9 st).1) (m := fun y : { i : Nat // i ≤ 9 } => 9 - y.val) (fun y => gpI (ppA (fun j => rvl 48 g1V p1z (nst 48 g1E j st)) y.val) (nst 48 g1E y.val st).2 (nst 48 g1E y.val st).1 (y.val : Int)) (by simp) (fun y => ?_) ⟨0, by omega⟩
  · exact hh
  obtain ⟨i, hi⟩ := y
  by_cases e : i < 9
  · refine .inl ⟨⟨i + 1, e⟩, by show 9 - (i + 1) < 9 - i; omega, ?_⟩
    have hl := gpa_len st h0 i e
    have e : i = 0 ∨ i = 1 ∨ i = 2 ∨ i = 3 ∨ i = 4 ∨ i = 5 ∨ i = 6 ∨ i = 7 ∨ i = 8 := by omega
    rcases e with rfl | rfl | rfl | rfl | rfl | rfl | rfl | rfl | rfl
    · exact gpa0 (ppA (fun j => rvl 48 g1V p1z (nst 48 g1E j st)) 0) (nst 48 g1E 0 st) hl
    · exact gpa1 (ppA (fun j => rvl 48 g1V p1z (nst 48 g1E j st)) 1) (nst 48 g1E 1 st) hl
    · exact gpa2 (ppA (fun j => rvl 48 g1V p1z (nst 48 g1E j st)) 2) (nst 48 g1E 2 st) hl
    · exact gpa3 (ppA (fun j => rvl 48 g1V p1z (nst 48 g1E j st)) 3) (nst 48 g1E 3 st) hl
    · exact gpa4 (ppA (fun j => rvl 48 g1V p1z (nst 48 g1E j st)) 4) (nst 48 g1E 4 st) hl
    · exact gpa5 (ppA (fun j => rvl 48 g1V p1z (nst 48 g1E j st)) 5) (nst 48 g1E 5 st) hl
    · exact gpa6 (ppA (fun j => rvl 48 g1V p1z (nst 48 g1E j st)) 6) (nst 48 g1E 6 st) hl
    · exact gpa7 (ppA (fun j => rvl 48 g1V p1z (nst 48 g1E j st)) 7) (nst 48 g1E 7 st) hl
    · exact gpa8 (ppA (fun j => rvl 48 g1V p1z (nst 48 g1E j st)) 8) (nst 48 g1E 8 st) hl
  · have e : i = 9 := by omega
    subst e
    exact .inr (gpa_end _ _ _)
theorem gpb0 (p : PF) (st : Int × List UInt8) (hl : st.1 = 0 → 32 ≤ st.2.length) : Sound Try.prog 0 false (loopB Try.f22 1) (gpK p st.2 st.1 0).aa .normal (gpK { p with f0 := rvl 32 gfV 0 st } (rst 32 gfE st).2 (rst 32 gfE st).1 1).aa := by
  obtain ⟨e, sb⟩ := st
  by_cases h : e = 0
  · subst h
    by_cases h1 : gfE (sb.take 32) = 0
    · exact gpb0A p sb 0 (hl rfl) h1
    · exact gpb0B p sb 0 (hl rfl) h1
  · rw [show rst 32 gfE (e, sb) = (e, sb) from if_neg h, show rvl 32 gfV 0 (e, sb) = 0 from if_neg h]
    exact gpb0C p sb e h
theorem gpb1 (p : PF) (st : Int × List UInt8) (hl : st.1 = 0 → 32 ≤ st.2.length) : Sound Try.prog 0 false (loopB Try.f22 1) (gpK p st.2 st.1 1).aa .normal (gpK { p with f1 := rvl 32 gfV 0 st } (rst 32 gfE st).2 (rst 32 gfE st).1 2).aa := by
  obtain ⟨e, sb⟩ := st
  by_cases h : e = 0
  · subst h
    by_cases h1 : gfE (sb.take 32) = 0
    · exact gpb1A p sb 0 (hl rfl) h1
    · exact gpb1B p sb 0 (hl rfl) h1
  · rw [show rst 32 gfE (e, sb) = (e, sb) from if_neg h, show rvl 32 gfV 0 (e, sb) = 0 from if_neg h]
    exact gpb1C p sb e h
theorem gpb2 (p : PF) (st : Int × List UInt8) (hl : st.1 = 0 → 32 ≤ st.2.length) : Sound Try.prog 0 false (loopB Try.f22 1) (gpK p st.2 st.1 2).aa .normal (gpK { p with f2 := rvl 32 gfV 0 st } (rst 32 gfE st).2 (rst 32 gfE st).1 3).aa := by
  obtain ⟨e, sb⟩ := st
  by_cases h : e = 0
  · subst h
    by_cases h1 : gfE (sb.take 32) = 0
    · exact gpb2A p sb 0 (hl rfl) h1
    · exact gpb2B p sb 0 (hl rfl) h1
  · rw [show rst 32 gfE (e, sb) = (e, sb) from if_neg h, show rvl 32 gfV 0 (e, sb) = 0 from if_neg h]
    exact gpb2C p sb e h
theorem gpb3 (p : PF) (st : Int × List UInt8) (hl : st.1 = 0 → 32 ≤ st.2.length) : Sound Try.prog 0 false (loopB Try.f22 1) (gpK p st.2 st.1 3).aa .normal (gpK { p with f3 := rvl 32 gfV 0 st } (rst 32 gfE st).2 (rst 32 gfE st).1 4).aa := by
  obtain ⟨e, sb⟩ := st
  by_cases h : e = 0
  · subst h
    by_cases h1 : gfE (sb.take 32) = 0
    · exact gpb3A p sb 0 (hl rfl) h1
    · exact gpb3B p sb 0 (hl rfl) h1
  · rw [show rst 32 gfE (e, sb) = (e, sb) from if_neg h, show rvl 32 gfV 0 (e, sb) = 0 from if_neg h]
    exact gpb3C p sb e h
theorem gpb4 (p : PF) (st : Int × List UInt8) (hl : st.1 = 0 → 32 ≤ st.2.length) : Sound Try.prog 0 false (loopB Try.f22 1) (gpK p st.2 st.1 4).aa .normal (gpK { p with f4 := rvl 32 gfV 0 st } (rst 32 gfE st).2 (rst 32 gfE st).1 5).aa := by
  obtain ⟨e, sb⟩ := st
  by_cases h : e = 0
  · subst h
    by_cases h1 : gfE (sb.take 32) = 0
    · exact gpb4A p sb 0 (hl rfl) h1
    · exact gpb4B p sb 0 (hl rfl) h1
  · rw [show rst 32 gfE (e, sb) = (e, sb) from if_neg h, show rvl 32 gfV 0 (e, sb) = 0 from if_neg h]
    exact gpb4C p sb e h
theorem gpb5 (p : PF) (st : Int × List UInt8) (hl : st.1 = 0 → 32 ≤ st.2.length) : Sound Try.prog 0 false (loopB Try.f22 1) (gpK p st.2 st.1 5).aa .normal (gpK { p with f5 := rvl 32 gfV 0 st } (rst 32 gfE st).2 (rst 32 gfE st).1 6).aa := by
  obtain ⟨e, sb⟩ := st
  by_cases h : e = 0
  · subst h
    by_cases h1 : gfE (sb.take 32) = 0
    · exact gpb5A p sb 0 (hl rfl) h1
    · exact gpb5B p sb 0 (hl rfl) h1
  · rw [show rst 32 gfE (e, sb) = (e, sb) from if_neg h, show rvl 32 gfV 0 (e, sb) = 0 from if_neg h]
    exact gpb5C p sb e h
def ppB (p : PF) (W : Nat → Nat) (i : Nat) : PF := { p with f0 := if 0 < i then W 0 else p.f0, f1 := if 1 < i then W 1 else p.f1, f2 := if 2 < i then W 2 else p.f2, f3 := if 3 < i then W 3 else p.f3, f4 := if 4 < i then W 4 else p.f4, f5 := if 5 < i then W 5 else p.f5 }
theorem gpb_len (p : PF) (st : Int × List UInt8) (h0 : st.1 = 0 → 192 ≤ st.2.length) (i : Nat) (hi : i < 6) : (nst 32 gfE i st).1 = 0 → 32 ≤ (nst 32 gfE i st).2.length := by
  intro h
  obtain ⟨e, sb⟩ := st
  obtain ⟨h1, h2, _⟩ := nst_zero i (e, sb) h
  have h1 : e = 0 := h1
  subst h1
  have h4 : 192 ≤ sb.length := h0 rfl
  rw [h2]
  show 32 ≤ (sb.drop (32 * i)).length
  rw [List.length_drop]
  omega
theorem gpb_end (p : PF) (sb : List UInt8) (e : Int) : Sound Try.prog 0 false (loopB Try.f22 1) (gpK p sb e 6).aa (.exit 2) (gpE p sb e).aa :=
  roundK_sound (P := Try.prog) (X := rulesY _) (env := []) trivial (n := 0) (os := oL []) (fb := 0) (rd := false) (c := (loopB Try.f22 1)) (k := 47) (I := gpK p sb e 6) (sk := [2, 4, 5]) (hk := [0, 23, 35]) (lk := []) (ex := .exit 2)
    (L := gpE p sb e) (by kernel_rfl) trivial
theorem gpb_all (p : PF) (st : Int × List UInt8) (h0 : st.1 = 0 → 192 ≤ st.2.length) : Sound Try.prog 0 false (.loop (loopB Try.f22 1)) (gpK (ppB p (fun j => rvl 32 gfV 0 (nst 32 gfE j st)) 0) st.2 st.1 0).aa (.exit 2) (gpE (ppB p (fun j => rvl 32 gfV 0 (nst 32 gfE j st)) 6) (nst 32 gfE 6 st).2 (nst 32 gfE 6 st).1).aa := by
  have hh := loop_ok (P := Try.prog) (fb := 0) (rd := false) (body := (loopB Try.f22 1)) (ex := .exit 2) (E := gpE (ppB p (fun j => rvl 32 gfV 0 (nst 32 gfE j st)) 6) (nst 32 gfE 6 st).2 (nst 32 gfE 6 st).1) (m := fun y : { i : Nat // i ≤ 6 } => 6 - y.val) (fun y => gpK (ppB p (fun j => rvl 32 gfV 0 (nst 32 gfE j st)) y.val) (nst 32 gfE y.val st).2 (nst 32 gfE y.val st).1 (y.val : Int)) (by simp) (fun y => ?_) ⟨0, by omega⟩
  · exact hh
  obtain ⟨i, hi⟩ := y
  by_cases e : i < 6
  · refine .inl ⟨⟨i + 1, e⟩, by show 6 - (i + 1) < 6 - i; omega, ?_⟩
    have hl := gpb_len p st h0 i e
    have e : i = 0 ∨ i = 1 ∨ i = 2 ∨ i = 3 ∨ i = 4 ∨ i = 5 := by omega
    rcases e with rfl | rfl | rfl | rfl | rfl | rfl
    · exact gpb0 (ppB p (fun j => rvl 32 gfV 0 (nst 32 gfE j st)) 0) (nst 32 gfE 0 st) hl
    · exact gpb1 (ppB p (fun j => rvl 32 gfV 0 (nst 32 gfE j st)) 1) (nst 32 gfE 1 st) hl
    · exact gpb2 (ppB p (fun j => rvl 32 gfV 0 (nst 32 gfE j st)) 2) (nst 32 gfE 2 st) hl
    · exact gpb3 (ppB p (fun j => rvl 32 gfV 0 (nst 32 gfE j st)) 3) (nst 32 gfE 3 st) hl
    · exact gpb4 (ppB p (fun j => rvl 32 gfV 0 (nst 32 gfE j st)) 4) (nst 32 gfE 4 st) hl
    · exact gpb5 (ppB p (fun j => rvl 32 gfV 0 (nst 32 gfE j st)) 5) (nst 32 gfE 5 st) hl
  · have e : i = 6 := by omega
    subst e
    exact .inr (gpb_end _ _ _)
/-- What is read, from the first error and what is left on. -/
def gpSt (st : Int × List UInt8) : Int × List UInt8 := nst 32 gfE 6 (nst 48 g1E 9 st)
def gpVal (st : Int × List UInt8) : PF := ppB (ppA (fun j => rvl 48 g1V p1z (nst 48 g1E j st)) 9) (fun j => rvl 32 gfV 0 (nst 32 gfE j (nst 48 g1E 9 st))) 6
end Go.Proofs.Ytmbllhibdbeplaa

/- Contract of format.GetProof. -/
set_option linter.unusedSimpArgs false
set_option linter.unusedVariables false
namespace Go.Proofs.Ytmbllhibdbeplaa
open Go.Ev Go.RowKit
theorem gpSt_bad {st : Int × List UInt8} (h : st.1 ≠ 0) : gpSt st = st := by
  unfold gpSt; rw [nst_bad h, nst_bad h]
theorem gp_z : flat z141 = flat (ppA (fun j => p1z) 0).ch := by kernel_rfl
def gpJd (sb : List UInt8) : LState := { n := 58, sl := [(2, .p 0 0), (4, .p 23 0), (5, .p 35 0), (23, .ag [.p 35 0, .p 35 13, .p 35 26, .p 35 39, .p 35 52, .p 35 65, .p 35 78, .p 35 91, .p 35 104]), (24, .v (.int .i64 0))], hp := [(0, .own z141 58), (23, .own [.c (.string (ofL sb)), .c (.int .i64 0)] 102), (35, .own z141 58)] }
def gpJc (sb : List UInt8) : LState := { n := 58, sl := [(2, .p 0 0), (4, .p 23 0), (5, .p 47 0), (23, .ag [.p 47 0, .p 47 13, .p 47 26, .p 47 39, .p 47 52, .p 47 65, .p 47 78, .p 47 91, .p 47 104]), (24, .v (.int .i64 0))], hp := [(0, .own z141 58), (23, .own [.c (.string (ofL sb)), .c (.int .i64 3)] 102), (47, .own z141 58)] }
def gpJa : LState := { n := 58, sl := [(2, .p 0 0), (4, .p 19 0), (5, .p 38 0), (23, .ag [.p 38 0, .p 38 13, .p 38 26, .p 38 39, .p 38 52, .p 38 65, .p 38 78, .p 38 91, .p 38 104]), (24, .v (.int .i64 0))], hp := [(0, .own z141 58), (19, .own [.c (.string (ofL [])), .c (.int .i64 80)] 102), (38, .own z141 58)] }
theorem gpJd_pre (sb : List UInt8) : fitsP (gpJd sb).aa (gpI (ppA (fun j => rvl 48 g1V p1z (nst 48 g1E j (0, sb))) 0) sb 0 0) [] := by
  have e : fitsP (gpJd sb).aa (gpI (ppA (fun j => rvl 48 g1V p1z (nst 48 g1E j (0, sb))) 0) sb 0 0) [] = (((true = true ∧ 0 = 0) ∧ (true = true ∧ 0 = 0) ∧ (true = true ∧ 0 = 0) ∧ ((true = true ∧ 0 = 0) ∧ (true = true ∧ 13 = 13) ∧ (true = true ∧ 26 = 26) ∧ (true = true ∧ 39 = 39) ∧ (true = true ∧ 52 = 52) ∧ (true = true ∧ 65 = 65) ∧ (true = true ∧ 78 = 78) ∧ (true = true ∧ 91 = 91) ∧ (true = true ∧ 104 = 104) ∧ True) ∧ (Value.int .i64 0) = (Value.int .i64 0) ∧ True) ∧ ((58 = 58 ∧ flat z141 = flat z141) ∧ (102 = 102 ∧ flat [.c (.string (ofL sb)), .c (.int .i64 0)] = flat [.c (.string (ofL sb)), .c (.int .i64 0)]) ∧ (58 = 58 ∧ flat z141 = flat (ppA (fun j => rvl 48 g1V p1z (nst 48 g1E j (0, sb))) 0).ch) ∧ True)) := by kernel_rfl
  rw [e]
  exact ⟨⟨⟨rfl, rfl⟩, ⟨rfl, rfl⟩, ⟨rfl, rfl⟩, ⟨⟨rfl, rfl⟩, ⟨rfl, rfl⟩, ⟨rfl, rfl⟩, ⟨rfl, rfl⟩, ⟨rfl, rfl⟩, ⟨rfl, rfl⟩, ⟨rfl, rfl⟩, ⟨rfl, rfl⟩, ⟨rfl, rfl⟩, trivial⟩, rfl, trivial⟩, ⟨rfl, rfl⟩, ⟨rfl, rfl⟩, ⟨rfl, gp_z⟩, trivial⟩
theorem gpJc_pre (sb : List UInt8) : fitsP (gpJc sb).aa (gpI (ppA (fun j => rvl 48 g1V p1z (nst 48 g1E j (3, sb))) 0) sb 3 0) [(35, 47)] := by
  have e : fitsP (gpJc sb).aa (gpI (ppA (fun j => rvl 48 g1V p1z (nst 48 g1E j (3, sb))) 0) sb 3 0) [(35, 47)] = (((true = true ∧ 0 = 0) ∧ (true = true ∧ 0 = 0) ∧ (true = true ∧ 0 = 0) ∧ ((true = true ∧ 0 = 0) ∧ (true = true ∧ 13 = 13) ∧ (true = true ∧ 26 = 26) ∧ (true = true ∧ 39 = 39) ∧ (true = true ∧ 52 = 52) ∧ (true = true ∧ 65 = 65) ∧ (true = true ∧ 78 = 78) ∧ (true = true ∧ 91 = 91) ∧ (true = true ∧ 104 = 104) ∧ True) ∧ (Value.int .i64 0) = (Value.int .i64 0) ∧ True) ∧ ((58 = 58 ∧ flat z141 = flat z141) ∧ (102 = 102 ∧ flat [.c (.string (ofL sb)), .c (.int .i64 3)] = flat [.c (.string (ofL sb)), .c (.int .i64 3)]) ∧ (58 = 58 ∧ flat z141 = flat (ppA (fun j => rvl 48 g1V p1z (nst 48 g1E j (3, sb))) 0).ch) ∧ True)) := by kernel_rfl
  rw [e]
  exact ⟨⟨⟨rfl, rfl⟩, ⟨rfl, rfl⟩, ⟨rfl, rfl⟩, ⟨⟨rfl, rfl⟩, ⟨rfl, rfl⟩, ⟨rfl, rfl⟩, ⟨rfl, rfl⟩, ⟨rfl, rfl⟩, ⟨rfl, rfl⟩, ⟨rfl, rfl⟩, ⟨rfl, rfl⟩, ⟨rfl, rfl⟩, trivial⟩, rfl, trivial⟩, ⟨rfl, rfl⟩, ⟨rfl, rfl⟩, ⟨rfl, gp_z⟩, trivial⟩
theorem gpJa_pre : fitsP (gpJa).aa (gpI (ppA (fun j => rvl 48 g1V p1z (nst 48 g1E j (80, []))) 0) [] 80 0) [(23, 19), (35, 38)] := by
  have e : fitsP (gpJa).aa (gpI (ppA (fun j => rvl 48 g1V p1z (nst 48 g1E j (80, []))) 0) [] 80 0) [(23, 19), (35, 38)] = (((true = true ∧ 0 = 0) ∧ (true = true ∧ 0 = 0) ∧ (true = true ∧ 0 = 0) ∧ ((true = true ∧ 0 = 0) ∧ (true = true ∧ 13 = 13) ∧ (true = true ∧ 26 = 26) ∧ (true = true ∧ 39 = 39) ∧ (true = true ∧ 52 = 52) ∧ (true = true ∧ 65 = 65) ∧ (true = true ∧ 78 = 78) ∧ (true = true ∧ 91 = 91) ∧ (true = true ∧ 104 = 104) ∧ True) ∧ (Value.int .i64 0) = (Value.int .i64 0) ∧ True) ∧ ((58 = 58 ∧ flat z141 = flat z141) ∧ (102 = 102 ∧ flat [.c (.string (ofL [])), .c (.int .i64 80)] = flat [.c (.string (ofL [])), .c (.int .i64 80)]) ∧ (58 = 58 ∧ flat z141 = flat (ppA (fun j => rvl 48 g1V p1z (nst 48 g1E j (80, []))) 0).ch) ∧ True)) := by kernel_rfl
  rw [e]
  exact ⟨⟨⟨rfl, rfl⟩, ⟨rfl, rfl⟩, ⟨rfl, rfl⟩, ⟨⟨rfl, rfl⟩, ⟨rfl, rfl⟩, ⟨rfl, rfl⟩, ⟨rfl, rfl⟩, ⟨rfl, rfl⟩, ⟨rfl, rfl⟩, ⟨rfl, rfl⟩, ⟨rfl, rfl⟩, ⟨rfl, rfl⟩, trivial⟩, rfl, trivial⟩, ⟨rfl, rfl⟩, ⟨rfl, rfl⟩, ⟨rfl, gp_z⟩, trivial⟩
def gpX (sb : List UInt8) (e : Int) : LState := { n := 58, sl := [(2, .p 0 0), (4, .p 23 0)], hp := [(0, .own z141 58), (23, .own [.c (.string (ofL sb)), .c (.int .i64 e)] 102)] }
def gpY (e : Int) : LState := { n := 58, sl := [(2, .p 0 0), (3, .v (.int .i64 e))], hp := [(0, .own z141 58)] }
theorem gp_region (sb : List UInt8) (e : Int) : Sound Try.prog 0 false (drawB Try.f22 0) (gpX sb e).aa .normal (gpY e).aa := by
  have hL : True ∧ (some (gpY e) = some (gpY e)) := ⟨trivial, rfl⟩
  exact regionT_sound (P := Try.prog) (X := rulesY _) (env := []) trivial (inlN_ok (P := Try.prog) (X := rulesY _) (env := []) (os := oL []) trivial 0) (os := oL []) (fb := 0) (k := 62) (I := gpX sb e) (E := gpY e) (by kernel_rfl)
    (And.intro (And.intro (And.intro (And.intro (And.intro (And.intro (And.intro hL trivial) trivial) (And.intro (And.intro (And.intro hL trivial) trivial) trivial)) (And.intro (And.intro (And.intro (And.intro hL trivial) trivial) trivial) trivial)) (And.intro (And.intro (And.intro (And.intro (And.intro hL trivial) trivial) trivial) trivial) trivial)) (And.intro (And.intro (And.intro (And.intro (And.intro (And.intro hL trivial) trivial) trivial) trivial) trivial) trivial)) (And.intro (And.intro (And.intro (And.intro (And.intro (And.intro (And.intro hL trivial) trivial) (And.intro (And.intro (And.intro hL trivial) trivial) trivial)) (And.intro (And.intro (And.intro (And.intro hL trivial) trivial) trivial) trivial)) (And.intro (And.intro (And.intro (And.intro (And.intro hL trivial) trivial) trivial) trivial) trivial)) (And.intro (And.intro (And.intro (And.intro (And.intro (And.intro hL trivial) trivial) (And.intro (And.intro (And.intro hL trivial) trivial) trivial)) (And.intro (And.intro (And.intro (And.intro hL trivial) trivial) trivial) trivial)) (And.intro (And.intro (And.intro (And.intro (And.intro hL trivial) trivial) (And.intro (And.intro (And.intro hL trivial) trivial) trivial)) (And.intro (And.intro (And.intro (And.intro hL trivial) trivial) trivial) trivial)) trivial)) trivial)) trivial))
theorem gp_h1 (st : Int × List UInt8) (h0 : st.1 = 0 → 624 ≤ st.2.length) : (nst 48 g1E 9 st).1 = 0 → 192 ≤ (nst 48 g1E 9 st).2.length := by
  intro h
  obtain ⟨h1, h2, _⟩ := nst_zero 9 st h
  rw [h2]
  show 192 ≤ (st.2.drop (48 * 9)).length
  have := h0 h1
  rw [List.length_drop]
  omega
theorem gp_m {l : List UInt8} (h : l.take 4 = mgP) : (!((ofL (l.take 4)).toList == (ofL mgP).toList)) = false := by rw [h]; simp
theorem ofL_list (l : List UInt8) : (ofL l).toList = l := by
  unfold ofL
  simp
theorem gp_n {l m : List UInt8} (h : l ≠ m) : (!((ofL l).toList == (ofL m).toList)) = true := by
  rw [ofL_list, ofL_list]
  simpa using h
theorem gp_dok (l : List UInt8) (hn : l.length = 628) (hm : l.take 4 = mgP) (h : (gpSt (0, l.drop 4)).1 = 0) : Gives Try.prog 22 [.t (.v (.string (ofL l)))] (.tp [.ag (gpVal (0, l.drop 4)).ch, .v (.int .i64 0)]) := by
  have h0 : ((0, l.drop 4) : Int × List UInt8).1 = 0 → 624 ≤ ((0, l.drop 4) : Int × List UInt8).2.length := fun _ => by show 624 ≤ (l.drop 4).length; rw [List.length_drop]; omega
  exact fn_gives_at (P := Try.prog) (X := rulesY _) (env := [eGet1T, eFGetT]) ⟨eGet1T_ok, eFGetT_ok, trivial⟩ Try.func22 3 (oL [(6, { ch := 1, hi := fun _ => 628 }), (14, rO 5 0), (16, wF), (21, rO 5 0), (32, { ch := 1, hi := fun _ => 624 }), (47, lpO { I := gpJd (l.drop 4), ex := .exit 0, E := gpE (ppA (fun j => rvl 48 g1V p1z (nst 48 g1E j (0, l.drop 4))) 9) (nst 48 g1E 9 (0, l.drop 4)).2 (nst 48 g1E 9 (0, l.drop 4)).1, fr := 48 }), (56, lpO { I := gpK (ppA (fun j => rvl 48 g1V p1z (nst 48 g1E j (0, l.drop 4))) 9) (nst 48 g1E 9 (0, l.drop 4)).2 (nst 48 g1E 9 (0, l.drop 4)).1 0, ex := .exit 2, E := gpE (gpVal (0, l.drop 4)) (gpSt (0, l.drop 4)).2 (gpSt (0, l.drop 4)).1, fr := 57 }), (61, wF)]) (by kernel_rfl) ⟨_, rfl⟩
    (And.intro (show ((gpSt (0, l.drop 4)).1 != 0) = false from by rw [h]; rfl)
      (And.intro (show some (gpK (ppA (fun j => rvl 48 g1V p1z (nst 48 g1E j (0, l.drop 4))) 9) (nst 48 g1E 9 (0, l.drop 4)).2 (nst 48 g1E 9 (0, l.drop 4)).1 0) = some (gpK (ppA (fun j => rvl 48 g1V p1z (nst 48 g1E j (0, l.drop 4))) 9) (nst 48 g1E 9 (0, l.drop 4)).2 (nst 48 g1E 9 (0, l.drop 4)).1 0) from rfl)
      (And.intro (gpb_all (ppA (fun j => rvl 48 g1V p1z (nst 48 g1E j (0, l.drop 4))) 9) (nst 48 g1E 9 (0, l.drop 4)) (gp_h1 (0, l.drop 4) h0))
      (And.intro (show some (gpJd (l.drop 4)) = some (gpJd (l.drop 4)) from rfl)
      (And.intro ((gpa_all (0, l.drop 4) h0).pre [] (by kernel_rfl) (gpJd_pre (l.drop 4)))
      (And.intro (show (((ofL (l.drop 4)).size : Nat) : Int) = ((624 : Nat) : Int) from by show (((l.drop 4).length : Nat) : Int) = _; rw [List.length_drop, hn])
      (And.intro (show (0 : Int) ≤ 4 ∧ (4 : Int) ≤ (ofL l).size from ⟨by decide, by show (4 : Int) ≤ (l.length : Nat); omega⟩)
      (And.intro (show (!((ofL (l.take 4)).toList == (ofL mgP).toList)) = false from gp_m hm)
      (And.intro (show (0 : Int) ≤ 4 ∧ (4 : Int) ≤ (ofL l).size from ⟨by decide, by show (4 : Int) ≤ (l.length : Nat); omega⟩)
      (And.intro (show (((ofL l).size : Nat) : Int) = ((628 : Nat) : Int) from by show ((l.length : Nat) : Int) = _; rw [hn]) trivial))))))))))
theorem gp_der (l : List UInt8) (hn : l.length = 628) (hm : l.take 4 = mgP) (h : (gpSt (0, l.drop 4)).1 ≠ 0) : Gives Try.prog 22 [.t (.v (.string (ofL l)))] (.tp [.ag z141, .v (.int .i64 (gpSt (0, l.drop 4)).1)]) := by
  have h0 : ((0, l.drop 4) : Int × List UInt8).1 = 0 → 624 ≤ ((0, l.drop 4) : Int × List UInt8).2.length := fun _ => by show 624 ≤ (l.drop 4).length; rw [List.length_drop]; omega
  exact fn_gives_at (P := Try.prog) (X := rulesY _) (env := [eGet1T, eFGetT]) ⟨eGet1T_ok, eFGetT_ok, trivial⟩ Try.func22 3 (oL [(6, { ch := 1, hi := fun _ => 628 }), (14, rO 5 0), (16, wF), (21, rO 5 0), (32, { ch := 1, hi := fun _ => 624 }), (47, lpO { I := gpJd (l.drop 4), ex := .exit 0, E := gpE (ppA (fun j => rvl 48 g1V p1z (nst 48 g1E j (0, l.drop 4))) 9) (nst 48 g1E 9 (0, l.drop 4)).2 (nst 48 g1E 9 (0, l.drop 4)).1, fr := 48 }), (56, lpO { I := gpK (ppA (fun j => rvl 48 g1V p1z (nst 48 g1E j (0, l.drop 4))) 9) (nst 48 g1E 9 (0, l.drop 4)).2 (nst 48 g1E 9 (0, l.drop 4)).1 0, ex := .exit 2, E := gpE (gpVal (0, l.drop 4)) (gpSt (0, l.drop 4)).2 (gpSt (0, l.drop 4)).1, fr := 57 }), (61, wT), (62, lpO { kd := 5, I := gpX (gpSt (0, l.drop 4)).2 (gpSt (0, l.drop 4)).1, ex := .normal, E := gpY (gpSt (0, l.drop 4)).1, fr := 69 })]) (by kernel_rfl) ⟨_, rfl⟩
    (And.intro (show some (gpX (gpSt (0, l.drop 4)).2 (gpSt (0, l.drop 4)).1) = some (gpX (gpSt (0, l.drop 4)).2 (gpSt (0, l.drop 4)).1) from rfl)
      (And.intro (gp_region (gpSt (0, l.drop 4)).2 (gpSt (0, l.drop 4)).1)
      (And.intro (show ((gpSt (0, l.drop 4)).1 != 0) = true from by simpa using h)
      (And.intro (show some (gpK (ppA (fun j => rvl 48 g1V p1z (nst 48 g1E j (0, l.drop 4))) 9) (nst 48 g1E 9 (0, l.drop 4)).2 (nst 48 g1E 9 (0, l.drop 4)).1 0) = some (gpK (ppA (fun j => rvl 48 g1V p1z (nst 48 g1E j (0, l.drop 4))) 9) (nst 48 g1E 9 (0, l.drop 4)).2 (nst 48 g1E 9 (0, l.drop 4)).1 0) from rfl)
      (And.intro (gpb_all (ppA (fun j => rvl 48 g1V p1z (nst 48 g1E j (0, l.drop 4))) 9) (nst 48 g1E 9 (0, l.drop 4)) (gp_h1 (0, l.drop 4) h0))
      (And.intro (show some (gpJd (l.drop 4)) = some (gpJd (l.drop 4)) from rfl)
      (And.intro ((gpa_all (0, l.drop 4) h0).pre [] (by kernel_rfl) (gpJd_pre (l.drop 4)))
      (And.intro (show (((ofL (l.drop 4)).size : Nat) : Int) = ((624 : Nat) : Int) from by show (((l.drop 4).length : Nat) : Int) = _; rw [List.length_drop, hn])
      (And.intro (show (0 : Int) ≤ 4 ∧ (4 : Int) ≤ (ofL l).size from ⟨by decide, by show (4 : Int) ≤ (l.length : Nat); omega⟩)
      (And.intro (show (!((ofL (l.take 4)).toList == (ofL mgP).toList)) = false from gp_m hm)
      (And.intro (show (0 : Int) ≤ 4 ∧ (4 : Int) ≤ (ofL l).size from ⟨by decide, by show (4 : Int) ≤ (l.length : Nat); omega⟩)
      (And.intro (show (((ofL l).size : Nat) : Int) = ((628 : Nat) : Int) from by show ((l.length : Nat) : Int) = _; rw [hn]) trivial))))))))))))
theorem gp_c (l : List UInt8) (hn : 4 ≤ l.length) (hm : l.take 4 = mgP) (hx : l.length ≠ 628) : Gives Try.prog 22 [.t (.v (.string (ofL l)))] (.tp [.ag z141, .v (.int .i64 (gpSt (3, l.drop 4)).1)]) := by
  have h0 : ((3, l.drop 4) : Int × List UInt8).1 = 0 → 624 ≤ ((3, l.drop 4) : Int × List UInt8).2.length := fun h => absurd (show (3 : Int) = 0 from h) (by decide)
  exact fn_gives_at (P := Try.prog) (X := rulesY _) (env := [eGet1T, eFGetT]) ⟨eGet1T_ok, eFGetT_ok, trivial⟩ Try.func22 3 (oL [(9, wF), (14, rO 5 0), (16, wF), (21, rO 5 0), (34, wT), (59, lpO { I := gpJc (l.drop 4), ex := .exit 0, E := gpE (ppA (fun j => rvl 48 g1V p1z (nst 48 g1E j (3, l.drop 4))) 9) (nst 48 g1E 9 (3, l.drop 4)).2 (nst 48 g1E 9 (3, l.drop 4)).1, fr := 60 }), (68, lpO { I := gpK (ppA (fun j => rvl 48 g1V p1z (nst 48 g1E j (3, l.drop 4))) 9) (nst 48 g1E 9 (3, l.drop 4)).2 (nst 48 g1E 9 (3, l.drop 4)).1 0, ex := .exit 2, E := gpE (gpVal (3, l.drop 4)) (gpSt (3, l.drop 4)).2 (gpSt (3, l.drop 4)).1, fr := 69 }), (73, wT), (74, lpO { kd := 5, I := gpX (gpSt (3, l.drop 4)).2 (gpSt (3, l.drop 4)).1, ex := .normal, E := gpY (gpSt (3, l.drop 4)).1, fr := 81 })]) (by kernel_rfl) ⟨_, rfl⟩
    (And.intro (show some (gpX (gpSt (3, l.drop 4)).2 (gpSt (3, l.drop 4)).1) = some (gpX (gpSt (3, l.drop 4)).2 (gpSt (3, l.drop 4)).1) from rfl)
      (And.intro (gp_region (gpSt (3, l.drop 4)).2 (gpSt (3, l.drop 4)).1)
      (And.intro (show ((gpSt (3, l.drop 4)).1 != 0) = true from by rw [gpSt_bad (st := (3, l.drop 4)) (show (3 : Int) ≠ 0 by decide)]; rfl)
      (And.intro (show some (gpK (ppA (fun j => rvl 48 g1V p1z (nst 48 g1E j (3, l.drop 4))) 9) (nst 48 g1E 9 (3, l.drop 4)).2 (nst 48 g1E 9 (3, l.drop 4)).1 0) = some (gpK (ppA (fun j => rvl 48 g1V p1z (nst 48 g1E j (3, l.drop 4))) 9) (nst 48 g1E 9 (3, l.drop 4)).2 (nst 48 g1E 9 (3, l.drop 4)).1 0) from rfl)
      (And.intro (gpb_all (ppA (fun j => rvl 48 g1V p1z (nst 48 g1E j (3, l.drop 4))) 9) (nst 48 g1E 9 (3, l.drop 4)) (gp_h1 (3, l.drop 4) h0))
      (And.intro (show some (gpJc (l.drop 4)) = some (gpJc (l.drop 4)) from rfl)
      (And.intro ((gpa_all (3, l.drop 4) h0).pre [(35, 47)] (by kernel_rfl) (gpJc_pre (l.drop 4)))
      (And.intro (show ((((ofL (l.drop 4)).size : Nat) : Int) != 624) = true from by
        have h1 : (((l.drop 4).length : Nat) : Int) ≠ 624 := by rw [List.length_drop]; omega
        exact bne_iff_ne.2 h1)
      (And.intro (show (0 : Int) ≤ 4 ∧ (4 : Int) ≤ (ofL l).size from ⟨by decide, by show (4 : Int) ≤ (l.length : Nat); omega⟩)
      (And.intro (show (!((ofL (l.take 4)).toList == (ofL mgP).toList)) = false from gp_m hm)
      (And.intro (show (0 : Int) ≤ 4 ∧ (4 : Int) ≤ (ofL l).size from ⟨by decide, by show (4 : Int) ≤ (l.length : Nat); omega⟩)
      (And.intro (show decide ((((ofL l).size : Nat) : Int) < 4) = false from decide_eq_false (by show ¬ ((l.length : Nat) : Int) < 4; omega)) trivial))))))))))))
theorem gp_a (l : List UInt8) (hn : l.length < 4) : Gives Try.prog 22 [.t (.v (.string (ofL l)))] (.tp [.ag z141, .v (.int .i64 (gpSt (80, [])).1)]) := by
  have h0 : ((80, []) : Int × List UInt8).1 = 0 → 624 ≤ ((80, []) : Int × List UInt8).2.length := fun h => absurd (show (80 : Int) = 0 from h) (by decide)
  exact fn_gives_at (P := Try.prog) (X := rulesY _) (env := [eGet1T, eFGetT]) ⟨eGet1T_ok, eFGetT_ok, trivial⟩ Try.func22 3 (oL [(9, wT), (50, lpO { I := gpJa, ex := .exit 0, E := gpE (ppA (fun j => rvl 48 g1V p1z (nst 48 g1E j (80, []))) 9) (nst 48 g1E 9 (80, [])).2 (nst 48 g1E 9 (80, [])).1, fr := 51 }), (59, lpO { I := gpK (ppA (fun j => rvl 48 g1V p1z (nst 48 g1E j (80, []))) 9) (nst 48 g1E 9 (80, [])).2 (nst 48 g1E 9 (80, [])).1 0, ex := .exit 2, E := gpE (gpVal (80, [])) (gpSt (80, [])).2 (gpSt (80, [])).1, fr := 60 }), (64, wT), (65, lpO { kd := 5, I := gpX (gpSt (80, [])).2 (gpSt (80, [])).1, ex := .normal, E := gpY (gpSt (80, [])).1, fr := 72 })]) (by kernel_rfl) ⟨_, rfl⟩
    (And.intro (show some (gpX (gpSt (80, [])).2 (gpSt (80, [])).1) = some (gpX (gpSt (80, [])).2 (gpSt (80, [])).1) from rfl)
      (And.intro (gp_region (gpSt (80, [])).2 (gpSt (80, [])).1)
      (And.intro (show ((gpSt (80, [])).1 != 0) = true from by rw [gpSt_bad (st := (80, [])) (show (80 : Int) ≠ 0 by decide)]; rfl)
      (And.intro (show some (gpK (ppA (fun j => rvl 48 g1V p1z (nst 48 g1E j (80, []))) 9) (nst 48 g1E 9 (80, [])).2 (nst 48 g1E 9 (80, [])).1 0) = some (gpK (ppA (fun j => rvl 48 g1V p1z (nst 48 g1E j (80, []))) 9) (nst 48 g1E 9 (80, [])).2 (nst 48 g1E 9 (80, [])).1 0) from rfl)
      (And.intro (gpb_all (ppA (fun j => rvl 48 g1V p1z (nst 48 g1E j (80, []))) 9) (nst 48 g1E 9 (80, [])) (gp_h1 (80, []) h0))
      (And.intro (show some (gpJa) = some (gpJa) from rfl)
      (And.intro ((gpa_all (80, []) h0).pre [(23, 19), (35, 38)] (by kernel_rfl) (gpJa_pre))
      (And.intro (show decide ((((ofL l).size : Nat) : Int) < 4) = true from decide_eq_true (by show  ((l.length : Nat) : Int) < 4; omega)) trivial))))))))
theorem gp_b (l : List UInt8) (hn : 4 ≤ l.length) (hm : l.take 4 ≠ mgP) : Gives Try.prog 22 [.t (.v (.string (ofL l)))] (.tp [.ag z141, .v (.int .i64 (gpSt (80, [])).1)]) := by
  have h0 : ((80, []) : Int × List UInt8).1 = 0 → 624 ≤ ((80, []) : Int × List UInt8).2.length := fun h => absurd (show (80 : Int) = 0 from h) (by decide)
  exact fn_gives_at (P := Try.prog) (X := rulesY _) (env := [eGet1T, eFGetT]) ⟨eGet1T_ok, eFGetT_ok, trivial⟩ Try.func22 3 (oL [(9, wF), (14, rO 5 0), (16, wT), (50, lpO { I := gpJa, ex := .exit 0, E := gpE (ppA (fun j => rvl 48 g1V p1z (nst 48 g1E j (80, []))) 9) (nst 48 g1E 9 (80, [])).2 (nst 48 g1E 9 (80, [])).1, fr := 51 }), (59, lpO { I := gpK (ppA (fun j => rvl 48 g1V p1z (nst 48 g1E j (80, []))) 9) (nst 48 g1E 9 (80, [])).2 (nst 48 g1E 9 (80, [])).1 0, ex := .exit 2, E := gpE (gpVal (80, [])) (gpSt (80, [])).2 (gpSt (80, [])).1, fr := 60 }), (64, wT), (65, lpO { kd := 5, I := gpX (gpSt (80, [])).2 (gpSt (80, [])).1, ex := .normal, E := gpY (gpSt (80, [])).1, fr := 72 })]) (by kernel_rfl) ⟨_, rfl⟩
    (And.intro (show some (gpX (gpSt (80, [])).2 (gpSt (80, [])).1) = some (gpX (gpSt (80, [])).2 (gpSt (80, [])).1) from rfl)
      (And.intro (gp_region (gpSt (80, [])).2 (gpSt (80, [])).1)
      (And.intro (show ((gpSt (80, [])).1 != 0) = true from by rw [gpSt_bad (st := (80, [])) (show (80 : Int) ≠ 0 by decide)]; rfl)
      (And.intro (show some (gpK (ppA (fun j => rvl 48 g1V p1z (nst 48 g1E j (80, []))) 9) (nst 48 g1E 9 (80, [])).2 (nst 48 g1E 9 (80, [])).1 0) = some (gpK (ppA (fun j => rvl 48 g1V p1z (nst 48 g1E j (80, []))) 9) (nst 48 g1E 9 (80, [])).2 (nst 48 g1E 9 (80, [])).1 0) from rfl)
      (And.intro (gpb_all (ppA (fun j => rvl 48 g1V p1z (nst 48 g1E j (80, []))) 9) (nst 48 g1E 9 (80, [])) (gp_h1 (80, []) h0))
      (And.intro (show some (gpJa) = some (gpJa) from rfl)
      (And.intro ((gpa_all (80, []) h0).pre [(23, 19), (35, 38)] (by kernel_rfl) (gpJa_pre))
      (And.intro (show (!((ofL (l.take 4)).toList == (ofL mgP).toList)) = true from gp_n hm)
      (And.intro (show (0 : Int) ≤ 4 ∧ (4 : Int) ≤ (ofL l).size from ⟨by decide, by show (4 : Int) ≤ (l.length : Nat); omega⟩)
      (And.intro (show decide ((((ofL l).size : Nat) : Int) < 4) = false from decide_eq_false (by show ¬ ((l.length : Nat) : Int) < 4; omega)) trivial))))))))))
/-- GetProof's error. -/
def gpEr (l : List UInt8) : Int := if l.take 4 = mgP then (if l.length = 628 then (gpSt (0, l.drop 4)).1 else 3) else 80
def gpR (l : List UInt8) : PF := gpVal (0, l.drop 4)
theorem gp_yes (l : List UInt8) (h : gpEr l = 0) : Gives Try.prog 22 [.t (.v (.string (ofL l)))] (.tp [.ag (gpR l).ch, .v (.int .i64 0)]) := by
  unfold gpEr at h
  split at h
  · rename_i hm
    split at h
    · rename_i hn
      exact gp_dok l hn hm h
    · exact absurd h (by decide)
  · exact absurd h (by decide)
theorem gp_no (l : List UInt8) (h : gpEr l ≠ 0) : Gives Try.prog 22 [.t (.v (.string (ofL l)))] (.tp [.ag z141, .v (.int .i64 (gpEr l))]) := by
  unfold gpEr at h ⊢
  by_cases hm : l.take 4 = mgP
  · have h4 : 4 ≤ l.length := by
      have := congrArg List.length hm
      rw [List.length_take] at this
      have h5 : mgP.length = 4 := rfl
      omega
    rw [if_pos hm] at h ⊢
    by_cases hn : l.length = 628
    · rw [if_pos hn] at h ⊢
      exact gp_der l hn hm h
    · rw [if_neg hn]
      have e := gp_c l h4 hm hn
      rw [gpSt_bad (st := (3, l.drop 4)) (show (3 : Int) ≠ 0 by decide)] at e
      exact e
  · rw [if_neg hm]
    have e : (gpSt (80, [])).1 = 80 := by rw [gpSt_bad (st := (80, [])) (show (80 : Int) ≠ 0 by decide)]
    rw [← e]
    by_cases h4 : l.length < 4
    · exact gp_a l h4
    · exact gp_b l (by omega) hm
end Go.Proofs.Ytmbllhibdbeplaa

/- Four bytes as a number: what the bits come to. Nothing here names a program. -/
set_option linter.unusedSimpArgs false
set_option linter.unusedVariables false
namespace Go.Ev
theorem or_dis {a b m : Nat} (hb : b < 2 ^ m) (ha : a % 2 ^ m = 0) : a ||| b = a + b := by
  have h := Nat.two_pow_add_eq_or_of_lt hb (a / 2 ^ m)
  have e : 2 ^ m * (a / 2 ^ m) = a := by
    have := Nat.div_add_mod a (2 ^ m)
    omega
  rw [e] at h
  exact h.symm
theorem u32_wrap {a : Nat} (h : a < 4294967296) : IntKind.u32.wrap ((a : Nat) : Int) = ((a : Nat) : Int) := by
  show ((a : Int)) % 4294967296 = a
  omega
theorem i64_wrap {a : Nat} (h : a < 9223372036854775808) : IntKind.i64.wrap ((a : Nat) : Int) = ((a : Nat) : Int) := by
  rw [wrap_i64]; omega
theorem or_u32 (a b m : Nat) (hb : b < 2 ^ m) (ha : a % 2 ^ m = 0) (h : a + b < 4294967296) : IntKind.u32.wrap (((BitVec.ofInt 32 ((a : Nat) : Int) ||| BitVec.ofInt 32 ((b : Nat) : Int)).toNat : Nat) : Int) = ((a + b : Nat) : Int) := by
  have e1 : (BitVec.ofInt 32 ((a : Nat) : Int)) = BitVec.ofNat 32 a := by simp
  have e2 : (BitVec.ofInt 32 ((b : Nat) : Int)) = BitVec.ofNat 32 b := by simp
  rw [e1, e2, BitVec.toNat_or, BitVec.toNat_ofNat, BitVec.toNat_ofNat, Nat.mod_eq_of_lt (show a < 2 ^ 32 by omega), Nat.mod_eq_of_lt (show b < 2 ^ 32 by omega), or_dis hb ha]
  exact u32_wrap h
theorem or_i64 (a b m : Nat) (hb : b < 2 ^ m) (ha : a % 2 ^ m = 0) (h : a + b < 4294967296) : IntKind.i64.wrap (((BitVec.ofInt 64 ((a : Nat) : Int) ||| BitVec.ofInt 64 ((b : Nat) : Int)).toNat : Nat) : Int) = ((a + b : Nat) : Int) := by
  have e1 : (BitVec.ofInt 64 ((a : Nat) : Int)) = BitVec.ofNat 64 a := by simp
  have e2 : (BitVec.ofInt 64 ((b : Nat) : Int)) = BitVec.ofNat 64 b := by simp
  rw [e1, e2, BitVec.toNat_or, BitVec.toNat_ofNat, BitVec.toNat_ofNat, Nat.mod_eq_of_lt (show a < 2 ^ 64 by omega), Nat.mod_eq_of_lt (show b < 2 ^ 64 by omega), or_dis hb ha]
  exact i64_wrap (by omega)
/-- The number that four bytes name. -/
def cn (l : List UInt8) (i : Nat) : Nat := (l.getD i 0).toNat
theorem cn_lt (l : List UInt8) (i : Nat) : cn l i < 256 := UInt8.toNat_lt _
def c4 (l : List UInt8) : Nat := ((cn l 0 * 16777216 + cn l 1 * 65536) + cn l 2 * 256) + cn l 3
theorem cn_at (l : List UInt8) (i : Nat) (h : i < l.length) : (0 : Int) ≤ (i : Int) ∧ (i : Int) < (ofL l).size ∧ ((ofL l)[(i : Int).toNat]?.getD 0).toNat = cn l i := by
  refine ⟨by omega, by show (i : Int) < ((l.length : Nat) : Int); omega, ?_⟩
  rw [Int.toNat_natCast]
  unfold cn
  congr 1
  show ((ofL l)[i]?).getD 0 = l.getD i 0
  have e : (ofL l)[i]? = l[i]? := by
    show (ByteArray.mk l.toArray)[i]? = l[i]?
    rw [getElem?_def, getElem?_def]
    rfl
  rw [e, List.getD_eq_getElem?_getD]
end Go.Ev
