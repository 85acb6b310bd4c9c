/- Pruned: Gj. -/
import Derived.Test.YtokjhbmmdmeafaaGreatQGd
import Derived.Test.YtokjhbmmdmeafaaGreatQGf
import Derived.Test.YtokjhbmmdmeafaaGreatQGc
import Derived.Test.YtokjhbmmdmeafaaGreatQE2
import Derived.Test.YtokjhbmmdmeafaaGreatQGg
import Derived.Test.YtokjhbmmdmeafaaGreatQGb
import Derived.Test.YtokjhbmmdmeafaaGreatQGa
set_option linter.unusedSimpArgs false
set_option linter.unusedVariables false
namespace Go.Proofs.YtokjhbmmdmeafaaGreat
open Go.Ev Go.RowKit
open Tryz
abbrev rn (n : Nat) : Prop := true = true /\ n = n
abbrev EO (t : Nat) (l : List Ch) : Prop := t = t /\ flat l = flat l
abbrev Zr (v : Value) : Prop := v = v
instance (l : LU0) : Decidable (te l) := by unfold te; infer_instance
instance (a : Fin Pp) : Decidable (sqP a) := by unfold sqP; infer_instance
instance (a : F2) : Decidable (sq2 a) := by unfold sq2; infer_instance
instance (l : LU0) : Decidable (sh1 l) := by unfold sh1; infer_instance
instance (l : LU0) : Decidable (lo1 l) := by unfold lo1; infer_instance
instance (l : LU0) : Decidable (sh2 l) := by unfold sh2; infer_instance
instance (l : LU0) : Decidable (lo2 l) := by unfold lo2; infer_instance
instance (l : LU0) : Decidable (ok1 l) := by unfold ok1; infer_instance
instance (l : LU0) : Decidable (ok2 l) := by unfold ok2; infer_instance
def pt1 (a : A1) : List Ch := [.n 6 a.1, .n 6 a.2.1, .c (.bool a.2.2)]
def pt2 (b : A2) : List Ch := [.n 6 b.1.1, .n 6 b.1.2, .n 6 b.2.1.1, .n 6 b.2.1.2, .c (.bool b.2.2)]
def g1E (l : LU0) : Int :=
 if l.length ≠ 48 /\ l.length ≠ 96 then 3 else if (l.length = 48 /\ p7 l ≠ 4 /\ p7 l ≠ 5 /\ p7 l ≠ 6) ∨ (l.length = 96 /\ p7 l ≠ 0 /\ p7 l ≠ 2) then 32 else
 if tX l then (if te (pY l) then 0 else 33) else
 if l.length = 48 then (if nX l < Pp then (if sqP (sV (ofP (nX l))) then (if rp ((ofP (nX l)).val, (sy1 (sV (ofP (nX l))) (decide (p7 l = 5))).val, false) then 0 else 31) else 30) else 20) else
 (if (nX l < Pp /\ nY l < Pp) then (if may1 ((ofP (nX l)).val, (ofP (nY l)).val, false) then (if rp ((ofP (nX l)).val, (ofP (nY l)).val, false) then 0 else 31) else 30) else 20)
theorem C2 (l : LU0) : (ok1 l /\ g1E l = 0) ∨ (¬ ok1 l /\ cd1 l (g1E l)) := by
 by_cases h : ok1 l
 ·refine .inl ⟨h, ?_⟩
  have h0 := h
  unfold g1E
  rcases h with ⟨hi, hz⟩ | ⟨s, h1, h2, h3⟩ | ⟨s, h1, h2, h3⟩
  ·rw [if_neg (by unfold tX at hi; omega), if_neg (by unfold tX at hi; omega), if_pos hi, if_pos hz]
  ·rw [if_neg (by have := s.1; omega), if_neg (by unfold sh1 at s; omega), if_neg (tt s), if_pos s.1, if_pos h1, if_pos h2, if_pos h3]
  ·rw [if_neg (by have := s.1; omega), if_neg (by unfold lo1 at s; omega), if_neg (tv s), if_neg (by have := s.1; omega), if_pos h1, if_pos h2, if_pos h3]
 ·refine .inr ⟨h, ?_⟩
  by_cases h0 : l.length ≠ 48 /\ l.length ≠ 96
  ·rw [show g1E l = 3 from if_pos h0]; exact ⟨by decide, at1 l 0 rfl h0⟩
  by_cases hs : (l.length = 48 /\ p7 l ≠ 4 /\ p7 l ≠ 5 /\ p7 l ≠ 6) ∨ (l.length = 96 /\ p7 l ≠ 0 /\ p7 l ≠ 2)
  ·rw [show g1E l = 32 from (if_neg h0).trans (if_pos hs)]; exact ⟨by decide, at1 l 1 rfl hs⟩
  by_cases hi : tX l
  ·by_cases hz : te (pY l)
   ·exact absurd (.inl ⟨hi, hz⟩) h
   ·rw [show g1E l = 33 from (if_neg h0).trans ((if_neg hs).trans ((if_pos hi).trans (if_neg hz)))]; exact ⟨by decide, at1 l 2 rfl ⟨hi, hz⟩⟩
  have e0 : g1E l = _ := (if_neg h0).trans ((if_neg hs).trans (if_neg hi))
  rcases form1 h0 hs hi with s | s
  ·have e1 := e0.trans (if_pos s.1)
   by_cases hx : nX l < Pp
   ·by_cases hq : sqP (sV (ofP (nX l)))
    ·by_cases hg : rp ((ofP (nX l)).val, (sy1 (sV (ofP (nX l))) (decide (p7 l = 5))).val, false)
     ·exact absurd (.inr (.inl ⟨s, hx, hq, hg⟩)) h
     ·rw [e1.trans ((if_pos hx).trans ((if_pos hq).trans (if_neg hg)))]; exact ⟨by decide, at1 l 6 rfl ⟨s, hx, hq, hg⟩⟩
    ·rw [e1.trans ((if_pos hx).trans (if_neg hq))]; exact ⟨by decide, at1 l 5 rfl ⟨s, hx, hq⟩⟩
   ·rw [e1.trans (if_neg hx)]; exact ⟨by decide, at1 l 4 rfl ⟨s, hx⟩⟩
  ·have e1 := e0.trans (if_neg (by have := s.1; omega))
   by_cases hx : (nX l < Pp /\ nY l < Pp)
   ·by_cases hm : may1 ((ofP (nX l)).val, (ofP (nY l)).val, false)
    ·by_cases hg : rp ((ofP (nX l)).val, (ofP (nY l)).val, false)
     ·exact absurd (.inr (.inr ⟨s, hx, hm, hg⟩)) h
     ·rw [e1.trans ((if_pos hx).trans ((if_pos hm).trans (if_neg hg)))]; exact ⟨by decide, at1 l 10 rfl ⟨s, hx, hm, hg⟩⟩
    ·rw [e1.trans ((if_pos hx).trans (if_neg hm))]; exact ⟨by decide, at1 l 9 rfl ⟨s, hx, hm⟩⟩
   ·rw [e1.trans (if_neg hx)]; exact ⟨by decide, at1 l 8 rfl ⟨s, hx⟩⟩
def g1V (l : LU0) : A1 := if ok1 l then ((gx1 l).val, (gy1 l).val, decide (tX l)) else (0, 0, false)
theorem Ot (l : LU0) : Gives prog 27 [.t (.v (.string (ofL l)))] (.tp [.ag (pt1 (g1V l)), vi0 (g1E l)]) := by
 rcases C2 l with ⟨h, e⟩ | ⟨h, e⟩
 ·rw [show g1V l = ((gx1 l).val, (gy1 l).val, decide (tX l)) from if_pos h, e]
  exact Gives.same (aa7 l h) rfl
 ·rw [show g1V l = (0, 0, false) from if_neg h]
  exact Gives.same e.2 rfl
def rW : Entry := ql 27 XPar.str (fun l => [(none, .tp [.ag (pt1 (g1V l)), vi0 (g1E l)])])
theorem qM : rW.OK prog := qb (fun args w => Go.Proofs.enters_of (P := prog) func27 (by kernel_rfl) rfl args w) (fun l => only (Ot l))
def g2E (l : LU0) : Int :=
 if l.length ≠ 96 /\ l.length ≠ 192 then 3 else if (l.length = 96 /\ p7 l ≠ 4 /\ p7 l ≠ 5 /\ p7 l ≠ 6) ∨ (l.length = 192 /\ p7 l ≠ 0 /\ p7 l ≠ 2) then 32 else
 if ub l then (if te (pY l) then 0 else 33) else
 if l.length = 96 then (if (c2 l 0 < Pp /\ c2 l 1 < Pp) then (if sq2 (se (xs2 l)) then (if rm (nn (xs2 l), nn (sy2 (se (xs2 l)) (decide (p7 l = 5))), false) then 0 else 31) else 30) else 20) else
 (if (c2 l 0 < Pp /\ c2 l 1 < Pp /\ c2 l 2 < Pp /\ c2 l 3 < Pp) then (if may2 (nn (xs2 l), nn (ys2 l), false) then (if rm (nn (xs2 l), nn (ys2 l), false) then 0 else 31) else 30) else 20)
theorem H9 (l : LU0) : (ok2 l /\ g2E l = 0) ∨ (¬ ok2 l /\ cd2 l (g2E l)) := by
 by_cases h : ok2 l
 ·refine .inl ⟨h, ?_⟩
  have h0 := h
  unfold g2E
  rcases h with ⟨hi, hz⟩ | ⟨s, h1, h2, h3⟩ | ⟨s, h1, h2, h3⟩
  ·rw [if_neg (by unfold ub at hi; omega), if_neg (by unfold ub at hi; omega), if_pos hi, if_pos hz]
  ·rw [if_neg (by have := s.1; omega), if_neg (by unfold sh2 at s; omega), if_neg (sZ s), if_pos s.1, if_pos h1, if_pos h2, if_pos h3]
  ·rw [if_neg (by have := s.1; omega), if_neg (by unfold lo2 at s; omega), if_neg (sS s), if_neg (by have := s.1; omega), if_pos h1, if_pos h2, if_pos h3]
 ·refine .inr ⟨h, ?_⟩
  by_cases h0 : l.length ≠ 96 /\ l.length ≠ 192
  ·rw [show g2E l = 3 from if_pos h0]; exact ⟨by decide, at2 l 0 rfl h0⟩
  by_cases hs : (l.length = 96 /\ p7 l ≠ 4 /\ p7 l ≠ 5 /\ p7 l ≠ 6) ∨ (l.length = 192 /\ p7 l ≠ 0 /\ p7 l ≠ 2)
  ·rw [show g2E l = 32 from (if_neg h0).trans (if_pos hs)]; exact ⟨by decide, at2 l 1 rfl hs⟩
  by_cases hi : ub l
  ·by_cases hz : te (pY l)
   ·exact absurd (.inl ⟨hi, hz⟩) h
   ·rw [show g2E l = 33 from (if_neg h0).trans ((if_neg hs).trans ((if_pos hi).trans (if_neg hz)))]; exact ⟨by decide, at2 l 2 rfl ⟨hi, hz⟩⟩
  have e0 : g2E l = _ := (if_neg h0).trans ((if_neg hs).trans (if_neg hi))
  rcases form2 h0 hs hi with s | s
  ·have e1 := e0.trans (if_pos s.1)
   by_cases hx : (c2 l 0 < Pp /\ c2 l 1 < Pp)
   ·by_cases hq : sq2 (se (xs2 l))
    ·by_cases hg : rm (nn (xs2 l), nn (sy2 (se (xs2 l)) (decide (p7 l = 5))), false)
     ·exact absurd (.inr (.inl ⟨s, hx, hq, hg⟩)) h
     ·rw [e1.trans ((if_pos hx).trans ((if_pos hq).trans (if_neg hg)))]; exact ⟨by decide, at2 l 6 rfl ⟨s, hx, hq, hg⟩⟩
    ·rw [e1.trans ((if_pos hx).trans (if_neg hq))]; exact ⟨by decide, at2 l 5 rfl ⟨s, hx, hq⟩⟩
   ·rw [e1.trans (if_neg hx)]; exact ⟨by decide, at2 l 4 rfl ⟨s, hx⟩⟩
  ·have e1 := e0.trans (if_neg (by have := s.1; omega))
   by_cases hx : (c2 l 0 < Pp /\ c2 l 1 < Pp /\ c2 l 2 < Pp /\ c2 l 3 < Pp)
   ·by_cases hm : may2 (nn (xs2 l), nn (ys2 l), false)
    ·by_cases hg : rm (nn (xs2 l), nn (ys2 l), false)
     ·exact absurd (.inr (.inr ⟨s, hx, hm, hg⟩)) h
     ·rw [e1.trans ((if_pos hx).trans ((if_pos hm).trans (if_neg hg)))]; exact ⟨by decide, at2 l 10 rfl ⟨s, hx, hm, hg⟩⟩
    ·rw [e1.trans ((if_pos hx).trans (if_neg hm))]; exact ⟨by decide, at2 l 9 rfl ⟨s, hx, hm⟩⟩
   ·rw [e1.trans (if_neg hx)]; exact ⟨by decide, at2 l 8 rfl ⟨s, hx⟩⟩
def g2V (l : LU0) : A2 := if ok2 l then (nn (gx2 l), nn (gy2 l), decide (ub l)) else ((0, 0), (0, 0), false)
theorem Pq (l : LU0) : Gives prog 33 [.t (.v (.string (ofL l)))] (.tp [.ag (pt2 (g2V l)), vi0 (g2E l)]) := by
 rcases H9 l with ⟨h, e⟩ | ⟨h, e⟩
 ·rw [show g2V l = (nn (gx2 l), nn (gy2 l), decide (ub l)) from if_pos h, e]
  exact Gives.same (ZN l h) rfl
 ·rw [show g2V l = ((0, 0), (0, 0), false) from if_neg h]
  exact Gives.same e.2 rfl
def sJ : Entry := ql 33 XPar.str (fun l => [(none, .tp [.ag (pt2 (g2V l)), vi0 (g2E l)])])
theorem qY : sJ.OK prog := qb (fun args w => Go.Proofs.enters_of (P := prog) func33 (by kernel_rfl) rfl args w) (fun l => only (Pq l))
def gfE (l : LU0) : Int := if l.length = 32 then (if deN 32 l < Rr then 0 else 20) else 3
def gfV (l : LU0) : Nat := if l.length = 32 then (if deN 32 l < Rr then deN 32 l else 0) else 0
theorem Pg (l : LU0) : Gives prog 29 [.t (.v (.string (ofL l)))] (.tp [.ag [.n 4 (gfV l)], vi0 (gfE l)]) := by
 unfold gfV gfE
 by_cases h : l.length = 32
 ·rw [if_pos h, if_pos h]
  by_cases h2 : deN 32 l < Rr
  ·rw [if_pos h2, if_pos h2]
   have e : (ofR (deN 32 l)).val = deN 32 l := Nat.mod_eq_of_lt h2
   have h3 := Po l h h2
   have h4 : Gives prog 29 [.t (.v (.string (ofL l)))] (.tp [.ag [.n 4 (ofR (deN 32 l)).val], vi0 0]) := Gives.same h3 rfl
   rw [e] at h4
   exact h4
  ·rw [if_neg h2, if_neg h2]
   exact Gives.same (Ol l h (Nat.le_of_not_lt h2)) rfl
 ·rw [if_neg h, if_neg h]
  exact Gives.same (MH l h) rfl
def v9 : Entry := ql 29 XPar.str (fun l => [(none, .tp [.ag [.n 4 (gfV l)], vi0 (gfE l)])])
theorem uU : v9.OK prog := qb (fun args w => Go.Proofs.enters_of (P := prog) func29 (by kernel_rfl) rfl args w) (fun l => only (Pg l))
theorem ry {l : LU0} (h : g1E l ≠ 0) : g1V l = (0, 0, false) := by
 rcases C2 l with ⟨h1, e⟩ | ⟨h1, e⟩
 ·exact absurd e h
 ·exact if_neg h1
theorem rI {l : LU0} (h : gfE l ≠ 0) : gfV l = 0 := by
 unfold gfE at h
 unfold gfV
 by_cases h1 : l.length = 32
 ·rw [if_pos h1] at h ⊢
  by_cases h2 : deN 32 l < Rr
  ·rw [if_pos h2] at h; exact absurd rfl h
  ·rw [if_neg h2]
 ·rw [if_neg h1]
end Go.Proofs.YtokjhbmmdmeafaaGreat
set_option linter.unusedSimpArgs false
set_option linter.unusedVariables false
namespace Go.Ev
def rst (sz : Nat) (E : LU0 -> Int) (st : Int × LU0) : Int × LU0 := if st.1 = 0 then (E (st.2.take sz), st.2.drop sz) else st
def rvl {α : Type} (sz : Nat) (V : LU0 -> α) (z : α) (st : Int × LU0) : α := if st.1 = 0 then V (st.2.take sz) else z
def nst (sz : Nat) (E : LU0 -> Int) : Nat -> Int × LU0 -> Int × LU0
 | 0, st => st
 | n + 1, st => rst sz E (nst sz E n st)
def chk (sz : Nat) (l : LU0) (i : Nat) : LU0 := (l.drop (sz * i)).take sz
section
variable {sz : Nat} {E : LU0 -> Int}
theorem KR {st : Int × LU0} (h : st.1 ≠ 0) : rst sz E st = st := if_neg h
theorem Ci {l : LU0} : rst sz E (0, l) = (E (l.take sz), l.drop sz) := rfl
theorem rq : ∀ (n : Nat) (st : Int × LU0), (nst sz E n st).1 = 0 -> st.1 = 0 /\ nst sz E n st = (0, st.2.drop (sz * n)) /\ ∀ i, i < n -> E (chk sz st.2 i) = 0
 | 0, (e, l), h => by
  have h : e = 0 := h
  subst h
  exact ⟨rfl, by simp [nst], fun i hi => by omega⟩
 | n + 1, st, h => by
  by_cases h0 : (nst sz E n st).1 = 0
  ·obtain ⟨h1, h2, h3⟩ := rq n st h0
   have e : nst sz E (n + 1) st = (E (chk sz st.2 n), st.2.drop (sz * (n + 1))) := by
    show rst sz E (nst sz E n st) = _
    rw [h2, Ci, List.drop_drop, Nat.mul_succ]
    rfl
   rw [e] at h ⊢
   have h : E (chk sz st.2 n) = 0 := h
   rw [h]
   refine ⟨h1, rfl, fun i hi => ?_⟩
   rcases Nat.lt_or_ge i n with hh | hh
   ·exact h3 i hh
   ·rw [show i = n by omega]; exact h
  ·have e : nst sz E (n + 1) st = nst sz E n st := KR h0
   rw [e] at h
   exact absurd h h0
theorem B5 {l : LU0} : ∀ n, (∀ i, i < n -> E (chk sz l i) = 0) -> nst sz E n (0, l) = (0, l.drop (sz * n))
 | 0, _ => by simp [nst]
 | n + 1, h => by
  show rst sz E (nst sz E n (0, l)) = _
  rw [B5 n (fun i hi => h i (by omega)), Ci, List.drop_drop, Nat.mul_succ]
  rw [show E ((l.drop (sz * n)).take sz) = 0 from h n (by omega)]
end
end Go.Ev
set_option linter.unusedSimpArgs false
set_option linter.unusedVariables false
namespace Go.Proofs.YtokjhbmmdmeafaaGreat
open Go.Ev Go.RowKit
open Tryz
def qS : List Ch := List.replicate 12 (.c (.int .u64 0)) ++ [.c (.bool false)]
def DE : List Ch := (List.replicate 9 qS).flatten ++ List.replicate 24 (.c (.int .u64 0))
def p1z : A1 := (0, 0, false)
def ins (l : List Ch) (k n : Nat) (a : List Ch) : List Ch := l.take k ++ a ++ l.drop (k + n)
theorem eqz {x : Int} (h : x = 0) : (x != 0) = false := by rw [h]; rfl
theorem nez {x : Int} (h : x ≠ 0) : (x != 0) = true := bne_iff_ne.2 h
theorem pZ {l : LU0} {n : Nat} (h : n <= l.length) : (0 : Int) <= (n : Int) /\ (n : Int) <= (ofL l).size := ⟨by omega, by show (n : Int) <= ((l.length : Nat) : Int); omega⟩
def gpI (p : PF) (sb : LU0) (e i : Int) : LState := { n := 58, sl := [(2, .p 0 0), (4, .p 23 0), (5, .p 35 0), (23, .ag [.p 35 0, .p 35 13, .p 35 26, .p 35 39, .p 35 52, .p 35 65, .p 35 78, .p 35 91, .p 35 104]), (24, vi0 i)], hp := [(0, .own DE 30), (23, .own [.c (.string (ofL sb)), ci0 e] 85), (35, .own p.ch 30)] }
def gpK (p : PF) (sb : LU0) (e i : Int) : LState := { n := 58, sl := [(2, .p 0 0), (4, .p 23 0), (5, .p 35 0), (38, .ag [.p 35 117, .p 35 121, .p 35 125, .p 35 129, .p 35 133, .p 35 137]), (39, vi0 i)], hp := [(0, .own DE 30), (23, .own [.c (.string (ofL sb)), ci0 e] 85), (35, .own p.ch 30)] }
def gpE (p : PF) (sb : LU0) (e : Int) : LState := { n := 58, sl := [(2, .p 0 0), (4, .p 23 0), (5, .p 35 0)], hp := [(0, .own DE 30), (23, .own [.c (.string (ofL sb)), ci0 e] 85), (35, .own p.ch 30)] }
theorem tU (j k : Int) (hk : Value.int .i64 (IntKind.i64.wrap (j + 1)) = Value.int .i64 k) {sb : LU0} {e : Int} {a b : List Ch} (h : flat a = flat b) : ((rn 0) /\ (rn 0) /\ (rn 0) /\ ((rn 0) /\ (rn 13) /\ (rn 26) /\ (rn 39) /\ (rn 52) /\ (rn 65) /\ (rn 78) /\ (rn 91) /\ (rn 104) /\ True) /\ (Value.int .i64 (IntKind.i64.wrap (j + 1))) = (Value.int .i64 k) /\ True) /\ ((EO 30 DE) /\ (EO 85 [.c (.string (ofL sb)), ci0 e]) /\ (30 = 30 /\ flat a = flat b) /\ True) :=
 ⟨⟨rr0, rr0, rr0, ⟨rr0, rr0, rr0, rr0, rr0, rr0, rr0, rr0, rr0, tt0⟩, hk, tt0⟩, rr0, rr0, ⟨rfl, h⟩, tt0⟩
theorem xh (j k : Int) (hk : Value.int .i64 (IntKind.i64.wrap (j + 1)) = Value.int .i64 k) {sb : LU0} {e : Int} {a b : List Ch} (h : flat a = flat b) : ((rn 0) /\ (rn 0) /\ (rn 0) /\ ((rn 117) /\ (rn 121) /\ (rn 125) /\ (rn 129) /\ (rn 133) /\ (rn 137) /\ True) /\ (Value.int .i64 (IntKind.i64.wrap (j + 1))) = (Value.int .i64 k) /\ True) /\ ((EO 30 DE) /\ (EO 85 [.c (.string (ofL sb)), ci0 e]) /\ (30 = 30 /\ flat a = flat b) /\ True) :=
 ⟨⟨rr0, rr0, rr0, ⟨rr0, rr0, rr0, rr0, rr0, rr0, tt0⟩, hk, tt0⟩, rr0, rr0, ⟨rfl, h⟩, tt0⟩
def z4L : List Ch := List.replicate 4 (.c (.int .u64 0))
theorem rM {os : Nat -> Ora} {c : Code} {I J : LState} {ex : Ex} {ob : Prop} (h : vZ prog (qa _) [rW, v9] 3 os 0 false c 47 I J [] = some (ex, ob)) (hob : ob) : Sound prog 0 false c I.aa ex J.aa := rh (P := prog) (X := qa _) (env := [rW, v9]) ⟨qM, uU, tt0⟩ h hob
abbrev qB (a : AA) (e : Ex) (b : AA) : Prop := Sound prog 0 false (qc f6 0) a e b
theorem abj (p : PF) (sb : LU0) (e : Int) (hl : 48 <= sb.length) (h : (g1E (sb.take 48)) = 0) : qB (gpI p sb 0 0).aa .normal (gpI { p with a0 := (g1V (sb.take 48)) } (sb.drop 48) (g1E (sb.take 48)) 1).aa :=
 rM (os := oL [(66, rO 5 0), (80, rO 5 0), (98, wF)]) (by kernel_rfl) (ai (tU 0 1 rfl (sb := (sb.drop 48)) (e := (g1E (sb.take 48))) (a := ins p.ch 0 3 (pt1 (g1V (sb.take 48)))) (b := ({ p with a0 := (g1V (sb.take 48)) } : PF).ch) (by kernel_rfl)) (ai (eqz h) (ai (pZ hl) (ai (pZ hl) tt0))))
theorem ZH (p : PF) (sb : LU0) (e : Int) (hl : 48 <= sb.length) (h : (g1E (sb.take 48)) ≠ 0) : qB (gpI p sb 0 0).aa .normal (gpI { p with a0 := (g1V (sb.take 48)) } (sb.drop 48) (g1E (sb.take 48)) 1).aa :=
 rM (os := oL [(66, rO 5 0), (80, rO 5 0), (98, wT)]) (by kernel_rfl) (ai (tU 0 1 rfl (sb := (sb.drop 48)) (e := (g1E (sb.take 48))) (a := ins p.ch 0 3 (qS)) (b := ({ p with a0 := (g1V (sb.take 48)) } : PF).ch) (by rw [ry h]; kernel_rfl)) (ai (nez h) (ai (pZ hl) (ai (pZ hl) tt0))))
theorem aad (p : PF) (sb : LU0) (e : Int) (h : e ≠ 0) : qB (gpI p sb e 0).aa .normal (gpI { p with a0 := p1z } sb e 1).aa :=
 rM (os := oL [(59, wT)]) (by kernel_rfl) (ai (tU 0 1 rfl (sb := sb) (e := e) (a := ins p.ch 0 3 (qS)) (b := ({ p with a0 := p1z } : PF).ch) (by kernel_rfl)) (ai (nez h) tt0))
theorem ab0 (p : PF) (sb : LU0) (e : Int) (hl : 48 <= sb.length) (h : (g1E (sb.take 48)) = 0) : qB (gpI p sb 0 1).aa .normal (gpI { p with a1 := (g1V (sb.take 48)) } (sb.drop 48) (g1E (sb.take 48)) 2).aa :=
 rM (os := oL [(66, rO 5 0), (80, rO 5 0), (98, wF)]) (by kernel_rfl) (ai (tU 1 2 rfl (sb := (sb.drop 48)) (e := (g1E (sb.take 48))) (a := ins p.ch 3 3 (pt1 (g1V (sb.take 48)))) (b := ({ p with a1 := (g1V (sb.take 48)) } : PF).ch) (by kernel_rfl)) (ai (eqz h) (ai (pZ hl) (ai (pZ hl) tt0))))
theorem aav (p : PF) (sb : LU0) (e : Int) (hl : 48 <= sb.length) (h : (g1E (sb.take 48)) ≠ 0) : qB (gpI p sb 0 1).aa .normal (gpI { p with a1 := (g1V (sb.take 48)) } (sb.drop 48) (g1E (sb.take 48)) 2).aa :=
 rM (os := oL [(66, rO 5 0), (80, rO 5 0), (98, wT)]) (by kernel_rfl) (ai (tU 1 2 rfl (sb := (sb.drop 48)) (e := (g1E (sb.take 48))) (a := ins p.ch 3 3 (qS)) (b := ({ p with a1 := (g1V (sb.take 48)) } : PF).ch) (by rw [ry h]; kernel_rfl)) (ai (nez h) (ai (pZ hl) (ai (pZ hl) tt0))))
theorem aaC (p : PF) (sb : LU0) (e : Int) (h : e ≠ 0) : qB (gpI p sb e 1).aa .normal (gpI { p with a1 := p1z } sb e 2).aa :=
 rM (os := oL [(59, wT)]) (by kernel_rfl) (ai (tU 1 2 rfl (sb := sb) (e := e) (a := ins p.ch 3 3 (qS)) (b := ({ p with a1 := p1z } : PF).ch) (by kernel_rfl)) (ai (nez h) tt0))
theorem aa4 (p : PF) (sb : LU0) (e : Int) (hl : 48 <= sb.length) (h : (g1E (sb.take 48)) = 0) : qB (gpI p sb 0 2).aa .normal (gpI { p with a2 := (g1V (sb.take 48)) } (sb.drop 48) (g1E (sb.take 48)) 3).aa :=
 rM (os := oL [(66, rO 5 0), (80, rO 5 0), (98, wF)]) (by kernel_rfl) (ai (tU 2 3 rfl (sb := (sb.drop 48)) (e := (g1E (sb.take 48))) (a := ins p.ch 6 3 (pt1 (g1V (sb.take 48)))) (b := ({ p with a2 := (g1V (sb.take 48)) } : PF).ch) (by kernel_rfl)) (ai (eqz h) (ai (pZ hl) (ai (pZ hl) tt0))))
theorem ZT (p : PF) (sb : LU0) (e : Int) (hl : 48 <= sb.length) (h : (g1E (sb.take 48)) ≠ 0) : qB (gpI p sb 0 2).aa .normal (gpI { p with a2 := (g1V (sb.take 48)) } (sb.drop 48) (g1E (sb.take 48)) 3).aa :=
 rM (os := oL [(66, rO 5 0), (80, rO 5 0), (98, wT)]) (by kernel_rfl) (ai (tU 2 3 rfl (sb := (sb.drop 48)) (e := (g1E (sb.take 48))) (a := ins p.ch 6 3 (qS)) (b := ({ p with a2 := (g1V (sb.take 48)) } : PF).ch) (by rw [ry h]; kernel_rfl)) (ai (nez h) (ai (pZ hl) (ai (pZ hl) tt0))))
theorem abl (p : PF) (sb : LU0) (e : Int) (h : e ≠ 0) : qB (gpI p sb e 2).aa .normal (gpI { p with a2 := p1z } sb e 3).aa :=
 rM (os := oL [(59, wT)]) (by kernel_rfl) (ai (tU 2 3 rfl (sb := sb) (e := e) (a := ins p.ch 6 3 (qS)) (b := ({ p with a2 := p1z } : PF).ch) (by kernel_rfl)) (ai (nez h) tt0))
theorem aby (p : PF) (sb : LU0) (e : Int) (hl : 48 <= sb.length) (h : (g1E (sb.take 48)) = 0) : qB (gpI p sb 0 3).aa .normal (gpI { p with a3 := (g1V (sb.take 48)) } (sb.drop 48) (g1E (sb.take 48)) 4).aa :=
 rM (os := oL [(66, rO 5 0), (80, rO 5 0), (98, wF)]) (by kernel_rfl) (ai (tU 3 4 rfl (sb := (sb.drop 48)) (e := (g1E (sb.take 48))) (a := ins p.ch 9 3 (pt1 (g1V (sb.take 48)))) (b := ({ p with a3 := (g1V (sb.take 48)) } : PF).ch) (by kernel_rfl)) (ai (eqz h) (ai (pZ hl) (ai (pZ hl) tt0))))
theorem abC (p : PF) (sb : LU0) (e : Int) (hl : 48 <= sb.length) (h : (g1E (sb.take 48)) ≠ 0) : qB (gpI p sb 0 3).aa .normal (gpI { p with a3 := (g1V (sb.take 48)) } (sb.drop 48) (g1E (sb.take 48)) 4).aa :=
 rM (os := oL [(66, rO 5 0), (80, rO 5 0), (98, wT)]) (by kernel_rfl) (ai (tU 3 4 rfl (sb := (sb.drop 48)) (e := (g1E (sb.take 48))) (a := ins p.ch 9 3 (qS)) (b := ({ p with a3 := (g1V (sb.take 48)) } : PF).ch) (by rw [ry h]; kernel_rfl)) (ai (nez h) (ai (pZ hl) (ai (pZ hl) tt0))))
theorem aba (p : PF) (sb : LU0) (e : Int) (h : e ≠ 0) : qB (gpI p sb e 3).aa .normal (gpI { p with a3 := p1z } sb e 4).aa :=
 rM (os := oL [(59, wT)]) (by kernel_rfl) (ai (tU 3 4 rfl (sb := sb) (e := e) (a := ins p.ch 9 3 (qS)) (b := ({ p with a3 := p1z } : PF).ch) (by kernel_rfl)) (ai (nez h) tt0))
theorem aa1 (p : PF) (sb : LU0) (e : Int) (hl : 48 <= sb.length) (h : (g1E (sb.take 48)) = 0) : qB (gpI p sb 0 4).aa .normal (gpI { p with a4 := (g1V (sb.take 48)) } (sb.drop 48) (g1E (sb.take 48)) 5).aa :=
 rM (os := oL [(66, rO 5 0), (80, rO 5 0), (98, wF)]) (by kernel_rfl) (ai (tU 4 5 rfl (sb := (sb.drop 48)) (e := (g1E (sb.take 48))) (a := ins p.ch 12 3 (pt1 (g1V (sb.take 48)))) (b := ({ p with a4 := (g1V (sb.take 48)) } : PF).ch) (by kernel_rfl)) (ai (eqz h) (ai (pZ hl) (ai (pZ hl) tt0))))
theorem aa3 (p : PF) (sb : LU0) (e : Int) (hl : 48 <= sb.length) (h : (g1E (sb.take 48)) ≠ 0) : qB (gpI p sb 0 4).aa .normal (gpI { p with a4 := (g1V (sb.take 48)) } (sb.drop 48) (g1E (sb.take 48)) 5).aa :=
 rM (os := oL [(66, rO 5 0), (80, rO 5 0), (98, wT)]) (by kernel_rfl) (ai (tU 4 5 rfl (sb := (sb.drop 48)) (e := (g1E (sb.take 48))) (a := ins p.ch 12 3 (qS)) (b := ({ p with a4 := (g1V (sb.take 48)) } : PF).ch) (by rw [ry h]; kernel_rfl)) (ai (nez h) (ai (pZ hl) (ai (pZ hl) tt0))))
theorem aaU (p : PF) (sb : LU0) (e : Int) (h : e ≠ 0) : qB (gpI p sb e 4).aa .normal (gpI { p with a4 := p1z } sb e 5).aa :=
 rM (os := oL [(59, wT)]) (by kernel_rfl) (ai (tU 4 5 rfl (sb := sb) (e := e) (a := ins p.ch 12 3 (qS)) (b := ({ p with a4 := p1z } : PF).ch) (by kernel_rfl)) (ai (nez h) tt0))
theorem ZI (p : PF) (sb : LU0) (e : Int) (hl : 48 <= sb.length) (h : (g1E (sb.take 48)) = 0) : qB (gpI p sb 0 5).aa .normal (gpI { p with a5 := (g1V (sb.take 48)) } (sb.drop 48) (g1E (sb.take 48)) 6).aa :=
 rM (os := oL [(66, rO 5 0), (80, rO 5 0), (98, wF)]) (by kernel_rfl) (ai (tU 5 6 rfl (sb := (sb.drop 48)) (e := (g1E (sb.take 48))) (a := ins p.ch 15 3 (pt1 (g1V (sb.take 48)))) (b := ({ p with a5 := (g1V (sb.take 48)) } : PF).ch) (by kernel_rfl)) (ai (eqz h) (ai (pZ hl) (ai (pZ hl) tt0))))
theorem Zf (p : PF) (sb : LU0) (e : Int) (hl : 48 <= sb.length) (h : (g1E (sb.take 48)) ≠ 0) : qB (gpI p sb 0 5).aa .normal (gpI { p with a5 := (g1V (sb.take 48)) } (sb.drop 48) (g1E (sb.take 48)) 6).aa :=
 rM (os := oL [(66, rO 5 0), (80, rO 5 0), (98, wT)]) (by kernel_rfl) (ai (tU 5 6 rfl (sb := (sb.drop 48)) (e := (g1E (sb.take 48))) (a := ins p.ch 15 3 (qS)) (b := ({ p with a5 := (g1V (sb.take 48)) } : PF).ch) (by rw [ry h]; kernel_rfl)) (ai (nez h) (ai (pZ hl) (ai (pZ hl) tt0))))
theorem abG (p : PF) (sb : LU0) (e : Int) (h : e ≠ 0) : qB (gpI p sb e 5).aa .normal (gpI { p with a5 := p1z } sb e 6).aa :=
 rM (os := oL [(59, wT)]) (by kernel_rfl) (ai (tU 5 6 rfl (sb := sb) (e := e) (a := ins p.ch 15 3 (qS)) (b := ({ p with a5 := p1z } : PF).ch) (by kernel_rfl)) (ai (nez h) tt0))
theorem abF (p : PF) (sb : LU0) (e : Int) (hl : 48 <= sb.length) (h : (g1E (sb.take 48)) = 0) : qB (gpI p sb 0 6).aa .normal (gpI { p with a6 := (g1V (sb.take 48)) } (sb.drop 48) (g1E (sb.take 48)) 7).aa :=
 rM (os := oL [(66, rO 5 0), (80, rO 5 0), (98, wF)]) (by kernel_rfl) (ai (tU 6 7 rfl (sb := (sb.drop 48)) (e := (g1E (sb.take 48))) (a := ins p.ch 18 3 (pt1 (g1V (sb.take 48)))) (b := ({ p with a6 := (g1V (sb.take 48)) } : PF).ch) (by kernel_rfl)) (ai (eqz h) (ai (pZ hl) (ai (pZ hl) tt0))))
theorem ZJ (p : PF) (sb : LU0) (e : Int) (hl : 48 <= sb.length) (h : (g1E (sb.take 48)) ≠ 0) : qB (gpI p sb 0 6).aa .normal (gpI { p with a6 := (g1V (sb.take 48)) } (sb.drop 48) (g1E (sb.take 48)) 7).aa :=
 rM (os := oL [(66, rO 5 0), (80, rO 5 0), (98, wT)]) (by kernel_rfl) (ai (tU 6 7 rfl (sb := (sb.drop 48)) (e := (g1E (sb.take 48))) (a := ins p.ch 18 3 (qS)) (b := ({ p with a6 := (g1V (sb.take 48)) } : PF).ch) (by rw [ry h]; kernel_rfl)) (ai (nez h) (ai (pZ hl) (ai (pZ hl) tt0))))
theorem aaG (p : PF) (sb : LU0) (e : Int) (h : e ≠ 0) : qB (gpI p sb e 6).aa .normal (gpI { p with a6 := p1z } sb e 7).aa :=
 rM (os := oL [(59, wT)]) (by kernel_rfl) (ai (tU 6 7 rfl (sb := sb) (e := e) (a := ins p.ch 18 3 (qS)) (b := ({ p with a6 := p1z } : PF).ch) (by kernel_rfl)) (ai (nez h) tt0))
theorem Zu (p : PF) (sb : LU0) (e : Int) (hl : 48 <= sb.length) (h : (g1E (sb.take 48)) = 0) : qB (gpI p sb 0 7).aa .normal (gpI { p with a7 := (g1V (sb.take 48)) } (sb.drop 48) (g1E (sb.take 48)) 8).aa :=
 rM (os := oL [(66, rO 5 0), (80, rO 5 0), (98, wF)]) (by kernel_rfl) (ai (tU 7 8 rfl (sb := (sb.drop 48)) (e := (g1E (sb.take 48))) (a := ins p.ch 21 3 (pt1 (g1V (sb.take 48)))) (b := ({ p with a7 := (g1V (sb.take 48)) } : PF).ch) (by kernel_rfl)) (ai (eqz h) (ai (pZ hl) (ai (pZ hl) tt0))))
theorem acD (p : PF) (sb : LU0) (e : Int) (hl : 48 <= sb.length) (h : (g1E (sb.take 48)) ≠ 0) : qB (gpI p sb 0 7).aa .normal (gpI { p with a7 := (g1V (sb.take 48)) } (sb.drop 48) (g1E (sb.take 48)) 8).aa :=
 rM (os := oL [(66, rO 5 0), (80, rO 5 0), (98, wT)]) (by kernel_rfl) (ai (tU 7 8 rfl (sb := (sb.drop 48)) (e := (g1E (sb.take 48))) (a := ins p.ch 21 3 (qS)) (b := ({ p with a7 := (g1V (sb.take 48)) } : PF).ch) (by rw [ry h]; kernel_rfl)) (ai (nez h) (ai (pZ hl) (ai (pZ hl) tt0))))
theorem ab6 (p : PF) (sb : LU0) (e : Int) (h : e ≠ 0) : qB (gpI p sb e 7).aa .normal (gpI { p with a7 := p1z } sb e 8).aa :=
 rM (os := oL [(59, wT)]) (by kernel_rfl) (ai (tU 7 8 rfl (sb := sb) (e := e) (a := ins p.ch 21 3 (qS)) (b := ({ p with a7 := p1z } : PF).ch) (by kernel_rfl)) (ai (nez h) tt0))
theorem ZE (p : PF) (sb : LU0) (e : Int) (hl : 48 <= sb.length) (h : (g1E (sb.take 48)) = 0) : qB (gpI p sb 0 8).aa .normal (gpI { p with a8 := (g1V (sb.take 48)) } (sb.drop 48) (g1E (sb.take 48)) 9).aa :=
 rM (os := oL [(66, rO 5 0), (80, rO 5 0), (98, wF)]) (by kernel_rfl) (ai (tU 8 9 rfl (sb := (sb.drop 48)) (e := (g1E (sb.take 48))) (a := ins p.ch 24 3 (pt1 (g1V (sb.take 48)))) (b := ({ p with a8 := (g1V (sb.take 48)) } : PF).ch) (by kernel_rfl)) (ai (eqz h) (ai (pZ hl) (ai (pZ hl) tt0))))
theorem ZD (p : PF) (sb : LU0) (e : Int) (hl : 48 <= sb.length) (h : (g1E (sb.take 48)) ≠ 0) : qB (gpI p sb 0 8).aa .normal (gpI { p with a8 := (g1V (sb.take 48)) } (sb.drop 48) (g1E (sb.take 48)) 9).aa :=
 rM (os := oL [(66, rO 5 0), (80, rO 5 0), (98, wT)]) (by kernel_rfl) (ai (tU 8 9 rfl (sb := (sb.drop 48)) (e := (g1E (sb.take 48))) (a := ins p.ch 24 3 (qS)) (b := ({ p with a8 := (g1V (sb.take 48)) } : PF).ch) (by rw [ry h]; kernel_rfl)) (ai (nez h) (ai (pZ hl) (ai (pZ hl) tt0))))
theorem ZM (p : PF) (sb : LU0) (e : Int) (h : e ≠ 0) : qB (gpI p sb e 8).aa .normal (gpI { p with a8 := p1z } sb e 9).aa :=
 rM (os := oL [(59, wT)]) (by kernel_rfl) (ai (tU 8 9 rfl (sb := sb) (e := e) (a := ins p.ch 24 3 (qS)) (b := ({ p with a8 := p1z } : PF).ch) (by kernel_rfl)) (ai (nez h) tt0))
abbrev rl (a : AA) (e : Ex) (b : AA) : Prop := Sound prog 0 false (qc f6 1) a e b
theorem ab4 (p : PF) (sb : LU0) (e : Int) (hl : 32 <= sb.length) (h : (gfE (sb.take 32)) = 0) : rl (gpK p sb 0 0).aa .normal (gpK { p with f0 := (gfV (sb.take 32)) } (sb.drop 32) (gfE (sb.take 32)) 1).aa :=
 rM (os := oL [(66, rO 5 0), (80, rO 5 0), (98, wF)]) (by kernel_rfl) (ai (xh 0 1 rfl (sb := (sb.drop 32)) (e := (gfE (sb.take 32))) (a := ins p.ch 27 1 ([.n 4 (gfV (sb.take 32))])) (b := ({ p with f0 := (gfV (sb.take 32)) } : PF).ch) (by kernel_rfl)) (ai (eqz h) (ai (pZ hl) (ai (pZ hl) tt0))))
theorem acm (p : PF) (sb : LU0) (e : Int) (hl : 32 <= sb.length) (h : (gfE (sb.take 32)) ≠ 0) : rl (gpK p sb 0 0).aa .normal (gpK { p with f0 := (gfV (sb.take 32)) } (sb.drop 32) (gfE (sb.take 32)) 1).aa :=
 rM (os := oL [(66, rO 5 0), (80, rO 5 0), (98, wT)]) (by kernel_rfl) (ai (xh 0 1 rfl (sb := (sb.drop 32)) (e := (gfE (sb.take 32))) (a := ins p.ch 27 1 (z4L)) (b := ({ p with f0 := (gfV (sb.take 32)) } : PF).ch) (by rw [rI h]; kernel_rfl)) (ai (nez h) (ai (pZ hl) (ai (pZ hl) tt0))))
theorem aaw (p : PF) (sb : LU0) (e : Int) (h : e ≠ 0) : rl (gpK p sb e 0).aa .normal (gpK { p with f0 := 0 } sb e 1).aa :=
 rM (os := oL [(59, wT)]) (by kernel_rfl) (ai (xh 0 1 rfl (sb := sb) (e := e) (a := ins p.ch 27 1 (z4L)) (b := ({ p with f0 := 0 } : PF).ch) (by kernel_rfl)) (ai (nez h) tt0))
theorem abx (p : PF) (sb : LU0) (e : Int) (hl : 32 <= sb.length) (h : (gfE (sb.take 32)) = 0) : rl (gpK p sb 0 1).aa .normal (gpK { p with f1 := (gfV (sb.take 32)) } (sb.drop 32) (gfE (sb.take 32)) 2).aa :=
 rM (os := oL [(66, rO 5 0), (80, rO 5 0), (98, wF)]) (by kernel_rfl) (ai (xh 1 2 rfl (sb := (sb.drop 32)) (e := (gfE (sb.take 32))) (a := ins p.ch 28 1 ([.n 4 (gfV (sb.take 32))])) (b := ({ p with f1 := (gfV (sb.take 32)) } : PF).ch) (by kernel_rfl)) (ai (eqz h) (ai (pZ hl) (ai (pZ hl) tt0))))
theorem ZW (p : PF) (sb : LU0) (e : Int) (hl : 32 <= sb.length) (h : (gfE (sb.take 32)) ≠ 0) : rl (gpK p sb 0 1).aa .normal (gpK { p with f1 := (gfV (sb.take 32)) } (sb.drop 32) (gfE (sb.take 32)) 2).aa :=
 rM (os := oL [(66, rO 5 0), (80, rO 5 0), (98, wT)]) (by kernel_rfl) (ai (xh 1 2 rfl (sb := (sb.drop 32)) (e := (gfE (sb.take 32))) (a := ins p.ch 28 1 (z4L)) (b := ({ p with f1 := (gfV (sb.take 32)) } : PF).ch) (by rw [rI h]; kernel_rfl)) (ai (nez h) (ai (pZ hl) (ai (pZ hl) tt0))))
theorem abY (p : PF) (sb : LU0) (e : Int) (h : e ≠ 0) : rl (gpK p sb e 1).aa .normal (gpK { p with f1 := 0 } sb e 2).aa :=
 rM (os := oL [(59, wT)]) (by kernel_rfl) (ai (xh 1 2 rfl (sb := sb) (e := e) (a := ins p.ch 28 1 (z4L)) (b := ({ p with f1 := 0 } : PF).ch) (by kernel_rfl)) (ai (nez h) tt0))
theorem aan (p : PF) (sb : LU0) (e : Int) (hl : 32 <= sb.length) (h : (gfE (sb.take 32)) = 0) : rl (gpK p sb 0 2).aa .normal (gpK { p with f2 := (gfV (sb.take 32)) } (sb.drop 32) (gfE (sb.take 32)) 3).aa :=
 rM (os := oL [(66, rO 5 0), (80, rO 5 0), (98, wF)]) (by kernel_rfl) (ai (xh 2 3 rfl (sb := (sb.drop 32)) (e := (gfE (sb.take 32))) (a := ins p.ch 29 1 ([.n 4 (gfV (sb.take 32))])) (b := ({ p with f2 := (gfV (sb.take 32)) } : PF).ch) (by kernel_rfl)) (ai (eqz h) (ai (pZ hl) (ai (pZ hl) tt0))))
theorem abO (p : PF) (sb : LU0) (e : Int) (hl : 32 <= sb.length) (h : (gfE (sb.take 32)) ≠ 0) : rl (gpK p sb 0 2).aa .normal (gpK { p with f2 := (gfV (sb.take 32)) } (sb.drop 32) (gfE (sb.take 32)) 3).aa :=
 rM (os := oL [(66, rO 5 0), (80, rO 5 0), (98, wT)]) (by kernel_rfl) (ai (xh 2 3 rfl (sb := (sb.drop 32)) (e := (gfE (sb.take 32))) (a := ins p.ch 29 1 (z4L)) (b := ({ p with f2 := (gfV (sb.take 32)) } : PF).ch) (by rw [rI h]; kernel_rfl)) (ai (nez h) (ai (pZ hl) (ai (pZ hl) tt0))))
theorem abc (p : PF) (sb : LU0) (e : Int) (h : e ≠ 0) : rl (gpK p sb e 2).aa .normal (gpK { p with f2 := 0 } sb e 3).aa :=
 rM (os := oL [(59, wT)]) (by kernel_rfl) (ai (xh 2 3 rfl (sb := sb) (e := e) (a := ins p.ch 29 1 (z4L)) (b := ({ p with f2 := 0 } : PF).ch) (by kernel_rfl)) (ai (nez h) tt0))
theorem ab3 (p : PF) (sb : LU0) (e : Int) (hl : 32 <= sb.length) (h : (gfE (sb.take 32)) = 0) : rl (gpK p sb 0 3).aa .normal (gpK { p with f3 := (gfV (sb.take 32)) } (sb.drop 32) (gfE (sb.take 32)) 4).aa :=
 rM (os := oL [(66, rO 5 0), (80, rO 5 0), (98, wF)]) (by kernel_rfl) (ai (xh 3 4 rfl (sb := (sb.drop 32)) (e := (gfE (sb.take 32))) (a := ins p.ch 30 1 ([.n 4 (gfV (sb.take 32))])) (b := ({ p with f3 := (gfV (sb.take 32)) } : PF).ch) (by kernel_rfl)) (ai (eqz h) (ai (pZ hl) (ai (pZ hl) tt0))))
theorem aa2 (p : PF) (sb : LU0) (e : Int) (hl : 32 <= sb.length) (h : (gfE (sb.take 32)) ≠ 0) : rl (gpK p sb 0 3).aa .normal (gpK { p with f3 := (gfV (sb.take 32)) } (sb.drop 32) (gfE (sb.take 32)) 4).aa :=
 rM (os := oL [(66, rO 5 0), (80, rO 5 0), (98, wT)]) (by kernel_rfl) (ai (xh 3 4 rfl (sb := (sb.drop 32)) (e := (gfE (sb.take 32))) (a := ins p.ch 30 1 (z4L)) (b := ({ p with f3 := (gfV (sb.take 32)) } : PF).ch) (by rw [rI h]; kernel_rfl)) (ai (nez h) (ai (pZ hl) (ai (pZ hl) tt0))))
theorem abf (p : PF) (sb : LU0) (e : Int) (h : e ≠ 0) : rl (gpK p sb e 3).aa .normal (gpK { p with f3 := 0 } sb e 4).aa :=
 rM (os := oL [(59, wT)]) (by kernel_rfl) (ai (xh 3 4 rfl (sb := sb) (e := e) (a := ins p.ch 30 1 (z4L)) (b := ({ p with f3 := 0 } : PF).ch) (by kernel_rfl)) (ai (nez h) tt0))
theorem ZA (p : PF) (sb : LU0) (e : Int) (hl : 32 <= sb.length) (h : (gfE (sb.take 32)) = 0) : rl (gpK p sb 0 4).aa .normal (gpK { p with f4 := (gfV (sb.take 32)) } (sb.drop 32) (gfE (sb.take 32)) 5).aa :=
 rM (os := oL [(66, rO 5 0), (80, rO 5 0), (98, wF)]) (by kernel_rfl) (ai (xh 4 5 rfl (sb := (sb.drop 32)) (e := (gfE (sb.take 32))) (a := ins p.ch 31 1 ([.n 4 (gfV (sb.take 32))])) (b := ({ p with f4 := (gfV (sb.take 32)) } : PF).ch) (by kernel_rfl)) (ai (eqz h) (ai (pZ hl) (ai (pZ hl) tt0))))
theorem abR (p : PF) (sb : LU0) (e : Int) (hl : 32 <= sb.length) (h : (gfE (sb.take 32)) ≠ 0) : rl (gpK p sb 0 4).aa .normal (gpK { p with f4 := (gfV (sb.take 32)) } (sb.drop 32) (gfE (sb.take 32)) 5).aa :=
 rM (os := oL [(66, rO 5 0), (80, rO 5 0), (98, wT)]) (by kernel_rfl) (ai (xh 4 5 rfl (sb := (sb.drop 32)) (e := (gfE (sb.take 32))) (a := ins p.ch 31 1 (z4L)) (b := ({ p with f4 := (gfV (sb.take 32)) } : PF).ch) (by rw [rI h]; kernel_rfl)) (ai (nez h) (ai (pZ hl) (ai (pZ hl) tt0))))
theorem abI (p : PF) (sb : LU0) (e : Int) (h : e ≠ 0) : rl (gpK p sb e 4).aa .normal (gpK { p with f4 := 0 } sb e 5).aa :=
 rM (os := oL [(59, wT)]) (by kernel_rfl) (ai (xh 4 5 rfl (sb := sb) (e := e) (a := ins p.ch 31 1 (z4L)) (b := ({ p with f4 := 0 } : PF).ch) (by kernel_rfl)) (ai (nez h) tt0))
theorem abk (p : PF) (sb : LU0) (e : Int) (hl : 32 <= sb.length) (h : (gfE (sb.take 32)) = 0) : rl (gpK p sb 0 5).aa .normal (gpK { p with f5 := (gfV (sb.take 32)) } (sb.drop 32) (gfE (sb.take 32)) 6).aa :=
 rM (os := oL [(66, rO 5 0), (80, rO 5 0), (98, wF)]) (by kernel_rfl) (ai (xh 5 6 rfl (sb := (sb.drop 32)) (e := (gfE (sb.take 32))) (a := ins p.ch 32 1 ([.n 4 (gfV (sb.take 32))])) (b := ({ p with f5 := (gfV (sb.take 32)) } : PF).ch) (by kernel_rfl)) (ai (eqz h) (ai (pZ hl) (ai (pZ hl) tt0))))
theorem acs (p : PF) (sb : LU0) (e : Int) (hl : 32 <= sb.length) (h : (gfE (sb.take 32)) ≠ 0) : rl (gpK p sb 0 5).aa .normal (gpK { p with f5 := (gfV (sb.take 32)) } (sb.drop 32) (gfE (sb.take 32)) 6).aa :=
 rM (os := oL [(66, rO 5 0), (80, rO 5 0), (98, wT)]) (by kernel_rfl) (ai (xh 5 6 rfl (sb := (sb.drop 32)) (e := (gfE (sb.take 32))) (a := ins p.ch 32 1 (z4L)) (b := ({ p with f5 := (gfV (sb.take 32)) } : PF).ch) (by rw [rI h]; kernel_rfl)) (ai (nez h) (ai (pZ hl) (ai (pZ hl) tt0))))
theorem aaO (p : PF) (sb : LU0) (e : Int) (h : e ≠ 0) : rl (gpK p sb e 5).aa .normal (gpK { p with f5 := 0 } sb e 6).aa :=
 rM (os := oL [(59, wT)]) (by kernel_rfl) (ai (xh 5 6 rfl (sb := sb) (e := e) (a := ins p.ch 32 1 (z4L)) (b := ({ p with f5 := 0 } : PF).ch) (by kernel_rfl)) (ai (nez h) tt0))
end Go.Proofs.YtokjhbmmdmeafaaGreat
set_option linter.unusedSimpArgs false
set_option linter.unusedVariables false
namespace Go.Proofs.YtokjhbmmdmeafaaGreat
open Go.Ev Go.RowKit
open Tryz
theorem adS (p : PF) (st : Int × LU0) (hl : st.1 = 0 -> 48 <= st.2.length) : qB (gpI p st.2 st.1 0).aa .normal (gpI { p with a0 := rvl 48 g1V p1z st } (rst 48 g1E st).2 (rst 48 g1E st).1 1).aa := by
 obtain ⟨e, sb⟩ := st
 by_cases h : e = 0
 ·subst h
  by_cases h1 : g1E (sb.take 48) = 0
  ·exact abj p sb 0 (hl rfl) h1
  ·exact ZH p sb 0 (hl rfl) h1
 ·rw [show rst 48 g1E (e, sb) = (e, sb) from if_neg h, show rvl 48 g1V p1z (e, sb) = p1z from if_neg h]
  exact aad p sb e h
theorem ac2 (p : PF) (st : Int × LU0) (hl : st.1 = 0 -> 48 <= st.2.length) : qB (gpI p st.2 st.1 1).aa .normal (gpI { p with a1 := rvl 48 g1V p1z st } (rst 48 g1E st).2 (rst 48 g1E st).1 2).aa := by
 obtain ⟨e, sb⟩ := st
 by_cases h : e = 0
 ·subst h
  by_cases h1 : g1E (sb.take 48) = 0
  ·exact ab0 p sb 0 (hl rfl) h1
  ·exact aav p sb 0 (hl rfl) h1
 ·rw [show rst 48 g1E (e, sb) = (e, sb) from if_neg h, show rvl 48 g1V p1z (e, sb) = p1z from if_neg h]
  exact aaC p sb e h
theorem adj (p : PF) (st : Int × LU0) (hl : st.1 = 0 -> 48 <= st.2.length) : qB (gpI p st.2 st.1 2).aa .normal (gpI { p with a2 := rvl 48 g1V p1z st } (rst 48 g1E st).2 (rst 48 g1E st).1 3).aa := by
 obtain ⟨e, sb⟩ := st
 by_cases h : e = 0
 ·subst h
  by_cases h1 : g1E (sb.take 48) = 0
  ·exact aa4 p sb 0 (hl rfl) h1
  ·exact ZT p sb 0 (hl rfl) h1
 ·rw [show rst 48 g1E (e, sb) = (e, sb) from if_neg h, show rvl 48 g1V p1z (e, sb) = p1z from if_neg h]
  exact abl p sb e h
theorem adM (p : PF) (st : Int × LU0) (hl : st.1 = 0 -> 48 <= st.2.length) : qB (gpI p st.2 st.1 3).aa .normal (gpI { p with a3 := rvl 48 g1V p1z st } (rst 48 g1E st).2 (rst 48 g1E st).1 4).aa := by
 obtain ⟨e, sb⟩ := st
 by_cases h : e = 0
 ·subst h
  by_cases h1 : g1E (sb.take 48) = 0
  ·exact aby p sb 0 (hl rfl) h1
  ·exact abC p sb 0 (hl rfl) h1
 ·rw [show rst 48 g1E (e, sb) = (e, sb) from if_neg h, show rvl 48 g1V p1z (e, sb) = p1z from if_neg h]
  exact aba p sb e h
theorem adO (p : PF) (st : Int × LU0) (hl : st.1 = 0 -> 48 <= st.2.length) : qB (gpI p st.2 st.1 4).aa .normal (gpI { p with a4 := rvl 48 g1V p1z st } (rst 48 g1E st).2 (rst 48 g1E st).1 5).aa := by
 obtain ⟨e, sb⟩ := st
 by_cases h : e = 0
 ·subst h
  by_cases h1 : g1E (sb.take 48) = 0
  ·exact aa1 p sb 0 (hl rfl) h1
  ·exact aa3 p sb 0 (hl rfl) h1
 ·rw [show rst 48 g1E (e, sb) = (e, sb) from if_neg h, show rvl 48 g1V p1z (e, sb) = p1z from if_neg h]
  exact aaU p sb e h
theorem ac7 (p : PF) (st : Int × LU0) (hl : st.1 = 0 -> 48 <= st.2.length) : qB (gpI p st.2 st.1 5).aa .normal (gpI { p with a5 := rvl 48 g1V p1z st } (rst 48 g1E st).2 (rst 48 g1E st).1 6).aa := by
 obtain ⟨e, sb⟩ := st
 by_cases h : e = 0
 ·subst h
  by_cases h1 : g1E (sb.take 48) = 0
  ·exact ZI p sb 0 (hl rfl) h1
  ·exact Zf p sb 0 (hl rfl) h1
 ·rw [show rst 48 g1E (e, sb) = (e, sb) from if_neg h, show rvl 48 g1V p1z (e, sb) = p1z from if_neg h]
  exact abG p sb e h
theorem acW (p : PF) (st : Int × LU0) (hl : st.1 = 0 -> 48 <= st.2.length) : qB (gpI p st.2 st.1 6).aa .normal (gpI { p with a6 := rvl 48 g1V p1z st } (rst 48 g1E st).2 (rst 48 g1E st).1 7).aa := by
 obtain ⟨e, sb⟩ := st
 by_cases h : e = 0
 ·subst h
  by_cases h1 : g1E (sb.take 48) = 0
  ·exact abF p sb 0 (hl rfl) h1
  ·exact ZJ p sb 0 (hl rfl) h1
 ·rw [show rst 48 g1E (e, sb) = (e, sb) from if_neg h, show rvl 48 g1V p1z (e, sb) = p1z from if_neg h]
  exact aaG p sb e h
theorem ady (p : PF) (st : Int × LU0) (hl : st.1 = 0 -> 48 <= st.2.length) : qB (gpI p st.2 st.1 7).aa .normal (gpI { p with a7 := rvl 48 g1V p1z st } (rst 48 g1E st).2 (rst 48 g1E st).1 8).aa := by
 obtain ⟨e, sb⟩ := st
 by_cases h : e = 0
 ·subst h
  by_cases h1 : g1E (sb.take 48) = 0
  ·exact Zu p sb 0 (hl rfl) h1
  ·exact acD p sb 0 (hl rfl) h1
 ·rw [show rst 48 g1E (e, sb) = (e, sb) from if_neg h, show rvl 48 g1V p1z (e, sb) = p1z from if_neg h]
  exact ab6 p sb e h
theorem acN (p : PF) (st : Int × LU0) (hl : st.1 = 0 -> 48 <= st.2.length) : qB (gpI p st.2 st.1 8).aa .normal (gpI { p with a8 := rvl 48 g1V p1z st } (rst 48 g1E st).2 (rst 48 g1E st).1 9).aa := by
 obtain ⟨e, sb⟩ := st
 by_cases h : e = 0
 ·subst h
  by_cases h1 : g1E (sb.take 48) = 0
  ·exact ZE p sb 0 (hl rfl) h1
  ·exact ZD p sb 0 (hl rfl) h1
 ·rw [show rst 48 g1E (e, sb) = (e, sb) from if_neg h, show rvl 48 g1V p1z (e, sb) = p1z from if_neg h]
  exact ZM p sb e h
def ppA (V : Nat -> A1) (i : Nat) : PF := ⟨if 0 < i then V 0 else p1z, if 1 < i then V 1 else p1z, if 2 < i then V 2 else p1z, if 3 < i then V 3 else p1z, if 4 < i then V 4 else p1z, if 5 < i then V 5 else p1z, if 6 < i then V 6 else p1z, if 7 < i then V 7 else p1z, if 8 < i then V 8 else p1z, 0, 0, 0, 0, 0, 0⟩
theorem SP (st : Int × LU0) (h0 : st.1 = 0 -> 624 <= st.2.length) (i : Nat) (hi : i < 9) : (nst 48 g1E i st).1 = 0 -> 48 <= (nst 48 g1E i st).2.length := by
 intro h
 obtain ⟨e, sb⟩ := st
 obtain ⟨h1, h2, _⟩ := rq i (e, sb) h
 have h1 : e = 0 := h1
 subst h1
 have h4 : 624 <= sb.length := h0 rfl
 rw [h2]
 show 48 <= (sb.drop (48 * i)).length
 rw [List.length_drop]
 omega
theorem Rt {c : Code} {I L : LState} {ex : Ex} {b : Prop} (o : LO0) (k : Nat) (sk hk : List Nat) (hb : b) (h : uG prog (qa _) [] 0 (oL o) 0 false c k I sk hk [] = some (ex, L, b) := by kernel_rfl) : Sound prog 0 false c I.aa ex L.aa := p9 (P := prog) (X := qa _) (env := []) trivial h hb
theorem Vq (p : PF) (sb : LU0) (e : Int) : qB (gpI p sb e 9).aa (.exit 0) (gpE p sb e).aa :=
 Rt [] 47 [2, 4, 5] [0, 23, 35] trivial
theorem S1 (st : Int × LU0) (h0 : st.1 = 0 -> 624 <= st.2.length) : Sound prog 0 false (.loop (qc f6 0)) (gpI (ppA (fun j => rvl 48 g1V p1z (nst 48 g1E j st)) 0) st.2 st.1 0).aa (.exit 0) (gpE (ppA (fun j => rvl 48 g1V p1z (nst 48 g1E j st)) 9) (nst 48 g1E 9 st).2 (nst 48 g1E 9 st).1).aa := by
 have hh := qw (P := prog) (fb := 0) (rd := false) (body := (qc f6 0)) (ex := .exit 0) (E := gpE (ppA (fun j => rvl 48 g1V p1z (nst 48 g1E j st)) 9) (nst 48 g1E 9 st).2 (nst 48 g1E 9 st).1) (m := fun y : { i : Nat // i <= 9 } => 9 - y.val) (fun y => gpI (ppA (fun j => rvl 48 g1V p1z (nst 48 g1E j st)) y.val) (nst 48 g1E y.val st).2 (nst 48 g1E y.val st).1 (y.val : Int)) (by simp) (fun y => ?_) ⟨0, by omega⟩
 ·exact hh
 obtain ⟨i, hi⟩ := y
 by_cases e : i < 9
 ·refine .inl ⟨⟨i + 1, e⟩, by show 9 - (i + 1) < 9 - i; omega, ?_⟩
  have hl := SP st h0 i e
  have e : i = 0 ∨ i = 1 ∨ i = 2 ∨ i = 3 ∨ i = 4 ∨ i = 5 ∨ i = 6 ∨ i = 7 ∨ i = 8 := by omega
  rcases e with rfl | rfl | rfl | rfl | rfl | rfl | rfl | rfl | rfl
  ·exact adS (ppA (fun j => rvl 48 g1V p1z (nst 48 g1E j st)) 0) (nst 48 g1E 0 st) hl
  ·exact ac2 (ppA (fun j => rvl 48 g1V p1z (nst 48 g1E j st)) 1) (nst 48 g1E 1 st) hl
  ·exact adj (ppA (fun j => rvl 48 g1V p1z (nst 48 g1E j st)) 2) (nst 48 g1E 2 st) hl
  ·exact adM (ppA (fun j => rvl 48 g1V p1z (nst 48 g1E j st)) 3) (nst 48 g1E 3 st) hl
  ·exact adO (ppA (fun j => rvl 48 g1V p1z (nst 48 g1E j st)) 4) (nst 48 g1E 4 st) hl
  ·exact ac7 (ppA (fun j => rvl 48 g1V p1z (nst 48 g1E j st)) 5) (nst 48 g1E 5 st) hl
  ·exact acW (ppA (fun j => rvl 48 g1V p1z (nst 48 g1E j st)) 6) (nst 48 g1E 6 st) hl
  ·exact ady (ppA (fun j => rvl 48 g1V p1z (nst 48 g1E j st)) 7) (nst 48 g1E 7 st) hl
  ·exact acN (ppA (fun j => rvl 48 g1V p1z (nst 48 g1E j st)) 8) (nst 48 g1E 8 st) hl
 ·have e : i = 9 := by omega
  subst e
  exact .inr (Vq _ _ _)
theorem adn (p : PF) (st : Int × LU0) (hl : st.1 = 0 -> 32 <= st.2.length) : rl (gpK p st.2 st.1 0).aa .normal (gpK { p with f0 := rvl 32 gfV 0 st } (rst 32 gfE st).2 (rst 32 gfE st).1 1).aa := by
 obtain ⟨e, sb⟩ := st
 by_cases h : e = 0
 ·subst h
  by_cases h1 : gfE (sb.take 32) = 0
  ·exact ab4 p sb 0 (hl rfl) h1
  ·exact acm p sb 0 (hl rfl) h1
 ·rw [show rst 32 gfE (e, sb) = (e, sb) from if_neg h, show rvl 32 gfV 0 (e, sb) = 0 from if_neg h]
  exact aaw p sb e h
theorem aed (p : PF) (st : Int × LU0) (hl : st.1 = 0 -> 32 <= st.2.length) : rl (gpK p st.2 st.1 1).aa .normal (gpK { p with f1 := rvl 32 gfV 0 st } (rst 32 gfE st).2 (rst 32 gfE st).1 2).aa := by
 obtain ⟨e, sb⟩ := st
 by_cases h : e = 0
 ·subst h
  by_cases h1 : gfE (sb.take 32) = 0
  ·exact abx p sb 0 (hl rfl) h1
  ·exact ZW p sb 0 (hl rfl) h1
 ·rw [show rst 32 gfE (e, sb) = (e, sb) from if_neg h, show rvl 32 gfV 0 (e, sb) = 0 from if_neg h]
  exact abY p sb e h
theorem ad3 (p : PF) (st : Int × LU0) (hl : st.1 = 0 -> 32 <= st.2.length) : rl (gpK p st.2 st.1 2).aa .normal (gpK { p with f2 := rvl 32 gfV 0 st } (rst 32 gfE st).2 (rst 32 gfE st).1 3).aa := by
 obtain ⟨e, sb⟩ := st
 by_cases h : e = 0
 ·subst h
  by_cases h1 : gfE (sb.take 32) = 0
  ·exact aan p sb 0 (hl rfl) h1
  ·exact abO p sb 0 (hl rfl) h1
 ·rw [show rst 32 gfE (e, sb) = (e, sb) from if_neg h, show rvl 32 gfV 0 (e, sb) = 0 from if_neg h]
  exact abc p sb e h
theorem ac3 (p : PF) (st : Int × LU0) (hl : st.1 = 0 -> 32 <= st.2.length) : rl (gpK p st.2 st.1 3).aa .normal (gpK { p with f3 := rvl 32 gfV 0 st } (rst 32 gfE st).2 (rst 32 gfE st).1 4).aa := by
 obtain ⟨e, sb⟩ := st
 by_cases h : e = 0
 ·subst h
  by_cases h1 : gfE (sb.take 32) = 0
  ·exact ab3 p sb 0 (hl rfl) h1
  ·exact aa2 p sb 0 (hl rfl) h1
 ·rw [show rst 32 gfE (e, sb) = (e, sb) from if_neg h, show rvl 32 gfV 0 (e, sb) = 0 from if_neg h]
  exact abf p sb e h
theorem adU (p : PF) (st : Int × LU0) (hl : st.1 = 0 -> 32 <= st.2.length) : rl (gpK p st.2 st.1 4).aa .normal (gpK { p with f4 := rvl 32 gfV 0 st } (rst 32 gfE st).2 (rst 32 gfE st).1 5).aa := by
 obtain ⟨e, sb⟩ := st
 by_cases h : e = 0
 ·subst h
  by_cases h1 : gfE (sb.take 32) = 0
  ·exact ZA p sb 0 (hl rfl) h1
  ·exact abR p sb 0 (hl rfl) h1
 ·rw [show rst 32 gfE (e, sb) = (e, sb) from if_neg h, show rvl 32 gfV 0 (e, sb) = 0 from if_neg h]
  exact abI p sb e h
theorem ad7 (p : PF) (st : Int × LU0) (hl : st.1 = 0 -> 32 <= st.2.length) : rl (gpK p st.2 st.1 5).aa .normal (gpK { p with f5 := rvl 32 gfV 0 st } (rst 32 gfE st).2 (rst 32 gfE st).1 6).aa := by
 obtain ⟨e, sb⟩ := st
 by_cases h : e = 0
 ·subst h
  by_cases h1 : gfE (sb.take 32) = 0
  ·exact abk p sb 0 (hl rfl) h1
  ·exact acs p sb 0 (hl rfl) h1
 ·rw [show rst 32 gfE (e, sb) = (e, sb) from if_neg h, show rvl 32 gfV 0 (e, sb) = 0 from if_neg h]
  exact aaO p sb e h
def ppB (p : PF) (W : Nat -> Nat) (i : Nat) : PF := { p with f0 := if 0 < i then W 0 else p.f0, f1 := if 1 < i then W 1 else p.f1, f2 := if 2 < i then W 2 else p.f2, f3 := if 3 < i then W 3 else p.f3, f4 := if 4 < i then W 4 else p.f4, f5 := if 5 < i then W 5 else p.f5 }
theorem Uy (p : PF) (st : Int × LU0) (h0 : st.1 = 0 -> 192 <= st.2.length) (i : Nat) (hi : i < 6) : (nst 32 gfE i st).1 = 0 -> 32 <= (nst 32 gfE i st).2.length := by
 intro h
 obtain ⟨e, sb⟩ := st
 obtain ⟨h1, h2, _⟩ := rq i (e, sb) h
 have h1 : e = 0 := h1
 subst h1
 have h4 : 192 <= sb.length := h0 rfl
 rw [h2]
 show 32 <= (sb.drop (32 * i)).length
 rw [List.length_drop]
 omega
theorem Vi (p : PF) (sb : LU0) (e : Int) : rl (gpK p sb e 6).aa (.exit 2) (gpE p sb e).aa :=
 Rt [] 47 [2, 4, 5] [0, 23, 35] trivial
theorem Uw (p : PF) (st : Int × LU0) (h0 : st.1 = 0 -> 192 <= st.2.length) : Sound prog 0 false (.loop (qc f6 1)) (gpK (ppB p (fun j => rvl 32 gfV 0 (nst 32 gfE j st)) 0) st.2 st.1 0).aa (.exit 2) (gpE (ppB p (fun j => rvl 32 gfV 0 (nst 32 gfE j st)) 6) (nst 32 gfE 6 st).2 (nst 32 gfE 6 st).1).aa := by
 have hh := qw (P := prog) (fb := 0) (rd := false) (body := (qc f6 1)) (ex := .exit 2) (E := gpE (ppB p (fun j => rvl 32 gfV 0 (nst 32 gfE j st)) 6) (nst 32 gfE 6 st).2 (nst 32 gfE 6 st).1) (m := fun y : { i : Nat // i <= 6 } => 6 - y.val) (fun y => gpK (ppB p (fun j => rvl 32 gfV 0 (nst 32 gfE j st)) y.val) (nst 32 gfE y.val st).2 (nst 32 gfE y.val st).1 (y.val : Int)) (by simp) (fun y => ?_) ⟨0, by omega⟩
 ·exact hh
 obtain ⟨i, hi⟩ := y
 by_cases e : i < 6
 ·refine .inl ⟨⟨i + 1, e⟩, by show 6 - (i + 1) < 6 - i; omega, ?_⟩
  have hl := Uy p st h0 i e
  have e : i = 0 ∨ i = 1 ∨ i = 2 ∨ i = 3 ∨ i = 4 ∨ i = 5 := by omega
  rcases e with rfl | rfl | rfl | rfl | rfl | rfl
  ·exact adn (ppB p (fun j => rvl 32 gfV 0 (nst 32 gfE j st)) 0) (nst 32 gfE 0 st) hl
  ·exact aed (ppB p (fun j => rvl 32 gfV 0 (nst 32 gfE j st)) 1) (nst 32 gfE 1 st) hl
  ·exact ad3 (ppB p (fun j => rvl 32 gfV 0 (nst 32 gfE j st)) 2) (nst 32 gfE 2 st) hl
  ·exact ac3 (ppB p (fun j => rvl 32 gfV 0 (nst 32 gfE j st)) 3) (nst 32 gfE 3 st) hl
  ·exact adU (ppB p (fun j => rvl 32 gfV 0 (nst 32 gfE j st)) 4) (nst 32 gfE 4 st) hl
  ·exact ad7 (ppB p (fun j => rvl 32 gfV 0 (nst 32 gfE j st)) 5) (nst 32 gfE 5 st) hl
 ·have e : i = 6 := by omega
  subst e
  exact .inr (Vi _ _ _)
def NN (st : Int × LU0) : Int × LU0 := nst 32 gfE 6 (nst 48 g1E 9 st)
def DI (st : Int × LU0) : PF := ppB (ppA (fun j => rvl 48 g1V p1z (nst 48 g1E j st)) 9) (fun j => rvl 32 gfV 0 (nst 32 gfE j (nst 48 g1E 9 st))) 6
end Go.Proofs.YtokjhbmmdmeafaaGreat
set_option linter.unusedSimpArgs false
set_option linter.unusedVariables false
namespace Go.Proofs.YtokjhbmmdmeafaaGreat
open Go.Ev Go.RowKit
open Tryz
theorem adz : flat DE = flat (ppA (fun j => p1z) 0).ch := by kernel_rfl
def Sm (sb : LU0) : LState := { n := 58, sl := [(2, .p 0 0), (4, .p 23 0), (5, .p 35 0), (23, .ag [.p 35 0, .p 35 13, .p 35 26, .p 35 39, .p 35 52, .p 35 65, .p 35 78, .p 35 91, .p 35 104]), (24, vi0 0)], hp := [(0, .own DE 30), (23, .own [.c (.string (ofL sb)), ci0 0] 85), (35, .own DE 30)] }
theorem Qd (sb : LU0) : so (Sm sb).aa (gpI (ppA (fun j => rvl 48 g1V p1z (nst 48 g1E j (0, sb))) 0) sb 0 0) [] := by
 have e : so (Sm sb).aa (gpI (ppA (fun j => rvl 48 g1V p1z (nst 48 g1E j (0, sb))) 0) sb 0 0) [] = (((rn 0) /\ (rn 0) /\ (rn 0) /\ ((rn 0) /\ (rn 13) /\ (rn 26) /\ (rn 39) /\ (rn 52) /\ (rn 65) /\ (rn 78) /\ (rn 91) /\ (rn 104) /\ True) /\ (Zr (.int .i64 0)) /\ True) /\ ((EO 30 DE) /\ (EO 85 [.c (.string (ofL sb)), ci0 0]) /\ (30 = 30 /\ flat DE = flat (ppA (fun j => rvl 48 g1V p1z (nst 48 g1E j (0, sb))) 0).ch) /\ True)) := by kernel_rfl
 rw [e]
 exact ⟨⟨rr0, rr0, rr0, ⟨rr0, rr0, rr0, rr0, rr0, rr0, rr0, rr0, rr0, tt0⟩, rfl, tt0⟩, rr0, rr0, ⟨rfl, adz⟩, tt0⟩
theorem abv (st : Int × LU0) (h0 : st.1 = 0 -> 624 <= st.2.length) : (nst 48 g1E 9 st).1 = 0 -> 192 <= (nst 48 g1E 9 st).2.length := by
 intro h
 obtain ⟨h1, h2, _⟩ := rq 9 st h
 rw [h2]
 show 192 <= (st.2.drop (48 * 9)).length
 have := h0 h1
 rw [List.length_drop]
 omega
theorem adk {l : LU0} (h : l.take 4 = mgP) : (!((ofL (l.take 4)).toList == (ofL mgP).toList)) = false := by rw [h]; simp
abbrev GW (l : LU0) := ppA (fun j => rvl 48 g1V p1z (nst 48 g1E j (0, l.drop 4))) 9
abbrev Ad (l : LU0) := nst 48 g1E 9 (0, l.drop 4)
theorem WS (l : LU0) (hn : l.length = 628) (hm : l.take 4 = mgP) (h : (NN (0, l.drop 4)).1 = 0) : Gives prog 6 [.t (.v (.string (ofL l)))] (.tp [.ag (DI (0, l.drop 4)).ch, vi0 0]) := by
 have h0 : ((0, l.drop 4) : Int × LU0).1 = 0 -> 624 <= ((0, l.drop 4) : Int × LU0).2.length := fun _ => by show 624 <= (l.drop 4).length; rw [List.length_drop]; omega
 exact p6 (P := prog) (X := qa _) (env := [rW, v9]) ⟨qM, uU, tt0⟩ func6 3 (oL [(6, { ch := 1, hi := fun _ => 628 }), (14, rO 5 0), (16, wF), (21, rO 5 0), (32, { ch := 1, hi := fun _ => 624 }), (47, lpO { I := Sm (l.drop 4), ex := .exit 0, E := gpE (GW l) (Ad l).2 (Ad l).1, fr := 48 }), (56, lpO { I := gpK (GW l) (Ad l).2 (Ad l).1 0, ex := .exit 2, E := gpE (DI (0, l.drop 4)) (NN (0, l.drop 4)).2 (NN (0, l.drop 4)).1, fr := 57 }), (61, wF)]) (by kernel_rfl) ⟨_, rfl⟩ (ai (show ((NN (0, l.drop 4)).1 != 0) = false from by rw [h]; rfl) (ai (show some (gpK (GW l) (Ad l).2 (Ad l).1 0) = some (gpK (GW l) (Ad l).2 (Ad l).1 0) from rfl) (ai (Uw (GW l) (Ad l) (abv (0, l.drop 4) h0)) (ai (show some (Sm (l.drop 4)) = some (Sm (l.drop 4)) from rfl) (ai ((S1 (0, l.drop 4) h0).pre [] (by kernel_rfl) (Qd (l.drop 4))) (ai (show (((ofL (l.drop 4)).size : Nat) : Int) = ((624 : Nat) : Int) from by show (((l.drop 4).length : Nat) : Int) = _; rw [List.length_drop, hn]) (ai (show (0 : Int) <= 4 /\ (4 : Int) <= (ofL l).size from ⟨by decide, by show (4 : Int) <= (l.length : Nat); omega⟩) (ai (show (!((ofL (l.take 4)).toList == (ofL mgP).toList)) = false from adk hm) (ai (show (0 : Int) <= 4 /\ (4 : Int) <= (ofL l).size from ⟨by decide, by show (4 : Int) <= (l.length : Nat); omega⟩) (ai (show (((ofL l).size : Nat) : Int) = ((628 : Nat) : Int) from by show ((l.length : Nat) : Int) = _; rw [hn]) tt0))))))))))
def Tj (l : LU0) : Int := if l.take 4 = mgP then (if l.length = 628 then (NN (0, l.drop 4)).1 else 3) else 80
def gpR (l : LU0) : PF := DI (0, l.drop 4)
theorem Yv (l : LU0) (h : Tj l = 0) : Gives prog 6 [.t (.v (.string (ofL l)))] (.tp [.ag (gpR l).ch, vi0 0]) := by
 unfold Tj at h
 split at h
 ·rename_i hm
  split at h
  ·rename_i hn
   exact WS l hn hm h
  ·exact absurd h (by decide)
 ·exact absurd h (by decide)
end Go.Proofs.YtokjhbmmdmeafaaGreat
set_option linter.unusedSimpArgs false
set_option linter.unusedVariables false
namespace Go.Ev
theorem XQ {a b m : Nat} (hb : b < 2 ^ m) (ha : a % 2 ^ m = 0) : a ||| b = a + b := by
 have h := Nat.two_pow_add_eq_or_of_lt hb (a / 2 ^ m)
 have e : 2 ^ m * (a / 2 ^ m) = a := by
  have := Nat.div_add_mod a (2 ^ m)
  omega
 rw [e] at h
 exact h.symm
theorem xw {a : Nat} (h : a < 4294967296) : IntKind.u32.wrap ((a : Nat) : Int) = ((a : Nat) : Int) := by
 show ((a : Int)) % 4294967296 = a
 omega
theorem rH {a : Nat} (h : a < 9223372036854775808) : IntKind.i64.wrap ((a : Nat) : Int) = ((a : Nat) : Int) := by
 rw [qj]; omega
theorem J1 (a b m : Nat) (hb : b < 2 ^ m) (ha : a % 2 ^ m = 0) (h : a + b < 4294967296) : IntKind.u32.wrap (((BitVec.ofInt 32 ((a : Nat) : Int) ||| BitVec.ofInt 32 ((b : Nat) : Int)).toNat : Nat) : Int) = ((a + b : Nat) : Int) := by
 have e1 : (BitVec.ofInt 32 ((a : Nat) : Int)) = BitVec.ofNat 32 a := by simp
 have e2 : (BitVec.ofInt 32 ((b : Nat) : Int)) = BitVec.ofNat 32 b := by simp
 rw [e1, e2, BitVec.toNat_or, BitVec.toNat_ofNat, BitVec.toNat_ofNat, Nat.mod_eq_of_lt (show a < 2 ^ 32 by omega), Nat.mod_eq_of_lt (show b < 2 ^ 32 by omega), XQ hb ha]
 exact xw h
def cn (l : LU0) (i : Nat) : Nat := (l.getD i 0).toNat
theorem qU (l : LU0) (i : Nat) : cn l i < 256 := UInt8.toNat_lt _
def c4 (l : LU0) : Nat := ((cn l 0 * 16777216 + cn l 1 * 65536) + cn l 2 * 256) + cn l 3
theorem Ew (l : LU0) : c4 l < 4294967296 := by
 have h0 := qU l 0
 have h1 := qU l 1
 have h2 := qU l 2
 have h3 := qU l 3
 unfold c4
 omega
theorem QI (l : LU0) (i : Nat) (h : i < l.length) : (0 : Int) <= (i : Int) /\ (i : Int) < (ofL l).size /\ ((ofL l)[(i : Int).toNat]?.getD 0).toNat = cn l i := by
 refine ⟨by omega, by show (i : Int) < ((l.length : Nat) : Int); omega, ?_⟩
 rw [Int.toNat_natCast]
 unfold cn
 congr 1
 show ((ofL l)[i]?).getD 0 = l.getD i 0
 have e : (ofL l)[i]? = l[i]? := by
  show (ByteArray.mk l.toArray)[i]? = l[i]?
  rw [getElem?_def, getElem?_def]
  rfl
 rw [e, List.getD_eq_getElem?_getD]
end Go.Ev
