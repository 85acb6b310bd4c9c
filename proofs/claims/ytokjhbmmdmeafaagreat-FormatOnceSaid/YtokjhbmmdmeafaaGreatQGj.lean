/- Pruned: Gj. -/
import Derived.Test.YtokjhbmmdmeafaaGreatQGd
import Derived.Test.YtokjhbmmdmeafaaGreatQGf
import Derived.Test.YtokjhbmmdmeafaaGreatQGc
import Derived.Test.YtokjhbmmdmeafaaGreatQE2
import Derived.Test.YtokjhbmmdmeafaaGreatQGg
import Derived.Test.YtokjhbmmdmeafaaGreatQGb
import Derived.Test.YtokjhbmmdmeafaaGreatQGa
set_option linter.unusedSimpArgs false
set_option linter.unusedVariables false
namespace Go.Proofs.YtokjhbmmdmeafaaGreat
open Go.Ev Go.RowKit
open Tryz
abbrev qf (n : Nat) : Prop := true = true /\ n = n
abbrev zY (t : Nat) (l : List Ch) : Prop := t = t /\ flat l = flat l
abbrev ST (v : Value) : Prop := v = v
instance (l : LU0) : Decidable (sP l) := by unfold sP; infer_instance
instance (a : Fin Pp) : Decidable (sqP a) := by unfold sqP; infer_instance
instance (a : F2) : Decidable (sq2 a) := by unfold sq2; infer_instance
instance (l : LU0) : Decidable (sh1 l) := by unfold sh1; infer_instance
instance (l : LU0) : Decidable (lo1 l) := by unfold lo1; infer_instance
instance (l : LU0) : Decidable (sh2 l) := by unfold sh2; infer_instance
instance (l : LU0) : Decidable (lo2 l) := by unfold lo2; infer_instance
instance (l : LU0) : Decidable (ok1 l) := by unfold ok1; infer_instance
instance (l : LU0) : Decidable (ok2 l) := by unfold ok2; infer_instance
def pt1 (a : A1) : List Ch := [.n 6 a.1, .n 6 a.2.1, .c (.bool a.2.2)]
def pt2 (b : A2) : List Ch := [.n 6 b.1.1, .n 6 b.1.2, .n 6 b.2.1.1, .n 6 b.2.1.2, .c (.bool b.2.2)]
def g1E (l : LU0) : Int :=
 if l.length ≠ 48 /\ l.length ≠ 96 then 3 else if (l.length = 48 /\ pO l ≠ 4 /\ pO l ≠ 5 /\ pO l ≠ 6) ∨ (l.length = 96 /\ pO l ≠ 0 /\ pO l ≠ 2) then 32 else
 if th l then (if sP (pJ l) then 0 else 33) else
 if l.length = 48 then (if nX l < Pp then (if sqP (tx (ofP (nX l))) then (if q7 ((ofP (nX l)).val, (sy1 (tx (ofP (nX l))) (decide (pO l = 5))).val, false) then 0 else 31) else 30) else 20) else
 (if (nX l < Pp /\ nY l < Pp) then (if may1 ((ofP (nX l)).val, (ofP (nY l)).val, false) then (if q7 ((ofP (nX l)).val, (ofP (nY l)).val, false) then 0 else 31) else 30) else 20)
theorem zD (l : LU0) : (ok1 l /\ g1E l = 0) ∨ (¬ ok1 l /\ cd1 l (g1E l)) := by
 by_cases h : ok1 l
 ·refine .inl ⟨h, ?_⟩
  have h0 := h
  unfold g1E
  rcases h with ⟨hi, hz⟩ | ⟨s, h1, h2, h3⟩ | ⟨s, h1, h2, h3⟩
  ·rw [if_neg (by unfold th at hi; omega), if_neg (by unfold th at hi; omega), if_pos hi, if_pos hz]
  ·rw [if_neg (by have := s.1; omega), if_neg (by unfold sh1 at s; omega), if_neg (s6 s), if_pos s.1, if_pos h1, if_pos h2, if_pos h3]
  ·rw [if_neg (by have := s.1; omega), if_neg (by unfold lo1 at s; omega), if_neg (s7 s), if_neg (by have := s.1; omega), if_pos h1, if_pos h2, if_pos h3]
 ·refine .inr ⟨h, ?_⟩
  by_cases h0 : l.length ≠ 48 /\ l.length ≠ 96
  ·rw [show g1E l = 3 from if_pos h0]; exact ⟨by decide, at1 l 0 rfl h0⟩
  by_cases hs : (l.length = 48 /\ pO l ≠ 4 /\ pO l ≠ 5 /\ pO l ≠ 6) ∨ (l.length = 96 /\ pO l ≠ 0 /\ pO l ≠ 2)
  ·rw [show g1E l = 32 from (if_neg h0).trans (if_pos hs)]; exact ⟨by decide, at1 l 1 rfl hs⟩
  by_cases hi : th l
  ·by_cases hz : sP (pJ l)
   ·exact absurd (.inl ⟨hi, hz⟩) h
   ·rw [show g1E l = 33 from (if_neg h0).trans ((if_neg hs).trans ((if_pos hi).trans (if_neg hz)))]; exact ⟨by decide, at1 l 2 rfl ⟨hi, hz⟩⟩
  have e0 : g1E l = _ := (if_neg h0).trans ((if_neg hs).trans (if_neg hi))
  rcases form1 h0 hs hi with s | s
  ·have e1 := e0.trans (if_pos s.1)
   by_cases hx : nX l < Pp
   ·by_cases hq : sqP (tx (ofP (nX l)))
    ·by_cases hg : q7 ((ofP (nX l)).val, (sy1 (tx (ofP (nX l))) (decide (pO l = 5))).val, false)
     ·exact absurd (.inr (.inl ⟨s, hx, hq, hg⟩)) h
     ·rw [e1.trans ((if_pos hx).trans ((if_pos hq).trans (if_neg hg)))]; exact ⟨by decide, at1 l 6 rfl ⟨s, hx, hq, hg⟩⟩
    ·rw [e1.trans ((if_pos hx).trans (if_neg hq))]; exact ⟨by decide, at1 l 5 rfl ⟨s, hx, hq⟩⟩
   ·rw [e1.trans (if_neg hx)]; exact ⟨by decide, at1 l 4 rfl ⟨s, hx⟩⟩
  ·have e1 := e0.trans (if_neg (by have := s.1; omega))
   by_cases hx : (nX l < Pp /\ nY l < Pp)
   ·by_cases hm : may1 ((ofP (nX l)).val, (ofP (nY l)).val, false)
    ·by_cases hg : q7 ((ofP (nX l)).val, (ofP (nY l)).val, false)
     ·exact absurd (.inr (.inr ⟨s, hx, hm, hg⟩)) h
     ·rw [e1.trans ((if_pos hx).trans ((if_pos hm).trans (if_neg hg)))]; exact ⟨by decide, at1 l 10 rfl ⟨s, hx, hm, hg⟩⟩
    ·rw [e1.trans ((if_pos hx).trans (if_neg hm))]; exact ⟨by decide, at1 l 9 rfl ⟨s, hx, hm⟩⟩
   ·rw [e1.trans (if_neg hx)]; exact ⟨by decide, at1 l 8 rfl ⟨s, hx⟩⟩
def g1V (l : LU0) : A1 := if ok1 l then ((gx1 l).val, (gy1 l).val, decide (th l)) else (0, 0, false)
theorem Qp (l : LU0) : Gives prog 27 [.t (.v (.string (ofL l)))] (.tp [.ag (pt1 (g1V l)), vi0 (g1E l)]) := by
 rcases zD l with ⟨h, e⟩ | ⟨h, e⟩
 ·rw [show g1V l = ((gx1 l).val, (gy1 l).val, decide (th l)) from if_pos h, e]
  exact Gives.same (aem l h) rfl
 ·rw [show g1V l = (0, 0, false) from if_neg h]
  exact Gives.same e.2 rfl
def rf : Entry := p7 27 XPar.str (fun l => [(none, .tp [.ag (pt1 (g1V l)), vi0 (g1E l)])])
theorem qA : rf.OK prog := pQ (fun args w => Go.Proofs.enters_of (P := prog) func27 (by kernel_rfl) rfl args w) (fun l => only (Qp l))
def g2E (l : LU0) : Int :=
 if l.length ≠ 96 /\ l.length ≠ 192 then 3 else if (l.length = 96 /\ pO l ≠ 4 /\ pO l ≠ 5 /\ pO l ≠ 6) ∨ (l.length = 192 /\ pO l ≠ 0 /\ pO l ≠ 2) then 32 else
 if ti l then (if sP (pJ l) then 0 else 33) else
 if l.length = 96 then (if (c2 l 0 < Pp /\ c2 l 1 < Pp) then (if sq2 (sv (xs2 l)) then (if q6 (nn (xs2 l), nn (sy2 (sv (xs2 l)) (decide (pO l = 5))), false) then 0 else 31) else 30) else 20) else
 (if (c2 l 0 < Pp /\ c2 l 1 < Pp /\ c2 l 2 < Pp /\ c2 l 3 < Pp) then (if may2 (nn (xs2 l), nn (ys2 l), false) then (if q6 (nn (xs2 l), nn (ys2 l), false) then 0 else 31) else 30) else 20)
theorem Cx (l : LU0) : (ok2 l /\ g2E l = 0) ∨ (¬ ok2 l /\ cd2 l (g2E l)) := by
 by_cases h : ok2 l
 ·refine .inl ⟨h, ?_⟩
  have h0 := h
  unfold g2E
  rcases h with ⟨hi, hz⟩ | ⟨s, h1, h2, h3⟩ | ⟨s, h1, h2, h3⟩
  ·rw [if_neg (by unfold ti at hi; omega), if_neg (by unfold ti at hi; omega), if_pos hi, if_pos hz]
  ·rw [if_neg (by have := s.1; omega), if_neg (by unfold sh2 at s; omega), if_neg (sF s), if_pos s.1, if_pos h1, if_pos h2, if_pos h3]
  ·rw [if_neg (by have := s.1; omega), if_neg (by unfold lo2 at s; omega), if_neg (sG s), if_neg (by have := s.1; omega), if_pos h1, if_pos h2, if_pos h3]
 ·refine .inr ⟨h, ?_⟩
  by_cases h0 : l.length ≠ 96 /\ l.length ≠ 192
  ·rw [show g2E l = 3 from if_pos h0]; exact ⟨by decide, at2 l 0 rfl h0⟩
  by_cases hs : (l.length = 96 /\ pO l ≠ 4 /\ pO l ≠ 5 /\ pO l ≠ 6) ∨ (l.length = 192 /\ pO l ≠ 0 /\ pO l ≠ 2)
  ·rw [show g2E l = 32 from (if_neg h0).trans (if_pos hs)]; exact ⟨by decide, at2 l 1 rfl hs⟩
  by_cases hi : ti l
  ·by_cases hz : sP (pJ l)
   ·exact absurd (.inl ⟨hi, hz⟩) h
   ·rw [show g2E l = 33 from (if_neg h0).trans ((if_neg hs).trans ((if_pos hi).trans (if_neg hz)))]; exact ⟨by decide, at2 l 2 rfl ⟨hi, hz⟩⟩
  have e0 : g2E l = _ := (if_neg h0).trans ((if_neg hs).trans (if_neg hi))
  rcases form2 h0 hs hi with s | s
  ·have e1 := e0.trans (if_pos s.1)
   by_cases hx : (c2 l 0 < Pp /\ c2 l 1 < Pp)
   ·by_cases hq : sq2 (sv (xs2 l))
    ·by_cases hg : q6 (nn (xs2 l), nn (sy2 (sv (xs2 l)) (decide (pO l = 5))), false)
     ·exact absurd (.inr (.inl ⟨s, hx, hq, hg⟩)) h
     ·rw [e1.trans ((if_pos hx).trans ((if_pos hq).trans (if_neg hg)))]; exact ⟨by decide, at2 l 6 rfl ⟨s, hx, hq, hg⟩⟩
    ·rw [e1.trans ((if_pos hx).trans (if_neg hq))]; exact ⟨by decide, at2 l 5 rfl ⟨s, hx, hq⟩⟩
   ·rw [e1.trans (if_neg hx)]; exact ⟨by decide, at2 l 4 rfl ⟨s, hx⟩⟩
  ·have e1 := e0.trans (if_neg (by have := s.1; omega))
   by_cases hx : (c2 l 0 < Pp /\ c2 l 1 < Pp /\ c2 l 2 < Pp /\ c2 l 3 < Pp)
   ·by_cases hm : may2 (nn (xs2 l), nn (ys2 l), false)
    ·by_cases hg : q6 (nn (xs2 l), nn (ys2 l), false)
     ·exact absurd (.inr (.inr ⟨s, hx, hm, hg⟩)) h
     ·rw [e1.trans ((if_pos hx).trans ((if_pos hm).trans (if_neg hg)))]; exact ⟨by decide, at2 l 10 rfl ⟨s, hx, hm, hg⟩⟩
    ·rw [e1.trans ((if_pos hx).trans (if_neg hm))]; exact ⟨by decide, at2 l 9 rfl ⟨s, hx, hm⟩⟩
   ·rw [e1.trans (if_neg hx)]; exact ⟨by decide, at2 l 8 rfl ⟨s, hx⟩⟩
def g2V (l : LU0) : A2 := if ok2 l then (nn (gx2 l), nn (gy2 l), decide (ti l)) else ((0, 0), (0, 0), false)
theorem SE (l : LU0) : Gives prog 33 [.t (.v (.string (ofL l)))] (.tp [.ag (pt2 (g2V l)), vi0 (g2E l)]) := by
 rcases Cx l with ⟨h, e⟩ | ⟨h, e⟩
 ·rw [show g2V l = (nn (gx2 l), nn (gy2 l), decide (ti l)) from if_pos h, e]
  exact Gives.same (aeD l h) rfl
 ·rw [show g2V l = ((0, 0), (0, 0), false) from if_neg h]
  exact Gives.same e.2 rfl
def rR : Entry := p7 33 XPar.str (fun l => [(none, .tp [.ag (pt2 (g2V l)), vi0 (g2E l)])])
theorem qN : rR.OK prog := pQ (fun args w => Go.Proofs.enters_of (P := prog) func33 (by kernel_rfl) rfl args w) (fun l => only (SE l))
def gfE (l : LU0) : Int := if l.length = 32 then (if deN 32 l < Rr then 0 else 20) else 3
def gfV (l : LU0) : Nat := if l.length = 32 then (if deN 32 l < Rr then deN 32 l else 0) else 0
theorem Tt (l : LU0) : Gives prog 29 [.t (.v (.string (ofL l)))] (.tp [.ag [.n 4 (gfV l)], vi0 (gfE l)]) := by
 unfold gfV gfE
 by_cases h : l.length = 32
 ·rw [if_pos h, if_pos h]
  by_cases h2 : deN 32 l < Rr
  ·rw [if_pos h2, if_pos h2]
   have e : (ofR (deN 32 l)).val = deN 32 l := Nat.mod_eq_of_lt h2
   have h3 := QS l h h2
   have h4 : Gives prog 29 [.t (.v (.string (ofL l)))] (.tp [.ag [.n 4 (ofR (deN 32 l)).val], vi0 0]) := Gives.same h3 rfl
   rw [e] at h4
   exact h4
  ·rw [if_neg h2, if_neg h2]
   exact Gives.same (Rz l h (Nat.le_of_not_lt h2)) rfl
 ·rw [if_neg h, if_neg h]
  exact Gives.same (MM l h) rfl
def ui : Entry := p7 29 XPar.str (fun l => [(none, .tp [.ag [.n 4 (gfV l)], vi0 (gfE l)])])
theorem uE : ui.OK prog := pQ (fun args w => Go.Proofs.enters_of (P := prog) func29 (by kernel_rfl) rfl args w) (fun l => only (Tt l))
theorem rc {l : LU0} (h : g1E l ≠ 0) : g1V l = (0, 0, false) := by
 rcases zD l with ⟨h1, e⟩ | ⟨h1, e⟩
 ·exact absurd e h
 ·exact if_neg h1
theorem rq {l : LU0} (h : gfE l ≠ 0) : gfV l = 0 := by
 unfold gfE at h
 unfold gfV
 by_cases h1 : l.length = 32
 ·rw [if_pos h1] at h ⊢
  by_cases h2 : deN 32 l < Rr
  ·rw [if_pos h2] at h; exact absurd rfl h
  ·rw [if_neg h2]
 ·rw [if_neg h1]
end Go.Proofs.YtokjhbmmdmeafaaGreat
set_option linter.unusedSimpArgs false
set_option linter.unusedVariables false
namespace Go.Ev
def rst (sz : Nat) (E : LU0 -> Int) (st : Int × LU0) : Int × LU0 := if st.1 = 0 then (E (st.2.take sz), st.2.drop sz) else st
def rvl {α : Type} (sz : Nat) (V : LU0 -> α) (z : α) (st : Int × LU0) : α := if st.1 = 0 then V (st.2.take sz) else z
def nst (sz : Nat) (E : LU0 -> Int) : Nat -> Int × LU0 -> Int × LU0
 | 0, st => st
 | n + 1, st => rst sz E (nst sz E n st)
def chk (sz : Nat) (l : LU0) (i : Nat) : LU0 := (l.drop (sz * i)).take sz
section
variable {sz : Nat} {E : LU0 -> Int}
theorem yI {st : Int × LU0} (h : st.1 ≠ 0) : rst sz E st = st := if_neg h
theorem KV {l : LU0} : rst sz E (0, l) = (E (l.take sz), l.drop sz) := rfl
theorem tW {st : Int × LU0} (h : st.1 ≠ 0) : ∀ n, nst sz E n st = st
 | 0 => rfl
 | n + 1 => by
  show rst sz E (nst sz E n st) = st
  rw [tW h n, yI h]
theorem qh : ∀ (n : Nat) (st : Int × LU0), (nst sz E n st).1 = 0 -> st.1 = 0 /\ nst sz E n st = (0, st.2.drop (sz * n)) /\ ∀ i, i < n -> E (chk sz st.2 i) = 0
 | 0, (e, l), h => by
  have h : e = 0 := h
  subst h
  exact ⟨rfl, by simp [nst], fun i hi => by omega⟩
 | n + 1, st, h => by
  by_cases h0 : (nst sz E n st).1 = 0
  ·obtain ⟨h1, h2, h3⟩ := qh n st h0
   have e : nst sz E (n + 1) st = (E (chk sz st.2 n), st.2.drop (sz * (n + 1))) := by
    show rst sz E (nst sz E n st) = _
    rw [h2, KV, List.drop_drop, Nat.mul_succ]
    rfl
   rw [e] at h ⊢
   have h : E (chk sz st.2 n) = 0 := h
   rw [h]
   refine ⟨h1, rfl, fun i hi => ?_⟩
   rcases Nat.lt_or_ge i n with hh | hh
   ·exact h3 i hh
   ·rw [show i = n by omega]; exact h
  ·have e : nst sz E (n + 1) st = nst sz E n st := yI h0
   rw [e] at h
   exact absurd h h0
theorem zG {l : LU0} : ∀ n, (∀ i, i < n -> E (chk sz l i) = 0) -> nst sz E n (0, l) = (0, l.drop (sz * n))
 | 0, _ => by simp [nst]
 | n + 1, h => by
  show rst sz E (nst sz E n (0, l)) = _
  rw [zG n (fun i hi => h i (by omega)), KV, List.drop_drop, Nat.mul_succ]
  rw [show E ((l.drop (sz * n)).take sz) = 0 from h n (by omega)]
end
end Go.Ev
set_option linter.unusedSimpArgs false
set_option linter.unusedVariables false
namespace Go.Proofs.YtokjhbmmdmeafaaGreat
open Go.Ev Go.RowKit
open Tryz
def qI : List Ch := List.replicate 12 (.c (.int .u64 0)) ++ [.c (.bool false)]
def ub : List Ch := (List.replicate 9 qI).flatten ++ List.replicate 24 (.c (.int .u64 0))
def p1z : A1 := (0, 0, false)
def ins (l : List Ch) (k n : Nat) (a : List Ch) : List Ch := l.take k ++ a ++ l.drop (k + n)
theorem eqz {x : Int} (h : x = 0) : (x != 0) = false := by rw [h]; rfl
theorem nez {x : Int} (h : x ≠ 0) : (x != 0) = true := bne_iff_ne.2 h
theorem pK {l : LU0} {n : Nat} (h : n <= l.length) : (0 : Int) <= (n : Int) /\ (n : Int) <= (ofL l).size := ⟨by omega, by show (n : Int) <= ((l.length : Nat) : Int); omega⟩
def gpI (p : PF) (sb : LU0) (e i : Int) : LState := { n := 58, sl := [(2, .p 0 0), (4, .p 23 0), (5, .p 35 0), (23, .ag [.p 35 0, .p 35 13, .p 35 26, .p 35 39, .p 35 52, .p 35 65, .p 35 78, .p 35 91, .p 35 104]), (24, vi0 i)], hp := [(0, .own ub 30), (23, .own [.c (.string (ofL sb)), ci0 e] 85), (35, .own p.ch 30)] }
def gpK (p : PF) (sb : LU0) (e i : Int) : LState := { n := 58, sl := [(2, .p 0 0), (4, .p 23 0), (5, .p 35 0), (38, .ag [.p 35 117, .p 35 121, .p 35 125, .p 35 129, .p 35 133, .p 35 137]), (39, vi0 i)], hp := [(0, .own ub 30), (23, .own [.c (.string (ofL sb)), ci0 e] 85), (35, .own p.ch 30)] }
def gpE (p : PF) (sb : LU0) (e : Int) : LState := { n := 58, sl := [(2, .p 0 0), (4, .p 23 0), (5, .p 35 0)], hp := [(0, .own ub 30), (23, .own [.c (.string (ofL sb)), ci0 e] 85), (35, .own p.ch 30)] }
theorem tB (j k : Int) (hk : Value.int .i64 (IntKind.i64.wrap (j + 1)) = Value.int .i64 k) {sb : LU0} {e : Int} {a b : List Ch} (h : flat a = flat b) : ((qf 0) /\ (qf 0) /\ (qf 0) /\ ((qf 0) /\ (qf 13) /\ (qf 26) /\ (qf 39) /\ (qf 52) /\ (qf 65) /\ (qf 78) /\ (qf 91) /\ (qf 104) /\ True) /\ (Value.int .i64 (IntKind.i64.wrap (j + 1))) = (Value.int .i64 k) /\ True) /\ ((zY 30 ub) /\ (zY 85 [.c (.string (ofL sb)), ci0 e]) /\ (30 = 30 /\ flat a = flat b) /\ True) :=
 ⟨⟨rr0, rr0, rr0, ⟨rr0, rr0, rr0, rr0, rr0, rr0, rr0, rr0, rr0, tt0⟩, hk, tt0⟩, rr0, rr0, ⟨rfl, h⟩, tt0⟩
theorem wZ (j k : Int) (hk : Value.int .i64 (IntKind.i64.wrap (j + 1)) = Value.int .i64 k) {sb : LU0} {e : Int} {a b : List Ch} (h : flat a = flat b) : ((qf 0) /\ (qf 0) /\ (qf 0) /\ ((qf 117) /\ (qf 121) /\ (qf 125) /\ (qf 129) /\ (qf 133) /\ (qf 137) /\ True) /\ (Value.int .i64 (IntKind.i64.wrap (j + 1))) = (Value.int .i64 k) /\ True) /\ ((zY 30 ub) /\ (zY 85 [.c (.string (ofL sb)), ci0 e]) /\ (30 = 30 /\ flat a = flat b) /\ True) :=
 ⟨⟨rr0, rr0, rr0, ⟨rr0, rr0, rr0, rr0, rr0, rr0, tt0⟩, hk, tt0⟩, rr0, rr0, ⟨rfl, h⟩, tt0⟩
def z4L : List Ch := List.replicate 4 (.c (.int .u64 0))
theorem rA {os : Nat -> Ora} {c : Code} {I J : LState} {ex : Ex} {ob : Prop} (h : vK prog (pN _) [rf, ui] 3 os 0 false c 47 I J [] = some (ex, ob)) (hob : ob) : Sound prog 0 false c I.aa ex J.aa := qT (P := prog) (X := pN _) (env := [rf, ui]) ⟨qA, uE, tt0⟩ h hob
abbrev qo (a : AA) (e : Ex) (b : AA) : Prop := Sound prog 0 false (pS f6 0) a e b
theorem aeB (p : PF) (sb : LU0) (e : Int) (hl : 48 <= sb.length) (h : (g1E (sb.take 48)) = 0) : qo (gpI p sb 0 0).aa .normal (gpI { p with a0 := (g1V (sb.take 48)) } (sb.drop 48) (g1E (sb.take 48)) 1).aa :=
 rA (os := oL [(66, rO 5 0), (80, rO 5 0), (98, wF)]) (by kernel_rfl) (ai (tB 0 1 rfl (sb := (sb.drop 48)) (e := (g1E (sb.take 48))) (a := ins p.ch 0 3 (pt1 (g1V (sb.take 48)))) (b := ({ p with a0 := (g1V (sb.take 48)) } : PF).ch) (by kernel_rfl)) (ai (eqz h) (ai (pK hl) (ai (pK hl) tt0))))
theorem aeS (p : PF) (sb : LU0) (e : Int) (hl : 48 <= sb.length) (h : (g1E (sb.take 48)) ≠ 0) : qo (gpI p sb 0 0).aa .normal (gpI { p with a0 := (g1V (sb.take 48)) } (sb.drop 48) (g1E (sb.take 48)) 1).aa :=
 rA (os := oL [(66, rO 5 0), (80, rO 5 0), (98, wT)]) (by kernel_rfl) (ai (tB 0 1 rfl (sb := (sb.drop 48)) (e := (g1E (sb.take 48))) (a := ins p.ch 0 3 (qI)) (b := ({ p with a0 := (g1V (sb.take 48)) } : PF).ch) (by rw [rc h]; kernel_rfl)) (ai (nez h) (ai (pK hl) (ai (pK hl) tt0))))
theorem ac6 (p : PF) (sb : LU0) (e : Int) (h : e ≠ 0) : qo (gpI p sb e 0).aa .normal (gpI { p with a0 := p1z } sb e 1).aa :=
 rA (os := oL [(59, wT)]) (by kernel_rfl) (ai (tB 0 1 rfl (sb := sb) (e := e) (a := ins p.ch 0 3 (qI)) (b := ({ p with a0 := p1z } : PF).ch) (by kernel_rfl)) (ai (nez h) tt0))
theorem aeE (p : PF) (sb : LU0) (e : Int) (hl : 48 <= sb.length) (h : (g1E (sb.take 48)) = 0) : qo (gpI p sb 0 1).aa .normal (gpI { p with a1 := (g1V (sb.take 48)) } (sb.drop 48) (g1E (sb.take 48)) 2).aa :=
 rA (os := oL [(66, rO 5 0), (80, rO 5 0), (98, wF)]) (by kernel_rfl) (ai (tB 1 2 rfl (sb := (sb.drop 48)) (e := (g1E (sb.take 48))) (a := ins p.ch 3 3 (pt1 (g1V (sb.take 48)))) (b := ({ p with a1 := (g1V (sb.take 48)) } : PF).ch) (by kernel_rfl)) (ai (eqz h) (ai (pK hl) (ai (pK hl) tt0))))
theorem adS (p : PF) (sb : LU0) (e : Int) (hl : 48 <= sb.length) (h : (g1E (sb.take 48)) ≠ 0) : qo (gpI p sb 0 1).aa .normal (gpI { p with a1 := (g1V (sb.take 48)) } (sb.drop 48) (g1E (sb.take 48)) 2).aa :=
 rA (os := oL [(66, rO 5 0), (80, rO 5 0), (98, wT)]) (by kernel_rfl) (ai (tB 1 2 rfl (sb := (sb.drop 48)) (e := (g1E (sb.take 48))) (a := ins p.ch 3 3 (qI)) (b := ({ p with a1 := (g1V (sb.take 48)) } : PF).ch) (by rw [rc h]; kernel_rfl)) (ai (nez h) (ai (pK hl) (ai (pK hl) tt0))))
theorem aeZ (p : PF) (sb : LU0) (e : Int) (h : e ≠ 0) : qo (gpI p sb e 1).aa .normal (gpI { p with a1 := p1z } sb e 2).aa :=
 rA (os := oL [(59, wT)]) (by kernel_rfl) (ai (tB 1 2 rfl (sb := sb) (e := e) (a := ins p.ch 3 3 (qI)) (b := ({ p with a1 := p1z } : PF).ch) (by kernel_rfl)) (ai (nez h) tt0))
theorem aeR (p : PF) (sb : LU0) (e : Int) (hl : 48 <= sb.length) (h : (g1E (sb.take 48)) = 0) : qo (gpI p sb 0 2).aa .normal (gpI { p with a2 := (g1V (sb.take 48)) } (sb.drop 48) (g1E (sb.take 48)) 3).aa :=
 rA (os := oL [(66, rO 5 0), (80, rO 5 0), (98, wF)]) (by kernel_rfl) (ai (tB 2 3 rfl (sb := (sb.drop 48)) (e := (g1E (sb.take 48))) (a := ins p.ch 6 3 (pt1 (g1V (sb.take 48)))) (b := ({ p with a2 := (g1V (sb.take 48)) } : PF).ch) (by kernel_rfl)) (ai (eqz h) (ai (pK hl) (ai (pK hl) tt0))))
theorem acu (p : PF) (sb : LU0) (e : Int) (hl : 48 <= sb.length) (h : (g1E (sb.take 48)) ≠ 0) : qo (gpI p sb 0 2).aa .normal (gpI { p with a2 := (g1V (sb.take 48)) } (sb.drop 48) (g1E (sb.take 48)) 3).aa :=
 rA (os := oL [(66, rO 5 0), (80, rO 5 0), (98, wT)]) (by kernel_rfl) (ai (tB 2 3 rfl (sb := (sb.drop 48)) (e := (g1E (sb.take 48))) (a := ins p.ch 6 3 (qI)) (b := ({ p with a2 := (g1V (sb.take 48)) } : PF).ch) (by rw [rc h]; kernel_rfl)) (ai (nez h) (ai (pK hl) (ai (pK hl) tt0))))
theorem adv (p : PF) (sb : LU0) (e : Int) (h : e ≠ 0) : qo (gpI p sb e 2).aa .normal (gpI { p with a2 := p1z } sb e 3).aa :=
 rA (os := oL [(59, wT)]) (by kernel_rfl) (ai (tB 2 3 rfl (sb := sb) (e := e) (a := ins p.ch 6 3 (qI)) (b := ({ p with a2 := p1z } : PF).ch) (by kernel_rfl)) (ai (nez h) tt0))
theorem adw (p : PF) (sb : LU0) (e : Int) (hl : 48 <= sb.length) (h : (g1E (sb.take 48)) = 0) : qo (gpI p sb 0 3).aa .normal (gpI { p with a3 := (g1V (sb.take 48)) } (sb.drop 48) (g1E (sb.take 48)) 4).aa :=
 rA (os := oL [(66, rO 5 0), (80, rO 5 0), (98, wF)]) (by kernel_rfl) (ai (tB 3 4 rfl (sb := (sb.drop 48)) (e := (g1E (sb.take 48))) (a := ins p.ch 9 3 (pt1 (g1V (sb.take 48)))) (b := ({ p with a3 := (g1V (sb.take 48)) } : PF).ch) (by kernel_rfl)) (ai (eqz h) (ai (pK hl) (ai (pK hl) tt0))))
theorem ade (p : PF) (sb : LU0) (e : Int) (hl : 48 <= sb.length) (h : (g1E (sb.take 48)) ≠ 0) : qo (gpI p sb 0 3).aa .normal (gpI { p with a3 := (g1V (sb.take 48)) } (sb.drop 48) (g1E (sb.take 48)) 4).aa :=
 rA (os := oL [(66, rO 5 0), (80, rO 5 0), (98, wT)]) (by kernel_rfl) (ai (tB 3 4 rfl (sb := (sb.drop 48)) (e := (g1E (sb.take 48))) (a := ins p.ch 9 3 (qI)) (b := ({ p with a3 := (g1V (sb.take 48)) } : PF).ch) (by rw [rc h]; kernel_rfl)) (ai (nez h) (ai (pK hl) (ai (pK hl) tt0))))
theorem aen (p : PF) (sb : LU0) (e : Int) (h : e ≠ 0) : qo (gpI p sb e 3).aa .normal (gpI { p with a3 := p1z } sb e 4).aa :=
 rA (os := oL [(59, wT)]) (by kernel_rfl) (ai (tB 3 4 rfl (sb := sb) (e := e) (a := ins p.ch 9 3 (qI)) (b := ({ p with a3 := p1z } : PF).ch) (by kernel_rfl)) (ai (nez h) tt0))
theorem acR (p : PF) (sb : LU0) (e : Int) (hl : 48 <= sb.length) (h : (g1E (sb.take 48)) = 0) : qo (gpI p sb 0 4).aa .normal (gpI { p with a4 := (g1V (sb.take 48)) } (sb.drop 48) (g1E (sb.take 48)) 5).aa :=
 rA (os := oL [(66, rO 5 0), (80, rO 5 0), (98, wF)]) (by kernel_rfl) (ai (tB 4 5 rfl (sb := (sb.drop 48)) (e := (g1E (sb.take 48))) (a := ins p.ch 12 3 (pt1 (g1V (sb.take 48)))) (b := ({ p with a4 := (g1V (sb.take 48)) } : PF).ch) (by kernel_rfl)) (ai (eqz h) (ai (pK hl) (ai (pK hl) tt0))))
theorem adc (p : PF) (sb : LU0) (e : Int) (hl : 48 <= sb.length) (h : (g1E (sb.take 48)) ≠ 0) : qo (gpI p sb 0 4).aa .normal (gpI { p with a4 := (g1V (sb.take 48)) } (sb.drop 48) (g1E (sb.take 48)) 5).aa :=
 rA (os := oL [(66, rO 5 0), (80, rO 5 0), (98, wT)]) (by kernel_rfl) (ai (tB 4 5 rfl (sb := (sb.drop 48)) (e := (g1E (sb.take 48))) (a := ins p.ch 12 3 (qI)) (b := ({ p with a4 := (g1V (sb.take 48)) } : PF).ch) (by rw [rc h]; kernel_rfl)) (ai (nez h) (ai (pK hl) (ai (pK hl) tt0))))
theorem acA (p : PF) (sb : LU0) (e : Int) (h : e ≠ 0) : qo (gpI p sb e 4).aa .normal (gpI { p with a4 := p1z } sb e 5).aa :=
 rA (os := oL [(59, wT)]) (by kernel_rfl) (ai (tB 4 5 rfl (sb := sb) (e := e) (a := ins p.ch 12 3 (qI)) (b := ({ p with a4 := p1z } : PF).ch) (by kernel_rfl)) (ai (nez h) tt0))
theorem abl (p : PF) (sb : LU0) (e : Int) (hl : 48 <= sb.length) (h : (g1E (sb.take 48)) = 0) : qo (gpI p sb 0 5).aa .normal (gpI { p with a5 := (g1V (sb.take 48)) } (sb.drop 48) (g1E (sb.take 48)) 6).aa :=
 rA (os := oL [(66, rO 5 0), (80, rO 5 0), (98, wF)]) (by kernel_rfl) (ai (tB 5 6 rfl (sb := (sb.drop 48)) (e := (g1E (sb.take 48))) (a := ins p.ch 15 3 (pt1 (g1V (sb.take 48)))) (b := ({ p with a5 := (g1V (sb.take 48)) } : PF).ch) (by kernel_rfl)) (ai (eqz h) (ai (pK hl) (ai (pK hl) tt0))))
theorem ab9 (p : PF) (sb : LU0) (e : Int) (hl : 48 <= sb.length) (h : (g1E (sb.take 48)) ≠ 0) : qo (gpI p sb 0 5).aa .normal (gpI { p with a5 := (g1V (sb.take 48)) } (sb.drop 48) (g1E (sb.take 48)) 6).aa :=
 rA (os := oL [(66, rO 5 0), (80, rO 5 0), (98, wT)]) (by kernel_rfl) (ai (tB 5 6 rfl (sb := (sb.drop 48)) (e := (g1E (sb.take 48))) (a := ins p.ch 15 3 (qI)) (b := ({ p with a5 := (g1V (sb.take 48)) } : PF).ch) (by rw [rc h]; kernel_rfl)) (ai (nez h) (ai (pK hl) (ai (pK hl) tt0))))
theorem aeX (p : PF) (sb : LU0) (e : Int) (h : e ≠ 0) : qo (gpI p sb e 5).aa .normal (gpI { p with a5 := p1z } sb e 6).aa :=
 rA (os := oL [(59, wT)]) (by kernel_rfl) (ai (tB 5 6 rfl (sb := sb) (e := e) (a := ins p.ch 15 3 (qI)) (b := ({ p with a5 := p1z } : PF).ch) (by kernel_rfl)) (ai (nez h) tt0))
theorem acb (p : PF) (sb : LU0) (e : Int) (hl : 48 <= sb.length) (h : (g1E (sb.take 48)) = 0) : qo (gpI p sb 0 6).aa .normal (gpI { p with a6 := (g1V (sb.take 48)) } (sb.drop 48) (g1E (sb.take 48)) 7).aa :=
 rA (os := oL [(66, rO 5 0), (80, rO 5 0), (98, wF)]) (by kernel_rfl) (ai (tB 6 7 rfl (sb := (sb.drop 48)) (e := (g1E (sb.take 48))) (a := ins p.ch 18 3 (pt1 (g1V (sb.take 48)))) (b := ({ p with a6 := (g1V (sb.take 48)) } : PF).ch) (by kernel_rfl)) (ai (eqz h) (ai (pK hl) (ai (pK hl) tt0))))
theorem adf (p : PF) (sb : LU0) (e : Int) (hl : 48 <= sb.length) (h : (g1E (sb.take 48)) ≠ 0) : qo (gpI p sb 0 6).aa .normal (gpI { p with a6 := (g1V (sb.take 48)) } (sb.drop 48) (g1E (sb.take 48)) 7).aa :=
 rA (os := oL [(66, rO 5 0), (80, rO 5 0), (98, wT)]) (by kernel_rfl) (ai (tB 6 7 rfl (sb := (sb.drop 48)) (e := (g1E (sb.take 48))) (a := ins p.ch 18 3 (qI)) (b := ({ p with a6 := (g1V (sb.take 48)) } : PF).ch) (by rw [rc h]; kernel_rfl)) (ai (nez h) (ai (pK hl) (ai (pK hl) tt0))))
theorem acs (p : PF) (sb : LU0) (e : Int) (h : e ≠ 0) : qo (gpI p sb e 6).aa .normal (gpI { p with a6 := p1z } sb e 7).aa :=
 rA (os := oL [(59, wT)]) (by kernel_rfl) (ai (tB 6 7 rfl (sb := sb) (e := e) (a := ins p.ch 18 3 (qI)) (b := ({ p with a6 := p1z } : PF).ch) (by kernel_rfl)) (ai (nez h) tt0))
theorem acO (p : PF) (sb : LU0) (e : Int) (hl : 48 <= sb.length) (h : (g1E (sb.take 48)) = 0) : qo (gpI p sb 0 7).aa .normal (gpI { p with a7 := (g1V (sb.take 48)) } (sb.drop 48) (g1E (sb.take 48)) 8).aa :=
 rA (os := oL [(66, rO 5 0), (80, rO 5 0), (98, wF)]) (by kernel_rfl) (ai (tB 7 8 rfl (sb := (sb.drop 48)) (e := (g1E (sb.take 48))) (a := ins p.ch 21 3 (pt1 (g1V (sb.take 48)))) (b := ({ p with a7 := (g1V (sb.take 48)) } : PF).ch) (by kernel_rfl)) (ai (eqz h) (ai (pK hl) (ai (pK hl) tt0))))
theorem adp (p : PF) (sb : LU0) (e : Int) (hl : 48 <= sb.length) (h : (g1E (sb.take 48)) ≠ 0) : qo (gpI p sb 0 7).aa .normal (gpI { p with a7 := (g1V (sb.take 48)) } (sb.drop 48) (g1E (sb.take 48)) 8).aa :=
 rA (os := oL [(66, rO 5 0), (80, rO 5 0), (98, wT)]) (by kernel_rfl) (ai (tB 7 8 rfl (sb := (sb.drop 48)) (e := (g1E (sb.take 48))) (a := ins p.ch 21 3 (qI)) (b := ({ p with a7 := (g1V (sb.take 48)) } : PF).ch) (by rw [rc h]; kernel_rfl)) (ai (nez h) (ai (pK hl) (ai (pK hl) tt0))))
theorem ab2 (p : PF) (sb : LU0) (e : Int) (h : e ≠ 0) : qo (gpI p sb e 7).aa .normal (gpI { p with a7 := p1z } sb e 8).aa :=
 rA (os := oL [(59, wT)]) (by kernel_rfl) (ai (tB 7 8 rfl (sb := sb) (e := e) (a := ins p.ch 21 3 (qI)) (b := ({ p with a7 := p1z } : PF).ch) (by kernel_rfl)) (ai (nez h) tt0))
theorem adU (p : PF) (sb : LU0) (e : Int) (hl : 48 <= sb.length) (h : (g1E (sb.take 48)) = 0) : qo (gpI p sb 0 8).aa .normal (gpI { p with a8 := (g1V (sb.take 48)) } (sb.drop 48) (g1E (sb.take 48)) 9).aa :=
 rA (os := oL [(66, rO 5 0), (80, rO 5 0), (98, wF)]) (by kernel_rfl) (ai (tB 8 9 rfl (sb := (sb.drop 48)) (e := (g1E (sb.take 48))) (a := ins p.ch 24 3 (pt1 (g1V (sb.take 48)))) (b := ({ p with a8 := (g1V (sb.take 48)) } : PF).ch) (by kernel_rfl)) (ai (eqz h) (ai (pK hl) (ai (pK hl) tt0))))
theorem ab4 (p : PF) (sb : LU0) (e : Int) (hl : 48 <= sb.length) (h : (g1E (sb.take 48)) ≠ 0) : qo (gpI p sb 0 8).aa .normal (gpI { p with a8 := (g1V (sb.take 48)) } (sb.drop 48) (g1E (sb.take 48)) 9).aa :=
 rA (os := oL [(66, rO 5 0), (80, rO 5 0), (98, wT)]) (by kernel_rfl) (ai (tB 8 9 rfl (sb := (sb.drop 48)) (e := (g1E (sb.take 48))) (a := ins p.ch 24 3 (qI)) (b := ({ p with a8 := (g1V (sb.take 48)) } : PF).ch) (by rw [rc h]; kernel_rfl)) (ai (nez h) (ai (pK hl) (ai (pK hl) tt0))))
theorem acl (p : PF) (sb : LU0) (e : Int) (h : e ≠ 0) : qo (gpI p sb e 8).aa .normal (gpI { p with a8 := p1z } sb e 9).aa :=
 rA (os := oL [(59, wT)]) (by kernel_rfl) (ai (tB 8 9 rfl (sb := sb) (e := e) (a := ins p.ch 24 3 (qI)) (b := ({ p with a8 := p1z } : PF).ch) (by kernel_rfl)) (ai (nez h) tt0))
abbrev q8 (a : AA) (e : Ex) (b : AA) : Prop := Sound prog 0 false (pS f6 1) a e b
theorem abx (p : PF) (sb : LU0) (e : Int) (hl : 32 <= sb.length) (h : (gfE (sb.take 32)) = 0) : q8 (gpK p sb 0 0).aa .normal (gpK { p with f0 := (gfV (sb.take 32)) } (sb.drop 32) (gfE (sb.take 32)) 1).aa :=
 rA (os := oL [(66, rO 5 0), (80, rO 5 0), (98, wF)]) (by kernel_rfl) (ai (wZ 0 1 rfl (sb := (sb.drop 32)) (e := (gfE (sb.take 32))) (a := ins p.ch 27 1 ([.n 4 (gfV (sb.take 32))])) (b := ({ p with f0 := (gfV (sb.take 32)) } : PF).ch) (by kernel_rfl)) (ai (eqz h) (ai (pK hl) (ai (pK hl) tt0))))
theorem abS (p : PF) (sb : LU0) (e : Int) (hl : 32 <= sb.length) (h : (gfE (sb.take 32)) ≠ 0) : q8 (gpK p sb 0 0).aa .normal (gpK { p with f0 := (gfV (sb.take 32)) } (sb.drop 32) (gfE (sb.take 32)) 1).aa :=
 rA (os := oL [(66, rO 5 0), (80, rO 5 0), (98, wT)]) (by kernel_rfl) (ai (wZ 0 1 rfl (sb := (sb.drop 32)) (e := (gfE (sb.take 32))) (a := ins p.ch 27 1 (z4L)) (b := ({ p with f0 := (gfV (sb.take 32)) } : PF).ch) (by rw [rq h]; kernel_rfl)) (ai (nez h) (ai (pK hl) (ai (pK hl) tt0))))
theorem abZ (p : PF) (sb : LU0) (e : Int) (h : e ≠ 0) : q8 (gpK p sb e 0).aa .normal (gpK { p with f0 := 0 } sb e 1).aa :=
 rA (os := oL [(59, wT)]) (by kernel_rfl) (ai (wZ 0 1 rfl (sb := sb) (e := e) (a := ins p.ch 27 1 (z4L)) (b := ({ p with f0 := 0 } : PF).ch) (by kernel_rfl)) (ai (nez h) tt0))
theorem ad7 (p : PF) (sb : LU0) (e : Int) (hl : 32 <= sb.length) (h : (gfE (sb.take 32)) = 0) : q8 (gpK p sb 0 1).aa .normal (gpK { p with f1 := (gfV (sb.take 32)) } (sb.drop 32) (gfE (sb.take 32)) 2).aa :=
 rA (os := oL [(66, rO 5 0), (80, rO 5 0), (98, wF)]) (by kernel_rfl) (ai (wZ 1 2 rfl (sb := (sb.drop 32)) (e := (gfE (sb.take 32))) (a := ins p.ch 28 1 ([.n 4 (gfV (sb.take 32))])) (b := ({ p with f1 := (gfV (sb.take 32)) } : PF).ch) (by kernel_rfl)) (ai (eqz h) (ai (pK hl) (ai (pK hl) tt0))))
theorem ad0 (p : PF) (sb : LU0) (e : Int) (hl : 32 <= sb.length) (h : (gfE (sb.take 32)) ≠ 0) : q8 (gpK p sb 0 1).aa .normal (gpK { p with f1 := (gfV (sb.take 32)) } (sb.drop 32) (gfE (sb.take 32)) 2).aa :=
 rA (os := oL [(66, rO 5 0), (80, rO 5 0), (98, wT)]) (by kernel_rfl) (ai (wZ 1 2 rfl (sb := (sb.drop 32)) (e := (gfE (sb.take 32))) (a := ins p.ch 28 1 (z4L)) (b := ({ p with f1 := (gfV (sb.take 32)) } : PF).ch) (by rw [rq h]; kernel_rfl)) (ai (nez h) (ai (pK hl) (ai (pK hl) tt0))))
theorem ab6 (p : PF) (sb : LU0) (e : Int) (h : e ≠ 0) : q8 (gpK p sb e 1).aa .normal (gpK { p with f1 := 0 } sb e 2).aa :=
 rA (os := oL [(59, wT)]) (by kernel_rfl) (ai (wZ 1 2 rfl (sb := sb) (e := e) (a := ins p.ch 28 1 (z4L)) (b := ({ p with f1 := 0 } : PF).ch) (by kernel_rfl)) (ai (nez h) tt0))
theorem abH (p : PF) (sb : LU0) (e : Int) (hl : 32 <= sb.length) (h : (gfE (sb.take 32)) = 0) : q8 (gpK p sb 0 2).aa .normal (gpK { p with f2 := (gfV (sb.take 32)) } (sb.drop 32) (gfE (sb.take 32)) 3).aa :=
 rA (os := oL [(66, rO 5 0), (80, rO 5 0), (98, wF)]) (by kernel_rfl) (ai (wZ 2 3 rfl (sb := (sb.drop 32)) (e := (gfE (sb.take 32))) (a := ins p.ch 29 1 ([.n 4 (gfV (sb.take 32))])) (b := ({ p with f2 := (gfV (sb.take 32)) } : PF).ch) (by kernel_rfl)) (ai (eqz h) (ai (pK hl) (ai (pK hl) tt0))))
theorem acF (p : PF) (sb : LU0) (e : Int) (hl : 32 <= sb.length) (h : (gfE (sb.take 32)) ≠ 0) : q8 (gpK p sb 0 2).aa .normal (gpK { p with f2 := (gfV (sb.take 32)) } (sb.drop 32) (gfE (sb.take 32)) 3).aa :=
 rA (os := oL [(66, rO 5 0), (80, rO 5 0), (98, wT)]) (by kernel_rfl) (ai (wZ 2 3 rfl (sb := (sb.drop 32)) (e := (gfE (sb.take 32))) (a := ins p.ch 29 1 (z4L)) (b := ({ p with f2 := (gfV (sb.take 32)) } : PF).ch) (by rw [rq h]; kernel_rfl)) (ai (nez h) (ai (pK hl) (ai (pK hl) tt0))))
theorem acp (p : PF) (sb : LU0) (e : Int) (h : e ≠ 0) : q8 (gpK p sb e 2).aa .normal (gpK { p with f2 := 0 } sb e 3).aa :=
 rA (os := oL [(59, wT)]) (by kernel_rfl) (ai (wZ 2 3 rfl (sb := sb) (e := e) (a := ins p.ch 29 1 (z4L)) (b := ({ p with f2 := 0 } : PF).ch) (by kernel_rfl)) (ai (nez h) tt0))
theorem acU (p : PF) (sb : LU0) (e : Int) (hl : 32 <= sb.length) (h : (gfE (sb.take 32)) = 0) : q8 (gpK p sb 0 3).aa .normal (gpK { p with f3 := (gfV (sb.take 32)) } (sb.drop 32) (gfE (sb.take 32)) 4).aa :=
 rA (os := oL [(66, rO 5 0), (80, rO 5 0), (98, wF)]) (by kernel_rfl) (ai (wZ 3 4 rfl (sb := (sb.drop 32)) (e := (gfE (sb.take 32))) (a := ins p.ch 30 1 ([.n 4 (gfV (sb.take 32))])) (b := ({ p with f3 := (gfV (sb.take 32)) } : PF).ch) (by kernel_rfl)) (ai (eqz h) (ai (pK hl) (ai (pK hl) tt0))))
theorem abV (p : PF) (sb : LU0) (e : Int) (hl : 32 <= sb.length) (h : (gfE (sb.take 32)) ≠ 0) : q8 (gpK p sb 0 3).aa .normal (gpK { p with f3 := (gfV (sb.take 32)) } (sb.drop 32) (gfE (sb.take 32)) 4).aa :=
 rA (os := oL [(66, rO 5 0), (80, rO 5 0), (98, wT)]) (by kernel_rfl) (ai (wZ 3 4 rfl (sb := (sb.drop 32)) (e := (gfE (sb.take 32))) (a := ins p.ch 30 1 (z4L)) (b := ({ p with f3 := (gfV (sb.take 32)) } : PF).ch) (by rw [rq h]; kernel_rfl)) (ai (nez h) (ai (pK hl) (ai (pK hl) tt0))))
theorem adr (p : PF) (sb : LU0) (e : Int) (h : e ≠ 0) : q8 (gpK p sb e 3).aa .normal (gpK { p with f3 := 0 } sb e 4).aa :=
 rA (os := oL [(59, wT)]) (by kernel_rfl) (ai (wZ 3 4 rfl (sb := sb) (e := e) (a := ins p.ch 30 1 (z4L)) (b := ({ p with f3 := 0 } : PF).ch) (by kernel_rfl)) (ai (nez h) tt0))
theorem aby (p : PF) (sb : LU0) (e : Int) (hl : 32 <= sb.length) (h : (gfE (sb.take 32)) = 0) : q8 (gpK p sb 0 4).aa .normal (gpK { p with f4 := (gfV (sb.take 32)) } (sb.drop 32) (gfE (sb.take 32)) 5).aa :=
 rA (os := oL [(66, rO 5 0), (80, rO 5 0), (98, wF)]) (by kernel_rfl) (ai (wZ 4 5 rfl (sb := (sb.drop 32)) (e := (gfE (sb.take 32))) (a := ins p.ch 31 1 ([.n 4 (gfV (sb.take 32))])) (b := ({ p with f4 := (gfV (sb.take 32)) } : PF).ch) (by kernel_rfl)) (ai (eqz h) (ai (pK hl) (ai (pK hl) tt0))))
theorem ab1 (p : PF) (sb : LU0) (e : Int) (hl : 32 <= sb.length) (h : (gfE (sb.take 32)) ≠ 0) : q8 (gpK p sb 0 4).aa .normal (gpK { p with f4 := (gfV (sb.take 32)) } (sb.drop 32) (gfE (sb.take 32)) 5).aa :=
 rA (os := oL [(66, rO 5 0), (80, rO 5 0), (98, wT)]) (by kernel_rfl) (ai (wZ 4 5 rfl (sb := (sb.drop 32)) (e := (gfE (sb.take 32))) (a := ins p.ch 31 1 (z4L)) (b := ({ p with f4 := (gfV (sb.take 32)) } : PF).ch) (by rw [rq h]; kernel_rfl)) (ai (nez h) (ai (pK hl) (ai (pK hl) tt0))))
theorem acI (p : PF) (sb : LU0) (e : Int) (h : e ≠ 0) : q8 (gpK p sb e 4).aa .normal (gpK { p with f4 := 0 } sb e 5).aa :=
 rA (os := oL [(59, wT)]) (by kernel_rfl) (ai (wZ 4 5 rfl (sb := sb) (e := e) (a := ins p.ch 31 1 (z4L)) (b := ({ p with f4 := 0 } : PF).ch) (by kernel_rfl)) (ai (nez h) tt0))
theorem abT (p : PF) (sb : LU0) (e : Int) (hl : 32 <= sb.length) (h : (gfE (sb.take 32)) = 0) : q8 (gpK p sb 0 5).aa .normal (gpK { p with f5 := (gfV (sb.take 32)) } (sb.drop 32) (gfE (sb.take 32)) 6).aa :=
 rA (os := oL [(66, rO 5 0), (80, rO 5 0), (98, wF)]) (by kernel_rfl) (ai (wZ 5 6 rfl (sb := (sb.drop 32)) (e := (gfE (sb.take 32))) (a := ins p.ch 32 1 ([.n 4 (gfV (sb.take 32))])) (b := ({ p with f5 := (gfV (sb.take 32)) } : PF).ch) (by kernel_rfl)) (ai (eqz h) (ai (pK hl) (ai (pK hl) tt0))))
theorem aew (p : PF) (sb : LU0) (e : Int) (hl : 32 <= sb.length) (h : (gfE (sb.take 32)) ≠ 0) : q8 (gpK p sb 0 5).aa .normal (gpK { p with f5 := (gfV (sb.take 32)) } (sb.drop 32) (gfE (sb.take 32)) 6).aa :=
 rA (os := oL [(66, rO 5 0), (80, rO 5 0), (98, wT)]) (by kernel_rfl) (ai (wZ 5 6 rfl (sb := (sb.drop 32)) (e := (gfE (sb.take 32))) (a := ins p.ch 32 1 (z4L)) (b := ({ p with f5 := (gfV (sb.take 32)) } : PF).ch) (by rw [rq h]; kernel_rfl)) (ai (nez h) (ai (pK hl) (ai (pK hl) tt0))))
theorem ac7 (p : PF) (sb : LU0) (e : Int) (h : e ≠ 0) : q8 (gpK p sb e 5).aa .normal (gpK { p with f5 := 0 } sb e 6).aa :=
 rA (os := oL [(59, wT)]) (by kernel_rfl) (ai (wZ 5 6 rfl (sb := sb) (e := e) (a := ins p.ch 32 1 (z4L)) (b := ({ p with f5 := 0 } : PF).ch) (by kernel_rfl)) (ai (nez h) tt0))
end Go.Proofs.YtokjhbmmdmeafaaGreat
set_option linter.unusedSimpArgs false
set_option linter.unusedVariables false
namespace Go.Proofs.YtokjhbmmdmeafaaGreat
open Go.Ev Go.RowKit
open Tryz
theorem afV (p : PF) (st : Int × LU0) (hl : st.1 = 0 -> 48 <= st.2.length) : qo (gpI p st.2 st.1 0).aa .normal (gpI { p with a0 := rvl 48 g1V p1z st } (rst 48 g1E st).2 (rst 48 g1E st).1 1).aa := by
 obtain ⟨e, sb⟩ := st
 by_cases h : e = 0
 ·subst h
  by_cases h1 : g1E (sb.take 48) = 0
  ·exact aeB p sb 0 (hl rfl) h1
  ·exact aeS p sb 0 (hl rfl) h1
 ·rw [show rst 48 g1E (e, sb) = (e, sb) from if_neg h, show rvl 48 g1V p1z (e, sb) = p1z from if_neg h]
  exact ac6 p sb e h
theorem afG (p : PF) (st : Int × LU0) (hl : st.1 = 0 -> 48 <= st.2.length) : qo (gpI p st.2 st.1 1).aa .normal (gpI { p with a1 := rvl 48 g1V p1z st } (rst 48 g1E st).2 (rst 48 g1E st).1 2).aa := by
 obtain ⟨e, sb⟩ := st
 by_cases h : e = 0
 ·subst h
  by_cases h1 : g1E (sb.take 48) = 0
  ·exact aeE p sb 0 (hl rfl) h1
  ·exact adS p sb 0 (hl rfl) h1
 ·rw [show rst 48 g1E (e, sb) = (e, sb) from if_neg h, show rvl 48 g1V p1z (e, sb) = p1z from if_neg h]
  exact aeZ p sb e h
theorem afi (p : PF) (st : Int × LU0) (hl : st.1 = 0 -> 48 <= st.2.length) : qo (gpI p st.2 st.1 2).aa .normal (gpI { p with a2 := rvl 48 g1V p1z st } (rst 48 g1E st).2 (rst 48 g1E st).1 3).aa := by
 obtain ⟨e, sb⟩ := st
 by_cases h : e = 0
 ·subst h
  by_cases h1 : g1E (sb.take 48) = 0
  ·exact aeR p sb 0 (hl rfl) h1
  ·exact acu p sb 0 (hl rfl) h1
 ·rw [show rst 48 g1E (e, sb) = (e, sb) from if_neg h, show rvl 48 g1V p1z (e, sb) = p1z from if_neg h]
  exact adv p sb e h
theorem age (p : PF) (st : Int × LU0) (hl : st.1 = 0 -> 48 <= st.2.length) : qo (gpI p st.2 st.1 3).aa .normal (gpI { p with a3 := rvl 48 g1V p1z st } (rst 48 g1E st).2 (rst 48 g1E st).1 4).aa := by
 obtain ⟨e, sb⟩ := st
 by_cases h : e = 0
 ·subst h
  by_cases h1 : g1E (sb.take 48) = 0
  ·exact adw p sb 0 (hl rfl) h1
  ·exact ade p sb 0 (hl rfl) h1
 ·rw [show rst 48 g1E (e, sb) = (e, sb) from if_neg h, show rvl 48 g1V p1z (e, sb) = p1z from if_neg h]
  exact aen p sb e h
theorem ae5 (p : PF) (st : Int × LU0) (hl : st.1 = 0 -> 48 <= st.2.length) : qo (gpI p st.2 st.1 4).aa .normal (gpI { p with a4 := rvl 48 g1V p1z st } (rst 48 g1E st).2 (rst 48 g1E st).1 5).aa := by
 obtain ⟨e, sb⟩ := st
 by_cases h : e = 0
 ·subst h
  by_cases h1 : g1E (sb.take 48) = 0
  ·exact acR p sb 0 (hl rfl) h1
  ·exact adc p sb 0 (hl rfl) h1
 ·rw [show rst 48 g1E (e, sb) = (e, sb) from if_neg h, show rvl 48 g1V p1z (e, sb) = p1z from if_neg h]
  exact acA p sb e h
theorem agh (p : PF) (st : Int × LU0) (hl : st.1 = 0 -> 48 <= st.2.length) : qo (gpI p st.2 st.1 5).aa .normal (gpI { p with a5 := rvl 48 g1V p1z st } (rst 48 g1E st).2 (rst 48 g1E st).1 6).aa := by
 obtain ⟨e, sb⟩ := st
 by_cases h : e = 0
 ·subst h
  by_cases h1 : g1E (sb.take 48) = 0
  ·exact abl p sb 0 (hl rfl) h1
  ·exact ab9 p sb 0 (hl rfl) h1
 ·rw [show rst 48 g1E (e, sb) = (e, sb) from if_neg h, show rvl 48 g1V p1z (e, sb) = p1z from if_neg h]
  exact aeX p sb e h
theorem ae2 (p : PF) (st : Int × LU0) (hl : st.1 = 0 -> 48 <= st.2.length) : qo (gpI p st.2 st.1 6).aa .normal (gpI { p with a6 := rvl 48 g1V p1z st } (rst 48 g1E st).2 (rst 48 g1E st).1 7).aa := by
 obtain ⟨e, sb⟩ := st
 by_cases h : e = 0
 ·subst h
  by_cases h1 : g1E (sb.take 48) = 0
  ·exact acb p sb 0 (hl rfl) h1
  ·exact adf p sb 0 (hl rfl) h1
 ·rw [show rst 48 g1E (e, sb) = (e, sb) from if_neg h, show rvl 48 g1V p1z (e, sb) = p1z from if_neg h]
  exact acs p sb e h
theorem afy (p : PF) (st : Int × LU0) (hl : st.1 = 0 -> 48 <= st.2.length) : qo (gpI p st.2 st.1 7).aa .normal (gpI { p with a7 := rvl 48 g1V p1z st } (rst 48 g1E st).2 (rst 48 g1E st).1 8).aa := by
 obtain ⟨e, sb⟩ := st
 by_cases h : e = 0
 ·subst h
  by_cases h1 : g1E (sb.take 48) = 0
  ·exact acO p sb 0 (hl rfl) h1
  ·exact adp p sb 0 (hl rfl) h1
 ·rw [show rst 48 g1E (e, sb) = (e, sb) from if_neg h, show rvl 48 g1V p1z (e, sb) = p1z from if_neg h]
  exact ab2 p sb e h
theorem afN (p : PF) (st : Int × LU0) (hl : st.1 = 0 -> 48 <= st.2.length) : qo (gpI p st.2 st.1 8).aa .normal (gpI { p with a8 := rvl 48 g1V p1z st } (rst 48 g1E st).2 (rst 48 g1E st).1 9).aa := by
 obtain ⟨e, sb⟩ := st
 by_cases h : e = 0
 ·subst h
  by_cases h1 : g1E (sb.take 48) = 0
  ·exact adU p sb 0 (hl rfl) h1
  ·exact ab4 p sb 0 (hl rfl) h1
 ·rw [show rst 48 g1E (e, sb) = (e, sb) from if_neg h, show rvl 48 g1V p1z (e, sb) = p1z from if_neg h]
  exact acl p sb e h
def ppA (V : Nat -> A1) (i : Nat) : PF := ⟨if 0 < i then V 0 else p1z, if 1 < i then V 1 else p1z, if 2 < i then V 2 else p1z, if 3 < i then V 3 else p1z, if 4 < i then V 4 else p1z, if 5 < i then V 5 else p1z, if 6 < i then V 6 else p1z, if 7 < i then V 7 else p1z, if 8 < i then V 8 else p1z, 0, 0, 0, 0, 0, 0⟩
theorem U5 (st : Int × LU0) (h0 : st.1 = 0 -> 624 <= st.2.length) (i : Nat) (hi : i < 9) : (nst 48 g1E i st).1 = 0 -> 48 <= (nst 48 g1E i st).2.length := by
 intro h
 obtain ⟨e, sb⟩ := st
 obtain ⟨h1, h2, _⟩ := qh i (e, sb) h
 have h1 : e = 0 := h1
 subst h1
 have h4 : 624 <= sb.length := h0 rfl
 rw [h2]
 show 48 <= (sb.drop (48 * i)).length
 rw [List.length_drop]
 omega
theorem TG {c : Code} {I L : LState} {ex : Ex} {b : Prop} (o : LO0) (k : Nat) (sk hk : List Nat) (hb : b) (h : uW prog (pN _) [] 0 (oL o) 0 false c k I sk hk [] = some (ex, L, b) := by kernel_rfl) : Sound prog 0 false c I.aa ex L.aa := pR (P := prog) (X := pN _) (env := []) trivial h hb
theorem WM (p : PF) (sb : LU0) (e : Int) : qo (gpI p sb e 9).aa (.exit 0) (gpE p sb e).aa :=
 TG [] 47 [2, 4, 5] [0, 23, 35] trivial
theorem Al (st : Int × LU0) (h0 : st.1 = 0 -> 624 <= st.2.length) : Sound prog 0 false (.loop (pS f6 0)) (gpI (ppA (fun j => rvl 48 g1V p1z (nst 48 g1E j st)) 0) st.2 st.1 0).aa (.exit 0) (gpE (ppA (fun j => rvl 48 g1V p1z (nst 48 g1E j st)) 9) (nst 48 g1E 9 st).2 (nst 48 g1E 9 st).1).aa := by
 have hh := qk (P := prog) (fb := 0) (rd := false) (body := (pS f6 0)) (ex := .exit 0) (E := gpE (ppA (fun j => rvl 48 g1V p1z (nst 48 g1E j st)) 9) (nst 48 g1E 9 st).2 (nst 48 g1E 9 st).1) (m := fun y : { i : Nat // i <= 9 } => 9 - y.val) (fun y => gpI (ppA (fun j => rvl 48 g1V p1z (nst 48 g1E j st)) y.val) (nst 48 g1E y.val st).2 (nst 48 g1E y.val st).1 (y.val : Int)) (by simp) (fun y => ?_) ⟨0, by omega⟩
 ·exact hh
 obtain ⟨i, hi⟩ := y
 by_cases e : i < 9
 ·refine .inl ⟨⟨i + 1, e⟩, by show 9 - (i + 1) < 9 - i; omega, ?_⟩
  have hl := U5 st h0 i e
  have e : i = 0 ∨ i = 1 ∨ i = 2 ∨ i = 3 ∨ i = 4 ∨ i = 5 ∨ i = 6 ∨ i = 7 ∨ i = 8 := by omega
  rcases e with rfl | rfl | rfl | rfl | rfl | rfl | rfl | rfl | rfl
  ·exact afV (ppA (fun j => rvl 48 g1V p1z (nst 48 g1E j st)) 0) (nst 48 g1E 0 st) hl
  ·exact afG (ppA (fun j => rvl 48 g1V p1z (nst 48 g1E j st)) 1) (nst 48 g1E 1 st) hl
  ·exact afi (ppA (fun j => rvl 48 g1V p1z (nst 48 g1E j st)) 2) (nst 48 g1E 2 st) hl
  ·exact age (ppA (fun j => rvl 48 g1V p1z (nst 48 g1E j st)) 3) (nst 48 g1E 3 st) hl
  ·exact ae5 (ppA (fun j => rvl 48 g1V p1z (nst 48 g1E j st)) 4) (nst 48 g1E 4 st) hl
  ·exact agh (ppA (fun j => rvl 48 g1V p1z (nst 48 g1E j st)) 5) (nst 48 g1E 5 st) hl
  ·exact ae2 (ppA (fun j => rvl 48 g1V p1z (nst 48 g1E j st)) 6) (nst 48 g1E 6 st) hl
  ·exact afy (ppA (fun j => rvl 48 g1V p1z (nst 48 g1E j st)) 7) (nst 48 g1E 7 st) hl
  ·exact afN (ppA (fun j => rvl 48 g1V p1z (nst 48 g1E j st)) 8) (nst 48 g1E 8 st) hl
 ·have e : i = 9 := by omega
  subst e
  exact .inr (WM _ _ _)
theorem agR (p : PF) (st : Int × LU0) (hl : st.1 = 0 -> 32 <= st.2.length) : q8 (gpK p st.2 st.1 0).aa .normal (gpK { p with f0 := rvl 32 gfV 0 st } (rst 32 gfE st).2 (rst 32 gfE st).1 1).aa := by
 obtain ⟨e, sb⟩ := st
 by_cases h : e = 0
 ·subst h
  by_cases h1 : gfE (sb.take 32) = 0
  ·exact abx p sb 0 (hl rfl) h1
  ·exact abS p sb 0 (hl rfl) h1
 ·rw [show rst 32 gfE (e, sb) = (e, sb) from if_neg h, show rvl 32 gfV 0 (e, sb) = 0 from if_neg h]
  exact abZ p sb e h
theorem af5 (p : PF) (st : Int × LU0) (hl : st.1 = 0 -> 32 <= st.2.length) : q8 (gpK p st.2 st.1 1).aa .normal (gpK { p with f1 := rvl 32 gfV 0 st } (rst 32 gfE st).2 (rst 32 gfE st).1 2).aa := by
 obtain ⟨e, sb⟩ := st
 by_cases h : e = 0
 ·subst h
  by_cases h1 : gfE (sb.take 32) = 0
  ·exact ad7 p sb 0 (hl rfl) h1
  ·exact ad0 p sb 0 (hl rfl) h1
 ·rw [show rst 32 gfE (e, sb) = (e, sb) from if_neg h, show rvl 32 gfV 0 (e, sb) = 0 from if_neg h]
  exact ab6 p sb e h
theorem afg (p : PF) (st : Int × LU0) (hl : st.1 = 0 -> 32 <= st.2.length) : q8 (gpK p st.2 st.1 2).aa .normal (gpK { p with f2 := rvl 32 gfV 0 st } (rst 32 gfE st).2 (rst 32 gfE st).1 3).aa := by
 obtain ⟨e, sb⟩ := st
 by_cases h : e = 0
 ·subst h
  by_cases h1 : gfE (sb.take 32) = 0
  ·exact abH p sb 0 (hl rfl) h1
  ·exact acF p sb 0 (hl rfl) h1
 ·rw [show rst 32 gfE (e, sb) = (e, sb) from if_neg h, show rvl 32 gfV 0 (e, sb) = 0 from if_neg h]
  exact acp p sb e h
theorem afL (p : PF) (st : Int × LU0) (hl : st.1 = 0 -> 32 <= st.2.length) : q8 (gpK p st.2 st.1 3).aa .normal (gpK { p with f3 := rvl 32 gfV 0 st } (rst 32 gfE st).2 (rst 32 gfE st).1 4).aa := by
 obtain ⟨e, sb⟩ := st
 by_cases h : e = 0
 ·subst h
  by_cases h1 : gfE (sb.take 32) = 0
  ·exact acU p sb 0 (hl rfl) h1
  ·exact abV p sb 0 (hl rfl) h1
 ·rw [show rst 32 gfE (e, sb) = (e, sb) from if_neg h, show rvl 32 gfV 0 (e, sb) = 0 from if_neg h]
  exact adr p sb e h
theorem afw (p : PF) (st : Int × LU0) (hl : st.1 = 0 -> 32 <= st.2.length) : q8 (gpK p st.2 st.1 4).aa .normal (gpK { p with f4 := rvl 32 gfV 0 st } (rst 32 gfE st).2 (rst 32 gfE st).1 5).aa := by
 obtain ⟨e, sb⟩ := st
 by_cases h : e = 0
 ·subst h
  by_cases h1 : gfE (sb.take 32) = 0
  ·exact aby p sb 0 (hl rfl) h1
  ·exact ab1 p sb 0 (hl rfl) h1
 ·rw [show rst 32 gfE (e, sb) = (e, sb) from if_neg h, show rvl 32 gfV 0 (e, sb) = 0 from if_neg h]
  exact acI p sb e h
theorem afA (p : PF) (st : Int × LU0) (hl : st.1 = 0 -> 32 <= st.2.length) : q8 (gpK p st.2 st.1 5).aa .normal (gpK { p with f5 := rvl 32 gfV 0 st } (rst 32 gfE st).2 (rst 32 gfE st).1 6).aa := by
 obtain ⟨e, sb⟩ := st
 by_cases h : e = 0
 ·subst h
  by_cases h1 : gfE (sb.take 32) = 0
  ·exact abT p sb 0 (hl rfl) h1
  ·exact aew p sb 0 (hl rfl) h1
 ·rw [show rst 32 gfE (e, sb) = (e, sb) from if_neg h, show rvl 32 gfV 0 (e, sb) = 0 from if_neg h]
  exact ac7 p sb e h
def ppB (p : PF) (W : Nat -> Nat) (i : Nat) : PF := { p with f0 := if 0 < i then W 0 else p.f0, f1 := if 1 < i then W 1 else p.f1, f2 := if 2 < i then W 2 else p.f2, f3 := if 3 < i then W 3 else p.f3, f4 := if 4 < i then W 4 else p.f4, f5 := if 5 < i then W 5 else p.f5 }
theorem We (p : PF) (st : Int × LU0) (h0 : st.1 = 0 -> 192 <= st.2.length) (i : Nat) (hi : i < 6) : (nst 32 gfE i st).1 = 0 -> 32 <= (nst 32 gfE i st).2.length := by
 intro h
 obtain ⟨e, sb⟩ := st
 obtain ⟨h1, h2, _⟩ := qh i (e, sb) h
 have h1 : e = 0 := h1
 subst h1
 have h4 : 192 <= sb.length := h0 rfl
 rw [h2]
 show 32 <= (sb.drop (32 * i)).length
 rw [List.length_drop]
 omega
theorem Wk (p : PF) (sb : LU0) (e : Int) : q8 (gpK p sb e 6).aa (.exit 2) (gpE p sb e).aa :=
 TG [] 47 [2, 4, 5] [0, 23, 35] trivial
theorem z9 (p : PF) (st : Int × LU0) (h0 : st.1 = 0 -> 192 <= st.2.length) : Sound prog 0 false (.loop (pS f6 1)) (gpK (ppB p (fun j => rvl 32 gfV 0 (nst 32 gfE j st)) 0) st.2 st.1 0).aa (.exit 2) (gpE (ppB p (fun j => rvl 32 gfV 0 (nst 32 gfE j st)) 6) (nst 32 gfE 6 st).2 (nst 32 gfE 6 st).1).aa := by
 have hh := qk (P := prog) (fb := 0) (rd := false) (body := (pS f6 1)) (ex := .exit 2) (E := gpE (ppB p (fun j => rvl 32 gfV 0 (nst 32 gfE j st)) 6) (nst 32 gfE 6 st).2 (nst 32 gfE 6 st).1) (m := fun y : { i : Nat // i <= 6 } => 6 - y.val) (fun y => gpK (ppB p (fun j => rvl 32 gfV 0 (nst 32 gfE j st)) y.val) (nst 32 gfE y.val st).2 (nst 32 gfE y.val st).1 (y.val : Int)) (by simp) (fun y => ?_) ⟨0, by omega⟩
 ·exact hh
 obtain ⟨i, hi⟩ := y
 by_cases e : i < 6
 ·refine .inl ⟨⟨i + 1, e⟩, by show 6 - (i + 1) < 6 - i; omega, ?_⟩
  have hl := We p st h0 i e
  have e : i = 0 ∨ i = 1 ∨ i = 2 ∨ i = 3 ∨ i = 4 ∨ i = 5 := by omega
  rcases e with rfl | rfl | rfl | rfl | rfl | rfl
  ·exact agR (ppB p (fun j => rvl 32 gfV 0 (nst 32 gfE j st)) 0) (nst 32 gfE 0 st) hl
  ·exact af5 (ppB p (fun j => rvl 32 gfV 0 (nst 32 gfE j st)) 1) (nst 32 gfE 1 st) hl
  ·exact afg (ppB p (fun j => rvl 32 gfV 0 (nst 32 gfE j st)) 2) (nst 32 gfE 2 st) hl
  ·exact afL (ppB p (fun j => rvl 32 gfV 0 (nst 32 gfE j st)) 3) (nst 32 gfE 3 st) hl
  ·exact afw (ppB p (fun j => rvl 32 gfV 0 (nst 32 gfE j st)) 4) (nst 32 gfE 4 st) hl
  ·exact afA (ppB p (fun j => rvl 32 gfV 0 (nst 32 gfE j st)) 5) (nst 32 gfE 5 st) hl
 ·have e : i = 6 := by omega
  subst e
  exact .inr (Wk _ _ _)
def tt (st : Int × LU0) : Int × LU0 := nst 32 gfE 6 (nst 48 g1E 9 st)
def wX (st : Int × LU0) : PF := ppB (ppA (fun j => rvl 48 g1V p1z (nst 48 g1E j st)) 9) (fun j => rvl 32 gfV 0 (nst 32 gfE j (nst 48 g1E 9 st))) 6
end Go.Proofs.YtokjhbmmdmeafaaGreat
set_option linter.unusedSimpArgs false
set_option linter.unusedVariables false
namespace Go.Proofs.YtokjhbmmdmeafaaGreat
open Go.Ev Go.RowKit
open Tryz
theorem zK {st : Int × LU0} (h : st.1 ≠ 0) : tt st = st := by
 unfold tt; rw [tW h, tW h]
theorem aa2 : flat ub = flat (ppA (fun j => p1z) 0).ch := by kernel_rfl
def Js (sb : LU0) : LState := { n := 58, sl := [(2, .p 0 0), (4, .p 23 0), (5, .p 35 0), (23, .ag [.p 35 0, .p 35 13, .p 35 26, .p 35 39, .p 35 52, .p 35 65, .p 35 78, .p 35 91, .p 35 104]), (24, vi0 0)], hp := [(0, .own ub 30), (23, .own [.c (.string (ofL sb)), ci0 0] 85), (35, .own ub 30)] }
def SH (sb : LU0) : LState := { n := 58, sl := [(2, .p 0 0), (4, .p 23 0), (5, .p 47 0), (23, .ag [.p 47 0, .p 47 13, .p 47 26, .p 47 39, .p 47 52, .p 47 65, .p 47 78, .p 47 91, .p 47 104]), (24, vi0 0)], hp := [(0, .own ub 30), (23, .own [.c (.string (ofL sb)), ci0 3] 85), (47, .own ub 30)] }
def JF : LState := { n := 58, sl := [(2, .p 0 0), (4, .p 19 0), (5, .p 38 0), (23, .ag [.p 38 0, .p 38 13, .p 38 26, .p 38 39, .p 38 52, .p 38 65, .p 38 78, .p 38 91, .p 38 104]), (24, vi0 0)], hp := [(0, .own ub 30), (19, .own [.c (.string (ofL [])), ci0 80] 85), (38, .own ub 30)] }
theorem IB (sb : LU0) : qw (Js sb).aa (gpI (ppA (fun j => rvl 48 g1V p1z (nst 48 g1E j (0, sb))) 0) sb 0 0) [] := by
 have e : qw (Js sb).aa (gpI (ppA (fun j => rvl 48 g1V p1z (nst 48 g1E j (0, sb))) 0) sb 0 0) [] = (((qf 0) /\ (qf 0) /\ (qf 0) /\ ((qf 0) /\ (qf 13) /\ (qf 26) /\ (qf 39) /\ (qf 52) /\ (qf 65) /\ (qf 78) /\ (qf 91) /\ (qf 104) /\ True) /\ (ST (.int .i64 0)) /\ True) /\ ((zY 30 ub) /\ (zY 85 [.c (.string (ofL sb)), ci0 0]) /\ (30 = 30 /\ flat ub = flat (ppA (fun j => rvl 48 g1V p1z (nst 48 g1E j (0, sb))) 0).ch) /\ True)) := by kernel_rfl
 rw [e]
 exact ⟨⟨rr0, rr0, rr0, ⟨rr0, rr0, rr0, rr0, rr0, rr0, rr0, rr0, rr0, tt0⟩, rfl, tt0⟩, rr0, rr0, ⟨rfl, aa2⟩, tt0⟩
theorem T7 (sb : LU0) : qw (SH sb).aa (gpI (ppA (fun j => rvl 48 g1V p1z (nst 48 g1E j (3, sb))) 0) sb 3 0) [(35, 47)] := by
 have e : qw (SH sb).aa (gpI (ppA (fun j => rvl 48 g1V p1z (nst 48 g1E j (3, sb))) 0) sb 3 0) [(35, 47)] = (((qf 0) /\ (qf 0) /\ (qf 0) /\ ((qf 0) /\ (qf 13) /\ (qf 26) /\ (qf 39) /\ (qf 52) /\ (qf 65) /\ (qf 78) /\ (qf 91) /\ (qf 104) /\ True) /\ (ST (.int .i64 0)) /\ True) /\ ((zY 30 ub) /\ (zY 85 [.c (.string (ofL sb)), ci0 3]) /\ (30 = 30 /\ flat ub = flat (ppA (fun j => rvl 48 g1V p1z (nst 48 g1E j (3, sb))) 0).ch) /\ True)) := by kernel_rfl
 rw [e]
 exact ⟨⟨rr0, rr0, rr0, ⟨rr0, rr0, rr0, rr0, rr0, rr0, rr0, rr0, rr0, tt0⟩, rfl, tt0⟩, rr0, rr0, ⟨rfl, aa2⟩, tt0⟩
theorem IY : qw (JF).aa (gpI (ppA (fun j => rvl 48 g1V p1z (nst 48 g1E j (80, []))) 0) [] 80 0) [(23, 19), (35, 38)] := by
 have e : qw (JF).aa (gpI (ppA (fun j => rvl 48 g1V p1z (nst 48 g1E j (80, []))) 0) [] 80 0) [(23, 19), (35, 38)] = (((qf 0) /\ (qf 0) /\ (qf 0) /\ ((qf 0) /\ (qf 13) /\ (qf 26) /\ (qf 39) /\ (qf 52) /\ (qf 65) /\ (qf 78) /\ (qf 91) /\ (qf 104) /\ True) /\ (ST (.int .i64 0)) /\ True) /\ ((zY 30 ub) /\ (85 = 85 /\ flat [.c (.string (ofL [])), ci0 80] = flat [.c (.string (ofL [])), ci0 80]) /\ (30 = 30 /\ flat ub = flat (ppA (fun j => rvl 48 g1V p1z (nst 48 g1E j (80, []))) 0).ch) /\ True)) := by kernel_rfl
 rw [e]
 exact ⟨⟨rr0, rr0, rr0, ⟨rr0, rr0, rr0, rr0, rr0, rr0, rr0, rr0, rr0, tt0⟩, rfl, tt0⟩, rr0, rr0, ⟨rfl, aa2⟩, tt0⟩
def gpX (sb : LU0) (e : Int) : LState := { n := 58, sl := [(2, .p 0 0), (4, .p 23 0)], hp := [(0, .own ub 30), (23, .own [.c (.string (ofL sb)), ci0 e] 85)] }
def gpY (e : Int) : LState := { n := 58, sl := [(2, .p 0 0), (3, vi0 e)], hp := [(0, .own ub 30)] }
theorem yN (sb : LU0) (e : Int) : Sound prog 0 false (Bl f6 0) (gpX sb e).aa .normal (gpY e).aa := by
 have hL : True /\ (some (gpY e) = some (gpY e)) := ⟨tt0, rfl⟩
 exact qn (P := prog) (X := pN _) (env := []) trivial (rH (P := prog) (X := pN _) (env := []) (os := oL []) trivial 0) (os := oL []) (fb := 0) (k := 62) (I := gpX sb e) (E := gpY e) (by kernel_rfl) (ai (ai (ai (ai (ai (ai (ai hL tt0) tt0) (ai (ai (ai hL tt0) tt0) tt0)) (ai (ai (ai (ai hL tt0) tt0) tt0) tt0)) (ai (ai (ai (ai (ai hL tt0) tt0) tt0) tt0) tt0)) (ai (ai (ai (ai (ai (ai hL tt0) tt0) tt0) tt0) tt0) tt0)) (ai (ai (ai (ai (ai (ai (ai hL tt0) tt0) (ai (ai (ai hL tt0) tt0) tt0)) (ai (ai (ai (ai hL tt0) tt0) tt0) tt0)) (ai (ai (ai (ai (ai hL tt0) tt0) tt0) tt0) tt0)) (ai (ai (ai (ai (ai (ai hL tt0) tt0) (ai (ai (ai hL tt0) tt0) tt0)) (ai (ai (ai (ai hL tt0) tt0) tt0) tt0)) (ai (ai (ai (ai (ai hL tt0) tt0) (ai (ai (ai hL tt0) tt0) tt0)) (ai (ai (ai (ai hL tt0) tt0) tt0) tt0)) tt0)) tt0)) tt0))
theorem I3 (st : Int × LU0) (h0 : st.1 = 0 -> 624 <= st.2.length) : (nst 48 g1E 9 st).1 = 0 -> 192 <= (nst 48 g1E 9 st).2.length := by
 intro h
 obtain ⟨h1, h2, _⟩ := qh 9 st h
 rw [h2]
 show 192 <= (st.2.drop (48 * 9)).length
 have := h0 h1
 rw [List.length_drop]
 omega
theorem agi {l : LU0} (h : l.take 4 = mgP) : (!((ofL (l.take 4)).toList == (ofL mgP).toList)) = false := by rw [h]; simp
theorem C5 (l : LU0) : (ofL l).toList = l := by
 unfold ofL
 simp
theorem TT {l m : LU0} (h : l ≠ m) : (!((ofL l).toList == (ofL m).toList)) = true := by
 rw [C5, C5]
 simpa using h
def L9 {l : LU0} (hn : l.length = 628) (hm : l.take 4 = mgP) := PLift.up (show (0 : Int) <= 4 /\ (4 : Int) <= (ofL l).size from ⟨by decide, by show (4 : Int) <= (l.length : Nat); omega⟩)
abbrev IO (l : LU0) := ppA (fun j => rvl 48 g1V p1z (nst 48 g1E j (0, l.drop 4))) 9
abbrev BP (l : LU0) := nst 48 g1E 9 (0, l.drop 4)
abbrev xC (l : LU0) := tt (0, l.drop 4)
def Kg {l : LU0} (hm : l.take 4 = mgP) := PLift.up (show (!((ofL (l.take 4)).toList == (ofL mgP).toList)) = false from agi hm)
def QV (l : LU0) : Nat × Ora := (56, lpO { I := gpK (IO l) (BP l).2 (BP l).1 0, ex := .exit 2, E := gpE (wX (0, l.drop 4)) (xC l).2 (xC l).1, fr := 57 })
abbrev Gs (l : LU0) := gpK (IO l) (BP l).2 (BP l).1 0
def RL (l : LU0) : Nat × Ora := (47, lpO { I := Js (l.drop 4), ex := .exit 0, E := gpE (IO l) (BP l).2 (BP l).1, fr := 48 })
def PB : LO0 := [(6, { ch := 1, hi := fun _ => 628 }), (14, rO 5 0), (16, wF), (21, rO 5 0), (32, { ch := 1, hi := fun _ => 624 })]
theorem Dx {a : List XV} {r : AV} {b : Prop} (o : LO0) (hb : b) (h : fnA prog (pN _) [rf, ui] 3 (oL o) f6 a = some (r, b) := by kernel_rfl) (hv : ∃ v, r.val? = some v := by exact ⟨_, rfl⟩) : Gives prog 6 a r := pL (P := prog) (X := pN _) (env := [rf, ui]) ⟨qA, uE, tt0⟩ func6 3 (oL o) h hv hb
theorem aak (l : LU0) (hn : l.length = 628) (hm : l.take 4 = mgP) (h : (tt (0, l.drop 4)).1 = 0) : Gives prog 6 [.t (.v (.string (ofL l)))] (.tp [.ag (wX (0, l.drop 4)).ch, vi0 0]) := by
 have h0 : ((0, l.drop 4) : Int × LU0).1 = 0 -> 624 <= ((0, l.drop 4) : Int × LU0).2.length := fun _ => by show 624 <= (l.drop 4).length; rw [List.length_drop]; omega
 exact Dx (PB ++ [(RL l), (QV l), (61, wF)]) (ai (show ((tt (0, l.drop 4)).1 != 0) = false from by rw [h]; rfl) (ai (show some (Gs l) = some (Gs l) from rfl) (ai (z9 (IO l) (BP l) (I3 (0, l.drop 4) h0)) (ai (show some (Js (l.drop 4)) = some (Js (l.drop 4)) from rfl) (ai ((Al (0, l.drop 4) h0).pre [] (by kernel_rfl) (IB (l.drop 4))) (ai (show (((ofL (l.drop 4)).size : Nat) : Int) = ((624 : Nat) : Int) from by show (((l.drop 4).length : Nat) : Int) = _; rw [List.length_drop, hn]) (ai (L9 hn hm).down (ai (Kg hm).down (ai (L9 hn hm).down (ai (show (((ofL l).size : Nat) : Int) = ((628 : Nat) : Int) from by show ((l.length : Nat) : Int) = _; rw [hn]) tt0))))))))))
theorem YR (l : LU0) (hn : l.length = 628) (hm : l.take 4 = mgP) (h : (tt (0, l.drop 4)).1 ≠ 0) : Gives prog 6 [.t (.v (.string (ofL l)))] (.tp [.ag ub, vi0 (tt (0, l.drop 4)).1]) := by
 have h0 : ((0, l.drop 4) : Int × LU0).1 = 0 -> 624 <= ((0, l.drop 4) : Int × LU0).2.length := fun _ => by show 624 <= (l.drop 4).length; rw [List.length_drop]; omega
 exact Dx (PB ++ [(RL l), (QV l), (61, wT), (62, lpO { kd := 5, I := gpX (xC l).2 (xC l).1, ex := .normal, E := gpY (xC l).1, fr := 69 })]) (ai (show some (gpX (xC l).2 (xC l).1) = some (gpX (xC l).2 (xC l).1) from rfl) (ai (yN (xC l).2 (xC l).1) (ai (show ((tt (0, l.drop 4)).1 != 0) = true from by simpa using h) (ai (show some (Gs l) = some (Gs l) from rfl) (ai (z9 (IO l) (BP l) (I3 (0, l.drop 4) h0)) (ai (show some (Js (l.drop 4)) = some (Js (l.drop 4)) from rfl) (ai ((Al (0, l.drop 4) h0).pre [] (by kernel_rfl) (IB (l.drop 4))) (ai (show (((ofL (l.drop 4)).size : Nat) : Int) = ((624 : Nat) : Int) from by show (((l.drop 4).length : Nat) : Int) = _; rw [List.length_drop, hn]) (ai (L9 hn hm).down (ai (Kg hm).down (ai (L9 hn hm).down (ai (show (((ofL l).size : Nat) : Int) = ((628 : Nat) : Int) from by show ((l.length : Nat) : Int) = _; rw [hn]) tt0))))))))))))
def XJ {l : LU0} (hn : 4 <= l.length) := PLift.up (ai (show (0 : Int) <= 4 /\ (4 : Int) <= (ofL l).size from ⟨by decide, by show (4 : Int) <= (l.length : Nat); omega⟩) (ai (show decide ((((ofL l).size : Nat) : Int) < 4) = false from decide_eq_false (by show ¬ ((l.length : Nat) : Int) < 4; omega)) tt0))
abbrev Ho (l : LU0) := ppA (fun j => rvl 48 g1V p1z (nst 48 g1E j (3, l.drop 4))) 9
abbrev z5 (l : LU0) := nst 48 g1E 9 (3, l.drop 4)
abbrev w9 (l : LU0) := tt (3, l.drop 4)
theorem af0 (l : LU0) (hn : 4 <= l.length) (hm : l.take 4 = mgP) (hx : l.length ≠ 628) : Gives prog 6 [.t (.v (.string (ofL l)))] (.tp [.ag ub, vi0 (tt (3, l.drop 4)).1]) := by
 have h0 : ((3, l.drop 4) : Int × LU0).1 = 0 -> 624 <= ((3, l.drop 4) : Int × LU0).2.length := fun h => absurd (show (3 : Int) = 0 from h) (by decide)
 exact Dx [(9, wF), (14, rO 5 0), (16, wF), (21, rO 5 0), (34, wT), (59, lpO { I := SH (l.drop 4), ex := .exit 0, E := gpE (Ho l) (z5 l).2 (z5 l).1, fr := 60 }), (68, lpO { I := gpK (Ho l) (z5 l).2 (z5 l).1 0, ex := .exit 2, E := gpE (wX (3, l.drop 4)) (w9 l).2 (w9 l).1, fr := 69 }), (73, wT), (74, lpO { kd := 5, I := gpX (w9 l).2 (w9 l).1, ex := .normal, E := gpY (w9 l).1, fr := 81 })] (ai (show some (gpX (w9 l).2 (w9 l).1) = some (gpX (w9 l).2 (w9 l).1) from rfl) (ai (yN (w9 l).2 (w9 l).1) (ai (show ((tt (3, l.drop 4)).1 != 0) = true from by rw [zK (st := (3, l.drop 4)) (show (3 : Int) ≠ 0 by decide)]; rfl) (ai (show some (gpK (Ho l) (z5 l).2 (z5 l).1 0) = some (gpK (Ho l) (z5 l).2 (z5 l).1 0) from rfl) (ai (z9 (Ho l) (z5 l) (I3 (3, l.drop 4) h0)) (ai (show some (SH (l.drop 4)) = some (SH (l.drop 4)) from rfl) (ai ((Al (3, l.drop 4) h0).pre [(35, 47)] (by kernel_rfl) (T7 (l.drop 4))) (ai (show ((((ofL (l.drop 4)).size : Nat) : Int) != 624) = true from by
    have h1 : (((l.drop 4).length : Nat) : Int) ≠ 624 := by rw [List.length_drop]; omega
    exact bne_iff_ne.2 h1) (ai (show (0 : Int) <= 4 /\ (4 : Int) <= (ofL l).size from ⟨by decide, by show (4 : Int) <= (l.length : Nat); omega⟩) (ai (Kg hm).down
   (XJ hn).down))))))))))
abbrev DS := ppA (fun j => rvl 48 g1V p1z (nst 48 g1E j (80, []))) 9
abbrev y6 := nst 48 g1E 9 (80, [])
def SQ : Nat × Ora := (59, lpO { I := gpK DS y6.2 y6.1 0, ex := .exit 2, E := gpE (wX (80, [])) (tt (80, [])).2 (tt (80, [])).1, fr := 60 })
abbrev GV := gpX (tt (80, [])).2 (tt (80, [])).1
def Tk : Nat × Ora := (65, lpO { kd := 5, I := gpX (tt (80, [])).2 (tt (80, [])).1, ex := .normal, E := gpY (tt (80, [])).1, fr := 72 })
def Ts := PLift.up (show ((tt (80, [])).1 != 0) = true from by rw [zK (st := (80, [])) (show (80 : Int) ≠ 0 by decide)]; rfl)
def Qb := PLift.up (show some (gpK DS y6.2 y6.1 0) = some (gpK DS y6.2 y6.1 0) from rfl)
def Pb : Nat × Ora := (50, lpO { I := JF, ex := .exit 0, E := gpE DS y6.2 y6.1, fr := 51 })
theorem agc (l : LU0) (hn : l.length < 4) : Gives prog 6 [.t (.v (.string (ofL l)))] (.tp [.ag ub, vi0 (tt (80, [])).1]) := by
 have h0 : ((80, []) : Int × LU0).1 = 0 -> 624 <= ((80, []) : Int × LU0).2.length := fun h => absurd (show (80 : Int) = 0 from h) (by decide)
 exact Dx [(9, wT), Pb, SQ, (64, wT), Tk] (ai (show some GV = some GV from rfl) (ai (yN (tt (80, [])).2 (tt (80, [])).1) (ai Ts.down (ai Qb.down (ai (z9 DS y6 (I3 (80, []) h0)) (ai (show some (JF) = some (JF) from rfl) (ai ((Al (80, []) h0).pre [(23, 19), (35, 38)] (by kernel_rfl) (IY)) (ai (show decide ((((ofL l).size : Nat) : Int) < 4) = true from decide_eq_true (by show  ((l.length : Nat) : Int) < 4; omega)) tt0))))))))
theorem afl (l : LU0) (hn : 4 <= l.length) (hm : l.take 4 ≠ mgP) : Gives prog 6 [.t (.v (.string (ofL l)))] (.tp [.ag ub, vi0 (tt (80, [])).1]) := by
 have h0 : ((80, []) : Int × LU0).1 = 0 -> 624 <= ((80, []) : Int × LU0).2.length := fun h => absurd (show (80 : Int) = 0 from h) (by decide)
 exact Dx [(9, wF), (14, rO 5 0), (16, wT), Pb, SQ, (64, wT), Tk] (ai (show some GV = some GV from rfl) (ai (yN (tt (80, [])).2 (tt (80, [])).1) (ai Ts.down (ai Qb.down (ai (z9 DS y6 (I3 (80, []) h0)) (ai (show some (JF) = some (JF) from rfl) (ai ((Al (80, []) h0).pre [(23, 19), (35, 38)] (by kernel_rfl) (IY)) (ai (show (!((ofL (l.take 4)).toList == (ofL mgP).toList)) = true from TT hm)
   (XJ hn).down))))))))
def zh (l : LU0) : Int := if l.take 4 = mgP then (if l.length = 628 then (tt (0, l.drop 4)).1 else 3) else 80
def gpR (l : LU0) : PF := wX (0, l.drop 4)
theorem aaG (l : LU0) (h : zh l = 0) : Gives prog 6 [.t (.v (.string (ofL l)))] (.tp [.ag (gpR l).ch, vi0 0]) := by
 unfold zh at h
 split at h
 ·rename_i hm
  split at h
  ·rename_i hn
   exact aak l hn hm h
  ·exact absurd h (by decide)
 ·exact absurd h (by decide)
theorem adJ (l : LU0) (h : zh l ≠ 0) : Gives prog 6 [.t (.v (.string (ofL l)))] (.tp [.ag ub, vi0 (zh l)]) := by
 unfold zh at h ⊢
 by_cases hm : l.take 4 = mgP
 ·have h4 : 4 <= l.length := by
   have := congrArg List.length hm
   rw [List.length_take] at this
   have h5 : mgP.length = 4 := rfl
   omega
  rw [if_pos hm] at h ⊢
  by_cases hn : l.length = 628
  ·rw [if_pos hn] at h ⊢
   exact YR l hn hm h
  ·rw [if_neg hn]
   have e := af0 l h4 hm hn
   rw [zK (st := (3, l.drop 4)) (show (3 : Int) ≠ 0 by decide)] at e
   exact e
 ·rw [if_neg hm]
  have e : (tt (80, [])).1 = 80 := by rw [zK (st := (80, [])) (show (80 : Int) ≠ 0 by decide)]
  rw [← e]
  by_cases h4 : l.length < 4
  ·exact agc l h4
  ·exact afl l (by omega) hm
end Go.Proofs.YtokjhbmmdmeafaaGreat
set_option linter.unusedSimpArgs false
set_option linter.unusedVariables false
namespace Go.Ev
theorem aal {a b m : Nat} (hb : b < 2 ^ m) (ha : a % 2 ^ m = 0) : a ||| b = a + b := by
 have h := Nat.two_pow_add_eq_or_of_lt hb (a / 2 ^ m)
 have e : 2 ^ m * (a / 2 ^ m) = a := by
  have := Nat.div_add_mod a (2 ^ m)
  omega
 rw [e] at h
 exact h.symm
theorem x7 {a : Nat} (h : a < 4294967296) : IntKind.u32.wrap ((a : Nat) : Int) = ((a : Nat) : Int) := by
 show ((a : Int)) % 4294967296 = a
 omega
theorem qc {a : Nat} (h : a < 9223372036854775808) : IntKind.i64.wrap ((a : Nat) : Int) = ((a : Nat) : Int) := by
 rw [p6]; omega
theorem Ld (a b m : Nat) (hb : b < 2 ^ m) (ha : a % 2 ^ m = 0) (h : a + b < 4294967296) : IntKind.u32.wrap (((BitVec.ofInt 32 ((a : Nat) : Int) ||| BitVec.ofInt 32 ((b : Nat) : Int)).toNat : Nat) : Int) = ((a + b : Nat) : Int) := by
 have e1 : (BitVec.ofInt 32 ((a : Nat) : Int)) = BitVec.ofNat 32 a := by simp
 have e2 : (BitVec.ofInt 32 ((b : Nat) : Int)) = BitVec.ofNat 32 b := by simp
 rw [e1, e2, BitVec.toNat_or, BitVec.toNat_ofNat, BitVec.toNat_ofNat, Nat.mod_eq_of_lt (show a < 2 ^ 32 by omega), Nat.mod_eq_of_lt (show b < 2 ^ 32 by omega), aal hb ha]
 exact x7 h
def cn (l : LU0) (i : Nat) : Nat := (l.getD i 0).toNat
theorem qJ (l : LU0) (i : Nat) : cn l i < 256 := UInt8.toNat_lt _
def c4 (l : LU0) : Nat := ((cn l 0 * 16777216 + cn l 1 * 65536) + cn l 2 * 256) + cn l 3
theorem yX (l : LU0) : c4 l < 4294967296 := by
 have h0 := qJ l 0
 have h1 := qJ l 1
 have h2 := qJ l 2
 have h3 := qJ l 3
 unfold c4
 omega
theorem CI (l : LU0) (i : Nat) (h : i < l.length) : (0 : Int) <= (i : Int) /\ (i : Int) < (ofL l).size /\ ((ofL l)[(i : Int).toNat]?.getD 0).toNat = cn l i := by
 refine ⟨by omega, by show (i : Int) < ((l.length : Nat) : Int); omega, ?_⟩
 rw [Int.toNat_natCast]
 unfold cn
 congr 1
 show ((ofL l)[i]?).getD 0 = l.getD i 0
 have e : (ofL l)[i]? = l[i]? := by
  show (ByteArray.mk l.toArray)[i]? = l[i]?
  rw [getElem?_def, getElem?_def]
  rfl
 rw [e, List.getD_eq_getElem?_getD]
end Go.Ev
