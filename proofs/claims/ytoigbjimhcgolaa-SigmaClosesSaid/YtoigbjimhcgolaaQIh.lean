/- Pruned: Ih. -/
import Derived.Test.YtoigbjimhcgolaaQHb
import Derived.Test.YtoigbjimhcgolaaQGa
import Derived.Test.YtoigbjimhcgolaaQIa
/- sigma.Same: told as a truth. -/
set_option linter.unusedSimpArgs false
set_option linter.unusedVariables false
namespace Go.Proofs.Ytoigbjimhcgolaa
open Go.Ev Go.RowKit
def smS0 (L : Nat → List (Int × Int)) (M : Nat → List Nat) (z : Int) : LState := { n := 92, sl := [(2, .p 8 0), (3, .p 9 0), (5, .v (.int .i64 (((L 0).length : Nat) : Int))), (17, .ag [.sz 0 (L 0).length, .sz 1 (L 1).length, .sz 2 (L 2).length]), (18, .v (.int .i64 z))], hp := [(0, .rz [.l (plC (L 0))]), (1, .rz [.l (plC (L 1))]), (2, .rz [.l (plC (L 2))]), (4, .rz [.l (numC 4 (M 0))]), (5, .rz [.l (numC 4 (M 1))]), (6, .rz [.l (numC 4 (M 2))]), (8, .own [.sz 0 (L 0).length, .sz 1 (L 1).length, .sz 2 (L 2).length] 29), (9, .own [.sz 4 (M 0).length, .sz 5 (M 1).length, .sz 6 (M 2).length] 34)] }
def smX (L : Nat → List (Int × Int)) (M : Nat → List Nat) : LState := { n := 92, sl := [(2, .p 8 0), (3, .p 9 0)], hp := [(0, .rz [.l (plC (L 0))]), (1, .rz [.l (plC (L 1))]), (2, .rz [.l (plC (L 2))]), (4, .rz [.l (numC 4 (M 0))]), (5, .rz [.l (numC 4 (M 1))]), (6, .rz [.l (numC 4 (M 2))]), (8, .own [.sz 0 (L 0).length, .sz 1 (L 1).length, .sz 2 (L 2).length] 29), (9, .own [.sz 4 (M 0).length, .sz 5 (M 1).length, .sz 6 (M 2).length] 34)] }
def smU0 (L : Nat → List (Int × Int)) (M : Nat → List Nat) (z : Int) : LState := { n := 92, sl := [(3, .p 9 0), (61, .ag [.sz 0 (L 0).length, .sz 1 (L 1).length, .sz 2 (L 2).length]), (62, .v (.int .i64 z))], hp := [(0, .rz [.l (plC (L 0))]), (1, .rz [.l (plC (L 1))]), (2, .rz [.l (plC (L 2))]), (4, .rz [.l (numC 4 (M 0))]), (5, .rz [.l (numC 4 (M 1))]), (6, .rz [.l (numC 4 (M 2))]), (8, .own [.sz 0 (L 0).length, .sz 1 (L 1).length, .sz 2 (L 2).length] 29), (9, .own [.sz 4 (M 0).length, .sz 5 (M 1).length, .sz 6 (M 2).length] 34)] }
def smY  : LState := { n := 92, sl := [], hp := [] }
def smS1 (L : Nat → List (Int × Int)) (M : Nat → List Nat) (z : Int) : LState := { n := 92, sl := [(2, .p 8 0), (3, .p 9 0), (5, .v (.int .i64 (((L 0).length : Nat) : Int))), (17, .ag [.sz 0 (L 0).length, .sz 1 (L 1).length, .sz 2 (L 2).length]), (18, .v (.int .i64 0)), (34, .sz 0 (L 0).length), (35, .v (.int .i64 (((L 0).length : Nat) : Int))), (36, .v (.int .i64 z))], hp := [(0, .rz [.l (plC (L 0))]), (1, .rz [.l (plC (L 1))]), (2, .rz [.l (plC (L 2))]), (4, .rz [.l (numC 4 (M 0))]), (5, .rz [.l (numC 4 (M 1))]), (6, .rz [.l (numC 4 (M 2))]), (8, .own [.sz 0 (L 0).length, .sz 1 (L 1).length, .sz 2 (L 2).length] 29), (9, .own [.sz 4 (M 0).length, .sz 5 (M 1).length, .sz 6 (M 2).length] 34)] }
def smU1 (L : Nat → List (Int × Int)) (M : Nat → List Nat) (z : Int) : LState := { n := 92, sl := [(3, .p 9 0), (61, .ag [.sz 0 (L 0).length, .sz 1 (L 1).length, .sz 2 (L 2).length]), (62, .v (.int .i64 0)), (10, .v (.int .i64 0)), (66, .sz 0 (L 0).length), (67, .v (.int .i64 (((L 0).length : Nat) : Int))), (68, .v (.int .i64 z))], hp := [(0, .rz [.l (plC (L 0))]), (1, .rz [.l (plC (L 1))]), (2, .rz [.l (plC (L 2))]), (4, .rz [.l (numC 4 (M 0))]), (5, .rz [.l (numC 4 (M 1))]), (6, .rz [.l (numC 4 (M 2))]), (8, .own [.sz 0 (L 0).length, .sz 1 (L 1).length, .sz 2 (L 2).length] 29), (9, .own [.sz 4 (M 0).length, .sz 5 (M 1).length, .sz 6 (M 2).length] 34)] }
def smS2 (L : Nat → List (Int × Int)) (M : Nat → List Nat) (z : Int) : LState := { n := 92, sl := [(2, .p 8 0), (3, .p 9 0), (5, .v (.int .i64 (((L 0).length : Nat) : Int))), (17, .ag [.sz 0 (L 0).length, .sz 1 (L 1).length, .sz 2 (L 2).length]), (18, .v (.int .i64 1)), (34, .sz 1 (L 1).length), (35, .v (.int .i64 (((L 1).length : Nat) : Int))), (36, .v (.int .i64 z))], hp := [(0, .rz [.l (plC (L 0))]), (1, .rz [.l (plC (L 1))]), (2, .rz [.l (plC (L 2))]), (4, .rz [.l (numC 4 (M 0))]), (5, .rz [.l (numC 4 (M 1))]), (6, .rz [.l (numC 4 (M 2))]), (8, .own [.sz 0 (L 0).length, .sz 1 (L 1).length, .sz 2 (L 2).length] 29), (9, .own [.sz 4 (M 0).length, .sz 5 (M 1).length, .sz 6 (M 2).length] 34)] }
def smU2 (L : Nat → List (Int × Int)) (M : Nat → List Nat) (z : Int) : LState := { n := 92, sl := [(3, .p 9 0), (61, .ag [.sz 0 (L 0).length, .sz 1 (L 1).length, .sz 2 (L 2).length]), (62, .v (.int .i64 1)), (10, .v (.int .i64 1)), (66, .sz 1 (L 1).length), (67, .v (.int .i64 (((L 1).length : Nat) : Int))), (68, .v (.int .i64 z))], hp := [(0, .rz [.l (plC (L 0))]), (1, .rz [.l (plC (L 1))]), (2, .rz [.l (plC (L 2))]), (4, .rz [.l (numC 4 (M 0))]), (5, .rz [.l (numC 4 (M 1))]), (6, .rz [.l (numC 4 (M 2))]), (8, .own [.sz 0 (L 0).length, .sz 1 (L 1).length, .sz 2 (L 2).length] 29), (9, .own [.sz 4 (M 0).length, .sz 5 (M 1).length, .sz 6 (M 2).length] 34)] }
def smS3 (L : Nat → List (Int × Int)) (M : Nat → List Nat) (z : Int) : LState := { n := 92, sl := [(2, .p 8 0), (3, .p 9 0), (5, .v (.int .i64 (((L 0).length : Nat) : Int))), (17, .ag [.sz 0 (L 0).length, .sz 1 (L 1).length, .sz 2 (L 2).length]), (18, .v (.int .i64 2)), (34, .sz 2 (L 2).length), (35, .v (.int .i64 (((L 2).length : Nat) : Int))), (36, .v (.int .i64 z))], hp := [(0, .rz [.l (plC (L 0))]), (1, .rz [.l (plC (L 1))]), (2, .rz [.l (plC (L 2))]), (4, .rz [.l (numC 4 (M 0))]), (5, .rz [.l (numC 4 (M 1))]), (6, .rz [.l (numC 4 (M 2))]), (8, .own [.sz 0 (L 0).length, .sz 1 (L 1).length, .sz 2 (L 2).length] 29), (9, .own [.sz 4 (M 0).length, .sz 5 (M 1).length, .sz 6 (M 2).length] 34)] }
def smU3 (L : Nat → List (Int × Int)) (M : Nat → List Nat) (z : Int) : LState := { n := 92, sl := [(3, .p 9 0), (61, .ag [.sz 0 (L 0).length, .sz 1 (L 1).length, .sz 2 (L 2).length]), (62, .v (.int .i64 2)), (10, .v (.int .i64 2)), (66, .sz 2 (L 2).length), (67, .v (.int .i64 (((L 2).length : Nat) : Int))), (68, .v (.int .i64 z))], hp := [(0, .rz [.l (plC (L 0))]), (1, .rz [.l (plC (L 1))]), (2, .rz [.l (plC (L 2))]), (4, .rz [.l (numC 4 (M 0))]), (5, .rz [.l (numC 4 (M 1))]), (6, .rz [.l (numC 4 (M 2))]), (8, .own [.sz 0 (L 0).length, .sz 1 (L 1).length, .sz 2 (L 2).length] 29), (9, .own [.sz 4 (M 0).length, .sz 5 (M 1).length, .sz 6 (M 2).length] 34)] }
theorem sm0a_ok (L : Nat → List (Int × Int)) (M : Nat → List Nat) (hm : (L 0).length ≤ 9223372036854775807) (i : Nat) (r q : Int) (hx : (L 0)[i]? = some (r, q)) (h : inR (L 0).length (r, q)) : Sound Try.prog 0 false (loopB Try.f22 1) (smS1 L M (i : Int)).aa .normal (smS1 L M ((i + 1 : Nat) : Int)).aa := by
  have hi := pl_lt hx
  have h1 : 0 ≤ q := h.1
  have h2 : q ≤ 2 := h.2.1
  have h3 : 0 ≤ r := h.2.2.1
  have h4 : r < ((L 0).length : Nat) := h.2.2.2
  have hh := roundK_sound (P := Try.prog) (X := rulesY _) (env := []) trivial (n := 0) (os := oL [(37, wT), (38, rO 14 i), (39, { ch := 0, hi := fun _ => 0, ru := 8, cs := fun _ => [.c (.int .i64 r), .c (.int .i64 q)] }), (44, wF), (48, wF), (53, wF), (59, wF)]) (fb := 0) (rd := false) (c := (loopB Try.f22 1)) (k := 37) (I := smS1 L M (i : Int)) (sk := [2, 3, 5, 17, 18, 34, 35, 36]) (hk := [0, 1, 2, 4, 5, 6, 8, 9]) (lk := []) (ex := .normal)
    (L := smS1 L M (IntKind.i64.wrap ((i : Int) + 1))) (by kernel_rfl)
    (And.intro (show decide (r ≥ (((L 0).length : Nat) : Int)) = false from decide_eq_false (by omega))
    (And.intro (show decide (r < 0) = false from decide_eq_false (by omega))
    (And.intro (show decide (q > 2) = false from decide_eq_false (by omega))
    (And.intro (show decide (q < 0) = false from decide_eq_false (by omega))
    (And.intro (pl_at (L 0) i (r, q) hx)
    (And.intro (show (i : Int) = ((i : Nat) : Int) ∧ i < (L 0).length from ⟨rfl, hi⟩)
    (And.intro (show decide ((i : Int) < (((L 0).length : Nat) : Int)) = true from decide_eq_true (by omega)) trivial)))))))
  rw [wrap_i64, show (if ((i : Int) + 1) % 18446744073709551616 < 9223372036854775808 then ((i : Int) + 1) % 18446744073709551616 else ((i : Int) + 1) % 18446744073709551616 - 18446744073709551616) = ((i + 1 : Nat) : Int) by omega] at hh
  exact hh
theorem sm0a_end (L : Nat → List (Int × Int)) (M : Nat → List Nat) : Sound Try.prog 0 false (loopB Try.f22 1) (smS1 L M (((L 0).length : Nat) : Int)).aa (.exit 2) (smS0 L M 0).aa := by
  have hh := roundK_sound (P := Try.prog) (X := rulesY _) (env := []) trivial (n := 0) (os := oL [(37, wF)]) (fb := 0) (rd := false) (c := (loopB Try.f22 1)) (k := 37) (I := smS1 L M (((L 0).length : Nat) : Int)) (sk := [2, 3, 5, 17, 18]) (hk := [0, 1, 2, 4, 5, 6, 8, 9]) (lk := []) (ex := (.exit 2))
    (L := smS0 L M 0) (by kernel_rfl)
    (And.intro (show decide ((((L 0).length : Nat) : Int) < (((L 0).length : Nat) : Int)) = false from decide_eq_false (by omega)) trivial)
  exact hh
theorem sm1a_ok (L : Nat → List (Int × Int)) (M : Nat → List Nat) (hm : (L 1).length ≤ 9223372036854775807) (i : Nat) (r q : Int) (hx : (L 1)[i]? = some (r, q)) (h : inR (L 0).length (r, q)) : Sound Try.prog 0 false (loopB Try.f22 1) (smS2 L M (i : Int)).aa .normal (smS2 L M ((i + 1 : Nat) : Int)).aa := by
  have hi := pl_lt hx
  have h1 : 0 ≤ q := h.1
  have h2 : q ≤ 2 := h.2.1
  have h3 : 0 ≤ r := h.2.2.1
  have h4 : r < ((L 0).length : Nat) := h.2.2.2
  have hh := roundK_sound (P := Try.prog) (X := rulesY _) (env := []) trivial (n := 0) (os := oL [(37, wT), (38, rO 14 i), (39, { ch := 0, hi := fun _ => 0, ru := 8, cs := fun _ => [.c (.int .i64 r), .c (.int .i64 q)] }), (44, wF), (48, wF), (53, wF), (59, wF)]) (fb := 0) (rd := false) (c := (loopB Try.f22 1)) (k := 37) (I := smS2 L M (i : Int)) (sk := [2, 3, 5, 17, 18, 34, 35, 36]) (hk := [0, 1, 2, 4, 5, 6, 8, 9]) (lk := []) (ex := .normal)
    (L := smS2 L M (IntKind.i64.wrap ((i : Int) + 1))) (by kernel_rfl)
    (And.intro (show decide (r ≥ (((L 0).length : Nat) : Int)) = false from decide_eq_false (by omega))
    (And.intro (show decide (r < 0) = false from decide_eq_false (by omega))
    (And.intro (show decide (q > 2) = false from decide_eq_false (by omega))
    (And.intro (show decide (q < 0) = false from decide_eq_false (by omega))
    (And.intro (pl_at (L 1) i (r, q) hx)
    (And.intro (show (i : Int) = ((i : Nat) : Int) ∧ i < (L 1).length from ⟨rfl, hi⟩)
    (And.intro (show decide ((i : Int) < (((L 1).length : Nat) : Int)) = true from decide_eq_true (by omega)) trivial)))))))
  rw [wrap_i64, show (if ((i : Int) + 1) % 18446744073709551616 < 9223372036854775808 then ((i : Int) + 1) % 18446744073709551616 else ((i : Int) + 1) % 18446744073709551616 - 18446744073709551616) = ((i + 1 : Nat) : Int) by omega] at hh
  exact hh
theorem sm1a_end (L : Nat → List (Int × Int)) (M : Nat → List Nat) : Sound Try.prog 0 false (loopB Try.f22 1) (smS2 L M (((L 1).length : Nat) : Int)).aa (.exit 2) (smS0 L M 1).aa := by
  have hh := roundK_sound (P := Try.prog) (X := rulesY _) (env := []) trivial (n := 0) (os := oL [(37, wF)]) (fb := 0) (rd := false) (c := (loopB Try.f22 1)) (k := 37) (I := smS2 L M (((L 1).length : Nat) : Int)) (sk := [2, 3, 5, 17, 18]) (hk := [0, 1, 2, 4, 5, 6, 8, 9]) (lk := []) (ex := (.exit 2))
    (L := smS0 L M 1) (by kernel_rfl)
    (And.intro (show decide ((((L 1).length : Nat) : Int) < (((L 1).length : Nat) : Int)) = false from decide_eq_false (by omega)) trivial)
  exact hh
theorem sm2a_ok (L : Nat → List (Int × Int)) (M : Nat → List Nat) (hm : (L 2).length ≤ 9223372036854775807) (i : Nat) (r q : Int) (hx : (L 2)[i]? = some (r, q)) (h : inR (L 0).length (r, q)) : Sound Try.prog 0 false (loopB Try.f22 1) (smS3 L M (i : Int)).aa .normal (smS3 L M ((i + 1 : Nat) : Int)).aa := by
  have hi := pl_lt hx
  have h1 : 0 ≤ q := h.1
  have h2 : q ≤ 2 := h.2.1
  have h3 : 0 ≤ r := h.2.2.1
  have h4 : r < ((L 0).length : Nat) := h.2.2.2
  have hh := roundK_sound (P := Try.prog) (X := rulesY _) (env := []) trivial (n := 0) (os := oL [(37, wT), (38, rO 14 i), (39, { ch := 0, hi := fun _ => 0, ru := 8, cs := fun _ => [.c (.int .i64 r), .c (.int .i64 q)] }), (44, wF), (48, wF), (53, wF), (59, wF)]) (fb := 0) (rd := false) (c := (loopB Try.f22 1)) (k := 37) (I := smS3 L M (i : Int)) (sk := [2, 3, 5, 17, 18, 34, 35, 36]) (hk := [0, 1, 2, 4, 5, 6, 8, 9]) (lk := []) (ex := .normal)
    (L := smS3 L M (IntKind.i64.wrap ((i : Int) + 1))) (by kernel_rfl)
    (And.intro (show decide (r ≥ (((L 0).length : Nat) : Int)) = false from decide_eq_false (by omega))
    (And.intro (show decide (r < 0) = false from decide_eq_false (by omega))
    (And.intro (show decide (q > 2) = false from decide_eq_false (by omega))
    (And.intro (show decide (q < 0) = false from decide_eq_false (by omega))
    (And.intro (pl_at (L 2) i (r, q) hx)
    (And.intro (show (i : Int) = ((i : Nat) : Int) ∧ i < (L 2).length from ⟨rfl, hi⟩)
    (And.intro (show decide ((i : Int) < (((L 2).length : Nat) : Int)) = true from decide_eq_true (by omega)) trivial)))))))
  rw [wrap_i64, show (if ((i : Int) + 1) % 18446744073709551616 < 9223372036854775808 then ((i : Int) + 1) % 18446744073709551616 else ((i : Int) + 1) % 18446744073709551616 - 18446744073709551616) = ((i + 1 : Nat) : Int) by omega] at hh
  exact hh
theorem sm2a_end (L : Nat → List (Int × Int)) (M : Nat → List Nat) : Sound Try.prog 0 false (loopB Try.f22 1) (smS3 L M (((L 2).length : Nat) : Int)).aa (.exit 2) (smS0 L M 2).aa := by
  have hh := roundK_sound (P := Try.prog) (X := rulesY _) (env := []) trivial (n := 0) (os := oL [(37, wF)]) (fb := 0) (rd := false) (c := (loopB Try.f22 1)) (k := 37) (I := smS3 L M (((L 2).length : Nat) : Int)) (sk := [2, 3, 5, 17, 18]) (hk := [0, 1, 2, 4, 5, 6, 8, 9]) (lk := []) (ex := (.exit 2))
    (L := smS0 L M 2) (by kernel_rfl)
    (And.intro (show decide ((((L 2).length : Nat) : Int) < (((L 2).length : Nat) : Int)) = false from decide_eq_false (by omega)) trivial)
  exact hh
theorem sm0a_all (L : Nat → List (Int × Int)) (M : Nat → List Nat) (hm : (L 0).length ≤ 9223372036854775807) (h : ∀ p, p ∈ L 0 → inR (L 0).length p) : Sound Try.prog 0 false (.loop (loopB Try.f22 1)) (smS1 L M 0).aa (.exit 2) (smS0 L M 0).aa := by
  refine loop_ok (m := fun y : { i : Nat // i ≤ (L 0).length } => (L 0).length - y.val) (fun y => smS1 L M (y.val : Int)) (by simp) (fun y => ?_) ⟨0, by omega⟩
  obtain ⟨i, hi⟩ := y
  by_cases e : i < (L 0).length
  · obtain ⟨p, hp⟩ := pl_of e
    exact .inl ⟨⟨i + 1, e⟩, by show (L 0).length - (i + 1) < (L 0).length - i; omega, sm0a_ok L M hm i p.1 p.2 hp (h p (pl_mem hp))⟩
  · have e : i = (L 0).length := by omega
    subst e
    exact .inr (sm0a_end L M)
theorem sm0o_ok (L : Nat → List (Int × Int)) (M : Nat → List Nat) (hm : ∀ w, (L w).length ≤ 9223372036854775807)  (h1 : (L 0).length = (L 0).length) (h2 : (M 0).length = (L 0).length) (h3 : ∀ p, p ∈ L 0 → inR (L 0).length p) : Sound Try.prog 0 false (loopB Try.f22 0) (smS0 L M 0).aa .normal (smS0 L M 1).aa := by
  have hh := roundK_sound (P := Try.prog) (X := rulesY _) (env := []) trivial (n := 0) (os := oL [(25, wF), (32, wF), (37, lpO { I := smS1 L M 0, ex := .exit 2, E := smS0 L M 0, fr := 38 })]) (fb := 0) (rd := false) (c := (loopB Try.f22 0)) (k := 17) (I := smS0 L M 0) (sk := [2, 3, 5, 17, 18]) (hk := [0, 1, 2, 4, 5, 6, 8, 9]) (lk := []) (ex := .normal)
    (L := smS0 L M 1) (by kernel_rfl)
    (And.intro (show some (smS1 L M 0) = some (smS1 L M 0) from rfl)
    (And.intro (sm0a_all L M (hm 0) h3)
    (And.intro (show ((((M 0).length : Nat) : Int) != (((L 0).length : Nat) : Int)) = false from by rw [h2]; simp)
    (And.intro (show ((((L 0).length : Nat) : Int) != (((L 0).length : Nat) : Int)) = false from by rw [h1]; simp) trivial))))
  exact hh
theorem sm1a_all (L : Nat → List (Int × Int)) (M : Nat → List Nat) (hm : (L 1).length ≤ 9223372036854775807) (h : ∀ p, p ∈ L 1 → inR (L 0).length p) : Sound Try.prog 0 false (.loop (loopB Try.f22 1)) (smS2 L M 0).aa (.exit 2) (smS0 L M 1).aa := by
  refine loop_ok (m := fun y : { i : Nat // i ≤ (L 1).length } => (L 1).length - y.val) (fun y => smS2 L M (y.val : Int)) (by simp) (fun y => ?_) ⟨0, by omega⟩
  obtain ⟨i, hi⟩ := y
  by_cases e : i < (L 1).length
  · obtain ⟨p, hp⟩ := pl_of e
    exact .inl ⟨⟨i + 1, e⟩, by show (L 1).length - (i + 1) < (L 1).length - i; omega, sm1a_ok L M hm i p.1 p.2 hp (h p (pl_mem hp))⟩
  · have e : i = (L 1).length := by omega
    subst e
    exact .inr (sm1a_end L M)
theorem sm1o_ok (L : Nat → List (Int × Int)) (M : Nat → List Nat) (hm : ∀ w, (L w).length ≤ 9223372036854775807)  (h1 : (L 1).length = (L 0).length) (h2 : (M 1).length = (L 0).length) (h3 : ∀ p, p ∈ L 1 → inR (L 0).length p) : Sound Try.prog 0 false (loopB Try.f22 0) (smS0 L M 1).aa .normal (smS0 L M 2).aa := by
  have hh := roundK_sound (P := Try.prog) (X := rulesY _) (env := []) trivial (n := 0) (os := oL [(25, wF), (32, wF), (37, lpO { I := smS2 L M 0, ex := .exit 2, E := smS0 L M 1, fr := 38 })]) (fb := 0) (rd := false) (c := (loopB Try.f22 0)) (k := 17) (I := smS0 L M 1) (sk := [2, 3, 5, 17, 18]) (hk := [0, 1, 2, 4, 5, 6, 8, 9]) (lk := []) (ex := .normal)
    (L := smS0 L M 2) (by kernel_rfl)
    (And.intro (show some (smS2 L M 0) = some (smS2 L M 0) from rfl)
    (And.intro (sm1a_all L M (hm 1) h3)
    (And.intro (show ((((M 1).length : Nat) : Int) != (((L 0).length : Nat) : Int)) = false from by rw [h2]; simp)
    (And.intro (show ((((L 1).length : Nat) : Int) != (((L 0).length : Nat) : Int)) = false from by rw [h1]; simp) trivial))))
  exact hh
theorem sm2a_all (L : Nat → List (Int × Int)) (M : Nat → List Nat) (hm : (L 2).length ≤ 9223372036854775807) (h : ∀ p, p ∈ L 2 → inR (L 0).length p) : Sound Try.prog 0 false (.loop (loopB Try.f22 1)) (smS3 L M 0).aa (.exit 2) (smS0 L M 2).aa := by
  refine loop_ok (m := fun y : { i : Nat // i ≤ (L 2).length } => (L 2).length - y.val) (fun y => smS3 L M (y.val : Int)) (by simp) (fun y => ?_) ⟨0, by omega⟩
  obtain ⟨i, hi⟩ := y
  by_cases e : i < (L 2).length
  · obtain ⟨p, hp⟩ := pl_of e
    exact .inl ⟨⟨i + 1, e⟩, by show (L 2).length - (i + 1) < (L 2).length - i; omega, sm2a_ok L M hm i p.1 p.2 hp (h p (pl_mem hp))⟩
  · have e : i = (L 2).length := by omega
    subst e
    exact .inr (sm2a_end L M)
theorem sm2o_ok (L : Nat → List (Int × Int)) (M : Nat → List Nat) (hm : ∀ w, (L w).length ≤ 9223372036854775807)  (h1 : (L 2).length = (L 0).length) (h2 : (M 2).length = (L 0).length) (h3 : ∀ p, p ∈ L 2 → inR (L 0).length p) : Sound Try.prog 0 false (loopB Try.f22 0) (smS0 L M 2).aa .normal (smS0 L M 3).aa := by
  have hh := roundK_sound (P := Try.prog) (X := rulesY _) (env := []) trivial (n := 0) (os := oL [(25, wF), (32, wF), (37, lpO { I := smS3 L M 0, ex := .exit 2, E := smS0 L M 2, fr := 38 })]) (fb := 0) (rd := false) (c := (loopB Try.f22 0)) (k := 17) (I := smS0 L M 2) (sk := [2, 3, 5, 17, 18]) (hk := [0, 1, 2, 4, 5, 6, 8, 9]) (lk := []) (ex := .normal)
    (L := smS0 L M 3) (by kernel_rfl)
    (And.intro (show some (smS3 L M 0) = some (smS3 L M 0) from rfl)
    (And.intro (sm2a_all L M (hm 2) h3)
    (And.intro (show ((((M 2).length : Nat) : Int) != (((L 0).length : Nat) : Int)) = false from by rw [h2]; simp)
    (And.intro (show ((((L 2).length : Nat) : Int) != (((L 0).length : Nat) : Int)) = false from by rw [h1]; simp) trivial))))
  exact hh
theorem smo_end (L : Nat → List (Int × Int)) (M : Nat → List Nat) : Sound Try.prog 0 false (loopB Try.f22 0) (smS0 L M 3).aa (.exit 0) (smX L M).aa := by
  have hh := roundK_sound (P := Try.prog) (X := rulesY _) (env := []) trivial (n := 0) (os := oL []) (fb := 0) (rd := false) (c := (loopB Try.f22 0)) (k := 17) (I := smS0 L M 3) (sk := [2, 3]) (hk := [0, 1, 2, 4, 5, 6, 8, 9]) (lk := []) (ex := (.exit 0))
    (L := smX L M) (by kernel_rfl)
    trivial
  exact hh
def rowOK (L : Nat → List (Int × Int)) (M : Nat → List Nat) (w : Nat) : Prop := (L w).length = (L 0).length ∧ (M w).length = (L 0).length ∧ ∀ p, p ∈ L w → inR (L 0).length p
theorem smo_ok (L : Nat → List (Int × Int)) (M : Nat → List Nat) (hm : ∀ w, (L w).length ≤ 9223372036854775807)  (w : Nat) (hw : w < 3) (h : rowOK L M w) : Sound Try.prog 0 false (loopB Try.f22 0) (smS0 L M (w : Int)).aa .normal (smS0 L M ((w + 1 : Nat) : Int)).aa := by
  match w, hw with
  | 0, _ => exact sm0o_ok L M hm h.1 h.2.1 h.2.2
  | 1, _ => exact sm1o_ok L M hm h.1 h.2.1 h.2.2
  | 2, _ => exact sm2o_ok L M hm h.1 h.2.1 h.2.2
theorem smo_all (L : Nat → List (Int × Int)) (M : Nat → List Nat) (hm : ∀ w, (L w).length ≤ 9223372036854775807)  (h : ∀ w, w < 3 → rowOK L M w) : Sound Try.prog 0 false (.loop (loopB Try.f22 0)) (smS0 L M 0).aa (.exit 0) (smX L M).aa := by
  refine loop_ok (m := fun y : { i : Nat // i ≤ 3 } => 3 - y.val) (fun y => smS0 L M (y.val : Int)) (by simp) (fun y => ?_) ⟨0, by omega⟩
  obtain ⟨i, hi⟩ := y
  by_cases e : i < 3
  · exact .inl ⟨⟨i + 1, e⟩, by show 3 - (i + 1) < 3 - i; omega, smo_ok L M hm i e (h i e)⟩
  · have e : i = 3 := by omega
    subst e
    exact .inr (smo_end L M)
theorem sm0c0_ok (L : Nat → List (Int × Int)) (M : Nat → List Nat) (hm : (L 0).length ≤ 9223372036854775807) (hs : ∀ w x, x ∈ M w → x < 115792089237316195423570985008687907853269984665640564039457584007913129639936) (i r x y : Nat) (hp : (L 0)[i]? = some ((r : Int), (0 : Int))) (hx : (M 0)[i]? = some x) (hy : (M 0)[r]? = some y) (h : ofR x = ofR y) : Sound Try.prog 0 false (loopB Try.f22 3) (smU1 L M (i : Int)).aa .normal (smU1 L M ((i + 1 : Nat) : Int)).aa := by
  have hi := pl_lt hp
  have hj := pl_lt hx
  have hk := pl_lt hy
  have hh := roundK_sound (P := Try.prog) (X := rulesY _) (env := [eFCleanS]) ⟨eFCleanS_ok, trivial⟩ (n := 0) (os := oL [(28, wT), (30, rO 14 i), (31, { ch := 0, hi := fun _ => 0, ru := 8, cs := fun _ => [.c (.int .i64 (r : Int)), .c (.int .i64 0)] }), (39, rO 14 i), (40, { ch := 0, hi := fun _ => 0, ru := 8, cs := fun _ => [.n 4 x] }), (48, rO 14 r), (49, { ch := 0, hi := fun _ => 0, ru := 8, cs := fun _ => [.n 4 y] }), (51, wO 0)]) (fb := 0) (rd := false) (c := (loopB Try.f22 3)) (k := 28) (I := smU1 L M (i : Int)) (sk := [3, 61, 62, 10, 66, 67, 68]) (hk := [0, 1, 2, 4, 5, 6, 8, 9]) (lk := []) (ex := .normal)
    (L := smU1 L M (IntKind.i64.wrap ((i : Int) + 1))) (by kernel_rfl)
    (And.intro (show flat [Ch.e (ofR x)] = flat [Ch.e (ofR y)] from by rw [h])
    (And.intro (show smtS (.inr y) from hs 0 y (pl_mem hy))
    (And.intro (nu_at (M 0) r y hy)
    (And.intro (show (r : Int) = ((r : Nat) : Int) ∧ r < (M 0).length from ⟨rfl, hk⟩)
    (And.intro (show smtS (.inr x) from hs 0 x (pl_mem hx))
    (And.intro (nu_at (M 0) i x hx)
    (And.intro (show (i : Int) = ((i : Nat) : Int) ∧ i < (M 0).length from ⟨rfl, hj⟩)
    (And.intro (pl_at (L 0) i ((r : Int), (0 : Int)) hp)
    (And.intro (show (i : Int) = ((i : Nat) : Int) ∧ i < (L 0).length from ⟨rfl, hi⟩)
    (And.intro (show decide ((i : Int) < (((L 0).length : Nat) : Int)) = true from decide_eq_true (by omega)) trivial))))))))))
  rw [wrap_i64, show (if ((i : Int) + 1) % 18446744073709551616 < 9223372036854775808 then ((i : Int) + 1) % 18446744073709551616 else ((i : Int) + 1) % 18446744073709551616 - 18446744073709551616) = ((i + 1 : Nat) : Int) by omega] at hh
  exact hh
theorem sm0c1_ok (L : Nat → List (Int × Int)) (M : Nat → List Nat) (hm : (L 0).length ≤ 9223372036854775807) (hs : ∀ w x, x ∈ M w → x < 115792089237316195423570985008687907853269984665640564039457584007913129639936) (i r x y : Nat) (hp : (L 0)[i]? = some ((r : Int), (1 : Int))) (hx : (M 0)[i]? = some x) (hy : (M 1)[r]? = some y) (h : ofR x = ofR y) : Sound Try.prog 0 false (loopB Try.f22 3) (smU1 L M (i : Int)).aa .normal (smU1 L M ((i + 1 : Nat) : Int)).aa := by
  have hi := pl_lt hp
  have hj := pl_lt hx
  have hk := pl_lt hy
  have hh := roundK_sound (P := Try.prog) (X := rulesY _) (env := [eFCleanS]) ⟨eFCleanS_ok, trivial⟩ (n := 0) (os := oL [(28, wT), (30, rO 14 i), (31, { ch := 0, hi := fun _ => 0, ru := 8, cs := fun _ => [.c (.int .i64 (r : Int)), .c (.int .i64 1)] }), (39, rO 14 i), (40, { ch := 0, hi := fun _ => 0, ru := 8, cs := fun _ => [.n 4 x] }), (48, rO 14 r), (49, { ch := 0, hi := fun _ => 0, ru := 8, cs := fun _ => [.n 4 y] }), (51, wO 0)]) (fb := 0) (rd := false) (c := (loopB Try.f22 3)) (k := 28) (I := smU1 L M (i : Int)) (sk := [3, 61, 62, 10, 66, 67, 68]) (hk := [0, 1, 2, 4, 5, 6, 8, 9]) (lk := []) (ex := .normal)
    (L := smU1 L M (IntKind.i64.wrap ((i : Int) + 1))) (by kernel_rfl)
    (And.intro (show flat [Ch.e (ofR x)] = flat [Ch.e (ofR y)] from by rw [h])
    (And.intro (show smtS (.inr y) from hs 1 y (pl_mem hy))
    (And.intro (nu_at (M 1) r y hy)
    (And.intro (show (r : Int) = ((r : Nat) : Int) ∧ r < (M 1).length from ⟨rfl, hk⟩)
    (And.intro (show smtS (.inr x) from hs 0 x (pl_mem hx))
    (And.intro (nu_at (M 0) i x hx)
    (And.intro (show (i : Int) = ((i : Nat) : Int) ∧ i < (M 0).length from ⟨rfl, hj⟩)
    (And.intro (pl_at (L 0) i ((r : Int), (1 : Int)) hp)
    (And.intro (show (i : Int) = ((i : Nat) : Int) ∧ i < (L 0).length from ⟨rfl, hi⟩)
    (And.intro (show decide ((i : Int) < (((L 0).length : Nat) : Int)) = true from decide_eq_true (by omega)) trivial))))))))))
  rw [wrap_i64, show (if ((i : Int) + 1) % 18446744073709551616 < 9223372036854775808 then ((i : Int) + 1) % 18446744073709551616 else ((i : Int) + 1) % 18446744073709551616 - 18446744073709551616) = ((i + 1 : Nat) : Int) by omega] at hh
  exact hh
theorem sm0c2_ok (L : Nat → List (Int × Int)) (M : Nat → List Nat) (hm : (L 0).length ≤ 9223372036854775807) (hs : ∀ w x, x ∈ M w → x < 115792089237316195423570985008687907853269984665640564039457584007913129639936) (i r x y : Nat) (hp : (L 0)[i]? = some ((r : Int), (2 : Int))) (hx : (M 0)[i]? = some x) (hy : (M 2)[r]? = some y) (h : ofR x = ofR y) : Sound Try.prog 0 false (loopB Try.f22 3) (smU1 L M (i : Int)).aa .normal (smU1 L M ((i + 1 : Nat) : Int)).aa := by
  have hi := pl_lt hp
  have hj := pl_lt hx
  have hk := pl_lt hy
  have hh := roundK_sound (P := Try.prog) (X := rulesY _) (env := [eFCleanS]) ⟨eFCleanS_ok, trivial⟩ (n := 0) (os := oL [(28, wT), (30, rO 14 i), (31, { ch := 0, hi := fun _ => 0, ru := 8, cs := fun _ => [.c (.int .i64 (r : Int)), .c (.int .i64 2)] }), (39, rO 14 i), (40, { ch := 0, hi := fun _ => 0, ru := 8, cs := fun _ => [.n 4 x] }), (48, rO 14 r), (49, { ch := 0, hi := fun _ => 0, ru := 8, cs := fun _ => [.n 4 y] }), (51, wO 0)]) (fb := 0) (rd := false) (c := (loopB Try.f22 3)) (k := 28) (I := smU1 L M (i : Int)) (sk := [3, 61, 62, 10, 66, 67, 68]) (hk := [0, 1, 2, 4, 5, 6, 8, 9]) (lk := []) (ex := .normal)
    (L := smU1 L M (IntKind.i64.wrap ((i : Int) + 1))) (by kernel_rfl)
    (And.intro (show flat [Ch.e (ofR x)] = flat [Ch.e (ofR y)] from by rw [h])
    (And.intro (show smtS (.inr y) from hs 2 y (pl_mem hy))
    (And.intro (nu_at (M 2) r y hy)
    (And.intro (show (r : Int) = ((r : Nat) : Int) ∧ r < (M 2).length from ⟨rfl, hk⟩)
    (And.intro (show smtS (.inr x) from hs 0 x (pl_mem hx))
    (And.intro (nu_at (M 0) i x hx)
    (And.intro (show (i : Int) = ((i : Nat) : Int) ∧ i < (M 0).length from ⟨rfl, hj⟩)
    (And.intro (pl_at (L 0) i ((r : Int), (2 : Int)) hp)
    (And.intro (show (i : Int) = ((i : Nat) : Int) ∧ i < (L 0).length from ⟨rfl, hi⟩)
    (And.intro (show decide ((i : Int) < (((L 0).length : Nat) : Int)) = true from decide_eq_true (by omega)) trivial))))))))))
  rw [wrap_i64, show (if ((i : Int) + 1) % 18446744073709551616 < 9223372036854775808 then ((i : Int) + 1) % 18446744073709551616 else ((i : Int) + 1) % 18446744073709551616 - 18446744073709551616) = ((i + 1 : Nat) : Int) by omega] at hh
  exact hh
theorem sm0c_end (L : Nat → List (Int × Int)) (M : Nat → List Nat) : Sound Try.prog 0 false (loopB Try.f22 3) (smU1 L M (((L 0).length : Nat) : Int)).aa (.exit 6) (smU0 L M 0).aa := by
  have hh := roundK_sound (P := Try.prog) (X := rulesY _) (env := []) trivial (n := 0) (os := oL [(28, wF)]) (fb := 0) (rd := false) (c := (loopB Try.f22 3)) (k := 28) (I := smU1 L M (((L 0).length : Nat) : Int)) (sk := [3, 61, 62]) (hk := [0, 1, 2, 4, 5, 6, 8, 9]) (lk := []) (ex := (.exit 6))
    (L := smU0 L M 0) (by kernel_rfl)
    (And.intro (show decide ((((L 0).length : Nat) : Int) < (((L 0).length : Nat) : Int)) = false from decide_eq_false (by omega)) trivial)
  exact hh
theorem sm0d_ok (L : Nat → List (Int × Int)) (M : Nat → List Nat) (hm : (L 0).length ≤ 9223372036854775807) (hs : ∀ w x, x ∈ M w → x < 115792089237316195423570985008687907853269984665640564039457584007913129639936) (hr : ∀ w, w < 3 → rowOK L M w) (i : Nat) (p : Int × Int) (hp : (L 0)[i]? = some p) (h : sameAt M 0 i p) : Sound Try.prog 0 false (loopB Try.f22 3) (smU1 L M (i : Int)).aa .normal (smU1 L M ((i + 1 : Nat) : Int)).aa := by
  obtain ⟨r, q⟩ := p
  obtain ⟨g1, g2, g3, g4⟩ := (hr 0 (by omega)).2.2 _ (pl_mem hp)
  simp only at g1 g2 g3 g4
  obtain ⟨r, rfl⟩ := Int.eq_ofNat_of_zero_le g3
  obtain ⟨x, hx⟩ := pl_of (show i < (M 0).length by have := pl_lt hp; have := (hr 0 (by omega)).1; have := (hr 0 (by omega)).2.1; omega)
  unfold sameAt at h
  rw [List.getD_eq_getElem?_getD, List.getD_eq_getElem?_getD, hx] at h
  simp only [Int.toNat_natCast, Option.getD_some] at h
  have hq : q = 0 ∨ q = 1 ∨ q = 2 := by omega
  rcases hq with rfl | rfl | rfl
  · obtain ⟨y, hy⟩ := pl_of (show r < (M 0).length by have := (hr 0 (by omega)).2.1; omega)
    rw [show ((0 : Int)).toNat = 0 from rfl, hy] at h
    exact sm0c0_ok L M hm hs i r x y hp hx hy h
  · obtain ⟨y, hy⟩ := pl_of (show r < (M 1).length by have := (hr 1 (by omega)).2.1; omega)
    rw [show ((1 : Int)).toNat = 1 from rfl, hy] at h
    exact sm0c1_ok L M hm hs i r x y hp hx hy h
  · obtain ⟨y, hy⟩ := pl_of (show r < (M 2).length by have := (hr 2 (by omega)).2.1; omega)
    rw [show ((2 : Int)).toNat = 2 from rfl, hy] at h
    exact sm0c2_ok L M hm hs i r x y hp hx hy h
theorem sm0d_all (L : Nat → List (Int × Int)) (M : Nat → List Nat) (hm : (L 0).length ≤ 9223372036854775807) (hs : ∀ w x, x ∈ M w → x < 115792089237316195423570985008687907853269984665640564039457584007913129639936) (hr : ∀ w, w < 3 → rowOK L M w) (h : ∀ i p, (L 0)[i]? = some p → sameAt M 0 i p) : Sound Try.prog 0 false (.loop (loopB Try.f22 3)) (smU1 L M 0).aa (.exit 6) (smU0 L M 0).aa := by
  refine loop_ok (m := fun y : { i : Nat // i ≤ (L 0).length } => (L 0).length - y.val) (fun y => smU1 L M (y.val : Int)) (by simp) (fun y => ?_) ⟨0, by omega⟩
  obtain ⟨i, hi⟩ := y
  by_cases e : i < (L 0).length
  · obtain ⟨p, hp⟩ := pl_of e
    exact .inl ⟨⟨i + 1, e⟩, by show (L 0).length - (i + 1) < (L 0).length - i; omega, sm0d_ok L M hm hs hr i p hp (h i p hp)⟩
  · have e : i = (L 0).length := by omega
    subst e
    exact .inr (sm0c_end L M)
theorem sm0p_ok (L : Nat → List (Int × Int)) (M : Nat → List Nat) (hm : ∀ w, (L w).length ≤ 9223372036854775807) (hs : ∀ w x, x ∈ M w → x < 115792089237316195423570985008687907853269984665640564039457584007913129639936) (hr : ∀ w, w < 3 → rowOK L M w) (h : ∀ i p, (L 0)[i]? = some p → sameAt M 0 i p) : Sound Try.prog 0 false (loopB Try.f22 2) (smU0 L M 0).aa .normal (smU0 L M 1).aa := by
  have hh := roundK_sound (P := Try.prog) (X := rulesY _) (env := []) trivial (n := 0) (os := oL [(28, lpO { I := smU1 L M 0, ex := .exit 6, E := smU0 L M 0, fr := 29 })]) (fb := 0) (rd := false) (c := (loopB Try.f22 2)) (k := 20) (I := smU0 L M 0) (sk := [3, 61, 62]) (hk := [0, 1, 2, 4, 5, 6, 8, 9]) (lk := []) (ex := .normal)
    (L := smU0 L M 1) (by kernel_rfl)
    (And.intro (show some (smU1 L M 0) = some (smU1 L M 0) from rfl)
    (And.intro (sm0d_all L M (hm 0) hs hr h) trivial))
  exact hh
theorem sm1c0_ok (L : Nat → List (Int × Int)) (M : Nat → List Nat) (hm : (L 1).length ≤ 9223372036854775807) (hs : ∀ w x, x ∈ M w → x < 115792089237316195423570985008687907853269984665640564039457584007913129639936) (i r x y : Nat) (hp : (L 1)[i]? = some ((r : Int), (0 : Int))) (hx : (M 1)[i]? = some x) (hy : (M 0)[r]? = some y) (h : ofR x = ofR y) : Sound Try.prog 0 false (loopB Try.f22 3) (smU2 L M (i : Int)).aa .normal (smU2 L M ((i + 1 : Nat) : Int)).aa := by
  have hi := pl_lt hp
  have hj := pl_lt hx
  have hk := pl_lt hy
  have hh := roundK_sound (P := Try.prog) (X := rulesY _) (env := [eFCleanS]) ⟨eFCleanS_ok, trivial⟩ (n := 0) (os := oL [(28, wT), (30, rO 14 i), (31, { ch := 0, hi := fun _ => 0, ru := 8, cs := fun _ => [.c (.int .i64 (r : Int)), .c (.int .i64 0)] }), (39, rO 14 i), (40, { ch := 0, hi := fun _ => 0, ru := 8, cs := fun _ => [.n 4 x] }), (48, rO 14 r), (49, { ch := 0, hi := fun _ => 0, ru := 8, cs := fun _ => [.n 4 y] }), (51, wO 0)]) (fb := 0) (rd := false) (c := (loopB Try.f22 3)) (k := 28) (I := smU2 L M (i : Int)) (sk := [3, 61, 62, 10, 66, 67, 68]) (hk := [0, 1, 2, 4, 5, 6, 8, 9]) (lk := []) (ex := .normal)
    (L := smU2 L M (IntKind.i64.wrap ((i : Int) + 1))) (by kernel_rfl)
    (And.intro (show flat [Ch.e (ofR x)] = flat [Ch.e (ofR y)] from by rw [h])
    (And.intro (show smtS (.inr y) from hs 0 y (pl_mem hy))
    (And.intro (nu_at (M 0) r y hy)
    (And.intro (show (r : Int) = ((r : Nat) : Int) ∧ r < (M 0).length from ⟨rfl, hk⟩)
    (And.intro (show smtS (.inr x) from hs 1 x (pl_mem hx))
    (And.intro (nu_at (M 1) i x hx)
    (And.intro (show (i : Int) = ((i : Nat) : Int) ∧ i < (M 1).length from ⟨rfl, hj⟩)
    (And.intro (pl_at (L 1) i ((r : Int), (0 : Int)) hp)
    (And.intro (show (i : Int) = ((i : Nat) : Int) ∧ i < (L 1).length from ⟨rfl, hi⟩)
    (And.intro (show decide ((i : Int) < (((L 1).length : Nat) : Int)) = true from decide_eq_true (by omega)) trivial))))))))))
  rw [wrap_i64, show (if ((i : Int) + 1) % 18446744073709551616 < 9223372036854775808 then ((i : Int) + 1) % 18446744073709551616 else ((i : Int) + 1) % 18446744073709551616 - 18446744073709551616) = ((i + 1 : Nat) : Int) by omega] at hh
  exact hh
theorem sm1c1_ok (L : Nat → List (Int × Int)) (M : Nat → List Nat) (hm : (L 1).length ≤ 9223372036854775807) (hs : ∀ w x, x ∈ M w → x < 115792089237316195423570985008687907853269984665640564039457584007913129639936) (i r x y : Nat) (hp : (L 1)[i]? = some ((r : Int), (1 : Int))) (hx : (M 1)[i]? = some x) (hy : (M 1)[r]? = some y) (h : ofR x = ofR y) : Sound Try.prog 0 false (loopB Try.f22 3) (smU2 L M (i : Int)).aa .normal (smU2 L M ((i + 1 : Nat) : Int)).aa := by
  have hi := pl_lt hp
  have hj := pl_lt hx
  have hk := pl_lt hy
  have hh := roundK_sound (P := Try.prog) (X := rulesY _) (env := [eFCleanS]) ⟨eFCleanS_ok, trivial⟩ (n := 0) (os := oL [(28, wT), (30, rO 14 i), (31, { ch := 0, hi := fun _ => 0, ru := 8, cs := fun _ => [.c (.int .i64 (r : Int)), .c (.int .i64 1)] }), (39, rO 14 i), (40, { ch := 0, hi := fun _ => 0, ru := 8, cs := fun _ => [.n 4 x] }), (48, rO 14 r), (49, { ch := 0, hi := fun _ => 0, ru := 8, cs := fun _ => [.n 4 y] }), (51, wO 0)]) (fb := 0) (rd := false) (c := (loopB Try.f22 3)) (k := 28) (I := smU2 L M (i : Int)) (sk := [3, 61, 62, 10, 66, 67, 68]) (hk := [0, 1, 2, 4, 5, 6, 8, 9]) (lk := []) (ex := .normal)
    (L := smU2 L M (IntKind.i64.wrap ((i : Int) + 1))) (by kernel_rfl)
    (And.intro (show flat [Ch.e (ofR x)] = flat [Ch.e (ofR y)] from by rw [h])
    (And.intro (show smtS (.inr y) from hs 1 y (pl_mem hy))
    (And.intro (nu_at (M 1) r y hy)
    (And.intro (show (r : Int) = ((r : Nat) : Int) ∧ r < (M 1).length from ⟨rfl, hk⟩)
    (And.intro (show smtS (.inr x) from hs 1 x (pl_mem hx))
    (And.intro (nu_at (M 1) i x hx)
    (And.intro (show (i : Int) = ((i : Nat) : Int) ∧ i < (M 1).length from ⟨rfl, hj⟩)
    (And.intro (pl_at (L 1) i ((r : Int), (1 : Int)) hp)
    (And.intro (show (i : Int) = ((i : Nat) : Int) ∧ i < (L 1).length from ⟨rfl, hi⟩)
    (And.intro (show decide ((i : Int) < (((L 1).length : Nat) : Int)) = true from decide_eq_true (by omega)) trivial))))))))))
  rw [wrap_i64, show (if ((i : Int) + 1) % 18446744073709551616 < 9223372036854775808 then ((i : Int) + 1) % 18446744073709551616 else ((i : Int) + 1) % 18446744073709551616 - 18446744073709551616) = ((i + 1 : Nat) : Int) by omega] at hh
  exact hh
theorem sm1c2_ok (L : Nat → List (Int × Int)) (M : Nat → List Nat) (hm : (L 1).length ≤ 9223372036854775807) (hs : ∀ w x, x ∈ M w → x < 115792089237316195423570985008687907853269984665640564039457584007913129639936) (i r x y : Nat) (hp : (L 1)[i]? = some ((r : Int), (2 : Int))) (hx : (M 1)[i]? = some x) (hy : (M 2)[r]? = some y) (h : ofR x = ofR y) : Sound Try.prog 0 false (loopB Try.f22 3) (smU2 L M (i : Int)).aa .normal (smU2 L M ((i + 1 : Nat) : Int)).aa := by
  have hi := pl_lt hp
  have hj := pl_lt hx
  have hk := pl_lt hy
  have hh := roundK_sound (P := Try.prog) (X := rulesY _) (env := [eFCleanS]) ⟨eFCleanS_ok, trivial⟩ (n := 0) (os := oL [(28, wT), (30, rO 14 i), (31, { ch := 0, hi := fun _ => 0, ru := 8, cs := fun _ => [.c (.int .i64 (r : Int)), .c (.int .i64 2)] }), (39, rO 14 i), (40, { ch := 0, hi := fun _ => 0, ru := 8, cs := fun _ => [.n 4 x] }), (48, rO 14 r), (49, { ch := 0, hi := fun _ => 0, ru := 8, cs := fun _ => [.n 4 y] }), (51, wO 0)]) (fb := 0) (rd := false) (c := (loopB Try.f22 3)) (k := 28) (I := smU2 L M (i : Int)) (sk := [3, 61, 62, 10, 66, 67, 68]) (hk := [0, 1, 2, 4, 5, 6, 8, 9]) (lk := []) (ex := .normal)
    (L := smU2 L M (IntKind.i64.wrap ((i : Int) + 1))) (by kernel_rfl)
    (And.intro (show flat [Ch.e (ofR x)] = flat [Ch.e (ofR y)] from by rw [h])
    (And.intro (show smtS (.inr y) from hs 2 y (pl_mem hy))
    (And.intro (nu_at (M 2) r y hy)
    (And.intro (show (r : Int) = ((r : Nat) : Int) ∧ r < (M 2).length from ⟨rfl, hk⟩)
    (And.intro (show smtS (.inr x) from hs 1 x (pl_mem hx))
    (And.intro (nu_at (M 1) i x hx)
    (And.intro (show (i : Int) = ((i : Nat) : Int) ∧ i < (M 1).length from ⟨rfl, hj⟩)
    (And.intro (pl_at (L 1) i ((r : Int), (2 : Int)) hp)
    (And.intro (show (i : Int) = ((i : Nat) : Int) ∧ i < (L 1).length from ⟨rfl, hi⟩)
    (And.intro (show decide ((i : Int) < (((L 1).length : Nat) : Int)) = true from decide_eq_true (by omega)) trivial))))))))))
  rw [wrap_i64, show (if ((i : Int) + 1) % 18446744073709551616 < 9223372036854775808 then ((i : Int) + 1) % 18446744073709551616 else ((i : Int) + 1) % 18446744073709551616 - 18446744073709551616) = ((i + 1 : Nat) : Int) by omega] at hh
  exact hh
theorem sm1c_end (L : Nat → List (Int × Int)) (M : Nat → List Nat) : Sound Try.prog 0 false (loopB Try.f22 3) (smU2 L M (((L 1).length : Nat) : Int)).aa (.exit 6) (smU0 L M 1).aa := by
  have hh := roundK_sound (P := Try.prog) (X := rulesY _) (env := []) trivial (n := 0) (os := oL [(28, wF)]) (fb := 0) (rd := false) (c := (loopB Try.f22 3)) (k := 28) (I := smU2 L M (((L 1).length : Nat) : Int)) (sk := [3, 61, 62]) (hk := [0, 1, 2, 4, 5, 6, 8, 9]) (lk := []) (ex := (.exit 6))
    (L := smU0 L M 1) (by kernel_rfl)
    (And.intro (show decide ((((L 1).length : Nat) : Int) < (((L 1).length : Nat) : Int)) = false from decide_eq_false (by omega)) trivial)
  exact hh
theorem sm1d_ok (L : Nat → List (Int × Int)) (M : Nat → List Nat) (hm : (L 1).length ≤ 9223372036854775807) (hs : ∀ w x, x ∈ M w → x < 115792089237316195423570985008687907853269984665640564039457584007913129639936) (hr : ∀ w, w < 3 → rowOK L M w) (i : Nat) (p : Int × Int) (hp : (L 1)[i]? = some p) (h : sameAt M 1 i p) : Sound Try.prog 0 false (loopB Try.f22 3) (smU2 L M (i : Int)).aa .normal (smU2 L M ((i + 1 : Nat) : Int)).aa := by
  obtain ⟨r, q⟩ := p
  obtain ⟨g1, g2, g3, g4⟩ := (hr 1 (by omega)).2.2 _ (pl_mem hp)
  simp only at g1 g2 g3 g4
  obtain ⟨r, rfl⟩ := Int.eq_ofNat_of_zero_le g3
  obtain ⟨x, hx⟩ := pl_of (show i < (M 1).length by have := pl_lt hp; have := (hr 1 (by omega)).1; have := (hr 1 (by omega)).2.1; omega)
  unfold sameAt at h
  rw [List.getD_eq_getElem?_getD, List.getD_eq_getElem?_getD, hx] at h
  simp only [Int.toNat_natCast, Option.getD_some] at h
  have hq : q = 0 ∨ q = 1 ∨ q = 2 := by omega
  rcases hq with rfl | rfl | rfl
  · obtain ⟨y, hy⟩ := pl_of (show r < (M 0).length by have := (hr 0 (by omega)).2.1; omega)
    rw [show ((0 : Int)).toNat = 0 from rfl, hy] at h
    exact sm1c0_ok L M hm hs i r x y hp hx hy h
  · obtain ⟨y, hy⟩ := pl_of (show r < (M 1).length by have := (hr 1 (by omega)).2.1; omega)
    rw [show ((1 : Int)).toNat = 1 from rfl, hy] at h
    exact sm1c1_ok L M hm hs i r x y hp hx hy h
  · obtain ⟨y, hy⟩ := pl_of (show r < (M 2).length by have := (hr 2 (by omega)).2.1; omega)
    rw [show ((2 : Int)).toNat = 2 from rfl, hy] at h
    exact sm1c2_ok L M hm hs i r x y hp hx hy h
theorem sm1d_all (L : Nat → List (Int × Int)) (M : Nat → List Nat) (hm : (L 1).length ≤ 9223372036854775807) (hs : ∀ w x, x ∈ M w → x < 115792089237316195423570985008687907853269984665640564039457584007913129639936) (hr : ∀ w, w < 3 → rowOK L M w) (h : ∀ i p, (L 1)[i]? = some p → sameAt M 1 i p) : Sound Try.prog 0 false (.loop (loopB Try.f22 3)) (smU2 L M 0).aa (.exit 6) (smU0 L M 1).aa := by
  refine loop_ok (m := fun y : { i : Nat // i ≤ (L 1).length } => (L 1).length - y.val) (fun y => smU2 L M (y.val : Int)) (by simp) (fun y => ?_) ⟨0, by omega⟩
  obtain ⟨i, hi⟩ := y
  by_cases e : i < (L 1).length
  · obtain ⟨p, hp⟩ := pl_of e
    exact .inl ⟨⟨i + 1, e⟩, by show (L 1).length - (i + 1) < (L 1).length - i; omega, sm1d_ok L M hm hs hr i p hp (h i p hp)⟩
  · have e : i = (L 1).length := by omega
    subst e
    exact .inr (sm1c_end L M)
theorem sm1p_ok (L : Nat → List (Int × Int)) (M : Nat → List Nat) (hm : ∀ w, (L w).length ≤ 9223372036854775807) (hs : ∀ w x, x ∈ M w → x < 115792089237316195423570985008687907853269984665640564039457584007913129639936) (hr : ∀ w, w < 3 → rowOK L M w) (h : ∀ i p, (L 1)[i]? = some p → sameAt M 1 i p) : Sound Try.prog 0 false (loopB Try.f22 2) (smU0 L M 1).aa .normal (smU0 L M 2).aa := by
  have hh := roundK_sound (P := Try.prog) (X := rulesY _) (env := []) trivial (n := 0) (os := oL [(28, lpO { I := smU2 L M 0, ex := .exit 6, E := smU0 L M 1, fr := 29 })]) (fb := 0) (rd := false) (c := (loopB Try.f22 2)) (k := 20) (I := smU0 L M 1) (sk := [3, 61, 62]) (hk := [0, 1, 2, 4, 5, 6, 8, 9]) (lk := []) (ex := .normal)
    (L := smU0 L M 2) (by kernel_rfl)
    (And.intro (show some (smU2 L M 0) = some (smU2 L M 0) from rfl)
    (And.intro (sm1d_all L M (hm 1) hs hr h) trivial))
  exact hh
theorem sm2c0_ok (L : Nat → List (Int × Int)) (M : Nat → List Nat) (hm : (L 2).length ≤ 9223372036854775807) (hs : ∀ w x, x ∈ M w → x < 115792089237316195423570985008687907853269984665640564039457584007913129639936) (i r x y : Nat) (hp : (L 2)[i]? = some ((r : Int), (0 : Int))) (hx : (M 2)[i]? = some x) (hy : (M 0)[r]? = some y) (h : ofR x = ofR y) : Sound Try.prog 0 false (loopB Try.f22 3) (smU3 L M (i : Int)).aa .normal (smU3 L M ((i + 1 : Nat) : Int)).aa := by
  have hi := pl_lt hp
  have hj := pl_lt hx
  have hk := pl_lt hy
  have hh := roundK_sound (P := Try.prog) (X := rulesY _) (env := [eFCleanS]) ⟨eFCleanS_ok, trivial⟩ (n := 0) (os := oL [(28, wT), (30, rO 14 i), (31, { ch := 0, hi := fun _ => 0, ru := 8, cs := fun _ => [.c (.int .i64 (r : Int)), .c (.int .i64 0)] }), (39, rO 14 i), (40, { ch := 0, hi := fun _ => 0, ru := 8, cs := fun _ => [.n 4 x] }), (48, rO 14 r), (49, { ch := 0, hi := fun _ => 0, ru := 8, cs := fun _ => [.n 4 y] }), (51, wO 0)]) (fb := 0) (rd := false) (c := (loopB Try.f22 3)) (k := 28) (I := smU3 L M (i : Int)) (sk := [3, 61, 62, 10, 66, 67, 68]) (hk := [0, 1, 2, 4, 5, 6, 8, 9]) (lk := []) (ex := .normal)
    (L := smU3 L M (IntKind.i64.wrap ((i : Int) + 1))) (by kernel_rfl)
    (And.intro (show flat [Ch.e (ofR x)] = flat [Ch.e (ofR y)] from by rw [h])
    (And.intro (show smtS (.inr y) from hs 0 y (pl_mem hy))
    (And.intro (nu_at (M 0) r y hy)
    (And.intro (show (r : Int) = ((r : Nat) : Int) ∧ r < (M 0).length from ⟨rfl, hk⟩)
    (And.intro (show smtS (.inr x) from hs 2 x (pl_mem hx))
    (And.intro (nu_at (M 2) i x hx)
    (And.intro (show (i : Int) = ((i : Nat) : Int) ∧ i < (M 2).length from ⟨rfl, hj⟩)
    (And.intro (pl_at (L 2) i ((r : Int), (0 : Int)) hp)
    (And.intro (show (i : Int) = ((i : Nat) : Int) ∧ i < (L 2).length from ⟨rfl, hi⟩)
    (And.intro (show decide ((i : Int) < (((L 2).length : Nat) : Int)) = true from decide_eq_true (by omega)) trivial))))))))))
  rw [wrap_i64, show (if ((i : Int) + 1) % 18446744073709551616 < 9223372036854775808 then ((i : Int) + 1) % 18446744073709551616 else ((i : Int) + 1) % 18446744073709551616 - 18446744073709551616) = ((i + 1 : Nat) : Int) by omega] at hh
  exact hh
theorem sm2c1_ok (L : Nat → List (Int × Int)) (M : Nat → List Nat) (hm : (L 2).length ≤ 9223372036854775807) (hs : ∀ w x, x ∈ M w → x < 115792089237316195423570985008687907853269984665640564039457584007913129639936) (i r x y : Nat) (hp : (L 2)[i]? = some ((r : Int), (1 : Int))) (hx : (M 2)[i]? = some x) (hy : (M 1)[r]? = some y) (h : ofR x = ofR y) : Sound Try.prog 0 false (loopB Try.f22 3) (smU3 L M (i : Int)).aa .normal (smU3 L M ((i + 1 : Nat) : Int)).aa := by
  have hi := pl_lt hp
  have hj := pl_lt hx
  have hk := pl_lt hy
  have hh := roundK_sound (P := Try.prog) (X := rulesY _) (env := [eFCleanS]) ⟨eFCleanS_ok, trivial⟩ (n := 0) (os := oL [(28, wT), (30, rO 14 i), (31, { ch := 0, hi := fun _ => 0, ru := 8, cs := fun _ => [.c (.int .i64 (r : Int)), .c (.int .i64 1)] }), (39, rO 14 i), (40, { ch := 0, hi := fun _ => 0, ru := 8, cs := fun _ => [.n 4 x] }), (48, rO 14 r), (49, { ch := 0, hi := fun _ => 0, ru := 8, cs := fun _ => [.n 4 y] }), (51, wO 0)]) (fb := 0) (rd := false) (c := (loopB Try.f22 3)) (k := 28) (I := smU3 L M (i : Int)) (sk := [3, 61, 62, 10, 66, 67, 68]) (hk := [0, 1, 2, 4, 5, 6, 8, 9]) (lk := []) (ex := .normal)
    (L := smU3 L M (IntKind.i64.wrap ((i : Int) + 1))) (by kernel_rfl)
    (And.intro (show flat [Ch.e (ofR x)] = flat [Ch.e (ofR y)] from by rw [h])
    (And.intro (show smtS (.inr y) from hs 1 y (pl_mem hy))
    (And.intro (nu_at (M 1) r y hy)
    (And.intro (show (r : Int) = ((r : Nat) : Int) ∧ r < (M 1).length from ⟨rfl, hk⟩)
    (And.intro (show smtS (.inr x) from hs 2 x (pl_mem hx))
    (And.intro (nu_at (M 2) i x hx)
    (And.intro (show (i : Int) = ((i : Nat) : Int) ∧ i < (M 2).length from ⟨rfl, hj⟩)
    (And.intro (pl_at (L 2) i ((r : Int), (1 : Int)) hp)
    (And.intro (show (i : Int) = ((i : Nat) : Int) ∧ i < (L 2).length from ⟨rfl, hi⟩)
    (And.intro (show decide ((i : Int) < (((L 2).length : Nat) : Int)) = true from decide_eq_true (by omega)) trivial))))))))))
  rw [wrap_i64, show (if ((i : Int) + 1) % 18446744073709551616 < 9223372036854775808 then ((i : Int) + 1) % 18446744073709551616 else ((i : Int) + 1) % 18446744073709551616 - 18446744073709551616) = ((i + 1 : Nat) : Int) by omega] at hh
  exact hh
theorem sm2c2_ok (L : Nat → List (Int × Int)) (M : Nat → List Nat) (hm : (L 2).length ≤ 9223372036854775807) (hs : ∀ w x, x ∈ M w → x < 115792089237316195423570985008687907853269984665640564039457584007913129639936) (i r x y : Nat) (hp : (L 2)[i]? = some ((r : Int), (2 : Int))) (hx : (M 2)[i]? = some x) (hy : (M 2)[r]? = some y) (h : ofR x = ofR y) : Sound Try.prog 0 false (loopB Try.f22 3) (smU3 L M (i : Int)).aa .normal (smU3 L M ((i + 1 : Nat) : Int)).aa := by
  have hi := pl_lt hp
  have hj := pl_lt hx
  have hk := pl_lt hy
  have hh := roundK_sound (P := Try.prog) (X := rulesY _) (env := [eFCleanS]) ⟨eFCleanS_ok, trivial⟩ (n := 0) (os := oL [(28, wT), (30, rO 14 i), (31, { ch := 0, hi := fun _ => 0, ru := 8, cs := fun _ => [.c (.int .i64 (r : Int)), .c (.int .i64 2)] }), (39, rO 14 i), (40, { ch := 0, hi := fun _ => 0, ru := 8, cs := fun _ => [.n 4 x] }), (48, rO 14 r), (49, { ch := 0, hi := fun _ => 0, ru := 8, cs := fun _ => [.n 4 y] }), (51, wO 0)]) (fb := 0) (rd := false) (c := (loopB Try.f22 3)) (k := 28) (I := smU3 L M (i : Int)) (sk := [3, 61, 62, 10, 66, 67, 68]) (hk := [0, 1, 2, 4, 5, 6, 8, 9]) (lk := []) (ex := .normal)
    (L := smU3 L M (IntKind.i64.wrap ((i : Int) + 1))) (by kernel_rfl)
    (And.intro (show flat [Ch.e (ofR x)] = flat [Ch.e (ofR y)] from by rw [h])
    (And.intro (show smtS (.inr y) from hs 2 y (pl_mem hy))
    (And.intro (nu_at (M 2) r y hy)
    (And.intro (show (r : Int) = ((r : Nat) : Int) ∧ r < (M 2).length from ⟨rfl, hk⟩)
    (And.intro (show smtS (.inr x) from hs 2 x (pl_mem hx))
    (And.intro (nu_at (M 2) i x hx)
    (And.intro (show (i : Int) = ((i : Nat) : Int) ∧ i < (M 2).length from ⟨rfl, hj⟩)
    (And.intro (pl_at (L 2) i ((r : Int), (2 : Int)) hp)
    (And.intro (show (i : Int) = ((i : Nat) : Int) ∧ i < (L 2).length from ⟨rfl, hi⟩)
    (And.intro (show decide ((i : Int) < (((L 2).length : Nat) : Int)) = true from decide_eq_true (by omega)) trivial))))))))))
  rw [wrap_i64, show (if ((i : Int) + 1) % 18446744073709551616 < 9223372036854775808 then ((i : Int) + 1) % 18446744073709551616 else ((i : Int) + 1) % 18446744073709551616 - 18446744073709551616) = ((i + 1 : Nat) : Int) by omega] at hh
  exact hh
theorem sm2c_end (L : Nat → List (Int × Int)) (M : Nat → List Nat) : Sound Try.prog 0 false (loopB Try.f22 3) (smU3 L M (((L 2).length : Nat) : Int)).aa (.exit 6) (smU0 L M 2).aa := by
  have hh := roundK_sound (P := Try.prog) (X := rulesY _) (env := []) trivial (n := 0) (os := oL [(28, wF)]) (fb := 0) (rd := false) (c := (loopB Try.f22 3)) (k := 28) (I := smU3 L M (((L 2).length : Nat) : Int)) (sk := [3, 61, 62]) (hk := [0, 1, 2, 4, 5, 6, 8, 9]) (lk := []) (ex := (.exit 6))
    (L := smU0 L M 2) (by kernel_rfl)
    (And.intro (show decide ((((L 2).length : Nat) : Int) < (((L 2).length : Nat) : Int)) = false from decide_eq_false (by omega)) trivial)
  exact hh
theorem sm2d_ok (L : Nat → List (Int × Int)) (M : Nat → List Nat) (hm : (L 2).length ≤ 9223372036854775807) (hs : ∀ w x, x ∈ M w → x < 115792089237316195423570985008687907853269984665640564039457584007913129639936) (hr : ∀ w, w < 3 → rowOK L M w) (i : Nat) (p : Int × Int) (hp : (L 2)[i]? = some p) (h : sameAt M 2 i p) : Sound Try.prog 0 false (loopB Try.f22 3) (smU3 L M (i : Int)).aa .normal (smU3 L M ((i + 1 : Nat) : Int)).aa := by
  obtain ⟨r, q⟩ := p
  obtain ⟨g1, g2, g3, g4⟩ := (hr 2 (by omega)).2.2 _ (pl_mem hp)
  simp only at g1 g2 g3 g4
  obtain ⟨r, rfl⟩ := Int.eq_ofNat_of_zero_le g3
  obtain ⟨x, hx⟩ := pl_of (show i < (M 2).length by have := pl_lt hp; have := (hr 2 (by omega)).1; have := (hr 2 (by omega)).2.1; omega)
  unfold sameAt at h
  rw [List.getD_eq_getElem?_getD, List.getD_eq_getElem?_getD, hx] at h
  simp only [Int.toNat_natCast, Option.getD_some] at h
  have hq : q = 0 ∨ q = 1 ∨ q = 2 := by omega
  rcases hq with rfl | rfl | rfl
  · obtain ⟨y, hy⟩ := pl_of (show r < (M 0).length by have := (hr 0 (by omega)).2.1; omega)
    rw [show ((0 : Int)).toNat = 0 from rfl, hy] at h
    exact sm2c0_ok L M hm hs i r x y hp hx hy h
  · obtain ⟨y, hy⟩ := pl_of (show r < (M 1).length by have := (hr 1 (by omega)).2.1; omega)
    rw [show ((1 : Int)).toNat = 1 from rfl, hy] at h
    exact sm2c1_ok L M hm hs i r x y hp hx hy h
  · obtain ⟨y, hy⟩ := pl_of (show r < (M 2).length by have := (hr 2 (by omega)).2.1; omega)
    rw [show ((2 : Int)).toNat = 2 from rfl, hy] at h
    exact sm2c2_ok L M hm hs i r x y hp hx hy h
theorem sm2d_all (L : Nat → List (Int × Int)) (M : Nat → List Nat) (hm : (L 2).length ≤ 9223372036854775807) (hs : ∀ w x, x ∈ M w → x < 115792089237316195423570985008687907853269984665640564039457584007913129639936) (hr : ∀ w, w < 3 → rowOK L M w) (h : ∀ i p, (L 2)[i]? = some p → sameAt M 2 i p) : Sound Try.prog 0 false (.loop (loopB Try.f22 3)) (smU3 L M 0).aa (.exit 6) (smU0 L M 2).aa := by
  refine loop_ok (m := fun y : { i : Nat // i ≤ (L 2).length } => (L 2).length - y.val) (fun y => smU3 L M (y.val : Int)) (by simp) (fun y => ?_) ⟨0, by omega⟩
  obtain ⟨i, hi⟩ := y
  by_cases e : i < (L 2).length
  · obtain ⟨p, hp⟩ := pl_of e
    exact .inl ⟨⟨i + 1, e⟩, by show (L 2).length - (i + 1) < (L 2).length - i; omega, sm2d_ok L M hm hs hr i p hp (h i p hp)⟩
  · have e : i = (L 2).length := by omega
    subst e
    exact .inr (sm2c_end L M)
theorem sm2p_ok (L : Nat → List (Int × Int)) (M : Nat → List Nat) (hm : ∀ w, (L w).length ≤ 9223372036854775807) (hs : ∀ w x, x ∈ M w → x < 115792089237316195423570985008687907853269984665640564039457584007913129639936) (hr : ∀ w, w < 3 → rowOK L M w) (h : ∀ i p, (L 2)[i]? = some p → sameAt M 2 i p) : Sound Try.prog 0 false (loopB Try.f22 2) (smU0 L M 2).aa .normal (smU0 L M 3).aa := by
  have hh := roundK_sound (P := Try.prog) (X := rulesY _) (env := []) trivial (n := 0) (os := oL [(28, lpO { I := smU3 L M 0, ex := .exit 6, E := smU0 L M 2, fr := 29 })]) (fb := 0) (rd := false) (c := (loopB Try.f22 2)) (k := 20) (I := smU0 L M 2) (sk := [3, 61, 62]) (hk := [0, 1, 2, 4, 5, 6, 8, 9]) (lk := []) (ex := .normal)
    (L := smU0 L M 3) (by kernel_rfl)
    (And.intro (show some (smU3 L M 0) = some (smU3 L M 0) from rfl)
    (And.intro (sm2d_all L M (hm 2) hs hr h) trivial))
  exact hh
theorem smp_end (L : Nat → List (Int × Int)) (M : Nat → List Nat) : Sound Try.prog 0 false (loopB Try.f22 2) (smU0 L M 3).aa (.exit 4) (smY).aa := by
  have hh := roundK_sound (P := Try.prog) (X := rulesY _) (env := []) trivial (n := 0) (os := oL []) (fb := 0) (rd := false) (c := (loopB Try.f22 2)) (k := 20) (I := smU0 L M 3) (sk := []) (hk := []) (lk := []) (ex := (.exit 4))
    (L := smY) (by kernel_rfl)
    trivial
  exact hh
def rowEq (L : Nat → List (Int × Int)) (M : Nat → List Nat) (w : Nat) : Prop := ∀ i p, (L w)[i]? = some p → sameAt M w i p
theorem smp_ok (L : Nat → List (Int × Int)) (M : Nat → List Nat) (hm : ∀ w, (L w).length ≤ 9223372036854775807)  (hs : ∀ w x, x ∈ M w → x < 115792089237316195423570985008687907853269984665640564039457584007913129639936) (hr : ∀ w, w < 3 → rowOK L M w) (w : Nat) (hw : w < 3) (h : rowEq L M w) : Sound Try.prog 0 false (loopB Try.f22 2) (smU0 L M (w : Int)).aa .normal (smU0 L M ((w + 1 : Nat) : Int)).aa := by
  match w, hw with
  | 0, _ => exact sm0p_ok L M hm hs hr h
  | 1, _ => exact sm1p_ok L M hm hs hr h
  | 2, _ => exact sm2p_ok L M hm hs hr h
theorem smp_all (L : Nat → List (Int × Int)) (M : Nat → List Nat) (hm : ∀ w, (L w).length ≤ 9223372036854775807)  (hs : ∀ w x, x ∈ M w → x < 115792089237316195423570985008687907853269984665640564039457584007913129639936) (hr : ∀ w, w < 3 → rowOK L M w) (h : ∀ w, w < 3 → rowEq L M w) : Sound Try.prog 0 false (.loop (loopB Try.f22 2)) (smU0 L M 0).aa (.exit 4) smY.aa := by
  refine loop_ok (m := fun y : { i : Nat // i ≤ 3 } => 3 - y.val) (fun y => smU0 L M (y.val : Int)) (by simp) (fun y => ?_) ⟨0, by omega⟩
  obtain ⟨i, hi⟩ := y
  by_cases e : i < 3
  · exact .inl ⟨⟨i + 1, e⟩, by show 3 - (i + 1) < 3 - i; omega, smp_ok L M hm hs hr i e (h i e)⟩
  · have e : i = 3 := by omega
    subst e
    exact .inr (smp_end L M)
theorem same_yes (L : Nat → List (Int × Int)) (M : Nat → List Nat) (hm : ∀ w, (L w).length ≤ 9223372036854775807)  (hs : ∀ w x, x ∈ M w → x < 115792089237316195423570985008687907853269984665640564039457584007913129639936) (hr : ∀ w, w < 3 → rowOK L M w) (h : ∀ w, w < 3 → rowEq L M w) : Gives Try.prog 22 [.ags [.z [.l (plC (L 0))] (L 0).length, .z [.l (plC (L 1))] (L 1).length, .z [.l (plC (L 2))] (L 2).length], .ags [.z [.l (numC 4 (M 0))] (M 0).length, .z [.l (numC 4 (M 1))] (M 1).length, .z [.l (numC 4 (M 2))] (M 2).length]] (.v (.bool true)) :=
  fn_gives_at (P := Try.prog) (X := rulesY _) (env := []) trivial Try.func22 0 (oL [(17, lpO { I := smS0 L M 0, ex := .exit 0, E := smX L M, fr := 18 }), (20, lpO { I := smU0 L M 0, ex := .exit 4, E := smY, fr := 21 })]) (by kernel_rfl) ⟨_, rfl⟩
      (And.intro (show some (smU0 L M 0) = some (smU0 L M 0) from rfl)
    (And.intro (smp_all L M hm hs hr h)
    (And.intro (show some (smS0 L M 0) = some (smS0 L M 0) from rfl)
    (And.intro (smo_all L M hm hr) trivial))))
end Go.Proofs.Ytoigbjimhcgolaa

/- chirographlaw19.SigmaSame says true. -/
set_option linter.unusedSimpArgs false
set_option linter.unusedVariables false
namespace Go.Proofs.Ytoigbjimhcgolaa
open Go.Ev Go.RowKit
def eAl19 : Entry := entry0 8 [(none, .v (.bool true))]
theorem eAl19_ok : eAl19.OK Try.prog := entry0_ok (fun args w => Go.Proofs.enters_of (P := Try.prog) Try.func8 (by kernel_rfl) rfl args w) (only (fn_gives (P := Try.prog) (env := [eFSmallS]) ⟨eFSmallS_ok, trivial⟩ Try.func8 2 o0 (r := .v (.bool true)) (by kernel_rfl)
    (And.intro (show flat [.e (ofR (7 : Int).toNat)] = flat [.c (.int .u64 7), .c (.int .u64 0), .c (.int .u64 0), .c (.int .u64 0)] from by kernel_rfl) (And.intro (show (0 : Int) ≤ 7 ∧ (7 : Int) < 9223372036854775808 from by decide) trivial))))
def lenOK (L : Nat → List (Int × Int)) (M : Nat → List Nat) (w : Nat) : Prop := (L w).length = (L 0).length ∧ (M w).length = (L 0).length
instance (L : Nat → List (Int × Int)) (M : Nat → List Nat) (w : Nat) : Decidable (lenOK L M w) := by unfold lenOK; infer_instance
instance (L : Nat → List (Int × Int)) (M : Nat → List Nat) : DecidablePred (lenOK L M) := fun w => inferInstance
end Go.Proofs.Ytoigbjimhcgolaa
