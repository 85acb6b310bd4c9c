/- Pruned: Id. -/
import Derived.Test.YtoigbjimhcgolaaQIc
/- sigma.Next: what comes behind each place. -/
set_option linter.unusedSimpArgs false
set_option linter.unusedVariables false
namespace Go.Proofs.Ytoigbjimhcgolaa
open Go.Ev Go.RowKit
theorem p1_flat (z w : Nat) : flat [.c (.int .i64 ((z : Nat) : Int)), .c (.int .i64 ((w : Nat) : Int))] = flat [.l (plV (z, w))] := rfl
theorem p_flat (C : List Value) (z w : Nat) : flat [.l C, .c (.int .i64 ((z : Nat) : Int)), .c (.int .i64 ((w : Nat) : Int))] = flat [.l (C ++ plV (z, w))] := by simp [flat, Ch.cells, plV]
def nxZ0 (gs : List GT) (pub vars : Int) (lgz : Int) (n : Nat) : LState := { n := 81, sl := [(1, .v (.int .i64 (lgz))), (2, .p 4 0), (4, .p 5 0), (6, .p 7 0), (23, .v (.int .i64 (0))), (8, .v (.int .i64 (0))), (27, .v (.int .i64 (((n : Nat) : Int)))), (28, .v (.int .i64 (0)))], hp := [(0, .rz [.l (gsC gs)]), (4, .own [.sz 0 gs.length, .c (.int .i64 pub), .c (.int .i64 vars)] 24), (5, .own [.c (.slice none 0 0), .c (.slice none 0 0), .c (.slice none 0 0)] 29), (7, .own [.c (.slice none 0 0), .c (.slice none 0 0), .c (.slice none 0 0)] 29)] }
def nxI0 (gs : List GT) (pub vars : Int) (lgz : Int) (n : Nat) (C : List Value) (i : Nat) : LState := { n := 81, sl := [(1, .v (.int .i64 (lgz))), (2, .p 4 0), (4, .p 5 0), (6, .p 7 0), (23, .v (.int .i64 (0))), (8, .v (.int .i64 (0))), (27, .v (.int .i64 (((n : Nat) : Int)))), (28, .v (.int .i64 ((i : Nat) : Int)))], hp := [(0, .rz [.l (gsC gs)]), (4, .own [.sz 0 gs.length, .c (.int .i64 pub), .c (.int .i64 vars)] 24), (5, .own [.c (.slice none 0 0), .c (.slice none 0 0), .c (.slice none 0 0)] 29), (7, .own [.sx 21 i, .c (.slice none 0 0), .c (.slice none 0 0)] 29), (21, .gr [.l C] 44 2)] }
def nxE0 (gs : List GT) (pub vars : Int) (lgz : Int) (n : Nat) (C : List Value) : LState := { n := 81, sl := [(1, .v (.int .i64 (lgz))), (2, .p 4 0), (4, .p 5 0), (6, .p 7 0), (23, .v (.int .i64 (0)))], hp := [(0, .rz [.l (gsC gs)]), (4, .own [.sz 0 gs.length, .c (.int .i64 pub), .c (.int .i64 vars)] 24), (5, .own [.c (.slice none 0 0), .c (.slice none 0 0), .c (.slice none 0 0)] 29), (7, .own [.sx 21 n, .c (.slice none 0 0), .c (.slice none 0 0)] 29), (21, .gr [.l C] 44 2)] }
theorem xz0 (gs : List GT) (pub vars : Int) (lgz : Int) (n : Nat) (hn : n ≤ 1000) (h0 : 0 < n) : Sound Try.prog 0 false (loopB Try.f9 1) (nxZ0 gs pub vars lgz n ).aa .normal (nxI0 gs pub vars lgz n (plV (0, 0)) 1).aa := by
  exact roundP_sound (P := Try.prog) (X := rulesM _) (env := []) trivial (n := 0) (os := (oL [(22, wT)])) (fb := 0) (rd := false) (c := (loopB Try.f9 1)) (k := 22) (I := nxZ0 gs pub vars lgz n ) (J := nxI0 gs pub vars lgz n (plV (0, 0)) 1) (τ := [(21, 33)]) (ex := .normal) (by kernel_rfl)
    (And.intro (show (((Value.int .i64 lgz) = (Value.int .i64 lgz)) ∧ (true = true ∧ 0 = 0) ∧ (true = true ∧ 0 = 0) ∧ (true = true ∧ 0 = 0) ∧ ((Value.int .i64 0) = (Value.int .i64 0)) ∧ ((Value.int .i64 0) = (Value.int .i64 0)) ∧ ((Value.int .i64 ((n : Nat) : Int)) = (Value.int .i64 ((n : Nat) : Int))) ∧ ((Value.int .i64 (IntKind.i64.wrap (0 + 1))) = (Value.int .i64 ((1 : Nat) : Int))) ∧ True) ∧ ((flat [.l (gsC gs)] = flat [.l (gsC gs)]) ∧ (24 = 24 ∧ ((true = true ∧ gs.length = gs.length) ∧ (true = true ∧ true = true ∧ [Value.int .i64 pub] = [Value.int .i64 pub]) ∧ (true = true ∧ true = true ∧ [Value.int .i64 vars] = [Value.int .i64 vars]) ∧ True)) ∧ (29 = 29 ∧ flat [Ch.c (.slice none 0 0), Ch.c (.slice none 0 0), Ch.c (.slice none 0 0)] = flat [Ch.c (.slice none 0 0), Ch.c (.slice none 0 0), Ch.c (.slice none 0 0)]) ∧ (29 = 29 ∧ ((true = true ∧ 1 = 1) ∧ (true = true ∧ true = true ∧ [Value.slice none 0 0] = [Value.slice none 0 0]) ∧ (true = true ∧ true = true ∧ [Value.slice none 0 0] = [Value.slice none 0 0]) ∧ True)) ∧ ((44 = 44 ∧ 2 = 2) ∧ flat [.c (.int .i64 0), .c (.int .i64 0)] = flat [.l (plV (0, 0))]) ∧ True) from ⟨⟨rfl, ⟨rfl, rfl⟩, ⟨rfl, rfl⟩, ⟨rfl, rfl⟩, rfl, rfl, rfl, rfl, trivial⟩, ⟨rfl, ⟨rfl, ⟨⟨rfl, rfl⟩, ⟨rfl, rfl, rfl⟩, ⟨rfl, rfl, rfl⟩, trivial⟩⟩, ⟨rfl, rfl⟩, ⟨rfl, ⟨⟨rfl, rfl⟩, ⟨rfl, rfl, rfl⟩, ⟨rfl, rfl, rfl⟩, trivial⟩⟩, ⟨⟨rfl, rfl⟩, p1_flat 0 0⟩, trivial⟩⟩)
    (And.intro (show decide ((0 : Int) < ((n : Nat) : Int)) = true from decide_eq_true (by omega)) trivial))
theorem xr0 (gs : List GT) (pub vars : Int) (lgz : Int) (n : Nat) (hn : n ≤ 1000) (C : List Value) (i : Nat) (hi : i < n) (hC : C.length = i * 2) : Sound Try.prog 0 false (loopB Try.f9 1) (nxI0 gs pub vars lgz n C i).aa .normal (nxI0 gs pub vars lgz n (C ++ plV (i, 0)) (i + 1)).aa := by
  exact roundP_sound (P := Try.prog) (X := rulesM _) (env := []) trivial (n := 0) (os := (oL [(22, wT), (33, { ch := 0, hi := fun _ => 0, ex := 1 })])) (fb := 0) (rd := false) (c := (loopB Try.f9 1)) (k := 22) (I := nxI0 gs pub vars lgz n C i) (J := nxI0 gs pub vars lgz n (C ++ plV (i, 0)) (i + 1)) (τ := [(21, 33)]) (ex := .normal) (by kernel_rfl)
    (And.intro (show (((Value.int .i64 lgz) = (Value.int .i64 lgz)) ∧ (true = true ∧ 0 = 0) ∧ (true = true ∧ 0 = 0) ∧ (true = true ∧ 0 = 0) ∧ ((Value.int .i64 0) = (Value.int .i64 0)) ∧ ((Value.int .i64 0) = (Value.int .i64 0)) ∧ ((Value.int .i64 ((n : Nat) : Int)) = (Value.int .i64 ((n : Nat) : Int))) ∧ ((Value.int .i64 (IntKind.i64.wrap (((i : Nat) : Int) + 1))) = (Value.int .i64 (((i + 1) : Nat) : Int))) ∧ True) ∧ ((flat [.l (gsC gs)] = flat [.l (gsC gs)]) ∧ (24 = 24 ∧ ((true = true ∧ gs.length = gs.length) ∧ (true = true ∧ true = true ∧ [Value.int .i64 pub] = [Value.int .i64 pub]) ∧ (true = true ∧ true = true ∧ [Value.int .i64 vars] = [Value.int .i64 vars]) ∧ True)) ∧ (29 = 29 ∧ flat [Ch.c (.slice none 0 0), Ch.c (.slice none 0 0), Ch.c (.slice none 0 0)] = flat [Ch.c (.slice none 0 0), Ch.c (.slice none 0 0), Ch.c (.slice none 0 0)]) ∧ (29 = 29 ∧ ((true = true ∧ (i + 1) = (i + 1)) ∧ (true = true ∧ true = true ∧ [Value.slice none 0 0] = [Value.slice none 0 0]) ∧ (true = true ∧ true = true ∧ [Value.slice none 0 0] = [Value.slice none 0 0]) ∧ True)) ∧ ((44 = 44 ∧ 2 = 2) ∧ flat [.l C, .c (.int .i64 ((i : Nat) : Int)), .c (.int .i64 0)] = flat [.l (C ++ plV (i, 0))]) ∧ True) from ⟨⟨rfl, ⟨rfl, rfl⟩, ⟨rfl, rfl⟩, ⟨rfl, rfl⟩, rfl, rfl, rfl, by rw [r_next (by omega)], trivial⟩, ⟨rfl, ⟨rfl, ⟨⟨rfl, rfl⟩, ⟨rfl, rfl, rfl⟩, ⟨rfl, rfl, rfl⟩, trivial⟩⟩, ⟨rfl, rfl⟩, ⟨rfl, ⟨⟨rfl, rfl⟩, ⟨rfl, rfl, rfl⟩, ⟨rfl, rfl, rfl⟩, trivial⟩⟩, ⟨⟨rfl, rfl⟩, p_flat C i 0⟩, trivial⟩⟩)
    (And.intro (show sizes [.l C] = i * 2 ∧ i + 1 ≤ 9223372036854775807 ∧ (i + 1) * 16 ≤ 140737488355328 ∧ True from ⟨by show C.length + 0 = i * 2; omega, by omega, by omega, trivial⟩)
    (And.intro (show decide (((i : Nat) : Int) < ((n : Nat) : Int)) = true from decide_eq_true (by omega)) trivial)))
theorem xe0 (gs : List GT) (pub vars : Int) (lgz : Int) (n : Nat) (C : List Value) : Sound Try.prog 0 false (loopB Try.f9 1) (nxI0 gs pub vars lgz n C n).aa (.exit 2) (nxE0 gs pub vars lgz n C).aa := by
  have hh := roundK_sound (P := Try.prog) (X := rulesM _) (env := []) trivial (n := 0) (os := (oL [(22, wF)])) (fb := 0) (rd := false) (c := (loopB Try.f9 1)) (k := 22) (I := nxI0 gs pub vars lgz n C n) (sk := [1, 2, 4, 6, 23]) (hk := [0, 4, 5, 7, 21]) (lk := []) (ex := (.exit 2))
    (L := nxE0 gs pub vars lgz n C) (by kernel_rfl)
    (And.intro (show decide (((n : Nat) : Int) < ((n : Nat) : Int)) = false from decide_eq_false (by omega)) trivial)
  exact hh
theorem xa0 (gs : List GT) (pub vars : Int) (lgz : Int) (n : Nat) (hn : n ≤ 1000) (h0 : 0 < n) : Sound Try.prog 0 false (.loop (loopB Try.f9 1)) (nxZ0 gs pub vars lgz n ).aa (.exit 2) (nxE0 gs pub vars lgz n (tabG plV n (fun i => (i, 0)))).aa := by
  have hh := loop_ok (P := Try.prog) (fb := 0) (rd := false) (body := (loopB Try.f9 1)) (ex := .exit 2) (E := nxE0 gs pub vars lgz n (tabG plV n (fun i => (i, 0)))) (m := fun y : { i : Nat // i ≤ n } => n - y.val) (fun y => match y.val with | 0 => nxZ0 gs pub vars lgz n  | i + 1 => nxI0 gs pub vars lgz n (tabG plV (i + 1) (fun i => (i, 0))) (i + 1)) (by simp) (fun y => ?_) ⟨0, by omega⟩
  · exact hh
  obtain ⟨i, hi⟩ := y
  match i, hi with
  | 0, hi => exact .inl ⟨⟨1, by omega⟩, by show n - 1 < n - 0; omega, by
      have h1 := xz0 gs pub vars lgz n hn h0
      have e : tabG plV 1 (fun i => (i, 0)) = plV (0, 0) := by rw [tabG_succ]; rfl
      show Sound _ _ _ _ _ _ (nxI0 gs pub vars lgz n (tabG plV (0 + 1) (fun i => (i, 0))) (0 + 1)).aa
      rw [e]
      exact h1⟩
  | i + 1, hi =>
    by_cases e : i + 1 < n
    · have h1 := xr0 gs pub vars lgz n hn (tabG plV (i + 1) (fun i => (i, 0))) (i + 1) e (tabG_len plV plV_len _ _)
      rw [← tabG_succ plV (i + 1) (fun i => (i, 0))] at h1
      exact .inl ⟨⟨i + 1 + 1, e⟩, by show n - (i + 1 + 1) < n - (i + 1); omega, h1⟩
    · have e : i + 1 = n := by omega
      refine .inr ?_
      show Sound _ _ _ _ (nxI0 gs pub vars lgz n (tabG plV (i + 1) (fun i => (i, 0))) (i + 1)).aa _ _
      rw [e]
      exact xe0 gs pub vars lgz n _
def nxZ1 (gs : List GT) (pub vars : Int) (lgz : Int) (n : Nat) : LState := { n := 81, sl := [(1, .v (.int .i64 (lgz))), (2, .p 4 0), (4, .p 5 0), (6, .p 7 0), (23, .v (.int .i64 (1))), (8, .v (.int .i64 (1))), (27, .v (.int .i64 (((n : Nat) : Int)))), (28, .v (.int .i64 (0)))], hp := [(0, .rz [.l (gsC gs)]), (4, .own [.sz 0 gs.length, .c (.int .i64 pub), .c (.int .i64 vars)] 24), (5, .own [.c (.slice none 0 0), .c (.slice none 0 0), .c (.slice none 0 0)] 29), (7, .own [.sx 21 n, .c (.slice none 0 0), .c (.slice none 0 0)] 29), (21, .gr [.l (tabG plV n (fun i => (i, 0)))] 44 2)] }
def nxI1 (gs : List GT) (pub vars : Int) (lgz : Int) (n : Nat) (C : List Value) (i : Nat) : LState := { n := 81, sl := [(1, .v (.int .i64 (lgz))), (2, .p 4 0), (4, .p 5 0), (6, .p 7 0), (23, .v (.int .i64 (1))), (8, .v (.int .i64 (1))), (27, .v (.int .i64 (((n : Nat) : Int)))), (28, .v (.int .i64 ((i : Nat) : Int)))], hp := [(0, .rz [.l (gsC gs)]), (4, .own [.sz 0 gs.length, .c (.int .i64 pub), .c (.int .i64 vars)] 24), (5, .own [.c (.slice none 0 0), .c (.slice none 0 0), .c (.slice none 0 0)] 29), (7, .own [.sx 21 n, .sx 30 i, .c (.slice none 0 0)] 29), (21, .gr [.l (tabG plV n (fun i => (i, 0)))] 44 2), (30, .gr [.l C] 44 2)] }
def nxE1 (gs : List GT) (pub vars : Int) (lgz : Int) (n : Nat) (C : List Value) : LState := { n := 81, sl := [(1, .v (.int .i64 (lgz))), (2, .p 4 0), (4, .p 5 0), (6, .p 7 0), (23, .v (.int .i64 (1)))], hp := [(0, .rz [.l (gsC gs)]), (4, .own [.sz 0 gs.length, .c (.int .i64 pub), .c (.int .i64 vars)] 24), (5, .own [.c (.slice none 0 0), .c (.slice none 0 0), .c (.slice none 0 0)] 29), (7, .own [.sx 21 n, .sx 30 n, .c (.slice none 0 0)] 29), (21, .gr [.l (tabG plV n (fun i => (i, 0)))] 44 2), (30, .gr [.l C] 44 2)] }
theorem xz1 (gs : List GT) (pub vars : Int) (lgz : Int) (n : Nat) (hn : n ≤ 1000) (h0 : 0 < n) : Sound Try.prog 0 false (loopB Try.f9 1) (nxZ1 gs pub vars lgz n ).aa .normal (nxI1 gs pub vars lgz n (plV (0, 1)) 1).aa := by
  exact roundP_sound (P := Try.prog) (X := rulesM _) (env := []) trivial (n := 0) (os := (oL [(31, wT)])) (fb := 0) (rd := false) (c := (loopB Try.f9 1)) (k := 31) (I := nxZ1 gs pub vars lgz n ) (J := nxI1 gs pub vars lgz n (plV (0, 1)) 1) (τ := [(30, 42)]) (ex := .normal) (by kernel_rfl)
    (And.intro (show (((Value.int .i64 lgz) = (Value.int .i64 lgz)) ∧ (true = true ∧ 0 = 0) ∧ (true = true ∧ 0 = 0) ∧ (true = true ∧ 0 = 0) ∧ ((Value.int .i64 1) = (Value.int .i64 1)) ∧ ((Value.int .i64 1) = (Value.int .i64 1)) ∧ ((Value.int .i64 ((n : Nat) : Int)) = (Value.int .i64 ((n : Nat) : Int))) ∧ ((Value.int .i64 (IntKind.i64.wrap (0 + 1))) = (Value.int .i64 ((1 : Nat) : Int))) ∧ True) ∧ ((flat [.l (gsC gs)] = flat [.l (gsC gs)]) ∧ (24 = 24 ∧ ((true = true ∧ gs.length = gs.length) ∧ (true = true ∧ true = true ∧ [Value.int .i64 pub] = [Value.int .i64 pub]) ∧ (true = true ∧ true = true ∧ [Value.int .i64 vars] = [Value.int .i64 vars]) ∧ True)) ∧ (29 = 29 ∧ flat [Ch.c (.slice none 0 0), Ch.c (.slice none 0 0), Ch.c (.slice none 0 0)] = flat [Ch.c (.slice none 0 0), Ch.c (.slice none 0 0), Ch.c (.slice none 0 0)]) ∧ (29 = 29 ∧ ((true = true ∧ n = n) ∧ (true = true ∧ 1 = 1) ∧ (true = true ∧ true = true ∧ [Value.slice none 0 0] = [Value.slice none 0 0]) ∧ True)) ∧ ((44 = 44 ∧ 2 = 2) ∧ flat [.l (tabG plV n (fun i => (i, 0)))] = flat [.l (tabG plV n (fun i => (i, 0)))]) ∧ ((44 = 44 ∧ 2 = 2) ∧ flat [.c (.int .i64 0), .c (.int .i64 1)] = flat [.l (plV (0, 1))]) ∧ True) from ⟨⟨rfl, ⟨rfl, rfl⟩, ⟨rfl, rfl⟩, ⟨rfl, rfl⟩, rfl, rfl, rfl, rfl, trivial⟩, ⟨rfl, ⟨rfl, ⟨⟨rfl, rfl⟩, ⟨rfl, rfl, rfl⟩, ⟨rfl, rfl, rfl⟩, trivial⟩⟩, ⟨rfl, rfl⟩, ⟨rfl, ⟨⟨rfl, rfl⟩, ⟨rfl, rfl⟩, ⟨rfl, rfl, rfl⟩, trivial⟩⟩, ⟨⟨rfl, rfl⟩, rfl⟩, ⟨⟨rfl, rfl⟩, p1_flat 0 1⟩, trivial⟩⟩)
    (And.intro (show decide ((0 : Int) < ((n : Nat) : Int)) = true from decide_eq_true (by omega)) trivial))
theorem xr1 (gs : List GT) (pub vars : Int) (lgz : Int) (n : Nat) (hn : n ≤ 1000) (C : List Value) (i : Nat) (hi : i < n) (hC : C.length = i * 2) : Sound Try.prog 0 false (loopB Try.f9 1) (nxI1 gs pub vars lgz n C i).aa .normal (nxI1 gs pub vars lgz n (C ++ plV (i, 1)) (i + 1)).aa := by
  exact roundP_sound (P := Try.prog) (X := rulesM _) (env := []) trivial (n := 0) (os := (oL [(31, wT), (42, { ch := 0, hi := fun _ => 0, ex := 1 })])) (fb := 0) (rd := false) (c := (loopB Try.f9 1)) (k := 31) (I := nxI1 gs pub vars lgz n C i) (J := nxI1 gs pub vars lgz n (C ++ plV (i, 1)) (i + 1)) (τ := [(30, 42)]) (ex := .normal) (by kernel_rfl)
    (And.intro (show (((Value.int .i64 lgz) = (Value.int .i64 lgz)) ∧ (true = true ∧ 0 = 0) ∧ (true = true ∧ 0 = 0) ∧ (true = true ∧ 0 = 0) ∧ ((Value.int .i64 1) = (Value.int .i64 1)) ∧ ((Value.int .i64 1) = (Value.int .i64 1)) ∧ ((Value.int .i64 ((n : Nat) : Int)) = (Value.int .i64 ((n : Nat) : Int))) ∧ ((Value.int .i64 (IntKind.i64.wrap (((i : Nat) : Int) + 1))) = (Value.int .i64 (((i + 1) : Nat) : Int))) ∧ True) ∧ ((flat [.l (gsC gs)] = flat [.l (gsC gs)]) ∧ (24 = 24 ∧ ((true = true ∧ gs.length = gs.length) ∧ (true = true ∧ true = true ∧ [Value.int .i64 pub] = [Value.int .i64 pub]) ∧ (true = true ∧ true = true ∧ [Value.int .i64 vars] = [Value.int .i64 vars]) ∧ True)) ∧ (29 = 29 ∧ flat [Ch.c (.slice none 0 0), Ch.c (.slice none 0 0), Ch.c (.slice none 0 0)] = flat [Ch.c (.slice none 0 0), Ch.c (.slice none 0 0), Ch.c (.slice none 0 0)]) ∧ (29 = 29 ∧ ((true = true ∧ n = n) ∧ (true = true ∧ (i + 1) = (i + 1)) ∧ (true = true ∧ true = true ∧ [Value.slice none 0 0] = [Value.slice none 0 0]) ∧ True)) ∧ ((44 = 44 ∧ 2 = 2) ∧ flat [.l (tabG plV n (fun i => (i, 0)))] = flat [.l (tabG plV n (fun i => (i, 0)))]) ∧ ((44 = 44 ∧ 2 = 2) ∧ flat [.l C, .c (.int .i64 ((i : Nat) : Int)), .c (.int .i64 1)] = flat [.l (C ++ plV (i, 1))]) ∧ True) from ⟨⟨rfl, ⟨rfl, rfl⟩, ⟨rfl, rfl⟩, ⟨rfl, rfl⟩, rfl, rfl, rfl, by rw [r_next (by omega)], trivial⟩, ⟨rfl, ⟨rfl, ⟨⟨rfl, rfl⟩, ⟨rfl, rfl, rfl⟩, ⟨rfl, rfl, rfl⟩, trivial⟩⟩, ⟨rfl, rfl⟩, ⟨rfl, ⟨⟨rfl, rfl⟩, ⟨rfl, rfl⟩, ⟨rfl, rfl, rfl⟩, trivial⟩⟩, ⟨⟨rfl, rfl⟩, rfl⟩, ⟨⟨rfl, rfl⟩, p_flat C i 1⟩, trivial⟩⟩)
    (And.intro (show sizes [.l C] = i * 2 ∧ i + 1 ≤ 9223372036854775807 ∧ (i + 1) * 16 ≤ 140737488355328 ∧ True from ⟨by show C.length + 0 = i * 2; omega, by omega, by omega, trivial⟩)
    (And.intro (show decide (((i : Nat) : Int) < ((n : Nat) : Int)) = true from decide_eq_true (by omega)) trivial)))
theorem xe1 (gs : List GT) (pub vars : Int) (lgz : Int) (n : Nat) (C : List Value) : Sound Try.prog 0 false (loopB Try.f9 1) (nxI1 gs pub vars lgz n C n).aa (.exit 2) (nxE1 gs pub vars lgz n C).aa := by
  have hh := roundK_sound (P := Try.prog) (X := rulesM _) (env := []) trivial (n := 0) (os := (oL [(31, wF)])) (fb := 0) (rd := false) (c := (loopB Try.f9 1)) (k := 31) (I := nxI1 gs pub vars lgz n C n) (sk := [1, 2, 4, 6, 23]) (hk := [0, 4, 5, 7, 21, 30]) (lk := []) (ex := (.exit 2))
    (L := nxE1 gs pub vars lgz n C) (by kernel_rfl)
    (And.intro (show decide (((n : Nat) : Int) < ((n : Nat) : Int)) = false from decide_eq_false (by omega)) trivial)
  exact hh
theorem xa1 (gs : List GT) (pub vars : Int) (lgz : Int) (n : Nat) (hn : n ≤ 1000) (h0 : 0 < n) : Sound Try.prog 0 false (.loop (loopB Try.f9 1)) (nxZ1 gs pub vars lgz n ).aa (.exit 2) (nxE1 gs pub vars lgz n (tabG plV n (fun i => (i, 1)))).aa := by
  have hh := loop_ok (P := Try.prog) (fb := 0) (rd := false) (body := (loopB Try.f9 1)) (ex := .exit 2) (E := nxE1 gs pub vars lgz n (tabG plV n (fun i => (i, 1)))) (m := fun y : { i : Nat // i ≤ n } => n - y.val) (fun y => match y.val with | 0 => nxZ1 gs pub vars lgz n  | i + 1 => nxI1 gs pub vars lgz n (tabG plV (i + 1) (fun i => (i, 1))) (i + 1)) (by simp) (fun y => ?_) ⟨0, by omega⟩
  · exact hh
  obtain ⟨i, hi⟩ := y
  match i, hi with
  | 0, hi => exact .inl ⟨⟨1, by omega⟩, by show n - 1 < n - 0; omega, by
      have h1 := xz1 gs pub vars lgz n hn h0
      have e : tabG plV 1 (fun i => (i, 1)) = plV (0, 1) := by rw [tabG_succ]; rfl
      show Sound _ _ _ _ _ _ (nxI1 gs pub vars lgz n (tabG plV (0 + 1) (fun i => (i, 1))) (0 + 1)).aa
      rw [e]
      exact h1⟩
  | i + 1, hi =>
    by_cases e : i + 1 < n
    · have h1 := xr1 gs pub vars lgz n hn (tabG plV (i + 1) (fun i => (i, 1))) (i + 1) e (tabG_len plV plV_len _ _)
      rw [← tabG_succ plV (i + 1) (fun i => (i, 1))] at h1
      exact .inl ⟨⟨i + 1 + 1, e⟩, by show n - (i + 1 + 1) < n - (i + 1); omega, h1⟩
    · have e : i + 1 = n := by omega
      refine .inr ?_
      show Sound _ _ _ _ (nxI1 gs pub vars lgz n (tabG plV (i + 1) (fun i => (i, 1))) (i + 1)).aa _ _
      rw [e]
      exact xe1 gs pub vars lgz n _
def nxZ2 (gs : List GT) (pub vars : Int) (lgz : Int) (n : Nat) : LState := { n := 81, sl := [(1, .v (.int .i64 (lgz))), (2, .p 4 0), (4, .p 5 0), (6, .p 7 0), (23, .v (.int .i64 (2))), (8, .v (.int .i64 (2))), (27, .v (.int .i64 (((n : Nat) : Int)))), (28, .v (.int .i64 (0)))], hp := [(0, .rz [.l (gsC gs)]), (4, .own [.sz 0 gs.length, .c (.int .i64 pub), .c (.int .i64 vars)] 24), (5, .own [.c (.slice none 0 0), .c (.slice none 0 0), .c (.slice none 0 0)] 29), (7, .own [.sx 21 n, .sx 30 n, .c (.slice none 0 0)] 29), (21, .gr [.l (tabG plV n (fun i => (i, 0)))] 44 2), (30, .gr [.l (tabG plV n (fun i => (i, 1)))] 44 2)] }
def nxI2 (gs : List GT) (pub vars : Int) (lgz : Int) (n : Nat) (C : List Value) (i : Nat) : LState := { n := 81, sl := [(1, .v (.int .i64 (lgz))), (2, .p 4 0), (4, .p 5 0), (6, .p 7 0), (23, .v (.int .i64 (2))), (8, .v (.int .i64 (2))), (27, .v (.int .i64 (((n : Nat) : Int)))), (28, .v (.int .i64 ((i : Nat) : Int)))], hp := [(0, .rz [.l (gsC gs)]), (4, .own [.sz 0 gs.length, .c (.int .i64 pub), .c (.int .i64 vars)] 24), (5, .own [.c (.slice none 0 0), .c (.slice none 0 0), .c (.slice none 0 0)] 29), (7, .own [.sx 21 n, .sx 30 n, .sx 39 i] 29), (21, .gr [.l (tabG plV n (fun i => (i, 0)))] 44 2), (30, .gr [.l (tabG plV n (fun i => (i, 1)))] 44 2), (39, .gr [.l C] 44 2)] }
def nxE2 (gs : List GT) (pub vars : Int) (lgz : Int) (n : Nat) (C : List Value) : LState := { n := 81, sl := [(1, .v (.int .i64 (lgz))), (2, .p 4 0), (4, .p 5 0), (6, .p 7 0), (23, .v (.int .i64 (2)))], hp := [(0, .rz [.l (gsC gs)]), (4, .own [.sz 0 gs.length, .c (.int .i64 pub), .c (.int .i64 vars)] 24), (5, .own [.c (.slice none 0 0), .c (.slice none 0 0), .c (.slice none 0 0)] 29), (7, .own [.sx 21 n, .sx 30 n, .sx 39 n] 29), (21, .gr [.l (tabG plV n (fun i => (i, 0)))] 44 2), (30, .gr [.l (tabG plV n (fun i => (i, 1)))] 44 2), (39, .gr [.l C] 44 2)] }
theorem xz2 (gs : List GT) (pub vars : Int) (lgz : Int) (n : Nat) (hn : n ≤ 1000) (h0 : 0 < n) : Sound Try.prog 0 false (loopB Try.f9 1) (nxZ2 gs pub vars lgz n ).aa .normal (nxI2 gs pub vars lgz n (plV (0, 2)) 1).aa := by
  exact roundP_sound (P := Try.prog) (X := rulesM _) (env := []) trivial (n := 0) (os := (oL [(40, wT)])) (fb := 0) (rd := false) (c := (loopB Try.f9 1)) (k := 40) (I := nxZ2 gs pub vars lgz n ) (J := nxI2 gs pub vars lgz n (plV (0, 2)) 1) (τ := [(39, 51)]) (ex := .normal) (by kernel_rfl)
    (And.intro (show (((Value.int .i64 lgz) = (Value.int .i64 lgz)) ∧ (true = true ∧ 0 = 0) ∧ (true = true ∧ 0 = 0) ∧ (true = true ∧ 0 = 0) ∧ ((Value.int .i64 2) = (Value.int .i64 2)) ∧ ((Value.int .i64 2) = (Value.int .i64 2)) ∧ ((Value.int .i64 ((n : Nat) : Int)) = (Value.int .i64 ((n : Nat) : Int))) ∧ ((Value.int .i64 (IntKind.i64.wrap (0 + 1))) = (Value.int .i64 ((1 : Nat) : Int))) ∧ True) ∧ ((flat [.l (gsC gs)] = flat [.l (gsC gs)]) ∧ (24 = 24 ∧ ((true = true ∧ gs.length = gs.length) ∧ (true = true ∧ true = true ∧ [Value.int .i64 pub] = [Value.int .i64 pub]) ∧ (true = true ∧ true = true ∧ [Value.int .i64 vars] = [Value.int .i64 vars]) ∧ True)) ∧ (29 = 29 ∧ flat [Ch.c (.slice none 0 0), Ch.c (.slice none 0 0), Ch.c (.slice none 0 0)] = flat [Ch.c (.slice none 0 0), Ch.c (.slice none 0 0), Ch.c (.slice none 0 0)]) ∧ (29 = 29 ∧ ((true = true ∧ n = n) ∧ (true = true ∧ n = n) ∧ (true = true ∧ 1 = 1) ∧ True)) ∧ ((44 = 44 ∧ 2 = 2) ∧ flat [.l (tabG plV n (fun i => (i, 0)))] = flat [.l (tabG plV n (fun i => (i, 0)))]) ∧ ((44 = 44 ∧ 2 = 2) ∧ flat [.l (tabG plV n (fun i => (i, 1)))] = flat [.l (tabG plV n (fun i => (i, 1)))]) ∧ ((44 = 44 ∧ 2 = 2) ∧ flat [.c (.int .i64 0), .c (.int .i64 2)] = flat [.l (plV (0, 2))]) ∧ True) from ⟨⟨rfl, ⟨rfl, rfl⟩, ⟨rfl, rfl⟩, ⟨rfl, rfl⟩, rfl, rfl, rfl, rfl, trivial⟩, ⟨rfl, ⟨rfl, ⟨⟨rfl, rfl⟩, ⟨rfl, rfl, rfl⟩, ⟨rfl, rfl, rfl⟩, trivial⟩⟩, ⟨rfl, rfl⟩, ⟨rfl, ⟨⟨rfl, rfl⟩, ⟨rfl, rfl⟩, ⟨rfl, rfl⟩, trivial⟩⟩, ⟨⟨rfl, rfl⟩, rfl⟩, ⟨⟨rfl, rfl⟩, rfl⟩, ⟨⟨rfl, rfl⟩, p1_flat 0 2⟩, trivial⟩⟩)
    (And.intro (show decide ((0 : Int) < ((n : Nat) : Int)) = true from decide_eq_true (by omega)) trivial))
theorem xr2 (gs : List GT) (pub vars : Int) (lgz : Int) (n : Nat) (hn : n ≤ 1000) (C : List Value) (i : Nat) (hi : i < n) (hC : C.length = i * 2) : Sound Try.prog 0 false (loopB Try.f9 1) (nxI2 gs pub vars lgz n C i).aa .normal (nxI2 gs pub vars lgz n (C ++ plV (i, 2)) (i + 1)).aa := by
  exact roundP_sound (P := Try.prog) (X := rulesM _) (env := []) trivial (n := 0) (os := (oL [(40, wT), (51, { ch := 0, hi := fun _ => 0, ex := 1 })])) (fb := 0) (rd := false) (c := (loopB Try.f9 1)) (k := 40) (I := nxI2 gs pub vars lgz n C i) (J := nxI2 gs pub vars lgz n (C ++ plV (i, 2)) (i + 1)) (τ := [(39, 51)]) (ex := .normal) (by kernel_rfl)
    (And.intro (show (((Value.int .i64 lgz) = (Value.int .i64 lgz)) ∧ (true = true ∧ 0 = 0) ∧ (true = true ∧ 0 = 0) ∧ (true = true ∧ 0 = 0) ∧ ((Value.int .i64 2) = (Value.int .i64 2)) ∧ ((Value.int .i64 2) = (Value.int .i64 2)) ∧ ((Value.int .i64 ((n : Nat) : Int)) = (Value.int .i64 ((n : Nat) : Int))) ∧ ((Value.int .i64 (IntKind.i64.wrap (((i : Nat) : Int) + 1))) = (Value.int .i64 (((i + 1) : Nat) : Int))) ∧ True) ∧ ((flat [.l (gsC gs)] = flat [.l (gsC gs)]) ∧ (24 = 24 ∧ ((true = true ∧ gs.length = gs.length) ∧ (true = true ∧ true = true ∧ [Value.int .i64 pub] = [Value.int .i64 pub]) ∧ (true = true ∧ true = true ∧ [Value.int .i64 vars] = [Value.int .i64 vars]) ∧ True)) ∧ (29 = 29 ∧ flat [Ch.c (.slice none 0 0), Ch.c (.slice none 0 0), Ch.c (.slice none 0 0)] = flat [Ch.c (.slice none 0 0), Ch.c (.slice none 0 0), Ch.c (.slice none 0 0)]) ∧ (29 = 29 ∧ ((true = true ∧ n = n) ∧ (true = true ∧ n = n) ∧ (true = true ∧ (i + 1) = (i + 1)) ∧ True)) ∧ ((44 = 44 ∧ 2 = 2) ∧ flat [.l (tabG plV n (fun i => (i, 0)))] = flat [.l (tabG plV n (fun i => (i, 0)))]) ∧ ((44 = 44 ∧ 2 = 2) ∧ flat [.l (tabG plV n (fun i => (i, 1)))] = flat [.l (tabG plV n (fun i => (i, 1)))]) ∧ ((44 = 44 ∧ 2 = 2) ∧ flat [.l C, .c (.int .i64 ((i : Nat) : Int)), .c (.int .i64 2)] = flat [.l (C ++ plV (i, 2))]) ∧ True) from ⟨⟨rfl, ⟨rfl, rfl⟩, ⟨rfl, rfl⟩, ⟨rfl, rfl⟩, rfl, rfl, rfl, by rw [r_next (by omega)], trivial⟩, ⟨rfl, ⟨rfl, ⟨⟨rfl, rfl⟩, ⟨rfl, rfl, rfl⟩, ⟨rfl, rfl, rfl⟩, trivial⟩⟩, ⟨rfl, rfl⟩, ⟨rfl, ⟨⟨rfl, rfl⟩, ⟨rfl, rfl⟩, ⟨rfl, rfl⟩, trivial⟩⟩, ⟨⟨rfl, rfl⟩, rfl⟩, ⟨⟨rfl, rfl⟩, rfl⟩, ⟨⟨rfl, rfl⟩, p_flat C i 2⟩, trivial⟩⟩)
    (And.intro (show sizes [.l C] = i * 2 ∧ i + 1 ≤ 9223372036854775807 ∧ (i + 1) * 16 ≤ 140737488355328 ∧ True from ⟨by show C.length + 0 = i * 2; omega, by omega, by omega, trivial⟩)
    (And.intro (show decide (((i : Nat) : Int) < ((n : Nat) : Int)) = true from decide_eq_true (by omega)) trivial)))
theorem xe2 (gs : List GT) (pub vars : Int) (lgz : Int) (n : Nat) (C : List Value) : Sound Try.prog 0 false (loopB Try.f9 1) (nxI2 gs pub vars lgz n C n).aa (.exit 2) (nxE2 gs pub vars lgz n C).aa := by
  have hh := roundK_sound (P := Try.prog) (X := rulesM _) (env := []) trivial (n := 0) (os := (oL [(40, wF)])) (fb := 0) (rd := false) (c := (loopB Try.f9 1)) (k := 40) (I := nxI2 gs pub vars lgz n C n) (sk := [1, 2, 4, 6, 23]) (hk := [0, 4, 5, 7, 21, 30, 39]) (lk := []) (ex := (.exit 2))
    (L := nxE2 gs pub vars lgz n C) (by kernel_rfl)
    (And.intro (show decide (((n : Nat) : Int) < ((n : Nat) : Int)) = false from decide_eq_false (by omega)) trivial)
  exact hh
theorem xa2 (gs : List GT) (pub vars : Int) (lgz : Int) (n : Nat) (hn : n ≤ 1000) (h0 : 0 < n) : Sound Try.prog 0 false (.loop (loopB Try.f9 1)) (nxZ2 gs pub vars lgz n ).aa (.exit 2) (nxE2 gs pub vars lgz n (tabG plV n (fun i => (i, 2)))).aa := by
  have hh := loop_ok (P := Try.prog) (fb := 0) (rd := false) (body := (loopB Try.f9 1)) (ex := .exit 2) (E := nxE2 gs pub vars lgz n (tabG plV n (fun i => (i, 2)))) (m := fun y : { i : Nat // i ≤ n } => n - y.val) (fun y => match y.val with | 0 => nxZ2 gs pub vars lgz n  | i + 1 => nxI2 gs pub vars lgz n (tabG plV (i + 1) (fun i => (i, 2))) (i + 1)) (by simp) (fun y => ?_) ⟨0, by omega⟩
  · exact hh
  obtain ⟨i, hi⟩ := y
  match i, hi with
  | 0, hi => exact .inl ⟨⟨1, by omega⟩, by show n - 1 < n - 0; omega, by
      have h1 := xz2 gs pub vars lgz n hn h0
      have e : tabG plV 1 (fun i => (i, 2)) = plV (0, 2) := by rw [tabG_succ]; rfl
      show Sound _ _ _ _ _ _ (nxI2 gs pub vars lgz n (tabG plV (0 + 1) (fun i => (i, 2))) (0 + 1)).aa
      rw [e]
      exact h1⟩
  | i + 1, hi =>
    by_cases e : i + 1 < n
    · have h1 := xr2 gs pub vars lgz n hn (tabG plV (i + 1) (fun i => (i, 2))) (i + 1) e (tabG_len plV plV_len _ _)
      rw [← tabG_succ plV (i + 1) (fun i => (i, 2))] at h1
      exact .inl ⟨⟨i + 1 + 1, e⟩, by show n - (i + 1 + 1) < n - (i + 1); omega, h1⟩
    · have e : i + 1 = n := by omega
      refine .inr ?_
      show Sound _ _ _ _ (nxI2 gs pub vars lgz n (tabG plV (i + 1) (fun i => (i, 2))) (i + 1)).aa _ _
      rw [e]
      exact xe2 gs pub vars lgz n _
end Go.Proofs.Ytoigbjimhcgolaa

/- sigma.Next: each place of a variable gets the one behind it. -/
set_option linter.unusedSimpArgs false
set_option linter.unusedVariables false
namespace Go.Proofs.Ytoigbjimhcgolaa
open Go.Ev Go.RowKit
theorem zero_run {P : Program} {t : TypeId} {i : TypeInfo} {z : Value} (h : P.info? t = some i) (hz : i.zero = some z) (w : World) : (zeroValue t).run P w = .ok z w := by
  simp [zeroValue, typeInfo, h, hz]
theorem place_zero (w : World) : (zeroValue 44).run Try.prog w = .ok (.agg #[.int .i64 0, .int .i64 0]) w :=
  zero_run (i := (Try.prog.info? 44).get!) (by kernel_rfl) (by kernel_rfl) w
theorem kI_ok : KeyOK Try.prog 3 kI := keyOK_int (q := .i64) (by kernel_rfl)
theorem looks_yes (l : List (Int × (Nat × Nat))) (hd : DistL l) (v : Int) (p : Nat × Nat) (h : lookM l v = some p) : Looks Try.prog 64 (mapO kI vI l) (kI v) true (.tuple #[vI p, .bool true]) :=
  looks_map (T := 64) (kt := 3) (et := 44) (by kernel_rfl) kI_ok l hd v p h true
theorem looks_one (l : List (Int × (Nat × Nat))) (hd : DistL l) (v : Int) (p : Nat × Nat) (h : lookM l v = some p) : Looks Try.prog 64 (mapO kI vI l) (kI v) false (vI p) :=
  looks_map (T := 64) (kt := 3) (et := 44) (by kernel_rfl) kI_ok l hd v p h false
theorem looks_nil (l : List (Int × (Nat × Nat))) (hd : DistL l) (v : Int) (h : lookM l v = none) : Looks Try.prog 64 (mapO kI vI l) (kI v) true (.tuple #[.agg #[.int .i64 0, .int .i64 0], .bool false]) :=
  looks_no (T := 64) (kt := 3) (et := 44) (by kernel_rfl) kI_ok l v h _ place_zero hd
theorem puts_at (l : List (Int × (Nat × Nat))) (hd : DistL l) (v : Int) (p : Nat × Nat) : Puts Try.prog 64 (mapO kI vI l) (kI v) (vI p) (mapO kI vI (putL l v p)) :=
  puts_map (T := 64) (kt := 3) (et := 44) (by kernel_rfl) kI_ok l hd v p
def neI (r : Array Tmp × Code × Code) (gs : List GT) (pub vars : Int) (n : Nat) (A0 A1 A2 : List Value) (l1 l2 : List (Int × (Nat × Nat))) (w : Int) (z : Int) : LState := { n := 35, sl := [(0, .yd 56), (1, .p 51 0), (3, .v (.int .i64 (w))), (7, .v (.int .i64 (w))), (11, .sz 0 gs.length), (12, .v (.int .i64 (((gs.length : Nat) : Int)))), (13, .v (.int .i64 (z)))], hp := [(0, .rz [.l (gsC gs)]), (4, .own [.sz 0 gs.length, .c (.int .i64 pub), .c (.int .i64 vars)] 24), (5, .own [.c (.slice none 0 0), .c (.slice none 0 0), .c (.slice none 0 0)] 29), (7, .own [.sx 21 n, .sx 30 n, .sx 39 n] 29), (21, .gr [.l A0] 44 2), (30, .gr [.l A1] 44 2), (39, .gr [.l A2] 44 2), (43, .ob (mapO kI vI l1)), (44, .ob (mapO kI vI l2)), (45, .own [.mr 43] 64), (46, .own [.mr 44] 64), (51, .own [.sz 0 gs.length, .c (.int .i64 pub), .c (.int .i64 vars)] 24), (55, .dfd), (56, .lp .ready none ⟨81, .any, trOf [(6, .p 7 0), (10, .p 45 0), (11, .p 46 0)]⟩ r.1 r.2.1 r.2.2 55)] }
def neE (r : Array Tmp × Code × Code) (gs : List GT) (pub vars : Int) (n : Nat) (A0 A1 A2 : List Value) (l1 l2 : List (Int × (Nat × Nat))) (w : Int) : LState := { n := 35, sl := [(0, .yd 56), (1, .p 51 0), (7, .v (.int .i64 (w)))], hp := [(0, .rz [.l (gsC gs)]), (4, .own [.sz 0 gs.length, .c (.int .i64 pub), .c (.int .i64 vars)] 24), (5, .own [.c (.slice none 0 0), .c (.slice none 0 0), .c (.slice none 0 0)] 29), (7, .own [.sx 21 n, .sx 30 n, .sx 39 n] 29), (21, .gr [.l A0] 44 2), (30, .gr [.l A1] 44 2), (39, .gr [.l A2] 44 2), (43, .ob (mapO kI vI l1)), (44, .ob (mapO kI vI l2)), (45, .own [.mr 43] 64), (46, .own [.mr 44] 64), (51, .own [.sz 0 gs.length, .c (.int .i64 pub), .c (.int .i64 vars)] 24), (55, .dfd), (56, .lp .ready none ⟨81, .any, trOf [(6, .p 7 0), (10, .p 45 0), (11, .p 46 0)]⟩ r.1 r.2.1 r.2.2 55)] }
theorem ng0 (gs : List GT) (pub vars : Int) (n : Nat) (A0 A1 A2 : List Value) (l1 l2 : List (Int × (Nat × Nat))) (hm : gs.length ≤ 1000) (i : Nat) (g : GT) (hg : gs[i]? = some g) (h : g.w0 < 0) : Sound Try.prog 57 false (loopB Try.f44 1) (neI (rangeB Try.f9 0) gs pub vars n A0 A1 A2 l1 l2 0 ((i : Nat) : Int)).aa .normal (neI (rangeB Try.f9 0) gs pub vars n A0 A1 A2 l1 l2 0 ((i + 1 : Nat) : Int)).aa := by
  have hi := glt hg
  have hh := roundK_sound (P := Try.prog) (X := rulesM _) (env := []) trivial (n := 2) (os := (oL [(66, wT), (68, rO 14 i), (69, { ch := 0, hi := fun _ => 0, ru := 8, cs := fun _ => gP g }), (79, wF)])) (fb := 57) (rd := false) (c := (loopB Try.f44 1)) (k := 66) (I := neI (rangeB Try.f9 0) gs pub vars n A0 A1 A2 l1 l2 0 ((i : Nat) : Int)) (sk := [0, 1, 3, 7, 11, 12, 13]) (hk := [0, 4, 5, 7, 21, 30, 39, 43, 44, 45, 46, 51, 55, 56]) (lk := [(56, [6, 10, 11])]) (ex := .normal)
    (L := neI (rangeB Try.f9 0) gs pub vars n A0 A1 A2 l1 l2 0 (IntKind.i64.wrap (((i : Nat) : Int) + 1))) (by kernel_rfl)
    (And.intro (show decide (g.w0 ≥ 0) = false from decide_eq_false (by omega))
    (And.intro (gate_at gs i g hg)
    (And.intro (show ((i : Nat) : Int) = ((i : Nat) : Int) ∧ i < gs.length from ⟨rfl, hi⟩)
    (And.intro (show decide (((i : Nat) : Int) < ((gs.length : Nat) : Int)) = true from decide_eq_true (by omega)) trivial))))
  rw [r_next (by omega)] at hh
  exact hh
theorem nn0 (gs : List GT) (pub vars : Int) (n : Nat) (A0 A1 A2 : List Value) (l1 l2 : List (Int × (Nat × Nat))) (hm : gs.length ≤ 1000) (i : Nat) (g : GT) (hg : gs[i]? = some g) (h : g.w0 ≥ 0) (hin : i < n) (d1 : DistL l1) (d2 : DistL l2) (hl : lookM l2 g.w0 = none) (B : List Value) (hs : stO 2 A0 B i (flat [.c (.int .i64 ((i : Nat) : Int)), .c (.int .i64 0)])) : Sound Try.prog 57 false (loopB Try.f44 1) (neI (rangeB Try.f9 0) gs pub vars n A0 A1 A2 l1 l2 0 ((i : Nat) : Int)).aa .normal (neI (rangeB Try.f9 0) gs pub vars n B A1 A2 (putL l1 g.w0 (i, 0)) (putL l2 g.w0 (i, 0)) 0 ((i + 1 : Nat) : Int)).aa := by
  have hi := glt hg
  have hh := roundK_sound (P := Try.prog) (X := rulesM _) (env := []) trivial (n := 2) (os := (oL [(66, wT), (68, rO 14 i), (69, { ch := 0, hi := fun _ => 0, ru := 8, cs := fun _ => gP g }), (79, wT), (92, { ch := 0, hi := fun _ => 0, ru := 16, av := fun _ => .tp [.ag [.c (.int .i64 0), .c (.int .i64 0)], .v (.bool false)] }), (103, { ch := 0, hi := fun _ => 0, ex := 10, lp := some { I := { n := 0, sl := [], hp := [] }, ex := .ret, E := { n := 0, sl := [], hp := [(0, .ob (mapO kI vI (putL l1 g.w0 (i, 0))))] }, fr := 0 } }), (107, { ch := 0, hi := fun _ => 0, ex := 10, lp := some { I := { n := 0, sl := [], hp := [] }, ex := .ret, E := { n := 0, sl := [], hp := [(0, .ob (mapO kI vI (putL l2 g.w0 (i, 0))))] }, fr := 0 } }), (116, { ch := 0, hi := fun _ => 0, ru := 16, av := fun _ => .ag [.c (.int .i64 ((i : Nat) : Int)), .c (.int .i64 0)] }), (117, rO 9 i), (118, { ch := 0, hi := fun _ => 0, ex := 5, cs := fun _ => [.l B] })])) (fb := 57) (rd := false) (c := (loopB Try.f44 1)) (k := 66) (I := neI (rangeB Try.f9 0) gs pub vars n A0 A1 A2 l1 l2 0 ((i : Nat) : Int)) (sk := [0, 1, 3, 7, 11, 12, 13]) (hk := [0, 4, 5, 7, 21, 30, 39, 43, 44, 45, 46, 51, 55, 56]) (lk := [(56, [6, 10, 11])]) (ex := .normal)
    (L := neI (rangeB Try.f9 0) gs pub vars n B A1 A2 (putL l1 g.w0 (i, 0)) (putL l2 g.w0 (i, 0)) 0 (IntKind.i64.wrap (((i : Nat) : Int) + 1))) (by kernel_rfl)
    (And.intro (stO_cond (p := [.c (.int .i64 ((i : Nat) : Int)), .c (.int .i64 0)]) hs rfl)
    (And.intro (show ((i : Nat) : Int) = ((i : Nat) : Int) ∧ i < n from ⟨rfl, hin⟩)
    (And.intro (looks_one (putL l1 g.w0 (i, 0)) (putL_dist l1 _ _ d1) g.w0 (i, 0) (by rw [lookM_put, if_pos rfl]))
    (And.intro (puts_at l2 d2 g.w0 (i, 0))
    (And.intro (puts_at l1 d1 g.w0 (i, 0))
    (And.intro (looks_nil l2 d2 g.w0 hl)
    (And.intro (show decide (g.w0 ≥ 0) = true from decide_eq_true h)
    (And.intro (gate_at gs i g hg)
    (And.intro (show ((i : Nat) : Int) = ((i : Nat) : Int) ∧ i < gs.length from ⟨rfl, hi⟩)
    (And.intro (show decide (((i : Nat) : Int) < ((gs.length : Nat) : Int)) = true from decide_eq_true (by omega)) trivial))))))))))
  rw [r_next (by omega)] at hh
  exact hh
theorem no00 (gs : List GT) (pub vars : Int) (n : Nat) (A0 A1 A2 : List Value) (l1 l2 : List (Int × (Nat × Nat))) (hm : gs.length ≤ 1000) (i : Nat) (g : GT) (hg : gs[i]? = some g) (h : g.w0 ≥ 0) (hin : i < n) (d1 : DistL l1) (d2 : DistL l2) (ro : Nat) (hro : ro < n) (fp : Nat × Nat) (hl : lookM l2 g.w0 = some (ro, 0)) (hf : lookM l1 g.w0 = some fp) (B1 B2 : List Value) (hs1 : stO 2 A0 B1 ro (flat [.c (.int .i64 ((i : Nat) : Int)), .c (.int .i64 0)])) (hs2 : stO 2 B1 B2 i (flat [.c (.int .i64 ((fp.1 : Nat) : Int)), .c (.int .i64 ((fp.2 : Nat) : Int))])) : Sound Try.prog 57 false (loopB Try.f44 1) (neI (rangeB Try.f9 0) gs pub vars n A0 A1 A2 l1 l2 0 ((i : Nat) : Int)).aa .normal (neI (rangeB Try.f9 0) gs pub vars n B2 A1 A2 l1 (putL l2 g.w0 (i, 0)) 0 ((i + 1 : Nat) : Int)).aa := by
  have hi := glt hg
  have hh := roundK_sound (P := Try.prog) (X := rulesM _) (env := []) trivial (n := 2) (os := (oL [(66, wT), (68, rO 14 i), (69, { ch := 0, hi := fun _ => 0, ru := 8, cs := fun _ => gP g }), (79, wT), (92, { ch := 0, hi := fun _ => 0, ru := 16, av := fun _ => .tp [.ag [.c (.int .i64 ((ro : Nat) : Int)), .c (.int .i64 0)], .v (.bool true)] }), (107, rO 9 ro), (108, { ch := 0, hi := fun _ => 0, ex := 5, cs := fun _ => [.l B1] }), (112, { ch := 0, hi := fun _ => 0, ex := 10, lp := some { I := { n := 0, sl := [], hp := [] }, ex := .ret, E := { n := 0, sl := [], hp := [(0, .ob (mapO kI vI (putL l2 g.w0 (i, 0))))] }, fr := 0 } }), (121, { ch := 0, hi := fun _ => 0, ru := 16, av := fun _ => .ag [.c (.int .i64 ((fp.1 : Nat) : Int)), .c (.int .i64 ((fp.2 : Nat) : Int))] }), (122, rO 9 i), (123, { ch := 0, hi := fun _ => 0, ex := 5, cs := fun _ => [.l B2] })])) (fb := 57) (rd := false) (c := (loopB Try.f44 1)) (k := 66) (I := neI (rangeB Try.f9 0) gs pub vars n A0 A1 A2 l1 l2 0 ((i : Nat) : Int)) (sk := [0, 1, 3, 7, 11, 12, 13]) (hk := [0, 4, 5, 7, 21, 30, 39, 43, 44, 45, 46, 51, 55, 56]) (lk := [(56, [6, 10, 11])]) (ex := .normal)
    (L := neI (rangeB Try.f9 0) gs pub vars n B2 A1 A2 l1 (putL l2 g.w0 (i, 0)) 0 (IntKind.i64.wrap (((i : Nat) : Int) + 1))) (by kernel_rfl)
    (And.intro (stO_cond (p := [.c (.int .i64 ((fp.1 : Nat) : Int)), .c (.int .i64 ((fp.2 : Nat) : Int))]) hs2 rfl)
    (And.intro (show ((i : Nat) : Int) = ((i : Nat) : Int) ∧ i < n from ⟨rfl, hin⟩)
    (And.intro (looks_one l1 d1 g.w0 fp hf)
    (And.intro (puts_at l2 d2 g.w0 (i, 0))
    (And.intro (stO_cond (p := [.c (.int .i64 ((i : Nat) : Int)), .c (.int .i64 0)]) hs1 rfl)
    (And.intro (show ((ro : Nat) : Int) = ((ro : Nat) : Int) ∧ ro < n from ⟨rfl, hro⟩)
    (And.intro (looks_yes l2 d2 g.w0 (ro, 0) hl)
    (And.intro (show decide (g.w0 ≥ 0) = true from decide_eq_true h)
    (And.intro (gate_at gs i g hg)
    (And.intro (show ((i : Nat) : Int) = ((i : Nat) : Int) ∧ i < gs.length from ⟨rfl, hi⟩)
    (And.intro (show decide (((i : Nat) : Int) < ((gs.length : Nat) : Int)) = true from decide_eq_true (by omega)) trivial)))))))))))
  rw [r_next (by omega)] at hh
  exact hh
theorem no01 (gs : List GT) (pub vars : Int) (n : Nat) (A0 A1 A2 : List Value) (l1 l2 : List (Int × (Nat × Nat))) (hm : gs.length ≤ 1000) (i : Nat) (g : GT) (hg : gs[i]? = some g) (h : g.w0 ≥ 0) (hin : i < n) (d1 : DistL l1) (d2 : DistL l2) (ro : Nat) (hro : ro < n) (fp : Nat × Nat) (hl : lookM l2 g.w0 = some (ro, 1)) (hf : lookM l1 g.w0 = some fp) (B1 B2 : List Value) (hs1 : stO 2 A1 B1 ro (flat [.c (.int .i64 ((i : Nat) : Int)), .c (.int .i64 0)])) (hs2 : stO 2 A0 B2 i (flat [.c (.int .i64 ((fp.1 : Nat) : Int)), .c (.int .i64 ((fp.2 : Nat) : Int))])) : Sound Try.prog 57 false (loopB Try.f44 1) (neI (rangeB Try.f9 0) gs pub vars n A0 A1 A2 l1 l2 0 ((i : Nat) : Int)).aa .normal (neI (rangeB Try.f9 0) gs pub vars n B2 B1 A2 l1 (putL l2 g.w0 (i, 0)) 0 ((i + 1 : Nat) : Int)).aa := by
  have hi := glt hg
  have hh := roundK_sound (P := Try.prog) (X := rulesM _) (env := []) trivial (n := 2) (os := (oL [(66, wT), (68, rO 14 i), (69, { ch := 0, hi := fun _ => 0, ru := 8, cs := fun _ => gP g }), (79, wT), (92, { ch := 0, hi := fun _ => 0, ru := 16, av := fun _ => .tp [.ag [.c (.int .i64 ((ro : Nat) : Int)), .c (.int .i64 1)], .v (.bool true)] }), (107, rO 9 ro), (108, { ch := 0, hi := fun _ => 0, ex := 5, cs := fun _ => [.l B1] }), (112, { ch := 0, hi := fun _ => 0, ex := 10, lp := some { I := { n := 0, sl := [], hp := [] }, ex := .ret, E := { n := 0, sl := [], hp := [(0, .ob (mapO kI vI (putL l2 g.w0 (i, 0))))] }, fr := 0 } }), (121, { ch := 0, hi := fun _ => 0, ru := 16, av := fun _ => .ag [.c (.int .i64 ((fp.1 : Nat) : Int)), .c (.int .i64 ((fp.2 : Nat) : Int))] }), (122, rO 9 i), (123, { ch := 0, hi := fun _ => 0, ex := 5, cs := fun _ => [.l B2] })])) (fb := 57) (rd := false) (c := (loopB Try.f44 1)) (k := 66) (I := neI (rangeB Try.f9 0) gs pub vars n A0 A1 A2 l1 l2 0 ((i : Nat) : Int)) (sk := [0, 1, 3, 7, 11, 12, 13]) (hk := [0, 4, 5, 7, 21, 30, 39, 43, 44, 45, 46, 51, 55, 56]) (lk := [(56, [6, 10, 11])]) (ex := .normal)
    (L := neI (rangeB Try.f9 0) gs pub vars n B2 B1 A2 l1 (putL l2 g.w0 (i, 0)) 0 (IntKind.i64.wrap (((i : Nat) : Int) + 1))) (by kernel_rfl)
    (And.intro (stO_cond (p := [.c (.int .i64 ((fp.1 : Nat) : Int)), .c (.int .i64 ((fp.2 : Nat) : Int))]) hs2 rfl)
    (And.intro (show ((i : Nat) : Int) = ((i : Nat) : Int) ∧ i < n from ⟨rfl, hin⟩)
    (And.intro (looks_one l1 d1 g.w0 fp hf)
    (And.intro (puts_at l2 d2 g.w0 (i, 0))
    (And.intro (stO_cond (p := [.c (.int .i64 ((i : Nat) : Int)), .c (.int .i64 0)]) hs1 rfl)
    (And.intro (show ((ro : Nat) : Int) = ((ro : Nat) : Int) ∧ ro < n from ⟨rfl, hro⟩)
    (And.intro (looks_yes l2 d2 g.w0 (ro, 1) hl)
    (And.intro (show decide (g.w0 ≥ 0) = true from decide_eq_true h)
    (And.intro (gate_at gs i g hg)
    (And.intro (show ((i : Nat) : Int) = ((i : Nat) : Int) ∧ i < gs.length from ⟨rfl, hi⟩)
    (And.intro (show decide (((i : Nat) : Int) < ((gs.length : Nat) : Int)) = true from decide_eq_true (by omega)) trivial)))))))))))
  rw [r_next (by omega)] at hh
  exact hh
theorem no02 (gs : List GT) (pub vars : Int) (n : Nat) (A0 A1 A2 : List Value) (l1 l2 : List (Int × (Nat × Nat))) (hm : gs.length ≤ 1000) (i : Nat) (g : GT) (hg : gs[i]? = some g) (h : g.w0 ≥ 0) (hin : i < n) (d1 : DistL l1) (d2 : DistL l2) (ro : Nat) (hro : ro < n) (fp : Nat × Nat) (hl : lookM l2 g.w0 = some (ro, 2)) (hf : lookM l1 g.w0 = some fp) (B1 B2 : List Value) (hs1 : stO 2 A2 B1 ro (flat [.c (.int .i64 ((i : Nat) : Int)), .c (.int .i64 0)])) (hs2 : stO 2 A0 B2 i (flat [.c (.int .i64 ((fp.1 : Nat) : Int)), .c (.int .i64 ((fp.2 : Nat) : Int))])) : Sound Try.prog 57 false (loopB Try.f44 1) (neI (rangeB Try.f9 0) gs pub vars n A0 A1 A2 l1 l2 0 ((i : Nat) : Int)).aa .normal (neI (rangeB Try.f9 0) gs pub vars n B2 A1 B1 l1 (putL l2 g.w0 (i, 0)) 0 ((i + 1 : Nat) : Int)).aa := by
  have hi := glt hg
  have hh := roundK_sound (P := Try.prog) (X := rulesM _) (env := []) trivial (n := 2) (os := (oL [(66, wT), (68, rO 14 i), (69, { ch := 0, hi := fun _ => 0, ru := 8, cs := fun _ => gP g }), (79, wT), (92, { ch := 0, hi := fun _ => 0, ru := 16, av := fun _ => .tp [.ag [.c (.int .i64 ((ro : Nat) : Int)), .c (.int .i64 2)], .v (.bool true)] }), (107, rO 9 ro), (108, { ch := 0, hi := fun _ => 0, ex := 5, cs := fun _ => [.l B1] }), (112, { ch := 0, hi := fun _ => 0, ex := 10, lp := some { I := { n := 0, sl := [], hp := [] }, ex := .ret, E := { n := 0, sl := [], hp := [(0, .ob (mapO kI vI (putL l2 g.w0 (i, 0))))] }, fr := 0 } }), (121, { ch := 0, hi := fun _ => 0, ru := 16, av := fun _ => .ag [.c (.int .i64 ((fp.1 : Nat) : Int)), .c (.int .i64 ((fp.2 : Nat) : Int))] }), (122, rO 9 i), (123, { ch := 0, hi := fun _ => 0, ex := 5, cs := fun _ => [.l B2] })])) (fb := 57) (rd := false) (c := (loopB Try.f44 1)) (k := 66) (I := neI (rangeB Try.f9 0) gs pub vars n A0 A1 A2 l1 l2 0 ((i : Nat) : Int)) (sk := [0, 1, 3, 7, 11, 12, 13]) (hk := [0, 4, 5, 7, 21, 30, 39, 43, 44, 45, 46, 51, 55, 56]) (lk := [(56, [6, 10, 11])]) (ex := .normal)
    (L := neI (rangeB Try.f9 0) gs pub vars n B2 A1 B1 l1 (putL l2 g.w0 (i, 0)) 0 (IntKind.i64.wrap (((i : Nat) : Int) + 1))) (by kernel_rfl)
    (And.intro (stO_cond (p := [.c (.int .i64 ((fp.1 : Nat) : Int)), .c (.int .i64 ((fp.2 : Nat) : Int))]) hs2 rfl)
    (And.intro (show ((i : Nat) : Int) = ((i : Nat) : Int) ∧ i < n from ⟨rfl, hin⟩)
    (And.intro (looks_one l1 d1 g.w0 fp hf)
    (And.intro (puts_at l2 d2 g.w0 (i, 0))
    (And.intro (stO_cond (p := [.c (.int .i64 ((i : Nat) : Int)), .c (.int .i64 0)]) hs1 rfl)
    (And.intro (show ((ro : Nat) : Int) = ((ro : Nat) : Int) ∧ ro < n from ⟨rfl, hro⟩)
    (And.intro (looks_yes l2 d2 g.w0 (ro, 2) hl)
    (And.intro (show decide (g.w0 ≥ 0) = true from decide_eq_true h)
    (And.intro (gate_at gs i g hg)
    (And.intro (show ((i : Nat) : Int) = ((i : Nat) : Int) ∧ i < gs.length from ⟨rfl, hi⟩)
    (And.intro (show decide (((i : Nat) : Int) < ((gs.length : Nat) : Int)) = true from decide_eq_true (by omega)) trivial)))))))))))
  rw [r_next (by omega)] at hh
  exact hh
theorem nx_end0 (gs : List GT) (pub vars : Int) (n : Nat) (A0 A1 A2 : List Value) (l1 l2 : List (Int × (Nat × Nat))) : Sound Try.prog 57 false (loopB Try.f44 1) (neI (rangeB Try.f9 0) gs pub vars n A0 A1 A2 l1 l2 0 ((gs.length : Nat) : Int)).aa (.exit 2) (neE (rangeB Try.f9 0) gs pub vars n A0 A1 A2 l1 l2 0).aa := by
  have hh := roundK_sound (P := Try.prog) (X := rulesM _) (env := []) trivial (n := 2) (os := (oL [(66, wF)])) (fb := 57) (rd := false) (c := (loopB Try.f44 1)) (k := 66) (I := neI (rangeB Try.f9 0) gs pub vars n A0 A1 A2 l1 l2 0 ((gs.length : Nat) : Int)) (sk := [0, 1, 7]) (hk := [0, 4, 5, 7, 21, 30, 39, 43, 44, 45, 46, 51, 55, 56]) (lk := [(56, [6, 10, 11])]) (ex := (.exit 2))
    (L := neE (rangeB Try.f9 0) gs pub vars n A0 A1 A2 l1 l2 0) (by kernel_rfl)
    (And.intro (show decide (((gs.length : Nat) : Int) < ((gs.length : Nat) : Int)) = false from decide_eq_false (by omega)) trivial)
  exact hh
theorem ng1 (gs : List GT) (pub vars : Int) (n : Nat) (A0 A1 A2 : List Value) (l1 l2 : List (Int × (Nat × Nat))) (hm : gs.length ≤ 1000) (i : Nat) (g : GT) (hg : gs[i]? = some g) (h : g.w1 < 0) : Sound Try.prog 57 false (loopB Try.f44 1) (neI (rangeB Try.f9 0) gs pub vars n A0 A1 A2 l1 l2 1 ((i : Nat) : Int)).aa .normal (neI (rangeB Try.f9 0) gs pub vars n A0 A1 A2 l1 l2 1 ((i + 1 : Nat) : Int)).aa := by
  have hi := glt hg
  have hh := roundK_sound (P := Try.prog) (X := rulesM _) (env := []) trivial (n := 2) (os := (oL [(66, wT), (68, rO 14 i), (69, { ch := 0, hi := fun _ => 0, ru := 8, cs := fun _ => gP g }), (79, wF)])) (fb := 57) (rd := false) (c := (loopB Try.f44 1)) (k := 66) (I := neI (rangeB Try.f9 0) gs pub vars n A0 A1 A2 l1 l2 1 ((i : Nat) : Int)) (sk := [0, 1, 3, 7, 11, 12, 13]) (hk := [0, 4, 5, 7, 21, 30, 39, 43, 44, 45, 46, 51, 55, 56]) (lk := [(56, [6, 10, 11])]) (ex := .normal)
    (L := neI (rangeB Try.f9 0) gs pub vars n A0 A1 A2 l1 l2 1 (IntKind.i64.wrap (((i : Nat) : Int) + 1))) (by kernel_rfl)
    (And.intro (show decide (g.w1 ≥ 0) = false from decide_eq_false (by omega))
    (And.intro (gate_at gs i g hg)
    (And.intro (show ((i : Nat) : Int) = ((i : Nat) : Int) ∧ i < gs.length from ⟨rfl, hi⟩)
    (And.intro (show decide (((i : Nat) : Int) < ((gs.length : Nat) : Int)) = true from decide_eq_true (by omega)) trivial))))
  rw [r_next (by omega)] at hh
  exact hh
theorem nn1 (gs : List GT) (pub vars : Int) (n : Nat) (A0 A1 A2 : List Value) (l1 l2 : List (Int × (Nat × Nat))) (hm : gs.length ≤ 1000) (i : Nat) (g : GT) (hg : gs[i]? = some g) (h : g.w1 ≥ 0) (hin : i < n) (d1 : DistL l1) (d2 : DistL l2) (hl : lookM l2 g.w1 = none) (B : List Value) (hs : stO 2 A1 B i (flat [.c (.int .i64 ((i : Nat) : Int)), .c (.int .i64 1)])) : Sound Try.prog 57 false (loopB Try.f44 1) (neI (rangeB Try.f9 0) gs pub vars n A0 A1 A2 l1 l2 1 ((i : Nat) : Int)).aa .normal (neI (rangeB Try.f9 0) gs pub vars n A0 B A2 (putL l1 g.w1 (i, 1)) (putL l2 g.w1 (i, 1)) 1 ((i + 1 : Nat) : Int)).aa := by
  have hi := glt hg
  have hh := roundK_sound (P := Try.prog) (X := rulesM _) (env := []) trivial (n := 2) (os := (oL [(66, wT), (68, rO 14 i), (69, { ch := 0, hi := fun _ => 0, ru := 8, cs := fun _ => gP g }), (79, wT), (92, { ch := 0, hi := fun _ => 0, ru := 16, av := fun _ => .tp [.ag [.c (.int .i64 0), .c (.int .i64 0)], .v (.bool false)] }), (103, { ch := 0, hi := fun _ => 0, ex := 10, lp := some { I := { n := 0, sl := [], hp := [] }, ex := .ret, E := { n := 0, sl := [], hp := [(0, .ob (mapO kI vI (putL l1 g.w1 (i, 1))))] }, fr := 0 } }), (107, { ch := 0, hi := fun _ => 0, ex := 10, lp := some { I := { n := 0, sl := [], hp := [] }, ex := .ret, E := { n := 0, sl := [], hp := [(0, .ob (mapO kI vI (putL l2 g.w1 (i, 1))))] }, fr := 0 } }), (116, { ch := 0, hi := fun _ => 0, ru := 16, av := fun _ => .ag [.c (.int .i64 ((i : Nat) : Int)), .c (.int .i64 1)] }), (117, rO 9 i), (118, { ch := 0, hi := fun _ => 0, ex := 5, cs := fun _ => [.l B] })])) (fb := 57) (rd := false) (c := (loopB Try.f44 1)) (k := 66) (I := neI (rangeB Try.f9 0) gs pub vars n A0 A1 A2 l1 l2 1 ((i : Nat) : Int)) (sk := [0, 1, 3, 7, 11, 12, 13]) (hk := [0, 4, 5, 7, 21, 30, 39, 43, 44, 45, 46, 51, 55, 56]) (lk := [(56, [6, 10, 11])]) (ex := .normal)
    (L := neI (rangeB Try.f9 0) gs pub vars n A0 B A2 (putL l1 g.w1 (i, 1)) (putL l2 g.w1 (i, 1)) 1 (IntKind.i64.wrap (((i : Nat) : Int) + 1))) (by kernel_rfl)
    (And.intro (stO_cond (p := [.c (.int .i64 ((i : Nat) : Int)), .c (.int .i64 1)]) hs rfl)
    (And.intro (show ((i : Nat) : Int) = ((i : Nat) : Int) ∧ i < n from ⟨rfl, hin⟩)
    (And.intro (looks_one (putL l1 g.w1 (i, 1)) (putL_dist l1 _ _ d1) g.w1 (i, 1) (by rw [lookM_put, if_pos rfl]))
    (And.intro (puts_at l2 d2 g.w1 (i, 1))
    (And.intro (puts_at l1 d1 g.w1 (i, 1))
    (And.intro (looks_nil l2 d2 g.w1 hl)
    (And.intro (show decide (g.w1 ≥ 0) = true from decide_eq_true h)
    (And.intro (gate_at gs i g hg)
    (And.intro (show ((i : Nat) : Int) = ((i : Nat) : Int) ∧ i < gs.length from ⟨rfl, hi⟩)
    (And.intro (show decide (((i : Nat) : Int) < ((gs.length : Nat) : Int)) = true from decide_eq_true (by omega)) trivial))))))))))
  rw [r_next (by omega)] at hh
  exact hh
theorem no10 (gs : List GT) (pub vars : Int) (n : Nat) (A0 A1 A2 : List Value) (l1 l2 : List (Int × (Nat × Nat))) (hm : gs.length ≤ 1000) (i : Nat) (g : GT) (hg : gs[i]? = some g) (h : g.w1 ≥ 0) (hin : i < n) (d1 : DistL l1) (d2 : DistL l2) (ro : Nat) (hro : ro < n) (fp : Nat × Nat) (hl : lookM l2 g.w1 = some (ro, 0)) (hf : lookM l1 g.w1 = some fp) (B1 B2 : List Value) (hs1 : stO 2 A0 B1 ro (flat [.c (.int .i64 ((i : Nat) : Int)), .c (.int .i64 1)])) (hs2 : stO 2 A1 B2 i (flat [.c (.int .i64 ((fp.1 : Nat) : Int)), .c (.int .i64 ((fp.2 : Nat) : Int))])) : Sound Try.prog 57 false (loopB Try.f44 1) (neI (rangeB Try.f9 0) gs pub vars n A0 A1 A2 l1 l2 1 ((i : Nat) : Int)).aa .normal (neI (rangeB Try.f9 0) gs pub vars n B1 B2 A2 l1 (putL l2 g.w1 (i, 1)) 1 ((i + 1 : Nat) : Int)).aa := by
  have hi := glt hg
  have hh := roundK_sound (P := Try.prog) (X := rulesM _) (env := []) trivial (n := 2) (os := (oL [(66, wT), (68, rO 14 i), (69, { ch := 0, hi := fun _ => 0, ru := 8, cs := fun _ => gP g }), (79, wT), (92, { ch := 0, hi := fun _ => 0, ru := 16, av := fun _ => .tp [.ag [.c (.int .i64 ((ro : Nat) : Int)), .c (.int .i64 0)], .v (.bool true)] }), (107, rO 9 ro), (108, { ch := 0, hi := fun _ => 0, ex := 5, cs := fun _ => [.l B1] }), (112, { ch := 0, hi := fun _ => 0, ex := 10, lp := some { I := { n := 0, sl := [], hp := [] }, ex := .ret, E := { n := 0, sl := [], hp := [(0, .ob (mapO kI vI (putL l2 g.w1 (i, 1))))] }, fr := 0 } }), (121, { ch := 0, hi := fun _ => 0, ru := 16, av := fun _ => .ag [.c (.int .i64 ((fp.1 : Nat) : Int)), .c (.int .i64 ((fp.2 : Nat) : Int))] }), (122, rO 9 i), (123, { ch := 0, hi := fun _ => 0, ex := 5, cs := fun _ => [.l B2] })])) (fb := 57) (rd := false) (c := (loopB Try.f44 1)) (k := 66) (I := neI (rangeB Try.f9 0) gs pub vars n A0 A1 A2 l1 l2 1 ((i : Nat) : Int)) (sk := [0, 1, 3, 7, 11, 12, 13]) (hk := [0, 4, 5, 7, 21, 30, 39, 43, 44, 45, 46, 51, 55, 56]) (lk := [(56, [6, 10, 11])]) (ex := .normal)
    (L := neI (rangeB Try.f9 0) gs pub vars n B1 B2 A2 l1 (putL l2 g.w1 (i, 1)) 1 (IntKind.i64.wrap (((i : Nat) : Int) + 1))) (by kernel_rfl)
    (And.intro (stO_cond (p := [.c (.int .i64 ((fp.1 : Nat) : Int)), .c (.int .i64 ((fp.2 : Nat) : Int))]) hs2 rfl)
    (And.intro (show ((i : Nat) : Int) = ((i : Nat) : Int) ∧ i < n from ⟨rfl, hin⟩)
    (And.intro (looks_one l1 d1 g.w1 fp hf)
    (And.intro (puts_at l2 d2 g.w1 (i, 1))
    (And.intro (stO_cond (p := [.c (.int .i64 ((i : Nat) : Int)), .c (.int .i64 1)]) hs1 rfl)
    (And.intro (show ((ro : Nat) : Int) = ((ro : Nat) : Int) ∧ ro < n from ⟨rfl, hro⟩)
    (And.intro (looks_yes l2 d2 g.w1 (ro, 0) hl)
    (And.intro (show decide (g.w1 ≥ 0) = true from decide_eq_true h)
    (And.intro (gate_at gs i g hg)
    (And.intro (show ((i : Nat) : Int) = ((i : Nat) : Int) ∧ i < gs.length from ⟨rfl, hi⟩)
    (And.intro (show decide (((i : Nat) : Int) < ((gs.length : Nat) : Int)) = true from decide_eq_true (by omega)) trivial)))))))))))
  rw [r_next (by omega)] at hh
  exact hh
theorem no11 (gs : List GT) (pub vars : Int) (n : Nat) (A0 A1 A2 : List Value) (l1 l2 : List (Int × (Nat × Nat))) (hm : gs.length ≤ 1000) (i : Nat) (g : GT) (hg : gs[i]? = some g) (h : g.w1 ≥ 0) (hin : i < n) (d1 : DistL l1) (d2 : DistL l2) (ro : Nat) (hro : ro < n) (fp : Nat × Nat) (hl : lookM l2 g.w1 = some (ro, 1)) (hf : lookM l1 g.w1 = some fp) (B1 B2 : List Value) (hs1 : stO 2 A1 B1 ro (flat [.c (.int .i64 ((i : Nat) : Int)), .c (.int .i64 1)])) (hs2 : stO 2 B1 B2 i (flat [.c (.int .i64 ((fp.1 : Nat) : Int)), .c (.int .i64 ((fp.2 : Nat) : Int))])) : Sound Try.prog 57 false (loopB Try.f44 1) (neI (rangeB Try.f9 0) gs pub vars n A0 A1 A2 l1 l2 1 ((i : Nat) : Int)).aa .normal (neI (rangeB Try.f9 0) gs pub vars n A0 B2 A2 l1 (putL l2 g.w1 (i, 1)) 1 ((i + 1 : Nat) : Int)).aa := by
  have hi := glt hg
  have hh := roundK_sound (P := Try.prog) (X := rulesM _) (env := []) trivial (n := 2) (os := (oL [(66, wT), (68, rO 14 i), (69, { ch := 0, hi := fun _ => 0, ru := 8, cs := fun _ => gP g }), (79, wT), (92, { ch := 0, hi := fun _ => 0, ru := 16, av := fun _ => .tp [.ag [.c (.int .i64 ((ro : Nat) : Int)), .c (.int .i64 1)], .v (.bool true)] }), (107, rO 9 ro), (108, { ch := 0, hi := fun _ => 0, ex := 5, cs := fun _ => [.l B1] }), (112, { ch := 0, hi := fun _ => 0, ex := 10, lp := some { I := { n := 0, sl := [], hp := [] }, ex := .ret, E := { n := 0, sl := [], hp := [(0, .ob (mapO kI vI (putL l2 g.w1 (i, 1))))] }, fr := 0 } }), (121, { ch := 0, hi := fun _ => 0, ru := 16, av := fun _ => .ag [.c (.int .i64 ((fp.1 : Nat) : Int)), .c (.int .i64 ((fp.2 : Nat) : Int))] }), (122, rO 9 i), (123, { ch := 0, hi := fun _ => 0, ex := 5, cs := fun _ => [.l B2] })])) (fb := 57) (rd := false) (c := (loopB Try.f44 1)) (k := 66) (I := neI (rangeB Try.f9 0) gs pub vars n A0 A1 A2 l1 l2 1 ((i : Nat) : Int)) (sk := [0, 1, 3, 7, 11, 12, 13]) (hk := [0, 4, 5, 7, 21, 30, 39, 43, 44, 45, 46, 51, 55, 56]) (lk := [(56, [6, 10, 11])]) (ex := .normal)
    (L := neI (rangeB Try.f9 0) gs pub vars n A0 B2 A2 l1 (putL l2 g.w1 (i, 1)) 1 (IntKind.i64.wrap (((i : Nat) : Int) + 1))) (by kernel_rfl)
    (And.intro (stO_cond (p := [.c (.int .i64 ((fp.1 : Nat) : Int)), .c (.int .i64 ((fp.2 : Nat) : Int))]) hs2 rfl)
    (And.intro (show ((i : Nat) : Int) = ((i : Nat) : Int) ∧ i < n from ⟨rfl, hin⟩)
    (And.intro (looks_one l1 d1 g.w1 fp hf)
    (And.intro (puts_at l2 d2 g.w1 (i, 1))
    (And.intro (stO_cond (p := [.c (.int .i64 ((i : Nat) : Int)), .c (.int .i64 1)]) hs1 rfl)
    (And.intro (show ((ro : Nat) : Int) = ((ro : Nat) : Int) ∧ ro < n from ⟨rfl, hro⟩)
    (And.intro (looks_yes l2 d2 g.w1 (ro, 1) hl)
    (And.intro (show decide (g.w1 ≥ 0) = true from decide_eq_true h)
    (And.intro (gate_at gs i g hg)
    (And.intro (show ((i : Nat) : Int) = ((i : Nat) : Int) ∧ i < gs.length from ⟨rfl, hi⟩)
    (And.intro (show decide (((i : Nat) : Int) < ((gs.length : Nat) : Int)) = true from decide_eq_true (by omega)) trivial)))))))))))
  rw [r_next (by omega)] at hh
  exact hh
theorem no12 (gs : List GT) (pub vars : Int) (n : Nat) (A0 A1 A2 : List Value) (l1 l2 : List (Int × (Nat × Nat))) (hm : gs.length ≤ 1000) (i : Nat) (g : GT) (hg : gs[i]? = some g) (h : g.w1 ≥ 0) (hin : i < n) (d1 : DistL l1) (d2 : DistL l2) (ro : Nat) (hro : ro < n) (fp : Nat × Nat) (hl : lookM l2 g.w1 = some (ro, 2)) (hf : lookM l1 g.w1 = some fp) (B1 B2 : List Value) (hs1 : stO 2 A2 B1 ro (flat [.c (.int .i64 ((i : Nat) : Int)), .c (.int .i64 1)])) (hs2 : stO 2 A1 B2 i (flat [.c (.int .i64 ((fp.1 : Nat) : Int)), .c (.int .i64 ((fp.2 : Nat) : Int))])) : Sound Try.prog 57 false (loopB Try.f44 1) (neI (rangeB Try.f9 0) gs pub vars n A0 A1 A2 l1 l2 1 ((i : Nat) : Int)).aa .normal (neI (rangeB Try.f9 0) gs pub vars n A0 B2 B1 l1 (putL l2 g.w1 (i, 1)) 1 ((i + 1 : Nat) : Int)).aa := by
  have hi := glt hg
  have hh := roundK_sound (P := Try.prog) (X := rulesM _) (env := []) trivial (n := 2) (os := (oL [(66, wT), (68, rO 14 i), (69, { ch := 0, hi := fun _ => 0, ru := 8, cs := fun _ => gP g }), (79, wT), (92, { ch := 0, hi := fun _ => 0, ru := 16, av := fun _ => .tp [.ag [.c (.int .i64 ((ro : Nat) : Int)), .c (.int .i64 2)], .v (.bool true)] }), (107, rO 9 ro), (108, { ch := 0, hi := fun _ => 0, ex := 5, cs := fun _ => [.l B1] }), (112, { ch := 0, hi := fun _ => 0, ex := 10, lp := some { I := { n := 0, sl := [], hp := [] }, ex := .ret, E := { n := 0, sl := [], hp := [(0, .ob (mapO kI vI (putL l2 g.w1 (i, 1))))] }, fr := 0 } }), (121, { ch := 0, hi := fun _ => 0, ru := 16, av := fun _ => .ag [.c (.int .i64 ((fp.1 : Nat) : Int)), .c (.int .i64 ((fp.2 : Nat) : Int))] }), (122, rO 9 i), (123, { ch := 0, hi := fun _ => 0, ex := 5, cs := fun _ => [.l B2] })])) (fb := 57) (rd := false) (c := (loopB Try.f44 1)) (k := 66) (I := neI (rangeB Try.f9 0) gs pub vars n A0 A1 A2 l1 l2 1 ((i : Nat) : Int)) (sk := [0, 1, 3, 7, 11, 12, 13]) (hk := [0, 4, 5, 7, 21, 30, 39, 43, 44, 45, 46, 51, 55, 56]) (lk := [(56, [6, 10, 11])]) (ex := .normal)
    (L := neI (rangeB Try.f9 0) gs pub vars n A0 B2 B1 l1 (putL l2 g.w1 (i, 1)) 1 (IntKind.i64.wrap (((i : Nat) : Int) + 1))) (by kernel_rfl)
    (And.intro (stO_cond (p := [.c (.int .i64 ((fp.1 : Nat) : Int)), .c (.int .i64 ((fp.2 : Nat) : Int))]) hs2 rfl)
    (And.intro (show ((i : Nat) : Int) = ((i : Nat) : Int) ∧ i < n from ⟨rfl, hin⟩)
    (And.intro (looks_one l1 d1 g.w1 fp hf)
    (And.intro (puts_at l2 d2 g.w1 (i, 1))
    (And.intro (stO_cond (p := [.c (.int .i64 ((i : Nat) : Int)), .c (.int .i64 1)]) hs1 rfl)
    (And.intro (show ((ro : Nat) : Int) = ((ro : Nat) : Int) ∧ ro < n from ⟨rfl, hro⟩)
    (And.intro (looks_yes l2 d2 g.w1 (ro, 2) hl)
    (And.intro (show decide (g.w1 ≥ 0) = true from decide_eq_true h)
    (And.intro (gate_at gs i g hg)
    (And.intro (show ((i : Nat) : Int) = ((i : Nat) : Int) ∧ i < gs.length from ⟨rfl, hi⟩)
    (And.intro (show decide (((i : Nat) : Int) < ((gs.length : Nat) : Int)) = true from decide_eq_true (by omega)) trivial)))))))))))
  rw [r_next (by omega)] at hh
  exact hh
theorem nx_end1 (gs : List GT) (pub vars : Int) (n : Nat) (A0 A1 A2 : List Value) (l1 l2 : List (Int × (Nat × Nat))) : Sound Try.prog 57 false (loopB Try.f44 1) (neI (rangeB Try.f9 0) gs pub vars n A0 A1 A2 l1 l2 1 ((gs.length : Nat) : Int)).aa (.exit 2) (neE (rangeB Try.f9 0) gs pub vars n A0 A1 A2 l1 l2 1).aa := by
  have hh := roundK_sound (P := Try.prog) (X := rulesM _) (env := []) trivial (n := 2) (os := (oL [(66, wF)])) (fb := 57) (rd := false) (c := (loopB Try.f44 1)) (k := 66) (I := neI (rangeB Try.f9 0) gs pub vars n A0 A1 A2 l1 l2 1 ((gs.length : Nat) : Int)) (sk := [0, 1, 7]) (hk := [0, 4, 5, 7, 21, 30, 39, 43, 44, 45, 46, 51, 55, 56]) (lk := [(56, [6, 10, 11])]) (ex := (.exit 2))
    (L := neE (rangeB Try.f9 0) gs pub vars n A0 A1 A2 l1 l2 1) (by kernel_rfl)
    (And.intro (show decide (((gs.length : Nat) : Int) < ((gs.length : Nat) : Int)) = false from decide_eq_false (by omega)) trivial)
  exact hh
theorem ng2 (gs : List GT) (pub vars : Int) (n : Nat) (A0 A1 A2 : List Value) (l1 l2 : List (Int × (Nat × Nat))) (hm : gs.length ≤ 1000) (i : Nat) (g : GT) (hg : gs[i]? = some g) (h : g.w2 < 0) : Sound Try.prog 57 false (loopB Try.f44 1) (neI (rangeB Try.f9 0) gs pub vars n A0 A1 A2 l1 l2 2 ((i : Nat) : Int)).aa .normal (neI (rangeB Try.f9 0) gs pub vars n A0 A1 A2 l1 l2 2 ((i + 1 : Nat) : Int)).aa := by
  have hi := glt hg
  have hh := roundK_sound (P := Try.prog) (X := rulesM _) (env := []) trivial (n := 2) (os := (oL [(66, wT), (68, rO 14 i), (69, { ch := 0, hi := fun _ => 0, ru := 8, cs := fun _ => gP g }), (79, wF)])) (fb := 57) (rd := false) (c := (loopB Try.f44 1)) (k := 66) (I := neI (rangeB Try.f9 0) gs pub vars n A0 A1 A2 l1 l2 2 ((i : Nat) : Int)) (sk := [0, 1, 3, 7, 11, 12, 13]) (hk := [0, 4, 5, 7, 21, 30, 39, 43, 44, 45, 46, 51, 55, 56]) (lk := [(56, [6, 10, 11])]) (ex := .normal)
    (L := neI (rangeB Try.f9 0) gs pub vars n A0 A1 A2 l1 l2 2 (IntKind.i64.wrap (((i : Nat) : Int) + 1))) (by kernel_rfl)
    (And.intro (show decide (g.w2 ≥ 0) = false from decide_eq_false (by omega))
    (And.intro (gate_at gs i g hg)
    (And.intro (show ((i : Nat) : Int) = ((i : Nat) : Int) ∧ i < gs.length from ⟨rfl, hi⟩)
    (And.intro (show decide (((i : Nat) : Int) < ((gs.length : Nat) : Int)) = true from decide_eq_true (by omega)) trivial))))
  rw [r_next (by omega)] at hh
  exact hh
theorem nn2 (gs : List GT) (pub vars : Int) (n : Nat) (A0 A1 A2 : List Value) (l1 l2 : List (Int × (Nat × Nat))) (hm : gs.length ≤ 1000) (i : Nat) (g : GT) (hg : gs[i]? = some g) (h : g.w2 ≥ 0) (hin : i < n) (d1 : DistL l1) (d2 : DistL l2) (hl : lookM l2 g.w2 = none) (B : List Value) (hs : stO 2 A2 B i (flat [.c (.int .i64 ((i : Nat) : Int)), .c (.int .i64 2)])) : Sound Try.prog 57 false (loopB Try.f44 1) (neI (rangeB Try.f9 0) gs pub vars n A0 A1 A2 l1 l2 2 ((i : Nat) : Int)).aa .normal (neI (rangeB Try.f9 0) gs pub vars n A0 A1 B (putL l1 g.w2 (i, 2)) (putL l2 g.w2 (i, 2)) 2 ((i + 1 : Nat) : Int)).aa := by
  have hi := glt hg
  have hh := roundK_sound (P := Try.prog) (X := rulesM _) (env := []) trivial (n := 2) (os := (oL [(66, wT), (68, rO 14 i), (69, { ch := 0, hi := fun _ => 0, ru := 8, cs := fun _ => gP g }), (79, wT), (92, { ch := 0, hi := fun _ => 0, ru := 16, av := fun _ => .tp [.ag [.c (.int .i64 0), .c (.int .i64 0)], .v (.bool false)] }), (103, { ch := 0, hi := fun _ => 0, ex := 10, lp := some { I := { n := 0, sl := [], hp := [] }, ex := .ret, E := { n := 0, sl := [], hp := [(0, .ob (mapO kI vI (putL l1 g.w2 (i, 2))))] }, fr := 0 } }), (107, { ch := 0, hi := fun _ => 0, ex := 10, lp := some { I := { n := 0, sl := [], hp := [] }, ex := .ret, E := { n := 0, sl := [], hp := [(0, .ob (mapO kI vI (putL l2 g.w2 (i, 2))))] }, fr := 0 } }), (116, { ch := 0, hi := fun _ => 0, ru := 16, av := fun _ => .ag [.c (.int .i64 ((i : Nat) : Int)), .c (.int .i64 2)] }), (117, rO 9 i), (118, { ch := 0, hi := fun _ => 0, ex := 5, cs := fun _ => [.l B] })])) (fb := 57) (rd := false) (c := (loopB Try.f44 1)) (k := 66) (I := neI (rangeB Try.f9 0) gs pub vars n A0 A1 A2 l1 l2 2 ((i : Nat) : Int)) (sk := [0, 1, 3, 7, 11, 12, 13]) (hk := [0, 4, 5, 7, 21, 30, 39, 43, 44, 45, 46, 51, 55, 56]) (lk := [(56, [6, 10, 11])]) (ex := .normal)
    (L := neI (rangeB Try.f9 0) gs pub vars n A0 A1 B (putL l1 g.w2 (i, 2)) (putL l2 g.w2 (i, 2)) 2 (IntKind.i64.wrap (((i : Nat) : Int) + 1))) (by kernel_rfl)
    (And.intro (stO_cond (p := [.c (.int .i64 ((i : Nat) : Int)), .c (.int .i64 2)]) hs rfl)
    (And.intro (show ((i : Nat) : Int) = ((i : Nat) : Int) ∧ i < n from ⟨rfl, hin⟩)
    (And.intro (looks_one (putL l1 g.w2 (i, 2)) (putL_dist l1 _ _ d1) g.w2 (i, 2) (by rw [lookM_put, if_pos rfl]))
    (And.intro (puts_at l2 d2 g.w2 (i, 2))
    (And.intro (puts_at l1 d1 g.w2 (i, 2))
    (And.intro (looks_nil l2 d2 g.w2 hl)
    (And.intro (show decide (g.w2 ≥ 0) = true from decide_eq_true h)
    (And.intro (gate_at gs i g hg)
    (And.intro (show ((i : Nat) : Int) = ((i : Nat) : Int) ∧ i < gs.length from ⟨rfl, hi⟩)
    (And.intro (show decide (((i : Nat) : Int) < ((gs.length : Nat) : Int)) = true from decide_eq_true (by omega)) trivial))))))))))
  rw [r_next (by omega)] at hh
  exact hh
theorem no20 (gs : List GT) (pub vars : Int) (n : Nat) (A0 A1 A2 : List Value) (l1 l2 : List (Int × (Nat × Nat))) (hm : gs.length ≤ 1000) (i : Nat) (g : GT) (hg : gs[i]? = some g) (h : g.w2 ≥ 0) (hin : i < n) (d1 : DistL l1) (d2 : DistL l2) (ro : Nat) (hro : ro < n) (fp : Nat × Nat) (hl : lookM l2 g.w2 = some (ro, 0)) (hf : lookM l1 g.w2 = some fp) (B1 B2 : List Value) (hs1 : stO 2 A0 B1 ro (flat [.c (.int .i64 ((i : Nat) : Int)), .c (.int .i64 2)])) (hs2 : stO 2 A2 B2 i (flat [.c (.int .i64 ((fp.1 : Nat) : Int)), .c (.int .i64 ((fp.2 : Nat) : Int))])) : Sound Try.prog 57 false (loopB Try.f44 1) (neI (rangeB Try.f9 0) gs pub vars n A0 A1 A2 l1 l2 2 ((i : Nat) : Int)).aa .normal (neI (rangeB Try.f9 0) gs pub vars n B1 A1 B2 l1 (putL l2 g.w2 (i, 2)) 2 ((i + 1 : Nat) : Int)).aa := by
  have hi := glt hg
  have hh := roundK_sound (P := Try.prog) (X := rulesM _) (env := []) trivial (n := 2) (os := (oL [(66, wT), (68, rO 14 i), (69, { ch := 0, hi := fun _ => 0, ru := 8, cs := fun _ => gP g }), (79, wT), (92, { ch := 0, hi := fun _ => 0, ru := 16, av := fun _ => .tp [.ag [.c (.int .i64 ((ro : Nat) : Int)), .c (.int .i64 0)], .v (.bool true)] }), (107, rO 9 ro), (108, { ch := 0, hi := fun _ => 0, ex := 5, cs := fun _ => [.l B1] }), (112, { ch := 0, hi := fun _ => 0, ex := 10, lp := some { I := { n := 0, sl := [], hp := [] }, ex := .ret, E := { n := 0, sl := [], hp := [(0, .ob (mapO kI vI (putL l2 g.w2 (i, 2))))] }, fr := 0 } }), (121, { ch := 0, hi := fun _ => 0, ru := 16, av := fun _ => .ag [.c (.int .i64 ((fp.1 : Nat) : Int)), .c (.int .i64 ((fp.2 : Nat) : Int))] }), (122, rO 9 i), (123, { ch := 0, hi := fun _ => 0, ex := 5, cs := fun _ => [.l B2] })])) (fb := 57) (rd := false) (c := (loopB Try.f44 1)) (k := 66) (I := neI (rangeB Try.f9 0) gs pub vars n A0 A1 A2 l1 l2 2 ((i : Nat) : Int)) (sk := [0, 1, 3, 7, 11, 12, 13]) (hk := [0, 4, 5, 7, 21, 30, 39, 43, 44, 45, 46, 51, 55, 56]) (lk := [(56, [6, 10, 11])]) (ex := .normal)
    (L := neI (rangeB Try.f9 0) gs pub vars n B1 A1 B2 l1 (putL l2 g.w2 (i, 2)) 2 (IntKind.i64.wrap (((i : Nat) : Int) + 1))) (by kernel_rfl)
    (And.intro (stO_cond (p := [.c (.int .i64 ((fp.1 : Nat) : Int)), .c (.int .i64 ((fp.2 : Nat) : Int))]) hs2 rfl)
    (And.intro (show ((i : Nat) : Int) = ((i : Nat) : Int) ∧ i < n from ⟨rfl, hin⟩)
    (And.intro (looks_one l1 d1 g.w2 fp hf)
    (And.intro (puts_at l2 d2 g.w2 (i, 2))
    (And.intro (stO_cond (p := [.c (.int .i64 ((i : Nat) : Int)), .c (.int .i64 2)]) hs1 rfl)
    (And.intro (show ((ro : Nat) : Int) = ((ro : Nat) : Int) ∧ ro < n from ⟨rfl, hro⟩)
    (And.intro (looks_yes l2 d2 g.w2 (ro, 0) hl)
    (And.intro (show decide (g.w2 ≥ 0) = true from decide_eq_true h)
    (And.intro (gate_at gs i g hg)
    (And.intro (show ((i : Nat) : Int) = ((i : Nat) : Int) ∧ i < gs.length from ⟨rfl, hi⟩)
    (And.intro (show decide (((i : Nat) : Int) < ((gs.length : Nat) : Int)) = true from decide_eq_true (by omega)) trivial)))))))))))
  rw [r_next (by omega)] at hh
  exact hh
theorem no21 (gs : List GT) (pub vars : Int) (n : Nat) (A0 A1 A2 : List Value) (l1 l2 : List (Int × (Nat × Nat))) (hm : gs.length ≤ 1000) (i : Nat) (g : GT) (hg : gs[i]? = some g) (h : g.w2 ≥ 0) (hin : i < n) (d1 : DistL l1) (d2 : DistL l2) (ro : Nat) (hro : ro < n) (fp : Nat × Nat) (hl : lookM l2 g.w2 = some (ro, 1)) (hf : lookM l1 g.w2 = some fp) (B1 B2 : List Value) (hs1 : stO 2 A1 B1 ro (flat [.c (.int .i64 ((i : Nat) : Int)), .c (.int .i64 2)])) (hs2 : stO 2 A2 B2 i (flat [.c (.int .i64 ((fp.1 : Nat) : Int)), .c (.int .i64 ((fp.2 : Nat) : Int))])) : Sound Try.prog 57 false (loopB Try.f44 1) (neI (rangeB Try.f9 0) gs pub vars n A0 A1 A2 l1 l2 2 ((i : Nat) : Int)).aa .normal (neI (rangeB Try.f9 0) gs pub vars n A0 B1 B2 l1 (putL l2 g.w2 (i, 2)) 2 ((i + 1 : Nat) : Int)).aa := by
  have hi := glt hg
  have hh := roundK_sound (P := Try.prog) (X := rulesM _) (env := []) trivial (n := 2) (os := (oL [(66, wT), (68, rO 14 i), (69, { ch := 0, hi := fun _ => 0, ru := 8, cs := fun _ => gP g }), (79, wT), (92, { ch := 0, hi := fun _ => 0, ru := 16, av := fun _ => .tp [.ag [.c (.int .i64 ((ro : Nat) : Int)), .c (.int .i64 1)], .v (.bool true)] }), (107, rO 9 ro), (108, { ch := 0, hi := fun _ => 0, ex := 5, cs := fun _ => [.l B1] }), (112, { ch := 0, hi := fun _ => 0, ex := 10, lp := some { I := { n := 0, sl := [], hp := [] }, ex := .ret, E := { n := 0, sl := [], hp := [(0, .ob (mapO kI vI (putL l2 g.w2 (i, 2))))] }, fr := 0 } }), (121, { ch := 0, hi := fun _ => 0, ru := 16, av := fun _ => .ag [.c (.int .i64 ((fp.1 : Nat) : Int)), .c (.int .i64 ((fp.2 : Nat) : Int))] }), (122, rO 9 i), (123, { ch := 0, hi := fun _ => 0, ex := 5, cs := fun _ => [.l B2] })])) (fb := 57) (rd := false) (c := (loopB Try.f44 1)) (k := 66) (I := neI (rangeB Try.f9 0) gs pub vars n A0 A1 A2 l1 l2 2 ((i : Nat) : Int)) (sk := [0, 1, 3, 7, 11, 12, 13]) (hk := [0, 4, 5, 7, 21, 30, 39, 43, 44, 45, 46, 51, 55, 56]) (lk := [(56, [6, 10, 11])]) (ex := .normal)
    (L := neI (rangeB Try.f9 0) gs pub vars n A0 B1 B2 l1 (putL l2 g.w2 (i, 2)) 2 (IntKind.i64.wrap (((i : Nat) : Int) + 1))) (by kernel_rfl)
    (And.intro (stO_cond (p := [.c (.int .i64 ((fp.1 : Nat) : Int)), .c (.int .i64 ((fp.2 : Nat) : Int))]) hs2 rfl)
    (And.intro (show ((i : Nat) : Int) = ((i : Nat) : Int) ∧ i < n from ⟨rfl, hin⟩)
    (And.intro (looks_one l1 d1 g.w2 fp hf)
    (And.intro (puts_at l2 d2 g.w2 (i, 2))
    (And.intro (stO_cond (p := [.c (.int .i64 ((i : Nat) : Int)), .c (.int .i64 2)]) hs1 rfl)
    (And.intro (show ((ro : Nat) : Int) = ((ro : Nat) : Int) ∧ ro < n from ⟨rfl, hro⟩)
    (And.intro (looks_yes l2 d2 g.w2 (ro, 1) hl)
    (And.intro (show decide (g.w2 ≥ 0) = true from decide_eq_true h)
    (And.intro (gate_at gs i g hg)
    (And.intro (show ((i : Nat) : Int) = ((i : Nat) : Int) ∧ i < gs.length from ⟨rfl, hi⟩)
    (And.intro (show decide (((i : Nat) : Int) < ((gs.length : Nat) : Int)) = true from decide_eq_true (by omega)) trivial)))))))))))
  rw [r_next (by omega)] at hh
  exact hh
theorem no22 (gs : List GT) (pub vars : Int) (n : Nat) (A0 A1 A2 : List Value) (l1 l2 : List (Int × (Nat × Nat))) (hm : gs.length ≤ 1000) (i : Nat) (g : GT) (hg : gs[i]? = some g) (h : g.w2 ≥ 0) (hin : i < n) (d1 : DistL l1) (d2 : DistL l2) (ro : Nat) (hro : ro < n) (fp : Nat × Nat) (hl : lookM l2 g.w2 = some (ro, 2)) (hf : lookM l1 g.w2 = some fp) (B1 B2 : List Value) (hs1 : stO 2 A2 B1 ro (flat [.c (.int .i64 ((i : Nat) : Int)), .c (.int .i64 2)])) (hs2 : stO 2 B1 B2 i (flat [.c (.int .i64 ((fp.1 : Nat) : Int)), .c (.int .i64 ((fp.2 : Nat) : Int))])) : Sound Try.prog 57 false (loopB Try.f44 1) (neI (rangeB Try.f9 0) gs pub vars n A0 A1 A2 l1 l2 2 ((i : Nat) : Int)).aa .normal (neI (rangeB Try.f9 0) gs pub vars n A0 A1 B2 l1 (putL l2 g.w2 (i, 2)) 2 ((i + 1 : Nat) : Int)).aa := by
  have hi := glt hg
  have hh := roundK_sound (P := Try.prog) (X := rulesM _) (env := []) trivial (n := 2) (os := (oL [(66, wT), (68, rO 14 i), (69, { ch := 0, hi := fun _ => 0, ru := 8, cs := fun _ => gP g }), (79, wT), (92, { ch := 0, hi := fun _ => 0, ru := 16, av := fun _ => .tp [.ag [.c (.int .i64 ((ro : Nat) : Int)), .c (.int .i64 2)], .v (.bool true)] }), (107, rO 9 ro), (108, { ch := 0, hi := fun _ => 0, ex := 5, cs := fun _ => [.l B1] }), (112, { ch := 0, hi := fun _ => 0, ex := 10, lp := some { I := { n := 0, sl := [], hp := [] }, ex := .ret, E := { n := 0, sl := [], hp := [(0, .ob (mapO kI vI (putL l2 g.w2 (i, 2))))] }, fr := 0 } }), (121, { ch := 0, hi := fun _ => 0, ru := 16, av := fun _ => .ag [.c (.int .i64 ((fp.1 : Nat) : Int)), .c (.int .i64 ((fp.2 : Nat) : Int))] }), (122, rO 9 i), (123, { ch := 0, hi := fun _ => 0, ex := 5, cs := fun _ => [.l B2] })])) (fb := 57) (rd := false) (c := (loopB Try.f44 1)) (k := 66) (I := neI (rangeB Try.f9 0) gs pub vars n A0 A1 A2 l1 l2 2 ((i : Nat) : Int)) (sk := [0, 1, 3, 7, 11, 12, 13]) (hk := [0, 4, 5, 7, 21, 30, 39, 43, 44, 45, 46, 51, 55, 56]) (lk := [(56, [6, 10, 11])]) (ex := .normal)
    (L := neI (rangeB Try.f9 0) gs pub vars n A0 A1 B2 l1 (putL l2 g.w2 (i, 2)) 2 (IntKind.i64.wrap (((i : Nat) : Int) + 1))) (by kernel_rfl)
    (And.intro (stO_cond (p := [.c (.int .i64 ((fp.1 : Nat) : Int)), .c (.int .i64 ((fp.2 : Nat) : Int))]) hs2 rfl)
    (And.intro (show ((i : Nat) : Int) = ((i : Nat) : Int) ∧ i < n from ⟨rfl, hin⟩)
    (And.intro (looks_one l1 d1 g.w2 fp hf)
    (And.intro (puts_at l2 d2 g.w2 (i, 2))
    (And.intro (stO_cond (p := [.c (.int .i64 ((i : Nat) : Int)), .c (.int .i64 2)]) hs1 rfl)
    (And.intro (show ((ro : Nat) : Int) = ((ro : Nat) : Int) ∧ ro < n from ⟨rfl, hro⟩)
    (And.intro (looks_yes l2 d2 g.w2 (ro, 2) hl)
    (And.intro (show decide (g.w2 ≥ 0) = true from decide_eq_true h)
    (And.intro (gate_at gs i g hg)
    (And.intro (show ((i : Nat) : Int) = ((i : Nat) : Int) ∧ i < gs.length from ⟨rfl, hi⟩)
    (And.intro (show decide (((i : Nat) : Int) < ((gs.length : Nat) : Int)) = true from decide_eq_true (by omega)) trivial)))))))))))
  rw [r_next (by omega)] at hh
  exact hh
theorem nx_end2 (gs : List GT) (pub vars : Int) (n : Nat) (A0 A1 A2 : List Value) (l1 l2 : List (Int × (Nat × Nat))) : Sound Try.prog 57 false (loopB Try.f44 1) (neI (rangeB Try.f9 0) gs pub vars n A0 A1 A2 l1 l2 2 ((gs.length : Nat) : Int)).aa (.exit 2) (neE (rangeB Try.f9 0) gs pub vars n A0 A1 A2 l1 l2 2).aa := by
  have hh := roundK_sound (P := Try.prog) (X := rulesM _) (env := []) trivial (n := 2) (os := (oL [(66, wF)])) (fb := 57) (rd := false) (c := (loopB Try.f44 1)) (k := 66) (I := neI (rangeB Try.f9 0) gs pub vars n A0 A1 A2 l1 l2 2 ((gs.length : Nat) : Int)) (sk := [0, 1, 7]) (hk := [0, 4, 5, 7, 21, 30, 39, 43, 44, 45, 46, 51, 55, 56]) (lk := [(56, [6, 10, 11])]) (ex := (.exit 2))
    (L := neE (rangeB Try.f9 0) gs pub vars n A0 A1 A2 l1 l2 2) (by kernel_rfl)
    (And.intro (show decide (((gs.length : Nat) : Int) < ((gs.length : Nat) : Int)) = false from decide_eq_false (by omega)) trivial)
  exact hh
end Go.Proofs.Ytoigbjimhcgolaa

/- sigma.Next: whole. -/
set_option linter.unusedSimpArgs false
set_option linter.unusedVariables false
namespace Go.Proofs.Ytoigbjimhcgolaa
open Go.Ev Go.RowKit

/-- The maps when the places ahead of Q have been seen. -/
def ml (F : Nat → Int) (n : Nat) : Nat → List (Int × (Nat × Nat)) × List (Int × (Nat × Nat))
  | 0 => ([], [])
  | Q + 1 => if F Q < 0 then ml F n Q else match lastI F Q (F Q) with
    | none => (putL (ml F n Q).1 (F Q) (pl n Q), putL (ml F n Q).2 (F Q) (pl n Q))
    | some _ => ((ml F n Q).1, putL (ml F n Q).2 (F Q) (pl n Q))
theorem ml_neg {F : Nat → Int} {n Q : Nat} (h : F Q < 0) : ml F n (Q + 1) = ml F n Q := by simp only [ml, if_pos h]
theorem ml_new {F : Nat → Int} {n Q : Nat} (h : 0 ≤ F Q) (hn : lastI F Q (F Q) = none) : ml F n (Q + 1) = (putL (ml F n Q).1 (F Q) (pl n Q), putL (ml F n Q).2 (F Q) (pl n Q)) := by
  simp only [ml, if_neg (show ¬ F Q < 0 by omega), hn]
theorem ml_old {F : Nat → Int} {n Q o : Nat} (h : 0 ≤ F Q) (hn : lastI F Q (F Q) = some o) : ml F n (Q + 1) = ((ml F n Q).1, putL (ml F n Q).2 (F Q) (pl n Q)) := by
  simp only [ml, if_neg (show ¬ F Q < 0 by omega), hn]
theorem ml_ok (F : Nat → Int) (n : Nat) : ∀ Q, MapsOK F n Q (ml F n Q).1 (ml F n Q).2
  | 0 => mapsOK_zero F n
  | Q + 1 => by
    have ih := ml_ok F n Q
    by_cases h : F Q < 0
    · rw [ml_neg h]; exact mapsOK_neg ih h
    · cases e : lastI F Q (F Q) with
      | none => rw [ml_new (by omega) e]; exact mapsOK_new ih (by omega) e
      | some o =>
        obtain ⟨f, hf⟩ := first_of_last e
        rw [ml_old (by omega) e]; exact mapsOK_old ih (by omega) hf
theorem rowQ_eq {F : Nat → Int} {n Q Q' j : Nat} (h : ∀ i, i < n → valI F Q' (j * n + i) = valI F Q (j * n + i)) : rowQ F n Q' j = rowQ F n Q j := tabG_congr _ _ _ _ (fun i hi => by rw [h i hi])
theorem wi_inj {n w w' i i' : Nat} (h : i < n) (h' : i' < n) (e : w * n + i = w' * n + i') : w = w' ∧ i = i' := by
  have h1 := pl_of_wi (w := w) h
  rw [e, pl_of_wi h'] at h1
  simp only [Prod.mk.injEq] at h1
  exact ⟨h1.2.symm, h1.1.symm⟩
/-- Row j when place o got Q behind it. -/
def row1 (F : Nat → Int) (n Q o j : Nat) : List Value := tabG plV n (fun i => pl n (if j * n + i = o then Q else valI F Q (j * n + i)))
theorem row1_same {F : Nat → Int} {n Q o j : Nat} (h : o / n ≠ j) : row1 F n Q o j = rowQ F n Q j := tabG_congr _ _ _ _ (fun i hi => by
  rw [if_neg (fun e => h (by rw [← e]; exact (pl_div hi).1))])
theorem row1_set {F : Nat → Int} {n Q o : Nat} (hn : 0 < n) : stO 2 (rowQ F n Q (o / n)) (row1 F n Q o (o / n)) (o % n) (plV (pl n Q)) := by
  have e : o / n * n + o % n = o := pl_eq
  refine tabG_set plV plV_len n _ _ (o % n) (Nat.mod_lt _ hn) _ (by rw [if_pos e]) (fun j hj hne => ?_)
  rw [if_neg (fun e2 => hne (wi_inj hj (Nat.mod_lt _ hn) (e2.trans e.symm)).2)]
theorem rowQ_old {F : Nat → Int} {n w i o f : Nat} (hi : i < n) (h : 0 ≤ F (w * n + i)) (hl : lastI F (w * n + i) (F (w * n + i)) = some o) (hf : firstI F (w * n + i) (F (w * n + i)) = some f) :
    stO 2 (row1 F n (w * n + i) o w) (rowQ F n (w * n + i + 1) w) i (plV (pl n f)) ∧ ∀ j, j ≠ w → rowQ F n (w * n + i + 1) j = row1 F n (w * n + i) o j := by
  refine ⟨tabG_set plV plV_len n _ _ i hi _ (by rw [valI_old h hl hf, if_pos rfl]) (fun j hj hne => ?_), fun j hj => tabG_congr _ _ _ _ (fun i' hi' => ?_)⟩
  · rw [valI_old h hl hf, if_neg (fun e => hne (wi_inj hj hi e).2)]
  · rw [valI_old h hl hf, if_neg (fun e => hj (wi_inj hi' hi e).1)]
theorem rowQ_new {F : Nat → Int} {n w i : Nat} (hi : i < n) (h : 0 ≤ F (w * n + i)) (hl : lastI F (w * n + i) (F (w * n + i)) = none) :
    stO 2 (rowQ F n (w * n + i) w) (rowQ F n (w * n + i + 1) w) i (plV (i, w)) ∧ ∀ j, j ≠ w → rowQ F n (w * n + i + 1) j = rowQ F n (w * n + i) j := by
  refine ⟨tabG_set plV plV_len n _ _ i hi _ (by rw [valI_new h hl, if_pos rfl]; exact pl_of_wi hi) (fun j hj hne => ?_), fun j hj => rowQ_eq (fun i' hi' => ?_)⟩
  · rw [valI_new h hl, if_neg (fun e => hne (wi_inj hj hi e).2)]
  · rw [valI_new h hl, if_neg (fun e => hj (wi_inj hi' hi e).1)]
theorem rowQ_neg {F : Nat → Int} {n Q : Nat} (h : F Q < 0) (j : Nat) : rowQ F n (Q + 1) j = rowQ F n Q j := rowQ_eq (fun i _ => valI_neg h _)
/-- Nothing turns where there are no variables. -/
theorem skip_all {F : Nat → Int} {n Q : Nat} : ∀ k, (∀ x, Q ≤ x → x < Q + k → F x < 0) → ml F n (Q + k) = ml F n Q ∧ ∀ j, rowQ F n (Q + k) j = rowQ F n Q j
  | 0, _ => ⟨rfl, fun _ => rfl⟩
  | k + 1, h => by
    obtain ⟨h1, h2⟩ := skip_all (F := F) (n := n) (Q := Q) k (fun x a b => h x a (by omega))
    have h3 := h (Q + k) (by omega) (by omega)
    exact ⟨by rw [← Nat.add_assoc, ml_neg h3, h1], fun j => by rw [← Nat.add_assoc, rowQ_neg h3, h2]⟩
theorem lt3 {x : Nat} (h : x < 3) : x = 0 ∨ x = 1 ∨ x = 2 := by omega
theorem vf_wi {gs : List GT} {n w i : Nat} (hi : i < n) : vf gs n (w * n + i) = wAt gs i w := by unfold vf; rw [(pl_div hi).1, (pl_div hi).2]
theorem wAt_g {gs : List GT} {i w : Nat} {g : GT} (h : gs[i]? = some g) : wAt gs i w = wv g w := by unfold wAt; rw [h]
theorem wAt_no {gs : List GT} {i w : Nat} (h : gs.length ≤ i) : wAt gs i w = -1 := by unfold wAt; rw [List.getElem?_eq_none_iff.2 h]
theorem nstep0 (gs : List GT) (pub vars : Int) (n : Nat) (hm : gs.length ≤ 1000) (i : Nat) (hin : i < n) (g : GT) (hg : gs[i]? = some g) : Sound Try.prog 57 false (loopB Try.f44 1) (neI (rangeB Try.f9 0) gs pub vars n (rowQ (vf gs n) n (0 * n + i) 0) (rowQ (vf gs n) n (0 * n + i) 1) (rowQ (vf gs n) n (0 * n + i) 2) (ml (vf gs n) n (0 * n + i)).1 (ml (vf gs n) n (0 * n + i)).2 0 ((i : Nat) : Int)).aa .normal (neI (rangeB Try.f9 0) gs pub vars n (rowQ (vf gs n) n (0 * n + i + 1) 0) (rowQ (vf gs n) n (0 * n + i + 1) 1) (rowQ (vf gs n) n (0 * n + i + 1) 2) (ml (vf gs n) n (0 * n + i + 1)).1 (ml (vf gs n) n (0 * n + i + 1)).2 0 ((i + 1 : Nat) : Int)).aa := by
  have hF : vf gs n (0 * n + i) = g.w0 := by rw [vf_wi hin, wAt_g hg]; rfl
  have hM := ml_ok (vf gs n) n (0 * n + i)
  by_cases h : g.w0 < 0
  · have h' : vf gs n (0 * n + i) < 0 := by rw [hF]; exact h
    rw [rowQ_neg h', rowQ_neg h', rowQ_neg h', ml_neg h']
    exact ng0 gs pub vars n _ _ _ _ _ hm i g hg h
  · have h0 : 0 ≤ vf gs n (0 * n + i) := by rw [hF]; omega
    cases e : lastI (vf gs n) (0 * n + i) (vf gs n (0 * n + i)) with
    | none =>
      obtain ⟨s1, s2⟩ := rowQ_new hin h0 e
      rw [s2 1 (by decide), s2 2 (by decide), ml_new h0 e, pl_of_wi hin, hF]
      have hl := hM.m2 g.w0 (by omega)
      rw [← hF, e, hF] at hl
      exact nn0 gs pub vars n _ _ _ _ _ hm i g hg (by omega) hin hM.d1 hM.d2 hl _ s1
    | some o =>
      obtain ⟨f, hf⟩ := first_of_last e
      obtain ⟨s1, s2⟩ := rowQ_old hin h0 e hf
      obtain ⟨e1, e2, e3⟩ := lastI_some e
      have hn : 0 < n := by omega
      have s3 := row1_set (F := vf gs n) (n := n) (Q := 0 * n + i) (o := o) hn
      have hl := hM.m2 g.w0 (by omega)
      rw [← hF, e, hF] at hl
      have hk := hM.m1 g.w0 (by omega)
      rw [← hF, hf, hF] at hk
      simp only [Option.map_some] at hl hk
      rw [ml_old h0 e, hF, pl_of_wi hin]
      rw [pl_of_wi hin] at s3
      have ho : o / n < 3 := (Nat.div_lt_iff_lt_mul hn).2 (by omega)
      have hr : o % n < n := Nat.mod_lt _ hn
      have hpl : pl n o = (o % n, o / n) := rfl
      rw [hpl] at hl
      have s4 := fun j (hj : o / n ≠ j) => row1_same (F := vf gs n) (n := n) (Q := 0 * n + i) (o := o) hj
      generalize o % n = ro at *
      rcases lt3 ho with q | q | q
      · rw [q] at hl s3 s4
        rw [s2 1 (by decide), s2 2 (by decide), s4 1 (by decide), s4 2 (by decide)]
        exact no00 gs pub vars n _ _ _ _ _ hm i g hg (by omega) hin hM.d1 hM.d2 _ hr _ hl hk _ _ s3 s1
      · rw [q] at hl s3 s4
        rw [s4 0 (by decide)] at s1
        rw [s2 1 (by decide), s2 2 (by decide), s4 2 (by decide)]
        exact no01 gs pub vars n _ _ _ _ _ hm i g hg (by omega) hin hM.d1 hM.d2 _ hr _ hl hk _ _ s3 s1
      · rw [q] at hl s3 s4
        rw [s4 0 (by decide)] at s1
        rw [s2 1 (by decide), s2 2 (by decide), s4 1 (by decide)]
        exact no02 gs pub vars n _ _ _ _ _ hm i g hg (by omega) hin hM.d1 hM.d2 _ hr _ hl hk _ _ s3 s1
theorem nloop0 (gs : List GT) (pub vars : Int) (n : Nat) (hm : gs.length ≤ 1000) (hln : gs.length ≤ n) : Sound Try.prog 57 false (.loop (loopB Try.f44 1)) (neI (rangeB Try.f9 0) gs pub vars n (rowQ (vf gs n) n (0 * n) 0) (rowQ (vf gs n) n (0 * n) 1) (rowQ (vf gs n) n (0 * n) 2) (ml (vf gs n) n (0 * n)).1 (ml (vf gs n) n (0 * n)).2 0 0).aa (.exit 2) (neE (rangeB Try.f9 0) gs pub vars n (rowQ (vf gs n) n (0 * n + gs.length) 0) (rowQ (vf gs n) n (0 * n + gs.length) 1) (rowQ (vf gs n) n (0 * n + gs.length) 2) (ml (vf gs n) n (0 * n + gs.length)).1 (ml (vf gs n) n (0 * n + gs.length)).2 0).aa := by
  refine loop_ok (m := fun y : { i : Nat // i ≤ gs.length } => gs.length - y.val) (fun y => neI (rangeB Try.f9 0) gs pub vars n (rowQ (vf gs n) n (0 * n + y.val) 0) (rowQ (vf gs n) n (0 * n + y.val) 1) (rowQ (vf gs n) n (0 * n + y.val) 2) (ml (vf gs n) n (0 * n + y.val)).1 (ml (vf gs n) n (0 * n + y.val)).2 0 ((y.val : Nat) : Int)) (by simp) (fun y => ?_) ⟨0, by omega⟩
  obtain ⟨i, hi⟩ := y
  by_cases e : i < gs.length
  · obtain ⟨g, hg⟩ := gof e
    exact .inl ⟨⟨i + 1, e⟩, by show gs.length - (i + 1) < gs.length - i; omega, nstep0 gs pub vars n hm i (by omega) g hg⟩
  · have e : i = gs.length := by omega
    subst e
    exact .inr (nx_end0 gs pub vars n _ _ _ _ _)
theorem nstep1 (gs : List GT) (pub vars : Int) (n : Nat) (hm : gs.length ≤ 1000) (i : Nat) (hin : i < n) (g : GT) (hg : gs[i]? = some g) : Sound Try.prog 57 false (loopB Try.f44 1) (neI (rangeB Try.f9 0) gs pub vars n (rowQ (vf gs n) n (1 * n + i) 0) (rowQ (vf gs n) n (1 * n + i) 1) (rowQ (vf gs n) n (1 * n + i) 2) (ml (vf gs n) n (1 * n + i)).1 (ml (vf gs n) n (1 * n + i)).2 1 ((i : Nat) : Int)).aa .normal (neI (rangeB Try.f9 0) gs pub vars n (rowQ (vf gs n) n (1 * n + i + 1) 0) (rowQ (vf gs n) n (1 * n + i + 1) 1) (rowQ (vf gs n) n (1 * n + i + 1) 2) (ml (vf gs n) n (1 * n + i + 1)).1 (ml (vf gs n) n (1 * n + i + 1)).2 1 ((i + 1 : Nat) : Int)).aa := by
  have hF : vf gs n (1 * n + i) = g.w1 := by rw [vf_wi hin, wAt_g hg]; rfl
  have hM := ml_ok (vf gs n) n (1 * n + i)
  by_cases h : g.w1 < 0
  · have h' : vf gs n (1 * n + i) < 0 := by rw [hF]; exact h
    rw [rowQ_neg h', rowQ_neg h', rowQ_neg h', ml_neg h']
    exact ng1 gs pub vars n _ _ _ _ _ hm i g hg h
  · have h0 : 0 ≤ vf gs n (1 * n + i) := by rw [hF]; omega
    cases e : lastI (vf gs n) (1 * n + i) (vf gs n (1 * n + i)) with
    | none =>
      obtain ⟨s1, s2⟩ := rowQ_new hin h0 e
      rw [s2 0 (by decide), s2 2 (by decide), ml_new h0 e, pl_of_wi hin, hF]
      have hl := hM.m2 g.w1 (by omega)
      rw [← hF, e, hF] at hl
      exact nn1 gs pub vars n _ _ _ _ _ hm i g hg (by omega) hin hM.d1 hM.d2 hl _ s1
    | some o =>
      obtain ⟨f, hf⟩ := first_of_last e
      obtain ⟨s1, s2⟩ := rowQ_old hin h0 e hf
      obtain ⟨e1, e2, e3⟩ := lastI_some e
      have hn : 0 < n := by omega
      have s3 := row1_set (F := vf gs n) (n := n) (Q := 1 * n + i) (o := o) hn
      have hl := hM.m2 g.w1 (by omega)
      rw [← hF, e, hF] at hl
      have hk := hM.m1 g.w1 (by omega)
      rw [← hF, hf, hF] at hk
      simp only [Option.map_some] at hl hk
      rw [ml_old h0 e, hF, pl_of_wi hin]
      rw [pl_of_wi hin] at s3
      have ho : o / n < 3 := (Nat.div_lt_iff_lt_mul hn).2 (by omega)
      have hr : o % n < n := Nat.mod_lt _ hn
      have hpl : pl n o = (o % n, o / n) := rfl
      rw [hpl] at hl
      have s4 := fun j (hj : o / n ≠ j) => row1_same (F := vf gs n) (n := n) (Q := 1 * n + i) (o := o) hj
      generalize o % n = ro at *
      rcases lt3 ho with q | q | q
      · rw [q] at hl s3 s4
        rw [s4 1 (by decide)] at s1
        rw [s2 0 (by decide), s2 2 (by decide), s4 2 (by decide)]
        exact no10 gs pub vars n _ _ _ _ _ hm i g hg (by omega) hin hM.d1 hM.d2 _ hr _ hl hk _ _ s3 s1
      · rw [q] at hl s3 s4
        rw [s2 0 (by decide), s2 2 (by decide), s4 0 (by decide), s4 2 (by decide)]
        exact no11 gs pub vars n _ _ _ _ _ hm i g hg (by omega) hin hM.d1 hM.d2 _ hr _ hl hk _ _ s3 s1
      · rw [q] at hl s3 s4
        rw [s4 1 (by decide)] at s1
        rw [s2 0 (by decide), s2 2 (by decide), s4 0 (by decide)]
        exact no12 gs pub vars n _ _ _ _ _ hm i g hg (by omega) hin hM.d1 hM.d2 _ hr _ hl hk _ _ s3 s1
theorem nloop1 (gs : List GT) (pub vars : Int) (n : Nat) (hm : gs.length ≤ 1000) (hln : gs.length ≤ n) : Sound Try.prog 57 false (.loop (loopB Try.f44 1)) (neI (rangeB Try.f9 0) gs pub vars n (rowQ (vf gs n) n (1 * n) 0) (rowQ (vf gs n) n (1 * n) 1) (rowQ (vf gs n) n (1 * n) 2) (ml (vf gs n) n (1 * n)).1 (ml (vf gs n) n (1 * n)).2 1 0).aa (.exit 2) (neE (rangeB Try.f9 0) gs pub vars n (rowQ (vf gs n) n (1 * n + gs.length) 0) (rowQ (vf gs n) n (1 * n + gs.length) 1) (rowQ (vf gs n) n (1 * n + gs.length) 2) (ml (vf gs n) n (1 * n + gs.length)).1 (ml (vf gs n) n (1 * n + gs.length)).2 1).aa := by
  refine loop_ok (m := fun y : { i : Nat // i ≤ gs.length } => gs.length - y.val) (fun y => neI (rangeB Try.f9 0) gs pub vars n (rowQ (vf gs n) n (1 * n + y.val) 0) (rowQ (vf gs n) n (1 * n + y.val) 1) (rowQ (vf gs n) n (1 * n + y.val) 2) (ml (vf gs n) n (1 * n + y.val)).1 (ml (vf gs n) n (1 * n + y.val)).2 1 ((y.val : Nat) : Int)) (by simp) (fun y => ?_) ⟨0, by omega⟩
  obtain ⟨i, hi⟩ := y
  by_cases e : i < gs.length
  · obtain ⟨g, hg⟩ := gof e
    exact .inl ⟨⟨i + 1, e⟩, by show gs.length - (i + 1) < gs.length - i; omega, nstep1 gs pub vars n hm i (by omega) g hg⟩
  · have e : i = gs.length := by omega
    subst e
    exact .inr (nx_end1 gs pub vars n _ _ _ _ _)
theorem nstep2 (gs : List GT) (pub vars : Int) (n : Nat) (hm : gs.length ≤ 1000) (i : Nat) (hin : i < n) (g : GT) (hg : gs[i]? = some g) : Sound Try.prog 57 false (loopB Try.f44 1) (neI (rangeB Try.f9 0) gs pub vars n (rowQ (vf gs n) n (2 * n + i) 0) (rowQ (vf gs n) n (2 * n + i) 1) (rowQ (vf gs n) n (2 * n + i) 2) (ml (vf gs n) n (2 * n + i)).1 (ml (vf gs n) n (2 * n + i)).2 2 ((i : Nat) : Int)).aa .normal (neI (rangeB Try.f9 0) gs pub vars n (rowQ (vf gs n) n (2 * n + i + 1) 0) (rowQ (vf gs n) n (2 * n + i + 1) 1) (rowQ (vf gs n) n (2 * n + i + 1) 2) (ml (vf gs n) n (2 * n + i + 1)).1 (ml (vf gs n) n (2 * n + i + 1)).2 2 ((i + 1 : Nat) : Int)).aa := by
  have hF : vf gs n (2 * n + i) = g.w2 := by rw [vf_wi hin, wAt_g hg]; rfl
  have hM := ml_ok (vf gs n) n (2 * n + i)
  by_cases h : g.w2 < 0
  · have h' : vf gs n (2 * n + i) < 0 := by rw [hF]; exact h
    rw [rowQ_neg h', rowQ_neg h', rowQ_neg h', ml_neg h']
    exact ng2 gs pub vars n _ _ _ _ _ hm i g hg h
  · have h0 : 0 ≤ vf gs n (2 * n + i) := by rw [hF]; omega
    cases e : lastI (vf gs n) (2 * n + i) (vf gs n (2 * n + i)) with
    | none =>
      obtain ⟨s1, s2⟩ := rowQ_new hin h0 e
      rw [s2 0 (by decide), s2 1 (by decide), ml_new h0 e, pl_of_wi hin, hF]
      have hl := hM.m2 g.w2 (by omega)
      rw [← hF, e, hF] at hl
      exact nn2 gs pub vars n _ _ _ _ _ hm i g hg (by omega) hin hM.d1 hM.d2 hl _ s1
    | some o =>
      obtain ⟨f, hf⟩ := first_of_last e
      obtain ⟨s1, s2⟩ := rowQ_old hin h0 e hf
      obtain ⟨e1, e2, e3⟩ := lastI_some e
      have hn : 0 < n := by omega
      have s3 := row1_set (F := vf gs n) (n := n) (Q := 2 * n + i) (o := o) hn
      have hl := hM.m2 g.w2 (by omega)
      rw [← hF, e, hF] at hl
      have hk := hM.m1 g.w2 (by omega)
      rw [← hF, hf, hF] at hk
      simp only [Option.map_some] at hl hk
      rw [ml_old h0 e, hF, pl_of_wi hin]
      rw [pl_of_wi hin] at s3
      have ho : o / n < 3 := (Nat.div_lt_iff_lt_mul hn).2 (by omega)
      have hr : o % n < n := Nat.mod_lt _ hn
      have hpl : pl n o = (o % n, o / n) := rfl
      rw [hpl] at hl
      have s4 := fun j (hj : o / n ≠ j) => row1_same (F := vf gs n) (n := n) (Q := 2 * n + i) (o := o) hj
      generalize o % n = ro at *
      rcases lt3 ho with q | q | q
      · rw [q] at hl s3 s4
        rw [s4 2 (by decide)] at s1
        rw [s2 0 (by decide), s2 1 (by decide), s4 1 (by decide)]
        exact no20 gs pub vars n _ _ _ _ _ hm i g hg (by omega) hin hM.d1 hM.d2 _ hr _ hl hk _ _ s3 s1
      · rw [q] at hl s3 s4
        rw [s4 2 (by decide)] at s1
        rw [s2 0 (by decide), s2 1 (by decide), s4 0 (by decide)]
        exact no21 gs pub vars n _ _ _ _ _ hm i g hg (by omega) hin hM.d1 hM.d2 _ hr _ hl hk _ _ s3 s1
      · rw [q] at hl s3 s4
        rw [s2 0 (by decide), s2 1 (by decide), s4 0 (by decide), s4 1 (by decide)]
        exact no22 gs pub vars n _ _ _ _ _ hm i g hg (by omega) hin hM.d1 hM.d2 _ hr _ hl hk _ _ s3 s1
theorem nloop2 (gs : List GT) (pub vars : Int) (n : Nat) (hm : gs.length ≤ 1000) (hln : gs.length ≤ n) : Sound Try.prog 57 false (.loop (loopB Try.f44 1)) (neI (rangeB Try.f9 0) gs pub vars n (rowQ (vf gs n) n (2 * n) 0) (rowQ (vf gs n) n (2 * n) 1) (rowQ (vf gs n) n (2 * n) 2) (ml (vf gs n) n (2 * n)).1 (ml (vf gs n) n (2 * n)).2 2 0).aa (.exit 2) (neE (rangeB Try.f9 0) gs pub vars n (rowQ (vf gs n) n (2 * n + gs.length) 0) (rowQ (vf gs n) n (2 * n + gs.length) 1) (rowQ (vf gs n) n (2 * n + gs.length) 2) (ml (vf gs n) n (2 * n + gs.length)).1 (ml (vf gs n) n (2 * n + gs.length)).2 2).aa := by
  refine loop_ok (m := fun y : { i : Nat // i ≤ gs.length } => gs.length - y.val) (fun y => neI (rangeB Try.f9 0) gs pub vars n (rowQ (vf gs n) n (2 * n + y.val) 0) (rowQ (vf gs n) n (2 * n + y.val) 1) (rowQ (vf gs n) n (2 * n + y.val) 2) (ml (vf gs n) n (2 * n + y.val)).1 (ml (vf gs n) n (2 * n + y.val)).2 2 ((y.val : Nat) : Int)) (by simp) (fun y => ?_) ⟨0, by omega⟩
  obtain ⟨i, hi⟩ := y
  by_cases e : i < gs.length
  · obtain ⟨g, hg⟩ := gof e
    exact .inl ⟨⟨i + 1, e⟩, by show gs.length - (i + 1) < gs.length - i; omega, nstep2 gs pub vars n hm i (by omega) g hg⟩
  · have e : i = gs.length := by omega
    subst e
    exact .inr (nx_end2 gs pub vars n _ _ _ _ _)
theorem skip_gap (gs : List GT) (n w : Nat) (hw : w < 3) (hln : gs.length ≤ n) : ml (vf gs n) n (w * n + n) = ml (vf gs n) n (w * n + gs.length) ∧ ∀ j, rowQ (vf gs n) n (w * n + n) j = rowQ (vf gs n) n (w * n + gs.length) j := by
  have h := skip_all (F := vf gs n) (n := n) (Q := w * n + gs.length) (n - gs.length) (fun x h1 h2 => by
    obtain ⟨i, rfl⟩ : ∃ i, x = w * n + i := ⟨x - w * n, by omega⟩
    rw [vf_wi (by omega), wAt_no (by omega)]; decide)
  rw [show w * n + gs.length + (n - gs.length) = w * n + n by omega] at h
  exact h
theorem nloop1' (gs : List GT) (pub vars : Int) (n : Nat) (hm : gs.length ≤ 1000) (hln : gs.length ≤ n) : Sound Try.prog 57 false (.loop (loopB Try.f44 1)) (neI (rangeB Try.f9 0) gs pub vars n (rowQ (vf gs n) n (0 * n + gs.length) 0) (rowQ (vf gs n) n (0 * n + gs.length) 1) (rowQ (vf gs n) n (0 * n + gs.length) 2) (ml (vf gs n) n (0 * n + gs.length)).1 (ml (vf gs n) n (0 * n + gs.length)).2 1 0).aa (.exit 2) (neE (rangeB Try.f9 0) gs pub vars n (rowQ (vf gs n) n (1 * n + gs.length) 0) (rowQ (vf gs n) n (1 * n + gs.length) 1) (rowQ (vf gs n) n (1 * n + gs.length) 2) (ml (vf gs n) n (1 * n + gs.length)).1 (ml (vf gs n) n (1 * n + gs.length)).2 1).aa := by
  obtain ⟨h1, h2⟩ := skip_gap gs n 0 (by decide) hln
  rw [← h1, ← h2 0, ← h2 1, ← h2 2, show 0 * n + n = 1 * n by omega]
  exact nloop1 gs pub vars n hm hln
theorem nloop2' (gs : List GT) (pub vars : Int) (n : Nat) (hm : gs.length ≤ 1000) (hln : gs.length ≤ n) : Sound Try.prog 57 false (.loop (loopB Try.f44 1)) (neI (rangeB Try.f9 0) gs pub vars n (rowQ (vf gs n) n (1 * n + gs.length) 0) (rowQ (vf gs n) n (1 * n + gs.length) 1) (rowQ (vf gs n) n (1 * n + gs.length) 2) (ml (vf gs n) n (1 * n + gs.length)).1 (ml (vf gs n) n (1 * n + gs.length)).2 2 0).aa (.exit 2) (neE (rangeB Try.f9 0) gs pub vars n (rowQ (vf gs n) n (2 * n + gs.length) 0) (rowQ (vf gs n) n (2 * n + gs.length) 1) (rowQ (vf gs n) n (2 * n + gs.length) 2) (ml (vf gs n) n (2 * n + gs.length)).1 (ml (vf gs n) n (2 * n + gs.length)).2 2).aa := by
  obtain ⟨h1, h2⟩ := skip_gap gs n 1 (by decide) hln
  rw [← h1, ← h2 0, ← h2 1, ← h2 2, show 1 * n + n = 2 * n by omega]
  exact nloop2 gs pub vars n hm hln
theorem nloop0' (gs : List GT) (pub vars : Int) (n : Nat) (hm : gs.length ≤ 1000) (hln : gs.length ≤ n) : Sound Try.prog 57 false (.loop (loopB Try.f44 1)) (neI (rangeB Try.f9 0) gs pub vars n (tabG plV n (fun i => (i, 0))) (tabG plV n (fun i => (i, 1))) (tabG plV n (fun i => (i, 2))) [] [] 0 0).aa (.exit 2) (neE (rangeB Try.f9 0) gs pub vars n (rowQ (vf gs n) n (0 * n + gs.length) 0) (rowQ (vf gs n) n (0 * n + gs.length) 1) (rowQ (vf gs n) n (0 * n + gs.length) 2) (ml (vf gs n) n (0 * n + gs.length)).1 (ml (vf gs n) n (0 * n + gs.length)).2 0).aa := by
  have h := nloop0 gs pub vars n hm hln
  rw [Nat.zero_mul, rowQ_zero, rowQ_zero, rowQ_zero, ← Nat.zero_mul n] at h
  rw [show (0 * n : Nat) = 0 from Nat.zero_mul n] at h ⊢
  exact h
theorem next_m (gs : List GT) (pub vars : Int) (lg : Nat) (hl : lg ≤ 5) (n : Nat) (hn : n = 2 ^ lg) (h32 : n ≤ 1000) (h0 : 0 < n) (hm : gs.length ≤ 1000) (hln : gs.length ≤ n) (hck : ckE gs pub vars ((lg : Nat) : Int) = 0) (a b c : Nat) : GivesM Try.prog 9 [.ags [.z [.l (gsC gs)] gs.length, .c (.c (.int .i64 pub)), .c (.c (.int .i64 vars))], .t (.v (.int .i64 (((lg : Nat) : Int))))] (.tp [.ag [.sx a n, .sx b n, .sx c n], .v (.int .i64 0)]) [(a, .gr [.l (rowQ (vf gs n) n (3 * n) 0)] 44 2), (b, .gr [.l (rowQ (vf gs n) n (3 * n) 1)] 44 2), (c, .gr [.l (rowQ (vf gs n) n (3 * n) 2)] 44 2)] := by
  obtain ⟨_, h2⟩ := skip_gap gs n 2 (by decide) hln
  rw [show 3 * n = 2 * n + n by omega, h2 0, h2 1, h2 2]
  exact fnMs_gives (P := Try.prog) (X := rulesM _) (env := []) trivial Try.func9 (fun vs w => Go.Proofs.enters_of (P := Try.prog) Try.func9 (by kernel_rfl) rfl vs w) 3 (oL [(10, { ch := 0, hi := fun _ => 0, ex := 7, av := fun _ => .v (.int .i64 0) }), (19, shO lg n), (21, lpO { I := nxZ0 gs pub vars ((lg : Nat) : Int) n , ex := .exit 2, E := nxE0 gs pub vars ((lg : Nat) : Int) n (tabG plV n (fun i => (i, 0))), fr := 22 }), (28, shO lg n), (30, lpO { I := nxZ1 gs pub vars ((lg : Nat) : Int) n , ex := .exit 2, E := nxE1 gs pub vars ((lg : Nat) : Int) n (tabG plV n (fun i => (i, 1))), fr := 31 }), (37, shO lg n), (39, lpO { I := nxZ2 gs pub vars ((lg : Nat) : Int) n , ex := .exit 2, E := nxE2 gs pub vars ((lg : Nat) : Int) n (tabG plV n (fun i => (i, 2))), fr := 40 }), (43, { ch := 0, hi := fun _ => 0, ex := 9 }), (44, { ch := 0, hi := fun _ => 0, ex := 9 }), (65, lpO { I := neI (rangeB Try.f9 0) gs pub vars n (tabG plV n (fun i => (i, 0))) (tabG plV n (fun i => (i, 1))) (tabG plV n (fun i => (i, 2))) [] [] 0 0, ex := .exit 2, E := neE (rangeB Try.f9 0) gs pub vars n (rowQ (vf gs n) n (0 * n + gs.length) 0) (rowQ (vf gs n) n (0 * n + gs.length) 1) (rowQ (vf gs n) n (0 * n + gs.length) 2) (ml (vf gs n) n (0 * n + gs.length)).1 (ml (vf gs n) n (0 * n + gs.length)).2 0, fr := 66, lk := [(56, [6, 10, 11])] }), (75, lpO { I := neI (rangeB Try.f9 0) gs pub vars n (rowQ (vf gs n) n (0 * n + gs.length) 0) (rowQ (vf gs n) n (0 * n + gs.length) 1) (rowQ (vf gs n) n (0 * n + gs.length) 2) (ml (vf gs n) n (0 * n + gs.length)).1 (ml (vf gs n) n (0 * n + gs.length)).2 1 0, ex := .exit 2, E := neE (rangeB Try.f9 0) gs pub vars n (rowQ (vf gs n) n (1 * n + gs.length) 0) (rowQ (vf gs n) n (1 * n + gs.length) 1) (rowQ (vf gs n) n (1 * n + gs.length) 2) (ml (vf gs n) n (1 * n + gs.length)).1 (ml (vf gs n) n (1 * n + gs.length)).2 1, fr := 76, lk := [(56, [6, 10, 11])] }), (85, lpO { I := neI (rangeB Try.f9 0) gs pub vars n (rowQ (vf gs n) n (1 * n + gs.length) 0) (rowQ (vf gs n) n (1 * n + gs.length) 1) (rowQ (vf gs n) n (1 * n + gs.length) 2) (ml (vf gs n) n (1 * n + gs.length)).1 (ml (vf gs n) n (1 * n + gs.length)).2 2 0, ex := .exit 2, E := neE (rangeB Try.f9 0) gs pub vars n (rowQ (vf gs n) n (2 * n + gs.length) 0) (rowQ (vf gs n) n (2 * n + gs.length) 1) (rowQ (vf gs n) n (2 * n + gs.length) 2) (ml (vf gs n) n (2 * n + gs.length)).1 (ml (vf gs n) n (2 * n + gs.length)).2 2, fr := 86, lk := [(56, [6, 10, 11])] })]) (r0 := .tp [.ag [.sx 21 n, .sx 30 n, .sx 39 n], .v (.int .i64 0)]) [21, 30, 39] [(a, .gr [.l (rowQ (vf gs n) n (2 * n + gs.length) 0)] 44 2), (b, .gr [.l (rowQ (vf gs n) n (2 * n + gs.length) 1)] 44 2), (c, .gr [.l (rowQ (vf gs n) n (2 * n + gs.length) 2)] 44 2)] (by kernel_rfl)
    (And.intro (show some (neI (rangeB Try.f9 0) gs pub vars n (rowQ (vf gs n) n (1 * n + gs.length) 0) (rowQ (vf gs n) n (1 * n + gs.length) 1) (rowQ (vf gs n) n (1 * n + gs.length) 2) (ml (vf gs n) n (1 * n + gs.length)).1 (ml (vf gs n) n (1 * n + gs.length)).2 2 0) = some (neI (rangeB Try.f9 0) gs pub vars n (rowQ (vf gs n) n (1 * n + gs.length) 0) (rowQ (vf gs n) n (1 * n + gs.length) 1) (rowQ (vf gs n) n (1 * n + gs.length) 2) (ml (vf gs n) n (1 * n + gs.length)).1 (ml (vf gs n) n (1 * n + gs.length)).2 2 0) from rfl)
    (And.intro (nloop2' gs pub vars n hm hln)
    (And.intro (show some (neI (rangeB Try.f9 0) gs pub vars n (rowQ (vf gs n) n (0 * n + gs.length) 0) (rowQ (vf gs n) n (0 * n + gs.length) 1) (rowQ (vf gs n) n (0 * n + gs.length) 2) (ml (vf gs n) n (0 * n + gs.length)).1 (ml (vf gs n) n (0 * n + gs.length)).2 1 0) = some (neI (rangeB Try.f9 0) gs pub vars n (rowQ (vf gs n) n (0 * n + gs.length) 0) (rowQ (vf gs n) n (0 * n + gs.length) 1) (rowQ (vf gs n) n (0 * n + gs.length) 2) (ml (vf gs n) n (0 * n + gs.length)).1 (ml (vf gs n) n (0 * n + gs.length)).2 1 0) from rfl)
    (And.intro (nloop1' gs pub vars n hm hln)
    (And.intro (show some (neI (rangeB Try.f9 0) gs pub vars n (tabG plV n (fun i => (i, 0))) (tabG plV n (fun i => (i, 1))) (tabG plV n (fun i => (i, 2))) [] [] 0 0) = some (neI (rangeB Try.f9 0) gs pub vars n (tabG plV n (fun i => (i, 0))) (tabG plV n (fun i => (i, 1))) (tabG plV n (fun i => (i, 2))) [] [] 0 0) from rfl)
    (And.intro (nloop0' gs pub vars n hm hln)
    (And.intro (show some (nxZ2 gs pub vars ((lg : Nat) : Int) n ) = some (nxZ2 gs pub vars ((lg : Nat) : Int) n ) from rfl)
    (And.intro (xa2 gs pub vars ((lg : Nat) : Int) n h32 h0)
    (And.intro (show ((lg : Nat) : Int) = ((lg : Nat) : Int) ∧ IntKind.i64.wrap (1 * 2 ^ min lg IntKind.i64.bits) = ((n : Nat) : Int) from ⟨rfl, by rw [hn]; exact sh_num lg (by omega)⟩)
    (And.intro (show some (nxZ1 gs pub vars ((lg : Nat) : Int) n ) = some (nxZ1 gs pub vars ((lg : Nat) : Int) n ) from rfl)
    (And.intro (xa1 gs pub vars ((lg : Nat) : Int) n h32 h0)
    (And.intro (show ((lg : Nat) : Int) = ((lg : Nat) : Int) ∧ IntKind.i64.wrap (1 * 2 ^ min lg IntKind.i64.bits) = ((n : Nat) : Int) from ⟨rfl, by rw [hn]; exact sh_num lg (by omega)⟩)
    (And.intro (show some (nxZ0 gs pub vars ((lg : Nat) : Int) n ) = some (nxZ0 gs pub vars ((lg : Nat) : Int) n ) from rfl)
    (And.intro (xa0 gs pub vars ((lg : Nat) : Int) n h32 h0)
    (And.intro (show ((lg : Nat) : Int) = ((lg : Nat) : Int) ∧ IntKind.i64.wrap (1 * 2 ^ min lg IntKind.i64.bits) = ((n : Nat) : Int) from ⟨rfl, by rw [hn]; exact sh_num lg (by omega)⟩)
    (And.intro (show GivesE Try.prog 24 [.ags [.z [.l (gsC gs)] gs.length, .c (.c (.int .i64 pub)), .c (.c (.int .i64 vars))], .t (.v (.int .i64 (((lg : Nat) : Int))))] (.v (.int .i64 0)) from by have h := ck_e gs pub vars (by omega) ((lg : Nat) : Int); rw [hck] at h; exact h) trivial)))))))))))))))) _ (fun q hq => by simp only [List.mem_cons, List.not_mem_nil, or_false] at hq; rcases hq with rfl | rfl | rfl <;> rfl) (by decide) mv_three
end Go.Proofs.Ytoigbjimhcgolaa
