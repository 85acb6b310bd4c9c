/- Pruned: Ie. -/
import Derived.Test.YtoigbjimhcgolaaQId
/- sigma.Values: the places behind, as numbers. -/
set_option linter.unusedSimpArgs false
set_option linter.unusedVariables false
namespace Go.Proofs.Ytoigbjimhcgolaa
open Go.Ev Go.RowKit
theorem ldO {k : Nat} {B : List Value} {i : Nat} {p : List Ch} (h : (B.drop (i * k)).take k = flat p) (hp : sizes p = k) : sizes p = k ∧ ((flat [.l B]).drop (i * k)).take k = flat p := by
  rw [flat_l]
  exact ⟨hp, h⟩
theorem ee_flat (C : List Value) (y : Fin Rr) : flat [.l C, .e y] = flat [.l (C ++ eC y)] := by simp [flat, Ch.cells, eC]
/-- The number of a place, of what comes behind one. -/
def numP (lg : Nat) (p : Nat × Nat) : Fin Rr := npw (rt lg) p.1 * shf p.2
def valP (F : Nat → Int) (lg n w i : Nat) : Fin Rr := numP lg (pl n (valI F (3 * n) (w * n + i)))
end Go.Proofs.Ytoigbjimhcgolaa

/- Contracts at told arguments; chirographref19: Shift, Number. -/
set_option linter.unusedSimpArgs false
set_option linter.unusedVariables false
namespace Go.Proofs.Ytoigbjimhcgolaa
open Go.Ev Go.RowKit

/-- A contract at told arguments. -/
def eAs (f : FuncId) (l : List (List XV × AV)) : Entry := ⟨f, fun _ a => l.map fun q => (some (a = q.1), q.2)⟩
theorem eAs_ok {P : Program} {f : FuncId} {l : List (List XV × AV)} (h : ∀ q ∈ l, GivesE P f q.1 q.2) : (eAs f l).OK P := by
  intro hi args c r hm hc
  simp only [eAs, List.mem_map, Prod.mk.injEq] at hm
  obtain ⟨q, hq, rfl, rfl⟩ := hm
  simp only [Option.getD_some] at hc
  subst hc
  obtain ⟨he, v, hv, hx⟩ := h q hq
  exact ⟨v, hv, fun w vs hr => .inr ⟨he _ _, hx w vs hr⟩⟩
theorem eAs_one {P : Program} {f : FuncId} {a : List XV} {r : AV} (h : GivesE P f a r) : (eAs f [(a, r)]).OK P := eAs_ok (fun q hq => by rw [List.mem_singleton] at hq; subst hq; exact h)
theorem eAs_three {P : Program} {f : FuncId} {a b c : List XV} {r s t : AV} (h : GivesE P f a r) (h' : GivesE P f b s) (h'' : GivesE P f c t) : (eAs f [(a, r), (b, s), (c, t)]).OK P := eAs_ok (fun q hq => by
  simp only [List.mem_cons, List.not_mem_nil, or_false] at hq
  rcases hq with rfl | rfl | rfl
  · exact h
  · exact h'
  · exact h'')
theorem cutB {α : Type} (f : α → List Value) (m : Nat) (hf : ∀ a, (f a).length = m) (k : Nat) (g0 gs : List α) (h : gs = g0.take k) : (if (k : Int) < ((g0.length : Nat) : Int) then (k : Int) else ((g0.length : Nat) : Int)) = ((gs.length : Nat) : Int) ∧ gs.length ≤ g0.length ∧ flat [.l (gs.flatMap f)] = (flat [.l (g0.flatMap f)]).take (gs.length * m) := by
  have hl : gs.length = min k g0.length := by subst h; rw [List.length_take]
  refine ⟨?_, by omega, ?_⟩
  · split <;> omega
  rw [flat_l, flat_l]
  have e : g0 = gs ++ g0.drop k := by rw [h, List.take_append_drop]
  have hc : ∀ l : List α, (l.flatMap f).length = l.length * m := fun l => by
    induction l with
    | nil => simp
    | cons a l ih => rw [List.flatMap_cons, List.length_append, ih, hf, List.length_cons, Nat.succ_mul]; omega
  conv => rhs; rw [e, List.flatMap_append, ← hc gs, List.take_left]
theorem cut30 (g0 gs : List GT) (h : gs = g0.take 30) : (if (30 : Int) < ((g0.length : Nat) : Int) then (30 : Int) else ((g0.length : Nat) : Int)) = ((gs.length : Nat) : Int) ∧ gs.length ≤ g0.length ∧ flat [.l (gsC gs)] = (flat [.l (gsC g0)]).take (gs.length * 23) := cutB gC 23 gC_length 30 g0 gs h
theorem rshift_0 : GivesE Try.prog 14 [.t (.v (.int .i64 0))] (.ag [.e (shf 0)]) := by
  refine ⟨fun vs w => Go.Proofs.enters_of (P := Try.prog) Try.func14 (by kernel_rfl) rfl vs w, ?_⟩
  refine Gives.same (r := .ag [.c (.int .u64 1), .c (.int .u64 0), .c (.int .u64 0), .c (.int .u64 0)]) ?_ (by kernel_rfl)
  exact fn_gives_at (P := Try.prog) (X := rulesM _) (env := []) trivial Try.func14 0 (oL []) (by kernel_rfl) ⟨_, rfl⟩ trivial
theorem rshift_1 : GivesE Try.prog 14 [.t (.v (.int .i64 1))] (.ag [.e (shf 1)]) := by
  refine ⟨fun vs w => Go.Proofs.enters_of (P := Try.prog) Try.func14 (by kernel_rfl) rfl vs w, ?_⟩
  refine Gives.same (r := .ag [.c (.int .u64 7), .c (.int .u64 0), .c (.int .u64 0), .c (.int .u64 0)]) ?_ (by kernel_rfl)
  exact fn_gives_at (P := Try.prog) (X := rulesM _) (env := []) trivial Try.func14 0 (oL []) (by kernel_rfl) ⟨_, rfl⟩ trivial
theorem rshift_2 : GivesE Try.prog 14 [.t (.v (.int .i64 2))] (.ag [.e (shf 2)]) := by
  refine ⟨fun vs w => Go.Proofs.enters_of (P := Try.prog) Try.func14 (by kernel_rfl) rfl vs w, ?_⟩
  refine Gives.same (r := .ag [.c (.int .u64 49), .c (.int .u64 0), .c (.int .u64 0), .c (.int .u64 0)]) ?_ (by kernel_rfl)
  exact fn_gives_at (P := Try.prog) (X := rulesM _) (env := []) trivial Try.func14 0 (oL []) (by kernel_rfl) ⟨_, rfl⟩ trivial
theorem number_0 (n : Nat) (f : Nat → Fin Rr) (r : Nat) (hr : r < n) : Gives Try.prog 16 [.rx [.l (tab eC n f)] n, .t (.ag [.c (.int .i64 ((r : Nat) : Int)), .c (.int .i64 0)])] (.ag [.e (f r * shf 0)]) :=
  fn_gives_at (P := Try.prog) (X := rulesM _) (env := [eAs 14 [([.t (.v (.int .i64 0))], .ag [.e (shf 0)])], eMulSr]) ⟨eAs_one rshift_0, eMulSr_ok, trivial⟩ Try.func16 0 (oL [(6, rO 9 r), (7, { ch := 0, hi := fun _ => 0, ru := 8, cs := fun _ => [.e (f r)] })]) (by kernel_rfl) ⟨_, rfl⟩
    (And.intro (show [XV.t (.v (.int .i64 0))] = [XV.t (.v (.int .i64 0))] from rfl)
    (And.intro (ldO (p := [.e (f r)]) (tab_at eC eC_len n f r hr) rfl)
    (And.intro (show ((r : Nat) : Int) = ((r : Nat) : Int) ∧ r < n from ⟨rfl, hr⟩) trivial)))
theorem number_1 (n : Nat) (f : Nat → Fin Rr) (r : Nat) (hr : r < n) : Gives Try.prog 16 [.rx [.l (tab eC n f)] n, .t (.ag [.c (.int .i64 ((r : Nat) : Int)), .c (.int .i64 1)])] (.ag [.e (f r * shf 1)]) :=
  fn_gives_at (P := Try.prog) (X := rulesM _) (env := [eAs 14 [([.t (.v (.int .i64 1))], .ag [.e (shf 1)])], eMulSr]) ⟨eAs_one rshift_1, eMulSr_ok, trivial⟩ Try.func16 0 (oL [(6, rO 9 r), (7, { ch := 0, hi := fun _ => 0, ru := 8, cs := fun _ => [.e (f r)] })]) (by kernel_rfl) ⟨_, rfl⟩
    (And.intro (show [XV.t (.v (.int .i64 1))] = [XV.t (.v (.int .i64 1))] from rfl)
    (And.intro (ldO (p := [.e (f r)]) (tab_at eC eC_len n f r hr) rfl)
    (And.intro (show ((r : Nat) : Int) = ((r : Nat) : Int) ∧ r < n from ⟨rfl, hr⟩) trivial)))
theorem number_2 (n : Nat) (f : Nat → Fin Rr) (r : Nat) (hr : r < n) : Gives Try.prog 16 [.rx [.l (tab eC n f)] n, .t (.ag [.c (.int .i64 ((r : Nat) : Int)), .c (.int .i64 2)])] (.ag [.e (f r * shf 2)]) :=
  fn_gives_at (P := Try.prog) (X := rulesM _) (env := [eAs 14 [([.t (.v (.int .i64 2))], .ag [.e (shf 2)])], eMulSr]) ⟨eAs_one rshift_2, eMulSr_ok, trivial⟩ Try.func16 0 (oL [(6, rO 9 r), (7, { ch := 0, hi := fun _ => 0, ru := 8, cs := fun _ => [.e (f r)] })]) (by kernel_rfl) ⟨_, rfl⟩
    (And.intro (show [XV.t (.v (.int .i64 2))] = [XV.t (.v (.int .i64 2))] from rfl)
    (And.intro (ldO (p := [.e (f r)]) (tab_at eC eC_len n f r hr) rfl)
    (And.intro (show ((r : Nat) : Int) = ((r : Nat) : Int) ∧ r < n from ⟨rfl, hr⟩) trivial)))
theorem number_e (n : Nat) (f : Nat → Fin Rr) (r q : Nat) (hr : r < n) (hq : q < 3) : GivesE Try.prog 16 [.rx [.l (tab eC n f)] n, .t (.ag [.c (.int .i64 ((r : Nat) : Int)), .c (.int .i64 ((q : Nat) : Int))])] (.ag [.e (f r * shf q)]) := by
  refine ⟨fun vs w => Go.Proofs.enters_of (P := Try.prog) Try.func16 (by kernel_rfl) rfl vs w, ?_⟩
  rcases lt3 hq with rfl | rfl | rfl
  · exact number_0 n f r hr
  · exact number_1 n f r hr
  · exact number_2 n f r hr
end Go.Proofs.Ytoigbjimhcgolaa
