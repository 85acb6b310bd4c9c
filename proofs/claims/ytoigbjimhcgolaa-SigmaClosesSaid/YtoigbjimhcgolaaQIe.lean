/- Pruned: Ie. -/
import Derived.Test.YtoigbjimhcgolaaQId
/- sigma.Values: the places behind, as numbers. -/
set_option linter.unusedSimpArgs false
set_option linter.unusedVariables false
namespace Go.Proofs.Ytoigbjimhcgolaa
open Go.Ev Go.RowKit
theorem ldO {k : Nat} {B : List Value} {i : Nat} {p : List Ch} (h : (B.drop (i * k)).take k = flat p) (hp : sizes p = k) : sizes p = k ∧ ((flat [.l B]).drop (i * k)).take k = flat p := by
  rw [flat_l]
  exact ⟨hp, h⟩
theorem ee_flat (C : List Value) (y : Fin Rr) : flat [.l C, .e y] = flat [.l (C ++ eC y)] := by simp [flat, Ch.cells, eC]
/-- The number of a place, of what comes behind one. -/
def numP (lg : Nat) (p : Nat × Nat) : Fin Rr := npw (rt lg) p.1 * shf p.2
def valP (F : Nat → Int) (lg n w i : Nat) : Fin Rr := numP lg (pl n (valI F (3 * n) (w * n + i)))
end Go.Proofs.Ytoigbjimhcgolaa

/- Contracts at told arguments; chirographref19: Shift, Number. -/
set_option linter.unusedSimpArgs false
set_option linter.unusedVariables false
namespace Go.Proofs.Ytoigbjimhcgolaa
open Go.Ev Go.RowKit

/-- A contract at told arguments. -/
def eAs (f : FuncId) (l : List (List XV × AV)) : Entry := ⟨f, fun _ a => l.map fun q => (some (a = q.1), q.2)⟩
theorem eAs_ok {P : Program} {f : FuncId} {l : List (List XV × AV)} (h : ∀ q ∈ l, GivesE P f q.1 q.2) : (eAs f l).OK P := by
  intro hi args c r hm hc
  simp only [eAs, List.mem_map, Prod.mk.injEq] at hm
  obtain ⟨q, hq, rfl, rfl⟩ := hm
  simp only [Option.getD_some] at hc
  subst hc
  obtain ⟨he, v, hv, hx⟩ := h q hq
  exact ⟨v, hv, fun w vs hr => .inr ⟨he _ _, hx w vs hr⟩⟩
theorem eAs_one {P : Program} {f : FuncId} {a : List XV} {r : AV} (h : GivesE P f a r) : (eAs f [(a, r)]).OK P := eAs_ok (fun q hq => by rw [List.mem_singleton] at hq; subst hq; exact h)
theorem cutB {α : Type} (f : α → List Value) (m : Nat) (hf : ∀ a, (f a).length = m) (k : Nat) (g0 gs : List α) (h : gs = g0.take k) : (if (k : Int) < ((g0.length : Nat) : Int) then (k : Int) else ((g0.length : Nat) : Int)) = ((gs.length : Nat) : Int) ∧ gs.length ≤ g0.length ∧ flat [.l (gs.flatMap f)] = (flat [.l (g0.flatMap f)]).take (gs.length * m) := by
  have hl : gs.length = min k g0.length := by subst h; rw [List.length_take]
  refine ⟨?_, by omega, ?_⟩
  · split <;> omega
  rw [flat_l, flat_l]
  have e : g0 = gs ++ g0.drop k := by rw [h, List.take_append_drop]
  have hc : ∀ l : List α, (l.flatMap f).length = l.length * m := fun l => by
    induction l with
    | nil => simp
    | cons a l ih => rw [List.flatMap_cons, List.length_append, ih, hf, List.length_cons, Nat.succ_mul]; omega
  conv => rhs; rw [e, List.flatMap_append, ← hc gs, List.take_left]
theorem cut30 (g0 gs : List GT) (h : gs = g0.take 30) : (if (30 : Int) < ((g0.length : Nat) : Int) then (30 : Int) else ((g0.length : Nat) : Int)) = ((gs.length : Nat) : Int) ∧ gs.length ≤ g0.length ∧ flat [.l (gsC gs)] = (flat [.l (gsC g0)]).take (gs.length * 23) := cutB gC 23 gC_length 30 g0 gs h
end Go.Proofs.Ytoigbjimhcgolaa
