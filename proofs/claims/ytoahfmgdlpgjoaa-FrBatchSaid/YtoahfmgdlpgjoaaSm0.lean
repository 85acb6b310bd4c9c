/- Places that belong together: plain. -/
import Derived.Test.YtoahfmgdlpgjoaaRun
set_option linter.unusedSimpArgs false
set_option linter.unusedVariables false
namespace Go.Ev
open Go.RowKit
def plP (p : Int × Int) : List Value := [.int .i64 p.1, .int .i64 p.2]
def plC (l : List (Int × Int)) : List Value := l.flatMap plP
theorem pl_at (l : List (Int × Int)) (i : Nat) (p : Int × Int) (h : l[i]? = some p) : sizes [.c (.int .i64 p.1), .c (.int .i64 p.2)] = 2 ∧ ((flat [.l (plC l)]).drop (i * 2)).take 2 = flat [.c (.int .i64 p.1), .c (.int .i64 p.2)] := by
  refine ⟨rfl, ?_⟩
  rw [flat_l]
  exact rows_at plP (fun _ => rfl) l i p h
theorem nu_at (ns : List Nat) (i x : Nat) (h : ns[i]? = some x) : sizes [.n 4 x] = 4 ∧ ((flat [.l (numC 4 ns)]).drop (i * 4)).take 4 = flat [.n 4 x] := by
  refine ⟨rfl, ?_⟩
  rw [flat_l]
  have := rows_at (limbs 4) (limbs_length 4) ns i x h
  rw [show numC 4 ns = ns.flatMap (limbs 4) from rfl, this]
  simp [flat, Ch.cells]
theorem pl_lt {α : Type} {l : List α} {i : Nat} {p : α} (h : l[i]? = some p) : i < l.length := (List.getElem?_eq_some_iff.1 h).1
theorem pl_mem {α : Type} {l : List α} {i : Nat} {p : α} (h : l[i]? = some p) : p ∈ l := List.mem_of_getElem? h
theorem pl_of {α : Type} {l : List α} {i : Nat} (h : i < l.length) : ∃ p, l[i]? = some p := ⟨_, List.getElem?_eq_getElem h⟩
def inR (n : Nat) (p : Int × Int) : Prop := 0 ≤ p.2 ∧ p.2 ≤ 2 ∧ 0 ≤ p.1 ∧ p.1 < (n : Int)
instance (n : Nat) (p : Int × Int) : Decidable (inR n p) := by unfold inR; infer_instance
theorem int_ne {a b : Nat} (h : ¬ a = b) : (((a : Nat) : Int) != ((b : Nat) : Int)) = true := bne_iff_ne.2 (fun e => h (Int.ofNat_inj.1 e))
theorem flat_e_inj {a b : Fin Rr} (h : flat [Ch.e a] = flat [Ch.e b]) : a = b := by
  have h1 : limbs 4 a.val = limbs 4 b.val := by simpa [flat, Ch.cells] using h
  exact Fin.ext (limbs_inj 4 _ _ (Nat.lt_trans a.isLt (by decide)) (Nat.lt_trans b.isLt (by decide)) h1)
def sameAt (M : Nat → List Nat) (w i : Nat) (p : Int × Int) : Prop := ofR ((M w).getD i 0) = ofR ((M p.2.toNat).getD p.1.toNat 0)
instance (M : Nat → List Nat) (w i : Nat) (p : Int × Int) : Decidable (sameAt M w i p) := by unfold sameAt; infer_instance
theorem int_eqT {a b : Nat} (h : a = b) : (((a : Nat) : Int) == ((b : Nat) : Int)) = true := by rw [h]; exact beq_self_eq_true _
theorem int_eqF {a b : Nat} (h : ¬ a = b) : (((a : Nat) : Int) == ((b : Nat) : Int)) = false := beq_eq_false_iff_ne.2 (fun e => h (Int.ofNat_inj.1 e))
theorem all_take_succ {α : Type} {l : List α} {i : Nat} {p : α} (f : α → Bool) (h : l[i]? = some p) : (l.take (i + 1)).all f = ((l.take i).all f && f p) := by
  rw [List.take_add_one, h]; simp
def samB (M : Nat → List Nat) (w : Nat) (l : List (Int × Int)) : Nat → Bool
  | 0 => true
  | i + 1 => samB M w l i && (match l[i]? with | some p => decide (sameAt M w i p) | none => true)
theorem samB_succ {M : Nat → List Nat} {w : Nat} {l : List (Int × Int)} {i : Nat} {p : Int × Int} (h : l[i]? = some p) : samB M w l (i + 1) = (samB M w l i && decide (sameAt M w i p)) := by
  simp only [samB, h]
theorem samB_iff {M : Nat → List Nat} {w : Nat} {l : List (Int × Int)} : ∀ {n : Nat}, samB M w l n = true ↔ ∀ i p, i < n → l[i]? = some p → sameAt M w i p
  | 0 => ⟨fun _ i p hi => by omega, fun _ => rfl⟩
  | n + 1 => by
    simp only [samB, Bool.and_eq_true, samB_iff (n := n)]
    refine ⟨fun h i p hi hp => ?_, fun h => ⟨fun i p hi hp => h i p (by omega) hp, ?_⟩⟩
    · rcases Nat.lt_succ_iff_lt_or_eq.1 hi with hi | rfl
      · exact h.1 i p hi hp
      · have h2 := h.2
        rw [hp] at h2
        exact of_decide_eq_true h2
    · split
      · rename_i p hp; exact decide_eq_true (h n p (by omega) hp)
      · rfl
/-- The first that is not so. -/
theorem first_not {α : Type} (p : α → Prop) : ∀ l : List α, (∀ x, x ∈ l → p x) ∨ ∃ (j : Nat) (x : α), l[j]? = some x ∧ ¬ p x ∧ ∀ (i : Nat) (y : α), i < j → l[i]? = some y → p y
  | [] => .inl (fun x hx => by cases hx)
  | n :: ns => by
    by_cases h : p n
    · rcases first_not p ns with h1 | ⟨j, x, h1, h2, h3⟩
      · exact .inl (fun x hx => by rcases List.mem_cons.1 hx with rfl | hx; exact h; exact h1 x hx)
      · refine .inr ⟨j + 1, x, h1, h2, fun i y hi hy => ?_⟩
        match i, hy with
        | 0, hy => simp only [List.getElem?_cons_zero, Option.some.injEq] at hy; subst hy; exact h
        | i + 1, hy => exact h3 i y (by omega) (by simpa using hy)
    · exact .inr ⟨0, n, rfl, h, fun i y hi => by omega⟩
/-- The first place that is not so. -/
theorem first_at {α : Type} (p : Nat → α → Prop) (l : List α) : (∀ (i : Nat) (x : α), l[i]? = some x → p i x) ∨ ∃ (j : Nat) (x : α), l[j]? = some x ∧ ¬ p j x ∧ ∀ (i : Nat) (y : α), i < j → l[i]? = some y → p i y := by
  suffices h : ∀ k : Nat, (∀ (i : Nat) (x : α), i < k → l[i]? = some x → p i x) ∨ ∃ (j : Nat) (x : α), l[j]? = some x ∧ ¬ p j x ∧ ∀ (i : Nat) (y : α), i < j → l[i]? = some y → p i y by
    rcases h l.length with h | h
    · exact .inl (fun i x hx => h i x (pl_lt hx) hx)
    · exact .inr h
  intro k
  induction k with
  | zero => exact .inl (fun i x hi => by omega)
  | succ k ih =>
    rcases ih with h | h
    · by_cases hk : k < l.length
      · obtain ⟨x, hx⟩ := pl_of hk
        by_cases hp : p k x
        · refine .inl (fun i y hi hy => ?_)
          rcases Nat.lt_succ_iff_lt_or_eq.1 hi with hi | rfl
          · exact h i y hi hy
          · rw [hx] at hy; cases hy; exact hp
        · exact .inr ⟨k, x, hx, hp, h⟩
      · exact .inl (fun i y hi hy => h i y (by have := pl_lt hy; omega) hy)
    · exact .inr h
end Go.Ev
