/- Readers of the fields' elements. -/
import Derived.Test.YtoahfmgdlpgjoaaEvi
set_option linter.unusedSimpArgs false
set_option linter.unusedVariables false
namespace Go.Ev
open Go.RowKit

/-- w cells that are numbers of 64 bits, written out or named: the number that they make. -/
def cells64 : Nat → List Ch → Option (Nat × List Ch)
  | 0, l => some (0, l)
  | w + 1, .c (.int .u64 a) :: l =>
    if 0 ≤ a ∧ a < 18446744073709551616 then (cells64 w l).map fun p => (a.toNat + 18446744073709551616 * p.1, p.2) else none
  | w + 1, .n k a :: l =>
    if Nat.beq k 1 then (cells64 w l).map fun p => (a % 18446744073709551616 + 18446744073709551616 * p.1, p.2) else none
  | _ + 1, _ => none

theorem cells64_ok : ∀ (w : Nat) (l : List Ch) (x : Nat) (r : List Ch), cells64 w l = some (x, r) → flat l = limbs w x ++ flat r
  | 0, l, x, r, h => by simp [cells64] at h; obtain ⟨rfl, rfl⟩ := h; rfl
  | w + 1, [], x, r, h => by simp [cells64] at h
  | w + 1, c :: l, x, r, h => by
    cases c
    case c v =>
      cases v <;> try (simp [cells64] at h; done)
      rename_i k a
      cases k <;> try (simp [cells64] at h; done)
      simp only [cells64] at h
      split at h
      · rename_i ha
        simp only [Option.map_eq_some_iff, Prod.mk.injEq] at h
        obtain ⟨⟨y, s⟩, h1, rfl, rfl⟩ := h
        have := cells64_ok w l y s h1
        have e1 : (a.toNat + 18446744073709551616 * y) % 18446744073709551616 = a.toNat := by omega
        have e2 : (a.toNat + 18446744073709551616 * y) / 18446744073709551616 = y := by omega
        simp only [flat, Ch.cells, limbs, this, e1, e2, List.cons_append, List.nil_append]
        congr 2
        omega
      · cases h
    case n k a =>
      simp only [cells64] at h
      split at h
      · rename_i hk
        have hk := Nat.eq_of_beq_eq_true hk
        subst hk
        simp only [Option.map_eq_some_iff, Prod.mk.injEq] at h
        obtain ⟨⟨y, s⟩, h1, rfl, rfl⟩ := h
        have := cells64_ok w l y s h1
        have e1 : (a % 18446744073709551616 + 18446744073709551616 * y) % 18446744073709551616 = a % 18446744073709551616 := by omega
        have e2 : (a % 18446744073709551616 + 18446744073709551616 * y) / 18446744073709551616 = y := by omega
        simp only [flat, Ch.cells, limbs, this, e1, e2, List.cons_append, List.nil_append]
      · cases h
    all_goals (simp [cells64] at h)

theorem cells64_pure : ∀ (w : Nat) (l : List Ch) (x : Nat) (r : List Ch), cells64 w l = some (x, r) → pureC r = true → pureC l = true
  | 0, l, x, r, h, hr => by simp [cells64] at h; obtain ⟨rfl, rfl⟩ := h; exact hr
  | w + 1, [], x, r, h, hr => by simp [cells64] at h
  | w + 1, c :: l, x, r, h, hr => by
    cases c
    case c v =>
      cases v <;> try (simp [cells64] at h; done)
      rename_i k a
      cases k <;> try (simp [cells64] at h; done)
      simp only [cells64] at h
      split at h
      · simp only [Option.map_eq_some_iff, Prod.mk.injEq] at h
        obtain ⟨⟨y, s⟩, h1, rfl, rfl⟩ := h
        exact cells64_pure w l y s h1 hr
      · cases h
    case n k a =>
      simp only [cells64] at h
      split at h
      · simp only [Option.map_eq_some_iff, Prod.mk.injEq] at h
        obtain ⟨⟨y, s⟩, h1, rfl, rfl⟩ := h
        exact cells64_pure w l y s h1 hr
      · cases h
    all_goals (simp [cells64] at h)

theorem ag_same {a b : List Ch} (ha : pureC a = true) (hb : pureC b = true) (h : flat a = flat b) : (AV.ag a).val? = (AV.ag b).val? := by
  rw [val_ag ha, val_ag hb, h]

theorem join_val {w : Nat} {l : List Ch} {x : Nat} (h : cells64 w l = some (x, [])) : (AV.ag [.n w x]).val? = (AV.ag l).val? :=
  ag_same rfl (cells64_pure _ _ _ _ h rfl) (by rw [cells64_ok _ _ _ _ h]; rfl)

def parN4 : Par Nat where
  p l := match l with
    | .n w x :: r => if Nat.beq w 4 then some (x, r) else cells64 4 (.n w x :: r)
    | .e x :: r => some (x.val, r)
    | l => cells64 4 l
  c x := [.n 4 x]
  pure _ := rfl
  ok l x r h := by
    split at h
    · split at h
      · rename_i hw
        have := Nat.eq_of_beq_eq_true hw
        subst this
        simp only [Option.some.injEq, Prod.mk.injEq] at h; obtain ⟨rfl, rfl⟩ := h; simp [flat, Ch.cells]
      · have := cells64_ok _ _ _ _ h
        simp [this]
        simp [flat, Ch.cells]
    · simp only [Option.some.injEq, Prod.mk.injEq] at h; obtain ⟨rfl, rfl⟩ := h; simp [flat, Ch.cells]
    · have := cells64_ok _ _ _ _ h
      simp [flat, Ch.cells, this]

def parN6 : Par Nat where
  p l := match l with
    | .n w x :: r => if Nat.beq w 6 then some (x, r) else cells64 6 (.n w x :: r)
    | .q x :: r => some (x.val, r)
    | l => cells64 6 l
  c x := [.n 6 x]
  pure _ := rfl
  ok l x r h := by
    split at h
    · split at h
      · rename_i hw
        have := Nat.eq_of_beq_eq_true hw
        subst this
        simp only [Option.some.injEq, Prod.mk.injEq] at h; obtain ⟨rfl, rfl⟩ := h; simp [flat, Ch.cells]
      · have := cells64_ok _ _ _ _ h
        simp [this]
        simp [flat, Ch.cells]
    · simp only [Option.some.injEq, Prod.mk.injEq] at h; obtain ⟨rfl, rfl⟩ := h; simp [flat, Ch.cells]
    · have := cells64_ok _ _ _ _ h
      simp [flat, Ch.cells, this]

def parE : Par (Fin Rr) where
  p l := match l with
    | .e x :: r => some (x, r)
    | l => match cells64 4 l with | some (x, r) => if h : x < Rr then some (⟨x, h⟩, r) else none | none => none
  c x := [.e x]
  pure _ := rfl
  ok l x r h := by
    split at h
    · simp only [Option.some.injEq, Prod.mk.injEq] at h; obtain ⟨rfl, rfl⟩ := h; simp [flat, Ch.cells]
    · split at h
      · rename_i y s hy
        split at h
        · simp only [Option.some.injEq, Prod.mk.injEq] at h; obtain ⟨rfl, rfl⟩ := h
          have := cells64_ok _ _ _ _ hy
          simp [flat, Ch.cells, this]
        · cases h
      · cases h

def parQ : Par (Fin Pp) where
  p l := match l with
    | .q x :: r => some (x, r)
    | l => match cells64 6 l with | some (x, r) => if h : x < Pp then some (⟨x, h⟩, r) else none | none => none
  c x := [.q x]
  pure _ := rfl
  ok l x r h := by
    split at h
    · simp only [Option.some.injEq, Prod.mk.injEq] at h; obtain ⟨rfl, rfl⟩ := h; simp [flat, Ch.cells]
    · split at h
      · rename_i y s hy
        split at h
        · simp only [Option.some.injEq, Prod.mk.injEq] at h; obtain ⟨rfl, rfl⟩ := h
          have := cells64_ok _ _ _ _ hy
          simp [flat, Ch.cells, this]
        · cases h
      · cases h

theorem toS_zero : toS 0 = 0 := by decide
theorem toM_zero : toM 0 = 0 := by decide

def parS : Par (Fin Rr) where
  p l := match l with
    | .s x :: r => some (x, r)
    | l => match cells64 4 l with | some (x, r) => if x = 0 then some (0, r) else none | none => none
  c x := [.s x]
  pure _ := rfl
  ok l x r h := by
    split at h
    · simp only [Option.some.injEq, Prod.mk.injEq] at h; obtain ⟨rfl, rfl⟩ := h; simp [flat, Ch.cells]
    · split at h
      · rename_i y s hy
        split at h
        · rename_i hz
          subst hz
          simp only [Option.some.injEq, Prod.mk.injEq] at h; obtain ⟨rfl, rfl⟩ := h
          have := cells64_ok _ _ _ _ hy
          simp [flat, Ch.cells, this, toS_zero]
        · cases h
      · cases h

def parM : Par (Fin Pp) where
  p l := match l with
    | .m x :: r => some (x, r)
    | l => match cells64 6 l with | some (x, r) => if x = 0 then some (0, r) else none | none => none
  c x := [.m x]
  pure _ := rfl
  ok l x r h := by
    split at h
    · simp only [Option.some.injEq, Prod.mk.injEq] at h; obtain ⟨rfl, rfl⟩ := h; simp [flat, Ch.cells]
    · split at h
      · rename_i y s hy
        split at h
        · rename_i hz
          subst hz
          simp only [Option.some.injEq, Prod.mk.injEq] at h; obtain ⟨rfl, rfl⟩ := h
          have := cells64_ok _ _ _ _ hy
          simp [flat, Ch.cells, this, toM_zero]
        · cases h
      · cases h

/-- A number modulo an order. -/
def ofR (x : Nat) : Fin Rr := Fin.ofNat Rr x
def ofP (x : Nat) : Fin Pp := Fin.ofNat Pp x
end Go.Ev
