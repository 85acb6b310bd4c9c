/- The towers' sums and products, as the program forms them, over the field of order p. Nothing here names a program. -/
import Derived.Test.YtonklhcmpbhhaaaPar
set_option linter.unusedSimpArgs false
set_option linter.unusedVariables false
namespace Go.Ev
abbrev F2 := Fin Pp × Fin Pp
abbrev F6 := F2 × F2 × F2
def m2 (a : F2) : List Ch := [.m a.1, .m a.2]
def q2 (a : F2) : List Ch := [.q a.1, .q a.2]
def m6 (a : F6) : List Ch := [.m a.1.1, .m a.1.2, .m a.2.1.1, .m a.2.1.2, .m a.2.2.1, .m a.2.2.2]
def q6 (a : F6) : List Ch := [.q a.1.1, .q a.1.2, .q a.2.1.1, .q a.2.1.2, .q a.2.2.1, .q a.2.2.2]
def add2 (a b : F2) : F2 := (a.1 + b.1, a.2 + b.2)
def sub2 (a b : F2) : F2 := (a.1 - b.1, a.2 - b.2)
def mul2 (a b : F2) : F2 := (a.1 * b.1 - a.2 * b.2, (a.1 + a.2) * (b.1 + b.2) - a.1 * b.1 - a.2 * b.2)
def shf2 (a : F2) : F2 := (a.1 - a.2, a.1 + a.2)
def add6 (a b : F6) : F6 := (add2 a.1 b.1, add2 a.2.1 b.2.1, add2 a.2.2 b.2.2)
def mul6 (a b : F6) : F6 :=
  let x := mul2 a.1 b.1
  let y := mul2 a.2.1 b.2.1
  let z := mul2 a.2.2 b.2.2
  let xy := sub2 (sub2 (mul2 (add2 a.1 a.2.1) (add2 b.1 b.2.1)) x) y
  let xz := sub2 (sub2 (mul2 (add2 a.1 a.2.2) (add2 b.1 b.2.2)) x) z
  let yz := sub2 (sub2 (mul2 (add2 a.2.1 a.2.2) (add2 b.2.1 b.2.2)) y) z
  (add2 x (shf2 yz), add2 xy (shf2 z), add2 xz y)
def shf6 (a : F6) : F6 := (shf2 a.2.2, a.1, a.2.1)

def parM2 : Par F2 := parM.pair parM
def parM6 : Par F6 := parM2.pair (parM2.pair parM2)
/-- Elements, as they are, alone. -/
def parQs : Par (Fin Pp) where
  p l := match l with | .q x :: r => some (x, r) | _ => none
  c x := [.q x]
  ok l x r h := by
    split at h
    · simp only [Option.some.injEq, Prod.mk.injEq] at h; obtain ⟨rfl, rfl⟩ := h; simp [flat, Ch.cells]
    · cases h
abbrev N2 := Nat × Nat
abbrev N6 := N2 × N2 × N2
def parQ2 : Par F2 := parQs.pair parQs
def parQ6 : Par F6 := parQ2.pair (parQ2.pair parQ2)
def parN2 : Par N2 := parN6.pair parN6
def parN66 : Par N6 := parN2.pair (parN2.pair parN2)
def of2 (a : N2) : F2 := (ofP a.1, ofP a.2)
def of6 (a : N6) : F6 := (of2 a.1, of2 a.2.1, of2 a.2.2)
def small (a : Nat) : Prop := a < 39402006196394479212279040100143613805079739270465446667948293404245721771497210611414266254884915640806627990306816
def small2 (a : N2) : Prop := small a.1 ∧ small a.2
def small6 (a : N6) : Prop := small2 a.1 ∧ small2 a.2.1 ∧ small2 a.2.2
def n6 (a : N6) : List Ch := [.n 6 a.1.1, .n 6 a.1.2, .n 6 a.2.1.1, .n 6 a.2.1.2, .n 6 a.2.2.1, .n 6 a.2.2.2]

/-- Two makes of an argument. -/
def entryOr1 {α β : Type} (f : FuncId) (a : XPar α) (b : XPar β) (ra : α → Alts) (rb : β → Alts) : Entry :=
  ⟨f, fun _ => fun | [x] => (match a.p x with | some u => ra u | none => match b.p x with | some v => rb v | none => []) | _ => []⟩
theorem entryOr1_ok {P : Program} {α β : Type} {f : FuncId} {a : XPar α} {b : XPar β} {ra : α → Alts} {rb : β → Alts} (h1 : (entry1 f a ra).OK P) (h2 : (entry1 f b rb).OK P) : (entryOr1 f a b ra rb).OK P := by
  intro hi args c r hm hc
  simp only [entryOr1] at hm
  split at hm
  · rename_i x
    split at hm
    · rename_i u hu
      exact h1 hi [x] c r (by simp only [entry1, hu]; exact hm) hc
    · split at hm
      · rename_i v hv
        exact h2 hi [x] c r (by simp only [entry1, hv]; exact hm) hc
      · cases hm
  · cases hm

/-- An argument of one make or another. -/
def XPar.or {α β : Type} (a : XPar α) (b : XPar β) : XPar (α ⊕ β) where
  p v := match a.p v with | some x => some (.inl x) | none => match b.p v with | some y => some (.inr y) | none => none
  c z := match z with | .inl x => a.c x | .inr y => b.c y
  ok v z h w y hy := by
    split at h
    · rename_i x hx
      simp only [Option.some.injEq] at h; subst h
      exact a.ok _ _ hx _ _ hy
    · split at h
      · rename_i x hx
        simp only [Option.some.injEq] at h; subst h
        exact b.ok _ _ hx _ _ hy
      · cases h
def par6 : XPar (F6 ⊕ N6) := XPar.or parQ6.x parN66.x
def el6 : F6 ⊕ N6 → F6
  | .inl a => a
  | .inr a => of6 a
def sm6 : F6 ⊕ N6 → Prop
  | .inl _ => True
  | .inr a => small6 a
def par2 : XPar (F2 ⊕ N2) := XPar.or parQ2.x parN2.x
def el2 : F2 ⊕ N2 → F2
  | .inl a => a
  | .inr a => of2 a
def sm2 : F2 ⊕ N2 → Prop
  | .inl _ => True
  | .inr a => small2 a

theorem ofP_val (x : Fin Pp) : ofP x.val = x := by unfold ofP; exact Fin.ofNat_val_eq_self x

/-- One outcome under one condition. -/
theorem onlyIf {P : Program} {f : FuncId} {args : List XV} {p : Prop} {r0 : AV} (h : p → Gives P f args r0) : ∀ c r, (c, r) ∈ ([(some p, r0)] : Alts) → c.getD True → Gives P f args r := by
  intro c r hm hc
  simp only [List.mem_singleton, Prod.mk.injEq] at hm
  obtain ⟨rfl, rfl⟩ := hm
  exact h hc
end Go.Ev
