/- An evaluator on abstract values for Go functions that compute with whole values (fields' elements, structs of them), and its soundness over any program. Nothing here names a program. -/
import Derived.WalkKit
import Derived.WalkLawsBesides
import Derived.Laws.Rows
import Derived.Laws.Tables
import Derived.Laws.CopyRow
import Derived.Laws.Slices
import Derived.Laws.StructEq
import Derived.Deep.MidRow
import Derived.StillTail
import Derived.DeepKeys
set_option linter.unusedSimpArgs false
set_option linter.unusedVariables false
namespace Go.Ev
open Go.RowKit

/-- The two orders. -/
def Rr : Nat := 52435875175126190479447740508185965837690552500527637822603658699938581184513
def Pp : Nat := 4002409555221667393417789825735904156556882819939007885332058136124031650490837864442687629129015664037894272559787
instance : NeZero Rr := ⟨by decide⟩
instance : NeZero Pp := ⟨by decide⟩

/-- w limbs of x, the lowest first. -/
def limbs : Nat → Nat → List Value
  | 0, _ => []
  | w + 1, x => .int .u64 ((x % 18446744073709551616 : Nat) : Int) :: limbs w (x / 18446744073709551616)

theorem limbs_get : ∀ (w x i : Nat), i < w → (limbs w x)[i]? = some (.int .u64 ((x / 18446744073709551616 ^ i % 18446744073709551616 : Nat) : Int))
  | 0, _, _, h => by omega
  | w + 1, x, 0, _ => by simp [limbs]
  | w + 1, x, i + 1, h => by
    have := limbs_get w (x / 18446744073709551616) i (by omega)
    simp only [limbs, List.getElem?_cons_succ, this]
    rw [Nat.div_div_eq_div_mul, Nat.pow_succ, Nat.mul_comm]

theorem limbs_length : ∀ w x, (limbs w x).length = w
  | 0, _ => rfl
  | w + 1, x => by simp [limbs, limbs_length w]

def toS (x : Fin Rr) : Nat := x.val * 115792089237316195423570985008687907853269984665640564039457584007913129639936 % Rr
def toM (x : Fin Pp) : Nat := x.val * 39402006196394479212279040100143613805079739270465446667948293404245721771497210611414266254884915640806627990306816 % Pp

/-- A piece of memory: one cell; w limbs of a number; an element as it is (e, q) or times the width's power of two (s, m). -/
inductive Ch where
  | c (v : Value)
  | n (w x : Nat)
  | e (x : Fin Rr)
  | s (x : Fin Rr)
  | q (x : Fin Pp)
  | m (x : Fin Pp)

def Ch.size : Ch → Nat
  | .c _ => 1
  | .n w _ => w
  | .e _ => 4
  | .s _ => 4
  | .q _ => 6
  | .m _ => 6

def Ch.cells : Ch → List Value
  | .c v => [v]
  | .n w x => limbs w x
  | .e x => limbs 4 x.val
  | .s x => limbs 4 (toS x)
  | .q x => limbs 6 x.val
  | .m x => limbs 6 (toM x)

theorem Ch.cells_length (c : Ch) : c.cells.length = c.size := by cases c <;> simp [Ch.cells, Ch.size, limbs_length]

def flat : List Ch → List Value
  | [] => []
  | c :: l => c.cells ++ flat l

theorem flat_append : ∀ a b, flat (a ++ b) = flat a ++ flat b
  | [], _ => rfl
  | c :: a, b => by simp [flat, flat_append a b]

theorem flat_c : ∀ l : List Value, flat (l.map Ch.c) = l
  | [] => rfl
  | v :: l => by simp [flat, Ch.cells, flat_c l]

/-- The pieces that make the first n cells, and the rest. -/
def cut : List Ch → Nat → Option (List Ch × List Ch)
  | [], n => if n = 0 then some ([], []) else none
  | c :: l, n => if n = 0 then some ([], c :: l) else if c.size ≤ n then (cut l (n - c.size)).map fun (a, b) => (c :: a, b) else none

theorem cut_spec : ∀ (l : List Ch) (n : Nat) (a b : List Ch), cut l n = some (a, b) → l = a ++ b ∧ (flat a).length = n
  | [], n, a, b, h => by
    unfold cut at h
    split at h
    · simp only [Option.some.injEq, Prod.mk.injEq] at h; obtain ⟨rfl, rfl⟩ := h; subst_vars; simp [flat]
    · cases h
  | c :: l, n, a, b, h => by
    unfold cut at h
    split at h
    · simp only [Option.some.injEq, Prod.mk.injEq] at h; obtain ⟨rfl, rfl⟩ := h; subst_vars; simp [flat]
    · split at h
      · rename_i hc
        simp only [Option.map_eq_some_iff] at h
        obtain ⟨⟨a', b'⟩, h1, h2⟩ := h
        simp only [Prod.mk.injEq] at h2
        obtain ⟨rfl, rfl⟩ := h2
        obtain ⟨e1, e2⟩ := cut_spec l _ _ _ h1
        exact ⟨by rw [e1]; rfl, by simp [flat, Ch.cells_length, e2]; omega⟩
      · cases h

/-- The pieces of n cells from offset o on. -/
def sub (l : List Ch) (o n : Nat) : Option (List Ch) :=
  match cut l o with
  | some (_, b) => (cut b n).map (·.1)
  | none => none

theorem sub_spec {l : List Ch} {o n : Nat} {r : List Ch} (h : sub l o n = some r) : ((flat l).drop o).take n = flat r ∧ (flat r).length = n ∧ o + n ≤ (flat l).length := by
  unfold sub at h
  split at h
  · rename_i a b hc
    simp only [Option.map_eq_some_iff] at h
    obtain ⟨⟨r', b'⟩, h1, h2⟩ := h
    simp only at h2
    subst h2
    obtain ⟨rfl, e1⟩ := cut_spec _ _ _ _ hc
    obtain ⟨rfl, e2⟩ := cut_spec _ _ _ _ h1
    refine ⟨?_, e2, by simp [flat_append, e1, e2]⟩
    rw [flat_append, flat_append, ← e1, List.drop_left, ← e2, List.take_left]
  · cases h

/-- The pieces with those from offset o on put in the place of as many cells. -/
def splice (l : List Ch) (o : Nat) (p : List Ch) : Option (List Ch) :=
  match cut l o with
  | some (a, b) => (cut b (flat p).length).map fun r => a ++ (p ++ r.2)
  | none => none

def sizes : List Ch → Nat
  | [] => 0
  | c :: l => c.size + sizes l
theorem flat_length : ∀ l, (flat l).length = sizes l
  | [] => rfl
  | c :: l => by simp [flat, sizes, Ch.cells_length, flat_length l]

def spliceB (l : List Ch) (o : Nat) (p : List Ch) : Option (List Ch) :=
  match cut l o with
  | some (a, b) => (cut b (sizes p)).map fun r => a ++ (p ++ r.2)
  | none => none

theorem splice_spec {l : List Ch} {o : Nat} {p r : List Ch} (h : spliceB l o p = some r) :
    flat r = (flat l).take o ++ flat p ++ (flat l).drop (o + (flat p).length) ∧ o + (flat p).length ≤ (flat l).length := by
  unfold spliceB at h
  rw [← flat_length] at h
  split at h
  · rename_i a b hc
    simp only [Option.map_eq_some_iff] at h
    obtain ⟨⟨x, y⟩, h1, h2⟩ := h
    subst h2
    obtain ⟨rfl, e1⟩ := cut_spec _ _ _ _ hc
    obtain ⟨rfl, e2⟩ := cut_spec _ _ _ _ h1
    refine ⟨?_, by simp [flat_append, e1, e2]⟩
    simp only [flat_append, ← e1, ← e2, List.take_left, List.append_assoc]
    congr 1
    congr 1
    rw [← List.drop_drop, List.drop_left, List.drop_left]
  · cases h

/-- A part of a tuple. -/
inductive TV where
  | v (x : Value)
  | u (h : Nat)
  | ag (cs : List Ch)
/-- A number of 64 bits. -/
def u64 (h : Nat) : Value := .int .u64 ((h % 18446744073709551616 : Nat) : Int)
def TV.val : TV → Value
  | .v x => x
  | .u h => u64 h
  | .ag cs => .agg (flat cs).toArray

/-- What a slot holds: a value without addresses of the call's own; an aggregate; a tuple; a function with its first arguments; the address of a cell, or a slice, of a block of the call's own. -/
inductive AV where
  | v (x : Value)
  | u (h : Nat)
  | ag (cs : List Ch)
  | tp (l : List TV)
  | clo (f : FuncId) (first : List TV)
  | p (id off : Nat)
  | sl (id off len cap : Nat)

def AV.val? : AV → Option Value
  | .v x => some x
  | .u h => some (u64 h)
  | .ag cs => some (.agg (flat cs).toArray)
  | .tp l => some (.tuple (l.map TV.val).toArray)
  | .clo f l => some (.func (.func f) (l.map TV.val).toArray #[])
  | _ => none

/-- What is in one cell. -/
def Ch.cell : Ch → Nat → AV
  | .c v, _ => .v v
  | .n _ x, i => .u (x / 18446744073709551616 ^ i)
  | .e x, i => .u (x.val / 18446744073709551616 ^ i)
  | .s x, i => .u (toS x / 18446744073709551616 ^ i)
  | .q x, i => .u (x.val / 18446744073709551616 ^ i)
  | .m x, i => .u (toM x / 18446744073709551616 ^ i)

def cellA : List Ch → Nat → Option AV
  | [], _ => none
  | c :: l, i => if i < c.size then some (c.cell i) else cellA l (i - c.size)

theorem Ch.cell_ok (c : Ch) (i : Nat) (h : i < c.size) : ∃ v, c.cells[i]? = some v ∧ (c.cell i).val? = some v := by
  cases c <;> simp only [Ch.size] at h
  case c v => exact ⟨v, by simp [Ch.cells, show i = 0 by omega], rfl⟩
  case n w x => exact ⟨_, limbs_get _ _ _ h, rfl⟩
  case e x => exact ⟨_, limbs_get _ _ _ h, rfl⟩
  case s x => exact ⟨_, limbs_get _ _ _ h, rfl⟩
  case q x => exact ⟨_, limbs_get _ _ _ h, rfl⟩
  case m x => exact ⟨_, limbs_get _ _ _ h, rfl⟩

theorem cellA_ok : ∀ (l : List Ch) (i : Nat) (a : AV), cellA l i = some a → ∃ v, (flat l)[i]? = some v ∧ a.val? = some v
  | [], i, a, h => by simp [cellA] at h
  | c :: l, i, a, h => by
    unfold cellA at h
    split at h
    · rename_i hc
      simp only [Option.some.injEq] at h; subst h
      obtain ⟨v, h1, h2⟩ := Ch.cell_ok c i hc
      exact ⟨v, by simp only [flat]; rw [List.getElem?_append_left (by rw [Ch.cells_length]; exact hc)]; exact h1, h2⟩
    · rename_i hc
      obtain ⟨v, h1, h2⟩ := cellA_ok l _ a h
      exact ⟨v, by simp only [flat]; rw [List.getElem?_append_right (by rw [Ch.cells_length]; omega), Ch.cells_length]; exact h1, h2⟩

def TV.av : TV → AV
  | .v x => .v x
  | .u h => .u h
  | .ag cs => .ag cs

def ofV : Value → AV
  | .agg cs => .ag (cs.toList.map .c)
  | x => .v x

/-- Which block bears which name. -/
abbrev Names := Nat → Option Nat

def Rep (ρ : Names) (a : AV) (x : Value) : Prop :=
  match a with
  | .v y => x = y
  | .u h => x = u64 h
  | .ag cs => x = .agg (flat cs).toArray
  | .tp l => x = .tuple (l.map TV.val).toArray
  | .clo f l => x = .func (.func f) (l.map TV.val).toArray #[]
  | .p id off => ∃ b, ρ id = some b ∧ x = .pointer (some ⟨b, off, none⟩)
  | .sl id off len cap => ∃ b, ρ id = some b ∧ x = .slice (some ⟨b, off, none⟩) len cap

theorem Rep.of_val {ρ : Names} {a : AV} {x y : Value} (h : Rep ρ a x) (hv : a.val? = some y) : x = y := by
  cases a <;> simp_all [Rep, AV.val?]

theorem rep_val {ρ : Names} {a : AV} {x : Value} (h : a.val? = some x) : Rep ρ a x := by
  cases a <;> simp_all [Rep, AV.val?]

theorem rep_ofV (ρ : Names) (x : Value) : Rep ρ (ofV x) x := by
  cases x <;> simp [ofV, Rep, flat_c]

theorem rep_tv (ρ : Names) (x : TV) : Rep ρ x.av x.val := by cases x <;> simp [TV.av, TV.val, Rep]

def Names.le (ρ ρ' : Names) : Prop := ∀ i b, ρ i = some b → ρ' i = some b
theorem Names.le_refl (ρ : Names) : ρ.le ρ := fun _ _ h => h
theorem Names.le_trans {a b c : Names} (h : a.le b) (h' : b.le c) : a.le c := fun i x hx => h' i x (h i x hx)
theorem Rep.mono {ρ ρ' : Names} (hl : ρ.le ρ') {a : AV} {x : Value} (h : Rep ρ a x) : Rep ρ' a x := by
  cases a <;> simp only [Rep] at h ⊢
  case p => obtain ⟨b, h1, h2⟩ := h; exact ⟨b, hl _ _ h1, h2⟩
  case sl => obtain ⟨b, h1, h2⟩ := h; exact ⟨b, hl _ _ h1, h2⟩
  all_goals exact h

/-- The slots, as a tree by the digits of their numbers. -/
inductive Tr where
  | nil
  | nd (v : AV) (l r : Tr)

def Tr.get : Tr → Nat → AV
  | .nil, _ => .tp []
  | .nd v l r, i =>
    match Nat.beq i 0 with
    | true => v
    | false => match Nat.beq (i % 2) 1 with
      | true => l.get (i / 2)
      | false => r.get (i / 2 - 1)

def Tr.set : Nat → Tr → Nat → AV → Tr
  | 0, t, _, _ => t
  | f + 1, .nil, i, a =>
    match Nat.beq i 0 with
    | true => .nd a .nil .nil
    | false => match Nat.beq (i % 2) 1 with
      | true => .nd (.tp []) (Tr.set f .nil (i / 2) a) .nil
      | false => .nd (.tp []) .nil (Tr.set f .nil (i / 2 - 1) a)
  | f + 1, .nd v l r, i, a =>
    match Nat.beq i 0 with
    | true => .nd a l r
    | false => match Nat.beq (i % 2) 1 with
      | true => .nd v (Tr.set f l (i / 2) a) r
      | false => .nd v l (Tr.set f r (i / 2 - 1) a)

theorem beq_succ0 (k : Nat) : Nat.beq (k + 1) 0 = false := rfl
theorem odd1 (k : Nat) : Nat.beq ((2 * k + 1) % 2) 1 = true := by rw [show (2 * k + 1) % 2 = 1 by omega]; rfl
theorem even1 (k : Nat) : Nat.beq ((2 * k + 2) % 2) 1 = false := by rw [show (2 * k + 2) % 2 = 0 by omega]; rfl
theorem odd2 (k : Nat) : (2 * k + 1) / 2 = k := by omega
theorem even2 (k : Nat) : (2 * k + 2) / 2 - 1 = k := by omega
theorem par (i : Nat) : i = 0 ∨ (∃ k, i = 2 * k + 1) ∨ ∃ k, i = 2 * k + 2 := by
  by_cases h : i = 0
  · exact .inl h
  · by_cases h2 : i % 2 = 1
    · exact .inr (.inl ⟨i / 2, by omega⟩)
    · exact .inr (.inr ⟨i / 2 - 1, by omega⟩)

namespace Tr
theorem get_nil (i : Nat) : Tr.nil.get i = .tp [] := by unfold Tr.get; rfl
theorem get_z (v : AV) (l r : Tr) : (Tr.nd v l r).get 0 = v := by unfold Tr.get; rfl
theorem get_o (v : AV) (l r : Tr) (k : Nat) : (Tr.nd v l r).get (2 * k + 1) = l.get k := by rw [Tr.get]; simp only [beq_succ0, odd1, odd2]
theorem get_e (v : AV) (l r : Tr) (k : Nat) : (Tr.nd v l r).get (2 * k + 2) = r.get k := by rw [Tr.get]; simp only [show Nat.beq (2 * k + 2) 0 = false from rfl, even1, even2]
theorem set_nz (f : Nat) (a : AV) : Tr.set (f + 1) .nil 0 a = .nd a .nil .nil := by rw [Tr.set]
theorem set_no (f : Nat) (a : AV) (k : Nat) : Tr.set (f + 1) .nil (2 * k + 1) a = .nd (.tp []) (Tr.set f .nil k a) .nil := by rw [Tr.set]; simp only [beq_succ0, odd1, odd2]
theorem set_ne (f : Nat) (a : AV) (k : Nat) : Tr.set (f + 1) .nil (2 * k + 2) a = .nd (.tp []) .nil (Tr.set f .nil k a) := by rw [Tr.set]; simp only [show Nat.beq (2 * k + 2) 0 = false from rfl, even1, even2]
theorem set_z (f : Nat) (v : AV) (l r : Tr) (a : AV) : Tr.set (f + 1) (.nd v l r) 0 a = .nd a l r := by rw [Tr.set]
theorem set_o (f : Nat) (v : AV) (l r : Tr) (a : AV) (k : Nat) : Tr.set (f + 1) (.nd v l r) (2 * k + 1) a = .nd v (Tr.set f l k a) r := by rw [Tr.set]; simp only [beq_succ0, odd1, odd2]
theorem set_e (f : Nat) (v : AV) (l r : Tr) (a : AV) (k : Nat) : Tr.set (f + 1) (.nd v l r) (2 * k + 2) a = .nd v l (Tr.set f r k a) := by rw [Tr.set]; simp only [show Nat.beq (2 * k + 2) 0 = false from rfl, even1, even2]

theorem get_set_ne : ∀ (f : Nat) (t : Tr) (d i : Nat) (a : AV), i ≠ d → (Tr.set f t d a).get i = t.get i
  | 0, t, d, i, a, _ => by unfold Tr.set; rfl
  | f + 1, t, d, i, a, h => by
    have ih := get_set_ne f
    cases t <;> rcases par d with rfl | ⟨k, rfl⟩ | ⟨k, rfl⟩ <;> rcases par i with rfl | ⟨j, rfl⟩ | ⟨j, rfl⟩ <;>
      simp only [set_nz, set_no, set_ne, set_z, set_o, set_e, get_z, get_o, get_e, get_nil] <;>
      first
        | rfl
        | exact absurd rfl h
        | (rw [ih _ _ _ _ (by omega)]; try rw [get_nil])

theorem get_set : ∀ (f : Nat) (t : Tr) (d : Nat) (a : AV), d + 1 < 2 ^ f → (Tr.set f t d a).get d = a
  | 0, t, d, a, h => by simp at h
  | f + 1, t, d, a, h => by
    have ih := get_set f
    rw [Nat.pow_succ] at h
    cases t <;> rcases par d with rfl | ⟨k, rfl⟩ | ⟨k, rfl⟩ <;>
      simp only [set_nz, set_no, set_ne, set_z, set_o, set_e, get_z, get_o, get_e, get_nil] <;>
      exact ih _ _ _ (by omega)

theorem set_comm : ∀ (f : Nat) (t : Tr) (d e : Nat) (a b : AV), d ≠ e → Tr.set f (Tr.set f t d a) e b = Tr.set f (Tr.set f t e b) d a
  | 0, t, d, e, a, b, _ => by unfold Tr.set; rfl
  | f + 1, t, d, e, a, b, h => by
    have ih := set_comm f
    cases t <;> rcases par d with rfl | ⟨k, rfl⟩ | ⟨k, rfl⟩ <;> rcases par e with rfl | ⟨j, rfl⟩ | ⟨j, rfl⟩ <;>
      simp only [set_nz, set_no, set_ne, set_z, set_o, set_e] <;>
      first
        | exact absurd rfl h
        | rw [ih _ _ _ _ _ (by omega)]
end Tr

structure Sl where
  n : Nat
  tr : Tr

def Sl.get (t : Sl) (i : Nat) : AV := match Nat.blt i t.n with | true => t.tr.get i | false => .tp []

structure Slots (ρ : Names) (t : Sl) (vs : Array Value) : Prop where
  len : t.n = vs.size
  cap : t.n < 4096
  at_ : ∀ (i : Nat) (x : Value), vs[i]? = some x → Rep ρ (t.tr.get i) x

theorem Slots.get_some {ρ : Names} {t : Sl} {vs : Array Value} (h : Slots ρ t vs) {i : Nat} {x : Value} (hx : vs[i]? = some x) : Rep ρ (t.get i) x := by
  have hlt : i < t.n := by rw [h.len]; exact (Array.getElem?_eq_some_iff.1 hx).1
  unfold Sl.get
  rw [show Nat.blt i t.n = true from (by simpa [Nat.blt_eq] using hlt)]
  exact h.at_ i x hx

theorem Slots.get_none {ρ : Names} {t : Sl} {vs : Array Value} (h : Slots ρ t vs) {i : Nat} (hx : vs[i]? = none) : t.get i = .tp [] := by
  have hge : ¬ i < t.n := by rw [h.len]; have := Array.getElem?_eq_none_iff.1 hx; omega
  unfold Sl.get
  rw [show Nat.blt i t.n = false from (by
    cases hb : Nat.blt i t.n with
    | false => rfl
    | true => exact absurd (by simpa [Nat.blt_eq] using hb) hge)]

theorem Slots.mono {ρ ρ' : Names} (hl : ρ.le ρ') {t : Sl} {vs : Array Value} (h : Slots ρ t vs) : Slots ρ' t vs :=
  ⟨h.len, h.cap, fun i x hx => (h.at_ i x hx).mono hl⟩

def Sl.set (t : Sl) (d : Nat) (a : AV) : Sl := ⟨t.n, t.tr.set 12 d a⟩

theorem Slots.set {ρ : Names} {t : Sl} {vs : Array Value} (h : Slots ρ t vs) (d : Nat) {a : AV} {x : Value} (hr : Rep ρ a x) : Slots ρ (t.set d a) (vs.setIfInBounds d x) := by
  refine ⟨by simp [Sl.set, h.len], h.cap, fun i y hy => ?_⟩
  simp only [Sl.set]
  by_cases hi : i = d
  · subst hi
    have hlt : i < vs.size := by
      have := (Array.getElem?_eq_some_iff.1 hy).1; simpa using this
    have : y = x := by simpa [hlt] using hy.symm
    subst this
    rw [Tr.get_set 12 _ _ _ (by have := h.cap; have := h.len; omega)]
    exact hr
  · rw [Tr.get_set_ne 12 _ _ _ _ hi]
    exact h.at_ i y (by simpa [Array.getElem?_setIfInBounds, Ne.symm hi] using hy)

def putA (t : Sl) : Option Tmp → AV → Sl
  | some d, a => t.set d a
  | none, _ => t

theorem Slots.put {ρ : Names} {t : Sl} {a : Act} (h : Slots ρ t a.tmps) (d : Option Tmp) {v : AV} {x : Value} (hr : Rep ρ v x) : Slots ρ (putA t d v) (a.put d x).tmps := by
  cases d with
  | none => exact h
  | some d => exact h.set d hr

/-- Arguments. -/
structure SlotsL (ρ : Names) (t : List AV) (vs : Array Value) : Prop where
  len : t.length = vs.size
  at_ : ∀ (i : Nat) (a : AV), t[i]? = some a → ∃ x : Value, vs[i]? = some x ∧ Rep ρ a x

def fill : List AV → Nat → Tr → Tr
  | [], _, t => t
  | a :: l, i, t => fill l (i + 1) (t.set 12 i a)

theorem fill_get : ∀ (l : List AV) (k : Nat) (t : Tr) (i : Nat), k + l.length < 4096 →
    (fill l k t).get i = if k ≤ i then (match l[i - k]? with | some a => a | none => t.get i) else t.get i
  | [], k, t, i, _ => by simp [fill]
  | a :: l, k, t, i, h => by
    simp only [fill]
    simp only [List.length_cons] at h
    rw [fill_get l (k + 1) (t.set 12 k a) i (by omega)]
    by_cases hk : k ≤ i
    · by_cases he : i = k
      · subst he
        rw [if_neg (by omega), if_pos (Nat.le_refl _), Tr.get_set 12 _ _ _ (by omega)]
        simp
      · rw [if_pos (by omega), if_pos hk, show i - k = (i - (k + 1)) + 1 by omega, List.getElem?_cons_succ, Tr.get_set_ne 12 _ _ _ _ he]
    · rw [if_neg (by omega), if_neg hk, Tr.get_set_ne 12 _ _ _ _ (by omega)]

def frame (args : List AV) (n : Nat) : Sl := ⟨args.length + (n - args.length), fill args 0 .nil⟩

theorem frame_slots {ρ : Names} {args : List AV} {vs : Array Value} (hs : SlotsL ρ args vs) (n : Nat) (hn : Nat.blt (args.length + (n - args.length)) 4096 = true) : Slots ρ (frame args n) (vs ++ Array.replicate (n - vs.size) undef) := by
  have hn' : args.length + (n - args.length) < 4096 := by simpa [Nat.blt_eq] using hn
  refine ⟨by simp [frame, hs.len], hn', fun i x hx => ?_⟩
  simp only [frame]
  rw [fill_get args 0 .nil i (by omega), if_pos (Nat.zero_le _), Nat.sub_zero, Tr.get_nil]
  by_cases hi : i < args.length
  · obtain ⟨a, ha⟩ : ∃ a, args[i]? = some a := ⟨args[i], List.getElem?_eq_getElem hi⟩
    rw [ha]
    obtain ⟨y, h1, h2⟩ := hs.at_ i a ha
    rw [Array.getElem?_append_left (by rw [← hs.len]; exact hi), h1] at hx
    simp only [Option.some.injEq] at hx
    subst hx
    exact h2
  · rw [List.getElem?_eq_none (by omega)]
    rw [Array.getElem?_append_right (by rw [← hs.len]; omega)] at hx
    simp only [Array.getElem?_replicate] at hx
    split at hx
    · simp only [Option.some.injEq] at hx
      subst hx
      simp [Rep, undef]
    · cases hx

def evA (t : Sl) : Operand → AV
  | .tmp i => t.get i
  | .const x => ofV x
  | .global g => .v (.pointer (some ⟨g, 0, none⟩))
  | .func f => .clo f []

theorem rep_evA {ρ : Names} {t : Sl} {a : Act} (h : Slots ρ t a.tmps) (x : Operand) : Rep ρ (evA t x) (a.eval x) := by
  cases x with
  | tmp i =>
    simp only [evA, Act.eval]
    cases hi : a.tmps[i]? with
    | none => rw [h.get_none hi]; simp [Array.getD_eq_getD_getElem?, hi, Rep, undef]
    | some b => simpa [Array.getD_eq_getD_getElem?, hi] using h.get_some hi
  | const x => exact rep_ofV ρ x
  | global g => simp [evA, Act.eval, Rep]
  | func f => simp [evA, Act.eval, Rep]

/-- A block of the call's own. -/
structure Blk where
  cs : List Ch
  t : TypeId
abbrev Heap := Nat → Option Blk

/-- The call's own blocks lie in the world from B on, under their names, unlike blocks for unlike names. -/
structure HAt (B : Nat) (ρ : Names) (h : Heap) (w : World) : Prop where
  at_ : ∀ id blk, h id = some blk → ∃ b, ρ id = some b ∧ B ≤ b ∧ w.heap[b]? = some (.cells (flat blk.cs).toArray blk.t (0, 0))
  lt : ∀ i b, ρ i = some b → b < w.heap.size

structure HRel (B : Nat) (ρ : Names) (h : Heap) (w : World) : Prop extends HAt B ρ h w where
  inj : ∀ i j b, ρ i = some b → ρ j = some b → i = j
  none_ : ∀ i, h i = none → ρ i = none

structure Rel (w0 : World) (ρ : Names) (t : Sl) (h : Heap) (a : Act) (w : World) : Prop where
  slots : Slots ρ t a.tmps
  defers : a.defers = []
  below : Below w0.heap.size w0 w
  heap : HRel w0.heap.size ρ h w
end Go.Ev
