/- An evaluator on abstract values for Go functions, and its soundness over any program: the abstract values. Nothing here names a program. -/
import Derived.WalkKit
import Derived.WalkLawsBesides
import Derived.Laws.Rows
import Derived.Laws.Tables
import Derived.Laws.CopyRow
import Derived.Laws.Slices
import Derived.Laws.StructEq
import Derived.Deep.MidRow
import Derived.StillTail
import Derived.DeepKeys
import Derived.RangeFuncRecord
import Derived.RangeFuncCalls
import Derived.OrdersIn
import Derived.TacticsIn
import Derived.LoopNIn
set_option linter.unusedSimpArgs false
set_option linter.unusedVariables false
namespace Go.Ev
open Go.RowKit

/-- The two orders. -/
def Rr : Nat := 52435875175126190479447740508185965837690552500527637822603658699938581184513
def Pp : Nat := 4002409555221667393417789825735904156556882819939007885332058136124031650490837864442687629129015664037894272559787
instance : NeZero Rr := ⟨by decide⟩
instance : NeZero Pp := ⟨by decide⟩

/-- w limbs of x, the lowest first. -/
def limbs : Nat → Nat → List Value
  | 0, _ => []
  | w + 1, x => .int .u64 ((x % 18446744073709551616 : Nat) : Int) :: limbs w (x / 18446744073709551616)

theorem limbs_get : ∀ (w x i : Nat), i < w → (limbs w x)[i]? = some (.int .u64 ((x / 18446744073709551616 ^ i % 18446744073709551616 : Nat) : Int))
  | 0, _, _, h => by omega
  | w + 1, x, 0, _ => by simp [limbs]
  | w + 1, x, i + 1, h => by
    have := limbs_get w (x / 18446744073709551616) i (by omega)
    simp only [limbs, List.getElem?_cons_succ, this]
    rw [Nat.div_div_eq_div_mul, Nat.pow_succ, Nat.mul_comm]

theorem limbs_length : ∀ w x, (limbs w x).length = w
  | 0, _ => rfl
  | w + 1, x => by simp [limbs, limbs_length w]

def toS (x : Fin Rr) : Nat := x.val * 115792089237316195423570985008687907853269984665640564039457584007913129639936 % Rr
def toM (x : Fin Pp) : Nat := x.val * 39402006196394479212279040100143613805079739270465446667948293404245721771497210611414266254884915640806627990306816 % Pp

/-- What a name stands for: a block, from which cell on, and how many elements a slice of it has room for beyond those that are known. -/
structure NM where
  b : Nat
  o : Nat
  r : Nat
/-- Which block bears which name. -/
abbrev Names := Nat → Option NM
def Names.at (ρ : Names) (id off : Nat) : Option Addr := match ρ id with | some v => some ⟨v.1, v.2 + off, none⟩ | none => none
def Names.room (ρ : Names) (id : Nat) : Nat := match ρ id with | some v => v.3 | none => 0
/-- A slice that may be nil: its room is one less than the name's number; 0: it is nil. -/
def zval (v : NM) (len : Nat) : Value := match v.3 with | 0 => .slice none 0 0 | r + 1 => .slice (some ⟨v.1, v.2, none⟩) len (len + r)
theorem zval_slice (v : NM) (len : Nat) : ∃ a l c, zval v len = .slice a l c := by
  unfold zval
  split <;> exact ⟨_, _, _, rfl⟩
def Names.sz (ρ : Names) (id len : Nat) : Value := match ρ id with | some v => zval v len | none => .slice none 0 0

/-- A piece of memory: one cell; w limbs of a number; an element as it is (e, q) or times the width's power of two (s, m); cells, however many; the address of a cell, or a slice, of a block that has a name. -/
inductive Ch where
  | c (v : Value)
  | n (w x : Nat)
  | e (x : Fin Rr)
  | s (x : Fin Rr)
  | q (x : Fin Pp)
  | m (x : Fin Pp)
  | l (vs : List Value)
  | p (id off : Nat)
  | sl (id off len cap : Nat)
  | sx (id len : Nat)
  | sz (id len : Nat)
  | y (bs : List UInt8)

def byteV (b : UInt8) : Value := .int .u8 ((b.toNat : Nat) : Int)

def Ch.size : Ch → Nat
  | .c _ => 1
  | .n w _ => w
  | .e _ => 4
  | .s _ => 4
  | .q _ => 6
  | .m _ => 6
  | .l vs => vs.length
  | .p _ _ => 1
  | .sl _ _ _ _ => 1
  | .sx _ _ => 1
  | .sz _ _ => 1
  | .y bs => bs.length

def Ch.cells (ρ : Names) : Ch → List Value
  | .c v => [v]
  | .n w x => limbs w x
  | .e x => limbs 4 x.val
  | .s x => limbs 4 (toS x)
  | .q x => limbs 6 x.val
  | .m x => limbs 6 (toM x)
  | .l vs => vs
  | .p id off => [.pointer (ρ.at id off)]
  | .sl id off len cap => [.slice (ρ.at id off) len cap]
  | .sx id len => [.slice (ρ.at id 0) len (len + ρ.room id)]
  | .sz id len => [ρ.sz id len]
  | .y bs => bs.map byteV

/-- Has every name of a piece a block? -/
def Ch.def_ (ρ : Names) : Ch → Prop
  | .p id _ => ∃ v, ρ id = some v
  | .sl id _ _ _ => ∃ v, ρ id = some v
  | .sx id _ => ∃ v, ρ id = some v
  | .sz id len => ∃ v, ρ id = some v ∧ (v.3 = 0 → len = 0)
  | _ => True

def Ch.pure : Ch → Bool
  | .p _ _ => false
  | .sl _ _ _ _ => false
  | .sx _ _ => false
  | .sz _ _ => false
  | _ => true

theorem Ch.cells_length (ρ : Names) (c : Ch) : (c.cells ρ).length = c.size := by cases c <;> simp [Ch.cells, Ch.size, limbs_length]

def flatR (ρ : Names) : List Ch → List Value
  | [] => []
  | c :: l => c.cells ρ ++ flatR ρ l

def noNames : Names := fun _ => none
/-- The cells of pieces without names. -/
def flat : List Ch → List Value
  | [] => []
  | c :: l => c.cells noNames ++ flat l

def DefC (ρ : Names) : List Ch → Prop
  | [] => True
  | c :: l => c.def_ ρ ∧ DefC ρ l

def pureC : List Ch → Bool
  | [] => true
  | c :: l => match c.pure with | true => pureC l | false => false

theorem Ch.pure_cells {c : Ch} (h : c.pure = true) (ρ ρ' : Names) : c.cells ρ = c.cells ρ' ∧ c.def_ ρ := by
  cases c <;> first | exact ⟨rfl, trivial⟩ | (simp [Ch.pure] at h)

theorem pureC_flat (ρ : Names) : ∀ {l : List Ch}, pureC l = true → flatR ρ l = flat l ∧ DefC ρ l
  | [], _ => ⟨rfl, trivial⟩
  | c :: l, h => by
    unfold pureC at h
    split at h
    · rename_i hc
      obtain ⟨e1, e2⟩ := Ch.pure_cells hc ρ noNames
      obtain ⟨e3, e4⟩ := pureC_flat ρ h
      exact ⟨by simp only [flatR, flat, e1, e3], e2, e4⟩
    · cases h

theorem flat_append : ∀ a b, flat (a ++ b) = flat a ++ flat b
  | [], _ => rfl
  | c :: a, b => by simp [flat, flat_append a b]

theorem flatR_append (ρ : Names) : ∀ a b, flatR ρ (a ++ b) = flatR ρ a ++ flatR ρ b
  | [], _ => rfl
  | c :: a, b => by simp [flatR, flatR_append ρ a b]

theorem defC_append (ρ : Names) : ∀ a b, DefC ρ (a ++ b) ↔ DefC ρ a ∧ DefC ρ b
  | [], _ => by simp [DefC]
  | c :: a, b => by simp [DefC, defC_append ρ a b, and_assoc]

theorem flatR_c (ρ : Names) : ∀ l : List Value, flatR ρ (l.map Ch.c) = l ∧ DefC ρ (l.map Ch.c)
  | [] => ⟨rfl, trivial⟩
  | v :: l => ⟨by simp [flatR, Ch.cells, (flatR_c ρ l).1], trivial, (flatR_c ρ l).2⟩

/-- The pieces that make the first n cells, and the rest. -/
def cut : List Ch → Nat → Option (List Ch × List Ch)
  | [], n => match Nat.beq n 0 with | true => some ([], []) | false => none
  | c :: l, n =>
    match Nat.beq n 0 with
    | true => some ([], c :: l)
    | false =>
      match Nat.ble c.size n with
      | true => (cut l (n - c.size)).map fun (a, b) => (c :: a, b)
      | false => none

theorem cut_spec (ρ : Names) : ∀ (l : List Ch) (n : Nat) (a b : List Ch), cut l n = some (a, b) → l = a ++ b ∧ (flatR ρ a).length = n
  | [], n, a, b, h => by
    unfold cut at h
    split at h
    · rename_i hn
      have := Nat.eq_of_beq_eq_true hn
      simp only [Option.some.injEq, Prod.mk.injEq] at h; obtain ⟨rfl, rfl⟩ := h; subst this; simp [flatR]
    · cases h
  | c :: l, n, a, b, h => by
    unfold cut at h
    split at h
    · rename_i hn
      have := Nat.eq_of_beq_eq_true hn
      simp only [Option.some.injEq, Prod.mk.injEq] at h; obtain ⟨rfl, rfl⟩ := h; subst this; simp [flatR]
    · split at h
      · rename_i hc
        have hc' := Nat.le_of_ble_eq_true hc
        simp only [Option.map_eq_some_iff] at h
        obtain ⟨⟨a', b'⟩, h1, h2⟩ := h
        simp only [Prod.mk.injEq] at h2
        obtain ⟨rfl, rfl⟩ := h2
        obtain ⟨e1, e2⟩ := cut_spec ρ l _ _ _ h1
        exact ⟨by rw [e1]; rfl, by simp [flatR, Ch.cells_length, e2]; omega⟩
      · cases h

/-- The pieces of n cells from offset o on. -/
def sub (l : List Ch) (o n : Nat) : Option (List Ch) :=
  match cut l o with
  | some (_, b) => (cut b n).map (·.1)
  | none => none

theorem sub_spec (ρ : Names) {l : List Ch} {o n : Nat} {r : List Ch} (h : sub l o n = some r) : ((flatR ρ l).drop o).take n = flatR ρ r ∧ (flatR ρ r).length = n ∧ o + n ≤ (flatR ρ l).length ∧ (DefC ρ l → DefC ρ r) := by
  unfold sub at h
  split at h
  · rename_i a b hc
    simp only [Option.map_eq_some_iff] at h
    obtain ⟨⟨r', b'⟩, h1, h2⟩ := h
    simp only at h2
    subst h2
    obtain ⟨rfl, e1⟩ := cut_spec ρ _ _ _ _ hc
    obtain ⟨rfl, e2⟩ := cut_spec ρ _ _ _ _ h1
    refine ⟨?_, e2, by simp [flatR_append, e1, e2], fun hd => ?_⟩
    · rw [flatR_append, flatR_append, ← e1, List.drop_left, ← e2, List.take_left]
    · simp only [defC_append] at hd; exact hd.2.1
  · cases h

def sizes : List Ch → Nat
  | [] => 0
  | c :: l => c.size + sizes l
theorem flatR_length (ρ : Names) : ∀ l, (flatR ρ l).length = sizes l
  | [] => rfl
  | c :: l => by simp [flatR, sizes, Ch.cells_length, flatR_length ρ l]
theorem flat_length : ∀ l, (flat l).length = sizes l
  | [] => rfl
  | c :: l => by simp [flat, sizes, Ch.cells_length, flat_length l]

/-- The pieces with those from offset o on put in the place of as many cells. -/
def spliceB (l : List Ch) (o : Nat) (p : List Ch) : Option (List Ch) :=
  match cut l o with
  | some (a, b) => (cut b (sizes p)).map fun r => a ++ (p ++ r.2)
  | none => none

theorem splice_spec (ρ : Names) {l : List Ch} {o : Nat} {p r : List Ch} (h : spliceB l o p = some r) :
    flatR ρ r = (flatR ρ l).take o ++ flatR ρ p ++ (flatR ρ l).drop (o + (flatR ρ p).length) ∧ o + (flatR ρ p).length ≤ (flatR ρ l).length ∧ (DefC ρ l → DefC ρ p → DefC ρ r) := by
  unfold spliceB at h
  rw [← flatR_length ρ] at h
  split at h
  · rename_i a b hc
    simp only [Option.map_eq_some_iff] at h
    obtain ⟨⟨x, y⟩, h1, h2⟩ := h
    subst h2
    obtain ⟨rfl, e1⟩ := cut_spec ρ _ _ _ _ hc
    obtain ⟨rfl, e2⟩ := cut_spec ρ _ _ _ _ h1
    refine ⟨?_, by simp [flatR_append, e1, e2], fun hd hp => ?_⟩
    · simp only [flatR_append, ← e1, ← e2, List.take_left, List.append_assoc]
      congr 1
      congr 1
      rw [← List.drop_drop, List.drop_left, List.drop_left]
    · simp only [defC_append] at hd ⊢; exact ⟨hd.1, hp, hd.2.2⟩
  · cases h

/-- A number of 64 bits. -/
def u64 (h : Nat) : Value := .int .u64 ((h % 18446744073709551616 : Nat) : Int)

/-- What a slot holds: whatever; a value without names; a number of 64 bits; an aggregate; a tuple; a function with its first arguments and what it captured; the address of a cell, or a slice, of a block that has a name; what a loop hands to the function that it goes through; a value in an interface. -/
inductive AV where
  | any
  | v (x : Value)
  | u (h : Nat)
  | ag (cs : List Ch)
  | tp (l : List AV)
  | clo (f : FuncId) (first cap : List AV)
  | p (id off : Nat)
  | sl (id off len cap : Nat)
  | sx (id len : Nat)
  | sy (id off len : Nat)
  | sz (id len : Nat)
  | mp (id : Nat)
  | yd (id : Nat)
  | ifc (T : TypeId) (a : AV)

mutual
def AV.val? : AV → Option Value
  | .v x => some x
  | .u h => some (u64 h)
  | .ag cs => match pureC cs with | true => some (.agg (flat cs).toArray) | false => none
  | .tp l => (AV.vals? l).map fun xs => .tuple xs.toArray
  | .clo f l m => match AV.vals? l, AV.vals? m with | some xs, some ys => some (.func (.func f) xs.toArray ys.toArray) | _, _ => none
  | .ifc T a => (AV.val? a).map fun x => .iface T x
  | _ => none
def AV.vals? : List AV → Option (List Value)
  | [] => some []
  | a :: l => match AV.val? a, AV.vals? l with | some x, some r => some (x :: r) | _, _ => none
end

mutual
def Rep (ρ : Names) : AV → Value → Prop
  | .any, _ => True
  | .v y, x => x = y
  | .u h, x => x = u64 h
  | .ag cs, x => DefC ρ cs ∧ x = .agg (flatR ρ cs).toArray
  | .tp l, x => ∃ xs, Reps ρ l xs ∧ x = .tuple xs.toArray
  | .clo f l m, x => ∃ xs ys, Reps ρ l xs ∧ Reps ρ m ys ∧ x = .func (.func f) xs.toArray ys.toArray
  | .p id off, x => ∃ v, ρ id = some v ∧ x = .pointer (some ⟨v.1, v.2 + off, none⟩)
  | .sl id off len cap, x => ∃ v, ρ id = some v ∧ x = .slice (some ⟨v.1, v.2 + off, none⟩) len cap
  | .sx id len, x => ∃ v, ρ id = some v ∧ x = .slice (some ⟨v.1, v.2, none⟩) len (len + v.3)
  | .sy id off len, x => ∃ v c, ρ id = some v ∧ x = .slice (some ⟨v.1, v.2 + off, none⟩) len c
  | .sz id len, x => ∃ v, ρ id = some v ∧ (v.3 = 0 → len = 0) ∧ x = zval v len
  | .mp id, x => ∃ v, ρ id = some v ∧ x = .map (some v.1)
  | .yd id, x => ∃ v, ρ id = some v ∧ x = .func (.yield v.1) #[] #[]
  | .ifc T a, x => ∃ y, Rep ρ a y ∧ x = .iface T y
def Reps (ρ : Names) : List AV → List Value → Prop
  | [], xs => xs = []
  | a :: l, xs => ∃ y r, xs = y :: r ∧ Rep ρ a y ∧ Reps ρ l r
end

mutual
theorem rep_val {ρ : Names} : ∀ {a : AV} {x : Value}, a.val? = some x → Rep ρ a x
  | .v y, x, h => by simp only [AV.val?, Option.some.injEq] at h; exact h.symm
  | .u y, x, h => by simp only [AV.val?, Option.some.injEq] at h; exact h.symm
  | .ag cs, x, h => by
    simp only [AV.val?] at h
    split at h
    · rename_i hp
      obtain ⟨e1, e2⟩ := pureC_flat ρ hp
      simp only [Option.some.injEq] at h; subst h
      exact ⟨e2, by rw [e1]⟩
    · cases h
  | .tp l, x, h => by
    simp only [AV.val?, Option.map_eq_some_iff] at h
    obtain ⟨xs, h1, rfl⟩ := h
    exact ⟨xs, reps_vals h1, rfl⟩
  | .clo f l m, x, h => by
    simp only [AV.val?] at h
    split at h
    · rename_i xs ys h1 h2
      simp only [Option.some.injEq] at h; subst h
      exact ⟨xs, ys, reps_vals h1, reps_vals h2, rfl⟩
    · cases h
  | .ifc T a, x, h => by
    simp only [AV.val?, Option.map_eq_some_iff] at h
    obtain ⟨y, h1, rfl⟩ := h
    exact ⟨y, rep_val h1, rfl⟩
  | .any, _, h => by simp [AV.val?] at h
  | .p _ _, _, h => by simp [AV.val?] at h
  | .sl _ _ _ _, _, h => by simp [AV.val?] at h
  | .sx _ _, _, h => by simp [AV.val?] at h
  | .sy _ _ _, _, h => by simp [AV.val?] at h
  | .mp _, _, h => by simp [AV.val?] at h
  | .sz _ _, _, h => by simp [AV.val?] at h
  | .yd _, _, h => by simp [AV.val?] at h
theorem reps_vals {ρ : Names} : ∀ {l : List AV} {xs : List Value}, AV.vals? l = some xs → Reps ρ l xs
  | [], xs, h => by simp only [AV.vals?, Option.some.injEq] at h; exact h.symm
  | a :: l, xs, h => by
    simp only [AV.vals?] at h
    split at h
    · rename_i x r h1 h2
      simp only [Option.some.injEq] at h; subst h
      exact ⟨x, r, rfl, rep_val h1, reps_vals h2⟩
    · cases h
end

mutual
theorem Rep.of_val {ρ : Names} : ∀ {a : AV} {x y : Value}, Rep ρ a x → a.val? = some y → x = y
  | .v z, x, y, h, hv => by simp only [AV.val?, Option.some.injEq] at hv; simp only [Rep] at h; rw [h, hv]
  | .u z, x, y, h, hv => by simp only [AV.val?, Option.some.injEq] at hv; simp only [Rep] at h; rw [h, hv]
  | .ag cs, x, y, h, hv => by
    simp only [AV.val?] at hv
    split at hv
    · rename_i hp
      obtain ⟨e1, e2⟩ := pureC_flat ρ hp
      simp only [Option.some.injEq] at hv; subst hv
      simp only [Rep] at h
      rw [h.2, e1]
    · cases hv
  | .tp l, x, y, h, hv => by
    simp only [AV.val?, Option.map_eq_some_iff] at hv
    obtain ⟨xs, h1, rfl⟩ := hv
    simp only [Rep] at h
    obtain ⟨ys, h2, rfl⟩ := h
    rw [Reps.of_vals h2 h1]
  | .clo f l m, x, y, h, hv => by
    simp only [AV.val?] at hv
    split at hv
    · rename_i xs ys h1 h2
      simp only [Option.some.injEq] at hv; subst hv
      simp only [Rep] at h
      obtain ⟨us, vs, g1, g2, rfl⟩ := h
      rw [Reps.of_vals g1 h1, Reps.of_vals g2 h2]
    · cases hv
  | .ifc T a, x, y, h, hv => by
    simp only [AV.val?, Option.map_eq_some_iff] at hv
    obtain ⟨z, h1, rfl⟩ := hv
    simp only [Rep] at h
    obtain ⟨u, h2, rfl⟩ := h
    rw [Rep.of_val h2 h1]
  | .any, _, _, _, hv => by simp [AV.val?] at hv
  | .p _ _, _, _, _, hv => by simp [AV.val?] at hv
  | .sl _ _ _ _, _, _, _, hv => by simp [AV.val?] at hv
  | .sx _ _, _, _, _, hv => by simp [AV.val?] at hv
  | .sy _ _ _, _, _, _, hv => by simp [AV.val?] at hv
  | .mp _, _, _, _, hv => by simp [AV.val?] at hv
  | .sz _ _, _, _, _, hv => by simp [AV.val?] at hv
  | .yd _, _, _, _, hv => by simp [AV.val?] at hv
theorem Reps.of_vals {ρ : Names} : ∀ {l : List AV} {xs ys : List Value}, Reps ρ l xs → AV.vals? l = some ys → xs = ys
  | [], xs, ys, h, hv => by simp only [AV.vals?, Option.some.injEq] at hv; simp only [Reps] at h; rw [h, hv]
  | a :: l, xs, ys, h, hv => by
    simp only [AV.vals?] at hv
    split at hv
    · rename_i x r h1 h2
      simp only [Option.some.injEq] at hv; subst hv
      simp only [Reps] at h
      obtain ⟨y, s, rfl, g1, g2⟩ := h
      rw [Rep.of_val g1 h1, Reps.of_vals g2 h2]
    · cases hv
end

theorem reps_length {ρ : Names} : ∀ {l : List AV} {xs : List Value}, Reps ρ l xs → l.length = xs.length
  | [], xs, h => by simp only [Reps] at h; subst h; rfl
  | a :: l, xs, h => by simp only [Reps] at h; obtain ⟨y, r, rfl, _, h2⟩ := h; simp [reps_length h2]

theorem reps_get {ρ : Names} : ∀ {l : List AV} {xs : List Value}, Reps ρ l xs → ∀ (i : Nat) (a : AV), l[i]? = some a → ∃ x, xs[i]? = some x ∧ Rep ρ a x
  | [], _, _, i, a, h => by simp at h
  | b :: l, xs, hr, i, a, h => by
    simp only [Reps] at hr
    obtain ⟨y, r, rfl, h1, h2⟩ := hr
    cases i with
    | zero => simp only [List.getElem?_cons_zero, Option.some.injEq] at h; subst h; exact ⟨y, rfl, h1⟩
    | succ i => simpa using reps_get h2 i a (by simpa using h)

theorem reps_append {ρ : Names} : ∀ {l m : List AV} {xs ys : List Value}, Reps ρ l xs → Reps ρ m ys → Reps ρ (l ++ m) (xs ++ ys)
  | [], m, xs, ys, h, h' => by simp only [Reps] at h; subst h; simpa using h'
  | a :: l, m, xs, ys, h, h' => by
    simp only [Reps] at h
    obtain ⟨y, r, rfl, h1, h2⟩ := h
    simp only [List.cons_append, Reps]
    exact ⟨y, r ++ ys, rfl, h1, reps_append h2 h'⟩

def Names.le (ρ ρ' : Names) : Prop := ∀ i b, ρ i = some b → ρ' i = some b
theorem Names.le_refl (ρ : Names) : ρ.le ρ := fun _ _ h => h
theorem Names.le_trans {a b c : Names} (h : a.le b) (h' : b.le c) : a.le c := fun i x hx => h' i x (h i x hx)
/-- The names below F mean what they meant. -/
def Names.leB (F : Nat) (ρ ρ' : Names) : Prop := ∀ i b, i < F → ρ i = some b → ρ' i = some b
theorem Names.leB_refl (F : Nat) (ρ : Names) : ρ.leB F ρ := fun _ _ _ h => h
theorem Names.leB_trans {F : Nat} {a b c : Names} (h : a.leB F b) (h' : b.leB F c) : a.leB F c := fun i x hi hx => h' i x hi (h i x hi hx)
theorem Names.le.leB {a b : Names} (h : a.le b) (F : Nat) : a.leB F b := fun i x _ hx => h i x hx
theorem Names.leB.trans_le {F : Nat} {a b c : Names} (h : a.leB F b) (h' : b.le c) : a.leB F c := fun i x hi hx => h' i x (h i x hi hx)
theorem Names.leB.mono {F G : Nat} {a b : Names} (h : a.leB F b) (hg : G ≤ F) : a.leB G b := fun i x hi hx => h i x (by omega) hx
theorem Names.leB.le {F : Nat} {a b : Names} (h : a.leB F b) (hf : ∀ j, F ≤ j → a j = none) : a.le b := fun i x hx => by
  by_cases hi : i < F
  · exact h i x hi hx
  · rw [hf i (by omega)] at hx; cases hx

theorem defC_mono {ρ ρ' : Names} (hl : ρ.le ρ') : ∀ {cs : List Ch}, DefC ρ cs → DefC ρ' cs ∧ flatR ρ' cs = flatR ρ cs
  | [], _ => ⟨trivial, rfl⟩
  | c :: l, h => by
    obtain ⟨h1, h2⟩ := defC_mono hl h.2
    have h0 := h.1
    cases c <;> simp only [Ch.def_] at h0 <;> (try exact ⟨⟨trivial, h1⟩, by simp only [flatR, Ch.cells, h2]⟩)
    case sz id len =>
      obtain ⟨v, hv, hz⟩ := h0
      exact ⟨⟨⟨v, hl _ _ hv, hz⟩, h1⟩, by simp only [flatR, Ch.cells, h2, Names.sz, hv, hl _ _ hv]⟩
    all_goals
      obtain ⟨v, hv⟩ := h0
      exact ⟨⟨⟨v, hl _ _ hv⟩, h1⟩, by simp only [flatR, Ch.cells, h2, Names.at, Names.room, hv, hl _ _ hv]⟩

mutual
theorem Rep.mono {ρ ρ' : Names} (hl : ρ.le ρ') : ∀ {a : AV} {x : Value}, Rep ρ a x → Rep ρ' a x
  | .any, _, _ => trivial
  | .v _, _, h => h
  | .u _, _, h => h
  | .ag cs, x, h => by simp only [Rep] at h ⊢; obtain ⟨e1, e2⟩ := defC_mono hl h.1; exact ⟨e1, by rw [e2]; exact h.2⟩
  | .tp l, x, h => by simp only [Rep] at h ⊢; obtain ⟨xs, h1, h2⟩ := h; exact ⟨xs, Reps.mono hl h1, h2⟩
  | .clo f l m, x, h => by simp only [Rep] at h ⊢; obtain ⟨xs, ys, h1, h2, h3⟩ := h; exact ⟨xs, ys, Reps.mono hl h1, Reps.mono hl h2, h3⟩
  | .p _ _, x, h => by simp only [Rep] at h ⊢; obtain ⟨v, h1, h2⟩ := h; exact ⟨v, hl _ _ h1, h2⟩
  | .sl _ _ _ _, x, h => by simp only [Rep] at h ⊢; obtain ⟨v, h1, h2⟩ := h; exact ⟨v, hl _ _ h1, h2⟩
  | .sx _ _, x, h => by simp only [Rep] at h ⊢; obtain ⟨v, h1, h2⟩ := h; exact ⟨v, hl _ _ h1, h2⟩
  | .sy _ _ _, x, h => by simp only [Rep] at h ⊢; obtain ⟨v, c, h1, h2⟩ := h; exact ⟨v, c, hl _ _ h1, h2⟩
  | .mp _, x, h => by simp only [Rep] at h ⊢; obtain ⟨v, h1, h2⟩ := h; exact ⟨v, hl _ _ h1, h2⟩
  | .sz _ _, x, h => by simp only [Rep] at h ⊢; obtain ⟨v, h1, h2, h3⟩ := h; exact ⟨v, hl _ _ h1, h2, h3⟩
  | .yd _, x, h => by simp only [Rep] at h ⊢; obtain ⟨v, h1, h2⟩ := h; exact ⟨v, hl _ _ h1, h2⟩
  | .ifc T a, x, h => by simp only [Rep] at h ⊢; obtain ⟨y, h1, h2⟩ := h; exact ⟨y, Rep.mono hl h1, h2⟩
theorem Reps.mono {ρ ρ' : Names} (hl : ρ.le ρ') : ∀ {l : List AV} {xs : List Value}, Reps ρ l xs → Reps ρ' l xs
  | [], _, h => by simpa only [Reps] using h
  | a :: l, xs, h => by simp only [Reps] at h ⊢; obtain ⟨y, r, h1, h2, h3⟩ := h; exact ⟨y, r, h1, Rep.mono hl h2, Reps.mono hl h3⟩
end

/-- What is in one cell. -/
def Ch.cell : Ch → Nat → Option AV
  | .c v, _ => some (.v v)
  | .n _ x, i => some (.u (x / 18446744073709551616 ^ i))
  | .e x, i => some (.u (x.val / 18446744073709551616 ^ i))
  | .s x, i => some (.u (toS x / 18446744073709551616 ^ i))
  | .q x, i => some (.u (x.val / 18446744073709551616 ^ i))
  | .m x, i => some (.u (toM x / 18446744073709551616 ^ i))
  | .l vs, i => (vs[i]?).map .v
  | .p id off, _ => some (.p id off)
  | .sl id off len cap, _ => some (.sl id off len cap)
  | .sx id len, _ => some (.sx id len)
  | .sz id len, _ => some (.sz id len)
  | .y bs, i => (bs[i]?).map fun b => .v (byteV b)

def cellA : List Ch → Nat → Option AV
  | [], _ => none
  | c :: l, i => match Nat.blt i c.size with | true => c.cell i | false => cellA l (i - c.size)

theorem Ch.cell_ok {ρ : Names} (c : Ch) (hd : c.def_ ρ) (i : Nat) (h : i < c.size) {a : AV} (ha : c.cell i = some a) : ∃ v, (c.cells ρ)[i]? = some v ∧ Rep ρ a v := by
  cases c <;> simp only [Ch.size] at h <;> simp only [Ch.cell, Option.some.injEq] at ha
  case c v => subst ha; exact ⟨v, by simp [Ch.cells, show i = 0 by omega], rfl⟩
  case n w x => subst ha; exact ⟨_, limbs_get _ _ _ h, rfl⟩
  case e x => subst ha; exact ⟨_, limbs_get _ _ _ h, rfl⟩
  case s x => subst ha; exact ⟨_, limbs_get _ _ _ h, rfl⟩
  case q x => subst ha; exact ⟨_, limbs_get _ _ _ h, rfl⟩
  case m x => subst ha; exact ⟨_, limbs_get _ _ _ h, rfl⟩
  case l vs =>
    simp only [Option.map_eq_some_iff] at ha
    obtain ⟨v, h1, rfl⟩ := ha
    exact ⟨v, h1, rfl⟩
  case p id off =>
    subst ha
    obtain ⟨v, hv⟩ := hd
    exact ⟨.pointer (ρ.at id off), by simp [Ch.cells, show i = 0 by omega], by simp only [Rep, Names.at, hv]; exact ⟨v, rfl, rfl⟩⟩
  case sl id off len cap =>
    subst ha
    obtain ⟨v, hv⟩ := hd
    exact ⟨.slice (ρ.at id off) len cap, by simp [Ch.cells, show i = 0 by omega], by simp only [Rep, Names.at, hv]; exact ⟨v, rfl, rfl⟩⟩
  case y bs =>
    simp only [Option.map_eq_some_iff] at ha
    obtain ⟨b, h1, rfl⟩ := ha
    exact ⟨byteV b, by simp [Ch.cells, h1], rfl⟩
  case sx id len =>
    subst ha
    obtain ⟨v, hv⟩ := hd
    exact ⟨.slice (ρ.at id 0) len (len + ρ.room id), by simp [Ch.cells, show i = 0 by omega], by simp only [Rep, Names.at, Names.room, hv]; exact ⟨v, rfl, rfl⟩⟩
  case sz id len =>
    subst ha
    obtain ⟨v, hv, hz⟩ := hd
    exact ⟨ρ.sz id len, by simp [Ch.cells, show i = 0 by omega], by simp only [Rep, Names.sz, hv]; exact ⟨v, rfl, hz, rfl⟩⟩

theorem cellA_ok {ρ : Names} : ∀ (l : List Ch) (i : Nat) (a : AV), DefC ρ l → cellA l i = some a → ∃ v, (flatR ρ l)[i]? = some v ∧ Rep ρ a v
  | [], i, a, _, h => by simp [cellA] at h
  | c :: l, i, a, hd, h => by
    unfold cellA at h
    split at h
    · rename_i hc
      have hc : i < c.size := by simpa [Nat.blt_eq] using hc
      obtain ⟨v, h1, h2⟩ := Ch.cell_ok c hd.1 i hc h
      exact ⟨v, by simp only [flatR]; rw [List.getElem?_append_left (by rw [Ch.cells_length]; exact hc)]; exact h1, h2⟩
    · rename_i hc
      have hc : ¬ i < c.size := fun h => by
        have : Nat.blt i c.size = true := by simpa [Nat.blt_eq] using h
        rw [this] at hc; cases hc
      obtain ⟨v, h1, h2⟩ := cellA_ok l _ a hd.2 h
      exact ⟨v, by simp only [flatR]; rw [List.getElem?_append_right (by rw [Ch.cells_length]; omega), Ch.cells_length]; exact h1, h2⟩

def ofV : Value → AV
  | .agg cs => .ag (cs.toList.map .c)
  | x => .v x

theorem rep_ofV (ρ : Names) (x : Value) : Rep ρ (ofV x) x := by
  cases x <;> simp [ofV, Rep, flatR_c]

/-! ### A tree by the digits of its numbers -/
inductive Tr (α : Type) where
  | nil
  | nd (v : Option α) (l r : Tr α)

def Tr.get {α : Type} : Tr α → Nat → Option α
  | .nil, _ => none
  | .nd v l r, i =>
    match Nat.beq i 0 with
    | true => v
    | false => match Nat.beq (i % 2) 1 with
      | true => l.get (i / 2)
      | false => r.get (i / 2 - 1)

def Tr.set {α : Type} : Nat → Tr α → Nat → Option α → Tr α
  | 0, t, _, _ => t
  | f + 1, .nil, i, a =>
    match Nat.beq i 0 with
    | true => .nd a .nil .nil
    | false => match Nat.beq (i % 2) 1 with
      | true => .nd none (Tr.set f .nil (i / 2) a) .nil
      | false => .nd none .nil (Tr.set f .nil (i / 2 - 1) a)
  | f + 1, .nd v l r, i, a =>
    match Nat.beq i 0 with
    | true => .nd a l r
    | false => match Nat.beq (i % 2) 1 with
      | true => .nd v (Tr.set f l (i / 2) a) r
      | false => .nd v l (Tr.set f r (i / 2 - 1) a)

theorem beq_succ0 (k : Nat) : Nat.beq (k + 1) 0 = false := rfl
theorem odd1 (k : Nat) : Nat.beq ((2 * k + 1) % 2) 1 = true := by rw [show (2 * k + 1) % 2 = 1 by omega]; rfl
theorem even1 (k : Nat) : Nat.beq ((2 * k + 2) % 2) 1 = false := by rw [show (2 * k + 2) % 2 = 0 by omega]; rfl
theorem odd2 (k : Nat) : (2 * k + 1) / 2 = k := by omega
theorem even2 (k : Nat) : (2 * k + 2) / 2 - 1 = k := by omega
theorem par (i : Nat) : i = 0 ∨ (∃ k, i = 2 * k + 1) ∨ ∃ k, i = 2 * k + 2 := by
  by_cases h : i = 0
  · exact .inl h
  · by_cases h2 : i % 2 = 1
    · exact .inr (.inl ⟨i / 2, by omega⟩)
    · exact .inr (.inr ⟨i / 2 - 1, by omega⟩)

namespace Tr
variable {α : Type}
theorem get_nil (i : Nat) : (Tr.nil : Tr α).get i = none := by unfold Tr.get; rfl
theorem get_z (v : Option α) (l r : Tr α) : (Tr.nd v l r).get 0 = v := by unfold Tr.get; rfl
theorem get_o (v : Option α) (l r : Tr α) (k : Nat) : (Tr.nd v l r).get (2 * k + 1) = l.get k := by rw [Tr.get]; simp only [beq_succ0, odd1, odd2]
theorem get_e (v : Option α) (l r : Tr α) (k : Nat) : (Tr.nd v l r).get (2 * k + 2) = r.get k := by rw [Tr.get]; simp only [show Nat.beq (2 * k + 2) 0 = false from rfl, even1, even2]
theorem set_nz (f : Nat) (a : Option α) : Tr.set (f + 1) .nil 0 a = .nd a .nil .nil := by rw [Tr.set]
theorem set_no (f : Nat) (a : Option α) (k : Nat) : Tr.set (f + 1) .nil (2 * k + 1) a = .nd none (Tr.set f .nil k a) .nil := by rw [Tr.set]; simp only [beq_succ0, odd1, odd2]
theorem set_ne (f : Nat) (a : Option α) (k : Nat) : Tr.set (f + 1) .nil (2 * k + 2) a = .nd none .nil (Tr.set f .nil k a) := by rw [Tr.set]; simp only [show Nat.beq (2 * k + 2) 0 = false from rfl, even1, even2]
theorem set_z (f : Nat) (v : Option α) (l r : Tr α) (a : Option α) : Tr.set (f + 1) (.nd v l r) 0 a = .nd a l r := by rw [Tr.set]
theorem set_o (f : Nat) (v : Option α) (l r : Tr α) (a : Option α) (k : Nat) : Tr.set (f + 1) (.nd v l r) (2 * k + 1) a = .nd v (Tr.set f l k a) r := by rw [Tr.set]; simp only [beq_succ0, odd1, odd2]
theorem set_e (f : Nat) (v : Option α) (l r : Tr α) (a : Option α) (k : Nat) : Tr.set (f + 1) (.nd v l r) (2 * k + 2) a = .nd v l (Tr.set f r k a) := by rw [Tr.set]; simp only [show Nat.beq (2 * k + 2) 0 = false from rfl, even1, even2]

theorem get_set_ne : ∀ (f : Nat) (t : Tr α) (d i : Nat) (a : Option α), i ≠ d → (Tr.set f t d a).get i = t.get i
  | 0, t, d, i, a, _ => by unfold Tr.set; rfl
  | f + 1, t, d, i, a, h => by
    have ih := get_set_ne f
    cases t <;> rcases par d with rfl | ⟨k, rfl⟩ | ⟨k, rfl⟩ <;> rcases par i with rfl | ⟨j, rfl⟩ | ⟨j, rfl⟩ <;>
      simp only [set_nz, set_no, set_ne, set_z, set_o, set_e, get_z, get_o, get_e, get_nil] <;>
      first
        | rfl
        | exact absurd rfl h
        | (rw [ih _ _ _ _ (by omega)]; try rw [get_nil])

theorem get_set : ∀ (f : Nat) (t : Tr α) (d : Nat) (a : Option α), d + 1 < 2 ^ f → (Tr.set f t d a).get d = a
  | 0, t, d, a, h => by simp at h
  | f + 1, t, d, a, h => by
    have ih := get_set f
    rw [Nat.pow_succ] at h
    cases t <;> rcases par d with rfl | ⟨k, rfl⟩ | ⟨k, rfl⟩ <;>
      simp only [set_nz, set_no, set_ne, set_z, set_o, set_e, get_z, get_o, get_e, get_nil] <;>
      exact ih _ _ _ (by omega)

theorem set_comm : ∀ (f : Nat) (t : Tr α) (d e : Nat) (a b : Option α), d ≠ e → Tr.set f (Tr.set f t d a) e b = Tr.set f (Tr.set f t e b) d a
  | 0, t, d, e, a, b, _ => by unfold Tr.set; rfl
  | f + 1, t, d, e, a, b, h => by
    have ih := set_comm f
    cases t <;> rcases par d with rfl | ⟨k, rfl⟩ | ⟨k, rfl⟩ <;> rcases par e with rfl | ⟨j, rfl⟩ | ⟨j, rfl⟩ <;>
      simp only [set_nz, set_no, set_ne, set_z, set_o, set_e] <;>
      first
        | exact absurd rfl h
        | rw [ih _ _ _ _ _ (by omega)]

theorem set_fuel : ∀ (f g : Nat) (t : Tr α) (d : Nat) (a : Option α), d + 1 < 2 ^ f → d + 1 < 2 ^ g → Tr.set f t d a = Tr.set g t d a
  | 0, _, _, _, _, h, _ => by simp at h
  | _ + 1, 0, _, _, _, _, h => by simp at h
  | f + 1, g + 1, t, d, a, h, h' => by
    have ih := set_fuel f g
    rw [Nat.pow_succ] at h h'
    cases t <;> rcases par d with rfl | ⟨k, rfl⟩ | ⟨k, rfl⟩ <;>
      simp only [set_nz, set_no, set_ne, set_z, set_o, set_e] <;>
      rw [ih _ _ _ (by omega) (by omega)]
end Tr
end Go.Ev
