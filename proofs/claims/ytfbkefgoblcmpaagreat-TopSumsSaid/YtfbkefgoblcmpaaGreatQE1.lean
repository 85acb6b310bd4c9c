/- Pruned: E1. -/
import Derived.WalkKit
import Derived.WalkLawsBesides
import Derived.Laws.Rows
import Derived.Laws.Tables
import Derived.Laws.CopyRow
import Derived.Laws.Slices
import Derived.Laws.StructEq
import Derived.Deep.MidRow
import Derived.StillTail
import Derived.DeepKeys
import Derived.RangeFuncRecord
import Derived.RangeFuncCalls
import Derived.OrdersIn
import Derived.TacticsIn
import Derived.LoopNIn
import Derived.Laws.Bits64b
import Derived.Laws.BytesString
import Derived.Laws.CopyOwn
set_option linter.unusedSimpArgs false
set_option linter.unusedVariables false
namespace Go.Ev
abbrev LU0 := List UInt8
theorem oi0 {α : Type _} (a b : α) : (some a = some b) = (a = b) := Option.some.injEq a b
theorem pi0 {α : Type _} {β : Type _} (a : α) (b : β) (c : α) (d : β) : ((a, b) = (c, d)) = (a = c /\ b = d) := Prod.mk.injEq a b c d
theorem tt0 : True := trivial
theorem rr0 {α β : Type _} {a : α} {b : β} : a = a /\ b = b := ⟨rfl, rfl⟩
theorem r30 {α β γ : Type _} {a : α} {b : β} {c : γ} : a = a /\ b = b /\ c = c := ⟨rfl, rfl, rfl⟩
theorem ai {a b : Prop} (h : a) (k : b) : a /\ b := ⟨h, k⟩
open Go.RowKit
def Rr : Nat := 52435875175126190479447740508185965837690552500527637822603658699938581184513
def Pp : Nat := 4002409555221667393417789825735904156556882819939007885332058136124031650490837864442687629129015664037894272559787
instance : NeZero Rr := ⟨by decide⟩
instance : NeZero Pp := ⟨by decide⟩
def limbs : Nat -> Nat -> List Value
 | 0, _ => []
 | w + 1, x => .int .u64 ((x % 18446744073709551616 : Nat) : Int) :: limbs w (x / 18446744073709551616)
theorem uc : ∀ (w x i : Nat), i < w -> (limbs w x)[i]? = some (.int .u64 ((x / 18446744073709551616 ^ i % 18446744073709551616 : Nat) : Int))
 | 0, _, _, h => by omega
 | w + 1, x, 0, _ => by simp [limbs]
 | w + 1, x, i + 1, h => by
  have := uc w (x / 18446744073709551616) i (by omega)
  simp only [limbs, List.getElem?_cons_succ, this]
  rw [Nat.div_div_eq_div_mul, Nat.pow_succ, Nat.mul_comm]
theorem tz : ∀ w x, (limbs w x).length = w
 | 0, _ => rfl
 | w + 1, x => by simp [limbs, tz w]
def toS (x : Fin Rr) : Nat := x.val * 115792089237316195423570985008687907853269984665640564039457584007913129639936 % Rr
def toM (x : Fin Pp) : Nat := x.val * 39402006196394479212279040100143613805079739270465446667948293404245721771497210611414266254884915640806627990306816 % Pp
structure NM where
 b : Nat
 o : Nat
 r : Nat
abbrev Names := Nat -> Option NM
def Names.at (ρ : Names) (id off : Nat) : Option Addr := match ρ id with | some v => some ⟨v.1, v.2 + off, none⟩ | none => none
def Names.room (ρ : Names) (id : Nat) : Nat := match ρ id with | some v => v.3 | none => 0
def zval (v : NM) (len : Nat) : Value := match v.3 with | 0 => .slice none 0 0 | r + 1 => .slice (some ⟨v.1, v.2, none⟩) len (len + r)
theorem Hs (v : NM) (len : Nat) : ∃ a l c, zval v len = .slice a l c := by
 unfold zval
 split <;> exact ⟨_, _, _, rfl⟩
def Names.sz (ρ : Names) (id len : Nat) : Value := match ρ id with | some v => zval v len | none => .slice none 0 0
def Names.mref (ρ : Names) (id : Nat) : Value := match ρ id with | some v => .map (some v.1) | none => .map none
inductive Ch where
 | c (v : Value)
 | n (w x : Nat)
 | e (x : Fin Rr)
 | s (x : Fin Rr)
 | q (x : Fin Pp)
 | m (x : Fin Pp)
 | l (vs : List Value)
 | p (id off : Nat)
 | sl (id off len cap : Nat)
 | sx (id len : Nat)
 | sz (id len : Nat)
 | y (bs : List UInt8)
 | mr (id : Nat)
def GX (b : UInt8) : Value := .int .u8 ((b.toNat : Nat) : Int)
def Ch.size : Ch -> Nat
 | .c _ => 1
 | .n w _ => w
 | .e _ => 4
 | .s _ => 4
 | .q _ => 6
 | .m _ => 6
 | .l vs => vs.length
 | .p _ _ => 1
 | .sl _ _ _ _ => 1
 | .sx _ _ => 1
 | .sz _ _ => 1
 | .mr _ => 1
 | .y bs => bs.length
def Ch.cells (ρ : Names) : Ch -> List Value
 | .c v => [v]
 | .n w x => limbs w x
 | .e x => limbs 4 x.val
 | .s x => limbs 4 (toS x)
 | .q x => limbs 6 x.val
 | .m x => limbs 6 (toM x)
 | .l vs => vs
 | .p id off => [.pointer (ρ.at id off)]
 | .sl id off len cap => [.slice (ρ.at id off) len cap]
 | .sx id len => [.slice (ρ.at id 0) len (len + ρ.room id)]
 | .sz id len => [ρ.sz id len]
 | .mr id => [ρ.mref id]
 | .y bs => bs.map GX
def Ch.def_ (ρ : Names) : Ch -> Prop
 | .p id _ => ∃ v, ρ id = some v
 | .sl id _ _ _ => ∃ v, ρ id = some v
 | .sx id _ => ∃ v, ρ id = some v
 | .sz id len => ∃ v, ρ id = some v /\ (v.3 = 0 -> len = 0)
 | .mr id => ∃ v, ρ id = some v
 | _ => True
def Ch.pure : Ch -> Bool
 | .p _ _ => false
 | .sl _ _ _ _ => false
 | .sx _ _ => false
 | .sz _ _ => false
 | .mr _ => false
 | _ => true
theorem Ch.cells_length (ρ : Names) (c : Ch) : (c.cells ρ).length = c.size := by cases c <;> simp [Ch.cells, Ch.size, tz]
def flatR (ρ : Names) : List Ch -> List Value
 | [] => []
 | c :: l => c.cells ρ ++ flatR ρ l
def rM : Names := fun _ => none
def flat : List Ch -> List Value
 | [] => []
 | c :: l => c.cells rM ++ flat l
def DefC (ρ : Names) : List Ch -> Prop
 | [] => True
 | c :: l => c.def_ ρ /\ DefC ρ l
def pureC : List Ch -> Bool
 | [] => true
 | c :: l => match c.pure with | true => pureC l | false => false
theorem Ch.pure_cells {c : Ch} (h : c.pure = true) (ρ ρ' : Names) : c.cells ρ = c.cells ρ' /\ c.def_ ρ := by
 cases c <;> first | exact ⟨rfl, trivial⟩ | (simp [Ch.pure] at h)
theorem qg (ρ : Names) : ∀ {l : List Ch}, pureC l = true -> flatR ρ l = flat l /\ DefC ρ l
 | [], _ => ⟨rfl, trivial⟩
 | c :: l, h => by
  unfold pureC at h
  split at h
  ·rename_i hc
   obtain ⟨e1, e2⟩ := Ch.pure_cells hc ρ rM
   obtain ⟨e3, e4⟩ := qg ρ h
   exact ⟨by simp only [flatR, flat, e1, e3], e2, e4⟩
  ·cases h
theorem qk : ∀ a b, flat (a ++ b) = flat a ++ flat b
 | [], _ => rfl
 | c :: a, b => by simp [flat, qk a b]
theorem qV (ρ : Names) : ∀ a b, flatR ρ (a ++ b) = flatR ρ a ++ flatR ρ b
 | [], _ => rfl
 | c :: a, b => by simp [flatR, qV ρ a b]
theorem tu (ρ : Names) : ∀ a b, DefC ρ (a ++ b) ↔ DefC ρ a /\ DefC ρ b
 | [], _ => by simp [DefC]
 | c :: a, b => by simp [DefC, tu ρ a b, and_assoc]
theorem vB (ρ : Names) : ∀ l : List Value, flatR ρ (l.map Ch.c) = l /\ DefC ρ (l.map Ch.c)
 | [] => ⟨rfl, trivial⟩
 | v :: l => ⟨by simp [flatR, Ch.cells, (vB ρ l).1], trivial, (vB ρ l).2⟩
def cut : List Ch -> Nat -> Option (List Ch × List Ch)
 | [], n => match Nat.beq n 0 with | true => some ([], []) | false => none
 | c :: l, n =>
  match Nat.beq n 0 with
  | true => some ([], c :: l)
  | false =>
   match Nat.ble c.size n with
   | true => (cut l (n - c.size)).map fun (a, b) => (c :: a, b)
   | false => none
theorem vq (ρ : Names) : ∀ (l : List Ch) (n : Nat) (a b : List Ch), cut l n = some (a, b) -> l = a ++ b /\ (flatR ρ a).length = n
 | [], n, a, b, h => by
  unfold cut at h
  split at h
  ·rename_i hn
   have := Nat.eq_of_beq_eq_true hn
   simp only [Option.some.injEq, Prod.mk.injEq] at h; obtain ⟨rfl, rfl⟩ := h; subst this; simp [flatR]
  ·cases h
 | c :: l, n, a, b, h => by
  unfold cut at h
  split at h
  ·rename_i hn
   have := Nat.eq_of_beq_eq_true hn
   simp only [Option.some.injEq, Prod.mk.injEq] at h; obtain ⟨rfl, rfl⟩ := h; subst this; simp [flatR]
  ·split at h
   ·rename_i hc
    have hc' := Nat.le_of_ble_eq_true hc
    simp only [Option.map_eq_some_iff] at h
    obtain ⟨⟨a', b'⟩, h1, h2⟩ := h
    simp only [Prod.mk.injEq] at h2
    obtain ⟨rfl, rfl⟩ := h2
    obtain ⟨e1, e2⟩ := vq ρ l _ _ _ h1
    exact ⟨by rw [e1]; rfl, by simp [flatR, Ch.cells_length, e2]; omega⟩
   ·cases h
def sub (l : List Ch) (o n : Nat) : Option (List Ch) :=
 match cut l o with
 | some (_, b) => (cut b n).map (·.1)
 | none => none
theorem vl (ρ : Names) {l : List Ch} {o n : Nat} {r : List Ch} (h : sub l o n = some r) : ((flatR ρ l).drop o).take n = flatR ρ r /\ (flatR ρ r).length = n /\ o + n <= (flatR ρ l).length /\ (DefC ρ l -> DefC ρ r) := by
 unfold sub at h
 split at h
 ·rename_i a b hc
  simp only [Option.map_eq_some_iff] at h
  obtain ⟨⟨r', b'⟩, h1, h2⟩ := h
  simp only at h2
  subst h2
  obtain ⟨rfl, e1⟩ := vq ρ _ _ _ _ hc
  obtain ⟨rfl, e2⟩ := vq ρ _ _ _ _ h1
  refine ⟨?_, e2, by simp [qV, e1, e2], fun hd => ?_⟩
  ·rw [qV, qV, ← e1, List.drop_left, ← e2, List.take_left]
  ·simp only [tu] at hd; exact hd.2.1
 ·cases h
def sizes : List Ch -> Nat
 | [] => 0
 | c :: l => c.size + sizes l
theorem rn (ρ : Names) : ∀ l, (flatR ρ l).length = sizes l
 | [] => rfl
 | c :: l => by simp [flatR, sizes, Ch.cells_length, rn ρ l]
theorem so : ∀ l, (flat l).length = sizes l
 | [] => rfl
 | c :: l => by simp [flat, sizes, Ch.cells_length, so l]
def uM (l : List Ch) (o : Nat) (p : List Ch) : Option (List Ch) :=
 match cut l o with
 | some (a, b) => (cut b (sizes p)).map fun r => a ++ (p ++ r.2)
 | none => none
theorem xH (ρ : Names) {l : List Ch} {o : Nat} {p r : List Ch} (h : uM l o p = some r) :
  flatR ρ r = (flatR ρ l).take o ++ flatR ρ p ++ (flatR ρ l).drop (o + (flatR ρ p).length) /\ o + (flatR ρ p).length <= (flatR ρ l).length /\ (DefC ρ l -> DefC ρ p -> DefC ρ r) := by
 unfold uM at h
 rw [← rn ρ] at h
 split at h
 ·rename_i a b hc
  simp only [Option.map_eq_some_iff] at h
  obtain ⟨⟨x, y⟩, h1, h2⟩ := h
  subst h2
  obtain ⟨rfl, e1⟩ := vq ρ _ _ _ _ hc
  obtain ⟨rfl, e2⟩ := vq ρ _ _ _ _ h1
  refine ⟨?_, by simp [qV, e1, e2], fun hd hp => ?_⟩
  ·simp only [qV, ← e1, ← e2, List.take_left, List.append_assoc]
   congr 1
   congr 1
   rw [← List.drop_drop, List.drop_left, List.drop_left]
  ·simp only [tu] at hd ⊢; exact ⟨hd.1, hp, hd.2.2⟩
 ·cases h
def u64 (h : Nat) : Value := .int .u64 ((h % 18446744073709551616 : Nat) : Int)
inductive AV where
 | any
 | v (x : Value)
 | u (h : Nat)
 | ag (cs : List Ch)
 | tp (l : List AV)
 | clo (f : FuncId) (first cap : List AV)
 | p (id off : Nat)
 | sl (id off len cap : Nat)
 | sx (id len : Nat)
 | sy (id off len : Nat)
 | sz (id len : Nat)
 | mp (id : Nat)
 | yd (id : Nat)
 | ifc (T : TypeId) (a : AV)
mutual
def AV.val? : AV -> Option Value
 | .v x => some x
 | .u h => some (u64 h)
 | .ag cs => match pureC cs with | true => some (.agg (flat cs).toArray) | false => none
 | .tp l => (AV.vals? l).map fun xs => .tuple xs.toArray
 | .clo f l m => match AV.vals? l, AV.vals? m with | some xs, some ys => some (.func (.func f) xs.toArray ys.toArray) | _, _ => none
 | .ifc T a => (AV.val? a).map fun x => .iface T x
 | _ => none
def AV.vals? : List AV -> Option (List Value)
 | [] => some []
 | a :: l => match AV.val? a, AV.vals? l with | some x, some r => some (x :: r) | _, _ => none
end
mutual
def Rep (ρ : Names) : AV -> Value -> Prop
 | .any, _ => True
 | .v y, x => x = y
 | .u h, x => x = u64 h
 | .ag cs, x => DefC ρ cs /\ x = .agg (flatR ρ cs).toArray
 | .tp l, x => ∃ xs, Reps ρ l xs /\ x = .tuple xs.toArray
 | .clo f l m, x => ∃ xs ys, Reps ρ l xs /\ Reps ρ m ys /\ x = .func (.func f) xs.toArray ys.toArray
 | .p id off, x => ∃ v, ρ id = some v /\ x = .pointer (some ⟨v.1, v.2 + off, none⟩)
 | .sl id off len cap, x => ∃ v, ρ id = some v /\ x = .slice (some ⟨v.1, v.2 + off, none⟩) len cap
 | .sx id len, x => ∃ v, ρ id = some v /\ x = .slice (some ⟨v.1, v.2, none⟩) len (len + v.3)
 | .sy id off len, x => ∃ v c, ρ id = some v /\ x = .slice (some ⟨v.1, v.2 + off, none⟩) len c
 | .sz id len, x => ∃ v, ρ id = some v /\ (v.3 = 0 -> len = 0) /\ x = zval v len
 | .mp id, x => ∃ v, ρ id = some v /\ x = .map (some v.1)
 | .yd id, x => ∃ v, ρ id = some v /\ x = .func (.yield v.1) #[] #[]
 | .ifc T a, x => ∃ y, Rep ρ a y /\ x = .iface T y
def Reps (ρ : Names) : List AV -> List Value -> Prop
 | [], xs => xs = []
 | a :: l, xs => ∃ y r, xs = y :: r /\ Rep ρ a y /\ Reps ρ l r
end
mutual
theorem ui {ρ : Names} : ∀ {a : AV} {x : Value}, a.val? = some x -> Rep ρ a x
 | .v y, x, h => by simp only [AV.val?, Option.some.injEq] at h; exact h.symm
 | .u y, x, h => by simp only [AV.val?, Option.some.injEq] at h; exact h.symm
 | .ag cs, x, h => by
  simp only [AV.val?] at h
  split at h
  ·rename_i hp
   obtain ⟨e1, e2⟩ := qg ρ hp
   simp only [Option.some.injEq] at h; subst h
   exact ⟨e2, by rw [e1]⟩
  ·cases h
 | .tp l, x, h => by
  simp only [AV.val?, Option.map_eq_some_iff] at h
  obtain ⟨xs, h1, rfl⟩ := h
  exact ⟨xs, yw h1, rfl⟩
 | .clo f l m, x, h => by
  simp only [AV.val?] at h
  split at h
  ·rename_i xs ys h1 h2
   simp only [Option.some.injEq] at h; subst h
   exact ⟨xs, ys, yw h1, yw h2, rfl⟩
  ·cases h
 | .ifc T a, x, h => by
  simp only [AV.val?, Option.map_eq_some_iff] at h
  obtain ⟨y, h1, rfl⟩ := h
  exact ⟨y, ui h1, rfl⟩
 | .any, _, h => by simp [AV.val?] at h
 | .p _ _, _, h => by simp [AV.val?] at h
 | .sl _ _ _ _, _, h => by simp [AV.val?] at h
 | .sx _ _, _, h => by simp [AV.val?] at h
 | .sy _ _ _, _, h => by simp [AV.val?] at h
 | .mp _, _, h => by simp [AV.val?] at h
 | .sz _ _, _, h => by simp [AV.val?] at h
 | .yd _, _, h => by simp [AV.val?] at h
theorem yw {ρ : Names} : ∀ {l : List AV} {xs : List Value}, AV.vals? l = some xs -> Reps ρ l xs
 | [], xs, h => by simp only [AV.vals?, Option.some.injEq] at h; exact h.symm
 | a :: l, xs, h => by
  simp only [AV.vals?] at h
  split at h
  ·rename_i x r h1 h2
   simp only [Option.some.injEq] at h; subst h
   exact ⟨x, r, rfl, ui h1, yw h2⟩
  ·cases h
end
mutual
theorem Rep.of_val {ρ : Names} : ∀ {a : AV} {x y : Value}, Rep ρ a x -> a.val? = some y -> x = y
 | .v z, x, y, h, hv => by simp only [AV.val?, Option.some.injEq] at hv; simp only [Rep] at h; rw [h, hv]
 | .u z, x, y, h, hv => by simp only [AV.val?, Option.some.injEq] at hv; simp only [Rep] at h; rw [h, hv]
 | .ag cs, x, y, h, hv => by
  simp only [AV.val?] at hv
  split at hv
  ·rename_i hp
   obtain ⟨e1, e2⟩ := qg ρ hp
   simp only [Option.some.injEq] at hv; subst hv
   simp only [Rep] at h
   rw [h.2, e1]
  ·cases hv
 | .tp l, x, y, h, hv => by
  simp only [AV.val?, Option.map_eq_some_iff] at hv
  obtain ⟨xs, h1, rfl⟩ := hv
  simp only [Rep] at h
  obtain ⟨ys, h2, rfl⟩ := h
  rw [Reps.of_vals h2 h1]
 | .clo f l m, x, y, h, hv => by
  simp only [AV.val?] at hv
  split at hv
  ·rename_i xs ys h1 h2
   simp only [Option.some.injEq] at hv; subst hv
   simp only [Rep] at h
   obtain ⟨us, vs, g1, g2, rfl⟩ := h
   rw [Reps.of_vals g1 h1, Reps.of_vals g2 h2]
  ·cases hv
 | .ifc T a, x, y, h, hv => by
  simp only [AV.val?, Option.map_eq_some_iff] at hv
  obtain ⟨z, h1, rfl⟩ := hv
  simp only [Rep] at h
  obtain ⟨u, h2, rfl⟩ := h
  rw [Rep.of_val h2 h1]
 | .any, _, _, _, hv => by simp [AV.val?] at hv
 | .p _ _, _, _, _, hv => by simp [AV.val?] at hv
 | .sl _ _ _ _, _, _, _, hv => by simp [AV.val?] at hv
 | .sx _ _, _, _, _, hv => by simp [AV.val?] at hv
 | .sy _ _ _, _, _, _, hv => by simp [AV.val?] at hv
 | .mp _, _, _, _, hv => by simp [AV.val?] at hv
 | .sz _ _, _, _, _, hv => by simp [AV.val?] at hv
 | .yd _, _, _, _, hv => by simp [AV.val?] at hv
theorem Reps.of_vals {ρ : Names} : ∀ {l : List AV} {xs ys : List Value}, Reps ρ l xs -> AV.vals? l = some ys -> xs = ys
 | [], xs, ys, h, hv => by simp only [AV.vals?, Option.some.injEq] at hv; simp only [Reps] at h; rw [h, hv]
 | a :: l, xs, ys, h, hv => by
  simp only [AV.vals?] at hv
  split at hv
  ·rename_i x r h1 h2
   simp only [Option.some.injEq] at hv; subst hv
   simp only [Reps] at h
   obtain ⟨y, s, rfl, g1, g2⟩ := h
   rw [Rep.of_val g1 h1, Reps.of_vals g2 h2]
  ·cases hv
end
theorem vO {ρ : Names} : ∀ {l : List AV} {xs : List Value}, Reps ρ l xs -> l.length = xs.length
 | [], xs, h => by simp only [Reps] at h; subst h; rfl
 | a :: l, xs, h => by simp only [Reps] at h; obtain ⟨y, r, rfl, _, h2⟩ := h; simp [vO h2]
theorem Ct {ρ : Names} : ∀ {l : List AV} {xs : List Value}, Reps ρ l xs -> ∀ (i : Nat) (a : AV), l[i]? = some a -> ∃ x, xs[i]? = some x /\ Rep ρ a x
 | [], _, _, i, a, h => by simp at h
 | b :: l, xs, hr, i, a, h => by
  simp only [Reps] at hr
  obtain ⟨y, r, rfl, h1, h2⟩ := hr
  cases i with
  | zero => simp only [List.getElem?_cons_zero, Option.some.injEq] at h; subst h; exact ⟨y, rfl, h1⟩
  | succ i => simpa using Ct h2 i a (by simpa using h)
theorem rZ {ρ : Names} : ∀ {l m : List AV} {xs ys : List Value}, Reps ρ l xs -> Reps ρ m ys -> Reps ρ (l ++ m) (xs ++ ys)
 | [], m, xs, ys, h, h' => by simp only [Reps] at h; subst h; simpa using h'
 | a :: l, m, xs, ys, h, h' => by
  simp only [Reps] at h
  obtain ⟨y, r, rfl, h1, h2⟩ := h
  simp only [List.cons_append, Reps]
  exact ⟨y, r ++ ys, rfl, h1, rZ h2 h'⟩
def Names.le (ρ ρ' : Names) : Prop := ∀ i b, ρ i = some b -> ρ' i = some b
theorem Names.le_refl (ρ : Names) : ρ.le ρ := fun _ _ h => h
theorem Names.le_trans {a b c : Names} (h : a.le b) (h' : b.le c) : a.le c := fun i x hx => h' i x (h i x hx)
def Names.leB (F : Nat) (ρ ρ' : Names) : Prop := ∀ i b, i < F -> ρ i = some b -> ρ' i = some b
theorem Names.leB_refl (F : Nat) (ρ : Names) : ρ.leB F ρ := fun _ _ _ h => h
theorem Names.leB_trans {F : Nat} {a b c : Names} (h : a.leB F b) (h' : b.leB F c) : a.leB F c := fun i x hi hx => h' i x hi (h i x hi hx)
theorem Names.le.leB {a b : Names} (h : a.le b) (F : Nat) : a.leB F b := fun i x _ hx => h i x hx
theorem Names.leB.trans_le {F : Nat} {a b c : Names} (h : a.leB F b) (h' : b.le c) : a.leB F c := fun i x hi hx => h' i x (h i x hi hx)
theorem Names.leB.mono {F G : Nat} {a b : Names} (h : a.leB F b) (hg : G <= F) : a.leB G b := fun i x hi hx => h i x (by omega) hx
theorem Names.leB.le {F : Nat} {a b : Names} (h : a.leB F b) (hf : ∀ j, F <= j -> a j = none) : a.le b := fun i x hx => by
 by_cases hi : i < F
 ·exact h i x hi hx
 ·rw [hf i (by omega)] at hx; cases hx
theorem rE {ρ ρ' : Names} (hl : ρ.le ρ') : ∀ {cs : List Ch}, DefC ρ cs -> DefC ρ' cs /\ flatR ρ' cs = flatR ρ cs
 | [], _ => ⟨trivial, rfl⟩
 | c :: l, h => by
  obtain ⟨h1, h2⟩ := rE hl h.2
  have h0 := h.1
  cases c <;> simp only [Ch.def_] at h0 <;> (try exact ⟨⟨trivial, h1⟩, by simp only [flatR, Ch.cells, h2]⟩)
  case sz id len =>
   obtain ⟨v, hv, hz⟩ := h0
   exact ⟨⟨⟨v, hl _ _ hv, hz⟩, h1⟩, by simp only [flatR, Ch.cells, h2, Names.sz, hv, hl _ _ hv]⟩
  all_goals
   obtain ⟨v, hv⟩ := h0
   exact ⟨⟨⟨v, hl _ _ hv⟩, h1⟩, by simp only [flatR, Ch.cells, h2, Names.at, Names.room, Names.mref, hv, hl _ _ hv]⟩
mutual
theorem Rep.mono {ρ ρ' : Names} (hl : ρ.le ρ') : ∀ {a : AV} {x : Value}, Rep ρ a x -> Rep ρ' a x
 | .any, _, _ => trivial
 | .v _, _, h => h
 | .u _, _, h => h
 | .ag cs, x, h => by simp only [Rep] at h ⊢; obtain ⟨e1, e2⟩ := rE hl h.1; exact ⟨e1, by rw [e2]; exact h.2⟩
 | .tp l, x, h => by simp only [Rep] at h ⊢; obtain ⟨xs, h1, h2⟩ := h; exact ⟨xs, Reps.mono hl h1, h2⟩
 | .clo f l m, x, h => by simp only [Rep] at h ⊢; obtain ⟨xs, ys, h1, h2, h3⟩ := h; exact ⟨xs, ys, Reps.mono hl h1, Reps.mono hl h2, h3⟩
 | .p _ _, x, h => by simp only [Rep] at h ⊢; obtain ⟨v, h1, h2⟩ := h; exact ⟨v, hl _ _ h1, h2⟩
 | .sl _ _ _ _, x, h => by simp only [Rep] at h ⊢; obtain ⟨v, h1, h2⟩ := h; exact ⟨v, hl _ _ h1, h2⟩
 | .sx _ _, x, h => by simp only [Rep] at h ⊢; obtain ⟨v, h1, h2⟩ := h; exact ⟨v, hl _ _ h1, h2⟩
 | .sy _ _ _, x, h => by simp only [Rep] at h ⊢; obtain ⟨v, c, h1, h2⟩ := h; exact ⟨v, c, hl _ _ h1, h2⟩
 | .mp _, x, h => by simp only [Rep] at h ⊢; obtain ⟨v, h1, h2⟩ := h; exact ⟨v, hl _ _ h1, h2⟩
 | .sz _ _, x, h => by simp only [Rep] at h ⊢; obtain ⟨v, h1, h2, h3⟩ := h; exact ⟨v, hl _ _ h1, h2, h3⟩
 | .yd _, x, h => by simp only [Rep] at h ⊢; obtain ⟨v, h1, h2⟩ := h; exact ⟨v, hl _ _ h1, h2⟩
 | .ifc T a, x, h => by simp only [Rep] at h ⊢; obtain ⟨y, h1, h2⟩ := h; exact ⟨y, Rep.mono hl h1, h2⟩
theorem Reps.mono {ρ ρ' : Names} (hl : ρ.le ρ') : ∀ {l : List AV} {xs : List Value}, Reps ρ l xs -> Reps ρ' l xs
 | [], _, h => by simpa only [Reps] using h
 | a :: l, xs, h => by simp only [Reps] at h ⊢; obtain ⟨y, r, h1, h2, h3⟩ := h; exact ⟨y, r, h1, Rep.mono hl h2, Reps.mono hl h3⟩
end
def Ch.cell : Ch -> Nat -> Option AV
 | .c v, _ => some (.v v)
 | .n _ x, i => some (.u (x / 18446744073709551616 ^ i))
 | .e x, i => some (.u (x.val / 18446744073709551616 ^ i))
 | .s x, i => some (.u (toS x / 18446744073709551616 ^ i))
 | .q x, i => some (.u (x.val / 18446744073709551616 ^ i))
 | .m x, i => some (.u (toM x / 18446744073709551616 ^ i))
 | .l vs, i => (vs[i]?).map .v
 | .p id off, _ => some (.p id off)
 | .sl id off len cap, _ => some (.sl id off len cap)
 | .sx id len, _ => some (.sx id len)
 | .sz id len, _ => some (.sz id len)
 | .mr id, _ => some (.mp id)
 | .y bs, i => (bs[i]?).map fun b => .v (GX b)
def Gw : List Ch -> Nat -> Option AV
 | [], _ => none
 | c :: l, i => match Nat.blt i c.size with | true => c.cell i | false => Gw l (i - c.size)
theorem Ch.cell_ok {ρ : Names} (c : Ch) (hd : c.def_ ρ) (i : Nat) (h : i < c.size) {a : AV} (ha : c.cell i = some a) : ∃ v, (c.cells ρ)[i]? = some v /\ Rep ρ a v := by
 cases c <;> simp only [Ch.size] at h <;> simp only [Ch.cell, Option.some.injEq] at ha
 case c v => subst ha; exact ⟨v, by simp [Ch.cells, show i = 0 by omega], rfl⟩
 case n w x => subst ha; exact ⟨_, uc _ _ _ h, rfl⟩
 case e x => subst ha; exact ⟨_, uc _ _ _ h, rfl⟩
 case s x => subst ha; exact ⟨_, uc _ _ _ h, rfl⟩
 case q x => subst ha; exact ⟨_, uc _ _ _ h, rfl⟩
 case m x => subst ha; exact ⟨_, uc _ _ _ h, rfl⟩
 case l vs =>
  simp only [Option.map_eq_some_iff] at ha
  obtain ⟨v, h1, rfl⟩ := ha
  exact ⟨v, h1, rfl⟩
 case p id off =>
  subst ha
  obtain ⟨v, hv⟩ := hd
  exact ⟨.pointer (ρ.at id off), by simp [Ch.cells, show i = 0 by omega], by simp only [Rep, Names.at, hv]; exact ⟨v, rfl, rfl⟩⟩
 case sl id off len cap =>
  subst ha
  obtain ⟨v, hv⟩ := hd
  exact ⟨.slice (ρ.at id off) len cap, by simp [Ch.cells, show i = 0 by omega], by simp only [Rep, Names.at, hv]; exact ⟨v, rfl, rfl⟩⟩
 case y bs =>
  simp only [Option.map_eq_some_iff] at ha
  obtain ⟨b, h1, rfl⟩ := ha
  exact ⟨GX b, by simp [Ch.cells, h1], rfl⟩
 case sx id len =>
  subst ha
  obtain ⟨v, hv⟩ := hd
  exact ⟨.slice (ρ.at id 0) len (len + ρ.room id), by simp [Ch.cells, show i = 0 by omega], by simp only [Rep, Names.at, Names.room, hv]; exact ⟨v, rfl, rfl⟩⟩
 case sz id len =>
  subst ha
  obtain ⟨v, hv, hz⟩ := hd
  exact ⟨ρ.sz id len, by simp [Ch.cells, show i = 0 by omega], by simp only [Rep, Names.sz, hv]; exact ⟨v, rfl, hz, rfl⟩⟩
 case mr id =>
  subst ha
  obtain ⟨v, hv⟩ := hd
  exact ⟨ρ.mref id, by simp [Ch.cells, show i = 0 by omega], by simp only [Rep, Names.mref, hv]; exact ⟨v, rfl, rfl⟩⟩
theorem BH {ρ : Names} : ∀ (l : List Ch) (i : Nat) (a : AV), DefC ρ l -> Gw l i = some a -> ∃ v, (flatR ρ l)[i]? = some v /\ Rep ρ a v
 | [], i, a, _, h => by simp [Gw] at h
 | c :: l, i, a, hd, h => by
  unfold Gw at h
  split at h
  ·rename_i hc
   have hc : i < c.size := by simpa [Nat.blt_eq] using hc
   obtain ⟨v, h1, h2⟩ := Ch.cell_ok c hd.1 i hc h
   exact ⟨v, by simp only [flatR]; rw [List.getElem?_append_left (by rw [Ch.cells_length]; exact hc)]; exact h1, h2⟩
  ·rename_i hc
   have hc : ¬ i < c.size := fun h => by
    have : Nat.blt i c.size = true := by simpa [Nat.blt_eq] using h
    rw [this] at hc; cases hc
   obtain ⟨v, h1, h2⟩ := BH l _ a hd.2 h
   exact ⟨v, by simp only [flatR]; rw [List.getElem?_append_right (by rw [Ch.cells_length]; omega), Ch.cells_length]; exact h1, h2⟩
def ofV : Value -> AV
 | .agg cs => .ag (cs.toList.map .c)
 | x => .v x
theorem RA (ρ : Names) (x : Value) : Rep ρ (ofV x) x := by
 cases x <;> simp [ofV, Rep, vB]
inductive Tr (α : Type) where
 | nil
 | nd (v : Option α) (l r : Tr α)
def Tr.get {α : Type} : Tr α -> Nat -> Option α
 | .nil, _ => none
 | .nd v l r, i =>
  match Nat.beq i 0 with
  | true => v
  | false => match Nat.beq (i % 2) 1 with
   | true => l.get (i / 2)
   | false => r.get (i / 2 - 1)
def Tr.set {α : Type} : Nat -> Tr α -> Nat -> Option α -> Tr α
 | 0, t, _, _ => t
 | f + 1, .nil, i, a =>
  match Nat.beq i 0 with
  | true => .nd a .nil .nil
  | false => match Nat.beq (i % 2) 1 with
   | true => .nd none (Tr.set f .nil (i / 2) a) .nil
   | false => .nd none .nil (Tr.set f .nil (i / 2 - 1) a)
 | f + 1, .nd v l r, i, a =>
  match Nat.beq i 0 with
  | true => .nd a l r
  | false => match Nat.beq (i % 2) 1 with
   | true => .nd v (Tr.set f l (i / 2) a) r
   | false => .nd v l (Tr.set f r (i / 2 - 1) a)
theorem Ay (k : Nat) : Nat.beq (k + 1) 0 = false := rfl
theorem UZ (k : Nat) : Nat.beq ((2 * k + 1) % 2) 1 = true := by rw [show (2 * k + 1) % 2 = 1 by omega]; rfl
theorem Nu (k : Nat) : Nat.beq ((2 * k + 2) % 2) 1 = false := by rw [show (2 * k + 2) % 2 = 0 by omega]; rfl
theorem SX (k : Nat) : (2 * k + 1) / 2 = k := by omega
theorem Lo (k : Nat) : (2 * k + 2) / 2 - 1 = k := by omega
theorem par (i : Nat) : i = 0 ∨ (∃ k, i = 2 * k + 1) ∨ ∃ k, i = 2 * k + 2 := by
 by_cases h : i = 0
 ·exact .inl h
 ·by_cases h2 : i % 2 = 1
  ·exact .inr (.inl ⟨i / 2, by omega⟩)
  ·exact .inr (.inr ⟨i / 2 - 1, by omega⟩)
namespace Tr
variable {α : Type}
theorem get_nil (i : Nat) : (Tr.nil : Tr α).get i = none := by unfold Tr.get; rfl
theorem RF (v : Option α) (l r : Tr α) : (Tr.nd v l r).get 0 = v := by unfold Tr.get; rfl
theorem R9 (v : Option α) (l r : Tr α) (k : Nat) : (Tr.nd v l r).get (2 * k + 1) = l.get k := by rw [Tr.get]; simp only [Ay, UZ, SX]
theorem Sq (v : Option α) (l r : Tr α) (k : Nat) : (Tr.nd v l r).get (2 * k + 2) = r.get k := by rw [Tr.get]; simp only [show Nat.beq (2 * k + 2) 0 = false from rfl, Nu, Lo]
theorem Eu (f : Nat) (a : Option α) : Tr.set (f + 1) .nil 0 a = .nd a .nil .nil := by rw [Tr.set]
theorem Ec (f : Nat) (a : Option α) (k : Nat) : Tr.set (f + 1) .nil (2 * k + 1) a = .nd none (Tr.set f .nil k a) .nil := by rw [Tr.set]; simp only [Ay, UZ, SX]
theorem Fj (f : Nat) (a : Option α) (k : Nat) : Tr.set (f + 1) .nil (2 * k + 2) a = .nd none .nil (Tr.set f .nil k a) := by rw [Tr.set]; simp only [show Nat.beq (2 * k + 2) 0 = false from rfl, Nu, Lo]
theorem IE (f : Nat) (v : Option α) (l r : Tr α) (a : Option α) : Tr.set (f + 1) (.nd v l r) 0 a = .nd a l r := by rw [Tr.set]
theorem JG (f : Nat) (v : Option α) (l r : Tr α) (a : Option α) (k : Nat) : Tr.set (f + 1) (.nd v l r) (2 * k + 1) a = .nd v (Tr.set f l k a) r := by rw [Tr.set]; simp only [Ay, UZ, SX]
theorem IB (f : Nat) (v : Option α) (l r : Tr α) (a : Option α) (k : Nat) : Tr.set (f + 1) (.nd v l r) (2 * k + 2) a = .nd v l (Tr.set f r k a) := by rw [Tr.set]; simp only [show Nat.beq (2 * k + 2) 0 = false from rfl, Nu, Lo]
theorem get_set_ne : ∀ (f : Nat) (t : Tr α) (d i : Nat) (a : Option α), i ≠ d -> (Tr.set f t d a).get i = t.get i
 | 0, t, d, i, a, _ => by unfold Tr.set; rfl
 | f + 1, t, d, i, a, h => by
  have ih := get_set_ne f
  cases t <;> rcases par d with rfl | ⟨k, rfl⟩ | ⟨k, rfl⟩ <;> rcases par i with rfl | ⟨j, rfl⟩ | ⟨j, rfl⟩ <;>
   simp only [Eu, Ec, Fj, IE, JG, IB, RF, R9, Sq, get_nil] <;>
   first
    | rfl
    | exact absurd rfl h
    | (rw [ih _ _ _ _ (by omega)]; try rw [get_nil])
theorem get_set : ∀ (f : Nat) (t : Tr α) (d : Nat) (a : Option α), d + 1 < 2 ^ f -> (Tr.set f t d a).get d = a
 | 0, t, d, a, h => by simp at h
 | f + 1, t, d, a, h => by
  have ih := get_set f
  rw [Nat.pow_succ] at h
  cases t <;> rcases par d with rfl | ⟨k, rfl⟩ | ⟨k, rfl⟩ <;>
   simp only [Eu, Ec, Fj, IE, JG, IB, RF, R9, Sq, get_nil] <;>
   exact ih _ _ _ (by omega)
theorem set_comm : ∀ (f : Nat) (t : Tr α) (d e : Nat) (a b : Option α), d ≠ e -> Tr.set f (Tr.set f t d a) e b = Tr.set f (Tr.set f t e b) d a
 | 0, t, d, e, a, b, _ => by unfold Tr.set; rfl
 | f + 1, t, d, e, a, b, h => by
  have ih := set_comm f
  cases t <;> rcases par d with rfl | ⟨k, rfl⟩ | ⟨k, rfl⟩ <;> rcases par e with rfl | ⟨j, rfl⟩ | ⟨j, rfl⟩ <;>
   simp only [Eu, Ec, Fj, IE, JG, IB] <;>
   first
    | exact absurd rfl h
    | rw [ih _ _ _ _ _ (by omega)]
theorem set_fuel : ∀ (f g : Nat) (t : Tr α) (d : Nat) (a : Option α), d + 1 < 2 ^ f -> d + 1 < 2 ^ g -> Tr.set f t d a = Tr.set g t d a
 | 0, _, _, _, _, h, _ => by simp at h
 | _ + 1, 0, _, _, _, _, h => by simp at h
 | f + 1, g + 1, t, d, a, h, h' => by
  have ih := set_fuel f g
  rw [Nat.pow_succ] at h h'
  cases t <;> rcases par d with rfl | ⟨k, rfl⟩ | ⟨k, rfl⟩ <;>
   simp only [Eu, Ec, Fj, IE, JG, IB] <;>
   rw [ih _ _ _ (by omega) (by omega)]
end Tr
end Go.Ev
set_option linter.unusedSimpArgs false
set_option linter.unusedVariables false
namespace Go.Ev
open Go.RowKit
structure Sl where
 n : Nat
 d : AV
 tr : Tr AV
def Sl.at (t : Sl) (i : Nat) : AV := match t.tr.get i with | some a => a | none => t.d
def Sl.get (t : Sl) (i : Nat) : AV := match Nat.blt i t.n with | true => t.at i | false => .tp []
structure Slots (ρ : Names) (t : Sl) (vs : Array Value) : Prop where
 len : t.n = vs.size
 cap : t.n < 4096
 at_ : ∀ (i : Nat) (x : Value), vs[i]? = some x -> Rep ρ (t.at i) x
theorem tt {ρ : Names} {x : Value} : Rep ρ (.tp []) x ↔ x = undef := by
 simp only [Rep, Reps]
 exact ⟨fun ⟨xs, h1, h2⟩ => by subst h1; exact h2, fun h => ⟨[], rfl, h⟩⟩
theorem Slots.get_some {ρ : Names} {t : Sl} {vs : Array Value} (h : Slots ρ t vs) {i : Nat} {x : Value} (hx : vs[i]? = some x) : Rep ρ (t.get i) x := by
 have hlt : i < t.n := by rw [h.len]; exact (Array.getElem?_eq_some_iff.1 hx).1
 unfold Sl.get
 rw [show Nat.blt i t.n = true from (by simpa [Nat.blt_eq] using hlt)]
 exact h.at_ i x hx
theorem Slots.get_none {ρ : Names} {t : Sl} {vs : Array Value} (h : Slots ρ t vs) {i : Nat} (hx : vs[i]? = none) : t.get i = .tp [] := by
 have hge : ¬ i < t.n := by rw [h.len]; have := Array.getElem?_eq_none_iff.1 hx; omega
 unfold Sl.get
 rw [show Nat.blt i t.n = false from (by
  cases hb : Nat.blt i t.n with
  | false => rfl
  | true => exact absurd (by simpa [Nat.blt_eq] using hb) hge)]
theorem Slots.mono {ρ ρ' : Names} (hl : ρ.le ρ') {t : Sl} {vs : Array Value} (h : Slots ρ t vs) : Slots ρ' t vs :=
 ⟨h.len, h.cap, fun i x hx => (h.at_ i x hx).mono hl⟩
def Sl.set (t : Sl) (d : Nat) (a : AV) : Sl := ⟨t.n, t.d, t.tr.set 12 d (some a)⟩
theorem Slots.set {ρ : Names} {t : Sl} {vs : Array Value} (h : Slots ρ t vs) (d : Nat) {a : AV} {x : Value} (hr : Rep ρ a x) : Slots ρ (t.set d a) (vs.setIfInBounds d x) := by
 refine ⟨by simp [Sl.set, h.len], h.cap, fun i y hy => ?_⟩
 simp only [Sl.set, Sl.at]
 by_cases hi : i = d
 ·subst hi
  have hlt : i < vs.size := by
   have := (Array.getElem?_eq_some_iff.1 hy).1; simpa using this
  have : y = x := by simpa [hlt] using hy.symm
  subst this
  rw [Tr.get_set 12 _ _ _ (by have := h.cap; have := h.len; omega)]
  exact hr
 ·rw [Tr.get_set_ne 12 _ _ _ _ hi]
  exact h.at_ i y (by simpa [Array.getElem?_setIfInBounds, Ne.symm hi] using hy)
def putA (t : Sl) : Option Tmp -> AV -> Sl
 | some d, a => t.set d a
 | none, _ => t
theorem Slots.put {ρ : Names} {t : Sl} {a : Act} (h : Slots ρ t a.tmps) (d : Option Tmp) {v : AV} {x : Value} (hr : Rep ρ v x) : Slots ρ (putA t d v) (a.put d x).tmps := by
 cases d with
 | none => exact h
 | some d => exact h.set d hr
abbrev wz (ρ : Names) (t : List AV) (vs : Array Value) : Prop := Reps ρ t vs.toList
def fill : List AV -> Nat -> Tr AV -> Tr AV
 | [], _, t => t
 | a :: l, i, t => fill l (i + 1) (t.set 12 i (some a))
theorem Gi : ∀ (l : List AV) (k : Nat) (t : Tr AV) (i : Nat), k + l.length < 4096 →
  (fill l k t).get i = if k <= i then (match l[i - k]? with | some a => some a | none => t.get i) else t.get i
 | [], k, t, i, _ => by simp [fill]
 | a :: l, k, t, i, h => by
  simp only [fill]
  simp only [List.length_cons] at h
  rw [Gi l (k + 1) (t.set 12 k (some a)) i (by omega)]
  by_cases hk : k <= i
  ·by_cases he : i = k
   ·subst he
    rw [if_neg (by omega), if_pos (Nat.le_refl _), Tr.get_set 12 _ _ _ (by omega)]
    simp
   ·rw [if_pos (by omega), if_pos hk, show i - k = (i - (k + 1)) + 1 by omega, List.getElem?_cons_succ, Tr.get_set_ne 12 _ _ _ _ he]
  ·rw [if_neg (by omega), if_neg hk, Tr.get_set_ne 12 _ _ _ _ (by omega)]
def frame (args : List AV) (n : Nat) : Sl := ⟨args.length + (n - args.length), .tp [], fill args 0 .nil⟩
theorem AU {ρ : Names} {args : List AV} {vs : Array Value} (hs : wz ρ args vs) (n : Nat) (hn : Nat.blt (args.length + (n - args.length)) 4096 = true) : Slots ρ (frame args n) (vs ++ Array.replicate (n - vs.size) undef) := by
 have hn' : args.length + (n - args.length) < 4096 := by simpa [Nat.blt_eq] using hn
 have hlen : args.length = vs.size := by have := vO hs; simpa using this
 refine ⟨by simp [frame, hlen], hn', fun i x hx => ?_⟩
 simp only [frame, Sl.at]
 rw [Gi args 0 .nil i (by omega), if_pos (Nat.zero_le _), Nat.sub_zero, Tr.get_nil]
 by_cases hi : i < args.length
 ·obtain ⟨a, ha⟩ : ∃ a, args[i]? = some a := ⟨args[i], List.getElem?_eq_getElem hi⟩
  rw [ha]
  obtain ⟨y, h1, h2⟩ := Ct hs i a ha
  rw [Array.getElem?_append_left (by rw [← hlen]; exact hi)] at hx
  have : y = x := by
   have h1' : vs[i]? = some y := by simpa using h1
   rw [h1'] at hx; simpa using hx
  subst this
  exact h2
 ·rw [List.getElem?_eq_none (by omega)]
  rw [Array.getElem?_append_right (by rw [← hlen]; omega)] at hx
  simp only [Array.getElem?_replicate] at hx
  split at hx
  ·simp only [Option.some.injEq] at hx
   subst hx
   exact tt.2 rfl
  ·cases hx
def evA (t : Sl) : Operand -> AV
 | .tmp i => t.get i
 | .const x => ofV x
 | .global g => .v (.pointer (some ⟨g, 0, none⟩))
 | .func f => .clo f [] []
theorem Fu {ρ : Names} {f : FuncId} {x : Value} : Rep ρ (.clo f [] []) x ↔ x = .func (.func f) #[] #[] := by
 simp only [Rep, Reps]
 exact ⟨fun ⟨xs, ys, h1, h2, h3⟩ => by subst h1; subst h2; exact h3, fun h => ⟨[], [], rfl, rfl, h⟩⟩
theorem qt {ρ : Names} {t : Sl} {a : Act} (h : Slots ρ t a.tmps) (x : Operand) : Rep ρ (evA t x) (a.eval x) := by
 cases x with
 | tmp i =>
  simp only [evA, Act.eval]
  cases hi : a.tmps[i]? with
  | none => rw [h.get_none hi, tt]; simp [Array.getD_eq_getD_getElem?, hi]
  | some b => simpa [Array.getD_eq_getD_getElem?, hi] using h.get_some hi
 | const x => exact RA ρ x
 | global g => simp [evA, Act.eval, Rep]
 | func f => exact Fu.2 rfl
theorem rm {ρ : Names} {t : Sl} {a : Act} (hs : Slots ρ t a.tmps) : ∀ (l : List Operand), Reps ρ (l.map (evA t)) (l.map a.eval)
 | [] => by simp [Reps]
 | x :: l => by simp only [List.map_cons, Reps]; exact ⟨_, _, rfl, qt hs x, rm hs l⟩
inductive Blk where
 | own (cs : List Ch) (t : TypeId)
 | ro (cs : List Ch)
 | lp (st : LoopState) (pe : Option Code) (t : Sl) (ps : Array Tmp) (asg body : Code) (D : Nat)
 | dfd
 | dead
 | gr (cs : List Ch) (t : TypeId) (e : Nat)
 | ob (o : Obj)
 | rz (cs : List Ch)
abbrev Heap := Tr Blk
def BAt (B : Nat) (ρ : Names) (w : World) (v : NM) : Blk -> Prop
 | .own cs t => v.2 = 0 /\ B <= v.1 /\ DefC ρ cs /\ w.heap[v.1]? = some (.cells (flatR ρ cs).toArray t (0, 0))
 | .ro cs => v.1 < B /\ DefC ρ cs /\ w.rangeAt v.1 v.2 (flatR ρ cs)
 | .lp st pe t ps asg body D => v.2 = 0 /\ B <= v.1 /\ ∃ fn tmps d, Slots ρ t tmps /\ ρ D = some ⟨d, 0, 0⟩ /\ w.heap[v.1]? = some (.loop { state := st, pending := pe, fn, tmps, params := ps, assign := asg, body, defers := d })
 | .dfd => v.2 = 0 /\ B <= v.1 /\ w.heap[v.1]? = some (.deferred (some []))
 | .dead => B <= v.1
 | .gr cs t e => v.2 = 0 /\ B <= v.1 /\ DefC ρ cs /\ ∃ (rest : List Value) (fz : Nat × Nat), (rest.length = v.3 * e /\ (fz = (0, 0) ∨ (flatR ρ cs).length + rest.length <= fz.1)) /\ w.heap[v.1]? = some (.cells (flatR ρ cs ++ rest).toArray t fz)
 | .ob o => v.2 = 0 /\ B <= v.1 /\ w.heap[v.1]? = some o
 | .rz cs => v.1 < B /\ DefC ρ cs /\ w.rangeAt v.1 v.2 (flatR ρ cs) /\ (v.3 = 0 -> flatR ρ cs = [])
def Blk.live : Blk -> Bool
 | .dead => false
 | _ => true
structure HAt (B : Nat) (ρ : Names) (h : Heap) (w : World) : Prop where
 at_ : ∀ id blk, h.get id = some blk -> ∃ v, ρ id = some v /\ BAt B ρ w v blk
 lt : ∀ i v, ρ i = some v -> v.1 < w.heap.size
 size : B <= w.heap.size
structure HRel (B : Nat) (ρ : Names) (h : Heap) (w : World) : Prop extends HAt B ρ h w where
 inj : ∀ i j u v bi bj, h.get i = some bi -> h.get j = some bj -> bi.live = true -> bj.live = true -> ρ i = some u -> ρ j = some v -> u.1 = v.1 -> B <= u.1 -> i = j
 none_ : ∀ i, h.get i = none -> ρ i = none
theorem BAt.mono {B : Nat} {ρ ρ' : Names} (hl : ρ.le ρ') {w : World} {v : NM} {blk : Blk} (h : BAt B ρ w v blk) : BAt B ρ' w v blk := by
 cases blk with
 | own cs t => obtain ⟨h1, h2, h3, h4⟩ := h; obtain ⟨e1, e2⟩ := rE hl h3; exact ⟨h1, h2, e1, by rw [e2]; exact h4⟩
 | ro cs => obtain ⟨h1, h3, h4⟩ := h; obtain ⟨e1, e2⟩ := rE hl h3; exact ⟨h1, e1, by rw [e2]; exact h4⟩
 | lp st pe t ps asg body D => obtain ⟨h1, h2, fn, tmps, d, h3, h4, h5⟩ := h; exact ⟨h1, h2, fn, tmps, d, h3.mono hl, hl _ _ h4, h5⟩
 | dfd => exact h
 | dead => exact h
 | gr cs t e => obtain ⟨h1, h2, h3, rest, fz, h4, h5⟩ := h; obtain ⟨e1, e2⟩ := rE hl h3; exact ⟨h1, h2, e1, rest, fz, by rw [e2]; exact h4, by rw [e2]; exact h5⟩
 | ob o => exact h
 | rz cs => obtain ⟨h1, h3, h4, h5⟩ := h; obtain ⟨e1, e2⟩ := rE hl h3; exact ⟨h1, e1, by rw [e2]; exact h4, by rw [e2]; exact h5⟩
theorem BAt.same {B : Nat} {ρ : Names} {w w' : World} {v : NM} {blk : Blk} (h : BAt B ρ w v blk) (hs : w'.heap[v.1]? = w.heap[v.1]?) : BAt B ρ w' v blk := by
 cases blk with
 | own cs t => obtain ⟨h1, h2, h3, h4⟩ := h; exact ⟨h1, h2, h3, by rw [hs]; exact h4⟩
 | ro cs =>
  obtain ⟨h1, h3, h4⟩ := h
  refine ⟨h1, h3, fun j x hx => ?_⟩
  have := h4 j x hx
  simp only [World.cell?, hs] at this ⊢
  exact this
 | lp st pe t ps asg body D => obtain ⟨h1, h2, fn, tmps, d, h3, h4, h5⟩ := h; exact ⟨h1, h2, fn, tmps, d, h3, h4, by rw [hs]; exact h5⟩
 | dfd => obtain ⟨h1, h2, h3⟩ := h; exact ⟨h1, h2, by rw [hs]; exact h3⟩
 | dead => exact h
 | gr cs t e => obtain ⟨h1, h2, h3, rest, fz, h4, h5⟩ := h; exact ⟨h1, h2, h3, rest, fz, h4, by rw [hs]; exact h5⟩
 | ob o => obtain ⟨h1, h2, h3⟩ := h; exact ⟨h1, h2, by rw [hs]; exact h3⟩
 | rz cs =>
  obtain ⟨h1, h3, h4, h5⟩ := h
  refine ⟨h1, h3, fun j x hx => ?_, h5⟩
  have := h4 j x hx
  simp only [World.cell?, hs] at this ⊢
  exact this
theorem HAt.below {B : Nat} {ρ : Names} {h : Heap} {w w' : World} (hh : HAt B ρ h w) (hb : Below w.heap.size w w') : HAt B ρ h w' :=
 ⟨fun id blk hi => let ⟨v, h1, h2⟩ := hh.at_ id blk hi; ⟨v, h1, h2.same (hb.block v.1 (hh.lt _ _ h1))⟩,
  fun i v hi => Nat.lt_of_lt_of_le (hh.lt i v hi) hb.size, Nat.le_trans hh.size hb.size⟩
theorem HRel.below {B : Nat} {ρ : Names} {h : Heap} {w w' : World} (hh : HRel B ρ h w) (hb : Below w.heap.size w w') : HRel B ρ h w' :=
 ⟨hh.toHAt.below hb, hh.inj, hh.none_⟩
theorem HRel.sub {B : Nat} {ρ : Names} {h h0 : Heap} {w : World} (hh : HRel B ρ h w) (hle : ∀ i b, h0.get i = some b -> h.get i = some b) : HAt B ρ h0 w :=
 ⟨fun id blk hi => hh.at_ id blk (hle id blk hi), hh.lt, hh.size⟩
def Heap.put (h : Heap) (id : Nat) (b : Blk) : Heap := Tr.set (Nat.log2 (id + 1) + 1) h id (some b)
def updH (h : Heap) (id : Nat) : Option Blk -> Heap
 | none => h
 | some b => h.put id b
theorem Heap.put_ne {h : Heap} {id j : Nat} (b : Blk) (hj : j ≠ id) : (h.put id b).get j = h.get j := Tr.get_set_ne _ _ _ _ _ hj
theorem Heap.put_eq {h : Heap} {id : Nat} (b : Blk) : (h.put id b).get id = some b := Tr.get_set _ _ _ _ Nat.lt_log2_self
theorem Heap.put_comm {h : Heap} {i j : Nat} (a b : Blk) (hij : i ≠ j) : (h.put i a).put j b = (h.put j b).put i a := by
 unfold Heap.put
 have hi : i + 1 < 2 ^ (Nat.log2 (i + 1) + 1) := Nat.lt_log2_self
 have hj : j + 1 < 2 ^ (Nat.log2 (j + 1) + 1) := Nat.lt_log2_self
 generalize Nat.log2 (i + 1) + 1 = p at hi ⊢
 generalize Nat.log2 (j + 1) + 1 = q at hj ⊢
 have hi' : i + 1 < 2 ^ (p + q) := Nat.lt_of_lt_of_le hi (Nat.pow_le_pow_right (by omega) (by omega))
 have hj' : j + 1 < 2 ^ (p + q) := Nat.lt_of_lt_of_le hj (Nat.pow_le_pow_right (by omega) (by omega))
 rw [Tr.set_fuel q (p + q) _ _ _ hj hj', Tr.set_fuel p (p + q) _ _ _ hi hi', Tr.set_fuel q (p + q) _ _ _ hj hj', Tr.set_fuel p (p + q) _ _ _ hi hi', Tr.set_comm _ _ _ _ _ _ hij]
def Names.new (ρ : Names) (id : Nat) (b : Nat) : Names := fun j => match Nat.beq j id with | true => some ⟨b, 0, 0⟩ | false => ρ j
theorem Names.new_eq (ρ : Names) (id b : Nat) : ρ.new id b id = some ⟨b, 0, 0⟩ := by simp [Names.new]
theorem Names.new_ne (ρ : Names) {id j : Nat} (b : Nat) (h : j ≠ id) : ρ.new id b j = ρ j := by
 have : Nat.beq j id = false := by
  cases hb : Nat.beq j id with
  | false => rfl
  | true => exact absurd (Nat.eq_of_beq_eq_true hb) h
 simp [Names.new, this]
theorem Names.le_new {ρ : Names} {id : Nat} (h : ρ id = none) (b : Nat) : ρ.le (ρ.new id b) := fun i v hi => by
 have : i ≠ id := fun e => by rw [e, h] at hi; cases hi
 rw [Names.new_ne ρ b this]; exact hi
def Names.nm (ρ : Names) (id : Nat) (v : NM) : Names := fun j => match Nat.beq j id with | true => some v | false => ρ j
theorem Names.nm_eq (ρ : Names) (id : Nat) (v : NM) : ρ.nm id v id = some v := by simp [Names.nm]
theorem Names.nm_ne (ρ : Names) {id j : Nat} (v : NM) (h : j ≠ id) : ρ.nm id v j = ρ j := by
 have : Nat.beq j id = false := by
  cases hb : Nat.beq j id with
  | false => rfl
  | true => exact absurd (Nat.eq_of_beq_eq_true hb) h
 simp [Names.nm, this]
theorem Names.le_nm {ρ : Names} {id : Nat} (h : ρ id = none) (v : NM) : ρ.le (ρ.nm id v) := fun i u hi => by
 have : i ≠ id := fun e => by rw [e, h] at hi; cases hi
 rw [Names.nm_ne ρ v this]; exact hi
theorem HRel.ro {ρ : Names} {h : Heap} {w : World} (hh : HRel w.heap.size ρ h w) (hb : ∀ j v, ρ j = some v -> v.1 < w.heap.size) {i : Nat} (hi : h.get i = none) {cs : List Ch} (hp : pureC cs = true) (v : NM) (hlt : v.1 < w.heap.size) (hr : w.rangeAt v.1 v.2 (flat cs)) :
  HRel w.heap.size (ρ.nm i v) (h.put i (.ro cs)) w /\ ρ.le (ρ.nm i v) /\ (∀ j u, ρ.nm i v j = some u -> u.1 < w.heap.size) := by
 have hn := hh.none_ i hi
 have hle := Names.le_nm hn v
 have hb' : ∀ j u, ρ.nm i v j = some u -> u.1 < w.heap.size := fun j u hj => by
  by_cases e : j = i
  ·subst e; rw [Names.nm_eq] at hj; simp only [Option.some.injEq] at hj; subst hj; exact hlt
  ·rw [Names.nm_ne _ _ e] at hj; exact hb j u hj
 refine ⟨⟨⟨fun j blk hj => ?_, hb', Nat.le_refl _⟩, fun p q u v' _ _ _ _ _ _ hu _ _ hB => absurd (hb' p u hu) (by omega), fun j hj => ?_⟩, hle, hb'⟩
 ·by_cases e : j = i
  ·subst e
   rw [Heap.put_eq] at hj
   simp only [Option.some.injEq] at hj; subst hj
   exact ⟨v, Names.nm_eq _ _ _, hlt, (qg _ hp).2, by rw [(qg _ hp).1]; exact hr⟩
  ·rw [Heap.put_ne _ e] at hj
   obtain ⟨u, e1, e2⟩ := hh.at_ j blk hj
   exact ⟨u, hle _ _ e1, e2.mono hle⟩
 ·by_cases e : j = i
  ·subst e; rw [Heap.put_eq] at hj; cases hj
  ·rw [Heap.put_ne _ e] at hj
   rw [Names.nm_ne _ _ e]
   exact hh.none_ j hj
theorem HRel.rz {ρ : Names} {h : Heap} {w : World} (hh : HRel w.heap.size ρ h w) (hb : ∀ j v, ρ j = some v -> v.1 < w.heap.size) {i : Nat} (hi : h.get i = none) {cs : List Ch} (hp : pureC cs = true) (v : NM) (hlt : v.1 < w.heap.size) (hr : w.rangeAt v.1 v.2 (flat cs)) (hz : v.3 = 0 -> flat cs = []) :
  HRel w.heap.size (ρ.nm i v) (h.put i (.rz cs)) w /\ ρ.le (ρ.nm i v) /\ (∀ j u, ρ.nm i v j = some u -> u.1 < w.heap.size) := by
 have hn := hh.none_ i hi
 have hle := Names.le_nm hn v
 have hb' : ∀ j u, ρ.nm i v j = some u -> u.1 < w.heap.size := fun j u hj => by
  by_cases e : j = i
  ·subst e; rw [Names.nm_eq] at hj; simp only [Option.some.injEq] at hj; subst hj; exact hlt
  ·rw [Names.nm_ne _ _ e] at hj; exact hb j u hj
 refine ⟨⟨⟨fun j blk hj => ?_, hb', Nat.le_refl _⟩, fun p q u v' _ _ _ _ _ _ hu _ _ hB => absurd (hb' p u hu) (by omega), fun j hj => ?_⟩, hle, hb'⟩
 ·by_cases e : j = i
  ·subst e
   rw [Heap.put_eq] at hj
   simp only [Option.some.injEq] at hj; subst hj
   exact ⟨v, Names.nm_eq _ _ _, hlt, (qg _ hp).2, by rw [(qg _ hp).1]; exact hr, by rw [(qg _ hp).1]; exact hz⟩
  ·rw [Heap.put_ne _ e] at hj
   obtain ⟨u, e1, e2⟩ := hh.at_ j blk hj
   exact ⟨u, hle _ _ e1, e2.mono hle⟩
 ·by_cases e : j = i
  ·subst e; rw [Heap.put_eq] at hj; cases hj
  ·rw [Heap.put_ne _ e] at hj
   rw [Names.nm_ne _ _ e]
   exact hh.none_ j hj
theorem HRel.new {B : Nat} {ρ : Names} {h : Heap} {w : World} (hh : HRel B ρ h w) {id : Nat} (hid : h.get id = none) (o : Obj) (blk : Blk)
  (hb : BAt B (ρ.new id w.heap.size) (w.alloc o) ⟨w.heap.size, 0, 0⟩ blk) :
  HRel B (ρ.new id w.heap.size) (h.put id blk) (w.alloc o) /\ ρ.le (ρ.new id w.heap.size) := by
 have hn := hh.none_ id hid
 have hle := Names.le_new hn w.heap.size
 refine ⟨⟨⟨fun j b hj => ?_, fun i v hi => ?_, by have := hh.size; simp; omega⟩, fun i j u v bi bj gi gj li lj hi hj huv hB => ?_, fun i hi => ?_⟩, hle⟩
 ·by_cases hji : j = id
  ·subst hji
   rw [Heap.put_eq _] at hj
   simp only [Option.some.injEq] at hj; subst hj
   exact ⟨_, Names.new_eq _ _ _, hb⟩
  ·rw [Heap.put_ne _ hji] at hj
   obtain ⟨v, h1, h2⟩ := hh.at_ j b hj
   exact ⟨v, hle _ _ h1, (h2.mono hle).same (Below.heap_alloc _ _ _ (hh.lt _ _ h1))⟩
 ·by_cases hji : i = id
  ·subst hji; rw [Names.new_eq] at hi; simp only [Option.some.injEq] at hi; subst hi; simp
  ·rw [Names.new_ne _ _ hji] at hi; have := hh.lt _ _ hi; simp; omega
 ·by_cases h1 : i = id
  ·by_cases h2 : j = id
   ·rw [h1, h2]
   ·rw [Names.new_ne _ _ h2] at hj
    subst h1
    rw [Names.new_eq] at hi; simp only [Option.some.injEq] at hi; subst hi
    have := hh.lt _ _ hj
    simp only at huv; omega
  ·rw [Names.new_ne _ _ h1] at hi
   by_cases h2 : j = id
   ·subst h2
    rw [Names.new_eq] at hj; simp only [Option.some.injEq] at hj; subst hj
    have := hh.lt _ _ hi
    simp only at huv; omega
   ·rw [Names.new_ne _ _ h2] at hj
    rw [Heap.put_ne _ h1] at gi
    rw [Heap.put_ne _ h2] at gj
    exact hh.inj i j u v bi bj gi gj li lj hi hj huv hB
 ·by_cases h1 : i = id
  ·subst h1; rw [Heap.put_eq _] at hi; cases hi
  ·rw [Heap.put_ne _ h1] at hi; rw [Names.new_ne _ _ h1]; exact hh.none_ i hi
theorem HRel.turn {B : Nat} {ρ : Names} {h : Heap} {w w' : World} (hh : HRel B ρ h w) {id : Nat} {v : NM} (hv : ρ id = some v) (hB : B <= v.1) {b0 : Blk} (hold : h.get id = some b0) (hlive : b0.live = true) (blk : Blk)
  (hs : w'.heap.size = w.heap.size) (ho : ∀ k, k ≠ v.1 -> w'.heap[k]? = w.heap[k]?) (hb : BAt B ρ w' v blk) : HRel B ρ (h.put id blk) w' := by
 refine ⟨⟨fun j b hj => ?_, fun i u hi => by rw [hs]; exact hh.lt i u hi, by rw [hs]; exact hh.size⟩, fun i j u u' bi bj gi gj li lj hi hj huv hB' => ?_, fun i hi => ?_⟩
 ·by_cases hji : j = id
  ·subst hji
   rw [Heap.put_eq _] at hj
   simp only [Option.some.injEq] at hj; subst hj
   exact ⟨v, hv, hb⟩
  ·rw [Heap.put_ne _ hji] at hj
   obtain ⟨u, h1, h2⟩ := hh.at_ j b hj
   cases hl : b.live with
   | true =>
    refine ⟨u, h1, h2.same (ho _ fun e => hji ?_)⟩
    exact hh.inj j id u v b b0 hj hold hl hlive h1 hv e (by omega)
   | false =>
    have e : b = .dead := by cases b <;> simp [Blk.live] at hl ⊢
    subst e
    exact ⟨u, h1, h2⟩
 ·have key : ∀ k bk, (h.put id blk).get k = some bk -> bk.live = true -> ∃ b, h.get k = some b /\ b.live = true := fun k bk hk hl => by
   by_cases e : k = id
   ·subst e; exact ⟨b0, hold, hlive⟩
   ·rw [Heap.put_ne _ e] at hk; exact ⟨bk, hk, hl⟩
  obtain ⟨b1, g1, l1⟩ := key i bi gi li
  obtain ⟨b2, g2, l2⟩ := key j bj gj lj
  exact hh.inj i j u u' b1 b2 g1 g2 l1 l2 hi hj huv hB'
 ·by_cases h1 : i = id
  ·subst h1; rw [Heap.put_eq _] at hi; cases hi
  ·rw [Heap.put_ne _ h1] at hi; exact hh.none_ i hi
structure AA where
 t : Sl
 h : Heap
 d : List Nat
def wJ (ρ : Names) : List Nat -> List Deferred -> Prop
 | [], ds => ds = []
 | i :: l, ds => ∃ b r, ρ i = some ⟨b, 0, 0⟩ /\ ds = { target := .collected b, args := #[] } :: r /\ wJ ρ l r
theorem wJ.mono {ρ ρ' : Names} (hl : ρ.le ρ') : ∀ {l : List Nat} {ds : List Deferred}, wJ ρ l ds -> wJ ρ' l ds
 | [], _, h => h
 | i :: l, ds, h => by obtain ⟨b, r, h1, h2, h3⟩ := h; exact ⟨b, r, hl _ _ h1, h2, h3.mono hl⟩
structure Rel (w0 : World) (ρ : Names) (A : AA) (a : Act) (w : World) : Prop where
 slots : Slots ρ A.t a.tmps
 defers : wJ ρ A.d a.defers
 below : Below w0.heap.size w0 w
 heap : HRel w0.heap.size ρ A.h w
theorem sL (a : Act) (d : Option Tmp) (x : Value) : (a.put d x).defers = a.defers := by cases d <;> rfl
def AA.put (A : AA) (d : Option Tmp) (r : AV) : AA := ⟨putA A.t d r, A.h, A.d⟩
def sn (A : AA) (k : Nat) : Prop := ∀ j, k <= j -> A.h.get j = none
def rT (F : Fence) : Prop := F = Fence.wide ∨ ∃ l, F = Fence.wide.inRound l
theorem rT.fn {F : Fence} (h : rT F) (f : FuncId) : F.fn f := by rcases h with rfl | ⟨l, rfl⟩ <;> trivial
theorem rT.depth {F : Fence} (h : rT F) {p : Prop} : F.depth.isSome = true -> p := by rcases h with rfl | ⟨l, rfl⟩ <;> (intro h; simp [Fence.wide, Fence.inRound] at h)
theorem rT.calls {F : Fence} (hF : rT F) {n : Nat} {P : Program} {f : FuncId} {args : Array Value} {w : World} {R : Ending -> World -> Prop} (h : Calls P f args w R) : CallsIn F n P f args w R := by
 rcases hF with rfl | ⟨l, rfl⟩
 ·exact callsIn_wide.2 h
 ·exact CallsIn.inRound l (callsIn_wide.2 h)
theorem rT.semAt {F : Fence} (h : rT F) (ev : Operand -> Value) (o : Oper) (hd : ∀ c, o.op ≠ .defer c) : o.semAt F.round ev = execOp ev o := by
 rcases h with rfl | ⟨l, rfl⟩
 ·rw [Fence.wide_round, Oper.semAt_none]
 ·rw [Fence.inRound_round, Oper.semAt_some l ev o hd]
theorem qO {F : Fence} (hF : rT F) {n : Nat} {P : Program} {o : Oper} {a : Act} {w : World} {K : Act -> World -> Prop} {Q : Exit -> Act -> World -> Prop} (hd : ∀ c, o.op ≠ .defer c) :
  o.uponIn F n P a K Q ((execOp a.eval o).run P w) -> o.wpIn F n P a w K Q := fun h => by
 unfold Oper.wpIn
 rw [hF.semAt _ _ hd]
 exact ⟨fun f _ => hF.fn f, h⟩
theorem Cl {F : Fence} (hF : rT F) {P : Program} {o : Oper} {w : World} {ev : Operand -> Value} : ∀ f, o.about P w ev = some f -> F.fn f := fun f _ => hF.fn f
end Go.Ev
set_option linter.unusedSimpArgs false
set_option linter.unusedVariables false
namespace Go.Ev
open Go.RowKit
variable {P : Program}
def Hq (P : Program) (t : TypeId) : Option (Option Nat) :=
 match P.underlying t with
 | some (.struct _) | some (.array _ _) => match P.info? t with | some i => some (some i.size) | none => none
 | some _ => some none
 | none => none
theorem Aa {t : TypeId} {n : Nat} (h : Hq P t = some (some n)) : (∀ w, (isAgg t).run P w = .ok true w) /\ ∃ i, P.info? t = some i /\ i.size = n := by
 unfold Hq at h
 split at h
 ·rename_i hu
  split at h
  ·rename_i i hi; simp at h; exact ⟨fun w => by simp [isAgg, run_underlying hu], i, hi, h⟩
  ·cases h
 ·rename_i hu
  split at h
  ·rename_i i hi; simp at h; exact ⟨fun w => by simp [isAgg, run_underlying hu], i, hi, h⟩
  ·cases h
 ·cases h
 ·cases h
theorem yk {t : TypeId} (h : Hq P t = some none) : ∀ w, (isAgg t).run P w = .ok false w := by
 unfold Hq at h
 split at h
 ·split at h <;> cases h
 ·split at h <;> cases h
 ·rename_i d hd h1 h2
  intro w
  simp only [isAgg, Sem.run_bind, run_underlying h2, Result.andThen_ok]
  rfl
 ·cases h
def AL (P : Program) (t : TypeId) (o : Nat) (cs : List Ch) : Option AV :=
 match Hq P t with
 | some (some n) => (sub cs o n).map .ag
 | some none => Gw cs o
 | none => none
def Blk.cells? : Blk -> Option (List Ch)
 | .own cs _ => some cs
 | .ro cs => some cs
 | .gr cs _ _ => some cs
 | .rz cs => some cs
 | _ => none
theorem BAt.cells {B : Nat} {ρ : Names} {w : World} {v : NM} {blk : Blk} {cs : List Ch} (h : BAt B ρ w v blk) (hc : blk.cells? = some cs) : DefC ρ cs /\ w.rangeAt v.1 v.2 (flatR ρ cs) := by
 cases blk <;> simp only [Blk.cells?, Option.some.injEq, reduceCtorEq] at hc
 ·subst hc
  obtain ⟨h1, h2, h3, h4⟩ := h
  refine ⟨h3, fun j x hj => ?_⟩
  rw [h1]
  simp [World.cell?, h4, hj]
 ·subst hc; exact ⟨h.2.1, h.2.2⟩
 ·subst hc
  obtain ⟨h1, h2, h3, rest, fz, h4, h5⟩ := h
  refine ⟨h3, fun j x hj => ?_⟩
  have hlt := (List.getElem?_eq_some_iff.1 hj).1
  rw [h1]
  simp only [World.cell?, h5, Nat.zero_add, List.getElem?_toArray]
  rw [List.getElem?_append_left hlt]
  exact hj
 ·subst hc
  exact ⟨h.2.1, h.2.2.1⟩
theorem qz {t : TypeId} {i : TypeInfo} (h : P.info? t = some i) (w : World) : (sizeOf t).run P w = .ok i.size w := by
 simp [sizeOf, typeInfo, h]
theorem yL {w : World} {ρ : Names} {b o off : Nat} {t : TypeId} {cs : List Ch} {r : AV} (hd : DefC ρ cs) (hb : w.rangeAt b o (flatR ρ cs)) (h : AL P t off cs = some r) :
  ∃ x, (loadVar t ⟨b, o + off, none⟩).run P w = .ok x w /\ Rep ρ r x := by
 have hcell : ∀ j v, (flatR ρ cs)[off + j]? = some v -> w.cell? ⟨b, o + off + j, none⟩ = some v := by
  intro j v hv
  rw [Nat.add_assoc]
  exact hb _ v hv
 unfold AL at h
 split at h
 ·rename_i n hn
  obtain ⟨hagg, i, hi, hs⟩ := Aa hn
  simp only [Option.map_eq_some_iff] at h
  obtain ⟨l, hl, rfl⟩ := h
  obtain ⟨h1, h2, h3, h4⟩ := vl ρ hl
  refine ⟨.agg (flatR ρ l).toArray, ?_, ⟨h4 hd, rfl⟩⟩
  have hl : (loadCells ⟨b, o + off, none⟩ n).run P w = .ok (flatR ρ l).toArray w := by
   rw [← h2]
   refine run_loadCells_list (P := P) w ⟨b, o + off, none⟩ (flatR ρ l) (fun j v hv => ?_)
   rw [Addr.add_mid]
   refine hcell j v ?_
   rw [← h1] at hv
   simp only [List.getElem?_take, List.getElem?_drop] at hv
   split at hv
   ·exact hv
   ·cases hv
  simp [loadVar, Sem.run_bind, hagg, qz hi, hs, hl]
 ·rename_i hn
  have hagg := yk hn
  obtain ⟨v, hv, hr⟩ := BH _ _ _ hd h
  refine ⟨v, ?_, hr⟩
  have := hcell 0 v (by simpa using hv)
  simp only [Nat.add_zero] at this
  simp [loadVar, Sem.run_bind, hagg, this]
 ·cases h
theorem CO {w : World} {ρ : Names} {t : TypeId} {o : Nat} {cs : List Ch} {r : AV} (hd : DefC ρ cs) (h : AL P t o cs = some r) :
  ∃ x, (part t (flatR ρ cs).toArray o).run P w = .ok x w /\ Rep ρ r x := by
 unfold AL at h
 split at h
 ·rename_i n hn
  obtain ⟨hagg, i, hi, hs⟩ := Aa hn
  simp only [Option.map_eq_some_iff] at h
  obtain ⟨l, hl, rfl⟩ := h
  obtain ⟨h1, h2, h3, h4⟩ := vl ρ hl
  refine ⟨.agg (flatR ρ l).toArray, ?_, ⟨h4 hd, rfl⟩⟩
  simp [part, Sem.run_bind, hagg, qz hi, hs]
  exact h1
 ·rename_i hn
  have hagg := yk hn
  obtain ⟨v, hv, hr⟩ := BH _ _ _ hd h
  refine ⟨v, ?_, hr⟩
  simp [part, Sem.run_bind, hagg, hv]
 ·cases h
def FN : AV -> Option (List Ch)
 | .ag cs => some cs
 | .u h => some [.n 1 h]
 | .v (.agg _) => none
 | .v (.tuple _) => none
 | .v x => some [.c x]
 | .p id off => some [.p id off]
 | .sl id off len cap => some [.sl id off len cap]
 | .sx id len => some [.sx id len]
 | .sz id len => some [.sz id len]
 | .mp id => some [.mr id]
 | .clo f [] [] => some [.c (.func (.func f) #[] #[])]
 | _ => none
theorem wr {ρ : Names} {a : AV} {x : Value} {cs : List Ch} (h : FN a = some cs) (hr : Rep ρ a x) : DefC ρ cs /\ x.cells = (flatR ρ cs).toArray := by
 unfold FN at h
 split at h
 ·simp only [Option.some.injEq] at h; subst h; simp only [Rep] at hr; obtain ⟨h1, rfl⟩ := hr; exact ⟨h1, rfl⟩
 ·simp only [Option.some.injEq] at h; subst h; simp only [Rep] at hr; subst hr; exact ⟨⟨trivial, trivial⟩, rfl⟩
 ·cases h
 ·cases h
 ·rename_i y h1 h2
  simp only [Option.some.injEq] at h; subst h; simp only [Rep] at hr; subst hr
  refine ⟨⟨trivial, trivial⟩, ?_⟩
  cases x <;> first | rfl | exact absurd rfl (h1 _) | exact absurd rfl (h2 _)
 ·simp only [Option.some.injEq] at h; subst h; simp only [Rep] at hr
  obtain ⟨v, hv, rfl⟩ := hr
  exact ⟨⟨⟨v, hv⟩, trivial⟩, by simp [Value.cells, flatR, Ch.cells, Names.at, hv]⟩
 ·simp only [Option.some.injEq] at h; subst h; simp only [Rep] at hr
  obtain ⟨v, hv, rfl⟩ := hr
  exact ⟨⟨⟨v, hv⟩, trivial⟩, by simp [Value.cells, flatR, Ch.cells, Names.at, hv]⟩
 ·simp only [Option.some.injEq] at h; subst h; simp only [Rep] at hr
  obtain ⟨v, hv, rfl⟩ := hr
  exact ⟨⟨⟨v, hv⟩, trivial⟩, by simp [Value.cells, flatR, Ch.cells, Names.at, Names.room, hv]⟩
 ·simp only [Option.some.injEq] at h; subst h; simp only [Rep] at hr
  obtain ⟨v, hv, hz, rfl⟩ := hr
  refine ⟨⟨⟨v, hv, hz⟩, trivial⟩, ?_⟩
  simp only [flatR, Ch.cells, Names.sz, hv, List.append_nil]
  unfold zval
  split <;> rfl
 ·simp only [Option.some.injEq] at h; subst h; simp only [Rep] at hr
  obtain ⟨v, hv, rfl⟩ := hr
  exact ⟨⟨⟨v, hv⟩, trivial⟩, by simp [Value.cells, flatR, Ch.cells, Names.mref, hv]⟩
 ·simp only [Option.some.injEq] at h; subst h
  rw [Fu] at hr
  subst hr
  exact ⟨⟨trivial, trivial⟩, rfl⟩
 ·cases h
def B7 (place : Nat -> Option (Nat × Nat)) : List Ch -> List (Nat × AV) -> Option (List Ch)
 | cs, [] => some cs
 | cs, (i, a) :: rest =>
  match place i, FN a with
  | some (o, s), some p => match Nat.beq (sizes p) s with | true => (uM cs o p).bind fun cs' => B7 place cs' rest | false => none
  | _, _ => none
theorem DI (o : Nat) : ∀ (vs : List Value) (k : Nat) (cs : Array Value), o + k + vs.length <= cs.size →
  ((vs.zipIdx k).foldl (fun cs (p : Value × Nat) => cs.setIfInBounds (o + p.2) p.1) cs).toList = cs.toList.take (o + k) ++ vs ++ cs.toList.drop (o + k + vs.length)
 | [], k, cs, _ => by simp
 | v :: vs, k, cs, h => by
  simp only [List.zipIdx_cons, List.foldl_cons]
  rw [DI o vs (k + 1) _ (by simp at h ⊢; omega)]
  have e := list_seg_step cs.toList (o + k) v vs (by simp at h ⊢; omega)
  simpa [Array.toList_setIfInBounds, Nat.add_assoc, Nat.add_comm, Nat.add_left_comm] using e
theorem wQ {ρ : Names} (place : Nat -> Option (Nat × Nat)) : ∀ (l : List (Nat × AV)) (cs r : List Ch), B7 place cs l = some r -> DefC ρ cs →
  ∀ vs : List (Nat × Value), l.map (·.1) = vs.map (·.1) -> Reps ρ (l.map (·.2)) (vs.map (·.2)) →
  Instr.fill place (flatR ρ cs).toArray vs = some (flatR ρ r).toArray /\ DefC ρ r
 | [], cs, r, h, hd, vs, hm, _ => by
  simp [B7] at h; subst h
  have : vs = [] := by simpa using hm.symm
  subst this
  exact ⟨rfl, hd⟩
 | (i, a) :: rest, cs, r, h, hd, [], hm, _ => by simp at hm
 | (i, a) :: rest, cs, r, h, hd, (i', x) :: vs, hm, hv => by
  simp only [List.map_cons, List.cons.injEq] at hm
  obtain ⟨rfl, hm⟩ := hm
  simp only [List.map_cons, Reps, List.cons.injEq] at hv
  obtain ⟨y, r', ⟨rfl, rfl⟩, hx, hrest⟩ := hv
  unfold B7 at h
  split at h
  ·rename_i o s p hp hbx
   split at h
   ·rename_i hsz
    have hsz := Nat.eq_of_beq_eq_true hsz
    obtain ⟨hdp, hc⟩ := wr hbx hx
    cases hsp : uM cs o p with
    | none => simp [hsp] at h
    | some cs' =>
     simp only [hsp, Option.bind_some] at h
     obtain ⟨e1, e2, e3⟩ := xH ρ hsp
     obtain ⟨ih, hd'⟩ := wQ place rest cs' r h (e3 hd hdp) vs hm hrest
     refine ⟨?_, hd'⟩
     simp only [Instr.fill, hp, hc]
     have hs : (flatR ρ p).length = s := by rw [rn]; exact hsz
     have g : ¬ ((flatR ρ p).toArray.size ≠ s ∨ o + (flatR ρ p).toArray.size > (flatR ρ cs).toArray.size) := by simp [hs]; omega
     rw [if_neg (by simpa using g), ← ih]
     congr 1
     apply Array.toList_inj.1
     have := DI o (flatR ρ p) 0 (flatR ρ cs).toArray (by simpa using e2)
     rw [e1]
     simpa [← Array.foldl_toList] using this
   ·cases h
  ·cases h
def Su (P : Program) (t : TypeId) : Option (List Ch) :=
 match P.info? t with
 | some i => i.zero.map fun z => z.cells.toList.map .c
 | none => none
def HE (P : Program) (t : TypeId) (parts : List (Nat × AV)) : Option (List Ch) :=
 match P.info? t, P.underlying t with
 | some it, some (.array _ e) =>
  match it.zero, P.info? e with
  | some z, some ie => B7 (fun i => some (i * ie.size, ie.size)) (z.cells.toList.map .c) parts
  | _, _ => none
 | some it, some (.struct fields) =>
  match it.zero, fields.toList.mapM (fun f => (P.info? f.type).map fun i => (f.offset, i.size)) with
  | some z, some places => B7 (places.toArray[·]?) (z.cells.toList.map .c) parts
  | _, _ => none
 | _, _ => none
theorem FG {ρ : Names} {t : TypeId} {l : List (Nat × AV)} {r : List Ch} (h : HE P t l = some r) (vs : List (Nat × Value)) (hm : l.map (·.1) = vs.map (·.1))
  (hv : Reps ρ (l.map (·.2)) (vs.map (·.2))) : P.built t vs = some (flatR ρ r).toArray /\ DefC ρ r := by
 unfold HE at h
 unfold Program.built
 split at h
 ·rename_i it n e hi hu
  split at h
  ·rename_i z ie hz hie
   obtain ⟨e1, e2⟩ := vB ρ z.cells.toList
   obtain ⟨h1, h2⟩ := wQ _ _ _ _ h e2 vs hm hv
   simp only [hi, hu, hz, hie]
   exact ⟨by simpa [e1] using h1, h2⟩
  ·cases h
 ·rename_i it fs hi hu
  split at h
  ·rename_i z pl hz hpl
   obtain ⟨e1, e2⟩ := vB ρ z.cells.toList
   obtain ⟨h1, h2⟩ := wQ _ _ _ _ h e2 vs hm hv
   simp only [hi, hu, hz, hpl]
   exact ⟨by simpa [e1] using h1, h2⟩
  ·cases h
 ·cases h
end Go.Ev
set_option linter.unusedSimpArgs false
set_option linter.unusedVariables false
namespace Go.Ev
open Go.RowKit
variable {P : Program}
def asU : AV -> Option Nat
 | .u h => some h
 | .v (.int .u64 n) => if 0 <= n /\ n < 18446744073709551616 then some n.toNat else none
 | _ => none
theorem EL {ρ : Names} {a : AV} {h : Nat} {x : Value} (ha : asU a = some h) (hr : Rep ρ a x) : x = u64 h := by
 unfold asU at ha
 split at ha
 ·simp only [Option.some.injEq] at ha; subst ha; exact hr
 ·split at ha
  ·rename_i n hn
   simp only [Option.some.injEq] at ha; subst ha
   simp only [Rep] at hr
   subst hr
   unfold u64
   congr 1
   omega
  ·cases ha
 ·cases ha
def bitsA (op : BinOp) (k : IntKind) (x y : Int) : Option Int :=
 let a := BitVec.ofInt k.bits x
 let b := BitVec.ofInt k.bits y
 match op with
 | .and => some (k.wrap (a &&& b).toNat)
 | .or => some (k.wrap (a ||| b).toNat)
 | .xor => some (k.wrap (a ^^^ b).toNat)
 | .andNot => some (k.wrap (a &&& ~~~b).toNat)
 | _ => none
theorem vZ {op : BinOp} {k : IntKind} {x y r : Int} (h : bitsA op k x y = some r) (w : World) : (Op.intBits op k x y).run P w = .ok (.int k r) w := by
 cases op <;> simp only [bitsA, Option.some.injEq, reduceCtorEq] at h <;> subst h <;> rfl
def uA (op : BinOp) (a b : Nat) : Option AV :=
 match op with
 | .add => some (.u (a + b))
 | .sub => some (.u (a + (18446744073709551616 - b % 18446744073709551616)))
 | .mul => some (.u (a * b))
 | .eql => some (.v (.bool (decide (a % 18446744073709551616 = b % 18446744073709551616))))
 | .neq => some (.v (.bool (!decide (a % 18446744073709551616 = b % 18446744073709551616))))
 | .lss => some (.v (.bool (decide (a % 18446744073709551616 < b % 18446744073709551616))))
 | .leq => some (.v (.bool (decide (a % 18446744073709551616 <= b % 18446744073709551616))))
 | .gtr => some (.v (.bool (decide (b % 18446744073709551616 < a % 18446744073709551616))))
 | .geq => some (.v (.bool (decide (b % 18446744073709551616 <= a % 18446744073709551616))))
 | .quo => if b % 18446744073709551616 = 0 then none else some (.u (a % 18446744073709551616 / (b % 18446744073709551616)))
 | .rem => if b % 18446744073709551616 = 0 then none else some (.u (a % 18446744073709551616 % (b % 18446744073709551616)))
 | .and => some (.u (a % 18446744073709551616 &&& b % 18446744073709551616))
 | .or => some (.u (a % 18446744073709551616 ||| b % 18446744073709551616))
 | _ => none
theorem zJ (n : Int) : IntKind.u64.wrap n = n % 18446744073709551616 := by
 simp [IntKind.wrap, IntKind.signed, IntKind.bits]
theorem Lt {X : Sem Unit} {Y : Sem Value} {z : Value} (hX : X = pure ()) (hY : Y = pure z) (w : World) : (do X; Y).run P w = .ok z w := by
 rw [hX, hY]; rfl
theorem Mq {op : BinOp} {a b : Nat} {r : AV} (h : uA op a b = some r) {ρ : Names} (w : World) (T : TypeId) (X Y : Operand) :
  ∃ z, (do eqGuard op T X Y (u64 a) (u64 b); binOp op T (u64 a) (u64 b)).run P w = .ok z w /\ Rep ρ r z := by
 unfold u64
 generalize hA : ((a % 18446744073709551616 : Nat) : Int) = A
 generalize hB : ((b % 18446744073709551616 : Nat) : Int) = B
 have key : ∀ z, binOp op T (.int .u64 A) (.int .u64 B) = pure z -> (do eqGuard op T X Y (.int .u64 A) (.int .u64 B); binOp op T (.int .u64 A) (.int .u64 B)).run P w = .ok z w :=
  fun z hz => Lt (eqGuard_at_int op T X Y (.int .u64 B) .u64 A) hz w
 have num : ∀ (n : Int) (m : Nat), n % 18446744073709551616 = ((m % 18446744073709551616 : Nat) : Int) -> Rep ρ (.u m) (.int .u64 (IntKind.u64.wrap n)) := by
  intro n m e
  simp only [Rep, u64, zJ, e]
 cases op <;> simp only [uA, Option.some.injEq, reduceCtorEq] at h
 case add => subst h; exact ⟨_, key _ (binOp_add _ _ _ _), num _ _ (by omega)⟩
 case sub => subst h; exact ⟨_, key _ (binOp_sub _ _ _ _), num _ _ (by omega)⟩
 case mul =>
  subst h
  refine ⟨_, key _ (binOp_mul _ _ _ _), num _ _ ?_⟩
  rw [← hA, ← hB, Nat.mul_mod, ← Int.natCast_mul]
  generalize a % 18446744073709551616 * (b % 18446744073709551616) = q
  omega
 case quo =>
  split at h
  ·cases h
  ·rename_i hz
   simp only [Option.some.injEq] at h; subst h
   have hB0 : ¬ B = 0 := by omega
   refine ⟨_, key (.int .u64 (IntKind.u64.wrap (A.tdiv B))) (by rw [binOp_quo]; simp only [Op.intDiv, hB0, if_false]), num _ _ ?_⟩
   rw [Int.tdiv_eq_ediv_of_nonneg (by omega), ← hA, ← hB, ← Int.natCast_ediv]
   generalize a % 18446744073709551616 / (b % 18446744073709551616) = q
   omega
 case rem =>
  split at h
  ·cases h
  ·rename_i hz
   simp only [Option.some.injEq] at h; subst h
   have hB0 : ¬ B = 0 := by omega
   refine ⟨_, key (.int .u64 (A.tmod B)) (by rw [binOp_rem]; simp only [Op.intDiv, hB0, if_false]), ?_⟩
   simp only [Rep, u64]
   congr 1
   rw [Int.tmod_eq_emod_of_nonneg (by omega), ← hA, ← hB]
   have : a % 18446744073709551616 % (b % 18446744073709551616) < 18446744073709551616 := by
    have := Nat.mod_lt (a % 18446744073709551616) (show 0 < b % 18446744073709551616 by omega)
    omega
   rw [Nat.mod_eq_of_lt this]
   norm_cast
 case and =>
  subst h
  have e := bits_and_u64_nat (a % 18446744073709551616) (b % 18446744073709551616) (by omega) (by omega)
  rw [hA, hB] at e
  refine ⟨.int .u64 (bits .and .u64 A B), key _ (by rw [binOp_and]; rfl), ?_⟩
  have hlt : a % 18446744073709551616 &&& b % 18446744073709551616 < 2 ^ 64 := Nat.and_lt_two_pow _ (by omega)
  simp only [Rep, u64]
  rw [e]
  generalize (a % 18446744073709551616 &&& b % 18446744073709551616) = z at hlt ⊢
  congr 1
  omega
 case or =>
  subst h
  have e := bits_or_u64_nat (a % 18446744073709551616) (b % 18446744073709551616) (by omega) (by omega)
  rw [hA, hB] at e
  refine ⟨.int .u64 (bits .or .u64 A B), key _ (by rw [binOp_or]; rfl), ?_⟩
  have hlt : a % 18446744073709551616 ||| b % 18446744073709551616 < 2 ^ 64 := Nat.or_lt_two_pow (by omega) (by omega)
  simp only [Rep, u64]
  rw [e]
  generalize (a % 18446744073709551616 ||| b % 18446744073709551616) = z at hlt ⊢
  congr 1
  omega
 case eql =>
  subst h
  refine ⟨_, key _ (binOp_eql _ _ _ _), ?_⟩
  simp only [Rep, Value.bool.injEq]
  rw [Bool.eq_iff_iff]
  simp only [beq_iff_eq, decide_eq_true_eq]
  omega
 case neq =>
  subst h
  refine ⟨_, key _ (binOp_neq _ _ _ _), ?_⟩
  simp only [Rep, Value.bool.injEq]
  rw [Bool.eq_iff_iff]
  simp only [bne_iff_ne, ne_eq, Bool.not_eq_true', decide_eq_false_iff_not]
  omega
 case lss =>
  subst h
  refine ⟨_, key _ (binOp_lss _ _ _ _), ?_⟩
  simp only [Rep, Value.bool.injEq, decide_eq_decide]
  omega
 case leq =>
  subst h
  refine ⟨_, key _ (binOp_leq _ _ _ _), ?_⟩
  simp only [Rep, Value.bool.injEq, decide_eq_decide]
  omega
 case gtr =>
  subst h
  refine ⟨_, key _ (binOp_gtr _ _ _ _), ?_⟩
  simp only [Rep, Value.bool.injEq, decide_eq_decide]
  omega
 case geq =>
  subst h
  refine ⟨_, key _ (binOp_geq _ _ _ _), ?_⟩
  simp only [Rep, Value.bool.injEq, decide_eq_decide]
  omega
def Vi (P : Program) (op : BinOp) (T : TypeId) (x y : AV) : Option AV :=
 match x, y with
 | .v (.int k a), .v (.int k' b) =>
  match op with
  | .shr => if b < 0 then none else some (.v (.int k (a.fdiv (2 ^ min b.toNat k.bits))))
  | .shl => if b < 0 then none else some (.v (.int k (k.wrap (a * 2 ^ min b.toNat k.bits))))
  | _ =>
  if k = k' then
   match op with
   | .add => some (.v (.int k (k.wrap (a + b))))
   | .sub => some (.v (.int k (k.wrap (a - b))))
   | .mul => some (.v (.int k (k.wrap (a * b))))
   | .eql => some (.v (.bool (a == b)))
   | .neq => some (.v (.bool (a != b)))
   | .lss => some (.v (.bool (decide (a < b))))
   | .leq => some (.v (.bool (decide (a <= b))))
   | .gtr => some (.v (.bool (decide (a > b))))
   | .geq => some (.v (.bool (decide (a >= b))))
   | .quo => if b = 0 then none else some (.v (.int k (k.wrap (a.tdiv b))))
   | .rem => if b = 0 then none else some (.v (.int k (a.tmod b)))
   | op => (bitsA op k a b).map fun r => .v (.int k r)
  else none
 | .v (.bool a), .v (.bool b) =>
  match P.underlying T with
  | some .bool =>
   match op with
   | .eql => some (.v (.bool (a == b)))
   | .neq => some (.v (.bool (!(a == b))))
   | _ => none
  | _ => none
 | .u a, .v (.int k b) =>
  match op with
  | .shr => if b < 0 then none else some (.u (a % 18446744073709551616 / 2 ^ min b.toNat 64))
  | .shl => if b < 0 then none else some (.u (a * 2 ^ min b.toNat 64))
  | _ => match asU (.v (.int k b)) with | some b => uA op a b | none => none
 | .v (.string a), .v (.string b) =>
  match op with
  | .eql => some (.v (.bool (a.toList == b.toList)))
  | .neq => some (.v (.bool (!(a.toList == b.toList))))
  | _ => none
 | x, y => match asU x, asU y with
  | some a, some b => uA op a b
  | _, _ => none
theorem OB {w : World} {op : BinOp} {T : TypeId} {x y : AV} {r : AV} (h : Vi P op T x y = some r) {ρ : Names} {u v : Value} (hx : Rep ρ x u) (hy : Rep ρ y v) (X Y : Operand) :
  ∃ z, (do eqGuard op T X Y u v; binOp op T u v).run P w = .ok z w /\ Rep ρ r z := by
 unfold Vi at h
 split at h
 ·rename_i k a k' b
  simp only [Rep] at hx hy
  subst hx; subst hy
  split at h
  ·split at h
   ·cases h
   ·rename_i hb
    simp only [Option.some.injEq] at h; subst h
    exact ⟨_, by simp [eqGuard_at_int, binOp, Op.shift, hb], rfl⟩
  ·split at h
   ·cases h
   ·rename_i hb
    simp only [Option.some.injEq] at h; subst h
    exact ⟨_, by simp [eqGuard_at_int, binOp, Op.shift, hb], rfl⟩
  ·rename_i ns1 ns2
   split at h
   ·rename_i hk
    subst hk
    cases op <;> simp only [Option.some.injEq, reduceCtorEq] at h
    case shl => exact absurd rfl ns2
    case shr => exact absurd rfl ns1
    case quo =>
     split at h
     ·cases h
     ·rename_i hb
      simp only [Option.some.injEq] at h; subst h
      exact ⟨_, by simp [eqGuard_at_int, binOp, Op.intDiv, hb], rfl⟩
    case rem =>
     split at h
     ·cases h
     ·rename_i hb
      simp only [Option.some.injEq] at h; subst h
      exact ⟨_, by simp [eqGuard_at_int, binOp, Op.intDiv, hb], rfl⟩
    case and => simp only [Option.map_eq_some_iff] at h; obtain ⟨q, hq, rfl⟩ := h; exact ⟨_, by simp [eqGuard_at_int, binOp, vZ hq], rfl⟩
    case or => simp only [Option.map_eq_some_iff] at h; obtain ⟨q, hq, rfl⟩ := h; exact ⟨_, by simp [eqGuard_at_int, binOp, vZ hq], rfl⟩
    case xor => simp only [Option.map_eq_some_iff] at h; obtain ⟨q, hq, rfl⟩ := h; exact ⟨_, by simp [eqGuard_at_int, binOp, vZ hq], rfl⟩
    case andNot => simp only [Option.map_eq_some_iff] at h; obtain ⟨q, hq, rfl⟩ := h; exact ⟨_, by simp [eqGuard_at_int, binOp, vZ hq], rfl⟩
    all_goals first
     | (subst h; exact ⟨_, by simp [eqGuard_at_int, binOp, Op.intArith, Op.intCmp]; done, rfl⟩)
     | (subst h; exact ⟨_, by simp [eqGuard_at_int, binOp, Op.intArith, Op.intCmp]; rfl, rfl⟩)
     | (simp [bitsA] at h; done)
   ·cases h
 ·rename_i a b
  split at h
  ·rename_i hT
   simp only [Rep] at hx hy
   subst hx; subst hy
   have e := run_equal_bool (P := P) w T a b hT
   cases op <;> simp only [Option.some.injEq, reduceCtorEq] at h <;> subst h
   ·exact ⟨_, by simp [eqGuard_at_bool, binOp, e], rfl⟩
   ·exact ⟨_, by simp [eqGuard_at_bool, binOp, e], rfl⟩
  ·cases h
 ·rename_i a k b
  split at h
  ·split at h
   ·cases h
   ·rename_i hb
    simp only [Option.some.injEq] at h; subst h
    simp only [Rep] at hx hy
    subst hx; subst hy
    refine ⟨_, by simp only [u64, eqGuard_at_int, binOp, Op.shift, hb, if_false]; rfl, ?_⟩
    simp only [Rep, u64, IntKind.bits]
    congr 1
    generalize min b.toNat 64 = q
    have h2 : (0 : Int) <= 2 ^ q := by exact_mod_cast Nat.zero_le (2 ^ q)
    rw [Int.fdiv_eq_ediv_of_nonneg _ h2]
    have : a % 18446744073709551616 / 2 ^ q < 18446744073709551616 := by
     have := Nat.div_le_self (a % 18446744073709551616) (2 ^ q)
     omega
    rw [Nat.mod_eq_of_lt this]
    norm_cast
  ·split at h
   ·cases h
   ·rename_i hb
    simp only [Option.some.injEq] at h; subst h
    simp only [Rep] at hx hy
    subst hx; subst hy
    refine ⟨_, by simp only [u64, eqGuard_at_int, binOp, Op.shift, hb, if_false]; rfl, ?_⟩
    simp only [Rep, u64, IntKind.bits, zJ]
    congr 1
    generalize min b.toNat 64 = q
    have e : (2 : Int) ^ q = ((2 ^ q : Nat) : Int) := by norm_cast
    have e2 : a % 18446744073709551616 * 2 ^ q % 18446744073709551616 = a * 2 ^ q % 18446744073709551616 := by rw [Nat.mul_mod, Nat.mod_mod, ← Nat.mul_mod]
    rw [e, ← Int.natCast_mul, ← e2]
    generalize a % 18446744073709551616 * 2 ^ q = z
    omega
  ·split at h
   ·rename_i n hn
    have e2 := EL hn hy
    simp only [Rep] at hx
    subst hx; subst e2
    exact Mq h w T X Y
   ·cases h
 ·rename_i a b
  simp only [Rep] at hx hy
  subst hx; subst hy
  cases op <;> simp only [Option.some.injEq, reduceCtorEq] at h <;> subst h <;> exact ⟨_, by simp [eqGuard, binOp, Op.equal, Op.equalIn, Op.stringOp], rfl⟩
 ·split at h
  ·rename_i a b ha hb
   have e1 := EL ha hx
   have e2 := EL hb hy
   subst e1; subst e2
   exact Mq h w T X Y
  ·cases h
def uG (len cap : Nat) : Option AV -> Option AV -> Option AV -> Option (Nat × Nat × Nat)
 | none, none, none => some (0, len, cap)
 | none, some (.v (.int _ h)), none => if 0 <= h /\ h <= cap then some (0, h.toNat, cap) else none
 | some (.v (.int _ l)), none, none => if 0 <= l /\ l <= len then some (l.toNat, len, cap) else none
 | some (.v (.int _ l)), some (.v (.int _ h)), none => if 0 <= l /\ l <= h /\ h <= cap then some (l.toNat, h.toNat, cap) else none
 | none, some (.v (.int _ h)), some (.v (.int _ m)) => if 0 <= h /\ h <= m /\ m <= cap then some (0, h.toNat, m.toNat) else none
 | some (.v (.int _ l)), some (.v (.int _ h)), some (.v (.int _ m)) => if 0 <= l /\ l <= h /\ h <= m /\ m <= cap then some (l.toNat, h.toNat, m.toNat) else none
 | _, _, _ => none
def B1 (ρ : Names) : Option AV -> Option Value -> Prop
 | none, none => True
 | some a, some x => Rep ρ a x
 | _, _ => False
theorem xr {ρ : Names} {len cap : Nat} {lo hi mx : Option AV} {l h m : Nat} (hb : uG len cap lo hi mx = some (l, h, m)) {x y z : Option Value} (hx : B1 ρ lo x) (hy : B1 ρ hi y) (hz : B1 ρ mx z) (isS : Bool) (w : World) :
  (Instr.sliceBounds isS len cap x y z).run P w = .ok (l, h, m) w := by
 have sb : ∀ (k : IntKind) (i : Int) (y : Nat) (code : BoundsCode), 0 <= i -> i <= y -> (Instr.sliceBound (.int k i) y code).run P w = .ok i.toNat w := by
  intro k i y code h0 h1
  simp [Instr.sliceBound, asIntOf, h0, h1]
 unfold uG at hb
 split at hb
 ·match x, y, z, hx, hy, hz with
  | none, none, none, _, _, _ =>
   simp only [Option.some.injEq, Prod.mk.injEq] at hb; obtain ⟨rfl, rfl, rfl⟩ := hb
   simp [Instr.sliceBounds]
 ·rename_i k i
  match x, y, z, hx, hy, hz with
  | none, some y, none, _, hy, _ =>
   simp only [B1, Rep] at hy; subst hy
   split at hb
   ·rename_i hc
    simp only [Option.some.injEq, Prod.mk.injEq] at hb; obtain ⟨rfl, rfl, rfl⟩ := hb
    simp [Instr.sliceBounds, sb _ _ _ _ hc.1 hc.2]
   ·cases hb
 ·rename_i k i
  match x, y, z, hx, hy, hz with
  | some x, none, none, hx, _, _ =>
   simp only [B1, Rep] at hx; subst hx
   split at hb
   ·rename_i hc
    simp only [Option.some.injEq, Prod.mk.injEq] at hb; obtain ⟨rfl, rfl, rfl⟩ := hb
    simp [Instr.sliceBounds, sb _ _ _ _ hc.1 hc.2]
   ·cases hb
 ·rename_i k i k' i'
  match x, y, z, hx, hy, hz with
  | some x, some y, none, hx, hy, _ =>
   simp only [B1, Rep] at hx hy; subst hx; subst hy
   split at hb
   ·rename_i hc
    simp only [Option.some.injEq, Prod.mk.injEq] at hb; obtain ⟨rfl, rfl, rfl⟩ := hb
    have e2 := sb k' i' cap (if isS = true then .sliceAcap else .sliceAlen) (by omega) hc.2.2
    simp [Instr.sliceBounds, e2, sb k i i'.toNat .sliceB hc.1 (by omega)]
   ·cases hb
 ·rename_i k i k' i'
  match x, y, z, hx, hy, hz with
  | none, some y, some z, _, hy, hz =>
   simp only [B1, Rep] at hy hz; subst hy; subst hz
   split at hb
   ·rename_i hc
    simp only [Option.some.injEq, Prod.mk.injEq] at hb; obtain ⟨rfl, rfl, rfl⟩ := hb
    have e2 := sb k' i' cap (if isS = true then .slice3Acap else .slice3Alen) (by omega) hc.2.2
    simp [Instr.sliceBounds, e2, sb k i i'.toNat .slice3B hc.1 (by omega)]
   ·cases hb
 ·rename_i k i k' i' k'' i''
  match x, y, z, hx, hy, hz with
  | some x, some y, some z, hx, hy, hz =>
   simp only [B1, Rep] at hx hy hz; subst hx; subst hy; subst hz
   split at hb
   ·rename_i hc
    simp only [Option.some.injEq, Prod.mk.injEq] at hb; obtain ⟨rfl, rfl, rfl⟩ := hb
    have e2 := sb k'' i'' cap (if isS = true then .slice3Acap else .slice3Alen) (by omega) hc.2.2.2
    simp [Instr.sliceBounds, e2, sb k' i' i''.toNat .slice3B (by omega) (by omega), sb k i i'.toNat .slice3C hc.1 (by omega)]
   ·cases hb
 ·cases hb
def UC (P : Program) : List AV -> List TypeId -> Option AV
 | [a], [T] =>
  match P.underlying T, a with
  | some (.slice _), .sl _ _ len _ => some (.v (.int .i64 len))
  | some (.slice _), .sx _ len => some (.v (.int .i64 len))
  | some (.slice _), .sz _ len => some (.v (.int .i64 len))
  | some (.slice _), .v (.slice _ len _) => some (.v (.int .i64 len))
  | some (.array n _), _ => some (.v (.int .i64 n))
  | some .string, .v (.string s) => some (.v (.int .i64 s.size))
  | _, _ => none
 | _, _ => none
theorem NE {ρ : Names} {args : List AV} {vs : List Value} {argTypes : List TypeId} {r : AV} (h : UC P args argTypes = some r) (hr : Reps ρ args vs) (T0 : TypeId) (w : World) :
  ∃ x, (Builtin.len_ argTypes.toArray T0 vs.toArray).run P w = .ok x w /\ Rep ρ r x := by
 match args, argTypes, h with
 | [a], [T], h =>
  simp only [Reps] at hr
  obtain ⟨x, _, rfl, hx, rfl⟩ := hr
  simp only [UC] at h
  split at h
  ·rename_i e id off len cap hu
   simp only [Rep] at hx
   obtain ⟨v, _, rfl⟩ := hx
   simp only [Option.some.injEq] at h; subst h
   exact ⟨.int .i64 len, by simp [Builtin.len_, run_underlying hu, goInt], rfl⟩
  ·rename_i e id len hu
   simp only [Rep] at hx
   obtain ⟨v, _, rfl⟩ := hx
   simp only [Option.some.injEq] at h; subst h
   exact ⟨.int .i64 len, by simp [Builtin.len_, run_underlying hu, goInt], rfl⟩
  ·rename_i e id len hu
   simp only [Rep] at hx
   obtain ⟨v, _, hz, rfl⟩ := hx
   simp only [Option.some.injEq] at h; subst h
   refine ⟨.int .i64 len, ?_, rfl⟩
   unfold zval
   split
   ·rename_i h0; rw [hz h0]; simp [Builtin.len_, run_underlying hu, goInt]
   ·simp [Builtin.len_, run_underlying hu, goInt]
  ·rename_i e q len cap hu
   simp only [Rep] at hx; subst hx
   simp only [Option.some.injEq] at h; subst h
   exact ⟨.int .i64 len, by simp [Builtin.len_, run_underlying hu, goInt], rfl⟩
  ·rename_i n e hu
   simp only [Option.some.injEq] at h; subst h
   exact ⟨.int .i64 n, by simp [Builtin.len_, run_underlying hu, goInt], rfl⟩
  ·rename_i s hu
   simp only [Rep] at hx; subst hx
   simp only [Option.some.injEq] at h; subst h
   exact ⟨.int .i64 s.size, by simp [Builtin.len_, run_underlying hu, goInt], rfl⟩
  ·cases h
def PH (mn : Bool) : List AV -> Option AV
 | [.v (.int k a), .v (.int k' b)] => some (.v (.int k (if mn then (if b < a then b else a) else (if b > a then b else a))))
 | _ => none
def opt (t : Sl) : Option Operand -> Option AV
 | none => none
 | some x => some (evA t x)
theorem E5 {ρ : Names} {t : Sl} {a : Act} (hs : Slots ρ t a.tmps) (x : Option Operand) : B1 ρ (opt t x) (x.map a.eval) := by
 cases x with
 | none => trivial
 | some x => exact qt hs x
def CQ (P : Program) (T : TypeId) (name : String) : Option FuncId :=
 match P.underlying T with
 | some (.struct _) | some (.array _ _) =>
  match P.info? T with
  | some i => match i.methods.find? (·.name == name) with
   | some m => match m.path.isEmpty, m.func with
    | true, some (f, false) => some f
    | _, _ => none
   | none => none
  | none => none
 | _ => none
theorem Et {T : TypeId} {name : String} {f : FuncId} (h : CQ P T name = some f) (v : Value) (args : Array Value) (w : World) : (callMethod (.iface T v) name args).run P w = (callFunc f (#[v] ++ args)).run P w := by
 unfold CQ at h
 have key : ∀ (d : TypeDesc), P.underlying T = some d -> (∀ e, d ≠ .pointer e) -> ∀ i, P.info? T = some i -> ∀ m, i.methods.find? (·.name == name) = some m -> m.path.isEmpty = true -> m.func = some (f, false) →
   ∀ k, (method (k + 1) T v name).run P w = .ok (f, v) w := by
  intro d hd hp i hi m hm he hf k
  have hpath : m.path.toList = [] := by simpa using he
  unfold method
  simp only [Sem.run_bind, typeInfo]
  simp only [hi, hm, hpath, follow, hf, Sem.run_pure, Result.andThen_ok, Sem.run_bind, receiverAt, run_underlying hd]
  simp [hi, hm, hpath, follow, hf, receiverAt, run_underlying hd]
  cases d <;> first | exact absurd rfl (hp _) | simp [Place.get]
 have fin : ∀ (d : TypeDesc), P.underlying T = some d -> (∀ e, d ≠ .pointer e) -> (match P.info? T with
  | some i => match i.methods.find? (·.name == name) with
   | some m => match m.path.isEmpty, m.func with
    | true, some (f, false) => some f
    | _, _ => none
   | none => none
  | none => none) = some f -> (callMethod (.iface T v) name args).run P w = (callFunc f (#[v] ++ args)).run P w := by
  intro d hd hp h
  split at h
  ·rename_i i hi
   split at h
   ·rename_i m hm
    split at h
    ·rename_i he hf
     simp only [Option.some.injEq] at h; subst h
     have := key d hd hp i hi m hm he hf (P.types.size + Made.depth - 1)
     rw [show P.types.size + Made.depth - 1 + 1 = P.types.size + Made.depth by unfold Made.depth; omega] at this
     simp only [callMethod, Sem.run_bind]
     simp [this]
    ·cases h
   ·cases h
  ·cases h
 split at h
 ·rename_i hu; exact fin _ hu (fun e he => by cases he) h
 ·rename_i hu; exact fin _ hu (fun e he => by cases he) h
 ·cases h
def ofL (l : List UInt8) : ByteArray := ⟨l.toArray⟩
def G8 : List Ch -> Option (List UInt8)
 | [] => some []
 | .c (.int .u8 n) :: l => (G8 l).map fun r => UInt8.ofNat n.toNat :: r
 | .y bs :: l => (G8 l).map fun r => bs ++ r
 | _ :: _ => none
theorem Ab (ρ : Names) : ∀ {cs : List Ch} {l : List UInt8}, G8 cs = some l -> ∃ ns : List Int, flatR ρ cs = ns.map (Value.int .u8) /\ ns.map (fun n => UInt8.ofNat n.toNat) = l
 | [], l, h => by simp only [G8, Option.some.injEq] at h; subst h; exact ⟨[], rfl, rfl⟩
 | c :: cs, l, h => by
  unfold G8 at h
  split at h
  ·cases ‹c :: cs = []›
  ·rename_i n r he
   simp only [List.cons.injEq] at he
   obtain ⟨rfl, rfl⟩ := he
   simp only [Option.map_eq_some_iff] at h
   obtain ⟨m, h1, rfl⟩ := h
   obtain ⟨ns, e1, e2⟩ := Ab ρ h1
   exact ⟨n :: ns, by simp [flatR, Ch.cells, e1], by simp [e2]⟩
  ·rename_i bs r he
   simp only [List.cons.injEq] at he
   obtain ⟨rfl, rfl⟩ := he
   simp only [Option.map_eq_some_iff] at h
   obtain ⟨m, h1, rfl⟩ := h
   obtain ⟨ns, e1, e2⟩ := Ab ρ h1
   refine ⟨bs.map (fun b => ((b.toNat : Nat) : Int)) ++ ns, ?_, ?_⟩
   ·simp only [flatR, Ch.cells, e1, List.map_append, List.map_map]
    rfl
   ·rw [List.map_append, List.map_map, e2]
    congr 1
    have : ((fun n : Int => UInt8.ofNat n.toNat) ∘ fun b : UInt8 => ((b.toNat : Nat) : Int)) = id := by
     funext b; simp
    rw [this, List.map_id]
  ·cases h
theorem AF : ∀ (ns : List Int) (r : ByteArray), ns.foldl (fun r n => r.push (UInt8.ofNat n.toNat)) r = ⟨r.data ++ (ns.map (fun n => UInt8.ofNat n.toNat)).toArray⟩
 | [], r => by simp
 | n :: ns, r => by
  simp only [List.foldl_cons]
  rw [AF ns]
  simp [ByteArray.push]
theorem Jq {w : World} {ρ : Names} {b off len cap : Nat} {src dst e : TypeId} (hs : P.underlying src = some (.slice e)) (he : P.underlying e = some (.int .u8)) (hd : P.underlying dst = some .string)
  {p : List Ch} {l : List UInt8} (hl : G8 p = some l) (hc : ∀ j v, (flatR ρ p)[j]? = some v -> w.cell? ⟨b, off + j, none⟩ = some v) (hlen : (flatR ρ p).length = len) :
  (convert src dst (.slice (some ⟨b, off, none⟩) len cap)).run P w = .ok (.string (ofL l)) w := by
 rw [run_convert_bytes_string w src dst e _ _ _ hs he hd]
 obtain ⟨ns, e1, e2⟩ := Ab ρ hl
 have h1 := run_loadCells_list (P := P) w ⟨b, off, none⟩ (flatR ρ p) (fun j v hj => by rw [Addr.add_mid]; exact hc j v hj)
 rw [hlen, e1] at h1
 rw [run_bytesToString w _ len cap ns h1, AF, e2]
 congr 2
 show ByteArray.mk _ = ByteArray.mk _
 congr 1
 exact Array.empty_append
def valA (P : Program) (h : Heap) (t : Sl) : Op -> Option AV
 | .move x => some (evA t x)
 | .assign x => some (evA t x)
 | .pick c a b =>
  match evA t c with
  | .v (.bool true) => some (evA t a)
  | .v (.bool false) => some (evA t b)
  | _ => none
 | .load T x =>
  match evA t x with
  | .p id off => match h.get id with | some blk => (match blk.cells? with | some cs => AL P T off cs | none => none) | none => none
  | _ => none
 | .build T ps => (HE P T (ps.toList.map fun (i, x) => (i, evA t x))).map .ag
 | .fieldAddr S x f =>
  match evA t x, P.underlying S with
  | .p id off, some (.struct fs) =>
   match fs[f]? with
   | some fd => match P.info? fd.type with | some i => (match Nat.beq i.size 0 with | true => none | false => some (.p id (off + fd.offset))) | none => none
   | none => none
  | _, _ => none
 | .field S x f =>
  match evA t x, P.underlying S with
  | .ag cs, some (.struct fs) => match fs[f]? with | some fd => AL P fd.type fd.offset cs | none => none
  | _, _ => none
 | .indexAddr T x i =>
  match evA t x, evA t i, P.underlying T with
  | .p id off, .v (.int _ n), some (.array len e) =>
   match P.info? e with | some ie => if 0 <= n /\ n < len then some (.p id (off + n.toNat * ie.size)) else none | none => none
  | .sl id off len _, .v (.int _ n), some (.slice e) =>
   match P.info? e with | some ie => if 0 <= n /\ n < len then some (.p id (off + n.toNat * ie.size)) else none | none => none
  | .sx id len, .v (.int _ n), some (.slice e) =>
   match P.info? e with | some ie => if 0 <= n /\ n < len then some (.p id (n.toNat * ie.size)) else none | none => none
  | _, _, _ => none
 | .index T x i =>
  match evA t x, evA t i, P.underlying T with
  | .ag cs, .v (.int _ n), some (.array len e) =>
   match P.info? e with | some ie => if 0 <= n /\ n < len then AL P e (n.toNat * ie.size) cs else none | none => none
  | _, _, _ => none
 | .extract x i => match evA t x with | .tp l => l[i]? | _ => none
 | .unOp op _ x =>
  match op, evA t x with
  | .not, .v (.bool b) => some (.v (.bool (!b)))
  | .neg, .v (.int k n) => some (.v (.int k (k.wrap (0 - n))))
  | .neg, .u h => some (.u (18446744073709551616 - h % 18446744073709551616))
  | .xor, .v (.int k n) => (bitsA .xor k (if k.signed then -1 else k.max) n).map fun r => .v (.int k r)
  | _, _ => none
 | .binOp op T x y _ => Vi P op T (evA t x) (evA t y)
 | .convert src dst x =>
  match evA t x, P.underlying src, P.underlying dst with
  | .v (.int _ n), some (.int _), some (.int k) => some (.v (.int k (k.wrap n)))
  | .u h, some (.int _), some (.int .u64) => some (.u h)
  | .u h, some (.int _), some (.int k) => some (.v (.int k (k.wrap ((h % 18446744073709551616 : Nat) : Int))))
  | .sl id off len _, some (.slice e), some .string =>
   match P.underlying e, h.get id with
   | some (.int .u8), some blk => (match blk.cells? with
    | some cs => (match sub cs off len with | some p => (G8 p).map fun l => .v (.string (ofL l)) | none => none)
    | none => none)
   | _, _ => none
  | .sx id len, some (.slice e), some .string =>
   match P.underlying e, h.get id with
   | some (.int .u8), some blk => (match blk.cells? with
    | some cs => (match sub cs 0 len with | some p => (G8 p).map fun l => .v (.string (ofL l)) | none => none)
    | none => none)
   | _, _ => none
  | _, _, _ => none
 | .sliceToArrayPointer T x =>
  match evA t x, P.underlying T with
  | .sl id off len _, some (.array n _) => (match Nat.ble n len with | true => some (.p id off) | false => none)
  | .sx id len, some (.array n _) => (match Nat.ble n len with | true => some (.p id 0) | false => none)
  | _, _ => none
 | .slice T x lo hi mx =>
  match evA t x, P.underlying T with
  | .p id off, some (.array n e) =>
   match P.info? e, uG n n (opt t lo) (opt t hi) (opt t mx) with
   | some ie, some (l, h, m) => some (.sl id (match Nat.beq m l with | true => off | false => off + l * ie.size) (h - l) (m - l))
   | _, _ => none
  | .sl id off len cap, some (.slice e) =>
   match P.info? e, uG len cap (opt t lo) (opt t hi) (opt t mx) with
   | some ie, some (l, h, m) => some (.sl id (match Nat.beq m l with | true => off | false => off + l * ie.size) (h - l) (m - l))
   | _, _ => none
  | _, _ => none
 | .makeFunc (.func f) first captured => some (.clo f (first.toList.map (evA t)) (captured.toList.map (evA t)))
 | .call { callee := .builtin .len, args := args, argTypes := argTypes } => UC P (args.toList.map (evA t)) argTypes.toList
 | .call { callee := .builtin .min, args := args, argTypes := argTypes } => PH true (args.toList.map (evA t))
 | .call { callee := .builtin .max, args := args, argTypes := argTypes } => PH false (args.toList.map (evA t))
 | .makeInterface T x => match P.underlying T with | some (.interface _) => none | some _ => some (.ifc T (evA t x)) | none => none
 | .nilCheck x =>
  match evA t x with
  | .p id off => some (.p id off)
  | .clo f l m => some (.clo f l m)
  | _ => none
 | _ => none
theorem Lx {w : World} {ρ : Names} {t : Sl} {a : Act} {h : Heap} {B : Nat} (hs : Slots ρ t a.tmps) (hh : HAt B ρ h w) (o : Oper) {r : AV} (hv : valA P h t o.op = some r) :
  ∃ x, (execOp a.eval o).run P w = .ok (.value x) w /\ Rep ρ r x := by
 obtain ⟨dst, op, type, pos, after, guard⟩ := o
 simp only at hv
 have slice_run : ∀ (isS : Bool) (len cap l h m : Nat) (lo hi mx : Option Operand), uG len cap (opt t lo) (opt t hi) (opt t mx) = some (l, h, m) →
   (Instr.sliceBounds isS len cap (lo.map a.eval) (hi.map a.eval) (mx.map a.eval)).run P w = .ok (l, h, m) w :=
  fun isS len cap l h m lo hi mx hb => xr hb (E5 hs lo) (E5 hs hi) (E5 hs mx) isS w
 cases op <;> simp only [valA, reduceCtorEq] at hv
 case move x => simp only [Option.some.injEq] at hv; subst hv; exact ⟨a.eval x, by simp [execOp], qt hs x⟩
 case assign x => simp only [Option.some.injEq] at hv; subst hv; exact ⟨a.eval x, by simp [execOp], qt hs x⟩
 case pick c x y =>
  have hc := qt hs c
  split at hv
  ·rename_i hb
   rw [hb] at hc; simp only [Rep] at hc
   simp only [Option.some.injEq] at hv; subst hv
   exact ⟨a.eval x, by simp [execOp, hc, asBool], qt hs x⟩
  ·rename_i hb
   rw [hb] at hc; simp only [Rep] at hc
   simp only [Option.some.injEq] at hv; subst hv
   exact ⟨a.eval y, by simp [execOp, hc, asBool], qt hs y⟩
  ·cases hv
 case load T x =>
  have hx := qt hs x
  split at hv
  ·rename_i id off hp
   rw [hp] at hx
   simp only [Rep] at hx
   obtain ⟨v, h1, h2⟩ := hx
   split at hv
   ·rename_i blk hblk
    split at hv
    ·rename_i cs hcs
     obtain ⟨v', g1, g2⟩ := hh.at_ id blk hblk
     rw [h1] at g1; simp only [Option.some.injEq] at g1; subst g1
     obtain ⟨k1, k2⟩ := g2.cells hcs
     obtain ⟨z, k1, k2⟩ := yL k1 k2 hv
     exact ⟨z, by simp [execOp, h2, Instr.loadAt, Instr.sureAddr, k1], k2⟩
    ·cases hv
   ·cases hv
  ·cases hv
 case build T ps =>
  simp only [Option.map_eq_some_iff] at hv
  obtain ⟨cs, hc, rfl⟩ := hv
  have hparts : Reps ρ ((ps.toList.map fun (i, x) => (i, evA t x)).map (·.2)) ((ps.toList.map fun (i, x) => (i, a.eval x)).map (·.2)) := by
   have := rm hs (ps.toList.map (·.2))
   simpa [List.map_map, Function.comp_def] using this
  obtain ⟨hb, hd⟩ := FG hc (ps.toList.map fun (i, x) => (i, a.eval x)) (by simp [Function.comp_def]) hparts
  refine ⟨.agg (flatR ρ cs).toArray, ?_, by simp only [Rep]; exact ⟨hd, trivial⟩⟩
  have := run_build (P := P) w T (ps.map fun (i, x) => (i, a.eval x)) (flatR ρ cs).toArray (by simpa using hb)
  simp [execOp, this]
 case fieldAddr S x f =>
  have hx := qt hs x
  split at hv
  ·rename_i id off fs hp hS
   rw [hp] at hx
   simp only [Rep] at hx
   obtain ⟨v, h1, h2⟩ := hx
   split at hv
   ·rename_i fd hfd
    split at hv
    ·rename_i i hi
     split at hv
     ·cases hv
     ·rename_i hz
      have hz : i.size ≠ 0 := fun e => by rw [e] at hz; cases hz
      simp only [Option.some.injEq] at hv; subst hv
      refine ⟨.pointer (some ⟨v.1, v.2 + off + fd.offset, none⟩), ?_, ?_⟩
      ·simp [execOp, Instr.fieldAt, run_underlying hS, hfd, h2, Instr.sureAddr, fieldPlace, qz hi, hz, Addr.add_mid]
      ·simp only [Rep]; exact ⟨v, h1, by rw [Nat.add_assoc]⟩
    ·cases hv
   ·cases hv
  ·cases hv
 case field S x f =>
  have hx := qt hs x
  split at hv
  ·rename_i cs fs hp hS
   rw [hp] at hx
   simp only [Rep] at hx
   split at hv
   ·rename_i fd hfd
    obtain ⟨z, k1, k2⟩ := CO (P := P) (w := w) hx.1 hv
    refine ⟨z, ?_, k2⟩
    simp [execOp, Instr.field, run_underlying hS, hfd, hx.2, asAgg, k1]
   ·cases hv
  ·cases hv
 case indexAddr T x i =>
  have hx := qt hs x
  have hi := qt hs i
  split at hv
  ·rename_i id off k n len e hp hn hT
   rw [hp] at hx; rw [hn] at hi
   simp only [Rep] at hi hx
   obtain ⟨v, h1, h2⟩ := hx
   split at hv
   ·rename_i ie hie
    split at hv
    ·rename_i hlt
     simp only [Option.some.injEq] at hv; subst hv
     refine ⟨.pointer (some ⟨v.1, v.2 + off + n.toNat * ie.size, none⟩), ?_, ?_⟩
     ·simp [execOp, Instr.indexAt, hi, asIntOf, run_underlying hT, h2, Instr.sureAddr, hlt, qz hie, Addr.add_mid]
     ·simp only [Rep]; exact ⟨v, h1, by rw [Nat.add_assoc]⟩
    ·cases hv
   ·cases hv
  ·rename_i id off len cap k n e hp hn hT
   rw [hp] at hx; rw [hn] at hi
   simp only [Rep] at hi hx
   obtain ⟨v, h1, h2⟩ := hx
   split at hv
   ·rename_i ie hie
    split at hv
    ·rename_i hlt
     simp only [Option.some.injEq] at hv; subst hv
     refine ⟨.pointer (some ⟨v.1, v.2 + off + n.toNat * ie.size, none⟩), ?_, ?_⟩
     ·simp [execOp, Instr.indexAt, hi, asIntOf, run_underlying hT, h2, hlt, qz hie, Addr.add_mid]
     ·simp only [Rep]; exact ⟨v, h1, by rw [Nat.add_assoc]⟩
    ·cases hv
   ·cases hv
  ·rename_i id len k n e hp hn hT
   rw [hp] at hx; rw [hn] at hi
   simp only [Rep] at hi hx
   obtain ⟨v, h1, h2⟩ := hx
   split at hv
   ·rename_i ie hie
    split at hv
    ·rename_i hlt
     simp only [Option.some.injEq] at hv; subst hv
     refine ⟨.pointer (some ⟨v.1, v.2 + n.toNat * ie.size, none⟩), ?_, ?_⟩
     ·simp [execOp, Instr.indexAt, hi, asIntOf, run_underlying hT, h2, hlt, qz hie, Addr.add_mid]
     ·simp only [Rep]; exact ⟨v, h1, rfl⟩
    ·cases hv
   ·cases hv
  ·cases hv
 case index T x i =>
  have hx := qt hs x
  have hi := qt hs i
  split at hv
  ·rename_i cs k n len e hp hn hT
   rw [hp] at hx; rw [hn] at hi
   simp only [Rep] at hi hx
   split at hv
   ·rename_i ie hie
    split at hv
    ·rename_i hlt
     obtain ⟨z, k1, k2⟩ := CO (P := P) (w := w) hx.1 hv
     refine ⟨z, ?_, k2⟩
     simp [execOp, Instr.index, hi, asIntOf, run_underlying hT, hx.2, hlt, qz hie, k1]
    ·cases hv
   ·cases hv
  ·cases hv
 case extract x i =>
  have hx := qt hs x
  split at hv
  ·rename_i l hp
   rw [hp] at hx
   simp only [Rep] at hx
   obtain ⟨xs, h1, h2⟩ := hx
   obtain ⟨y, h3, h4⟩ := Ct h1 i r hv
   refine ⟨y, ?_, h4⟩
   simp [execOp, h2, Instr.extract, h3]
  ·cases hv
 case unOp op T x =>
  have hx := qt hs x
  split at hv
  ·rename_i b hp
   rw [hp] at hx
   simp only [Rep] at hx
   simp only [Option.some.injEq] at hv; subst hv
   exact ⟨.bool (!b), by simp [execOp, hx, Op.unary], rfl⟩
  ·rename_i k n hp
   rw [hp] at hx
   simp only [Rep] at hx
   simp only [Option.some.injEq] at hv; subst hv
   exact ⟨.int k (k.wrap (0 - n)), by simp [execOp, hx, Op.unary, Op.intArith], rfl⟩
  ·rename_i n hp
   rw [hp] at hx
   simp only [Rep, u64] at hx
   simp only [Option.some.injEq] at hv; subst hv
   refine ⟨.int .u64 (IntKind.u64.wrap (0 - ((n % 18446744073709551616 : Nat) : Int))), by simp [execOp, hx, Op.unary, Op.intArith], ?_⟩
   simp only [Rep, u64, zJ]
   congr 1
   omega
  ·rename_i k n hp
   rw [hp] at hx
   simp only [Rep] at hx
   simp only [Option.map_eq_some_iff] at hv
   obtain ⟨q, hq, rfl⟩ := hv
   exact ⟨.int k q, by simp [execOp, hx, Op.unary, vZ hq], rfl⟩
  ·cases hv
 case binOp op T x y yt =>
  obtain ⟨z, k1, k2⟩ := OB (w := w) hv (qt hs x) (qt hs y) x y
  refine ⟨z, ?_, k2⟩
  simp only [execOp]
  rw [Sem.run_bind, k1]
  rfl
 case convert src dst x =>
  have hx := qt hs x
  split at hv
  ·rename_i k n d k' hp hsrc hdst
   rw [hp] at hx
   simp only [Rep] at hx
   simp only [Option.some.injEq] at hv; subst hv
   refine ⟨.int k' (k'.wrap n), ?_, rfl⟩
   have hk : P.intKind dst = k' := by simp [Program.intKind, hdst]
   have := run_convert_int (P := P) w src dst k n (by simp [hsrc]) (by rw [hdst, hk])
   rw [hk] at this
   simp [execOp, hx, this]
  ·rename_i n d hp hsrc hdst
   rw [hp] at hx
   simp only [Rep] at hx
   simp only [Option.some.injEq] at hv; subst hv
   refine ⟨u64 n, ?_, rfl⟩
   have hk : P.intKind dst = .u64 := by simp [Program.intKind, hdst]
   have := run_convert_int (P := P) w src dst .u64 ((n % 18446744073709551616 : Nat) : Int) (by simp [hsrc]) (by rw [hdst, hk])
   rw [hk, zJ, show ((n % 18446744073709551616 : Nat) : Int) % 18446744073709551616 = ((n % 18446744073709551616 : Nat) : Int) by omega] at this
   simp only [execOp, hx, u64]
   rw [Sem.run_bind, this]
   rfl
  ·rename_i n d k' hne hp hsrc hdst
   rw [hp] at hx
   simp only [Rep] at hx
   simp only [Option.some.injEq] at hv; subst hv
   refine ⟨.int k' (k'.wrap ((n % 18446744073709551616 : Nat) : Int)), ?_, rfl⟩
   have hk : P.intKind dst = k' := by simp [Program.intKind, hdst]
   have := run_convert_int (P := P) w src dst .u64 ((n % 18446744073709551616 : Nat) : Int) (by simp [hsrc]) (by rw [hdst, hk])
   rw [hk] at this
   simp only [execOp, hx, u64]
   rw [Sem.run_bind, this]
   rfl
  ·rename_i id off len cap e hp hsrc hdst
   rw [hp] at hx
   simp only [Rep] at hx
   obtain ⟨v, h1, h2⟩ := hx
   split at hv
   ·rename_i blk he hblk
    split at hv
    ·rename_i cs hcs
     split at hv
     ·rename_i p hsub
      simp only [Option.map_eq_some_iff] at hv
      obtain ⟨l, hl, rfl⟩ := hv
      obtain ⟨v', g1, g2⟩ := hh.at_ id blk hblk
      rw [h1] at g1; simp only [Option.some.injEq] at g1; subst g1
      obtain ⟨k1, k2⟩ := g2.cells hcs
      obtain ⟨n1, n2, n3, n4⟩ := vl ρ hsub
      refine ⟨.string (ofL l), ?_, rfl⟩
      have hr := Jq (P := P) (w := w) (ρ := ρ) (b := v.1) (off := v.2 + off) (len := len) (cap := cap) hsrc he hdst hl (fun j z hj => by
       have hlt : j < (flatR ρ p).length := (List.getElem?_eq_some_iff.1 hj).1
       rw [Nat.add_assoc]
       refine k2 _ _ ?_
       rw [← n1] at hj
       simp only [List.getElem?_take, List.getElem?_drop] at hj
       rw [if_pos (by omega)] at hj
       exact hj) n2
      simp [execOp, h2, hr]
     ·cases hv
    ·cases hv
   ·cases hv
  ·rename_i id len e hp hsrc hdst
   rw [hp] at hx
   simp only [Rep] at hx
   obtain ⟨v, h1, h2⟩ := hx
   split at hv
   ·rename_i blk he hblk
    split at hv
    ·rename_i cs hcs
     split at hv
     ·rename_i p hsub
      simp only [Option.map_eq_some_iff] at hv
      obtain ⟨l, hl, rfl⟩ := hv
      obtain ⟨v', g1, g2⟩ := hh.at_ id blk hblk
      rw [h1] at g1; simp only [Option.some.injEq] at g1; subst g1
      obtain ⟨k1, k2⟩ := g2.cells hcs
      obtain ⟨n1, n2, n3, n4⟩ := vl ρ hsub
      refine ⟨.string (ofL l), ?_, rfl⟩
      have hr := Jq (P := P) (w := w) (ρ := ρ) (b := v.1) (off := v.2) (len := len) (cap := len + v.3) hsrc he hdst hl (fun j z hj => by
       have hlt : j < (flatR ρ p).length := (List.getElem?_eq_some_iff.1 hj).1
       refine k2 _ _ ?_
       rw [← n1] at hj
       simp only [List.getElem?_take, List.getElem?_drop, Nat.zero_add] at hj
       rw [if_pos (by omega)] at hj
       exact hj) n2
      simp [execOp, h2, hr]
     ·cases hv
    ·cases hv
   ·cases hv
  ·cases hv
 case sliceToArrayPointer T x =>
  have hx := qt hs x
  split at hv
  ·rename_i id off len cap n e hp hT
   rw [hp] at hx
   simp only [Rep] at hx
   obtain ⟨v, h1, h2⟩ := hx
   split at hv
   ·rename_i hle
    have hle := Nat.le_of_ble_eq_true hle
    simp only [Option.some.injEq] at hv; subst hv
    refine ⟨.pointer (some ⟨v.1, v.2 + off, none⟩), ?_, ?_⟩
    ·simp [execOp, h2, Instr.arrayAt, run_underlying hT, Nat.not_lt.2 hle]
    ·simp only [Rep]; exact ⟨v, h1, rfl⟩
   ·cases hv
  ·rename_i id len n e hp hT
   rw [hp] at hx
   simp only [Rep] at hx
   obtain ⟨v, h1, h2⟩ := hx
   split at hv
   ·rename_i hle
    have hle := Nat.le_of_ble_eq_true hle
    simp only [Option.some.injEq] at hv; subst hv
    refine ⟨.pointer (some ⟨v.1, v.2, none⟩), ?_, ?_⟩
    ·simp [execOp, h2, Instr.arrayAt, run_underlying hT, Nat.not_lt.2 hle]
    ·simp only [Rep]; exact ⟨v, h1, rfl⟩
   ·cases hv
  ·cases hv
 case slice T x lo hi mx =>
  have hx := qt hs x
  have beq : ∀ (m l : Nat) (u v : Nat), (match Nat.beq m l with | true => u | false => v) = if m = l then u else v := by
   intro m l u v
   by_cases hml : m = l
   ·subst hml; simp
   ·have : Nat.beq m l = false := by
     cases hb : Nat.beq m l with
     | false => rfl
     | true => exact absurd (Nat.eq_of_beq_eq_true hb) hml
    simp [this, hml]
  split at hv
  ·rename_i id off n e hp hT
   rw [hp] at hx
   simp only [Rep] at hx
   obtain ⟨v, h1, h2⟩ := hx
   split at hv
   ·rename_i ie l hh m hie hb
    simp only [Option.some.injEq] at hv; subst hv
    have hbr := slice_run false n n l hh m lo hi mx hb
    refine ⟨.slice (some ⟨v.1, v.2 + (if m = l then off else off + l * ie.size), none⟩) (hh - l) (m - l), ?_, ?_⟩
    ·simp only [execOp, Instr.sliceAt, Sem.run_bind, run_underlying hT, Result.andThen_ok, h2, Instr.sureAddr, Sem.run_pure, hbr, qz hie]
     congr 3
     by_cases hml : m = l
     ·simp [hml]
     ·simp [hml, Addr.add_mid, Nat.add_assoc]
    ·simp only [Rep]; exact ⟨v, h1, by rw [beq]⟩
   ·cases hv
  ·rename_i id off len cap e hp hT
   rw [hp] at hx
   simp only [Rep] at hx
   obtain ⟨v, h1, h2⟩ := hx
   split at hv
   ·rename_i ie l hh m hie hb
    simp only [Option.some.injEq] at hv; subst hv
    have hbr := slice_run true len cap l hh m lo hi mx hb
    refine ⟨.slice (some ⟨v.1, v.2 + (if m = l then off else off + l * ie.size), none⟩) (hh - l) (m - l), ?_, ?_⟩
    ·simp only [execOp, Instr.sliceAt, Instr.slice, Sem.run_bind, run_underlying hT, Result.andThen_ok, h2, Sem.run_pure, hbr, qz hie]
     congr 3
     by_cases hml : m = l
     ·simp [hml]
     ·simp [hml, Addr.add_mid, Nat.add_assoc]
    ·simp only [Rep]; exact ⟨v, h1, by rw [beq]⟩
   ·cases hv
  ·cases hv
 case makeFunc fn first captured =>
  cases fn <;> simp only [reduceCtorEq, Option.some.injEq] at hv
  rename_i f
  subst hv
  refine ⟨.func (.func f) (first.map a.eval) (captured.map a.eval), by simp [execOp, Instr.makeFunc], ?_⟩
  simp only [Rep]
  exact ⟨_, _, rm hs first.toList, rm hs captured.toList, by congr 1 <;> (apply Array.toList_inj.1; simp)⟩
 case call c =>
  obtain ⟨callee, args, argTypes⟩ := c
  cases callee <;> try (simp only [reduceCtorEq] at hv; done)
  rename_i b
  cases b <;> try (simp only [reduceCtorEq] at hv; done)
  ·simp only at hv
   obtain ⟨x, h1, h2⟩ := NE hv (rm hs args.toList) type w
   refine ⟨x, ?_, h2⟩
   have e : (args.toList.map a.eval).toArray = args.map a.eval := by apply Array.toList_inj.1; simp
   rw [e] at h1
   simp [execOp, resolve, invoke, builtin, h1]
  ·simp only at hv
   have hr := rm hs args.toList
   unfold PH at hv
   split at hv
   ·rename_i k p k' q he
    rw [he] at hr
    simp only [Reps, Rep] at hr
    obtain ⟨x, r1, e1, rfl, y, r2, rfl, rfl, rfl⟩ := hr
    simp only [Option.some.injEq] at hv; subst hv
    refine ⟨_, ?_, rfl⟩
    simp [execOp, resolve, invoke, builtin, Builtin.max_, e1, Builtin.max2]
   ·cases hv
  ·simp only at hv
   have hr := rm hs args.toList
   unfold PH at hv
   split at hv
   ·rename_i k p k' q he
    rw [he] at hr
    simp only [Reps, Rep] at hr
    obtain ⟨x, r1, e1, rfl, y, r2, rfl, rfl, rfl⟩ := hr
    simp only [Option.some.injEq] at hv; subst hv
    refine ⟨_, ?_, rfl⟩
    simp [execOp, resolve, invoke, builtin, Builtin.min_, e1, Builtin.min2]
   ·cases hv
 case makeInterface T x =>
  split at hv
  ·cases hv
  ·rename_i d hne hT
   simp only [Option.some.injEq] at hv; subst hv
   refine ⟨.iface T (a.eval x), ?_, ⟨_, qt hs x, rfl⟩⟩
   cases d <;> first | exact absurd rfl (hne _) | (exact (hne _ rfl).elim) | simp [execOp, Instr.makeInterface, run_underlying hT]
  ·cases hv
 case nilCheck x =>
  have hx := qt hs x
  split at hv
  ·rename_i id off hp
   rw [hp] at hx
   have hx' := hx
   simp only [Rep] at hx
   obtain ⟨v, h1, h2⟩ := hx
   simp only [Option.some.injEq] at hv; subst hv
   exact ⟨a.eval x, by simp [execOp, h2], hx'⟩
  ·rename_i f l m hp
   rw [hp] at hx
   have hx' := hx
   simp only [Rep] at hx
   obtain ⟨xs, ys, _, _, h2⟩ := hx
   simp only [Option.some.injEq] at hv; subst hv
   exact ⟨a.eval x, by simp [execOp, h2], hx'⟩
  ·cases hv
end Go.Ev
set_option linter.unusedSimpArgs false
set_option linter.unusedVariables false
namespace Go.Ev
open Go.RowKit
variable {P : Program}
inductive K where
 | b
 | i (k : IntKind)
 deriving DecidableEq
def repK : Nat -> List K -> List K
 | 0, _ => []
 | n + 1, ks => ks ++ repK n ks
def GV (P : Program) (kind : TypeId -> Option (List K)) : List Field -> Nat -> Option (List K)
 | [], _ => some []
 | f :: fs, o =>
  if f.name != "_" && f.offset == o then
   match kind f.type with
   | some ks => if ks.length = P.cellsOf f.type then (GV P kind fs (o + ks.length)).map (ks ++ ·) else none
   | none => none
  else none
def AO (P : Program) : Nat -> TypeId -> Option (List K)
 | 0, _ => none
 | d + 1, t =>
  match P.underlying t with
  | some .bool => some [K.b]
  | some (.int q) => some [K.i q]
  | some (.array n e) =>
   match AO P d e with
   | some ks => if ks.length = P.cellsOf e /\ n * ks.length = P.cellsOf t then some (repK n ks) else none
   | none => none
  | some (.struct fs) =>
   match GV P (AO P d) fs.toList 0 with
   | some ks => if ks.length = P.cellsOf t /\ fs.all (·.name != "_") = true then some ks else none
   | none => none
  | _ => none
def fitK : Value -> K -> Prop
 | .bool _, .b => True
 | .int k n, .i k' => k = k' /\ (Lit.int k n).wf = true
 | _, _ => False
def Fit : List Value -> List K -> Prop
 | [], [] => True
 | v :: vs, k :: ks => fitK v k /\ Fit vs ks
 | _, _ => False
theorem Fit.length : ∀ {vs ks}, Fit vs ks -> vs.length = ks.length
 | [], [], _ => rfl
 | v :: vs, k :: ks, h => by simp [Fit.length h.2]
 | [], _ :: _, h => h.elim
 | _ :: _, [], h => h.elim
theorem Fit.append : ∀ {a b ka kb}, Fit a ka -> Fit b kb -> Fit (a ++ b) (ka ++ kb)
 | [], b, [], kb, _, h => h
 | v :: a, b, k :: ka, kb, h, h' => ⟨h.1, Fit.append h.2 h'⟩
 | [], _, _ :: _, _, h, _ => h.elim
 | _ :: _, _, [], _, h, _ => h.elim
theorem Fit.split : ∀ {ka kb vs}, Fit vs (ka ++ kb) -> Fit (vs.take ka.length) ka /\ Fit (vs.drop ka.length) kb
 | [], kb, vs, h => by simpa [Fit] using h
 | k :: ka, kb, v :: vs, h => by
  obtain ⟨h1, h2⟩ := Fit.split (ka := ka) (kb := kb) (vs := vs) h.2
  exact ⟨⟨h.1, h1⟩, h2⟩
 | k :: ka, kb, [], h => h.elim
def litV : Value -> Lit
 | .bool b => .bool b
 | .int k n => .int k n
 | _ => .bool false
theorem zI : ∀ {vs us ks}, Fit vs ks -> Fit us ks -> vs.map litV = us.map litV -> vs = us
 | [], [], _, _, _, _ => rfl
 | v :: vs, u :: us, k :: ks, h, h', e => by
  simp only [List.map_cons, List.cons.injEq] at e
  have e1 := zI h.2 h'.2 e.2
  subst e1
  have h1 := h.1
  have h2 := h'.1
  have e0 := e.1
  cases v <;> cases k <;> simp only [fitK] at h1 <;> cases u <;> simp only [fitK] at h2 <;> simp_all [litV]
 | [], _ :: _, [], _, h, _ => h.elim
 | _ :: _, [], [], h, _, _ => h.elim
 | _ :: _, _ :: _, [], h, _, _ => h.elim
 | [], _ :: _, _ :: _, h, _, _ => h.elim
 | _ :: _, [], _ :: _, _, h, _ => h.elim
theorem FZ (f : List Value -> Option (List Lit)) (ks : List K) (hf : ∀ vs, Fit vs ks -> f vs = some (vs.map litV)) : ∀ (n : Nat) (vs : List Value) (o : Nat),
  Fit (vs.drop (o * ks.length)) (repK n ks) -> ((List.range' o n).mapM fun i => f ((vs.drop (i * ks.length)).take ks.length)).map List.flatten = some ((vs.drop (o * ks.length)).map litV)
 | 0, vs, o, h => by
  have : vs.drop (o * ks.length) = [] := by
   have := h.length; simp only [repK, List.length_nil] at this; exact List.eq_nil_of_length_eq_zero this
  simp [this]
 | n + 1, vs, o, h => by
  simp only [repK] at h
  obtain ⟨h1, h2⟩ := h.split
  rw [List.drop_drop, show o * ks.length + ks.length = (o + 1) * ks.length by rw [Nat.add_mul, Nat.one_mul]] at h2
  have ih := FZ f ks hf n vs (o + 1) h2
  simp only [List.range'_succ, List.mapM_cons, Option.pure_def, Option.bind_eq_bind]
  rw [hf _ h1]
  simp only [Option.map_eq_some_iff] at ih
  obtain ⟨l, hl, e⟩ := ih
  simp only [hl, Option.bind_some, Option.map_some, List.flatten_cons, Option.some.injEq]
  rw [e, ← List.map_append]
  congr 1
  have := List.take_append_drop ks.length (vs.drop (o * ks.length))
  rw [List.drop_drop, show o * ks.length + ks.length = (o + 1) * ks.length by rw [Nat.add_mul, Nat.one_mul]] at this
  exact this
theorem xZ : ∀ n ks, (repK n ks).length = n * ks.length
 | 0, ks => by simp [repK]
 | n + 1, ks => by simp [repK, xZ n ks, Nat.add_mul, Nat.add_comm]
theorem sO : ∀ (d : Nat) (t : TypeId) (ks : List K), AO P d t = some ks -> ∀ vs, Fit vs ks -> P.keyLits d t vs = some (vs.map litV)
 | 0, t, ks, h, _, _ => by simp [AO] at h
 | d + 1, t, ks, h, vs, hv => by
  have IH := sO d
  unfold AO at h
  unfold Program.keyLits
  split at h
  ·rename_i hu
   simp only [Option.some.injEq] at h; subst h
   match vs, hv with
   | [.bool b], _ => simp [hu, litV]
   | [.int _ _], hv => exact hv.1.elim
  ·rename_i q hu
   simp only [Option.some.injEq] at h; subst h
   match vs, hv with
   | [.int k n], hv =>
    obtain ⟨⟨rfl, h2⟩, _⟩ := hv
    simp [hu, litV, h2]
   | [.bool b], hv => exact hv.1.elim
  ·rename_i n e hu
   split at h
   ·rename_i ke hke
    split at h
    ·rename_i hc
     simp only [Option.some.injEq] at h; subst h
     have hl := hv.length
     rw [xZ] at hl
     have r := FZ (fun cs => P.keyLits d e cs) ke (fun cs hcs => IH e ke hke cs hcs) n vs 0 (by simpa using hv)
     simp only [hu]
     have e0 : (vs.length = P.cellsOf t) := by rw [hl]; exact hc.2
     cases vs with
     | nil =>
      simp only [e0, if_true]
      rw [← hc.1, List.range_eq_range']
      simpa using r
     | cons v vs =>
      simp only [e0, if_true]
      rw [← hc.1, List.range_eq_range']
      simpa using r
    ·cases h
   ·cases h
  ·rename_i fs hu
   split at h
   ·rename_i ks' hks'
    split at h
    ·rename_i hc
     simp only [Option.some.injEq] at h; subst h
     have gen : ∀ (l : List Field) (o : Nat) (kl : List K), GV P (AO P d) l o = some kl -> Fit (vs.drop o) kl →
       (l.mapM fun f => P.keyLits d f.type ((vs.drop f.offset).take (P.cellsOf f.type))).map List.flatten = some ((vs.drop o).map litV) := by
      intro l
      induction l with
      | nil =>
       intro o kl hk hf
       simp [GV] at hk; subst hk
       have : vs.drop o = [] := by have := hf.length; exact List.eq_nil_of_length_eq_zero this
       simp [this]
      | cons f l ih =>
       intro o kl hk hf
       unfold GV at hk
       split at hk
       ·rename_i hname
        simp only [Bool.and_eq_true, beq_iff_eq] at hname
        split at hk
        ·rename_i kf hkf
         split at hk
         ·rename_i hlen
          simp only [Option.map_eq_some_iff] at hk
          obtain ⟨kr, hkr, rfl⟩ := hk
          obtain ⟨h1, h2⟩ := hf.split
          rw [List.drop_drop] at h2
          have r := ih (o + kf.length) kr hkr h2
          simp only [List.mapM_cons, Option.pure_def, Option.bind_eq_bind, hname.2, ← hlen]
          rw [IH f.type kf hkf _ h1]
          simp only [Option.map_eq_some_iff] at r
          obtain ⟨L, hL, e⟩ := r
          simp only [hL, Option.bind_some, Option.map_some, List.flatten_cons, Option.some.injEq]
          rw [e, ← List.map_append, ← List.drop_drop, List.take_append_drop]
         ·cases hk
        ·cases hk
       ·cases hk
     have r := gen fs.toList 0 ks' hks' (by simpa using hv)
     have e0 : vs.length = P.cellsOf t := by rw [hv.length]; exact hc.1
     simp only [hu]
     cases vs with
     | nil => simp only [e0, hc.2, and_self, if_true]; simpa using r
     | cons v vs => simp only [e0, hc.2, and_self, if_true]; simpa using r
    ·cases h
   ·cases h
  ·cases h
def Ch.kinds : Ch -> Option (List K)
 | .c (.bool _) => some [K.b]
 | .c (.int k z) => if (Lit.int k z).wf = true then some [K.i k] else none
 | .c _ => none
 | .n w _ => some (repK w [K.i .u64])
 | .e _ | .s _ => some [K.i .u64, K.i .u64, K.i .u64, K.i .u64]
 | .q _ | .m _ => some [K.i .u64, K.i .u64, K.i .u64, K.i .u64, K.i .u64, K.i .u64]
 | .l _ | .p _ _ | .sl _ _ _ _ | .sx _ _ | .sz _ _ | .y _ | .mr _ => none
def xN : List Ch -> Option (List K)
 | [] => some []
 | c :: l => match c.kinds, xN l with | some a, some b => some (a ++ b) | _, _ => none
theorem UI (x : Nat) : (Lit.int .u64 ((x % 18446744073709551616 : Nat) : Int)).wf = true := by
 have : ((x % 18446744073709551616 : Nat) : Int) < 18446744073709551616 := by omega
 have h0 : (0 : Int) <= ((x % 18446744073709551616 : Nat) : Int) := by omega
 simp only [Lit.wf, IntKind.min, IntKind.max, IntKind.signed, IntKind.bits]
 simp
 omega
theorem yj : ∀ w x, Fit (limbs w x) (repK w [K.i .u64])
 | 0, _ => trivial
 | w + 1, x => ⟨⟨rfl, UI x⟩, yj w _⟩
theorem Ch.fit {c : Ch} {ks : List K} (h : c.kinds = some ks) : Fit (c.cells rM) ks := by
 unfold Ch.kinds at h
 split at h
 ·simp only [Option.some.injEq] at h; subst h; exact ⟨trivial, trivial⟩
 ·split at h
  ·rename_i hw; simp only [Option.some.injEq] at h; subst h; exact ⟨⟨rfl, hw⟩, trivial⟩
  ·cases h
 ·cases h
 ·simp only [Option.some.injEq] at h; subst h; exact yj _ _
 all_goals first | (cases h; done) | (simp only [Option.some.injEq] at h; subst h; first | exact yj 4 _ | exact yj 6 _)
theorem xF : ∀ {l : List Ch} {ks : List K}, xN l = some ks -> pureC l = true
 | [], ks, _ => rfl
 | c :: l, ks, h => by
  unfold xN at h
  split at h
  ·rename_i a b ha hb
   unfold pureC
   have : c.pure = true := by cases c <;> first | rfl | (simp [Ch.kinds] at ha)
   rw [this]
   exact xF hb
  ·cases h
theorem yR : ∀ {l : List Ch} {ks : List K}, xN l = some ks -> Fit (flat l) ks
 | [], ks, h => by simp [xN] at h; subst h; trivial
 | c :: l, ks, h => by
  unfold xN at h
  split at h
  ·rename_i a b ha hb
   simp only [Option.some.injEq] at h; subst h
   exact (Ch.fit ha).append (yR hb)
  ·cases h
def Qs (P : Program) (T : TypeId) (xs ys : List Ch) : Bool :=
 match AO P 16 T with
 | some ks => decide (ks.length = P.cellsOf T) && decide (xN xs = some ks) && decide (xN ys = some ks) && P.keyTypeAt 16 T && !P.eqGuardType P.depth T &&
   (match P.underlying T with | some (.array _ _) | some (.struct _) => true | _ => false)
 | none => false
theorem Fz {ρ : Names} {T : TypeId} {xs ys : List Ch} (h : Qs P T xs ys = true) (w : World) (X Y : Operand) (neg : Bool) (r : Bool) (hr : (r = true) ↔ flat xs = flat ys) :
  (do eqGuard (if neg then .neq else .eql) T X Y (.agg (flatR ρ xs).toArray) (.agg (flatR ρ ys).toArray); binOp (if neg then .neq else .eql) T (.agg (flatR ρ xs).toArray) (.agg (flatR ρ ys).toArray)).run P w = .ok (.bool (if neg then !r else r)) w := by
 unfold Qs at h
 split at h
 ·rename_i ks hk
  simp only [Bool.and_eq_true, decide_eq_true_eq, Bool.not_eq_true'] at h
  obtain ⟨⟨⟨⟨⟨h0, h1⟩, h2⟩, h3⟩, h4⟩, h5⟩ := h
  rw [(qg ρ (xF h1)).1, (qg ρ (xF h2)).1]
  have f1 := yR h1
  have f2 := yR h2
  have formed : ∀ l : List Value, Fit l ks -> Value.formed P T (.agg l.toArray) = true := by
   intro l hl
   have hc : l.length = P.cellsOf T := by rw [hl.length, h0]
   split at h5
   ·rename_i hu; simp [Value.formed, hu, hc]
   ·rename_i hu; simp [Value.formed, hu, hc]
   ·cases h5
  obtain ⟨r', e1, e2⟩ := run_equalIn_deep (P := P) 9984 16 T h3 w 16 16 (.agg (flat xs).toArray) (.agg (flat ys).toArray) ((flat xs).map litV) ((flat ys).map litV) (formed _ f1) (formed _ f2)
   (by simpa [Value.cells] using sO 16 T ks hk _ f1) (by simpa [Value.cells] using sO 16 T ks hk _ f2)
  have hrr : r' = r := by
   rw [Bool.eq_iff_iff, e2, hr]
   exact ⟨fun e => zI f1 f2 e, fun e => by rw [e]⟩
  subst hrr
  have e1' : (Op.equal T (.agg (flat xs).toArray) (.agg (flat ys).toArray)).run P w = .ok r' w := e1
  have g : ∀ op, (eqGuard op T X Y (.agg (flat xs).toArray) (.agg (flat ys).toArray)).run P w = .ok () w := by
   intro op
   cases op <;> first | rfl | simp [eqGuard, h4]
  cases neg
  ·simp only [Bool.false_eq_true, if_false, Sem.run_bind, g, Result.andThen_ok]
   simp [binOp, e1']
  ·simp only [if_true, Sem.run_bind, g, Result.andThen_ok]
   simp [binOp, e1']
 ·cases h
end Go.Ev
set_option linter.unusedSimpArgs false
set_option linter.unusedVariables false
namespace Go.Ev
open Go.RowKit
inductive Ex where
 | normal
 | exit (id : Nat)
 | ret
structure LState where
 n : Nat
 sl : List (Nat × AV)
 hp : List (Nat × Blk) := []
 d : List Nat := []
def trOf {α : Type} : List (Nat × α) -> Tr α
 | [] => .nil
 | (i, a) :: l => Tr.set (Nat.log2 (i + 1) + 1) (trOf l) i (some a)
def LState.aa (L : LState) : AA := ⟨⟨L.n, .any, trOf L.sl⟩, trOf L.hp, L.d⟩
structure LPick where
 kd : Nat := 0
 I : LState
 ex : Ex
 E : LState
 fr : Nat
 lk : List (Nat × List Nat) := []
structure Ora where
 ch : Nat
 hi : Nat -> Nat
 ru : Nat := 0
 ex : Nat := 0
 av : Nat -> AV := fun _ => .any
 cs : Nat -> List Ch := fun _ => []
 lp : Option LPick := none
 hd : Nat := 0
abbrev ve := List (Option Prop × AV)
structure QRule (P : Program) where
 fn : Ora -> Heap -> List AV -> Op -> ve
 nd : ∀ (ora : Ora) (h : Heap) (avs : List AV) (op : Op) (k : Nat) (p : Option Prop × AV), (fn ora h avs op)[k]? = some p -> ∀ c, op ≠ .defer c
 ok : ∀ (ora : Ora) (h : Heap) (avs : List AV) (op : Op) (k : Nat) (c : Option Prop) (r : AV), (fn ora h avs op)[k]? = some (c, r) -> c.getD True -> ∀ {B : Nat} {ρ : Names} {w : World} (a : Act) (o : Oper), o.op = op →
  Reps ρ avs (op.operands.toList.map a.eval) -> HAt B ρ h w -> ∃ x, (execOp a.eval o).run P w = .ok (.value x) w /\ Rep ρ r x
def r6 (h : Heap) : List (Nat × Blk) -> Heap
 | [] => h
 | (i, b) :: l => r6 (h.put i b) l
structure XRule (P : Program) where
 fn : Ora -> Nat -> Heap -> List AV -> Op -> Option (Option Prop × AV × List (Nat × Blk))
 fresh : ∀ (ora : Ora) (k : Nat) (h : Heap) (avs : List AV) (op : Op) (c : Option Prop) (r : AV) (ups : List (Nat × Blk)), fn ora k h avs op = some (c, r, ups) -> (∀ j, k <= j -> h.get j = none) -> ∀ j, k + 1 <= j -> (r6 h ups).get j = none
 ok : ∀ (ora : Ora) (k : Nat) (h : Heap) (avs : List AV) (op : Op) (c : Option Prop) (r : AV) (ups : List (Nat × Blk)), fn ora k h avs op = some (c, r, ups) -> c.getD True -> (∀ j, k <= j -> h.get j = none) →
  ∀ {F : Fence} (hF : rT F) (n : Nat) {w0 : World} {ρ : Names} {w : World} (a : Act) (o : Oper), o.op = op -> Reps ρ avs (op.operands.toList.map a.eval) →
   Below w0.heap.size w0 w -> HRel w0.heap.size ρ h w -> ∀ {K : Act -> World -> Prop} {Q : Exit -> Act -> World -> Prop},
   (∀ ρ' x w', ρ.le ρ' -> Rep ρ' r x -> Below w0.heap.size w0 w' -> HRel w0.heap.size ρ' (r6 h ups) w' -> K (a.put o.dst x) w') -> o.wpIn F n P a w K Q
structure Rules (P : Program) where
 q : List (QRule P) := []
 x : List (XRule P) := []
 d : Option (XRule P) := none
variable {P : Program}
inductive XPc where
 | c (x : Ch)
 | r (cs : List Ch) (len : Nat)
 | z (cs : List Ch) (len : Nat)
inductive XV where
 | t (x : AV)
 | rd (cs : List Ch) (len cap : Nat)
 | rx (cs : List Ch) (len : Nat)
 | rz (cs : List Ch) (len : Nat)
 | ags (ps : List XPc)
def HX (w : World) (cs : List Ch) (len : Nat) (y : Value) : Prop :=
 pureC cs = true /\ 0 < w.heap.size /\ ((len = 0 /\ flat cs = [] /\ y = .slice none 0 0) ∨ ∃ b off room, y = .slice (some ⟨b, off, none⟩) len (len + room) /\ b < w.heap.size /\ w.rangeAt b off (flat cs))
def za (w : World) : List XPc -> List Value -> Prop
 | [], vs => vs = []
 | .c x :: l, vs => x.pure = true /\ ∃ r, vs = x.cells rM ++ r /\ za w l r
 | .r cs len :: l, vs => pureC cs = true /\ ∃ b off room r, vs = .slice (some ⟨b, off, none⟩) len (len + room) :: r /\ b < w.heap.size /\ w.rangeAt b off (flat cs) /\ za w l r
 | .z cs len :: l, vs => ∃ y r, vs = y :: r /\ HX w cs len y /\ za w l r
def XRep (w : World) (x : XV) (y : Value) : Prop :=
 match x with
 | .t x => x.val? = some y
 | .rd cs len cap => pureC cs = true /\ ∃ b off, y = .slice (some ⟨b, off, none⟩) len cap /\ b < w.heap.size /\ w.rangeAt b off (flat cs)
 | .rx cs len => pureC cs = true /\ ∃ b off room, y = .slice (some ⟨b, off, none⟩) len (len + room) /\ b < w.heap.size /\ w.rangeAt b off (flat cs)
 | .rz cs len => HX w cs len y
 | .ags ps => ∃ cells, y = .agg cells.toArray /\ za w ps cells
def XReps (w : World) : List XV -> List Value -> Prop
 | [], [] => True
 | x :: l, y :: r => XRep w x y /\ XReps w l r
 | _, _ => False
def CP (h : Heap) (id off : Nat) : Option (List Ch) :=
 match h.get id with
 | some blk => (match blk.cells? with
  | some cs => (match cut cs off with
   | some (_, b) => (match pureC b with | true => some b | false => none)
   | none => none)
  | none => none)
 | none => none
theorem xV {ρ : Names} {h : Heap} {B : Nat} {w : World} (hh : HAt B ρ h w) {id off : Nat} {cs : List Ch} (hc : CP h id off = some cs) {v : NM} (hv : ρ id = some v) :
  pureC cs = true /\ v.1 < w.heap.size /\ w.rangeAt v.1 (v.2 + off) (flat cs) := by
 unfold CP at hc
 split at hc
 ·rename_i blk hblk
  obtain ⟨v', g1, g2⟩ := hh.at_ id blk hblk
  rw [hv] at g1; simp only [Option.some.injEq] at g1; subst g1
  split at hc
  ·rename_i cs0 hcs
   obtain ⟨k1, k2⟩ := g2.cells hcs
   split at hc
   ·rename_i p b hcut
    split at hc
    ·rename_i hp
     simp only [Option.some.injEq] at hc; subst hc
     obtain ⟨e1, e2⟩ := vq ρ _ _ _ _ hcut
     subst e1
     refine ⟨hp, hh.lt _ _ hv, fun j x hj => ?_⟩
     have := k2 (off + j) x (by rw [qV, ← e2, List.getElem?_append_right (by omega), show (flatR ρ p).length + j - (flatR ρ p).length = j by omega, (qg ρ hp).1]; exact hj)
     rw [← Nat.add_assoc] at this
     exact this
    ·cases hc
   ·cases hc
  ·cases hc
 ·cases hc
def Eq (h : Heap) (id : Nat) : Option (List Ch) :=
 match h.get id with
 | some (.rz cs) => (match pureC cs with | true => some cs | false => none)
 | _ => none
theorem AR {ρ : Names} {h : Heap} {B : Nat} {w : World} (hh : HAt B ρ h w) {id len : Nat} {cs : List Ch} (hc : Eq h id = some cs) {v : NM} (hv : ρ id = some v) (hz : v.3 = 0 -> len = 0) : HX w cs len (zval v len) := by
 unfold Eq at hc
 split at hc
 ·rename_i cs0 hblk
  split at hc
  ·rename_i hp
   simp only [Option.some.injEq] at hc; subst hc
   obtain ⟨v', g1, g2⟩ := hh.at_ id _ hblk
   rw [hv] at g1; simp only [Option.some.injEq] at g1; subst g1
   obtain ⟨k1, k2, k3, k4⟩ := g2
   rw [(qg ρ hp).1] at k3 k4
   have hlt := hh.lt _ _ hv
   refine ⟨hp, by omega, ?_⟩
   unfold zval
   split
   ·rename_i h0; exact .inl ⟨hz h0, k4 h0, rfl⟩
   ·rename_i r _; exact .inr ⟨_, _, r, rfl, hlt, k3⟩
  ·cases hc
 ·cases hc
def pcX (h : Heap) : Ch -> Option XPc
 | .sl id off len cap => match CP h id off, Nat.ble len cap with | some cs, true => some (.r cs len) | _, _ => none
 | .sx id len => match CP h id 0 with | some cs => some (.r cs len) | none => none
 | .sz id len => match Eq h id with | some cs => some (.z cs len) | none => none
 | .p _ _ => none
 | .mr _ => none
 | c => some (.c c)
def LN (h : Heap) : List Ch -> Option (List XPc)
 | [] => some []
 | c :: l => match pcX h c, LN h l with | some a, some r => some (a :: r) | _, _ => none
theorem Do {ρ : Names} {h : Heap} {B : Nat} {w : World} (hh : HAt B ρ h w) : ∀ {l : List Ch} {ps : List XPc}, LN h l = some ps -> DefC ρ l -> za w ps (flatR ρ l)
 | [], ps, he, _ => by simp only [LN, Option.some.injEq] at he; subst he; rfl
 | c :: l, ps, he, hd => by
  unfold LN at he
  split at he
  ·rename_i a r ha hr
   simp only [Option.some.injEq] at he; subst he
   have ih := Do hh hr hd.2
   have hd1 := hd.1
   unfold pcX at ha
   split at ha
   ·rename_i id off len cap
    split at ha
    ·rename_i cs hcs hle
     simp only [Option.some.injEq] at ha; subst ha
     obtain ⟨v, hv⟩ := hd1
     obtain ⟨e1, e2, e3⟩ := xV hh hcs hv
     have hle := Nat.le_of_ble_eq_true hle
     exact ⟨e1, v.1, v.2 + off, cap - len, _, by simp [flatR, Ch.cells, Names.at, hv, Nat.add_sub_cancel' hle], e2, e3, ih⟩
    ·cases ha
   ·rename_i id len
    split at ha
    ·rename_i cs hcs
     simp only [Option.some.injEq] at ha; subst ha
     obtain ⟨v, hv⟩ := hd1
     obtain ⟨e1, e2, e3⟩ := xV hh hcs hv
     exact ⟨e1, v.1, v.2, v.3, _, by simp [flatR, Ch.cells, Names.at, Names.room, hv], e2, by simpa using e3, ih⟩
    ·cases ha
   ·rename_i id len
    split at ha
    ·rename_i cs hcs
     simp only [Option.some.injEq] at ha; subst ha
     obtain ⟨v, hv, hz⟩ := hd1
     exact ⟨_, _, by simp only [flatR, Ch.cells, Names.sz, hv]; rfl, AR hh hcs hv hz, ih⟩
    ·cases ha
   ·cases ha
   ·cases ha
   ·rename_i h1 h2 h4 h3 h5
    simp only [Option.some.injEq] at ha; subst ha
    have hp : c.pure = true := by
     cases c <;> first | rfl | exact (h1 _ _ _ _ rfl).elim | exact (h2 _ _ rfl).elim | exact (h4 _ _ rfl).elim | exact (h3 _ _ rfl).elim | exact (h5 _ rfl).elim
    exact ⟨hp, _, by simp only [flatR]; rw [(Ch.pure_cells hp ρ rM).1], ih⟩
  ·cases he
def evX (h : Heap) (a : AV) : Option XV :=
 match a with
 | .sl id off len cap =>
  match h.get id with
  | some blk => (match blk.cells? with
   | some cs => (match cut cs off with
    | some (_, b) => (match pureC b with | true => some (.rd b len cap) | false => none)
    | none => none)
   | none => none)
  | none => none
 | .sx id len => match CP h id 0 with | some cs => some (.rx cs len) | none => none
 | .sz id len => match Eq h id with | some cs => some (.rz cs len) | none => none
 | .ag cs => match pureC cs with | true => some (.t (.ag cs)) | false => (match LN h cs with | some ps => some (.ags ps) | none => none)
 | a => match a.val? with | some _ => some (.t a) | none => none
def FF (h : Heap) : List AV -> Option (List XV)
 | [] => some []
 | x :: l => match evX h x, FF h l with
  | some a, some r => some (a :: r)
  | _, _ => none
theorem MU {ρ : Names} {h : Heap} {B : Nat} {w : World} (hh : HAt B ρ h w) {a : AV} {y : Value} {r : XV} (hx : Rep ρ a y) (hr : evX h a = some r) : XRep w r y := by
 unfold evX at hr
 split at hr
 ·rename_i id off len cap
  simp only [Rep] at hx
  obtain ⟨v, h1, h2⟩ := hx
  split at hr
  ·rename_i blk hblk
   obtain ⟨v', g1, g2⟩ := hh.at_ id blk hblk
   rw [h1] at g1; simp only [Option.some.injEq] at g1; subst g1
   split at hr
   ·rename_i cs hcs
    obtain ⟨k1, k2⟩ := g2.cells hcs
    split at hr
    ·rename_i p b hcut
     split at hr
     ·rename_i hp
      simp only [Option.some.injEq] at hr; subst hr
      obtain ⟨e1, e2⟩ := vq ρ _ _ _ _ hcut
      subst e1
      refine ⟨hp, v.1, v.2 + off, h2, hh.lt _ _ h1, fun j x hj => ?_⟩
      have := k2 (off + j) x (by rw [qV, ← e2, List.getElem?_append_right (by omega), show (flatR ρ p).length + j - (flatR ρ p).length = j by omega, (qg ρ hp).1]; exact hj)
      rw [← Nat.add_assoc] at this
      exact this
     ·cases hr
    ·cases hr
   ·cases hr
  ·cases hr
 ·rename_i id len
  simp only [Rep] at hx
  obtain ⟨v, h1, h2⟩ := hx
  split at hr
  ·rename_i cs hcs
   simp only [Option.some.injEq] at hr; subst hr
   obtain ⟨e1, e2, e3⟩ := xV hh hcs h1
   exact ⟨e1, v.1, v.2, v.3, h2, e2, by simpa using e3⟩
  ·cases hr
 ·rename_i id len
  simp only [Rep] at hx
  obtain ⟨v, h1, hz, h2⟩ := hx
  split at hr
  ·rename_i cs hcs
   simp only [Option.some.injEq] at hr; subst hr
   subst h2
   exact AR hh hcs h1 hz
  ·cases hr
 ·rename_i cs
  split at hr
  ·rename_i hp
   simp only [Option.some.injEq] at hr; subst hr
   simp only [XRep, AV.val?, hp]
   simp only [Rep] at hx
   rw [hx.2, (qg ρ hp).1]
  ·split at hr
   ·rename_i ps hps
    simp only [Option.some.injEq] at hr; subst hr
    simp only [Rep] at hx
    exact ⟨flatR ρ cs, hx.2, Do hh hps hx.1⟩
   ·cases hr
 ·rename_i a' _
  split at hr
  ·rename_i z hz
   simp only [Option.some.injEq] at hr; subst hr
   simp only [XRep]
   rw [hx.of_val hz]; exact hz
  ·cases hr
theorem we {ρ : Names} {h : Heap} {B : Nat} {w : World} (hh : HAt B ρ h w) : ∀ (l : List AV) (ys : List Value) (r : List XV), Reps ρ l ys -> FF h l = some r -> XReps w r ys
 | [], ys, r, hl, hr => by simp only [FF, Option.some.injEq] at hr; simp only [Reps] at hl; subst hr; subst hl; trivial
 | x :: l, ys, r, hl, hr => by
  simp only [Reps] at hl
  obtain ⟨y, s, rfl, h1, h2⟩ := hl
  unfold FF at hr
  split at hr
  ·rename_i b r' hb hr'
   simp only [Option.some.injEq] at hr
   subst hr
   exact ⟨MU hh h1 hb, we hh l s r' h2 hr'⟩
  ·cases hr
structure Entry where
 f : FuncId
 fn : (Nat -> Nat) -> List XV -> ve
def Comes (P : Program) (f : FuncId) (vs : List Value) (w : World) (v : Value) : Prop :=
 (callFunc f vs.toArray).run P w = .ok (.value v) w ∨
 ((callFunc f vs.toArray).run P w = .ok (.enter f vs.toArray) w /\ Calls P f vs.toArray w (fun en w' => en = .returned v /\ Below w.heap.size w w'))
def Entry.OK (P : Program) (e : Entry) : Prop :=
 ∀ hi args c r, (c, r) ∈ e.fn hi args -> c.getD True -> ∃ v, r.val? = some v /\ ∀ w vs, XReps w args vs -> Comes P e.f vs w v
def Cv : List Entry -> FuncId -> Option Entry
 | [], _ => none
 | e :: l, f => match Nat.beq e.f f with | true => some e | false => Cv l f
def sW (P : Program) : List Entry -> Prop
 | [] => True
 | e :: l => e.OK P /\ sW P l
theorem Ca : ∀ {l : List Entry} {f : FuncId} {e : Entry}, sW P l -> Cv l f = some e -> e.f = f /\ e.OK P
 | [], _, _, _, h => by simp [Cv] at h
 | e0 :: l, f, e, ho, h => by
  unfold Cv at h
  split at h
  ·rename_i hb
   simp only [Option.some.injEq] at h; subst h
   exact ⟨Nat.eq_of_beq_eq_true hb, ho.1⟩
  ·exact Ca ho.2 h
def HA (hi : Nat -> Nat) : AV -> ve
 | .v (.bool b) => [(none, .v (.bool b)), (some (b = true), .v (.bool true)), (some (b = false), .v (.bool false))]
 | .v (.int k n) => [(none, .v (.int k n)), (some (n = ((hi 0 : Nat) : Int)), .v (.int k ((hi 0 : Nat) : Int))), (some (k = .u64 /\ n = ((hi 0 % 18446744073709551616 : Nat) : Int)), .u (hi 0)), (some (n = ((hi 0 : Nat) : Int) - ((hi 1 : Nat) : Int)), .v (.int k (((hi 0 : Nat) : Int) - ((hi 1 : Nat) : Int))))]
 | .u n => [(none, .u n), (some (n % 18446744073709551616 = hi 0 % 18446744073709551616), .u (hi 0)), (some (n % 18446744073709551616 = hi 0), .v (.int .u64 ((hi 0 : Nat) : Int)))]
 | r => [(none, r)]
theorem Ho {hi : Nat -> Nat} {r r' : AV} {k : Nat} {c : Option Prop} (h : (HA hi r)[k]? = some (c, r')) (hc : c.getD True) {ρ : Names} {x : Value} (hr : Rep ρ r x) : Rep ρ r' x := by
 unfold HA at h
 split at h
 ·match k, h with
  | 0, h => simp at h; obtain ⟨_, rfl⟩ := h; exact hr
  | 1, h => simp at h; obtain ⟨rfl, rfl⟩ := h; simp only [Option.getD_some] at hc; subst hc; exact hr
  | 2, h => simp at h; obtain ⟨rfl, rfl⟩ := h; simp only [Option.getD_some] at hc; subst hc; exact hr
  | k + 3, h => simp at h
 ·match k, h with
  | 0, h => simp at h; obtain ⟨_, rfl⟩ := h; exact hr
  | 1, h => simp at h; obtain ⟨rfl, rfl⟩ := h; simp only [Option.getD_some] at hc; rw [← hc]; exact hr
  | 2, h => simp at h; obtain ⟨rfl, rfl⟩ := h; simp only [Option.getD_some] at hc; obtain ⟨rfl, rfl⟩ := hc; simp only [Rep, u64] at hr ⊢; exact hr
  | 3, h => simp at h; obtain ⟨rfl, rfl⟩ := h; simp only [Option.getD_some] at hc; rw [← hc]; exact hr
  | k + 4, h => simp at h
 ·match k, h with
  | 0, h => simp at h; obtain ⟨_, rfl⟩ := h; exact hr
  | 1, h => simp at h; obtain ⟨rfl, rfl⟩ := h; simp only [Option.getD_some] at hc; simp only [Rep, u64] at hr ⊢; rw [← hc]; exact hr
  | 2, h => simp at h; obtain ⟨rfl, rfl⟩ := h; simp only [Option.getD_some] at hc; simp only [Rep, u64] at hr ⊢; rw [← hc]; exact hr
  | k + 3, h => simp at h
 ·match k, h with
  | 0, h => simp at h; obtain ⟨_, rfl⟩ := h; exact hr
  | k + 1, h => simp at h
def qS : Op -> Bool
 | .move .. | .assign .. | .pick .. | .build .. | .fieldAddr .. | .field .. | .indexAddr .. | .index .. | .extract .. | .unOp .. | .binOp .. | .slice .. | .makeFunc .. | .makeInterface .. | .nilCheck .. => true
 | _ => false
def Mh (op : Op) (h : Heap) : Heap := match qS op with | true => .nil | false => h
theorem QC {B : Nat} {ρ : Names} {h : Heap} {w : World} (hh : HAt B ρ h w) (op : Op) : HAt B ρ (Mh op h) w := by
 unfold Mh
 split
 ·exact ⟨fun id blk hi => (by rw [Tr.get_nil] at hi; cases hi), hh.lt, hh.size⟩
 ·exact hh
def altA (P : Program) (X : Rules P) (env : List Entry) (ora : Ora) (h : Heap) (t : Sl) (op : Op) : Option ve :=
 match ora.ru with
 | r + 1 => match X.q[r]? with | some q => some (q.fn ora (Mh op h) (op.operands.toList.map (evA t)) op) | none => none
 | 0 =>
 match valA P h t op with
 | some r => some (HA ora.hi r)
 | none =>
  match op with
  | .call { callee := .value f, args, argTypes := _ } =>
   match evA t f with
   | .clo g first cap =>
    match Cv env g, FF h (first ++ args.toList.map (evA t) ++ cap) with
    | some e, some l => some (e.fn ora.hi l)
    | _, _ => none
   | _ => none
  | .call { callee := .invoke r m, args, argTypes := _ } =>
   match evA t r with
   | .ifc T a =>
    match CQ P T m with
    | some g =>
     match Cv env g, FF h (a :: args.toList.map (evA t)) with
     | some e, some l => some (e.fn ora.hi l)
     | _, _ => none
    | none => none
   | _ => none
  | .binOp .eql T x y _ =>
   match evA t x, evA t y with
   | .ag a, .ag b => if Qs P T a b then some [(some (flat a = flat b), .v (.bool true)), (some (flat a ≠ flat b), .v (.bool false))] else none
   | _, _ => none
  | .binOp .neq T x y _ =>
   match evA t x, evA t y with
   | .ag a, .ag b => if Qs P T a b then some [(some (flat a = flat b), .v (.bool false)), (some (flat a ≠ flat b), .v (.bool true))] else none
   | _, _ => none
  | _ => none
theorem zh {w0 w w' : World} (h : Below w0.heap.size w0 w) (h' : Below w.heap.size w w') : Below w0.heap.size w0 w' := h.trans (h'.mono h.size)
theorem QN {h : Heap} {t : Sl} {op : Op} {r : AV} (hv : valA P h t op = some r) : ∀ c, op ≠ .defer c := by
 intro c e; subst e; simp [valA] at hv
theorem Tk {X : Rules P} {F : Fence} (hF : rT F) (n : Nat) {B : Nat} {w : World} {ρ : Names} {t : Sl} {a : Act} {h : Heap} {env : List Entry} {ora : Ora} (henv : sW P env) (hs : Slots ρ t a.tmps) (hh : HAt B ρ h w) (o : Oper) {alts : ve} (ha : altA P X env ora h t o.op = some alts)
  {c : Option Prop} {r : AV} {k : Nat} (hk : alts[k]? = some (c, r)) (hc : c.getD True) {K : Act -> World -> Prop} {Q : Exit -> Act -> World -> Prop}
  (hK : ∀ x w', Rep ρ r x -> Below w.heap.size w w' -> K (a.put o.dst x) w') : o.wpIn F n P a w K Q := by
 unfold altA at ha
 split at ha
 ·split at ha
  ·rename_i q hq
   simp only [Option.some.injEq] at ha; subst ha
   obtain ⟨x, h1, h2⟩ := q.ok _ _ _ _ _ _ _ hk hc a o rfl (rm hs _) (QC hh _)
   refine qO hF (q.nd _ _ _ _ _ _ hk) ?_
   rw [h1]
   exact hK x w h2 (Below.refl _ _)
  ·cases ha
 split at ha
 ·rename_i r' hv
  simp only [Option.some.injEq] at ha
  subst ha
  obtain ⟨x, h1, h2⟩ := Lx hs hh o hv
  refine qO hF (QN hv) ?_
  rw [h1]
  exact hK x w (Ho hk hc h2) (Below.refl _ _)
 ·split at ha
  ·rename_i f args at' hop
   split at ha
   ·rename_i g first cap hf
    split at ha
    ·rename_i e l he hl
     simp only [Option.some.injEq] at ha
     subst ha
     obtain ⟨hef, hok⟩ := Ca henv he
     obtain ⟨v, hv, hcalls⟩ := hok ora.hi _ c r (List.mem_of_getElem? hk) hc
     have hfe := qt hs f
     rw [hf] at hfe
     simp only [Rep] at hfe
     obtain ⟨xs, ys, h1, h2, h3⟩ := hfe
     have hx : XReps w l (xs ++ args.toList.map a.eval ++ ys) := we hh _ _ _ (rZ (rZ h1 (rm hs _)) h2) hl
     have e1 : o.op = .call { callee := .value f, args := args, argTypes := at' } := by assumption
     have hrun : (execOp a.eval o).run P w = (callFunc e.f (xs ++ args.toList.map a.eval ++ ys).toArray).run P w := by
      simp only [execOp, e1, Sem.run_bind, resolve, h3, Deferred.ofValue, Sem.run_pure, Result.andThen_ok, invoke]
      rw [← hef]
      congr 2
      apply Array.toList_inj.1
      simp
     refine qO hF (fun c hc' => by rw [e1] at hc'; cases hc') ?_
     rw [hrun]
     rcases hcalls w _ hx with hc' | ⟨hc1, hc'⟩
     ·rw [hc']
      exact hK v w (ui hv) (Below.refl _ _)
     ·rw [hc1]
      simp only [Oper.uponIn]
      refine ⟨hF.depth, (hF.calls hc').mono fun en w' ⟨h1, h2⟩ => ?_⟩
      subst h1
      exact hK v w' (ui hv) h2
    ·cases ha
   ·cases ha
  ·rename_i rr m args at' hop
   split at ha
   ·rename_i T a' hr
    split at ha
    ·rename_i g hg
     split at ha
     ·rename_i e l he hl
      simp only [Option.some.injEq] at ha
      subst ha
      obtain ⟨hef, hok⟩ := Ca henv he
      obtain ⟨v, hv, hcalls⟩ := hok ora.hi _ c r (List.mem_of_getElem? hk) hc
      have hre := qt hs rr
      rw [hr] at hre
      simp only [Rep] at hre
      obtain ⟨y, h1, h3⟩ := hre
      have hx : XReps w l (y :: args.toList.map a.eval) := we hh (a' :: args.toList.map (evA t)) (y :: args.toList.map a.eval) _ (by simp only [Reps]; exact ⟨y, _, rfl, h1, rm hs _⟩) hl
      have e1 : o.op = .call { callee := .invoke rr m, args := args, argTypes := at' } := by assumption
      have hrun : (execOp a.eval o).run P w = (callFunc e.f (y :: args.toList.map a.eval).toArray).run P w := by
       have e2 := Et hg y (args.map a.eval) w
       rw [← hef] at e2
       have e3 : (y :: args.toList.map a.eval).toArray = #[y] ++ args.map a.eval := by apply Array.toList_inj.1; simp
       have e4 : (#[Value.iface T y] ++ args.map a.eval)[0]? = some (.iface T y) := by simp [Array.getElem?_append]
       have e5 : (args.map a.eval).extract 0 args.size = args.map a.eval := by
        simp
       rw [e3, ← e2]
       simp [execOp, e1, resolve, h3, invoke, e4, e5]
      refine qO hF (fun c hc' => by rw [e1] at hc'; cases hc') ?_
      rw [hrun]
      rcases hcalls w _ hx with hc' | ⟨hc1, hc'⟩
      ·rw [hc']
       exact hK v w (ui hv) (Below.refl _ _)
      ·rw [hc1]
       simp only [Oper.uponIn]
       refine ⟨hF.depth, (hF.calls hc').mono fun en w' ⟨h1, h2⟩ => ?_⟩
       subst h1
       exact hK v w' (ui hv) h2
     ·cases ha
    ·cases ha
   ·cases ha
  ·rename_i T x y yt hop
   split at ha
   ·rename_i xs ys hx hy
    split at ha
    ·rename_i heq
     simp only [Option.some.injEq] at ha
     subst ha
     have ex := qt hs x
     have ey := qt hs y
     rw [hx] at ex; rw [hy] at ey
     simp only [Rep] at ex ey
     replace ex := ex.2
     replace ey := ey.2
     have e1 : o.op = .binOp .eql T x y yt := by assumption
     have key : ∀ b : Bool, ((b = true) ↔ flat xs = flat ys) -> r = .v (.bool b) -> o.wpIn F n P a w K Q := by
      intro b hb hr
      have := Fz (ρ := ρ) heq w x y false b hb
      have hrun : (execOp a.eval o).run P w = .ok (.value (.bool b)) w := by
       simp only [execOp, e1, ex, ey]
       simp only [Bool.false_eq_true, if_false] at this
       rw [Sem.run_bind, this]
       rfl
      refine qO hF (fun c hc' => by rw [e1] at hc'; cases hc') ?_
      rw [hrun]
      exact hK _ w (by rw [hr]; rfl) (Below.refl _ _)
     match k, hk with
     | 0, hk => simp at hk; obtain ⟨rfl, rfl⟩ := hk; exact key true (by simpa using hc) rfl
     | 1, hk => simp at hk; obtain ⟨rfl, rfl⟩ := hk; exact key false (by simpa using hc) rfl
     | k + 2, hk => simp at hk
    ·cases ha
   ·cases ha
  ·rename_i T x y yt hop
   split at ha
   ·rename_i xs ys hx hy
    split at ha
    ·rename_i heq
     simp only [Option.some.injEq] at ha
     subst ha
     have ex := qt hs x
     have ey := qt hs y
     rw [hx] at ex; rw [hy] at ey
     simp only [Rep] at ex ey
     replace ex := ex.2
     replace ey := ey.2
     have e1 : o.op = .binOp .neq T x y yt := by assumption
     have key : ∀ b : Bool, ((b = true) ↔ flat xs = flat ys) -> r = .v (.bool (!b)) -> o.wpIn F n P a w K Q := by
      intro b hb hr
      have := Fz (ρ := ρ) heq w x y true b hb
      have hrun : (execOp a.eval o).run P w = .ok (.value (.bool (!b))) w := by
       simp only [execOp, e1, ex, ey]
       simp only [if_true] at this
       rw [Sem.run_bind, this]
       rfl
      refine qO hF (fun c hc' => by rw [e1] at hc'; cases hc') ?_
      rw [hrun]
      exact hK _ w (by rw [hr]; rfl) (Below.refl _ _)
     match k, hk with
     | 0, hk => simp at hk; obtain ⟨rfl, rfl⟩ := hk; exact key true (by simpa using hc) rfl
     | 1, hk => simp at hk; obtain ⟨rfl, rfl⟩ := hk; exact key false (by simpa using hc) rfl
     | k + 2, hk => simp at hk
    ·cases ha
   ·cases ha
  ·cases ha
def xK (z : List Value) (n : Nat) : List Ch := (List.range n).map fun j => .c (z.getD (j % z.length) default)
theorem x8 (ρ : Names) (z : Array Value) (n : Nat) : flatR ρ (xK z.toList n) = ((Array.range n).map (z[· % z.size]!)).toList /\ DefC ρ (xK z.toList n) := by
 have e : xK z.toList n = ((Array.range n).map (z[· % z.size]!)).toList.map .c := by
  unfold xK
  rw [Array.toList_map, Array.toList_range, List.map_map]
  refine List.map_congr_left fun j _ => ?_
  simp only [Function.comp]
  congr 1
  rw [Array.length_toList, List.getD_eq_getElem?_getD, getElem!_def]
  simp only [Array.getElem?_toList]
  cases z[j % z.size]? <;> rfl
 rw [e]
 exact vB ρ _
def W2 (P : Program) (T : TypeId) (len : Nat) (parts : List (Nat × AV)) : Option (List Ch × TypeId) :=
 match P.underlying T with
 | some (.slice e) =>
  match P.info? e with
  | some ie =>
   match Nat.ble (len * ie.size) 16777216, ie.zero with
   | true, some z => (B7 (fun i => some (i * ie.size, ie.size)) (xK (if len * ie.size = 0 then [] else z.cells.toList) (len * ie.size)) parts).map fun cs => (cs, e)
   | _, _ => none
  | none => none
 | _ => none
def Sg (P : Program) (T : TypeId) (n m : Int) : Option (List Ch × TypeId) :=
 match P.underlying T with
 | some (.slice e) =>
  match P.info? e with
  | some ie =>
   match ie.zero with
   | some z => if n = m /\ 0 <= n /\ (ie.bytes : Int) * n <= 281474976710656 /\ n <= 9223372036854775807 then some (xK z.cells.toList (n.toNat * ie.size), e) else none
   | none => none
  | none => none
 | _ => none
def stepQ (P : Program) (X : Rules P) (env : List Entry) (h : Heap) (t : Sl) (id : Nat) (ora : Ora) (op : Op) : Option (Option Prop × AV × Option Blk) :=
 match op with
 | .alloc T => (Su P T).map fun cs => (none, .p id 0, some (.own cs T))
 | .box T x => (FN (evA t x)).map fun cs => (none, .p id 0, some (.own cs T))
 | .buildSlice T len ps => (W2 P T len (ps.toList.map fun (i, x) => (i, evA t x))).map fun p => (none, .sl id 0 len len, some (.own p.1 p.2))
 | .makeSlice T l c =>
  match ora.ru, evA t l, evA t c with
  | 0, .v (.int _ n), .v (.int _ m) => (Sg P T n m).map fun p => (none, .sl id 0 n.toNat n.toNat, some (.own p.1 p.2))
  | _, _, _ => none
 | .store _ _ _ => none
 | op =>
  match altA P X env ora h t op with
  | some alts => match alts[ora.ch]? with | some (c, r) => some (c, r, none) | none => none
  | none => none
end Go.Ev
set_option linter.unusedSimpArgs false
set_option linter.unusedVariables false
namespace Go.Ev
open Go.RowKit
def AA.app (A : AA) (o : Oper) (id : Nat) (r : AV) (nb : Option Blk) : AA := ⟨putA A.t o.dst r, updH A.h id nb, A.d⟩
def okC : List Ch -> Bool
 | [] => true
 | .c (.agg _) :: _ => false
 | .c (.tuple _) :: _ => false
 | .l _ :: _ => false
 | _ :: l => okC l
theorem uP : ∀ w x, ∀ v ∈ limbs w x, v.oneCell' = true
 | 0, _, v, h => by simp [limbs] at h
 | w + 1, x, v, h => by
  simp only [limbs, List.mem_cons] at h
  rcases h with rfl | h
  ·rfl
  ·exact uP w _ v h
theorem ww (ρ : Names) : ∀ {l : List Ch}, okC l = true -> ∀ v ∈ flatR ρ l, v.oneCell' = true
 | [], _, v, h => by simp [flatR] at h
 | c :: l, ho, v, h => by
  simp only [flatR, List.mem_append] at h
  rcases h with h | h
  ·cases c with
   | c x =>
    simp only [Ch.cells, List.mem_singleton] at h
    subst h
    cases v <;> first | rfl | (simp [okC] at ho)
   | n w x => exact uP _ _ v h
   | e x => exact uP _ _ v h
   | s x => exact uP _ _ v h
   | q x => exact uP _ _ v h
   | m x => exact uP _ _ v h
   | l vs => simp [okC] at ho
   | p id off => simp only [Ch.cells, List.mem_singleton] at h; subst h; rfl
   | sl id off len cap => simp only [Ch.cells, List.mem_singleton] at h; subst h; rfl
   | sx id len => simp only [Ch.cells, List.mem_singleton] at h; subst h; rfl
   | sz id len => simp only [Ch.cells, List.mem_singleton] at h; subst h; unfold Names.sz zval; split <;> (try split) <;> rfl
   | y bs => simp only [Ch.cells, List.mem_map] at h; obtain ⟨b, _, rfl⟩ := h; rfl
   | mr id => simp only [Ch.cells, List.mem_singleton] at h; subst h; unfold Names.mref; split <;> rfl
  ·refine ww ρ (l := l) ?_ v h
   cases c with
   | c x => cases x <;> first | exact ho | (simp [okC] at ho)
   | l vs => simp [okC] at ho
   | _ => exact ho
def tj (P : Program) (A : AA) (T : TypeId) (x y : Operand) : Option Heap :=
 match evA A.t x, FN (evA A.t y), P.info? T with
 | .p id off, some cs, some i =>
  match Nat.beq (sizes cs) i.size, okC cs with
  | true, true =>
   (match A.h.get id with
   | some (.own bs t) => (uM bs off cs).map fun cs' => A.h.put id (.own cs' t)
   | _ => none)
  | _, _ => none
 | _, _, _ => none
theorem xo {P : Program} {A : AA} {T : TypeId} {x y : Operand} {h' : Heap} (hst : tj P A T x y = some h') :
  ∃ id off cs i bs t cs', evA A.t x = .p id off /\ FN (evA A.t y) = some cs /\ P.info? T = some i /\ sizes cs = i.size /\ okC cs = true /\ A.h.get id = some (.own bs t) /\ uM bs off cs = some cs' /\ h' = A.h.put id (.own cs' t) := by
 unfold tj at hst
 split at hst
 ·rename_i id off cs i hx hy hi
  split at hst
  ·rename_i h1 h2
   split at hst
   ·rename_i bs t hblk
    simp only [Option.map_eq_some_iff] at hst
    obtain ⟨cs', h3, rfl⟩ := hst
    exact ⟨id, off, cs, i, bs, t, cs', hx, hy, hi, Nat.eq_of_beq_eq_true h1, h2, hblk, h3, rfl⟩
   ·cases hst
  ·cases hst
 ·cases hst
theorem KY {P : Program} {A : AA} {T : TypeId} {x y : Operand} {id off : Nat} {cs : List Ch} {i : TypeInfo} {bs : List Ch} {t : TypeId} {cs' : List Ch} (h1 : evA A.t x = .p id off) (h2 : FN (evA A.t y) = some cs) (h3 : P.info? T = some i)
  (h4 : sizes cs = i.size) (h5 : okC cs = true) (h6 : A.h.get id = some (.own bs t)) (h7 : uM bs off cs = some cs') : tj P A T x y = some (A.h.put id (.own cs' t)) := by
 unfold tj
 simp only [h1, h2, h3, h4, h5, h6, h7, Nat.beq_refl, Option.map_some]
theorem tO {P : Program} {A : AA} {T : TypeId} {x y : Operand} {h' : Heap} (hst : tj P A T x y = some h') {j : Nat} (hj0 : A.h.get j = none) : h'.get j = none := by
 obtain ⟨id, off, cs, i, bs, t, cs', _, _, _, _, _, h6, _, rfl⟩ := xo hst
 rw [Heap.put_ne _ (fun e => by rw [e, h6] at hj0; cases hj0)]
 exact hj0
def ue (ops : Array Oper) (t : Sl) (o : Oper) : Option Bool :=
 match o.guard with
 | none => some true
 | some (j, want) =>
  match (ops[j]?).bind (·.dst) with
  | some d => match t.get d with | .v (.bool b) => some (b == want) | .any => none | _ => some false
  | none => some false
theorem rH {ρ : Names} {ops : Array Oper} {t : Sl} {a : Act} (hs : Slots ρ t a.tmps) {o : Oper} {r : Bool} (h : ue ops t o = some r) : Region.wanted o (yielded ops a.tmps) = r := by
 unfold ue at h
 unfold Region.wanted
 cases hg : o.guard with
 | none => rw [hg] at h; simpa using h
 | some gw =>
  obtain ⟨j, want⟩ := gw
  rw [hg] at h
  simp only at h ⊢
  unfold yielded
  cases hd : (ops[j]?).bind (·.dst) with
  | none => rw [hd] at h; simpa using h
  | some d =>
   rw [hd] at h
   simp only [Option.bind_some] at h ⊢
   cases ht : a.tmps[d]? with
   | none => rw [hs.get_none ht] at h; simpa using h
   | some x =>
    have h2 := hs.get_some ht
    generalize t.get d = av at h2 h
    cases av <;> simp only [Rep] at h2 <;> try (simp only [reduceCtorEq] at h; done)
    case v y =>
     subst h2
     cases x <;> simp only [Option.some.injEq] at h <;> first | (subst h; rfl) | (rename_i b; subst h; cases want <;> cases b <;> rfl)
    case ag => obtain ⟨_, rfl⟩ := h2; simpa using h
    case u => subst h2; simpa [u64] using h
    case tp => obtain ⟨_, _, rfl⟩ := h2; simpa using h
    case clo => obtain ⟨_, _, _, _, rfl⟩ := h2; simpa using h
    case p => obtain ⟨b, _, rfl⟩ := h2; simpa using h
    case sl => obtain ⟨b, _, rfl⟩ := h2; simpa using h
    case sx => obtain ⟨b, _, rfl⟩ := h2; simpa using h
    case sy => obtain ⟨b, c, _, rfl⟩ := h2; simpa using h
    case mp => obtain ⟨b, _, rfl⟩ := h2; simpa using h
    case sz =>
     obtain ⟨b, _, _, rfl⟩ := h2
     obtain ⟨a1, l1, c1, e1⟩ := Hs b _
     rw [e1]; simpa using h
    case yd => obtain ⟨b, _, rfl⟩ := h2; simpa using h
    case ifc => obtain ⟨b, _, rfl⟩ := h2; simpa using h
theorem JI {t : Sl} {d i : Nat} {v : AV} (h : i ≠ d) : (t.set d v).get i = t.get i := by
 unfold Sl.get Sl.set Sl.at
 simp only [Tr.get_set_ne 12 _ _ _ _ h]
theorem JP {t : Sl} {dst : Option Tmp} {v : AV} {x : Operand} (h : ∀ d, dst = some d -> x ≠ .tmp d) : evA (putA t dst v) x = evA t x := by
 cases dst with
 | none => rfl
 | some d =>
  cases x with
  | tmp i =>
   have hne : d ≠ i := fun e => h d rfl (by rw [e])
   exact JI (Ne.symm hne)
  | _ => rfl
section
variable {P : Program} {X : Rules P} {env : List Entry} {h0 : Heap}
theorem uQ {t t' : Sl} (l : List Operand) (h : ∀ x ∈ l, evA t x = evA t' x) : l.map (evA t) = l.map (evA t') := List.map_congr_left h
theorem Ao {t t' : Sl} {x : Option Operand} (h : ∀ y, x = some y -> evA t y = evA t' y) : opt t x = opt t' x := by
 cases x with
 | none => rfl
 | some y => simp only [opt, h y rfl]
theorem H4 {t t' : Sl} (op : Op) (h : ∀ x ∈ op.operands, evA t x = evA t' x) : valA P h0 t op = valA P h0 t' op := by
 cases op <;> simp only [Op.operands] at h <;> simp only [valA]
 case move x => rw [h x (by simp)]
 case assign x => rw [h x (by simp)]
 case pick c a b => rw [h c (by simp), h a (by simp), h b (by simp)]
 case load T x => rw [h x (by simp)]
 case build T ps =>
  have : (ps.toList.map fun (i, x) => (i, evA t x)) = (ps.toList.map fun (i, x) => (i, evA t' x)) := List.map_congr_left fun p hp => by
   obtain ⟨i, x⟩ := p
   simp only [h x (by simp; exact ⟨i, by simpa using hp⟩)]
  rw [this]
 case fieldAddr S x f => rw [h x (by simp)]
 case field S x f => rw [h x (by simp)]
 case indexAddr T x i => rw [h x (by simp), h i (by simp)]
 case index T x i => rw [h x (by simp), h i (by simp)]
 case extract x i => rw [h x (by simp)]
 case unOp op T x => rw [h x (by simp)]
 case binOp op T x y yt => rw [h x (by simp), h y (by simp)]
 case convert s d x => rw [h x (by simp)]
 case nilCheck x => rw [h x (by simp)]
 case sliceToArrayPointer T x => rw [h x (by simp)]
 case makeInterface T x => rw [h x (by simp)]
 case slice T x lo hi mx =>
  rw [h x (by simp), Ao (x := lo) (fun y e => h y (by simp [e])), Ao (x := hi) (fun y e => h y (by simp [e])), Ao (x := mx) (fun y e => h y (by simp [e]))]
 case makeFunc fn first captured =>
  cases fn <;> simp only []
  rw [uQ first.toList (fun x hx => h x (by simp; exact .inl (by simpa using hx))), uQ captured.toList (fun x hx => h x (by simp; exact .inr (by simpa using hx)))]
 case call c =>
  obtain ⟨callee, args, at'⟩ := c
  cases callee <;> simp only [Call.operands] at h ⊢
  rename_i b
  cases b <;> simp only []
  all_goals rw [uQ args.toList (fun x hx => h x (by simpa using hx))]
theorem H9 {t t' : Sl} {ora : Ora} (op : Op) (h : ∀ x ∈ op.operands, evA t x = evA t' x) : altA P X env ora h0 t op = altA P X env ora h0 t' op := by
 unfold altA
 rw [H4 op h, uQ op.operands.toList (fun x hx => h x (by simpa using hx))]
 cases op <;> simp only [Op.operands] at h <;> try rfl
 case call c =>
  obtain ⟨callee, args, at'⟩ := c
  cases callee <;> simp only [Call.operands] at h ⊢
  ·rename_i f
   rw [h f (by simp), uQ args.toList (fun x hx => h x (by simp; exact .inr (by simpa using hx)))]
  ·rename_i r m
   rw [h r (by simp), uQ args.toList (fun x hx => h x (by simp; exact .inr (by simpa using hx)))]
 case binOp op T x y yt =>
  have e1 := h x (by simp)
  have e2 := h y (by simp)
  cases op <;> first | rfl | simp only [e1, e2]
theorem GZ {t t' : Sl} {id : Nat} {ch : Ora} (op : Op) (h : ∀ x ∈ op.operands, evA t x = evA t' x) : stepQ P X env h0 t id ch op = stepQ P X env h0 t' id ch op := by
 have ha := H9 (P := P) (X := X) (env := env) (h0 := h0) (ora := ch) op h
 unfold stepQ
 cases op <;> simp only [Op.operands] at h <;> simp only [ha]
 case box T x => rw [h x (by simp)]
 case buildSlice T len ps =>
  have : (ps.toList.map fun (i, x) => (i, evA t x)) = (ps.toList.map fun (i, x) => (i, evA t' x)) := List.map_congr_left fun p hp => by
   obtain ⟨i, x⟩ := p
   simp only [h x (by simp; exact ⟨i, by simpa using hp⟩)]
  rw [this]
 case makeSlice T l c => rw [h l (by simp), h c (by simp)]
theorem Kn {ops : Array Oper} {t : Sl} {id : Nat} {ch : Ora} (o : Oper) {dst : Option Tmp} {v : AV} (h : ∀ d, dst = some d -> d ∉ o.looksAt ops) :
  stepQ P X env h0 (putA t dst v) id ch o.op = stepQ P X env h0 t id ch o.op :=
 GZ o.op fun x hx => JP fun d hd hxd => h d hd (by
  subst hxd
  exact List.mem_append_left _ (List.mem_filterMap.2 ⟨.tmp d, by simpa using hx, rfl⟩))
theorem xq {ops : Array Oper} {t : Sl} (o : Oper) {dst : Option Tmp} {v : AV} (h : ∀ d, dst = some d -> d ∉ o.looksAt ops) : ue ops (putA t dst v) o = ue ops t o := by
 cases dst with
 | none => rfl
 | some d =>
  unfold ue
  cases hg : o.guard with
  | none => rfl
  | some gw =>
   obtain ⟨j, want⟩ := gw
   simp only
   cases ht : (ops[j]?).bind (·.dst) with
   | none => rfl
   | some e =>
    have hne : d ≠ e := fun he => h d rfl (by subst he; simp [Oper.looksAt, hg, ht])
    simp only [putA]
    rw [JI (Ne.symm hne)]
theorem Av {t : Sl} {x y : Option Tmp} {u v : AV} (h : ∀ d, x = some d -> y ≠ some d) : putA (putA t x u) y v = putA (putA t y v) x u := by
 cases x with
 | none => rfl
 | some d =>
  cases y with
  | none => rfl
  | some e =>
   have hne : d ≠ e := fun he => h d rfl (by rw [he])
   simp only [putA]
   simp only [Sl.set, Sl.mk.injEq, true_and]
   exact Tr.set_comm 12 _ _ _ _ _ hne
theorem KZ {h : Heap} {i j : Nat} (hij : i ≠ j) (a b : Option Blk) : updH (updH h i a) j b = updH (updH h j b) i a := by
 cases a <;> cases b <;> simp only [updH]
 exact Heap.put_comm _ _ hij
variable {ops : Array Oper} {os : Nat -> Ora} {fr : Nat}
def good (P : Program) (X : Rules P) (env : List Entry) (h0 : Heap) (ops : Array Oper) (os : Nat -> Ora) (fr : Nat) (i : Nat) (o : Oper) (t : Sl) (r : AV) (nb : Option Blk) : Prop :=
 (ue ops t o = some true /\ ∃ c : Option Prop, stepQ P X env h0 t (fr + i) (os (fr + i)) o.op = some (c, r, nb) /\ c.getD True) ∨
 (ue ops t o = some false /\ r = .tp [] /\ nb = none)
theorem zY {i : Nat} {o : Oper} {t : Sl} {r : AV} {nb : Option Blk} {dst : Option Tmp} {v : AV} (h : ∀ d, dst = some d -> d ∉ o.looksAt ops) :
  good P X env h0 ops os fr i o (putA t dst v) r nb ↔ good P X env h0 ops os fr i o t r nb := by
 unfold good
 rw [xq o h, Kn o h]
theorem BQ {op : Op} (h : qS op = true) (h1 h2 : Heap) (t : Sl) (id : Nat) (ch : Ora) : stepQ P X env h1 t id ch op = stepQ P X env h2 t id ch op := by
 have e : ∀ hp, Mh op hp = .nil := fun hp => by unfold Mh; rw [h]
 cases op with
 | binOp op T x y => cases op <;> simp only [stepQ, altA, e] <;> rfl
 | unOp op T x => cases op <;> simp only [stepQ, altA, e] <;> rfl
 | makeFunc fn bs => cases fn <;> simp only [stepQ, altA, e] <;> rfl
 | _ => first | (simp [qS] at h; done) | (simp only [stepQ, altA, e]; rfl)
def tA (o : Oper) : Bool := match o.op with | .store .. => true | _ => false
def anc (md : Region.Mode) (ops : Array Oper) : Nat -> Nat -> Nat -> Bool
 | 0, _, _ => false
 | d + 1, j, i => match ops[j]? with
  | some o => o.after.any fun e => Region.binds md e && (Nat.beq e.on i || anc md ops d e.on i)
  | none => false
def DH (md : Region.Mode) (ops : Array Oper) : Bool :=
 (List.range ops.size).all fun j => match ops[j]? with
  | some oj => !tA oj || (List.range ops.size).all fun i => Nat.beq i j || (match ops[i]? with
   | some oi => qS oi.op || anc md ops 6 j i || (tA oi && anc md ops 6 i j)
   | none => true)
  | none => true
theorem y6 {md : Region.Mode} (h : DH md ops = true) {i j : Nat} {oi oj : Oper} (hj : ops[j]? = some oj) (hi : ops[i]? = some oi) (hne : i ≠ j) (hs : tA oj = true) :
  qS oi.op = true ∨ anc md ops 6 j i = true ∨ (tA oi = true /\ anc md ops 6 i j = true) := by
 unfold DH at h
 have h1 := List.all_eq_true.1 h j (List.mem_range.2 (Array.getElem?_eq_some_iff.1 hj).1)
 simp only [hj, hs, Bool.not_true, Bool.false_or] at h1
 have h2 := List.all_eq_true.1 h1 i (List.mem_range.2 (Array.getElem?_eq_some_iff.1 hi).1)
 have hb : Nat.beq i j = false := by
  cases hb : Nat.beq i j with
  | false => rfl
  | true => exact absurd (Nat.eq_of_beq_eq_true hb) hne
 simp only [hi, hb, Bool.false_or, Bool.or_eq_true, Bool.and_eq_true] at h2
 rcases h2 with (h2 | h2) | h2
 ·exact .inl h2
 ·exact .inr (.inl h2)
 ·exact .inr (.inr h2)
theorem wy {md : Region.Mode} {listed : Array Bool} (hcl : ∀ j oj, ops[j]? = some oj -> listed.getD j false = true -> ∀ e ∈ oj.after, Region.binds md e = true -> listed.getD e.on false = true) :
  ∀ (d j i : Nat), anc md ops d j i = true -> (∀ oj, ops[j]? = some oj -> ∀ e ∈ oj.after, Region.binds md e = true -> listed.getD e.on false = true) -> listed.getD i false = true
 | 0, j, i, h, _ => by simp [anc] at h
 | d + 1, j, i, h, hl => by
  unfold anc at h
  split at h
  ·rename_i o ho
   obtain ⟨e, he, hb⟩ := Array.any_eq_true'.1 h
   simp only [Bool.and_eq_true, Bool.or_eq_true] at hb
   have hle := hl o ho e he hb.1
   rcases hb.2 with h2 | h2
   ·rw [← Nat.eq_of_beq_eq_true h2]; exact hle
   ·exact wy hcl d e.on i h2 (fun ok hk => hcl e.on ok hk hle)
  ·cases h
def qOpA (P : Program) (X : Rules P) (env : List Entry) (h0 : Heap) (ops : Array Oper) (os : Nat -> Ora) (fr : Nat) (i : Nat) (o : Oper) (A A' : AA) : Prop :=
 (∃ r nb, good P X env h0 ops os fr i o A.t r nb /\ A' = A.app o (fr + i) r nb) ∨
 (ue ops A.t o = some true /\ ∃ T x y h', o.op = .store T x y /\ tj P A T x y = some h' /\ A' = ⟨putA A.t o.dst (.tp []), h', A.d⟩)
theorem CB {A : AA} {o : Oper} {T : TypeId} {x y : Operand} (ho : o.op = .store T x y) {dst : Option Tmp} {v : AV} (h : ∀ d, dst = some d -> d ∉ o.looksAt ops) (hp : Heap) (ds ds' : List Nat) :
  tj P ⟨putA A.t dst v, hp, ds⟩ T x y = tj P ⟨A.t, hp, ds'⟩ T x y := by
 have hx : ∀ z ∈ o.op.operands, evA (putA A.t dst v) z = evA A.t z := fun z hz => JP fun d hd hzd => h d hd (by
  subst hzd
  exact List.mem_append_left _ (List.mem_filterMap.2 ⟨.tmp d, by simpa using hz, rfl⟩))
 unfold tj
 simp only
 rw [hx x (by simp [ho, Op.operands]), hx y (by simp [ho, Op.operands])]
theorem Ic {A : AA} {T : TypeId} {x y : Operand} {h' : Heap} (hs : tj P A T x y = some h') {k : Nat} (hk : A.h.get k = none) (nb : Option Blk) :
  tj P ⟨A.t, updH A.h k nb, A.d⟩ T x y = some (updH h' k nb) := by
 obtain ⟨id, off, cs, i, bs, t, cs', h1, h2, h3, h4, h5, h6, h7, rfl⟩ := xo hs
 have hne : id ≠ k := fun e => by rw [e, hk] at h6; cases h6
 cases nb with
 | none => exact hs
 | some c =>
  have := KY (P := P) (A := ⟨A.t, A.h.put k c, A.d⟩) h1 h2 h3 h4 h5 (by simp only; rw [Heap.put_ne _ hne]; exact h6) h7
  simp only [updH]
  rw [this]
  simp only [Option.some.injEq]
  exact Heap.put_comm _ _ (Ne.symm hne)
theorem MR {i : Nat} {o : Oper} {t : Sl} {r : AV} {nb : Option Blk} (h : good P X env h0 ops os fr i o t r nb) (hh : qS o.op = true) : nb = none := by
 rcases h with ⟨_, c, hs, _⟩ | ⟨_, _, e⟩
 ·unfold stepQ at hs
  split at hs
  ·rename_i hop; rw [hop] at hh; simp [qS] at hh
  ·rename_i hop; rw [hop] at hh; simp [qS] at hh
  ·rename_i hop; rw [hop] at hh; simp [qS] at hh
  ·rename_i hop; rw [hop] at hh; simp [qS] at hh
  ·cases hs
  ·split at hs
   ·split at hs
    ·simp only [Option.some.injEq, Prod.mk.injEq] at hs; exact hs.2.2.symm
    ·cases hs
   ·cases hs
 ·exact e
theorem Ki {i j : Nat} {oi oj : Oper} {A Ai Aij : AA} (hij : i ≠ j) (hap : oi.apart ops oj = true)
  (hmem : (tA oi = false /\ tA oj = false) ∨ (tA oi = true /\ qS oj.op = true) ∨ (tA oj = true /\ qS oi.op = true)) (hfj : A.h.get (fr + j) = none)
  (h1 : qOpA P X env h0 ops os fr i oi A Ai) (h2 : qOpA P X env h0 ops os fr j oj Ai Aij) :
  ∃ Aj, qOpA P X env h0 ops os fr j oj A Aj /\ qOpA P X env h0 ops os fr i oi Aj Aij := by
 obtain ⟨s1, s2, s3⟩ := Oper.apart_spec hap
 rcases h1 with ⟨ri, ni, gi, rfl⟩ | ⟨wi, T, x, y, h', hop, hst, rfl⟩
 ·rcases h2 with ⟨rj, nj, gj, rfl⟩ | ⟨wj, T, x, y, h', hop, hst, rfl⟩
  ·refine ⟨A.app oj (fr + j) rj nj, .inl ⟨rj, nj, (zY s1).1 gj, rfl⟩, .inl ⟨ri, ni, (zY s3).2 gi, ?_⟩⟩
   simp only [AA.app, AA.mk.injEq]
   exact ⟨Av s2, KZ (by omega) _ _, trivial⟩
  ·-- the store second: the first is qS
   have hsj : tA oj = true := by simp [tA, hop]
   have hhi : qS oi.op = true := by
    rcases hmem with h | h | h
    ·rw [h.2] at hsj; cases hsj
    ·rw [hop] at h; simp [qS] at h
    ·exact h.2
   have hn := MR gi hhi
   subst hn
   simp only [AA.app] at wj hst
   rw [xq oj s1] at wj
   have hst' : tj P A T x y = some h' := by
    have := CB (P := P) (A := A) (ops := ops) hop (v := ri) s1 A.h A.d A.d
    rw [show updH A.h (fr + i) none = A.h from rfl] at hst
    rw [this] at hst
    exact hst
   refine ⟨⟨putA A.t oj.dst (.tp []), h', A.d⟩, .inr ⟨wj, T, x, y, h', hop, hst', rfl⟩, .inl ⟨ri, none, (zY s3).2 gi, ?_⟩⟩
   simp only [AA.app, AA.mk.injEq]
   exact ⟨Av s2, rfl, trivial⟩
 ·rcases h2 with ⟨rj, nj, gj, rfl⟩ | ⟨wj, T', x', y', h'', hop', hst', rfl⟩
  ·simp only at gj
   refine ⟨A.app oj (fr + j) rj nj, .inl ⟨rj, nj, (zY s1).1 gj, rfl⟩, .inr ⟨?_, T, x, y, updH h' (fr + j) nj, hop, ?_, ?_⟩⟩
   ·simp only [AA.app]; rw [xq oi s3]; exact wi
   ·simp only [AA.app]
    rw [CB (P := P) (A := A) (ops := ops) hop s3 _ _ A.d]
    exact Ic hst hfj nj
   ·simp only [AA.app, AA.mk.injEq]
    exact ⟨Av s2, trivial, trivial⟩
  ·exfalso
   have hsi : tA oi = true := by simp [tA, hop]
   have hsj : tA oj = true := by simp [tA, hop']
   rcases hmem with h | h | h
   ·rw [h.1] at hsi; cases hsi
   ·rw [hop'] at h; simp [qS] at h
   ·rw [hop] at h; simp [qS] at h
end
section
variable {P : Program} {X : Rules P} {env : List Entry} {h0 : Heap} {ops : Array Oper} {os : Nat -> Ora} {fr : Nat}
variable {md : Region.Mode} {n : Nat}
def Co (P : Program) (X : Rules P) (env : List Entry) (h0 : Heap) (md : Region.Mode) (ops : Array Oper) (os : Nat -> Ora) (fr n : Nat) (L : Array Bool -> AA -> Prop) : Nat -> Array Bool -> AA -> Prop
 | 0, listed, A => L listed A
 | f + 1, listed, A =>
  Region.ready md ops listed ≠ [] /\ ∀ i ∈ Region.ready md ops listed, i < n /\ ∃ o A', ops[i]? = some o /\ qOpA P X env h0 ops os fr i o A A' /\ Co P X env h0 md ops os fr n L f (listed.setIfInBounds i true) A'
theorem ER {i : Nat} {oi : Oper} {L : Array Bool -> AA -> Prop} (hmo : DH md ops = true) (hi : ops[i]? = some oi)
  (htw : ∀ (i : Nat) (listed : Array Bool), HeadInv md ops n listed -> i < n -> listed.getD i true = false -> ∀ t, n <= t -> t ∉ Region.ready md ops listed) (hin : i < n)
  (hdone : ∀ listed A, L listed A -> ∀ j ∈ Region.ready md ops listed, n <= j) :
  ∀ (f : Nat) (listed : Array Bool) (A Ai : AA), HeadInv md ops n listed -> (∀ j, listed.getD j true = false -> A.h.get (fr + j) = none) →
   (∀ j oj, ops[j]? = some oj -> j ≠ i -> listed.getD j true = false -> (∀ e ∈ oj.after, Region.binds md e = true -> e.on ≠ i) -> oi.apart ops oj = true) →
   i ∈ Region.ready md ops listed -> qOpA P X env h0 ops os fr i oi A Ai →
   Co P X env h0 md ops os fr n L f (listed.setIfInBounds i true) Ai -> Co P X env h0 md ops os fr n L (f + 1) listed A := by
 intro f
 induction f with
 | zero =>
  intro listed A Ai inv _ _ hr hy H
  have hun := (mem_ready.1 hr).1
  refine ⟨fun h => (by rw [h] at hr; cases hr), fun j hj => ?_⟩
  have hjn : j < n := by
   rcases Nat.lt_or_ge j n with h | h
   ·exact h
   ·exact absurd hj (htw i listed inv hin hun j h)
  refine ⟨hjn, ?_⟩
  by_cases hji : j = i
  ·subst hji; exact ⟨oi, Ai, hi, hy, H⟩
  ·have := hdone _ _ H j (ready_mono hj hji)
   omega
 | succ f ih =>
  intro listed A Ai inv hfree0 hfree hr hy H
  have hun := (mem_ready.1 hr).1
  refine ⟨fun h => (by rw [h] at hr; cases hr), fun j hj => ?_⟩
  have hjn : j < n := by
   rcases Nat.lt_or_ge j n with h | h
   ·exact h
   ·exact absurd hj (htw i listed inv hin hun j h)
  refine ⟨hjn, ?_⟩
  by_cases hji : j = i
  ·subst hji; exact ⟨oi, Ai, hi, hy, H⟩
  ·obtain ⟨oj', Aij, hoj', hq, hrest⟩ := (H.2 j (ready_mono hj hji)).2
   obtain ⟨hjun, oj, hoj, hall⟩ := mem_ready.1 hj
   have : oj' = oj := Option.some.inj (hoj'.symm.trans hoj)
   subst this
   have hnot : ∀ e ∈ oj'.after, Region.binds md e = true -> e.on ≠ i := fun e he hb heq => by
    have h1 := hall e he hb
    rw [heq, getD_both hun] at h1
    cases h1
   have hnot' : ∀ e ∈ oi.after, Region.binds md e = true -> listed.getD e.on false = true := by
    obtain ⟨_, oi', hoi', hall'⟩ := mem_ready.1 hr
    have : oi' = oi := Option.some.inj (hoi'.symm.trans hi)
    subst this
    exact hall'
   have nanc : anc md ops 6 j i = false := by
    cases ha : anc md ops 6 j i with
    | false => rfl
    | true =>
     have := wy inv.closed 6 j i ha (fun ok hk e he hb => by
      have : ok = oj' := Option.some.inj (hk.symm.trans hoj)
      subst this
      exact hall e he hb)
     rw [getD_both hun] at this
     cases this
   have nanc' : anc md ops 6 i j = false := by
    cases ha : anc md ops 6 i j with
    | false => rfl
    | true =>
     have := wy inv.closed 6 i j ha (fun ok hk e he hb => by
      have : ok = oi := Option.some.inj (hk.symm.trans hi)
      subst this
      exact hnot' e he hb)
     rw [getD_both hjun] at this
     cases this
   have hmem : (tA oi = false /\ tA oj' = false) ∨ (tA oi = true /\ qS oj'.op = true) ∨ (tA oj' = true /\ qS oi.op = true) := by
    cases hsi : tA oi with
    | true =>
     rcases y6 hmo hi hoj hji hsi with h | h | h
     ·exact .inr (.inl ⟨rfl, h⟩)
     ·rw [nanc'] at h; cases h
     ·rw [nanc] at h; cases h.2
    | false =>
     cases hsj : tA oj' with
     | false => exact .inl ⟨rfl, rfl⟩
     | true =>
      rcases y6 hmo hoj hi (Ne.symm hji) hsj with h | h | h
      ·exact .inr (.inr ⟨rfl, h⟩)
      ·rw [nanc] at h; cases h
      ·rw [nanc'] at h; cases h.2
   obtain ⟨Aj, g1, g2⟩ := Ki (Ne.symm hji) (hfree j oj' hoj hji hjun hnot) hmem (hfree0 j hjun) hy hq
   have hfreeJ : ∀ k, (listed.setIfInBounds j true).getD k true = false -> Aj.h.get (fr + k) = none := fun k hk => by
    have hkj : j ≠ k := by
     intro e
     subst e
     have hlt : j < listed.size := by rw [inv.size]; exact (Array.getElem?_eq_some_iff.1 hoj).1
     simp [hlt] at hk
    rw [getD_set_ne true hkj] at hk
    have hn := hfree0 k hk
    rcases g1 with ⟨r, nb, _, rfl⟩ | ⟨_, T, x, y, h', _, hst, rfl⟩
    ·cases nb with
     | none => exact hn
     | some blk =>
      show (A.h.put (fr + j) blk).get (fr + k) = none
      rw [Heap.put_ne _ (by omega)]; exact hn
    ·exact tO hst hn
   have hfree' : ∀ k ok, ops[k]? = some ok -> k ≠ i -> (listed.setIfInBounds j true).getD k true = false →
     (∀ e ∈ ok.after, Region.binds md e = true -> e.on ≠ i) -> oi.apart ops ok = true := fun k ok hk hki hun' hno => by
    refine hfree k ok hk hki ?_ hno
    by_cases hjk : j = k
    ·subst hjk; exact hjun
    ·rw [getD_set_ne true hjk] at hun'; exact hun'
   refine ⟨oj', Aj, hoj, g1, ih (listed.setIfInBounds j true) Aj Aij (inv.set hj hjn) hfreeJ hfree' (ready_mono hr (Ne.symm hji)) g2 ?_⟩
   rw [Array.setIfInBounds_comm _ _ hji]
   exact hrest
def QLex (P : Program) (X : Rules P) (env : List Entry) (h0 : Heap) (ops : Array Oper) (os : Nat -> Ora) (fr : Nat) : List Oper -> Nat -> AA -> AA -> Prop
 | [], _, A, A' => A' = A
 | o :: l, i, A, A' => ∃ A1, qOpA P X env h0 ops os fr i o A A1 /\ QLex P X env h0 ops os fr l (i + 1) A1 A'
theorem Dy {i : Nat} {o : Oper} {A A1 : AA} {listed : Array Bool} (hi : i < listed.size) (hq : qOpA P X env h0 ops os fr i o A A1) (hf : ∀ j, listed.getD j true = false -> A.h.get (fr + j) = none) :
  ∀ k, (listed.setIfInBounds i true).getD k true = false -> A1.h.get (fr + k) = none := fun k hk => by
 have hki : i ≠ k := by
  intro e
  subst e
  simp [hi] at hk
 rw [getD_set_ne true hki] at hk
 have hn := hf k hk
 rcases hq with ⟨r, nb, _, rfl⟩ | ⟨_, T, x, y, h', _, hst, rfl⟩
 ·cases nb with
  | none => exact hn
  | some blk =>
   show (A.h.put (fr + i) blk).get (fr + k) = none
   rw [Heap.put_ne _ (by omega)]; exact hn
 ·exact tO hst hn
theorem yW {g : Nat} {A' : AA} (hmo : DH md ops = true)
  (htw : ∀ (i : Nat) (listed : Array Bool), HeadInv md ops n listed -> i < n -> listed.getD i true = false -> ∀ t, n <= t -> t ∉ Region.ready md ops listed) :
  ∀ (l : List Oper) (k : Nat) (listed : Array Bool) (A : AA), (∀ j, j < l.length -> l[j]? = ops[k + j]?) -> k + l.length = n -> HeadInv md ops n listed -> (∀ j, listed.getD j true = false -> A.h.get (fr + j) = none) →
  Region.lexHead md ops g l.length k listed = true -> QLex P X env h0 ops os fr l k A A' →
  Co P X env h0 md ops os fr n (fun listed' A'' => Region.seqB md ops g n listed' = true /\ A'' = A') l.length listed A
 | [], k, listed, A, _, hk, _, _, hB, h => by
  have : k = n := by simpa using hk
  subst this
  exact ⟨by simpa [Region.lexHead] using hB, h.symm⟩
 | o :: l, k, listed, A, hl, hk, inv, hf0, hB, h => by
  have h0 : ops[k]? = some o := by simpa using (hl 0 (by simp)).symm
  simp only [List.length_cons, Region.lexHead, Bool.and_eq_true] at hB
  obtain ⟨⟨hr, hf⟩, hB'⟩ := hB
  have hkn : k < n := by simp only [List.length_cons] at hk; omega
  have hr' : k ∈ Region.ready md ops listed := by simpa using hr
  obtain ⟨A1, hq, hrest⟩ := h
  have hlt : k < listed.size := by rw [inv.size]; exact (Array.getElem?_eq_some_iff.1 h0).1
  exact ER hmo h0 htw hkn (fun listed' A'' hL => seqB_ready hL.1) l.length listed A A1 inv hf0 (Region.free_spec h0 hf) hr' hq
   (yW hmo htw l (k + 1) _ _ (fun j hj => by have := hl (j + 1) (by simp; omega); simpa [Nat.add_assoc, Nat.add_comm 1 j] using this) (by simp only [List.length_cons] at hk; omega) (inv.set hr' hkn) (Dy hlt hq hf0) hB' hrest)
end
end Go.Ev
