/- The evaluator: states that are written out, and how a state fits another. -/
import Derived.Test.YtoahfmgdlpgjoaaEvg
set_option linter.unusedSimpArgs false
set_option linter.unusedVariables false
namespace Go.Ev
open Go.RowKit

theorem trOf_mem {α : Type} : ∀ (l : List (Nat × α)) (i : Nat) (a : α), (trOf l).get i = some a → (i, a) ∈ l
  | [], i, a, h => by rw [trOf, Tr.get_nil] at h; cases h
  | (j, b) :: l, i, a, h => by
    simp only [trOf] at h
    by_cases hij : i = j
    · subst hij
      rw [Tr.get_set _ _ _ _ Nat.lt_log2_self] at h
      simp only [Option.some.injEq] at h; subst h
      simp
    · rw [Tr.get_set_ne _ _ _ _ _ hij] at h
      exact List.mem_cons_of_mem _ (trOf_mem l i a h)

def ren : List (Nat × Nat) → Nat → Nat
  | [], i => i
  | (a, b) :: l, i => match Nat.beq i a with | true => b | false => ren l i

def hasN : List (Nat × Blk) → Nat → Bool
  | [], _ => false
  | (a, _) :: l, i => match Nat.beq i a with | true => true | false => hasN l i

theorem beq_false_ne {a b : Nat} (h : Nat.beq a b = false) : a ≠ b := fun e => by subst e; simp at h

theorem hasN_get : ∀ {l : List (Nat × Blk)} {i : Nat}, hasN l i = true → ∃ b, (trOf l).get i = some b
  | (a, c) :: l, i, h => by
    unfold hasN at h
    simp only [trOf]
    split at h
    · rename_i hb
      have := Nat.eq_of_beq_eq_true hb
      subst this
      exact ⟨c, Tr.get_set _ _ _ _ Nat.lt_log2_self⟩
    · rename_i hb
      rw [Tr.get_set_ne _ _ _ _ _ (beq_false_ne hb)]
      exact hasN_get h
  | [], i, h => by simp [hasN] at h

theorem hasN_of_get : ∀ {l : List (Nat × Blk)} {i : Nat} {b : Blk}, (trOf l).get i = some b → hasN l i = true
  | [], i, b, h => by rw [trOf, Tr.get_nil] at h; cases h
  | (a, c) :: l, i, b, h => by
    unfold hasN
    split
    · rfl
    · rename_i hb
      simp only [trOf] at h
      rw [Tr.get_set_ne _ _ _ _ _ (beq_false_ne hb)] at h
      exact hasN_of_get h

section
variable (r : Nat → Nat) (hs : Nat → Bool)

/-- May a name stand for a name? -/
def nmB (id id' : Nat) : Bool := match Nat.beq id (r id') with | true => hs id' | false => false

def cFit : List Ch → List Ch → Prop
  | [], [] => True
  | .p id off :: l, .p id' off' :: l' => (nmB r hs id id' = true ∧ off = off') ∧ cFit l l'
  | .sl id off len cap :: l, .sl id' off' len' cap' :: l' => (nmB r hs id id' = true ∧ off = off' ∧ len = len' ∧ cap = cap') ∧ cFit l l'
  | .sx id len :: l, .sx id' len' :: l' => (nmB r hs id id' = true ∧ len = len') ∧ cFit l l'
  | .sz id len :: l, .sz id' len' :: l' => (nmB r hs id id' = true ∧ len = len') ∧ cFit l l'
  | c :: l, c' :: l' => (c.pure = true ∧ c'.pure = true ∧ c.cells noNames = c'.cells noNames) ∧ cFit l l'
  | _, _ => False

def chFit (a b : List Ch) : Prop := match pureC a, pureC b with | true, true => flat a = flat b | _, _ => cFit r hs a b

mutual
def avFit : AV → AV → Prop
  | _, .any => True
  | .v x, .v y => x = y
  | .u x, .u y => x % 18446744073709551616 = y % 18446744073709551616
  | .v x, .u y => x = u64 y
  | .u x, .v y => u64 x = y
  | .ag a, .ag b => chFit r hs a b
  | .p id off, .p id' off' => nmB r hs id id' = true ∧ off = off'
  | .sl id off len cap, .sl id' off' len' cap' => nmB r hs id id' = true ∧ off = off' ∧ len = len' ∧ cap = cap'
  | .sx id len, .sx id' len' => nmB r hs id id' = true ∧ len = len'
  | .sy id off len, .sy id' off' len' => nmB r hs id id' = true ∧ off = off' ∧ len = len'
  | .mp id, .mp id' => nmB r hs id id' = true
  | .sz id len, .sz id' len' => nmB r hs id id' = true ∧ len = len'
  | .yd id, .yd id' => nmB r hs id id' = true
  | .tp l, .tp l' => avsFit l l'
  | .clo f l m, .clo f' l' m' => f = f' ∧ avsFit l l' ∧ avsFit m m'
  | .ifc T a, .ifc T' b => T = T' ∧ avFit a b
  | _, _ => False
def avsFit : List AV → List AV → Prop
  | [], [] => True
  | a :: l, b :: l' => avFit a b ∧ avsFit l l'
  | _, _ => False
end

/-- Slots fit a list of slots. -/
def slFit (t : Sl) : List (Nat × AV) → Prop
  | [] => True
  | (i, v) :: l => avFit r hs (t.at i) v ∧ slFit t l

/-- Slots that are written out. -/
def Sl.listed : Sl → Option (List (Nat × AV)) := fun _ => none

/-- Do slots fit slots, number by number? -/
def rowFit (t t' : Sl) : Nat → Prop
  | 0 => True
  | n + 1 => avFit r hs (t.at n) (t'.at n) ∧ rowFit t t' n

def bFit : Blk → Blk → Prop
  | .own cs t, .own cs' t' => t = t' ∧ chFit r hs cs cs'
  | .ro cs, .ro cs' => chFit r hs cs cs'
  | .lp st pe t ps asg body D, .lp st' pe' t' ps' asg' body' D' => (st = st' ∧ pe = pe' ∧ ps = ps' ∧ asg = asg' ∧ body = body' ∧ nmB r hs D D' = true ∧ t.n = t'.n) ∧ rowFit r hs t t' t.n
  | .dfd, .dfd => True
  | .gr cs t e, .gr cs' t' e' => (t = t' ∧ e = e') ∧ chFit r hs cs cs'
  | .own _ _, .dead => True
  | .gr _ _ _, .dead => True
  | .ob o, .ob o' => o = o'
  | .ob _, .dead => True
  | .rz cs, .rz cs' => chFit r hs cs cs'
  | .dfd, .dead => True
  | .lp _ _ _ _ _ _ _, .dead => True
  | .dead, .dead => True
  | _, _ => False

def hpFit (h : Heap) : List (Nat × Blk) → Prop
  | [] => True
  | (i, b) :: l => (match h.get (r i) with | some b' => bFit r hs b' b | none => False) ∧ hpFit h l
end

/-- What is asked of the names: those below fb stay, and all of them are there; no two blocks become one. -/
def allBelow (h : Heap) (L : List (Nat × Blk)) : Nat → Bool
  | 0 => true
  | n + 1 => match h.get n with
    | some _ => (match hasN L n with | true => allBelow h L n | false => false)
    | none => allBelow h L n

def notIn (r : Nat → Nat) (x : Nat) : List (Nat × Blk) → Bool
  | [] => true
  | (i, _) :: l => match Nat.beq x (r i) with | true => false | false => notIn r x l
def allApart (r : Nat → Nat) : List (Nat × Blk) → Bool
  | [] => true
  | (i, _) :: l => match notIn r (r i) l with | true => allApart r l | false => false
def distinct : List (Nat × Blk) → Bool
  | [] => true
  | (i, _) :: l => match hasN l i with | true => false | false => distinct l

def renOK (fb : Nat) : List (Nat × Nat) → Bool
  | [] => true
  | (a, _) :: l => match Nat.ble fb a with | true => renOK fb l | false => false

def markFit (r : Nat → Nat) (hs : Nat → Bool) : List Nat → List Nat → Bool
  | [], [] => true
  | a :: l, b :: l' => match nmB r hs a b with | true => markFit r hs l l' | false => false
  | _, _ => false

def fitsB (fb : Nat) (A : AA) (L : LState) (τ : List (Nat × Nat)) : Bool :=
  Nat.beq A.t.n L.n && renOK fb τ && allBelow A.h L.hp fb && allApart (ren τ) L.hp && markFit (ren τ) (hasN L.hp) A.d L.d
def fitsP (A : AA) (L : LState) (τ : List (Nat × Nat)) : Prop := slFit (ren τ) (hasN L.hp) A.t L.sl ∧ hpFit (ren τ) (hasN L.hp) A.h L.hp

/-- The names behind a change of names. -/
def renN (ρ : Names) (L : List (Nat × Blk)) (r : Nat → Nat) : Names := fun i => match hasN L i with | true => ρ (r i) | false => none

section
variable {ρ : Names} {L : List (Nat × Blk)} {r : Nat → Nat}

theorem nmB_ok {id id' : Nat} (h : nmB r (hasN L) id id' = true) {v : NM} (hv : ρ id = some v) : renN ρ L r id' = some v := by
  unfold nmB at h
  split at h
  · rename_i hb
    have := Nat.eq_of_beq_eq_true hb
    subst this
    simp only [renN, h]
    exact hv
  · cases h

theorem cFit_ok : ∀ {a b : List Ch}, cFit r (hasN L) a b → DefC ρ a → DefC (renN ρ L r) b ∧ flatR (renN ρ L r) b = flatR ρ a
  | [], [], _, _ => ⟨trivial, rfl⟩
  | [], _ :: _, h, _ => by simp [cFit] at h
  | c :: l, [], h, _ => by cases c <;> simp [cFit] at h
  | c :: l, c' :: l', h, hd => by
    have key : ∀ (hc : c.pure = true ∧ c'.pure = true ∧ c.cells noNames = c'.cells noNames) (hr : cFit r (hasN L) l l'), DefC (renN ρ L r) (c' :: l') ∧ flatR (renN ρ L r) (c' :: l') = flatR ρ (c :: l) := by
      intro ⟨h1, h2, h3⟩ hr
      obtain ⟨e1, e2⟩ := cFit_ok hr hd.2
      exact ⟨⟨(Ch.pure_cells h2 _ noNames).2, e1⟩, by simp only [flatR, e2, (Ch.pure_cells h2 (renN ρ L r) noNames).1, (Ch.pure_cells h1 ρ noNames).1, h3]⟩
    cases c <;> cases c' <;> simp only [cFit] at h <;> (try exact key h.1 h.2)
    · obtain ⟨⟨h1, rfl⟩, h2⟩ := h
      obtain ⟨e1, e2⟩ := cFit_ok h2 hd.2
      obtain ⟨v, hv⟩ := hd.1
      have := nmB_ok h1 hv
      exact ⟨⟨⟨v, this⟩, e1⟩, by simp only [flatR, Ch.cells, Names.at, this, hv, e2]⟩
    · obtain ⟨⟨h1, rfl, rfl, rfl⟩, h2⟩ := h
      obtain ⟨e1, e2⟩ := cFit_ok h2 hd.2
      obtain ⟨v, hv⟩ := hd.1
      have := nmB_ok h1 hv
      exact ⟨⟨⟨v, this⟩, e1⟩, by simp only [flatR, Ch.cells, Names.at, this, hv, e2]⟩
    · obtain ⟨⟨h1, rfl⟩, h2⟩ := h
      obtain ⟨e1, e2⟩ := cFit_ok h2 hd.2
      obtain ⟨v, hv⟩ := hd.1
      have := nmB_ok h1 hv
      exact ⟨⟨⟨v, this⟩, e1⟩, by simp only [flatR, Ch.cells, Names.at, Names.room, this, hv, e2]⟩
    · obtain ⟨⟨h1, rfl⟩, h2⟩ := h
      obtain ⟨e1, e2⟩ := cFit_ok h2 hd.2
      obtain ⟨v, hv, hz⟩ := hd.1
      have := nmB_ok h1 hv
      exact ⟨⟨⟨v, this, hz⟩, e1⟩, by simp only [flatR, Ch.cells, Names.sz, this, hv, e2]⟩

theorem chFit_ok {a b : List Ch} (h : chFit r (hasN L) a b) (hd : DefC ρ a) : DefC (renN ρ L r) b ∧ flatR (renN ρ L r) b = flatR ρ a := by
  unfold chFit at h
  split at h
  · rename_i h1 h2
    obtain ⟨e1, e2⟩ := pureC_flat ρ h1
    obtain ⟨e3, e4⟩ := pureC_flat (renN ρ L r) h2
    exact ⟨e4, by rw [e3, e1, h]⟩
  · exact cFit_ok h hd

mutual
theorem avFit_ok : ∀ {a b : AV} {x : Value}, avFit r (hasN L) a b → Rep ρ a x → Rep (renN ρ L r) b x
  | a, .any, x, _, _ => trivial
  | .v y, .v z, x, h, hx => by simp only [avFit] at h; simp only [Rep] at hx ⊢; rw [hx, h]
  | .u y, .u z, x, h, hx => by simp only [avFit] at h; simp only [Rep, u64] at hx ⊢; rw [hx, h]
  | .v y, .u z, x, h, hx => by simp only [avFit] at h; simp only [Rep] at hx ⊢; rw [hx, h]
  | .u y, .v z, x, h, hx => by simp only [avFit] at h; simp only [Rep] at hx ⊢; rw [hx, h]
  | .ag a, .ag b, x, h, hx => by
    simp only [avFit] at h
    simp only [Rep] at hx ⊢
    obtain ⟨e1, e2⟩ := chFit_ok h hx.1
    exact ⟨e1, by rw [e2]; exact hx.2⟩
  | .p id off, .p id' off', x, h, hx => by
    simp only [avFit] at h
    obtain ⟨h1, rfl⟩ := h
    simp only [Rep] at hx ⊢
    obtain ⟨v, h2, h3⟩ := hx
    exact ⟨v, nmB_ok h1 h2, h3⟩
  | .sl id off len cap, .sl id' off' len' cap', x, h, hx => by
    simp only [avFit] at h
    obtain ⟨h1, rfl, rfl, rfl⟩ := h
    simp only [Rep] at hx ⊢
    obtain ⟨v, h2, h3⟩ := hx
    exact ⟨v, nmB_ok h1 h2, h3⟩
  | .yd id, .yd id', x, h, hx => by
    simp only [avFit] at h
    simp only [Rep] at hx ⊢
    obtain ⟨v, h2, h3⟩ := hx
    exact ⟨v, nmB_ok h h2, h3⟩
  | .sx id len, .sx id' len', x, h, hx => by
    simp only [avFit] at h
    obtain ⟨h1, rfl⟩ := h
    simp only [Rep] at hx ⊢
    obtain ⟨v, h2, h3⟩ := hx
    exact ⟨v, nmB_ok h1 h2, h3⟩
  | .sy id off len, .sy id' off' len', x, h, hx => by
    simp only [avFit] at h
    obtain ⟨h1, rfl, rfl⟩ := h
    simp only [Rep] at hx ⊢
    obtain ⟨v, c, h2, h3⟩ := hx
    exact ⟨v, c, nmB_ok h1 h2, h3⟩
  | .sz id len, .sz id' len', x, h, hx => by
    simp only [avFit] at h
    obtain ⟨h1, rfl⟩ := h
    simp only [Rep] at hx ⊢
    obtain ⟨v, h2, h3⟩ := hx
    exact ⟨v, nmB_ok h1 h2, h3⟩
  | .mp id, .mp id', x, h, hx => by
    simp only [avFit] at h
    simp only [Rep] at hx ⊢
    obtain ⟨v, h2, h3⟩ := hx
    exact ⟨v, nmB_ok h h2, h3⟩
  | .tp l, .tp l', x, h, hx => by
    simp only [avFit] at h
    simp only [Rep] at hx ⊢
    obtain ⟨xs, h1, h2⟩ := hx
    exact ⟨xs, avsFit_ok h h1, h2⟩
  | .clo f l m, .clo f' l' m', x, h, hx => by
    simp only [avFit] at h
    obtain ⟨rfl, h1, h2⟩ := h
    simp only [Rep] at hx ⊢
    obtain ⟨xs, ys, h3, h4, h5⟩ := hx
    exact ⟨xs, ys, avsFit_ok h1 h3, avsFit_ok h2 h4, h5⟩
  | .ifc T a, .ifc T' b, x, h, hx => by
    simp only [avFit] at h
    obtain ⟨rfl, h1⟩ := h
    simp only [Rep] at hx ⊢
    obtain ⟨y, h2, h3⟩ := hx
    exact ⟨y, avFit_ok h1 h2, h3⟩
  | .any, .sz _ _, _, h, _ | .v _, .sz _ _, _, h, _ | .u _, .sz _ _, _, h, _ | .ag _, .sz _ _, _, h, _ | .tp _, .sz _ _, _, h, _ | .clo _ _ _, .sz _ _, _, h, _ | .p _ _, .sz _ _, _, h, _ | .sl _ _ _ _, .sz _ _, _, h, _ | .yd _, .sz _ _, _, h, _ | .ifc _ _, .sz _ _, _, h, _ | .sx _ _, .sz _ _, _, h, _ | .sy _ _ _, .sz _ _, _, h, _ | .mp _, .sz _ _, _, h, _ => by simp [avFit] at h
  | .sz _ _, .v _, _, h, _ | .sz _ _, .u _, _, h, _ | .sz _ _, .ag _, _, h, _ | .sz _ _, .tp _, _, h, _ | .sz _ _, .clo _ _ _, _, h, _ | .sz _ _, .p _ _, _, h, _ | .sz _ _, .sl _ _ _ _, _, h, _ | .sz _ _, .yd _, _, h, _ | .sz _ _, .ifc _ _, _, h, _ | .sz _ _, .sx _ _, _, h, _ | .sz _ _, .sy _ _ _, _, h, _ | .sz _ _, .mp _, _, h, _ => by simp [avFit] at h
  | .any, .mp _, _, h, _ | .v _, .mp _, _, h, _ | .u _, .mp _, _, h, _ | .ag _, .mp _, _, h, _ | .tp _, .mp _, _, h, _ | .clo _ _ _, .mp _, _, h, _ | .p _ _, .mp _, _, h, _ | .sl _ _ _ _, .mp _, _, h, _ | .yd _, .mp _, _, h, _ | .ifc _ _, .mp _, _, h, _ | .sx _ _, .mp _, _, h, _ | .sy _ _ _, .mp _, _, h, _ => by simp [avFit] at h
  | .mp _, .v _, _, h, _ | .mp _, .u _, _, h, _ | .mp _, .ag _, _, h, _ | .mp _, .tp _, _, h, _ | .mp _, .clo _ _ _, _, h, _ | .mp _, .p _ _, _, h, _ | .mp _, .sl _ _ _ _, _, h, _ | .mp _, .yd _, _, h, _ | .mp _, .ifc _ _, _, h, _ | .mp _, .sx _ _, _, h, _ | .mp _, .sy _ _ _, _, h, _ => by simp [avFit] at h
  | .any, .sy _ _ _, _, h, _ | .v _, .sy _ _ _, _, h, _ | .u _, .sy _ _ _, _, h, _ | .ag _, .sy _ _ _, _, h, _ | .tp _, .sy _ _ _, _, h, _ | .clo _ _ _, .sy _ _ _, _, h, _ | .p _ _, .sy _ _ _, _, h, _ | .sl _ _ _ _, .sy _ _ _, _, h, _ | .yd _, .sy _ _ _, _, h, _ | .ifc _ _, .sy _ _ _, _, h, _ | .sx _ _, .sy _ _ _, _, h, _ => by simp [avFit] at h
  | .sy _ _ _, .v _, _, h, _ | .sy _ _ _, .u _, _, h, _ | .sy _ _ _, .ag _, _, h, _ | .sy _ _ _, .tp _, _, h, _ | .sy _ _ _, .clo _ _ _, _, h, _ | .sy _ _ _, .p _ _, _, h, _ | .sy _ _ _, .sl _ _ _ _, _, h, _ | .sy _ _ _, .yd _, _, h, _ | .sy _ _ _, .ifc _ _, _, h, _ | .sy _ _ _, .sx _ _, _, h, _ => by simp [avFit] at h
  | .any, .sx _ _, _, h, _ | .v _, .sx _ _, _, h, _ | .u _, .sx _ _, _, h, _ | .ag _, .sx _ _, _, h, _ | .tp _, .sx _ _, _, h, _ | .clo _ _ _, .sx _ _, _, h, _ | .p _ _, .sx _ _, _, h, _ | .sl _ _ _ _, .sx _ _, _, h, _ | .yd _, .sx _ _, _, h, _ | .ifc _ _, .sx _ _, _, h, _ => by simp [avFit] at h
  | .sx _ _, .v _, _, h, _ | .sx _ _, .u _, _, h, _ | .sx _ _, .ag _, _, h, _ | .sx _ _, .tp _, _, h, _ | .sx _ _, .clo _ _ _, _, h, _ | .sx _ _, .p _ _, _, h, _ | .sx _ _, .sl _ _ _ _, _, h, _ | .sx _ _, .yd _, _, h, _ | .sx _ _, .ifc _ _, _, h, _ => by simp [avFit] at h
  | .any, .ifc _ _, _, h, _ | .v _, .ifc _ _, _, h, _ | .u _, .ifc _ _, _, h, _ | .ag _, .ifc _ _, _, h, _ | .tp _, .ifc _ _, _, h, _ | .clo _ _ _, .ifc _ _, _, h, _ | .p _ _, .ifc _ _, _, h, _ | .sl _ _ _ _, .ifc _ _, _, h, _ | .yd _, .ifc _ _, _, h, _ => by simp [avFit] at h
  | .ifc _ _, .v _, _, h, _ | .ifc _ _, .u _, _, h, _ | .ifc _ _, .ag _, _, h, _ | .ifc _ _, .tp _, _, h, _ | .ifc _ _, .clo _ _ _, _, h, _ | .ifc _ _, .p _ _, _, h, _ | .ifc _ _, .sl _ _ _ _, _, h, _ | .ifc _ _, .yd _, _, h, _ => by simp [avFit] at h
  | .any, .v _, _, h, _ | .any, .u _, _, h, _ | .any, .ag _, _, h, _ | .any, .tp _, _, h, _ | .any, .clo _ _ _, _, h, _ | .any, .p _ _, _, h, _ | .any, .sl _ _ _ _, _, h, _ | .any, .yd _, _, h, _ => by simp [avFit] at h
  | .v _, .ag _, _, h, _ | .v _, .tp _, _, h, _ | .v _, .clo _ _ _, _, h, _ | .v _, .p _ _, _, h, _ | .v _, .sl _ _ _ _, _, h, _ | .v _, .yd _, _, h, _ => by simp [avFit] at h
  | .u _, .ag _, _, h, _ | .u _, .tp _, _, h, _ | .u _, .clo _ _ _, _, h, _ | .u _, .p _ _, _, h, _ | .u _, .sl _ _ _ _, _, h, _ | .u _, .yd _, _, h, _ => by simp [avFit] at h
  | .ag _, .v _, _, h, _ | .ag _, .u _, _, h, _ | .ag _, .tp _, _, h, _ | .ag _, .clo _ _ _, _, h, _ | .ag _, .p _ _, _, h, _ | .ag _, .sl _ _ _ _, _, h, _ | .ag _, .yd _, _, h, _ => by simp [avFit] at h
  | .tp _, .v _, _, h, _ | .tp _, .u _, _, h, _ | .tp _, .ag _, _, h, _ | .tp _, .clo _ _ _, _, h, _ | .tp _, .p _ _, _, h, _ | .tp _, .sl _ _ _ _, _, h, _ | .tp _, .yd _, _, h, _ => by simp [avFit] at h
  | .clo _ _ _, .v _, _, h, _ | .clo _ _ _, .u _, _, h, _ | .clo _ _ _, .ag _, _, h, _ | .clo _ _ _, .tp _, _, h, _ | .clo _ _ _, .p _ _, _, h, _ | .clo _ _ _, .sl _ _ _ _, _, h, _ | .clo _ _ _, .yd _, _, h, _ => by simp [avFit] at h
  | .p _ _, .v _, _, h, _ | .p _ _, .u _, _, h, _ | .p _ _, .ag _, _, h, _ | .p _ _, .tp _, _, h, _ | .p _ _, .clo _ _ _, _, h, _ | .p _ _, .sl _ _ _ _, _, h, _ | .p _ _, .yd _, _, h, _ => by simp [avFit] at h
  | .sl _ _ _ _, .v _, _, h, _ | .sl _ _ _ _, .u _, _, h, _ | .sl _ _ _ _, .ag _, _, h, _ | .sl _ _ _ _, .tp _, _, h, _ | .sl _ _ _ _, .clo _ _ _, _, h, _ | .sl _ _ _ _, .p _ _, _, h, _ | .sl _ _ _ _, .yd _, _, h, _ => by simp [avFit] at h
  | .yd _, .v _, _, h, _ | .yd _, .u _, _, h, _ | .yd _, .ag _, _, h, _ | .yd _, .tp _, _, h, _ | .yd _, .clo _ _ _, _, h, _ | .yd _, .p _ _, _, h, _ | .yd _, .sl _ _ _ _, _, h, _ => by simp [avFit] at h
theorem avsFit_ok : ∀ {a b : List AV} {x : List Value}, avsFit r (hasN L) a b → Reps ρ a x → Reps (renN ρ L r) b x
  | [], [], x, _, hx => by simpa only [Reps] using hx
  | a :: l, b :: l', x, h, hx => by
    simp only [avsFit] at h
    simp only [Reps] at hx ⊢
    obtain ⟨y, s, h1, h2, h3⟩ := hx
    exact ⟨y, s, h1, avFit_ok h.1 h2, avsFit_ok h.2 h3⟩
  | [], _ :: _, _, h, _ => by simp [avsFit] at h
  | _ :: _, [], _, h, _ => by simp [avsFit] at h
end

theorem slFit_mem {t : Sl} : ∀ {l : List (Nat × AV)}, slFit r (hasN L) t l → ∀ i v, (i, v) ∈ l → avFit r (hasN L) (t.at i) v
  | [], _, i, v, h => by cases h
  | (j, u) :: l, hf, i, v, h => by
    simp only [List.mem_cons, Prod.mk.injEq] at h
    rcases h with ⟨rfl, rfl⟩ | h
    · exact hf.1
    · exact slFit_mem hf.2 i v h

theorem rowFit_at {t t' : Sl} : ∀ {n : Nat}, rowFit r (hasN L) t t' n → ∀ i, i < n → avFit r (hasN L) (t.at i) (t'.at i)
  | 0, _, i, h => by omega
  | n + 1, hf, i, h => by
    by_cases e : i = n
    · subst e; exact hf.1
    · exact rowFit_at hf.2 i (by omega)

theorem hpFit_mem {h : Heap} : ∀ {l : List (Nat × Blk)}, hpFit r (hasN L) h l → ∀ i b, (i, b) ∈ l → ∃ b', h.get (r i) = some b' ∧ bFit r (hasN L) b' b
  | [], _, i, b, h => by cases h
  | (j, u) :: l, hf, i, b, h => by
    simp only [List.mem_cons, Prod.mk.injEq] at h
    rcases h with ⟨rfl, rfl⟩ | h
    · have := hf.1
      split at this
      · rename_i b' hb; exact ⟨b', hb, this⟩
      · exact this.elim
    · exact hpFit_mem hf.2 i b h

theorem bFit_ok {B : Nat} {w : World} {v : NM} {a b : Blk} (h : bFit r (hasN L) a b) (hb : BAt B ρ w v a) : BAt B (renN ρ L r) w v b := by
  cases a <;> cases b <;> simp only [bFit] at h
  · obtain ⟨rfl, h⟩ := h
    obtain ⟨h1, h2, h3, h4⟩ := hb
    obtain ⟨e1, e2⟩ := chFit_ok h h3
    exact ⟨h1, h2, e1, by rw [e2]; exact h4⟩
  · exact hb.2.1
  · obtain ⟨h1, h3, h4⟩ := hb
    obtain ⟨e1, e2⟩ := chFit_ok h h3
    exact ⟨h1, e1, by rw [e2]; exact h4⟩
  · rename_i st pe t ps asg body D st' pe' t' ps' asg' body' D'
    obtain ⟨⟨rfl, rfl, rfl, rfl, rfl, hD, hn⟩, hr⟩ := h
    obtain ⟨h1, h2, fn, tmps, d, h3, h4, h5⟩ := hb
    refine ⟨h1, h2, fn, tmps, d, ⟨by rw [← hn]; exact h3.len, by rw [← hn]; exact h3.cap, fun i x hx => ?_⟩, nmB_ok hD h4, h5⟩
    have hlt : i < t.n := by rw [h3.len]; exact (Array.getElem?_eq_some_iff.1 hx).1
    exact avFit_ok (rowFit_at hr i hlt) (h3.at_ i x hx)
  · exact hb.2.1
  · exact hb
  · exact hb.2.1
  · exact hb
  · exact hb.2.1
  · obtain ⟨⟨rfl, rfl⟩, h⟩ := h
    obtain ⟨h1, h2, h3, rest, fz, h4, h5⟩ := hb
    obtain ⟨e1, e2⟩ := chFit_ok h h3
    exact ⟨h1, h2, e1, rest, fz, by rw [e2]; exact h4, by rw [e2]; exact h5⟩
  · exact hb.2.1
  · subst h; exact hb
  · obtain ⟨h1, h3, h4, h5⟩ := hb
    obtain ⟨e1, e2⟩ := chFit_ok h h3
    exact ⟨h1, e1, by rw [e2]; exact h4, by rw [e2]; exact h5⟩

theorem bFit_live {a b : Blk} (h : bFit r (hasN L) a b) (hl : b.live = true) : a.live = true := by
  cases a <;> cases b <;> first | rfl | (simp [Blk.live] at hl; done) | (simp [bFit] at h; done)

theorem markFit_ok : ∀ {a b : List Nat} {ds : List Deferred}, markFit r (hasN L) a b = true → DefersR ρ a ds → DefersR (renN ρ L r) b ds
  | [], [], ds, _, h => h
  | i :: l, j :: l', ds, hm, h => by
    unfold markFit at hm
    split at hm
    · rename_i hn
      obtain ⟨b, s, h1, h2, h3⟩ := h
      exact ⟨b, s, nmB_ok hn h1, h2, markFit_ok hm h3⟩
    · cases hm
  | [], _ :: _, _, hm, _ => by simp [markFit] at hm
  | _ :: _, [], _, hm, _ => by simp [markFit] at hm
end

theorem allBelow_ok {h : Heap} {L : List (Nat × Blk)} : ∀ {n : Nat}, allBelow h L n = true → ∀ i, i < n → ∀ b, h.get i = some b → hasN L i = true
  | 0, _, i, hi, _, _ => by omega
  | n + 1, ha, i, hi, b, hb => by
    unfold allBelow at ha
    by_cases e : i = n
    · subst e
      rw [hb] at ha
      simp only at ha
      split at ha
      · assumption
      · cases ha
    · split at ha
      · split at ha
        · exact allBelow_ok ha i (by omega) b hb
        · cases ha
      · exact allBelow_ok ha i (by omega) b hb

theorem notIn_ok {r : Nat → Nat} {x : Nat} : ∀ {l : List (Nat × Blk)}, notIn r x l = true → ∀ i, hasN l i = true → x ≠ r i
  | [], _, i, h => by simp [hasN] at h
  | (j, b) :: l, hn, i, h => by
    unfold notIn at hn
    split at hn
    · cases hn
    · rename_i hb
      unfold hasN at h
      split at h
      · rename_i he
        have := Nat.eq_of_beq_eq_true he
        subst this
        exact beq_false_ne hb
      · exact notIn_ok hn i h

theorem allApart_ok {r : Nat → Nat} : ∀ {l : List (Nat × Blk)}, allApart r l = true → ∀ i j, hasN l i = true → hasN l j = true → r i = r j → i = j
  | [], _, i, j, h, _, _ => by simp [hasN] at h
  | (k, b) :: l, ha, i, j, hi, hj, hr => by
    unfold allApart at ha
    split at ha
    · rename_i hn
      by_cases e1 : i = k
      · subst e1
        by_cases e2 : j = i
        · exact e2.symm
        · have : hasN l j = true := by
            unfold hasN at hj
            split at hj
            · rename_i he; exact absurd (Nat.eq_of_beq_eq_true he) e2
            · exact hj
          exact absurd hr (notIn_ok hn j this)
      · have hi' : hasN l i = true := by
          unfold hasN at hi
          split at hi
          · rename_i he; exact absurd (Nat.eq_of_beq_eq_true he) e1
          · exact hi
        by_cases e2 : j = k
        · subst e2
          exact absurd hr.symm (notIn_ok hn i hi')
        · have hj' : hasN l j = true := by
            unfold hasN at hj
            split at hj
            · rename_i he; exact absurd (Nat.eq_of_beq_eq_true he) e2
            · exact hj
          exact allApart_ok ha i j hi' hj' hr
    · cases ha

theorem renOK_ok {fb : Nat} : ∀ {τ : List (Nat × Nat)}, renOK fb τ = true → ∀ i, i < fb → ren τ i = i
  | [], _, i, _ => rfl
  | (a, b) :: l, h, i, hi => by
    unfold renOK at h
    split at h
    · rename_i hb
      have := Nat.le_of_ble_eq_true hb
      unfold ren
      split
      · rename_i he
        have := Nat.eq_of_beq_eq_true he
        omega
      · exact renOK_ok h i hi
    · cases h

/-- A state that fits stands for the other. -/
theorem fits_rel {fb : Nat} {A : AA} {L : LState} {τ : List (Nat × Nat)} (hb : fitsB fb A L τ = true) (hp : fitsP A L τ) {w0 : World} {ρ : Names} {a : Act} {w : World} (hR : Rel w0 ρ A a w) :
    ∃ ρ', ρ.leB fb ρ' ∧ Rel w0 ρ' L.aa a w := by
  unfold fitsB at hb
  simp only [Bool.and_eq_true] at hb
  obtain ⟨⟨⟨⟨b1, b2⟩, b3⟩, b4⟩, b5⟩ := hb
  have b1 := Nat.eq_of_beq_eq_true b1
  obtain ⟨p1, p2⟩ := hp
  refine ⟨renN ρ L.hp (ren τ), fun i v hi hv => ?_, ⟨⟨by show L.n = _; rw [← b1]; exact hR.slots.len, by show L.n < _; rw [← b1]; exact hR.slots.cap, fun i x hx => ?_⟩, markFit_ok b5 hR.defers, hR.below, ?_⟩⟩
  · have hne : A.h.get i ≠ none := fun e => by rw [hR.heap.none_ i e] at hv; cases hv
    obtain ⟨b, hb⟩ := Option.ne_none_iff_exists'.1 hne
    have := allBelow_ok b3 i hi b hb
    simp only [renN, this, renOK_ok b2 i hi]
    exact hv
  · have h0 := hR.slots.at_ i x hx
    show Rep _ (match (trOf L.sl).get i with | some a => a | none => AV.any) x
    cases hg : (trOf L.sl).get i with
    | none => trivial
    | some v => exact avFit_ok (slFit_mem p1 i v (trOf_mem _ _ _ hg)) h0
  · refine ⟨⟨fun id blk hi => ?_, fun i v hv => ?_, hR.heap.size⟩, fun i j u v bi bj gi gj li lj hu hv huv hB => ?_, fun i hi => ?_⟩
    · obtain ⟨b', h1, h2⟩ := hpFit_mem p2 id blk (trOf_mem _ _ _ hi)
      obtain ⟨v, h3, h4⟩ := hR.heap.at_ _ _ h1
      refine ⟨v, ?_, bFit_ok h2 h4⟩
      simp only [renN, hasN_of_get hi]
      exact h3
    · simp only [renN] at hv
      split at hv
      · exact hR.heap.lt _ _ hv
      · cases hv
    · simp only [renN] at hu hv
      split at hu
      · rename_i h1
        split at hv
        · rename_i h2
          obtain ⟨ci, e1, e2⟩ := hpFit_mem p2 i bi (trOf_mem _ _ _ gi)
          obtain ⟨cj, e3, e4⟩ := hpFit_mem p2 j bj (trOf_mem _ _ _ gj)
          exact allApart_ok b4 i j h1 h2 (hR.heap.inj _ _ u v ci cj e1 e3 (bFit_live e2 li) (bFit_live e4 lj) hu hv huv hB)
        · cases hv
      · cases hu
    · simp only [renN]
      cases hh : hasN L.hp i with
      | false => rfl
      | true =>
        obtain ⟨b, hb⟩ := hasN_get hh
        have hi' : (trOf L.hp).get i = none := hi
        rw [hb] at hi'; cases hi'

/-- Are all names of a state below this one? -/
def allLt (k : Nat) : List (Nat × Blk) → Bool
  | [] => true
  | (i, _) :: l => match Nat.blt i k with | true => allLt k l | false => false

theorem allLt_fresh {k : Nat} : ∀ {l : List (Nat × Blk)}, allLt k l = true → ∀ j, k ≤ j → (trOf l).get j = none
  | [], _, j, _ => by rw [trOf, Tr.get_nil]
  | (i, b) :: l, h, j, hj => by
    unfold allLt at h
    split at h
    · rename_i hb
      have hlt : i < k := by simpa [Nat.blt_eq] using hb
      simp only [trOf]
      rw [Tr.get_set_ne _ _ _ _ _ (by omega)]
      exact allLt_fresh h j hj
    · cases h

/-! ### Some slots and blocks are kept -/
def nmC (hs : Nat → Bool) : List Ch → Bool
  | [] => true
  | .p id _ :: l => match hs id with | true => nmC hs l | false => false
  | .sl id _ _ _ :: l => match hs id with | true => nmC hs l | false => false
  | .sx id _ :: l => match hs id with | true => nmC hs l | false => false
  | .sz id _ :: l => match hs id with | true => nmC hs l | false => false
  | _ :: l => nmC hs l
mutual
/-- Are all names of a value kept? -/
def nmV (hs : Nat → Bool) : AV → Bool
  | .ag cs => nmC hs cs
  | .p id _ => hs id
  | .sl id _ _ _ => hs id
  | .sx id _ => hs id
  | .sy id _ _ => hs id
  | .mp id => hs id
  | .sz id _ => hs id
  | .yd id => hs id
  | .tp l => nmVs hs l
  | .clo _ l m => match nmVs hs l with | true => nmVs hs m | false => false
  | .ifc _ a => nmV hs a
  | _ => true
def nmVs (hs : Nat → Bool) : List AV → Bool
  | [] => true
  | a :: l => match nmV hs a with | true => nmVs hs l | false => false
end
def nmRow (hs : Nat → Bool) (t : Sl) : Nat → Bool
  | 0 => true
  | n + 1 => match nmV hs (t.at n) with | true => nmRow hs t n | false => false
def nmBk (hs : Nat → Bool) : Blk → Bool
  | .own cs _ => nmC hs cs
  | .ro cs => nmC hs cs
  | .gr cs _ _ => nmC hs cs
  | .rz cs => nmC hs cs
  | .lp _ _ t _ _ _ D => match hs D with | true => nmRow hs t t.n | false => false
  | _ => true
def nmSl (hs : Nat → Bool) : List (Nat × AV) → Bool
  | [] => true
  | (_, v) :: l => match nmV hs v with | true => nmSl hs l | false => false
def nmHp (hs : Nat → Bool) : List (Nat × Blk) → Bool
  | [] => true
  | (_, b) :: l => match nmBk hs b with | true => nmHp hs l | false => false
def nmL (L : LState) : Bool := match nmSl (hasN L.hp) L.sl with | true => nmHp (hasN L.hp) L.hp | false => false

def keepS (t : Sl) : List Nat → List (Nat × AV)
  | [] => []
  | i :: l => (i, t.at i) :: keepS t l
def lookK : List (Nat × List Nat) → Nat → Option (List Nat)
  | [], _ => none
  | (j, ks) :: l, i => match Nat.beq i j with | true => some ks | false => lookK l i
/-- A loop's record keeps some slots alone. -/
def keepB (lk : List (Nat × List Nat)) (i : Nat) : Blk → Blk
  | .lp st pe t ps asg body D => match lookK lk i with
    | some ks => .lp st pe ⟨t.n, .any, trOf (keepS t ks)⟩ ps asg body D
    | none => .lp st pe t ps asg body D
  | b => b
def keepH (h : Heap) (lk : List (Nat × List Nat)) : List Nat → Option (List (Nat × Blk))
  | [] => some []
  | i :: l => match h.get i, keepH h lk l with | some b, some r => some ((i, keepB lk i b) :: r) | _, _ => none
def keysS : List (Nat × AV) → List Nat
  | [] => []
  | (i, _) :: l => i :: keysS l
def keysH : List (Nat × Blk) → List Nat
  | [] => []
  | (i, _) :: l => i :: keysH l
/-- A state, cut down to some slots and blocks. -/
def restr (A : AA) (sk hk : List Nat) (lk : List (Nat × List Nat)) : Option LState := match keepH A.h lk hk with | some hp => some ⟨A.t.n, keepS A.t sk, hp, A.d⟩ | none => none

section
variable {hs : Nat → Bool}
theorem nmB_self {id : Nat} (h : hs id = true) : nmB (ren []) hs id id = true := by
  unfold nmB
  simp only [ren, Nat.beq_refl, h]

theorem cFit_self : ∀ {l : List Ch}, nmC hs l = true → cFit (ren []) hs l l
  | [], _ => trivial
  | c :: l, h => by
    cases c
    case p id off =>
      simp only [nmC] at h
      split at h
      · rename_i hb
        simp only [cFit]
        exact ⟨⟨nmB_self hb, trivial⟩, cFit_self h⟩
      · cases h
    case sl id off len cap =>
      simp only [nmC] at h
      split at h
      · rename_i hb
        simp only [cFit]
        exact ⟨⟨nmB_self hb, trivial, trivial, trivial⟩, cFit_self h⟩
      · cases h
    case sx id len =>
      simp only [nmC] at h
      split at h
      · rename_i hb
        simp only [cFit]
        exact ⟨⟨nmB_self hb, trivial⟩, cFit_self h⟩
      · cases h
    case sz id len =>
      simp only [nmC] at h
      split at h
      · rename_i hb
        simp only [cFit]
        exact ⟨⟨nmB_self hb, trivial⟩, cFit_self h⟩
      · cases h
    all_goals
      simp only [nmC] at h
      simp only [cFit]
      exact ⟨⟨rfl, rfl, trivial⟩, cFit_self h⟩

theorem chFit_self {l : List Ch} (h : nmC hs l = true) : chFit (ren []) hs l l := by
  unfold chFit
  split
  · rfl
  · exact cFit_self h

mutual
theorem avFit_self : ∀ {a : AV}, nmV hs a = true → avFit (ren []) hs a a
  | .any, _ => by simp only [avFit]
  | .v _, _ => by simp only [avFit]
  | .u _, _ => by simp only [avFit]
  | .ag cs, h => by simp only [avFit]; simp only [nmV] at h; exact chFit_self h
  | .p id off, h => by simp only [avFit]; simp only [nmV] at h; exact ⟨nmB_self h, trivial⟩
  | .sl id off len cap, h => by simp only [avFit]; simp only [nmV] at h; exact ⟨nmB_self h, trivial, trivial, trivial⟩
  | .sx id len, h => by simp only [avFit]; simp only [nmV] at h; exact ⟨nmB_self h, trivial⟩
  | .sy id off len, h => by simp only [avFit]; simp only [nmV] at h; exact ⟨nmB_self h, trivial, trivial⟩
  | .mp id, h => by simp only [avFit]; simp only [nmV] at h; exact nmB_self h
  | .sz id len, h => by simp only [avFit]; simp only [nmV] at h; exact ⟨nmB_self h, trivial⟩
  | .yd id, h => by simp only [avFit]; simp only [nmV] at h; exact nmB_self h
  | .tp l, h => by simp only [avFit]; simp only [nmV] at h; exact avsFit_self h
  | .clo f l m, h => by
    simp only [avFit]
    simp only [nmV] at h
    split at h
    · rename_i hb; exact ⟨trivial, avsFit_self hb, avsFit_self h⟩
    · cases h
  | .ifc T a, h => by simp only [avFit]; simp only [nmV] at h; exact ⟨trivial, avFit_self h⟩
theorem avsFit_self : ∀ {l : List AV}, nmVs hs l = true → avsFit (ren []) hs l l
  | [], _ => by simp only [avsFit]
  | a :: l, h => by
    simp only [avsFit]
    simp only [nmVs] at h
    split at h
    · rename_i hb; exact ⟨avFit_self hb, avsFit_self h⟩
    · cases h
end

theorem rowFit_self {t : Sl} : ∀ {n : Nat}, nmRow hs t n = true → rowFit (ren []) hs t t n
  | 0, _ => trivial
  | n + 1, h => by
    simp only [nmRow] at h
    split at h
    · rename_i hb; exact ⟨avFit_self hb, rowFit_self h⟩
    · cases h

theorem bFit_self {b : Blk} (h : nmBk hs b = true) : bFit (ren []) hs b b := by
  cases b <;> simp only [nmBk] at h <;> simp only [bFit]
  · exact ⟨trivial, chFit_self h⟩
  · exact chFit_self h
  · split at h
    · rename_i hb; exact ⟨⟨trivial, trivial, trivial, trivial, trivial, nmB_self hb, trivial⟩, rowFit_self h⟩
    · cases h
  · exact ⟨⟨trivial, trivial⟩, chFit_self h⟩
  · exact chFit_self h

theorem slFit_self {t : Sl} : ∀ {l : List Nat}, nmSl hs (keepS t l) = true → slFit (ren []) hs t (keepS t l)
  | [], _ => trivial
  | i :: l, h => by
    simp only [keepS, nmSl] at h
    split at h
    · rename_i hb; exact ⟨avFit_self hb, slFit_self h⟩
    · cases h

theorem keepS_mem {t : Sl} : ∀ {ks : List Nat} {i : Nat} {a : AV}, (i, a) ∈ keepS t ks → a = t.at i
  | [], i, a, h => by cases h
  | k :: ks, i, a, h => by
    simp only [keepS, List.mem_cons, Prod.mk.injEq] at h
    rcases h with ⟨rfl, rfl⟩ | h
    · rfl
    · exact keepS_mem h

theorem rowFit_keep {t : Sl} {ks : List Nat} : ∀ {n : Nat}, nmRow hs ⟨t.n, .any, trOf (keepS t ks)⟩ n = true → rowFit (ren []) hs t ⟨t.n, .any, trOf (keepS t ks)⟩ n
  | 0, _ => trivial
  | n + 1, h => by
    simp only [nmRow] at h
    split at h
    · rename_i hb
      refine ⟨?_, rowFit_keep h⟩
      simp only [Sl.at] at hb ⊢
      cases hg : (trOf (keepS t ks)).get n with
      | none => simp only [avFit]
      | some a =>
        rw [hg] at hb
        have := keepS_mem (trOf_mem _ _ _ hg)
        subst this
        exact avFit_self hb
    · cases h

theorem bFit_keep {lk : List (Nat × List Nat)} {i : Nat} {b : Blk} (h : nmBk hs (keepB lk i b) = true) : bFit (ren []) hs b (keepB lk i b) := by
  cases b with
  | lp st pe t ps asg body D =>
    unfold keepB at h ⊢
    cases hk : lookK lk i with
    | none => rw [hk] at h; exact bFit_self h
    | some ks =>
      rw [hk] at h
      simp only [nmBk] at h
      simp only [bFit]
      split at h
      · rename_i hb; exact ⟨⟨trivial, trivial, trivial, trivial, trivial, nmB_self hb, trivial⟩, rowFit_keep h⟩
      · cases h
  | _ => exact bFit_self h

theorem hpFit_self {h : Heap} {lk : List (Nat × List Nat)} : ∀ {l : List Nat} {r : List (Nat × Blk)}, keepH h lk l = some r → nmHp hs r = true → hpFit (ren []) hs h r
  | [], r, hr, _ => by simp only [keepH, Option.some.injEq] at hr; subst hr; trivial
  | i :: l, r, hr, hn => by
    simp only [keepH] at hr
    split at hr
    · rename_i b r' hb hr'
      simp only [Option.some.injEq] at hr; subst hr
      simp only [nmHp] at hn
      split at hn
      · rename_i hbn
        refine ⟨?_, hpFit_self hr' hn⟩
        simp only [ren, hb]
        exact bFit_keep hbn
      · cases hn
    · cases hr
end

theorem fitsP_restr {A : AA} {sk hk : List Nat} {lk : List (Nat × List Nat)} {L : LState} (h : restr A sk hk lk = some L) (hn : nmL L = true) : fitsP A L [] := by
  unfold restr at h
  split at h
  · rename_i hp hh
    simp only [Option.some.injEq] at h; subst h
    unfold nmL at hn
    split at hn
    · rename_i h1
      exact ⟨slFit_self h1, hpFit_self hh hn⟩
    · cases hn
  · cases h
end Go.Ev
