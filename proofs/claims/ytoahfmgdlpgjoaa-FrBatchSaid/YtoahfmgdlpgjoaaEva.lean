/- The evaluator's states: slots, blocks, and what they say of an activation and a world. Nothing here names a program. -/
import Derived.Test.YtoahfmgdlpgjoaaEv
set_option linter.unusedSimpArgs false
set_option linter.unusedVariables false
namespace Go.Ev
open Go.RowKit

/-- The slots: how many; what is in one that is not named; the named ones. -/
structure Sl where
  n : Nat
  d : AV
  tr : Tr AV

def Sl.at (t : Sl) (i : Nat) : AV := match t.tr.get i with | some a => a | none => t.d
def Sl.get (t : Sl) (i : Nat) : AV := match Nat.blt i t.n with | true => t.at i | false => .tp []

structure Slots (ρ : Names) (t : Sl) (vs : Array Value) : Prop where
  len : t.n = vs.size
  cap : t.n < 4096
  at_ : ∀ (i : Nat) (x : Value), vs[i]? = some x → Rep ρ (t.at i) x

theorem rep_undef {ρ : Names} {x : Value} : Rep ρ (.tp []) x ↔ x = undef := by
  simp only [Rep, Reps]
  exact ⟨fun ⟨xs, h1, h2⟩ => by subst h1; exact h2, fun h => ⟨[], rfl, h⟩⟩

theorem Slots.get_some {ρ : Names} {t : Sl} {vs : Array Value} (h : Slots ρ t vs) {i : Nat} {x : Value} (hx : vs[i]? = some x) : Rep ρ (t.get i) x := by
  have hlt : i < t.n := by rw [h.len]; exact (Array.getElem?_eq_some_iff.1 hx).1
  unfold Sl.get
  rw [show Nat.blt i t.n = true from (by simpa [Nat.blt_eq] using hlt)]
  exact h.at_ i x hx

theorem Slots.get_none {ρ : Names} {t : Sl} {vs : Array Value} (h : Slots ρ t vs) {i : Nat} (hx : vs[i]? = none) : t.get i = .tp [] := by
  have hge : ¬ i < t.n := by rw [h.len]; have := Array.getElem?_eq_none_iff.1 hx; omega
  unfold Sl.get
  rw [show Nat.blt i t.n = false from (by
    cases hb : Nat.blt i t.n with
    | false => rfl
    | true => exact absurd (by simpa [Nat.blt_eq] using hb) hge)]

theorem Slots.mono {ρ ρ' : Names} (hl : ρ.le ρ') {t : Sl} {vs : Array Value} (h : Slots ρ t vs) : Slots ρ' t vs :=
  ⟨h.len, h.cap, fun i x hx => (h.at_ i x hx).mono hl⟩

def Sl.set (t : Sl) (d : Nat) (a : AV) : Sl := ⟨t.n, t.d, t.tr.set 12 d (some a)⟩

theorem Slots.set {ρ : Names} {t : Sl} {vs : Array Value} (h : Slots ρ t vs) (d : Nat) {a : AV} {x : Value} (hr : Rep ρ a x) : Slots ρ (t.set d a) (vs.setIfInBounds d x) := by
  refine ⟨by simp [Sl.set, h.len], h.cap, fun i y hy => ?_⟩
  simp only [Sl.set, Sl.at]
  by_cases hi : i = d
  · subst hi
    have hlt : i < vs.size := by
      have := (Array.getElem?_eq_some_iff.1 hy).1; simpa using this
    have : y = x := by simpa [hlt] using hy.symm
    subst this
    rw [Tr.get_set 12 _ _ _ (by have := h.cap; have := h.len; omega)]
    exact hr
  · rw [Tr.get_set_ne 12 _ _ _ _ hi]
    exact h.at_ i y (by simpa [Array.getElem?_setIfInBounds, Ne.symm hi] using hy)

def putA (t : Sl) : Option Tmp → AV → Sl
  | some d, a => t.set d a
  | none, _ => t

theorem Slots.put {ρ : Names} {t : Sl} {a : Act} (h : Slots ρ t a.tmps) (d : Option Tmp) {v : AV} {x : Value} (hr : Rep ρ v x) : Slots ρ (putA t d v) (a.put d x).tmps := by
  cases d with
  | none => exact h
  | some d => exact h.set d hr

/-- Arguments. -/
abbrev SlotsL (ρ : Names) (t : List AV) (vs : Array Value) : Prop := Reps ρ t vs.toList

def fill : List AV → Nat → Tr AV → Tr AV
  | [], _, t => t
  | a :: l, i, t => fill l (i + 1) (t.set 12 i (some a))

theorem fill_get : ∀ (l : List AV) (k : Nat) (t : Tr AV) (i : Nat), k + l.length < 4096 →
    (fill l k t).get i = if k ≤ i then (match l[i - k]? with | some a => some a | none => t.get i) else t.get i
  | [], k, t, i, _ => by simp [fill]
  | a :: l, k, t, i, h => by
    simp only [fill]
    simp only [List.length_cons] at h
    rw [fill_get l (k + 1) (t.set 12 k (some a)) i (by omega)]
    by_cases hk : k ≤ i
    · by_cases he : i = k
      · subst he
        rw [if_neg (by omega), if_pos (Nat.le_refl _), Tr.get_set 12 _ _ _ (by omega)]
        simp
      · rw [if_pos (by omega), if_pos hk, show i - k = (i - (k + 1)) + 1 by omega, List.getElem?_cons_succ, Tr.get_set_ne 12 _ _ _ _ he]
    · rw [if_neg (by omega), if_neg hk, Tr.get_set_ne 12 _ _ _ _ (by omega)]

def frame (args : List AV) (n : Nat) : Sl := ⟨args.length + (n - args.length), .tp [], fill args 0 .nil⟩

theorem frame_slots {ρ : Names} {args : List AV} {vs : Array Value} (hs : SlotsL ρ args vs) (n : Nat) (hn : Nat.blt (args.length + (n - args.length)) 4096 = true) : Slots ρ (frame args n) (vs ++ Array.replicate (n - vs.size) undef) := by
  have hn' : args.length + (n - args.length) < 4096 := by simpa [Nat.blt_eq] using hn
  have hlen : args.length = vs.size := by have := reps_length hs; simpa using this
  refine ⟨by simp [frame, hlen], hn', fun i x hx => ?_⟩
  simp only [frame, Sl.at]
  rw [fill_get args 0 .nil i (by omega), if_pos (Nat.zero_le _), Nat.sub_zero, Tr.get_nil]
  by_cases hi : i < args.length
  · obtain ⟨a, ha⟩ : ∃ a, args[i]? = some a := ⟨args[i], List.getElem?_eq_getElem hi⟩
    rw [ha]
    obtain ⟨y, h1, h2⟩ := reps_get hs i a ha
    rw [Array.getElem?_append_left (by rw [← hlen]; exact hi)] at hx
    have : y = x := by
      have h1' : vs[i]? = some y := by simpa using h1
      rw [h1'] at hx; simpa using hx
    subst this
    exact h2
  · rw [List.getElem?_eq_none (by omega)]
    rw [Array.getElem?_append_right (by rw [← hlen]; omega)] at hx
    simp only [Array.getElem?_replicate] at hx
    split at hx
    · simp only [Option.some.injEq] at hx
      subst hx
      exact rep_undef.2 rfl
    · cases hx

def evA (t : Sl) : Operand → AV
  | .tmp i => t.get i
  | .const x => ofV x
  | .global g => .v (.pointer (some ⟨g, 0, none⟩))
  | .func f => .clo f [] []

theorem rep_clo0 {ρ : Names} {f : FuncId} {x : Value} : Rep ρ (.clo f [] []) x ↔ x = .func (.func f) #[] #[] := by
  simp only [Rep, Reps]
  exact ⟨fun ⟨xs, ys, h1, h2, h3⟩ => by subst h1; subst h2; exact h3, fun h => ⟨[], [], rfl, rfl, h⟩⟩

theorem rep_evA {ρ : Names} {t : Sl} {a : Act} (h : Slots ρ t a.tmps) (x : Operand) : Rep ρ (evA t x) (a.eval x) := by
  cases x with
  | tmp i =>
    simp only [evA, Act.eval]
    cases hi : a.tmps[i]? with
    | none => rw [h.get_none hi, rep_undef]; simp [Array.getD_eq_getD_getElem?, hi]
    | some b => simpa [Array.getD_eq_getD_getElem?, hi] using h.get_some hi
  | const x => exact rep_ofV ρ x
  | global g => simp [evA, Act.eval, Rep]
  | func f => exact rep_clo0.2 rfl

theorem slots_map {ρ : Names} {t : Sl} {a : Act} (hs : Slots ρ t a.tmps) : ∀ (l : List Operand), Reps ρ (l.map (evA t)) (l.map a.eval)
  | [] => by simp [Reps]
  | x :: l => by simp only [List.map_cons, Reps]; exact ⟨_, _, rfl, rep_evA hs x, slots_map hs l⟩

/-- A block that has a name: the call's own cells; cells that lay there before, from the name's first on; a loop's record over a function; the block for its rounds' deferred calls; what is past use. -/
inductive Blk where
  | own (cs : List Ch) (t : TypeId)
  | ro (cs : List Ch)
  | lp (st : LoopState) (pe : Option Code) (t : Sl) (ps : Array Tmp) (asg body : Code) (D : Nat)
  | dfd
  | dead
  | gr (cs : List Ch) (t : TypeId) (e : Nat)
  | ob (o : Obj)
  | rz (cs : List Ch)
abbrev Heap := Tr Blk

def BAt (B : Nat) (ρ : Names) (w : World) (v : NM) : Blk → Prop
  | .own cs t => v.2 = 0 ∧ B ≤ v.1 ∧ DefC ρ cs ∧ w.heap[v.1]? = some (.cells (flatR ρ cs).toArray t (0, 0))
  | .ro cs => v.1 < B ∧ DefC ρ cs ∧ w.rangeAt v.1 v.2 (flatR ρ cs)
  | .lp st pe t ps asg body D => v.2 = 0 ∧ B ≤ v.1 ∧ ∃ fn tmps d, Slots ρ t tmps ∧ ρ D = some ⟨d, 0, 0⟩ ∧ w.heap[v.1]? = some (.loop { state := st, pending := pe, fn, tmps, params := ps, assign := asg, body, defers := d })
  | .dfd => v.2 = 0 ∧ B ≤ v.1 ∧ w.heap[v.1]? = some (.deferred (some []))
  | .dead => B ≤ v.1
  | .gr cs t e => v.2 = 0 ∧ B ≤ v.1 ∧ DefC ρ cs ∧ ∃ (rest : List Value) (fz : Nat × Nat), (rest.length = v.3 * e ∧ (fz = (0, 0) ∨ (flatR ρ cs).length + rest.length ≤ fz.1)) ∧ w.heap[v.1]? = some (.cells (flatR ρ cs ++ rest).toArray t fz)
  | .ob o => v.2 = 0 ∧ B ≤ v.1 ∧ w.heap[v.1]? = some o
  | .rz cs => v.1 < B ∧ DefC ρ cs ∧ w.rangeAt v.1 v.2 (flatR ρ cs) ∧ (v.3 = 0 → flatR ρ cs = [])

/-- Blocks that are in use. -/
def Blk.live : Blk → Bool
  | .dead => false
  | _ => true

/-- The blocks lie in the world under their names; those of the call's own from B on. -/
structure HAt (B : Nat) (ρ : Names) (h : Heap) (w : World) : Prop where
  at_ : ∀ id blk, h.get id = some blk → ∃ v, ρ id = some v ∧ BAt B ρ w v blk
  lt : ∀ i v, ρ i = some v → v.1 < w.heap.size
  size : B ≤ w.heap.size

structure HRel (B : Nat) (ρ : Names) (h : Heap) (w : World) : Prop extends HAt B ρ h w where
  inj : ∀ i j u v bi bj, h.get i = some bi → h.get j = some bj → bi.live = true → bj.live = true → ρ i = some u → ρ j = some v → u.1 = v.1 → B ≤ u.1 → i = j
  none_ : ∀ i, h.get i = none → ρ i = none

theorem BAt.mono {B : Nat} {ρ ρ' : Names} (hl : ρ.le ρ') {w : World} {v : NM} {blk : Blk} (h : BAt B ρ w v blk) : BAt B ρ' w v blk := by
  cases blk with
  | own cs t => obtain ⟨h1, h2, h3, h4⟩ := h; obtain ⟨e1, e2⟩ := defC_mono hl h3; exact ⟨h1, h2, e1, by rw [e2]; exact h4⟩
  | ro cs => obtain ⟨h1, h3, h4⟩ := h; obtain ⟨e1, e2⟩ := defC_mono hl h3; exact ⟨h1, e1, by rw [e2]; exact h4⟩
  | lp st pe t ps asg body D => obtain ⟨h1, h2, fn, tmps, d, h3, h4, h5⟩ := h; exact ⟨h1, h2, fn, tmps, d, h3.mono hl, hl _ _ h4, h5⟩
  | dfd => exact h
  | dead => exact h
  | gr cs t e => obtain ⟨h1, h2, h3, rest, fz, h4, h5⟩ := h; obtain ⟨e1, e2⟩ := defC_mono hl h3; exact ⟨h1, h2, e1, rest, fz, by rw [e2]; exact h4, by rw [e2]; exact h5⟩
  | ob o => exact h
  | rz cs => obtain ⟨h1, h3, h4, h5⟩ := h; obtain ⟨e1, e2⟩ := defC_mono hl h3; exact ⟨h1, e1, by rw [e2]; exact h4, by rw [e2]; exact h5⟩

/-- What holds of a block holds where it lies as it lay. -/
theorem BAt.same {B : Nat} {ρ : Names} {w w' : World} {v : NM} {blk : Blk} (h : BAt B ρ w v blk) (hs : w'.heap[v.1]? = w.heap[v.1]?) : BAt B ρ w' v blk := by
  cases blk with
  | own cs t => obtain ⟨h1, h2, h3, h4⟩ := h; exact ⟨h1, h2, h3, by rw [hs]; exact h4⟩
  | ro cs =>
    obtain ⟨h1, h3, h4⟩ := h
    refine ⟨h1, h3, fun j x hx => ?_⟩
    have := h4 j x hx
    simp only [World.cell?, hs] at this ⊢
    exact this
  | lp st pe t ps asg body D => obtain ⟨h1, h2, fn, tmps, d, h3, h4, h5⟩ := h; exact ⟨h1, h2, fn, tmps, d, h3, h4, by rw [hs]; exact h5⟩
  | dfd => obtain ⟨h1, h2, h3⟩ := h; exact ⟨h1, h2, by rw [hs]; exact h3⟩
  | dead => exact h
  | gr cs t e => obtain ⟨h1, h2, h3, rest, fz, h4, h5⟩ := h; exact ⟨h1, h2, h3, rest, fz, h4, by rw [hs]; exact h5⟩
  | ob o => obtain ⟨h1, h2, h3⟩ := h; exact ⟨h1, h2, by rw [hs]; exact h3⟩
  | rz cs =>
    obtain ⟨h1, h3, h4, h5⟩ := h
    refine ⟨h1, h3, fun j x hx => ?_, h5⟩
    have := h4 j x hx
    simp only [World.cell?, hs] at this ⊢
    exact this

theorem HAt.below {B : Nat} {ρ : Names} {h : Heap} {w w' : World} (hh : HAt B ρ h w) (hb : Below w.heap.size w w') : HAt B ρ h w' :=
  ⟨fun id blk hi => let ⟨v, h1, h2⟩ := hh.at_ id blk hi; ⟨v, h1, h2.same (hb.block v.1 (hh.lt _ _ h1))⟩,
   fun i v hi => Nat.lt_of_lt_of_le (hh.lt i v hi) hb.size, Nat.le_trans hh.size hb.size⟩

theorem HRel.below {B : Nat} {ρ : Names} {h : Heap} {w w' : World} (hh : HRel B ρ h w) (hb : Below w.heap.size w w') : HRel B ρ h w' :=
  ⟨hh.toHAt.below hb, hh.inj, hh.none_⟩

theorem HRel.sub {B : Nat} {ρ : Names} {h h0 : Heap} {w : World} (hh : HRel B ρ h w) (hle : ∀ i b, h0.get i = some b → h.get i = some b) : HAt B ρ h0 w :=
  ⟨fun id blk hi => hh.at_ id blk (hle id blk hi), hh.lt, hh.size⟩

def Heap.put (h : Heap) (id : Nat) (b : Blk) : Heap := Tr.set (Nat.log2 (id + 1) + 1) h id (some b)
def updH (h : Heap) (id : Nat) : Option Blk → Heap
  | none => h
  | some b => h.put id b

theorem Heap.put_ne {h : Heap} {id j : Nat} (b : Blk) (hj : j ≠ id) : (h.put id b).get j = h.get j := Tr.get_set_ne _ _ _ _ _ hj
theorem Heap.put_eq {h : Heap} {id : Nat} (b : Blk) : (h.put id b).get id = some b := Tr.get_set _ _ _ _ Nat.lt_log2_self
theorem Heap.put_comm {h : Heap} {i j : Nat} (a b : Blk) (hij : i ≠ j) : (h.put i a).put j b = (h.put j b).put i a := by
  unfold Heap.put
  have hi : i + 1 < 2 ^ (Nat.log2 (i + 1) + 1) := Nat.lt_log2_self
  have hj : j + 1 < 2 ^ (Nat.log2 (j + 1) + 1) := Nat.lt_log2_self
  generalize Nat.log2 (i + 1) + 1 = p at hi ⊢
  generalize Nat.log2 (j + 1) + 1 = q at hj ⊢
  have hi' : i + 1 < 2 ^ (p + q) := Nat.lt_of_lt_of_le hi (Nat.pow_le_pow_right (by omega) (by omega))
  have hj' : j + 1 < 2 ^ (p + q) := Nat.lt_of_lt_of_le hj (Nat.pow_le_pow_right (by omega) (by omega))
  rw [Tr.set_fuel q (p + q) _ _ _ hj hj', Tr.set_fuel p (p + q) _ _ _ hi hi', Tr.set_fuel q (p + q) _ _ _ hj hj', Tr.set_fuel p (p + q) _ _ _ hi hi', Tr.set_comm _ _ _ _ _ _ hij]

/-- A block's name is given to a new block. -/
def Names.new (ρ : Names) (id : Nat) (b : Nat) : Names := fun j => match Nat.beq j id with | true => some ⟨b, 0, 0⟩ | false => ρ j
theorem Names.new_eq (ρ : Names) (id b : Nat) : ρ.new id b id = some ⟨b, 0, 0⟩ := by simp [Names.new]
theorem Names.new_ne (ρ : Names) {id j : Nat} (b : Nat) (h : j ≠ id) : ρ.new id b j = ρ j := by
  have : Nat.beq j id = false := by
    cases hb : Nat.beq j id with
    | false => rfl
    | true => exact absurd (Nat.eq_of_beq_eq_true hb) h
  simp [Names.new, this]
theorem Names.le_new {ρ : Names} {id : Nat} (h : ρ id = none) (b : Nat) : ρ.le (ρ.new id b) := fun i v hi => by
  have : i ≠ id := fun e => by rw [e, h] at hi; cases hi
  rw [Names.new_ne ρ b this]; exact hi

/-- A name is given to what stands somewhere. -/
def Names.nm (ρ : Names) (id : Nat) (v : NM) : Names := fun j => match Nat.beq j id with | true => some v | false => ρ j
theorem Names.nm_eq (ρ : Names) (id : Nat) (v : NM) : ρ.nm id v id = some v := by simp [Names.nm]
theorem Names.nm_ne (ρ : Names) {id j : Nat} (v : NM) (h : j ≠ id) : ρ.nm id v j = ρ j := by
  have : Nat.beq j id = false := by
    cases hb : Nat.beq j id with
    | false => rfl
    | true => exact absurd (Nat.eq_of_beq_eq_true hb) h
  simp [Names.nm, this]
theorem Names.le_nm {ρ : Names} {id : Nat} (h : ρ id = none) (v : NM) : ρ.le (ρ.nm id v) := fun i u hi => by
  have : i ≠ id := fun e => by rw [e, h] at hi; cases hi
  rw [Names.nm_ne ρ v this]; exact hi

/-- Cells that lay there before get a name. -/
theorem HRel.ro {ρ : Names} {h : Heap} {w : World} (hh : HRel w.heap.size ρ h w) (hb : ∀ j v, ρ j = some v → v.1 < w.heap.size) {i : Nat} (hi : h.get i = none) {cs : List Ch} (hp : pureC cs = true) (v : NM) (hlt : v.1 < w.heap.size) (hr : w.rangeAt v.1 v.2 (flat cs)) :
    HRel w.heap.size (ρ.nm i v) (h.put i (.ro cs)) w ∧ ρ.le (ρ.nm i v) ∧ (∀ j u, ρ.nm i v j = some u → u.1 < w.heap.size) := by
  have hn := hh.none_ i hi
  have hle := Names.le_nm hn v
  have hb' : ∀ j u, ρ.nm i v j = some u → u.1 < w.heap.size := fun j u hj => by
    by_cases e : j = i
    · subst e; rw [Names.nm_eq] at hj; simp only [Option.some.injEq] at hj; subst hj; exact hlt
    · rw [Names.nm_ne _ _ e] at hj; exact hb j u hj
  refine ⟨⟨⟨fun j blk hj => ?_, hb', Nat.le_refl _⟩, fun p q u v' _ _ _ _ _ _ hu _ _ hB => absurd (hb' p u hu) (by omega), fun j hj => ?_⟩, hle, hb'⟩
  · by_cases e : j = i
    · subst e
      rw [Heap.put_eq] at hj
      simp only [Option.some.injEq] at hj; subst hj
      exact ⟨v, Names.nm_eq _ _ _, hlt, (pureC_flat _ hp).2, by rw [(pureC_flat _ hp).1]; exact hr⟩
    · rw [Heap.put_ne _ e] at hj
      obtain ⟨u, e1, e2⟩ := hh.at_ j blk hj
      exact ⟨u, hle _ _ e1, e2.mono hle⟩
  · by_cases e : j = i
    · subst e; rw [Heap.put_eq] at hj; cases hj
    · rw [Heap.put_ne _ e] at hj
      rw [Names.nm_ne _ _ e]
      exact hh.none_ j hj

/-- Cells that lay there before, or nothing, get a name. -/
theorem HRel.rz {ρ : Names} {h : Heap} {w : World} (hh : HRel w.heap.size ρ h w) (hb : ∀ j v, ρ j = some v → v.1 < w.heap.size) {i : Nat} (hi : h.get i = none) {cs : List Ch} (hp : pureC cs = true) (v : NM) (hlt : v.1 < w.heap.size) (hr : w.rangeAt v.1 v.2 (flat cs)) (hz : v.3 = 0 → flat cs = []) :
    HRel w.heap.size (ρ.nm i v) (h.put i (.rz cs)) w ∧ ρ.le (ρ.nm i v) ∧ (∀ j u, ρ.nm i v j = some u → u.1 < w.heap.size) := by
  have hn := hh.none_ i hi
  have hle := Names.le_nm hn v
  have hb' : ∀ j u, ρ.nm i v j = some u → u.1 < w.heap.size := fun j u hj => by
    by_cases e : j = i
    · subst e; rw [Names.nm_eq] at hj; simp only [Option.some.injEq] at hj; subst hj; exact hlt
    · rw [Names.nm_ne _ _ e] at hj; exact hb j u hj
  refine ⟨⟨⟨fun j blk hj => ?_, hb', Nat.le_refl _⟩, fun p q u v' _ _ _ _ _ _ hu _ _ hB => absurd (hb' p u hu) (by omega), fun j hj => ?_⟩, hle, hb'⟩
  · by_cases e : j = i
    · subst e
      rw [Heap.put_eq] at hj
      simp only [Option.some.injEq] at hj; subst hj
      exact ⟨v, Names.nm_eq _ _ _, hlt, (pureC_flat _ hp).2, by rw [(pureC_flat _ hp).1]; exact hr, by rw [(pureC_flat _ hp).1]; exact hz⟩
    · rw [Heap.put_ne _ e] at hj
      obtain ⟨u, e1, e2⟩ := hh.at_ j blk hj
      exact ⟨u, hle _ _ e1, e2.mono hle⟩
  · by_cases e : j = i
    · subst e; rw [Heap.put_eq] at hj; cases hj
    · rw [Heap.put_ne _ e] at hj
      rw [Names.nm_ne _ _ e]
      exact hh.none_ j hj

theorem HRel.new {B : Nat} {ρ : Names} {h : Heap} {w : World} (hh : HRel B ρ h w) {id : Nat} (hid : h.get id = none) (o : Obj) (blk : Blk)
    (hb : BAt B (ρ.new id w.heap.size) (w.alloc o) ⟨w.heap.size, 0, 0⟩ blk) :
    HRel B (ρ.new id w.heap.size) (h.put id blk) (w.alloc o) ∧ ρ.le (ρ.new id w.heap.size) := by
  have hn := hh.none_ id hid
  have hle := Names.le_new hn w.heap.size
  refine ⟨⟨⟨fun j b hj => ?_, fun i v hi => ?_, by have := hh.size; simp; omega⟩, fun i j u v bi bj gi gj li lj hi hj huv hB => ?_, fun i hi => ?_⟩, hle⟩
  · by_cases hji : j = id
    · subst hji
      rw [Heap.put_eq _] at hj
      simp only [Option.some.injEq] at hj; subst hj
      exact ⟨_, Names.new_eq _ _ _, hb⟩
    · rw [Heap.put_ne _ hji] at hj
      obtain ⟨v, h1, h2⟩ := hh.at_ j b hj
      exact ⟨v, hle _ _ h1, (h2.mono hle).same (Below.heap_alloc _ _ _ (hh.lt _ _ h1))⟩
  · by_cases hji : i = id
    · subst hji; rw [Names.new_eq] at hi; simp only [Option.some.injEq] at hi; subst hi; simp
    · rw [Names.new_ne _ _ hji] at hi; have := hh.lt _ _ hi; simp; omega
  · by_cases h1 : i = id
    · by_cases h2 : j = id
      · rw [h1, h2]
      · rw [Names.new_ne _ _ h2] at hj
        subst h1
        rw [Names.new_eq] at hi; simp only [Option.some.injEq] at hi; subst hi
        have := hh.lt _ _ hj
        simp only at huv; omega
    · rw [Names.new_ne _ _ h1] at hi
      by_cases h2 : j = id
      · subst h2
        rw [Names.new_eq] at hj; simp only [Option.some.injEq] at hj; subst hj
        have := hh.lt _ _ hi
        simp only at huv; omega
      · rw [Names.new_ne _ _ h2] at hj
        rw [Heap.put_ne _ h1] at gi
        rw [Heap.put_ne _ h2] at gj
        exact hh.inj i j u v bi bj gi gj li lj hi hj huv hB
  · by_cases h1 : i = id
    · subst h1; rw [Heap.put_eq _] at hi; cases hi
    · rw [Heap.put_ne _ h1] at hi; rw [Names.new_ne _ _ h1]; exact hh.none_ i hi

/-- One of the call's own blocks turns. -/
theorem HRel.turn {B : Nat} {ρ : Names} {h : Heap} {w w' : World} (hh : HRel B ρ h w) {id : Nat} {v : NM} (hv : ρ id = some v) (hB : B ≤ v.1) {b0 : Blk} (hold : h.get id = some b0) (hlive : b0.live = true) (blk : Blk)
    (hs : w'.heap.size = w.heap.size) (ho : ∀ k, k ≠ v.1 → w'.heap[k]? = w.heap[k]?) (hb : BAt B ρ w' v blk) : HRel B ρ (h.put id blk) w' := by
  refine ⟨⟨fun j b hj => ?_, fun i u hi => by rw [hs]; exact hh.lt i u hi, by rw [hs]; exact hh.size⟩, fun i j u u' bi bj gi gj li lj hi hj huv hB' => ?_, fun i hi => ?_⟩
  · by_cases hji : j = id
    · subst hji
      rw [Heap.put_eq _] at hj
      simp only [Option.some.injEq] at hj; subst hj
      exact ⟨v, hv, hb⟩
    · rw [Heap.put_ne _ hji] at hj
      obtain ⟨u, h1, h2⟩ := hh.at_ j b hj
      cases hl : b.live with
      | true =>
        refine ⟨u, h1, h2.same (ho _ fun e => hji ?_)⟩
        exact hh.inj j id u v b b0 hj hold hl hlive h1 hv e (by omega)
      | false =>
        have e : b = .dead := by cases b <;> simp [Blk.live] at hl ⊢
        subst e
        exact ⟨u, h1, h2⟩
  · have key : ∀ k bk, (h.put id blk).get k = some bk → bk.live = true → ∃ b, h.get k = some b ∧ b.live = true := fun k bk hk hl => by
      by_cases e : k = id
      · subst e; exact ⟨b0, hold, hlive⟩
      · rw [Heap.put_ne _ e] at hk; exact ⟨bk, hk, hl⟩
    obtain ⟨b1, g1, l1⟩ := key i bi gi li
    obtain ⟨b2, g2, l2⟩ := key j bj gj lj
    exact hh.inj i j u u' b1 b2 g1 g2 l1 l2 hi hj huv hB'
  · by_cases h1 : i = id
    · subst h1; rw [Heap.put_eq _] at hi; cases hi
    · rw [Heap.put_ne _ h1] at hi; exact hh.none_ i hi

/-- A state: slots, blocks, the marks for deferred calls. -/
structure AA where
  t : Sl
  h : Heap
  d : List Nat

def DefersR (ρ : Names) : List Nat → List Deferred → Prop
  | [], ds => ds = []
  | i :: l, ds => ∃ b r, ρ i = some ⟨b, 0, 0⟩ ∧ ds = { target := .collected b, args := #[] } :: r ∧ DefersR ρ l r

theorem DefersR.mono {ρ ρ' : Names} (hl : ρ.le ρ') : ∀ {l : List Nat} {ds : List Deferred}, DefersR ρ l ds → DefersR ρ' l ds
  | [], _, h => h
  | i :: l, ds, h => by obtain ⟨b, r, h1, h2, h3⟩ := h; exact ⟨b, r, hl _ _ h1, h2, h3.mono hl⟩

structure Rel (w0 : World) (ρ : Names) (A : AA) (a : Act) (w : World) : Prop where
  slots : Slots ρ A.t a.tmps
  defers : DefersR ρ A.d a.defers
  below : Below w0.heap.size w0 w
  heap : HRel w0.heap.size ρ A.h w

theorem put_defers (a : Act) (d : Option Tmp) (x : Value) : (a.put d x).defers = a.defers := by cases d <;> rfl

def AA.put (A : AA) (d : Option Tmp) (r : AV) : AA := ⟨putA A.t d r, A.h, A.d⟩

/-- Names at or beyond k are free. -/
def Fresh (A : AA) (k : Nat) : Prop := ∀ j, k ≤ j → A.h.get j = none
/-! ### In a round, and outside -/
/-- A fence that lets everything in; in a round of a loop, or not. -/
def WideF (F : Fence) : Prop := F = Fence.wide ∨ ∃ l, F = Fence.wide.inRound l
theorem WideF.fn {F : Fence} (h : WideF F) (f : FuncId) : F.fn f := by rcases h with rfl | ⟨l, rfl⟩ <;> trivial
theorem WideF.depth {F : Fence} (h : WideF F) {p : Prop} : F.depth.isSome = true → p := by rcases h with rfl | ⟨l, rfl⟩ <;> (intro h; simp [Fence.wide, Fence.inRound] at h)
theorem WideF.calls {F : Fence} (hF : WideF F) {n : Nat} {P : Program} {f : FuncId} {args : Array Value} {w : World} {R : Ending → World → Prop} (h : Calls P f args w R) : CallsIn F n P f args w R := by
  rcases hF with rfl | ⟨l, rfl⟩
  · exact callsIn_wide.2 h
  · exact CallsIn.inRound l (callsIn_wide.2 h)
theorem WideF.semAt {F : Fence} (h : WideF F) (ev : Operand → Value) (o : Oper) (hd : ∀ c, o.op ≠ .defer c) : o.semAt F.round ev = execOp ev o := by
  rcases h with rfl | ⟨l, rfl⟩
  · rw [Fence.wide_round, Oper.semAt_none]
  · rw [Fence.inRound_round, Oper.semAt_some l ev o hd]

theorem wpIn_iff {F : Fence} (hF : WideF F) {n : Nat} {P : Program} {o : Oper} {a : Act} {w : World} {K : Act → World → Prop} {Q : Exit → Act → World → Prop} (hd : ∀ c, o.op ≠ .defer c) :
    o.uponIn F n P a K Q ((execOp a.eval o).run P w) → o.wpIn F n P a w K Q := fun h => by
  unfold Oper.wpIn
  rw [hF.semAt _ _ hd]
  exact ⟨fun f _ => hF.fn f, h⟩

theorem about_wide {F : Fence} (hF : WideF F) {P : Program} {o : Oper} {w : World} {ev : Operand → Value} : ∀ f, o.about P w ev = some f → F.fn f := fun f _ => hF.fn f
end Go.Ev
