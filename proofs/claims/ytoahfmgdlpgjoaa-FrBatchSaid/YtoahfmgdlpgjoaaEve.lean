/- The evaluator's steps: calls by contracts, comparisons, rules. -/
import Derived.Test.YtoahfmgdlpgjoaaEvd
set_option linter.unusedSimpArgs false
set_option linter.unusedVariables false
namespace Go.Ev
open Go.RowKit

inductive Ex where
  | normal
  | exit (id : Nat)
  | ret

/-- A state that is written out: how many slots; the slots that count (whatever is in the others); the blocks; the marks. -/
structure LState where
  n : Nat
  sl : List (Nat × AV)
  hp : List (Nat × Blk) := []
  d : List Nat := []

def trOf {α : Type} : List (Nat × α) → Tr α
  | [] => .nil
  | (i, a) :: l => Tr.set (Nat.log2 (i + 1) + 1) (trOf l) i (some a)
def LState.aa (L : LState) : AA := ⟨⟨L.n, .any, trOf L.sl⟩, trOf L.hp, L.d⟩

/-- What is said of a loop (or of another piece of code): the state ahead of it; how it is left, the state behind it, the next free name. -/
structure LPick where
  kd : Nat := 0
  I : LState
  ex : Ex
  E : LState
  fr : Nat
  lk : List (Nat × List Nat) := []

/-- What is chosen at an operation: which outcome, and numbers that name what comes of it; or a rule (by its number and 1), and what it is told. -/
structure Ora where
  ch : Nat
  hi : Nat → Nat
  ru : Nat := 0
  ex : Nat := 0
  av : Nat → AV := fun _ => .any
  cs : Nat → List Ch := fun _ => []
  lp : Option LPick := none
  hd : Nat := 0

/-- What an operation may come to: under a condition, a value. -/
abbrev Alts := List (Option Prop × AV)

/-- A rule for an operation that leaves the world alone. -/
structure QRule (P : Program) where
  fn : Ora → Heap → List AV → Op → Alts
  nd : ∀ (ora : Ora) (h : Heap) (avs : List AV) (op : Op) (k : Nat) (p : Option Prop × AV), (fn ora h avs op)[k]? = some p → ∀ c, op ≠ .defer c
  ok : ∀ (ora : Ora) (h : Heap) (avs : List AV) (op : Op) (k : Nat) (c : Option Prop) (r : AV), (fn ora h avs op)[k]? = some (c, r) → c.getD True → ∀ {B : Nat} {ρ : Names} {w : World} (a : Act) (o : Oper), o.op = op →
    Reps ρ avs (op.operands.toList.map a.eval) → HAt B ρ h w → ∃ x, (execOp a.eval o).run P w = .ok (.value x) w ∧ Rep ρ r x

def setAll (h : Heap) : List (Nat × Blk) → Heap
  | [] => h
  | (i, b) :: l => setAll (h.put i b) l

/-- A rule for an operation that turns the world. -/
structure XRule (P : Program) where
  fn : Ora → Nat → Heap → List AV → Op → Option (Option Prop × AV × List (Nat × Blk))
  fresh : ∀ (ora : Ora) (k : Nat) (h : Heap) (avs : List AV) (op : Op) (c : Option Prop) (r : AV) (ups : List (Nat × Blk)), fn ora k h avs op = some (c, r, ups) → (∀ j, k ≤ j → h.get j = none) → ∀ j, k + 1 ≤ j → (setAll h ups).get j = none
  ok : ∀ (ora : Ora) (k : Nat) (h : Heap) (avs : List AV) (op : Op) (c : Option Prop) (r : AV) (ups : List (Nat × Blk)), fn ora k h avs op = some (c, r, ups) → c.getD True → (∀ j, k ≤ j → h.get j = none) →
    ∀ {F : Fence} (hF : WideF F) (n : Nat) {w0 : World} {ρ : Names} {w : World} (a : Act) (o : Oper), o.op = op → Reps ρ avs (op.operands.toList.map a.eval) →
      Below w0.heap.size w0 w → HRel w0.heap.size ρ h w → ∀ {K : Act → World → Prop} {Q : Exit → Act → World → Prop},
      (∀ ρ' x w', ρ.le ρ' → Rep ρ' r x → Below w0.heap.size w0 w' → HRel w0.heap.size ρ' (setAll h ups) w' → K (a.put o.dst x) w') → o.wpIn F n P a w K Q

structure Rules (P : Program) where
  q : List (QRule P) := []
  x : List (XRule P) := []
  d : Option (XRule P) := none

variable {P : Program}

/-- An argument of a call: a value; a slice whose cells are read, and all behind them in its block. -/
inductive XPc where
  | c (x : Ch)
  | r (cs : List Ch) (len : Nat)
  | z (cs : List Ch) (len : Nat)
inductive XV where
  | t (x : AV)
  | rd (cs : List Ch) (len cap : Nat)
  | rx (cs : List Ch) (len : Nat)
  | rz (cs : List Ch) (len : Nat)
  | ags (ps : List XPc)

/-- What a slice that may be nil is. -/
def ZRep (w : World) (cs : List Ch) (len : Nat) (y : Value) : Prop :=
  pureC cs = true ∧ 0 < w.heap.size ∧ ((len = 0 ∧ flat cs = [] ∧ y = .slice none 0 0) ∨ ∃ b off room, y = .slice (some ⟨b, off, none⟩) len (len + room) ∧ b < w.heap.size ∧ w.rangeAt b off (flat cs))
/-- Pieces some of which are slices whose cells are read. -/
def PcsRep (w : World) : List XPc → List Value → Prop
  | [], vs => vs = []
  | .c x :: l, vs => x.pure = true ∧ ∃ r, vs = x.cells noNames ++ r ∧ PcsRep w l r
  | .r cs len :: l, vs => pureC cs = true ∧ ∃ b off room r, vs = .slice (some ⟨b, off, none⟩) len (len + room) :: r ∧ b < w.heap.size ∧ w.rangeAt b off (flat cs) ∧ PcsRep w l r
  | .z cs len :: l, vs => ∃ y r, vs = y :: r ∧ ZRep w cs len y ∧ PcsRep w l r

def XRep (w : World) (x : XV) (y : Value) : Prop :=
  match x with
  | .t x => x.val? = some y
  | .rd cs len cap => pureC cs = true ∧ ∃ b off, y = .slice (some ⟨b, off, none⟩) len cap ∧ b < w.heap.size ∧ w.rangeAt b off (flat cs)
  | .rx cs len => pureC cs = true ∧ ∃ b off room, y = .slice (some ⟨b, off, none⟩) len (len + room) ∧ b < w.heap.size ∧ w.rangeAt b off (flat cs)
  | .rz cs len => ZRep w cs len y
  | .ags ps => ∃ cells, y = .agg cells.toArray ∧ PcsRep w ps cells

def XReps (w : World) : List XV → List Value → Prop
  | [], [] => True
  | x :: l, y :: r => XRep w x y ∧ XReps w l r
  | _, _ => False

/-- The cells behind a slice, to the end of its block. -/
def cellsX (h : Heap) (id off : Nat) : Option (List Ch) :=
  match h.get id with
  | some blk => (match blk.cells? with
    | some cs => (match cut cs off with
      | some (_, b) => (match pureC b with | true => some b | false => none)
      | none => none)
    | none => none)
  | none => none
theorem cellsX_spec {ρ : Names} {h : Heap} {B : Nat} {w : World} (hh : HAt B ρ h w) {id off : Nat} {cs : List Ch} (hc : cellsX h id off = some cs) {v : NM} (hv : ρ id = some v) :
    pureC cs = true ∧ v.1 < w.heap.size ∧ w.rangeAt v.1 (v.2 + off) (flat cs) := by
  unfold cellsX at hc
  split at hc
  · rename_i blk hblk
    obtain ⟨v', g1, g2⟩ := hh.at_ id blk hblk
    rw [hv] at g1; simp only [Option.some.injEq] at g1; subst g1
    split at hc
    · rename_i cs0 hcs
      obtain ⟨k1, k2⟩ := g2.cells hcs
      split at hc
      · rename_i p b hcut
        split at hc
        · rename_i hp
          simp only [Option.some.injEq] at hc; subst hc
          obtain ⟨e1, e2⟩ := cut_spec ρ _ _ _ _ hcut
          subst e1
          refine ⟨hp, hh.lt _ _ hv, fun j x hj => ?_⟩
          have := k2 (off + j) x (by rw [flatR_append, ← e2, List.getElem?_append_right (by omega), show (flatR ρ p).length + j - (flatR ρ p).length = j by omega, (pureC_flat ρ hp).1]; exact hj)
          rw [← Nat.add_assoc] at this
          exact this
        · cases hc
      · cases hc
    · cases hc
  · cases hc
def cellsZ (h : Heap) (id : Nat) : Option (List Ch) :=
  match h.get id with
  | some (.rz cs) => (match pureC cs with | true => some cs | false => none)
  | _ => none
theorem cellsZ_spec {ρ : Names} {h : Heap} {B : Nat} {w : World} (hh : HAt B ρ h w) {id len : Nat} {cs : List Ch} (hc : cellsZ h id = some cs) {v : NM} (hv : ρ id = some v) (hz : v.3 = 0 → len = 0) : ZRep w cs len (zval v len) := by
  unfold cellsZ at hc
  split at hc
  · rename_i cs0 hblk
    split at hc
    · rename_i hp
      simp only [Option.some.injEq] at hc; subst hc
      obtain ⟨v', g1, g2⟩ := hh.at_ id _ hblk
      rw [hv] at g1; simp only [Option.some.injEq] at g1; subst g1
      obtain ⟨k1, k2, k3, k4⟩ := g2
      rw [(pureC_flat ρ hp).1] at k3 k4
      have hlt := hh.lt _ _ hv
      refine ⟨hp, by omega, ?_⟩
      unfold zval
      split
      · rename_i h0; exact .inl ⟨hz h0, k4 h0, rfl⟩
      · rename_i r _; exact .inr ⟨_, _, r, rfl, hlt, k3⟩
    · cases hc
  · cases hc
def pcX (h : Heap) : Ch → Option XPc
  | .sl id off len cap => match cellsX h id off, Nat.ble len cap with | some cs, true => some (.r cs len) | _, _ => none
  | .sx id len => match cellsX h id 0 with | some cs => some (.r cs len) | none => none
  | .sz id len => match cellsZ h id with | some cs => some (.z cs len) | none => none
  | .p _ _ => none
  | c => some (.c c)
def pcsX (h : Heap) : List Ch → Option (List XPc)
  | [] => some []
  | c :: l => match pcX h c, pcsX h l with | some a, some r => some (a :: r) | _, _ => none
theorem pcsX_spec {ρ : Names} {h : Heap} {B : Nat} {w : World} (hh : HAt B ρ h w) : ∀ {l : List Ch} {ps : List XPc}, pcsX h l = some ps → DefC ρ l → PcsRep w ps (flatR ρ l)
  | [], ps, he, _ => by simp only [pcsX, Option.some.injEq] at he; subst he; rfl
  | c :: l, ps, he, hd => by
    unfold pcsX at he
    split at he
    · rename_i a r ha hr
      simp only [Option.some.injEq] at he; subst he
      have ih := pcsX_spec hh hr hd.2
      have hd1 := hd.1
      unfold pcX at ha
      split at ha
      · rename_i id off len cap
        split at ha
        · rename_i cs hcs hle
          simp only [Option.some.injEq] at ha; subst ha
          obtain ⟨v, hv⟩ := hd1
          obtain ⟨e1, e2, e3⟩ := cellsX_spec hh hcs hv
          have hle := Nat.le_of_ble_eq_true hle
          exact ⟨e1, v.1, v.2 + off, cap - len, _, by simp [flatR, Ch.cells, Names.at, hv, Nat.add_sub_cancel' hle], e2, e3, ih⟩
        · cases ha
      · rename_i id len
        split at ha
        · rename_i cs hcs
          simp only [Option.some.injEq] at ha; subst ha
          obtain ⟨v, hv⟩ := hd1
          obtain ⟨e1, e2, e3⟩ := cellsX_spec hh hcs hv
          exact ⟨e1, v.1, v.2, v.3, _, by simp [flatR, Ch.cells, Names.at, Names.room, hv], e2, by simpa using e3, ih⟩
        · cases ha
      · rename_i id len
        split at ha
        · rename_i cs hcs
          simp only [Option.some.injEq] at ha; subst ha
          obtain ⟨v, hv, hz⟩ := hd1
          exact ⟨_, _, by simp only [flatR, Ch.cells, Names.sz, hv]; rfl, cellsZ_spec hh hcs hv hz, ih⟩
        · cases ha
      · cases ha
      · rename_i h1 h2 h4 h3
        simp only [Option.some.injEq] at ha; subst ha
        have hp : c.pure = true := by
          cases c <;> first | rfl | exact (h1 _ _ _ _ rfl).elim | exact (h2 _ _ rfl).elim | exact (h4 _ _ rfl).elim | exact (h3 _ _ rfl).elim
        exact ⟨hp, _, by simp only [flatR]; rw [(Ch.pure_cells hp ρ noNames).1], ih⟩
    · cases he

def evX (h : Heap) (a : AV) : Option XV :=
  match a with
  | .sl id off len cap =>
    match h.get id with
    | some blk => (match blk.cells? with
      | some cs => (match cut cs off with
        | some (_, b) => (match pureC b with | true => some (.rd b len cap) | false => none)
        | none => none)
      | none => none)
    | none => none
  | .sx id len => match cellsX h id 0 with | some cs => some (.rx cs len) | none => none
  | .sz id len => match cellsZ h id with | some cs => some (.rz cs len) | none => none
  | .ag cs => match pureC cs with | true => some (.t (.ag cs)) | false => (match pcsX h cs with | some ps => some (.ags ps) | none => none)
  | a => match a.val? with | some _ => some (.t a) | none => none

def evXs (h : Heap) : List AV → Option (List XV)
  | [] => some []
  | x :: l => match evX h x, evXs h l with
    | some a, some r => some (a :: r)
    | _, _ => none

theorem evX_spec {ρ : Names} {h : Heap} {B : Nat} {w : World} (hh : HAt B ρ h w) {a : AV} {y : Value} {r : XV} (hx : Rep ρ a y) (hr : evX h a = some r) : XRep w r y := by
  unfold evX at hr
  split at hr
  · rename_i id off len cap
    simp only [Rep] at hx
    obtain ⟨v, h1, h2⟩ := hx
    split at hr
    · rename_i blk hblk
      obtain ⟨v', g1, g2⟩ := hh.at_ id blk hblk
      rw [h1] at g1; simp only [Option.some.injEq] at g1; subst g1
      split at hr
      · rename_i cs hcs
        obtain ⟨k1, k2⟩ := g2.cells hcs
        split at hr
        · rename_i p b hcut
          split at hr
          · rename_i hp
            simp only [Option.some.injEq] at hr; subst hr
            obtain ⟨e1, e2⟩ := cut_spec ρ _ _ _ _ hcut
            subst e1
            refine ⟨hp, v.1, v.2 + off, h2, hh.lt _ _ h1, fun j x hj => ?_⟩
            have := k2 (off + j) x (by rw [flatR_append, ← e2, List.getElem?_append_right (by omega), show (flatR ρ p).length + j - (flatR ρ p).length = j by omega, (pureC_flat ρ hp).1]; exact hj)
            rw [← Nat.add_assoc] at this
            exact this
          · cases hr
        · cases hr
      · cases hr
    · cases hr
  · rename_i id len
    simp only [Rep] at hx
    obtain ⟨v, h1, h2⟩ := hx
    split at hr
    · rename_i cs hcs
      simp only [Option.some.injEq] at hr; subst hr
      obtain ⟨e1, e2, e3⟩ := cellsX_spec hh hcs h1
      exact ⟨e1, v.1, v.2, v.3, h2, e2, by simpa using e3⟩
    · cases hr
  · rename_i id len
    simp only [Rep] at hx
    obtain ⟨v, h1, hz, h2⟩ := hx
    split at hr
    · rename_i cs hcs
      simp only [Option.some.injEq] at hr; subst hr
      subst h2
      exact cellsZ_spec hh hcs h1 hz
    · cases hr
  · rename_i cs
    split at hr
    · rename_i hp
      simp only [Option.some.injEq] at hr; subst hr
      simp only [XRep, AV.val?, hp]
      simp only [Rep] at hx
      rw [hx.2, (pureC_flat ρ hp).1]
    · split at hr
      · rename_i ps hps
        simp only [Option.some.injEq] at hr; subst hr
        simp only [Rep] at hx
        exact ⟨flatR ρ cs, hx.2, pcsX_spec hh hps hx.1⟩
      · cases hr
  · rename_i a' _
    split at hr
    · rename_i z hz
      simp only [Option.some.injEq] at hr; subst hr
      simp only [XRep]
      rw [hx.of_val hz]; exact hz
    · cases hr

theorem evXs_spec {ρ : Names} {h : Heap} {B : Nat} {w : World} (hh : HAt B ρ h w) : ∀ (l : List AV) (ys : List Value) (r : List XV), Reps ρ l ys → evXs h l = some r → XReps w r ys
  | [], ys, r, hl, hr => by simp only [evXs, Option.some.injEq] at hr; simp only [Reps] at hl; subst hr; subst hl; trivial
  | x :: l, ys, r, hl, hr => by
    simp only [Reps] at hl
    obtain ⟨y, s, rfl, h1, h2⟩ := hl
    unfold evXs at hr
    split at hr
    · rename_i b r' hb hr'
      simp only [Option.some.injEq] at hr
      subst hr
      exact ⟨evX_spec hh h1 hb, evXs_spec hh l s r' h2 hr'⟩
    · cases hr

/-- A contract: what a function hands back for such arguments. -/
structure Entry where
  f : FuncId
  fn : (Nat → Nat) → List XV → Alts

/-- How the call of a function goes: it hands back at once, or its body is entered. -/
def Comes (P : Program) (f : FuncId) (vs : List Value) (w : World) (v : Value) : Prop :=
  (callFunc f vs.toArray).run P w = .ok (.value v) w ∨
  ((callFunc f vs.toArray).run P w = .ok (.enter f vs.toArray) w ∧ Calls P f vs.toArray w (fun en w' => en = .returned v ∧ Below w.heap.size w w'))

def Entry.OK (P : Program) (e : Entry) : Prop :=
  ∀ hi args c r, (c, r) ∈ e.fn hi args → c.getD True → ∃ v, r.val? = some v ∧ ∀ w vs, XReps w args vs → Comes P e.f vs w v

def lookE : List Entry → FuncId → Option Entry
  | [], _ => none
  | e :: l, f => match Nat.beq e.f f with | true => some e | false => lookE l f

def EnvOK (P : Program) : List Entry → Prop
  | [] => True
  | e :: l => e.OK P ∧ EnvOK P l

theorem lookE_ok : ∀ {l : List Entry} {f : FuncId} {e : Entry}, EnvOK P l → lookE l f = some e → e.f = f ∧ e.OK P
  | [], _, _, _, h => by simp [lookE] at h
  | e0 :: l, f, e, ho, h => by
    unfold lookE at h
    split at h
    · rename_i hb
      simp only [Option.some.injEq] at h; subst h
      exact ⟨Nat.eq_of_beq_eq_true hb, ho.1⟩
    · exact lookE_ok ho.2 h

/-- A number may be given a name, a test may be taken for granted. -/
def altsOf (hi : Nat → Nat) : AV → Alts
  | .v (.bool b) => [(none, .v (.bool b)), (some (b = true), .v (.bool true)), (some (b = false), .v (.bool false))]
  | .v (.int k n) => [(none, .v (.int k n)), (some (n = ((hi 0 : Nat) : Int)), .v (.int k ((hi 0 : Nat) : Int))), (some (k = .u64 ∧ n = ((hi 0 % 18446744073709551616 : Nat) : Int)), .u (hi 0)), (some (n = ((hi 0 : Nat) : Int) - ((hi 1 : Nat) : Int)), .v (.int k (((hi 0 : Nat) : Int) - ((hi 1 : Nat) : Int))))]
  | .u n => [(none, .u n), (some (n % 18446744073709551616 = hi 0 % 18446744073709551616), .u (hi 0)), (some (n % 18446744073709551616 = hi 0), .v (.int .u64 ((hi 0 : Nat) : Int)))]
  | r => [(none, r)]

theorem altsOf_rep {hi : Nat → Nat} {r r' : AV} {k : Nat} {c : Option Prop} (h : (altsOf hi r)[k]? = some (c, r')) (hc : c.getD True) {ρ : Names} {x : Value} (hr : Rep ρ r x) : Rep ρ r' x := by
  unfold altsOf at h
  split at h
  · match k, h with
    | 0, h => simp at h; obtain ⟨_, rfl⟩ := h; exact hr
    | 1, h => simp at h; obtain ⟨rfl, rfl⟩ := h; simp only [Option.getD_some] at hc; subst hc; exact hr
    | 2, h => simp at h; obtain ⟨rfl, rfl⟩ := h; simp only [Option.getD_some] at hc; subst hc; exact hr
    | k + 3, h => simp at h
  · match k, h with
    | 0, h => simp at h; obtain ⟨_, rfl⟩ := h; exact hr
    | 1, h => simp at h; obtain ⟨rfl, rfl⟩ := h; simp only [Option.getD_some] at hc; rw [← hc]; exact hr
    | 2, h => simp at h; obtain ⟨rfl, rfl⟩ := h; simp only [Option.getD_some] at hc; obtain ⟨rfl, rfl⟩ := hc; simp only [Rep, u64] at hr ⊢; exact hr
    | 3, h => simp at h; obtain ⟨rfl, rfl⟩ := h; simp only [Option.getD_some] at hc; rw [← hc]; exact hr
    | k + 4, h => simp at h
  · match k, h with
    | 0, h => simp at h; obtain ⟨_, rfl⟩ := h; exact hr
    | 1, h => simp at h; obtain ⟨rfl, rfl⟩ := h; simp only [Option.getD_some] at hc; simp only [Rep, u64] at hr ⊢; rw [← hc]; exact hr
    | 2, h => simp at h; obtain ⟨rfl, rfl⟩ := h; simp only [Option.getD_some] at hc; simp only [Rep, u64] at hr ⊢; rw [← hc]; exact hr
    | k + 3, h => simp at h
  · match k, h with
    | 0, h => simp at h; obtain ⟨_, rfl⟩ := h; exact hr
    | k + 1, h => simp at h

/-- Does what an operation comes to hang on slots alone? -/
def heapless : Op → Bool
  | .move .. | .assign .. | .pick .. | .build .. | .fieldAddr .. | .field .. | .indexAddr .. | .index .. | .extract .. | .unOp .. | .binOp .. | .slice .. | .makeFunc .. | .makeInterface .. | .nilCheck .. => true
  | _ => false

/-- The blocks that a rule may look at. -/
def seen (op : Op) (h : Heap) : Heap := match heapless op with | true => .nil | false => h

theorem seen_at {B : Nat} {ρ : Names} {h : Heap} {w : World} (hh : HAt B ρ h w) (op : Op) : HAt B ρ (seen op h) w := by
  unfold seen
  split
  · exact ⟨fun id blk hi => (by rw [Tr.get_nil] at hi; cases hi), hh.lt, hh.size⟩
  · exact hh

def altA (P : Program) (X : Rules P) (env : List Entry) (ora : Ora) (h : Heap) (t : Sl) (op : Op) : Option Alts :=
  match ora.ru with
  | r + 1 => match X.q[r]? with | some q => some (q.fn ora (seen op h) (op.operands.toList.map (evA t)) op) | none => none
  | 0 =>
  match valA P h t op with
  | some r => some (altsOf ora.hi r)
  | none =>
    match op with
    | .call { callee := .value f, args, argTypes := _ } =>
      match evA t f with
      | .clo g first cap =>
        match lookE env g, evXs h (first ++ args.toList.map (evA t) ++ cap) with
        | some e, some l => some (e.fn ora.hi l)
        | _, _ => none
      | _ => none
    | .call { callee := .invoke r m, args, argTypes := _ } =>
      match evA t r with
      | .ifc T a =>
        match methodAt P T m with
        | some g =>
          match lookE env g, evXs h (a :: args.toList.map (evA t)) with
          | some e, some l => some (e.fn ora.hi l)
          | _, _ => none
        | none => none
      | _ => none
    | .binOp .eql T x y _ =>
      match evA t x, evA t y with
      | .ag a, .ag b => if eqOK P T a b then some [(some (flat a = flat b), .v (.bool true)), (some (flat a ≠ flat b), .v (.bool false))] else none
      | _, _ => none
    | .binOp .neq T x y _ =>
      match evA t x, evA t y with
      | .ag a, .ag b => if eqOK P T a b then some [(some (flat a = flat b), .v (.bool false)), (some (flat a ≠ flat b), .v (.bool true))] else none
      | _, _ => none
    | _ => none

theorem below_step {w0 w w' : World} (h : Below w0.heap.size w0 w) (h' : Below w.heap.size w w') : Below w0.heap.size w0 w' := h.trans (h'.mono h.size)

theorem valA_nd {h : Heap} {t : Sl} {op : Op} {r : AV} (hv : valA P h t op = some r) : ∀ c, op ≠ .defer c := by
  intro c e; subst e; simp [valA] at hv

theorem alt_wp {X : Rules P} {F : Fence} (hF : WideF F) (n : Nat) {B : Nat} {w : World} {ρ : Names} {t : Sl} {a : Act} {h : Heap} {env : List Entry} {ora : Ora} (henv : EnvOK P env) (hs : Slots ρ t a.tmps) (hh : HAt B ρ h w) (o : Oper) {alts : Alts} (ha : altA P X env ora h t o.op = some alts)
    {c : Option Prop} {r : AV} {k : Nat} (hk : alts[k]? = some (c, r)) (hc : c.getD True) {K : Act → World → Prop} {Q : Exit → Act → World → Prop}
    (hK : ∀ x w', Rep ρ r x → Below w.heap.size w w' → K (a.put o.dst x) w') : o.wpIn F n P a w K Q := by
  unfold altA at ha
  split at ha
  · split at ha
    · rename_i q hq
      simp only [Option.some.injEq] at ha; subst ha
      obtain ⟨x, h1, h2⟩ := q.ok _ _ _ _ _ _ _ hk hc a o rfl (slots_map hs _) (seen_at hh _)
      refine wpIn_iff hF (q.nd _ _ _ _ _ _ hk) ?_
      rw [h1]
      exact hK x w h2 (Below.refl _ _)
    · cases ha
  split at ha
  · rename_i r' hv
    simp only [Option.some.injEq] at ha
    subst ha
    obtain ⟨x, h1, h2⟩ := valA_run hs hh o hv
    refine wpIn_iff hF (valA_nd hv) ?_
    rw [h1]
    exact hK x w (altsOf_rep hk hc h2) (Below.refl _ _)
  · split at ha
    · rename_i f args at' hop
      split at ha
      · rename_i g first cap hf
        split at ha
        · rename_i e l he hl
          simp only [Option.some.injEq] at ha
          subst ha
          obtain ⟨hef, hok⟩ := lookE_ok henv he
          obtain ⟨v, hv, hcalls⟩ := hok ora.hi _ c r (List.mem_of_getElem? hk) hc
          have hfe := rep_evA hs f
          rw [hf] at hfe
          simp only [Rep] at hfe
          obtain ⟨xs, ys, h1, h2, h3⟩ := hfe
          have hx : XReps w l (xs ++ args.toList.map a.eval ++ ys) := evXs_spec hh _ _ _ (reps_append (reps_append h1 (slots_map hs _)) h2) hl
          have e1 : o.op = .call { callee := .value f, args := args, argTypes := at' } := by assumption
          have hrun : (execOp a.eval o).run P w = (callFunc e.f (xs ++ args.toList.map a.eval ++ ys).toArray).run P w := by
            simp only [execOp, e1, Sem.run_bind, resolve, h3, Deferred.ofValue, Sem.run_pure, Result.andThen_ok, invoke]
            rw [← hef]
            congr 2
            apply Array.toList_inj.1
            simp
          refine wpIn_iff hF (fun c hc' => by rw [e1] at hc'; cases hc') ?_
          rw [hrun]
          rcases hcalls w _ hx with hc' | ⟨hc1, hc'⟩
          · rw [hc']
            exact hK v w (rep_val hv) (Below.refl _ _)
          · rw [hc1]
            simp only [Oper.uponIn]
            refine ⟨hF.depth, (hF.calls hc').mono fun en w' ⟨h1, h2⟩ => ?_⟩
            subst h1
            exact hK v w' (rep_val hv) h2
        · cases ha
      · cases ha
    · rename_i rr m args at' hop
      split at ha
      · rename_i T a' hr
        split at ha
        · rename_i g hg
          split at ha
          · rename_i e l he hl
            simp only [Option.some.injEq] at ha
            subst ha
            obtain ⟨hef, hok⟩ := lookE_ok henv he
            obtain ⟨v, hv, hcalls⟩ := hok ora.hi _ c r (List.mem_of_getElem? hk) hc
            have hre := rep_evA hs rr
            rw [hr] at hre
            simp only [Rep] at hre
            obtain ⟨y, h1, h3⟩ := hre
            have hx : XReps w l (y :: args.toList.map a.eval) := evXs_spec hh (a' :: args.toList.map (evA t)) (y :: args.toList.map a.eval) _ (by simp only [Reps]; exact ⟨y, _, rfl, h1, slots_map hs _⟩) hl
            have e1 : o.op = .call { callee := .invoke rr m, args := args, argTypes := at' } := by assumption
            have hrun : (execOp a.eval o).run P w = (callFunc e.f (y :: args.toList.map a.eval).toArray).run P w := by
              have e2 := methodAt_run hg y (args.map a.eval) w
              rw [← hef] at e2
              have e3 : (y :: args.toList.map a.eval).toArray = #[y] ++ args.map a.eval := by apply Array.toList_inj.1; simp
              have e4 : (#[Value.iface T y] ++ args.map a.eval)[0]? = some (.iface T y) := by simp [Array.getElem?_append]
              have e5 : (args.map a.eval).extract 0 args.size = args.map a.eval := by
                simp
              rw [e3, ← e2]
              simp [execOp, e1, resolve, h3, invoke, e4, e5]
            refine wpIn_iff hF (fun c hc' => by rw [e1] at hc'; cases hc') ?_
            rw [hrun]
            rcases hcalls w _ hx with hc' | ⟨hc1, hc'⟩
            · rw [hc']
              exact hK v w (rep_val hv) (Below.refl _ _)
            · rw [hc1]
              simp only [Oper.uponIn]
              refine ⟨hF.depth, (hF.calls hc').mono fun en w' ⟨h1, h2⟩ => ?_⟩
              subst h1
              exact hK v w' (rep_val hv) h2
          · cases ha
        · cases ha
      · cases ha
    · rename_i T x y yt hop
      split at ha
      · rename_i xs ys hx hy
        split at ha
        · rename_i heq
          simp only [Option.some.injEq] at ha
          subst ha
          have ex := rep_evA hs x
          have ey := rep_evA hs y
          rw [hx] at ex; rw [hy] at ey
          simp only [Rep] at ex ey
          replace ex := ex.2
          replace ey := ey.2
          have e1 : o.op = .binOp .eql T x y yt := by assumption
          have key : ∀ b : Bool, ((b = true) ↔ flat xs = flat ys) → r = .v (.bool b) → o.wpIn F n P a w K Q := by
            intro b hb hr
            have := eqOK_run (ρ := ρ) heq w x y false b hb
            have hrun : (execOp a.eval o).run P w = .ok (.value (.bool b)) w := by
              simp only [execOp, e1, ex, ey]
              simp only [Bool.false_eq_true, if_false] at this
              rw [Sem.run_bind, this]
              rfl
            refine wpIn_iff hF (fun c hc' => by rw [e1] at hc'; cases hc') ?_
            rw [hrun]
            exact hK _ w (by rw [hr]; rfl) (Below.refl _ _)
          match k, hk with
          | 0, hk => simp at hk; obtain ⟨rfl, rfl⟩ := hk; exact key true (by simpa using hc) rfl
          | 1, hk => simp at hk; obtain ⟨rfl, rfl⟩ := hk; exact key false (by simpa using hc) rfl
          | k + 2, hk => simp at hk
        · cases ha
      · cases ha
    · rename_i T x y yt hop
      split at ha
      · rename_i xs ys hx hy
        split at ha
        · rename_i heq
          simp only [Option.some.injEq] at ha
          subst ha
          have ex := rep_evA hs x
          have ey := rep_evA hs y
          rw [hx] at ex; rw [hy] at ey
          simp only [Rep] at ex ey
          replace ex := ex.2
          replace ey := ey.2
          have e1 : o.op = .binOp .neq T x y yt := by assumption
          have key : ∀ b : Bool, ((b = true) ↔ flat xs = flat ys) → r = .v (.bool (!b)) → o.wpIn F n P a w K Q := by
            intro b hb hr
            have := eqOK_run (ρ := ρ) heq w x y true b hb
            have hrun : (execOp a.eval o).run P w = .ok (.value (.bool (!b))) w := by
              simp only [execOp, e1, ex, ey]
              simp only [if_true] at this
              rw [Sem.run_bind, this]
              rfl
            refine wpIn_iff hF (fun c hc' => by rw [e1] at hc'; cases hc') ?_
            rw [hrun]
            exact hK _ w (by rw [hr]; rfl) (Below.refl _ _)
          match k, hk with
          | 0, hk => simp at hk; obtain ⟨rfl, rfl⟩ := hk; exact key true (by simpa using hc) rfl
          | 1, hk => simp at hk; obtain ⟨rfl, rfl⟩ := hk; exact key false (by simpa using hc) rfl
          | k + 2, hk => simp at hk
        · cases ha
      · cases ha
    · cases ha


/-- Zero cells, one by one. -/
def zerosA (z : List Value) (n : Nat) : List Ch := (List.range n).map fun j => .c (z.getD (j % z.length) default)
theorem zerosA_flat (ρ : Names) (z : Array Value) (n : Nat) : flatR ρ (zerosA z.toList n) = ((Array.range n).map (z[· % z.size]!)).toList ∧ DefC ρ (zerosA z.toList n) := by
  have e : zerosA z.toList n = ((Array.range n).map (z[· % z.size]!)).toList.map .c := by
    unfold zerosA
    rw [Array.toList_map, Array.toList_range, List.map_map]
    refine List.map_congr_left fun j _ => ?_
    simp only [Function.comp]
    congr 1
    rw [Array.length_toList, List.getD_eq_getElem?_getD, getElem!_def]
    simp only [Array.getElem?_toList]
    cases z[j % z.size]? <;> rfl
  rw [e]
  exact flatR_c ρ _
/-- What 'buildSlice' lays. -/
def rowA (P : Program) (T : TypeId) (len : Nat) (parts : List (Nat × AV)) : Option (List Ch × TypeId) :=
  match P.underlying T with
  | some (.slice e) =>
    match P.info? e with
    | some ie =>
      match Nat.ble (len * ie.size) 16777216, ie.zero with
      | true, some z => (fillA (fun i => some (i * ie.size, ie.size)) (zerosA (if len * ie.size = 0 then [] else z.cells.toList) (len * ie.size)) parts).map fun cs => (cs, e)
      | _, _ => none
    | none => none
  | _ => none
/-- What 'make' lays. -/
def makeA (P : Program) (T : TypeId) (n m : Int) : Option (List Ch × TypeId) :=
  match P.underlying T with
  | some (.slice e) =>
    match P.info? e with
    | some ie =>
      match ie.zero with
      | some z => if n = m ∧ 0 ≤ n ∧ (ie.bytes : Int) * n ≤ 281474976710656 ∧ n ≤ 9223372036854775807 then some (zerosA z.cells.toList (n.toNat * ie.size), e) else none
      | none => none
    | none => none
  | _ => none

/-- One step that reads and makes: its condition, its value, its new block. -/
def stepQ (P : Program) (X : Rules P) (env : List Entry) (h : Heap) (t : Sl) (id : Nat) (ora : Ora) (op : Op) : Option (Option Prop × AV × Option Blk) :=
  match op with
  | .alloc T => (zeroA P T).map fun cs => (none, .p id 0, some (.own cs T))
  | .box T x => (boxA (evA t x)).map fun cs => (none, .p id 0, some (.own cs T))
  | .buildSlice T len ps => (rowA P T len (ps.toList.map fun (i, x) => (i, evA t x))).map fun p => (none, .sl id 0 len len, some (.own p.1 p.2))
  | .makeSlice T l c =>
    match ora.ru, evA t l, evA t c with
    | 0, .v (.int _ n), .v (.int _ m) => (makeA P T n m).map fun p => (none, .sl id 0 n.toNat n.toNat, some (.own p.1 p.2))
    | _, _, _ => none
  | .store _ _ _ => none
  | op =>
    match altA P X env ora h t op with
    | some alts => match alts[ora.ch]? with | some (c, r) => some (c, r, none) | none => none
    | none => none
end Go.Ev
