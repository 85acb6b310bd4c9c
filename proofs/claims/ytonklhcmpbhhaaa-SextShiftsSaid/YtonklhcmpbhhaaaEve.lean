/- The evaluator's steps: calls by contracts, comparisons, new blocks. -/
import Derived.Test.YtonklhcmpbhhaaaEvd
set_option linter.unusedSimpArgs false
set_option linter.unusedVariables false
namespace Go.Ev
open Go.RowKit

variable {P : Program}

/-- An argument of a call: a value; a function; a slice whose cells are read. -/
inductive XV where
  | t (x : TV)
  | f (g : FuncId) (first : List TV)
  | rd (cs : List Ch) (cap : Nat)

def XRep (w : World) (x : XV) (y : Value) : Prop :=
  match x with
  | .t x => y = x.val
  | .f g l => y = .func (.func g) (l.map TV.val).toArray #[]
  | .rd cs cap => ∃ b off, y = .slice (some ⟨b, off, none⟩) (sizes cs) cap ∧ b < w.heap.size ∧ w.rangeAt b off (flat cs)

def XReps (w : World) : List XV → List Value → Prop
  | [], [] => True
  | x :: l, y :: r => XRep w x y ∧ XReps w l r
  | _, _ => False

def evX (h : Heap) (t : Sl) (x : Operand) : Option XV :=
  match evA t x with
  | .v y => some (.t (.v y))
  | .u y => some (.t (.u y))
  | .ag cs => some (.t (.ag cs))
  | .clo g l => some (.f g l)
  | .sl id off len cap => match h id with | some blk => (sub blk.cs off len).map fun l => .rd l cap | none => none
  | _ => none

def evXs (h : Heap) (t : Sl) : List Operand → Option (List XV)
  | [] => some []
  | x :: l => match evX h t x, evXs h t l with
    | some a, some r => some (a :: r)
    | _, _ => none

theorem evX_spec {ρ : Names} {t : Sl} {a : Act} {h : Heap} {B : Nat} {w : World} (hs : Slots ρ t a.tmps) (hh : HAt B ρ h w) {x : Operand} {r : XV} (hr : evX h t x = some r) : XRep w r (a.eval x) := by
  have hx := rep_evA hs x
  unfold evX at hr
  split at hr
  · rename_i y hy; rw [hy] at hx; simp only [Option.some.injEq] at hr; subst hr; exact hx
  · rename_i y hy; rw [hy] at hx; simp only [Option.some.injEq] at hr; subst hr; exact hx
  · rename_i y hy; rw [hy] at hx; simp only [Option.some.injEq] at hr; subst hr; exact hx
  · rename_i g l hy; rw [hy] at hx; simp only [Option.some.injEq] at hr; subst hr; exact hx
  · rename_i id off len cap hy
    rw [hy] at hx
    obtain ⟨b, h1, h2⟩ := hx
    split at hr
    · rename_i blk hblk
      obtain ⟨b', g1, g2, g3⟩ := hh.at_ id blk hblk
      rw [h1] at g1; simp only [Option.some.injEq] at g1; subst g1
      simp only [Option.map_eq_some_iff] at hr
      obtain ⟨l, hl, rfl⟩ := hr
      obtain ⟨k1, k2, k3⟩ := sub_spec hl
      refine ⟨b, off, by rw [h2, ← flat_length, k2], hh.lt _ _ h1, fun j v hv => ?_⟩
      rw [← k1] at hv
      simp only [List.getElem?_take, List.getElem?_drop] at hv
      split at hv
      · simp [World.cell?, g3, hv]
      · cases hv
    · cases hr
  · cases hr

theorem evXs_spec {ρ : Names} {t : Sl} {a : Act} {h : Heap} {B : Nat} {w : World} (hs : Slots ρ t a.tmps) (hh : HAt B ρ h w) : ∀ (l : List Operand) (r : List XV), evXs h t l = some r → XReps w r (l.map a.eval)
  | [], r, hr => by simp [evXs] at hr; subst hr; trivial
  | x :: l, r, hr => by
    unfold evXs at hr
    split at hr
    · rename_i b r' hb hr'
      simp only [Option.some.injEq] at hr
      subst hr
      exact ⟨evX_spec hs hh hb, evXs_spec hs hh l r' hr'⟩
    · cases hr

theorem XReps.append {w : World} : ∀ {a : List XV} {b : List XV} {x y : List Value}, XReps w a x → XReps w b y → XReps w (a ++ b) (x ++ y)
  | [], _, [], _, _, h => h
  | _ :: _, _, _ :: _, _, h, h' => ⟨h.1, XReps.append h.2 h'⟩
  | [], _, _ :: _, _, h, _ => h.elim
  | _ :: _, _, [], _, h, _ => h.elim

theorem XReps.tvs {w : World} : ∀ l : List TV, XReps w (l.map .t) (l.map TV.val)
  | [] => trivial
  | _ :: l => ⟨rfl, XReps.tvs l⟩

/-- What an operation may come to: under a condition, a value. -/
abbrev Alts := List (Option Prop × AV)

/-- What is chosen at an operation: which outcome, and numbers that name what comes of it. -/
structure Ora where
  ch : Nat
  hi : Nat → Nat

/-- A contract: what a function hands back for such arguments. -/
structure Entry where
  f : FuncId
  fn : (Nat → Nat) → List XV → Alts

/-- How the call of a function goes: it hands back at once, or its body is entered. -/
def Comes (P : Program) (f : FuncId) (vs : List Value) (w : World) (v : Value) : Prop :=
  (callFunc f vs.toArray).run P w = .ok (.value v) w ∨
  ((callFunc f vs.toArray).run P w = .ok (.enter f vs.toArray) w ∧ Calls P f vs.toArray w (fun en w' => en = .returned v ∧ Below w.heap.size w w'))

def Entry.OK (P : Program) (e : Entry) : Prop :=
  ∀ hi args c r, (c, r) ∈ e.fn hi args → c.getD True → ∃ v, r.val? = some v ∧ ∀ w vs, XReps w args vs → Comes P e.f vs w v

def lookE : List Entry → FuncId → Option Entry
  | [], _ => none
  | e :: l, f => if Nat.beq e.f f then some e else lookE l f

def EnvOK (P : Program) : List Entry → Prop
  | [] => True
  | e :: l => e.OK P ∧ EnvOK P l

theorem lookE_ok : ∀ {l : List Entry} {f : FuncId} {e : Entry}, EnvOK P l → lookE l f = some e → e.f = f ∧ e.OK P
  | [], _, _, _, h => by simp [lookE] at h
  | e0 :: l, f, e, ho, h => by
    unfold lookE at h
    split at h
    · rename_i hb
      simp only [Option.some.injEq] at h; subst h
      exact ⟨Nat.eq_of_beq_eq_true hb, ho.1⟩
    · exact lookE_ok ho.2 h

/-- A number may be given a name, a test may be taken for granted. -/
def altsOf (hi : Nat → Nat) : AV → Alts
  | .v (.bool b) => [(none, .v (.bool b)), (some (b = true), .v (.bool true)), (some (b = false), .v (.bool false))]
  | .v (.int k n) => [(none, .v (.int k n)), (some (n = ((hi 0 : Nat) : Int)), .v (.int k ((hi 0 : Nat) : Int)))]
  | .u n => [(none, .u n), (some (n % 18446744073709551616 = hi 0 % 18446744073709551616), .u (hi 0))]
  | r => [(none, r)]

theorem altsOf_rep {hi : Nat → Nat} {r r' : AV} {k : Nat} {c : Option Prop} (h : (altsOf hi r)[k]? = some (c, r')) (hc : c.getD True) {ρ : Names} {x : Value} (hr : Rep ρ r x) : Rep ρ r' x := by
  unfold altsOf at h
  split at h
  · match k, h with
    | 0, h => simp at h; obtain ⟨_, rfl⟩ := h; exact hr
    | 1, h => simp at h; obtain ⟨rfl, rfl⟩ := h; simp only [Option.getD_some] at hc; subst hc; exact hr
    | 2, h => simp at h; obtain ⟨rfl, rfl⟩ := h; simp only [Option.getD_some] at hc; subst hc; exact hr
    | k + 3, h => simp at h
  · match k, h with
    | 0, h => simp at h; obtain ⟨_, rfl⟩ := h; exact hr
    | 1, h => simp at h; obtain ⟨rfl, rfl⟩ := h; simp only [Option.getD_some] at hc; rw [← hc]; exact hr
    | k + 2, h => simp at h
  · match k, h with
    | 0, h => simp at h; obtain ⟨_, rfl⟩ := h; exact hr
    | 1, h => simp at h; obtain ⟨rfl, rfl⟩ := h; simp only [Option.getD_some] at hc; simp only [Rep, u64] at hr ⊢; rw [← hc]; exact hr
    | k + 2, h => simp at h
  · match k, h with
    | 0, h => simp at h; obtain ⟨_, rfl⟩ := h; exact hr
    | k + 1, h => simp at h

def altA (P : Program) (env : List Entry) (hi : Nat → Nat) (h : Heap) (t : Sl) (op : Op) : Option Alts :=
  match valA P h t op with
  | some r => some (altsOf hi r)
  | none =>
    match op with
    | .call { callee := .value f, args, argTypes := _ } =>
      match evA t f with
      | .clo g first =>
        match lookE env g, evXs h t args.toList with
        | some e, some l => some (e.fn hi (first.map .t ++ l))
        | _, _ => none
      | _ => none
    | .binOp .eql T x y _ =>
      match evA t x, evA t y with
      | .ag a, .ag b => if eqOK P T a b then some [(some (flat a = flat b), .v (.bool true)), (some (flat a ≠ flat b), .v (.bool false))] else none
      | _, _ => none
    | .binOp .neq T x y _ =>
      match evA t x, evA t y with
      | .ag a, .ag b => if eqOK P T a b then some [(some (flat a = flat b), .v (.bool false)), (some (flat a ≠ flat b), .v (.bool true))] else none
      | _, _ => none
    | _ => none

/-- What is true of a world stays true where what lay in it lies as it lay. -/
theorem HRel.below {B : Nat} {ρ : Names} {h : Heap} {w w' : World} (hh : HRel B ρ h w) (hb : Below w.heap.size w w') : HRel B ρ h w' :=
  ⟨⟨fun id blk hi => let ⟨b, h1, h2, h3⟩ := hh.at_ id blk hi; ⟨b, h1, h2, by rw [hb.block b (hh.lt _ _ h1)]; exact h3⟩,
   fun i b hi => Nat.lt_of_lt_of_le (hh.lt i b hi) hb.size⟩, hh.inj, hh.none_⟩

theorem below_step {w0 w w' : World} (h : Below w0.heap.size w0 w) (h' : Below w.heap.size w w') : Below w0.heap.size w0 w' := h.trans (h'.mono h.size)

theorem alt_wp {w0 w : World} {ρ : Names} {t : Sl} {a : Act} {h : Heap} {env : List Entry} {hi : Nat → Nat} (henv : EnvOK P env) (hs : Slots ρ t a.tmps) (hh : HAt w0.heap.size ρ h w) (o : Oper) {alts : Alts} (ha : altA P env hi h t o.op = some alts)
    {c : Option Prop} {r : AV} {k : Nat} (hk : alts[k]? = some (c, r)) (hc : c.getD True) {K : Act → World → Prop} {Q : Exit → Act → World → Prop}
    (hK : ∀ x w', Rep ρ r x → Below w.heap.size w w' → K (a.put o.dst x) w') : o.wp P a w K Q := by
  unfold altA at ha
  split at ha
  · rename_i r' hv
    simp only [Option.some.injEq] at ha
    subst ha
    obtain ⟨x, h1, h2⟩ := valA_run (w0 := w0) hs hh o hv
    unfold Oper.wp
    rw [h1]
    exact hK x w (altsOf_rep hk hc h2) (Below.refl _ _)
  · split at ha
    · rename_i f args at' hop
      split at ha
      · rename_i g first hf
        split at ha
        · rename_i e l he hl
          simp only [Option.some.injEq] at ha
          subst ha
          obtain ⟨hef, hok⟩ := lookE_ok henv he
          obtain ⟨v, hv, hcalls⟩ := hok hi _ c r (List.mem_of_getElem? hk) hc
          have hfe := rep_evA hs f
          rw [hf] at hfe
          simp only [Rep] at hfe
          have hx : XReps w (first.map .t ++ l) (first.map TV.val ++ args.toList.map a.eval) := (XReps.tvs first).append (evXs_spec hs hh _ _ hl)
          have hrun : (execOp a.eval o).run P w = (callFunc e.f (first.map TV.val ++ args.toList.map a.eval).toArray).run P w := by
            have e1 : o.op = .call { callee := .value f, args := args, argTypes := at' } := by assumption
            simp only [execOp, e1, Sem.run_bind, resolve, hfe, Deferred.ofValue, Sem.run_pure, Result.andThen_ok, invoke]
            rw [← hef]
            congr 2
            apply Array.toList_inj.1
            simp
          unfold Oper.wp
          rw [hrun]
          rcases hcalls w _ hx with hc' | ⟨hc1, hc'⟩
          · rw [hc']
            exact hK v w (rep_val hv) (Below.refl _ _)
          · rw [hc1]
            simp only [Oper.upon]
            refine hc'.mono fun en w' ⟨h1, h2⟩ => ?_
            subst h1
            exact hK v w' (rep_val hv) h2
        · cases ha
      · cases ha
    · rename_i T x y yt hop
      split at ha
      · rename_i xs ys hx hy
        split at ha
        · rename_i heq
          simp only [Option.some.injEq] at ha
          subst ha
          have ex := rep_evA hs x
          have ey := rep_evA hs y
          rw [hx] at ex; rw [hy] at ey
          simp only [Rep] at ex ey
          have e1 : o.op = .binOp .eql T x y yt := by assumption
          have key : ∀ b : Bool, ((b = true) ↔ flat xs = flat ys) → r = .v (.bool b) → o.wp P a w K Q := by
            intro b hb hr
            have := eqOK_run heq w x y false b hb
            unfold Oper.wp
            have hrun : (execOp a.eval o).run P w = .ok (.value (.bool b)) w := by
              simp only [execOp, e1, ex, ey]
              simp only [Bool.false_eq_true, if_false] at this
              rw [Sem.run_bind, this]
              rfl
            rw [hrun]
            exact hK _ w (by rw [hr]; rfl) (Below.refl _ _)
          match k, hk with
          | 0, hk => simp at hk; obtain ⟨rfl, rfl⟩ := hk; exact key true (by simpa using hc) rfl
          | 1, hk => simp at hk; obtain ⟨rfl, rfl⟩ := hk; exact key false (by simpa using hc) rfl
          | k + 2, hk => simp at hk
        · cases ha
      · cases ha
    · rename_i T x y yt hop
      split at ha
      · rename_i xs ys hx hy
        split at ha
        · rename_i heq
          simp only [Option.some.injEq] at ha
          subst ha
          have ex := rep_evA hs x
          have ey := rep_evA hs y
          rw [hx] at ex; rw [hy] at ey
          simp only [Rep] at ex ey
          have e1 : o.op = .binOp .neq T x y yt := by assumption
          have key : ∀ b : Bool, ((b = true) ↔ flat xs = flat ys) → r = .v (.bool (!b)) → o.wp P a w K Q := by
            intro b hb hr
            have := eqOK_run heq w x y true b hb
            unfold Oper.wp
            have hrun : (execOp a.eval o).run P w = .ok (.value (.bool (!b))) w := by
              simp only [execOp, e1, ex, ey]
              simp only [if_true] at this
              rw [Sem.run_bind, this]
              rfl
            rw [hrun]
            exact hK _ w (by rw [hr]; rfl) (Below.refl _ _)
          match k, hk with
          | 0, hk => simp at hk; obtain ⟨rfl, rfl⟩ := hk; exact key true (by simpa using hc) rfl
          | 1, hk => simp at hk; obtain ⟨rfl, rfl⟩ := hk; exact key false (by simpa using hc) rfl
          | k + 2, hk => simp at hk
        · cases ha
      · cases ha
    · cases ha

def updH (h : Heap) (id : Nat) : Option Blk → Heap
  | none => h
  | some b => fun j => if Nat.beq j id then some b else h j

def boxA : AV → Option (List Ch)
  | .ag cs => some cs
  | .u h => some [.n 1 h]
  | .v (.agg _) => none
  | .v (.tuple _) => none
  | .v x => some [.c x]
  | _ => none

theorem boxA_spec {ρ : Names} {a : AV} {x : Value} {cs : List Ch} (h : boxA a = some cs) (hr : Rep ρ a x) : x.cells = (flat cs).toArray := by
  unfold boxA at h
  split at h
  · simp only [Option.some.injEq] at h; subst h; simp only [Rep] at hr; subst hr; rfl
  · simp only [Option.some.injEq] at h; subst h; simp only [Rep] at hr; subst hr; rfl
  · cases h
  · cases h
  · rename_i y h1 h2
    simp only [Option.some.injEq] at h; subst h; simp only [Rep] at hr; subst hr
    cases x <;> first | rfl | exact absurd rfl (h1 _) | exact absurd rfl (h2 _)
  · cases h

/-- One step that reads and makes: its condition, its value, its new block. -/
def stepQ (P : Program) (env : List Entry) (h : Heap) (t : Sl) (id : Nat) (ch : Ora) (op : Op) : Option (Option Prop × AV × Option Blk) :=
  match op with
  | .alloc T => (zeroA P T).map fun cs => (none, .p id 0, some ⟨cs, T⟩)
  | .box T x => (boxA (evA t x)).map fun cs => (none, .p id 0, some ⟨cs, T⟩)
  | op =>
    match altA P env ch.hi h t op with
    | some alts => match alts[ch.ch]? with | some (c, r) => some (c, r, none) | none => none
    | none => none

theorem HRel.new {B : Nat} {ρ : Names} {h : Heap} {w : World} (hh : HRel B ρ h w) (hB : B ≤ w.heap.size) {id : Nat} (hid : h id = none) (cs : List Ch) (T : TypeId) :
    HRel B (fun j => if j = id then some w.heap.size else ρ j) (updH h id (some ⟨cs, T⟩)) (w.alloc (.cells (flat cs).toArray T)) ∧ ρ.le (fun j => if j = id then some w.heap.size else ρ j) := by
  have hn := hh.none_ id hid
  refine ⟨⟨⟨fun j blk hj => ?_, fun i b hi => ?_⟩, fun i j b hi hj => ?_, fun i hi => ?_⟩, fun i b hi => ?_⟩
  · simp only [updH] at hj
    split at hj
    · rename_i hb
      have hj' := Nat.eq_of_beq_eq_true hb
      simp only [Option.some.injEq] at hj; subst hj
      exact ⟨w.heap.size, by simp [hj'], hB, by show (w.heap.push _)[w.heap.size]? = _; simp⟩
    · rename_i hb
      have hj' : j ≠ id := fun e => hb (by rw [e]; exact Nat.beq_refl id)
      obtain ⟨b, h1, h2, h3⟩ := hh.at_ j blk hj
      exact ⟨b, by simp [hj', h1], h2, by rw [Below.heap_alloc _ _ _ (hh.lt _ _ h1)]; exact h3⟩
  · split at hi
    · simp only [Option.some.injEq] at hi; subst hi; simp
    · have := hh.lt _ _ hi; simp; omega
  · split at hi
    · split at hj
      · simp_all
      · simp only [Option.some.injEq] at hi; have := hh.lt _ _ hj; omega
    · split at hj
      · simp only [Option.some.injEq] at hj; have := hh.lt _ _ hi; omega
      · exact hh.inj i j b hi hj
  · simp only [updH] at hi
    split at hi
    · cases hi
    · rename_i hb
      have hj' : i ≠ id := fun e => hb (by rw [e]; exact Nat.beq_refl id)
      simp [hj', hh.none_ i hi]
  · have : i ≠ id := fun e => by rw [e, hn] at hi; cases hi
    simp [this, hi]

theorem HRel.sub {B : Nat} {ρ : Names} {h h0 : Heap} {w : World} (hh : HRel B ρ h w) (hle : ∀ i b, h0 i = some b → h i = some b) : HAt B ρ h0 w :=
  ⟨fun id blk hi => hh.at_ id blk (hle id blk hi), hh.lt⟩
end Go.Ev
