/- Pruned: Ia. -/
import Derived.Test.YtoigbjimhcgolaaQGa
import Derived.Maps.Keyed
/- Maps: a block that is a map of known entries; rules for a map's making, its reading, its writing, its length; a rule for an operation on values that is told what comes of it; a rule for a call that lays several blocks anew. Nothing here names a program. -/
set_option linter.unusedSimpArgs false
set_option linter.unusedVariables false
set_option linter.unusedSectionVars false
namespace Go.Ev
open Go.RowKit

/-- Entries by their keys: the value at a key. -/
def lookM {α β : Type} [DecidableEq α] : List (α × β) → α → Option β
  | [], _ => none
  | (x, y) :: l, a => if x = a then some y else lookM l a
/-- .. written: in the entry's place, or behind all. -/
def putL {α β : Type} [DecidableEq α] : List (α × β) → α → β → List (α × β)
  | [], a, b => [(a, b)]
  | (x, y) :: l, a, b => if x = a then (a, b) :: l else (x, y) :: putL l a b
/-- No key twice. -/
def DistL {α β : Type} (l : List (α × β)) : Prop := (l.map (·.1)).Nodup
def ents {α β : Type} (kf : α → Value) (vf : β → Value) : Nat → List (α × β) → List MapEntry
  | _, [] => []
  | n, (x, y) :: l => { key := kf x, val := vf y, born := n } :: ents kf vf (n + 1) l
/-- A map of entries that came one behind another. -/
def mapO {α β : Type} (kf : α → Value) (vf : β → Value) (l : List (α × β)) : Obj := .map (ents kf vf 0 l).toArray l.length

variable {α β : Type} [DecidableEq α] {kf : α → Value} {vf : β → Value} {P : Program}
theorem ents_mem : ∀ (l : List (α × β)) (n : Nat) (e : MapEntry), e ∈ ents kf vf n l → ∃ a, e.key = kf a ∧ a ∈ l.map (·.1)
  | [], _, _, h => by cases h
  | (x, y) :: l, n, e, h => by
    simp only [ents, List.mem_cons] at h
    rcases h with rfl | h
    · exact ⟨x, rfl, by simp⟩
    · obtain ⟨a, e1, e2⟩ := ents_mem l _ e h
      exact ⟨a, e1, by simp only [List.map_cons, List.mem_cons]; exact .inr e2⟩
theorem ents_key : ∀ (l : List (α × β)) (n : Nat) (a : α), a ∈ l.map (·.1) → ∃ e, e ∈ ents kf vf n l ∧ e.key = kf a
  | [], _, _, h => by cases h
  | (x, y) :: l, n, a, h => by
    simp only [List.map_cons, List.mem_cons] at h
    rcases h with rfl | h
    · exact ⟨_, by simp only [ents, List.mem_cons]; exact .inl rfl, rfl⟩
    · obtain ⟨e, e1, e2⟩ := ents_key l (n + 1) a h
      exact ⟨e, by simp only [ents, List.mem_cons]; exact .inr e1, e2⟩
theorem lookM_none {l : List (α × β)} {a : α} (h : a ∉ l.map (·.1)) : lookM l a = none := by
  induction l with
  | nil => rfl
  | cons x l ih =>
    obtain ⟨x, y⟩ := x
    simp only [List.map_cons, List.mem_cons, not_or] at h
    simp only [lookM, if_neg (fun e : x = a => h.1 e.symm)]
    exact ih h.2
theorem putL_none {l : List (α × β)} {a : α} {b : β} (h : a ∉ l.map (·.1)) : putL l a b = l ++ [(a, b)] := by
  induction l with
  | nil => rfl
  | cons x l ih =>
    obtain ⟨x, y⟩ := x
    simp only [List.map_cons, List.mem_cons, not_or] at h
    simp only [putL, if_neg (fun e : x = a => h.1 e.symm), ih h.2, List.cons_append]
theorem ents_append (l m : List (α × β)) : ∀ n, ents kf vf n (l ++ m) = ents kf vf n l ++ ents kf vf (n + l.length) m := by
  induction l with
  | nil => intro n; rfl
  | cons x l ih => intro n; simp only [List.cons_append, ents, ih, List.length_cons]; rw [show n + 1 + l.length = n + (l.length + 1) by omega]
theorem ents_at (inj : ∀ a b, kf a = kf b → a = b) : ∀ (l : List (α × β)) (n j : Nat) (e : MapEntry) (a : α) (b : β), DistL l → (ents kf vf n l)[j]? = some e → e.key = kf a →
    (∃ y, lookM l a = some y ∧ e.val = vf y) ∧ ents kf vf n (putL l a b) = (ents kf vf n l).modify j (fun e => { e with key := kf a, val := vf b }) ∧ (putL l a b).length = l.length
  | [], _, _, _, _, _, _, h, _ => by simp [ents] at h
  | (x, y) :: l, n, 0, e, a, b, hd, h, he => by
    simp only [ents, List.getElem?_cons_zero, Option.some.injEq] at h
    subst h
    have hx := inj _ _ he
    subst hx
    exact ⟨⟨y, by simp [lookM], rfl⟩, by simp [putL, ents], by simp [putL]⟩
  | (x, y) :: l, n, j + 1, e, a, b, hd, h, he => by
    simp only [ents, List.getElem?_cons_succ] at h
    unfold DistL at hd
    simp only [List.map_cons, List.nodup_cons] at hd
    obtain ⟨c, e1, e2⟩ := ents_mem l _ e (List.mem_of_getElem? h)
    have hca : c = a := inj _ _ (e1.symm.trans he)
    subst hca
    have hne : ¬ x = c := fun q => hd.1 (q ▸ e2)
    obtain ⟨⟨z, g1, g2⟩, g3, g4⟩ := ents_at inj l (n + 1) j e c b hd.2 h he
    exact ⟨⟨z, by simp [lookM, hne, g1], g2⟩, by simp [putL, hne, ents, g3], by simp [putL, hne, g4]⟩
theorem putL_keys : ∀ (l : List (α × β)) (a : α) (b : β) (c : α), c ∈ (putL l a b).map (·.1) ↔ c = a ∨ c ∈ l.map (·.1)
  | [], a, b, c => by simp [putL]
  | (x, y) :: l, a, b, c => by
    unfold putL
    split
    · rename_i h; subst h; simp
    · simp only [List.map_cons, List.mem_cons, putL_keys l a b c]
      constructor
      · rintro (h | h | h)
        · exact .inr (.inl h)
        · exact .inl h
        · exact .inr (.inr h)
      · rintro (h | h | h)
        · exact .inr (.inl h)
        · exact .inl h
        · exact .inr (.inr h)
theorem putL_dist : ∀ (l : List (α × β)) (a : α) (b : β), DistL l → DistL (putL l a b)
  | [], a, b, _ => by simp [putL, DistL]
  | (x, y) :: l, a, b, h => by
    unfold DistL at h ⊢
    simp only [List.map_cons, List.nodup_cons] at h
    unfold putL
    split
    · rename_i e; subst e; simp only [List.map_cons, List.nodup_cons]; exact h
    · rename_i e
      simp only [List.map_cons, List.nodup_cons]
      refine ⟨fun hx => ?_, putL_dist l a b h.2⟩
      rcases (putL_keys l a b x).1 hx with q | q
      · exact e q
      · exact h.1 q
theorem lookM_put : ∀ (l : List (α × β)) (a : α) (b : β) (c : α), lookM (putL l a b) c = if c = a then some b else lookM l c
  | [], a, b, c => by
    simp only [putL, lookM]
    by_cases h : c = a
    · rw [if_pos h.symm, if_pos h]
    · rw [if_neg (fun e => h e.symm), if_neg h]
  | (x, y) :: l, a, b, c => by
    unfold putL
    split
    · rename_i e
      subst e
      simp only [lookM]
      by_cases h : c = x
      · rw [if_pos h.symm, if_pos h]
      · rw [if_neg (fun e => h e.symm), if_neg h, if_neg (fun e => h e.symm)]
    · rename_i e
      simp only [lookM, lookM_put l a b c]
      by_cases h : x = c
      · rw [if_pos h, if_pos h, if_neg (fun q => e (h.trans q))]
      · rw [if_neg h, if_neg h]

/-- What a key's type must bear. -/
structure KeyOK (P : Program) (kt : TypeId) (kf : α → Value) : Prop where
  inj : ∀ a b, kf a = kf b → a = b
  check : ∀ (w : World) (em : Bool) (a : α), (Instr.checkKey em 10000 kt (kf a)).run P w = .ok () w
  find : ∀ (w : World) (a : α) (es : List MapEntry), (∀ e ∈ es, ∃ b, e.key = kf b) →
    ((Instr.findKey kt (kf a) es).run P w = .ok none w ∧ ∀ e ∈ es, e.key ≠ kf a) ∨ ∃ j e, (Instr.findKey kt (kf a) es).run P w = .ok (some (j, e.val)) w ∧ es[j]? = some e ∧ e.key = kf a
  stays : ∀ (w : World) (a : α), (Instr.keyThatStays (kf a) (kf a)).run P w = .ok (kf a) w

theorem keyOK_int {kt : TypeId} {q : IntKind} (hk : P.underlying kt = some (.int q)) : KeyOK P kt (fun a : Int => .int q a) where
  inj a b h := by simpa using h
  check w em a := MapKept.run_checkKey hk (show MapKept.IsKey (.int q) (.int q a) from rfl) em 9999
  find w a es h := by
    have hx : MapKept.IsKey (.int q) (.int q a) := rfl
    rcases MapKept.findNow_spec hx es 0 (fun x hm => by obtain ⟨b, e⟩ := h x hm; rw [e]; rfl) with ⟨h1, h2⟩ | ⟨j, e, h1, h2, h3⟩
    · exact .inl ⟨MapKept.run_findKey hk h1, h2⟩
    · exact .inr ⟨j, e, by rw [Nat.zero_add] at h1; exact MapKept.run_findKey hk h1, h2, h3⟩
  stays w a := MapKept.run_keyThatStays (show MapKept.IsKey (.int q) (.int q a) from rfl)

/-- A map's reading comes to x. -/
def Looks (P : Program) (T : TypeId) (o : Obj) (k : Value) (ok : Bool) (x : Value) : Prop :=
  ∀ (w : World) (r : Nat), w.heap[r]? = some o → (Instr.lookup T (.map (some r)) k ok).run P w = .ok x w
/-- A map's writing makes it o'. -/
def Puts (P : Program) (T : TypeId) (o : Obj) (k v : Value) (o' : Obj) : Prop :=
  ∀ (w : World) (r : Nat), w.heap[r]? = some o → (Instr.mapUpdate T (.map (some r)) k v).run P w = .ok () { w with heap := w.heap.setIfInBounds r o' }
/-- A map's length. -/
def Lens (P : Program) (o : Obj) (n : Nat) : Prop := ∃ es c, o = .map es c ∧ es.size = n

theorem looks_map {T kt et : TypeId} (hT : P.underlying T = some (.map kt et)) (K : KeyOK P kt kf) (l : List (α × β)) (hd : DistL l) (a : α) (b : β) (h : lookM l a = some b) (ok : Bool) :
    Looks P T (mapO kf vf l) (kf a) ok (match ok with | true => .tuple #[vf b, .bool true] | false => vf b) := by
  intro w r hw
  rcases K.find w a (ents kf vf 0 l) (fun e he => by obtain ⟨c, e1, _⟩ := ents_mem l 0 e he; exact ⟨c, e1⟩) with ⟨h1, h2⟩ | ⟨j, e, h1, h2, h3⟩
  · exfalso
    by_cases hm : a ∈ l.map (·.1)
    · obtain ⟨e, e1, e2⟩ := ents_key (kf := kf) (vf := vf) l 0 a hm
      exact h2 e e1 e2
    · rw [lookM_none hm] at h; cases h
  · obtain ⟨⟨y, g1, g2⟩, _, _⟩ := ents_at K.inj l 0 j e a b hd h2 h3
    rw [h] at g1; simp only [Option.some.injEq] at g1; subst g1
    have hg := MapKept.run_getObj_map (P := P) hw
    cases ok <;> simp [Instr.lookup, run_underlying hT, hg, K.check, h1, g2, Result.andThen]

theorem looks_no {T kt et : TypeId} (hT : P.underlying T = some (.map kt et)) (K : KeyOK P kt kf) (l : List (α × β)) (a : α) (h : lookM l a = none) (z : Value) (hz : ∀ w, (zeroValue et).run P w = .ok z w) (hd : DistL l) :
    Looks P T (mapO kf vf l) (kf a) true (.tuple #[z, .bool false]) := by
  intro w r hw
  rcases K.find w a (ents kf vf 0 l) (fun e he => by obtain ⟨c, e1, _⟩ := ents_mem l 0 e he; exact ⟨c, e1⟩) with ⟨h1, h2⟩ | ⟨j, e, h1, h2, h3⟩
  · have hg := MapKept.run_getObj_map (P := P) hw
    simp [Instr.lookup, run_underlying hT, hg, K.check, h1, hz, Result.andThen]
  · exfalso
    match l, h, h2, hd with
    | [], _, h2, _ => simp [ents] at h2
    | x :: l, h, h2, hd =>
      obtain ⟨⟨y, g1, _⟩, _, _⟩ := ents_at K.inj (x :: l) 0 j e a x.2 hd h2 h3
      rw [h] at g1; cases g1

theorem puts_map {T kt et : TypeId} (hT : P.underlying T = some (.map kt et)) (K : KeyOK P kt kf) (l : List (α × β)) (hd : DistL l) (a : α) (b : β) :
    Puts P T (mapO kf vf l) (kf a) (vf b) (mapO kf vf (putL l a b)) := by
  intro w r hw
  have hg := MapKept.run_getObj_map (P := P) hw
  have hset := fun o => MapKept.run_setObj_map (P := P) o hw
  rcases K.find w a (ents kf vf 0 l) (fun e he => by obtain ⟨c, e1, _⟩ := ents_mem l 0 e he; exact ⟨c, e1⟩) with ⟨h1, h2⟩ | ⟨j, e, h1, h2, h3⟩
  · have hm : a ∉ l.map (·.1) := fun hm => by
      obtain ⟨e, e1, e2⟩ := ents_key (kf := kf) (vf := vf) l 0 a hm
      exact h2 e e1 e2
    have e : mapO kf vf (putL l a b) = .map ((ents kf vf 0 l).toArray.push { key := kf a, val := vf b, born := l.length }) (l.length + 1) := by
      unfold mapO
      rw [putL_none hm, ents_append]
      simp [ents]
    rw [e]
    simp [Instr.mapUpdate, run_underlying hT, hg, K.check, h1, hset, Result.andThen]
  · obtain ⟨_, g3, g4⟩ := ents_at K.inj l 0 j e a b hd h2 h3
    have e' : mapO kf vf (putL l a b) = .map ((ents kf vf 0 l).toArray.modify j fun e => { e with key := kf a, val := vf b }) l.length := by
      unfold mapO
      rw [g3, g4]
      congr 1
      apply Array.toList_inj.1
      simp
    rw [e']
    simp [Instr.mapUpdate, run_underlying hT, hg, K.check, h1, h2, h3, K.stays, hset, Result.andThen]
end Go.Ev

/- One more rule: values of a type of known cells are held against one another where their cells are known to be of the type and the same. Nothing here names a program. -/
set_option linter.unusedSimpArgs false
set_option linter.unusedVariables false
namespace Go.Ev
open Go.RowKit
/-- The cells of a type whose values may be held against one another. -/
def eqTy (P : Program) (T : TypeId) : Option (List K) :=
  match kindT P 16 T with
  | some ks => match decide (ks.length = P.cellsOf T) && P.keyTypeAt 16 T && !P.eqGuardType P.depth T && (match P.underlying T with | some (.array _ _) | some (.struct _) => true | _ => false) with
    | true => some ks
    | false => none
  | none => none
theorem eqTy_run {P : Program} {T : TypeId} {ks : List K} (h : eqTy P T = some ks) {l m : List Value} (f1 : Fit l ks) (f2 : Fit m ks) (w : World) (X Y : Operand) (r : Bool) (hr : (r = true) ↔ l = m) :
    (do eqGuard .neq T X Y (.agg l.toArray) (.agg m.toArray); binOp .neq T (.agg l.toArray) (.agg m.toArray)).run P w = .ok (.bool (!r)) w := by
  unfold eqTy at h
  split at h
  · rename_i ks' hk
    split at h
    · rename_i hb
      simp only [Option.some.injEq] at h
      subst h
      simp only [Bool.and_eq_true, decide_eq_true_eq, Bool.not_eq_true'] at hb
      obtain ⟨⟨⟨h0, h3⟩, h4⟩, h5⟩ := hb
      have formed : ∀ l : List Value, Fit l ks' → Value.formed P T (.agg l.toArray) = true := by
        intro l hl
        have hc : l.length = P.cellsOf T := by rw [hl.length, h0]
        split at h5
        · rename_i hu; simp [Value.formed, hu, hc]
        · rename_i hu; simp [Value.formed, hu, hc]
        · cases h5
      obtain ⟨r', e1, e2⟩ := run_equalIn_deep (P := P) 9984 16 T h3 w 16 16 (.agg l.toArray) (.agg m.toArray) (l.map litV) (m.map litV) (formed _ f1) (formed _ f2)
        (by simpa [Value.cells] using keyLits_fit 16 T ks' hk _ f1) (by simpa [Value.cells] using keyLits_fit 16 T ks' hk _ f2)
      have hrr : r' = r := by
        rw [Bool.eq_iff_iff, e2, hr]
        exact ⟨fun e => litV_inj f1 f2 e, fun e => by rw [e]⟩
      subst hrr
      have e1' : (Op.equal T (.agg l.toArray) (.agg m.toArray)).run P w = .ok r' w := e1
      have g : ∀ op, (eqGuard op T X Y (.agg l.toArray) (.agg m.toArray)).run P w = .ok () w := by
        intro op
        cases op <;> first | rfl | simp [eqGuard, h4]
      simp only [Sem.run_bind, g, Result.andThen_ok]
      simp [binOp, e1']
    · cases h
  · cases h
def qNeq (P : Program) : QRule P where
  fn ora h avs op := match op, avs with
    | .binOp .neq T _ _ _, [.ag a, .ag b] => (match eqTy P T, pureC a, pureC b with
      | some ks, true, true => [(some (Fit (flat a) ks ∧ flat a = flat b), .v (.bool false))]
      | _, _, _ => [])
    | _, _ => []
  nd ora h avs op k p hk c e := by subst e; simp at hk
  ok ora h avs op k c r hk hc := by
    intro B ρ w a o ho hr hh
    split at hk
    · rename_i T x y yt cs ds
      split at hk
      · rename_i ks hT hp hp'
        have e := one_alt hk
        simp only [Prod.mk.injEq] at e
        obtain ⟨rfl, rfl⟩ := e
        simp only [Option.getD_some] at hc
        obtain ⟨hf, hs⟩ := hc
        simp only [Op.operands, List.map_cons, List.map_nil, Reps, Rep] at hr
        obtain ⟨u, r1, e1, ⟨hd, rfl⟩, v, r2, e2, ⟨hd', rfl⟩, e3⟩ := hr
        subst e2
        subst e3
        simp only [List.cons.injEq, and_true] at e1
        have e1 : a.eval x = .agg (flatR ρ cs).toArray ∧ a.eval y = .agg (flatR ρ ds).toArray := by simpa using e1
        have hrun := eqTy_run (P := P) hT hf (hs ▸ hf) w x y true ⟨fun _ => hs, fun _ => rfl⟩
        refine ⟨.bool false, ?_, rfl⟩
        simp only [execOp, ho, e1.1, e1.2, (pureC_flat ρ hp).1, (pureC_flat ρ hp').1]
        rw [Sem.run_bind, hrun]
        rfl
      · cases k <;> cases hk
    · cases k <;> cases hk
end Go.Ev

/- Rules for maps (made, read, written, their length), for an operation on values of which it is told what comes of it, and for a call that lays several blocks anew. Nothing here names a program. -/
set_option linter.unusedSimpArgs false
set_option linter.unusedVariables false
set_option linter.unusedSectionVars false
namespace Go.Ev
open Go.RowKit
variable {P : Program}

/-- What an operation on these values comes to. -/
def SemOp (P : Program) (op : Op) (xs : List Value) (x : Value) : Prop :=
  ∀ (a : Act) (o : Oper) (w : World), o.op = op → op.operands.toList.map a.eval = xs → (execOp a.eval o).run P w = .ok (.value x) w
def isBin : Op → Bool
  | .binOp .. => true
  | .convert .. => true
  | _ => false
/-- An operation on values: told what comes of it. -/
def qSem (P : Program) : QRule P where
  fn ora h avs op := match isBin op, AV.vals? avs, (ora.av 0).val? with
    | true, some xs, some x => [(some (SemOp P op xs x), ora.av 0)]
    | _, _, _ => []
  nd ora h avs op k p hk c e := by subst e; simp [isBin] at hk
  ok ora h avs op k c r hk hc := by
    intro B ρ w a o ho hr hh
    split at hk
    · rename_i xs x _ hxs hx
      have e := one_alt hk
      simp only [Prod.mk.injEq] at e
      obtain ⟨rfl, rfl⟩ := e
      simp only [Option.getD_some] at hc
      have e1 := Reps.of_vals hr hxs
      exact ⟨x, hc a o w ho e1, rep_val hx⟩
    · simp at hk

/-- A map is read. -/
def qLook (P : Program) : QRule P where
  fn ora h avs op := match op, avs with
    | .lookup T _ _ ok, [.mp id, y] => (match h.get id, y.val?, (ora.av 0).val? with
      | some (.ob o), some k, some x => [(some (Looks P T o k ok x), ora.av 0)]
      | _, _, _ => [])
    | _, _ => []
  nd ora h avs op k p hk c e := by subst e; simp at hk
  ok ora h avs op k c r hk hc := by
    intro B ρ w a o ho hr hh
    split at hk
    · rename_i T x y ok id yv
      split at hk
      · rename_i ob kv xv hblk hkv hxv
        have e := one_alt hk
        simp only [Prod.mk.injEq] at e
        obtain ⟨rfl, rfl⟩ := e
        simp only [Option.getD_some] at hc
        simp only [Op.operands, List.map_cons, List.map_nil, Reps, Rep] at hr
        obtain ⟨u, r1, e1, ⟨v, hv, rfl⟩, v2, r2, rfl, hy, rfl⟩ := hr
        simp at e1
        have e2 := hy.of_val hkv
        subst e2
        obtain ⟨v', g1, g2⟩ := hh.at_ id _ hblk
        rw [hv] at g1; simp only [Option.some.injEq] at g1; subst g1
        refine ⟨xv, ?_, rep_val hxv⟩
        simp only [execOp, ho, e1.1, e1.2, Sem.run_bind, hc w v.1 g2.2.2]
        rfl
      · simp at hk
    · simp at hk

/-- A map's length: hi 0. -/
def qLenM (P : Program) : QRule P where
  fn ora h avs op := match op, avs with
    | .call { callee := .builtin .len, args := args, argTypes := argTypes }, [.mp id] => (match h.get id, argTypes.toList with
      | some (.ob o), [T] => (match P.underlying T with
        | some (.map _ _) => [(some (Lens P o (ora.hi 0)), .v (.int .i64 ((ora.hi 0 : Nat) : Int)))]
        | _ => [])
      | _, _ => [])
    | _, _ => []
  nd ora h avs op k p hk c e := by subst e; simp at hk
  ok ora h avs op k c r hk hc := by
    intro B ρ w a o ho hr hh
    split at hk
    · rename_i args argTypes id
      split at hk
      · rename_i ob T hblk hT
        split at hk
        · rename_i kt et hu
          have e := one_alt hk
          simp only [Prod.mk.injEq] at e
          obtain ⟨rfl, rfl⟩ := e
          simp only [Option.getD_some] at hc
          obtain ⟨es, cl, rfl, hn⟩ := hc
          have ha : args.toList.map a.eval = (Op.operands (.call { callee := .builtin .len, args := args, argTypes := argTypes })).toList.map a.eval := by simp [Op.operands, Call.operands]
          rw [← ha] at hr
          simp only [Reps, Rep] at hr
          obtain ⟨u, r1, e1, ⟨v, hv, rfl⟩, rfl⟩ := hr
          obtain ⟨v', g1, g2⟩ := hh.at_ id _ hblk
          rw [hv] at g1; simp only [Option.some.injEq] at g1; subst g1
          have e2 : args.map a.eval = #[.map (some v.1)] := by apply Array.toList_inj.1; simpa using e1
          have e3 : argTypes = #[T] := by apply Array.toList_inj.1; simpa using hT
          refine ⟨.int .i64 ((ora.hi 0 : Nat) : Int), ?_, rfl⟩
          have hg := MapKept.run_getObj_map (P := P) g2.2.2
          simp [execOp, ho, resolve, invoke, builtin, e2, e3, Builtin.len_, run_underlying hu, hg, Result.andThen, goInt, hn]
        · simp at hk
      · simp at hk
    · simp at hk

/-- A map is made. -/
def xMkM (P : Program) : XRule P where
  fn ora k h avs op := match op, avs with
    | .makeMap _ none, [] => some (none, .mp k, [(k, .ob (.map #[] 0))])
    | _, _ => none
  fresh ora k h avs op c r ups he hf := by
    split at he
    · simp only [Option.some.injEq, Prod.mk.injEq] at he
      obtain ⟨rfl, rfl, rfl⟩ := he
      intro j hj
      simp only [setAll]
      rw [Heap.put_ne _ (by omega)]
      exact hf j (by omega)
    · cases he
  ok ora k h avs op c r ups he hc hf := by
    intro F hF n w0 ρ w a o ho hr hbel hh K Q hK
    split at he
    · rename_i T
      simp only [Option.some.injEq, Prod.mk.injEq] at he
      obtain ⟨rfl, rfl, rfl⟩ := he
      have hrun : (execOp a.eval o).run P w = .ok (.value (.map (some w.heap.size))) (w.alloc (.map #[] 0)) := by
        simp [execOp, ho, run_makeMap]
      refine wpIn_iff hF (fun c hc' => by rw [ho] at hc'; cases hc') ?_
      rw [hrun]
      obtain ⟨f1, f2⟩ := hh.new (hf k (Nat.le_refl _)) (.map #[] 0) (.ob (.map #[] 0)) ⟨rfl, hh.size, (MapKept.heap_alloc w _).1⟩
      refine hK _ _ _ f2 ?_ (hbel.alloc hbel.size _) f1
      simp only [Rep]
      exact ⟨_, Names.new_eq _ _ _, rfl⟩
    · cases he

/-- A map is written: told what it is then (E's one block). -/
def xPut (P : Program) : XRule P where
  fn ora k h avs op := match op, avs, ora.lp with
    | .mapUpdate T _ _ _, [.mp id, y, z], some pk => (match h.get id, y.val?, z.val?, pk.E.hp with
      | some (.ob o), some kv, some zv, [(_, .ob o')] => some (some (Puts P T o kv zv o'), .tp [], [(id, .ob o')])
      | _, _, _, _ => none)
    | _, _, _ => none
  fresh ora k h avs op c r ups he hf := by
    split at he
    · rename_i T mo ko zo id y z pk _
      split at he
      · rename_i ob kv zv _ ob' hblk hkv hzv _
        simp only [Option.some.injEq, Prod.mk.injEq] at he
        obtain ⟨rfl, rfl, rfl⟩ := he
        intro j hj
        simp only [setAll]
        have hne : j ≠ id := fun e => by
          subst e
          rw [hf j (by omega)] at hblk
          cases hblk
        rw [Heap.put_ne _ hne]
        exact hf j (by omega)
      · cases he
    · cases he
  ok ora k h avs op c r ups he hc hf := by
    intro F hF n w0 ρ w a o ho hr hbel hh K Q hK
    split at he
    · rename_i T mo ko zo id y z pk _
      split at he
      · rename_i ob kv zv _ ob' hblk hkv hzv _
        simp only [Option.some.injEq, Prod.mk.injEq] at he
        obtain ⟨rfl, rfl, rfl⟩ := he
        simp only [Option.getD_some] at hc
        simp only [Op.operands, List.map_cons, List.map_nil, Reps, Rep] at hr
        obtain ⟨u, r1, e1, ⟨v, hv, rfl⟩, y', r2, rfl, hy, z', r3, rfl, hz, rfl⟩ := hr
        simp at e1
        have e2 := hy.of_val hkv
        have e3 := hz.of_val hzv
        subst e2 e3
        obtain ⟨v', g1, g2⟩ := hh.at_ id _ hblk
        rw [hv] at g1; simp only [Option.some.injEq] at g1; subst g1
        obtain ⟨j1, j2, j3⟩ := g2
        have hrun : (execOp a.eval o).run P w = .ok .skip { w with heap := w.heap.setIfInBounds v.1 ob' } := by
          simp [execOp, ho, e1.1, e1.2.1, e1.2.2, hc w v.1 j3]
        refine wpIn_iff hF (fun c hc' => by rw [ho] at hc'; cases hc') ?_
        rw [hrun]
        obtain ⟨s1, s2⟩ := MapKept.heap_set (o' := ob') j3
        refine hK ρ undef _ ρ.le_refl (rep_undef.2 rfl) ⟨hbel.os, hbel.tape, hbel.output, by simpa using hbel.size, fun q hq => by rw [s2 q (by omega)]; exact hbel.block q hq⟩ ?_
        exact hh.turn hv j2 hblk rfl _ (by simp) (fun q hq => s2 q hq) ⟨j1, j2, s1⟩
      · cases he
    · cases he

/-- The names of blocks laid anew. -/
def NamesOK (ρ : Names) : List (Nat × Blk) → List NM → Prop
  | [], [] => True
  | (i, _) :: l, u :: us => ρ i = some u ∧ NamesOK ρ l us
  | _, _ => False
/-- .. the blocks themselves, each another one. -/
def BlksOK (B : Nat) (w : World) : List (Nat × Blk) → List NM → Prop
  | [], [] => True
  | (_, b) :: l, u :: us => b.pureB = true ∧ u.1 < w.heap.size ∧ BAt B noNames w u b ∧ (∀ u' ∈ us, u'.1 ≠ u.1) ∧ BlksOK B w l us
  | _, _ => False
/-- What a call hands back, and the blocks that it lays anew, under these names. -/
def GivesM (P : Program) (f : FuncId) (args : List XV) (r : AV) (bl : List (Nat × Blk)) : Prop :=
  (∀ vs w, (callFunc f vs).run P w = .ok (.enter f vs) w) ∧
  ∀ w vs, XReps w args vs → Calls P f vs.toArray w (fun en w' => ∃ v us, en = .returned v ∧ (∀ ρ : Names, NamesOK ρ bl us → Rep ρ r v) ∧ BlksOK w.heap.size w' bl us ∧ Below w.heap.size w w')

/-- May the names be given? -/
def freeIds (h : Heap) (k : Nat) : List (Nat × Blk) → Bool
  | [] => true
  | (i, _) :: l => (match h.get i with | none => true | some _ => false) && Nat.ble i k && l.all (fun q => !(Nat.beq q.1 i)) && freeIds h k l

theorem names_put {B : Nat} {w w' : World} : ∀ (bl : List (Nat × Blk)) (us : List NM) {ρ : Names} {h : Heap} {k : Nat}, HRel B ρ h w' → freeIds h k bl = true → BlksOK w.heap.size w' bl us → B ≤ w.heap.size →
    (∀ u' ∈ us, ∀ i v, ρ i = some v → v.1 ≠ u'.1) → ∃ ρ', ρ.le ρ' ∧ NamesOK ρ' bl us ∧ HRel B ρ' (setAll h bl) w' ∧ ∀ i, (∀ q ∈ bl, q.1 ≠ i) → ρ' i = ρ i
  | [], [], ρ, h, k, hh, _, _, _, _ => ⟨ρ, ρ.le_refl, trivial, hh, fun _ _ => rfl⟩
  | [], _ :: _, _, _, _, _, _, hb, _, _ => hb.elim
  | _ :: _, [], _, _, _, _, _, hb, _, _ => hb.elim
  | (i, b) :: l, u :: us, ρ, h, k, hh, hf, hb, hB, hx => by
    obtain ⟨hp, hlt, hat, hne, hrest⟩ := hb
    simp only [freeIds, Bool.and_eq_true] at hf
    obtain ⟨⟨⟨hi, hik⟩, hd⟩, hf'⟩ := hf
    have hi : h.get i = none := by
      cases e : h.get i with
      | none => rfl
      | some _ => rw [e] at hi; cases hi
    have hn := hh.none_ i hi
    have hle := Names.le_nm hn u
    have hown := hat.own_le hp
    have h1 : HRel B (ρ.nm i u) (h.put i b) w' := by
      refine ⟨⟨fun j c hj => ?_, fun j v hv => ?_, hh.size⟩, fun p q v v' bp bq gp gq lp lq hv hv' e hB' => ?_, fun j hj => ?_⟩
      · by_cases e : j = i
        · subst e
          rw [Heap.put_eq] at hj
          simp only [Option.some.injEq] at hj; subst hj
          exact ⟨u, Names.nm_eq _ _ _, hat.moveB hp hB⟩
        · rw [Heap.put_ne _ e] at hj
          obtain ⟨v, g1, g2⟩ := hh.at_ j c hj
          exact ⟨v, hle _ _ g1, g2.mono hle⟩
      · by_cases e : j = i
        · subst e; rw [Names.nm_eq] at hv; simp only [Option.some.injEq] at hv; subst hv; exact hlt
        · rw [Names.nm_ne _ _ e] at hv; exact hh.lt _ _ hv
      · by_cases e1 : p = i
        · by_cases e2 : q = i
          · rw [e1, e2]
          · subst e1
            rw [Names.nm_eq] at hv; simp only [Option.some.injEq] at hv; subst hv
            rw [Names.nm_ne _ _ e2] at hv'
            exact absurd e.symm (hx u (by simp) q v' hv')
        · by_cases e2 : q = i
          · subst e2
            rw [Names.nm_eq] at hv'; simp only [Option.some.injEq] at hv'; subst hv'
            rw [Names.nm_ne _ _ e1] at hv
            exact absurd e (hx u (by simp) p v hv)
          · rw [Names.nm_ne _ _ e1] at hv
            rw [Names.nm_ne _ _ e2] at hv'
            rw [Heap.put_ne _ e1] at gp
            rw [Heap.put_ne _ e2] at gq
            exact hh.inj p q v v' bp bq gp gq lp lq hv hv' e hB'
      · have e : j ≠ i := fun e => by subst e; rw [Heap.put_eq] at hj; cases hj
        rw [Heap.put_ne _ e] at hj
        rw [Names.nm_ne _ _ e]; exact hh.none_ j hj
    have hfree : freeIds (h.put i b) k l = true := by
      clear hrest hx h1
      induction l with
      | nil => rfl
      | cons q l ih =>
        simp only [freeIds, Bool.and_eq_true, List.all_cons] at hf' hd ⊢
        obtain ⟨⟨⟨f1, f2⟩, f3⟩, f4⟩ := hf'
        obtain ⟨d1, d2⟩ := hd
        have hq : q.1 ≠ i := fun e => by simp [e] at d1
        exact ⟨⟨⟨by rw [Heap.put_ne _ hq]; exact f1, f2⟩, f3⟩, ih f4 d2⟩
    have hx' : ∀ u' ∈ us, ∀ j v, ρ.nm i u j = some v → v.1 ≠ u'.1 := fun u' hu' j v hv => by
      by_cases e : j = i
      · subst e; rw [Names.nm_eq] at hv; simp only [Option.some.injEq] at hv; subst hv; exact fun e => hne u' hu' e.symm
      · rw [Names.nm_ne _ _ e] at hv; exact hx u' (by simp [hu']) j v hv
    obtain ⟨ρ', r1, r2, r3, r4⟩ := names_put l us h1 hfree hrest hB hx'
    refine ⟨ρ', Names.le_trans hle r1, ⟨r1 _ _ (Names.nm_eq _ _ _), r2⟩, r3, fun j hj => ?_⟩
    rw [r4 j (fun q hq => hj q (by simp [hq])), Names.nm_ne _ _ (fun e => hj (i, b) (by simp) e.symm)]

/-- The call of a function that lays blocks anew: told what it hands back (av 0), and the blocks, with their names. -/
def xNewM (P : Program) : XRule P where
  fn ora k h avs op := match op, avs, ora.lp with
    | .call { callee := .value _, args := _, argTypes := _ }, .clo g first cap :: rest, some pk => (match evXs h (first ++ rest ++ cap), freeIds h k pk.E.hp with
      | some l, true => some (some (GivesM P g l (ora.av 0) pk.E.hp), ora.av 0, pk.E.hp)
      | _, _ => none)
    | _, _, _ => none
  fresh ora k h avs op c r ups he hf := by
    split at he
    · split at he
      · rename_i pk _ _ _ hfree
        simp only [Option.some.injEq, Prod.mk.injEq] at he
        obtain ⟨rfl, rfl, rfl⟩ := he
        intro j hj
        have key : ∀ (l : List (Nat × Blk)) (h : Heap), h.get j = none → freeIds h k l = true → (setAll h l).get j = none := by
          intro l
          induction l with
          | nil => intro h e _; exact e
          | cons q l ih =>
            intro h e hq
            simp only [freeIds, Bool.and_eq_true] at hq
            obtain ⟨⟨⟨f1, f2⟩, f3⟩, f4⟩ := hq
            have hne : j ≠ q.1 := fun e => by have := Nat.le_of_ble_eq_true f2; omega
            simp only [setAll]
            refine ih _ (by rw [Heap.put_ne _ hne]; exact e) ?_
            clear ih f1 f2
            induction l with
            | nil => rfl
            | cons q' l ih =>
              simp only [freeIds, Bool.and_eq_true, List.all_cons] at f3 f4 ⊢
              obtain ⟨⟨⟨a1, a2⟩, a3⟩, a4⟩ := f4
              obtain ⟨d1, d2⟩ := f3
              have hq' : q'.1 ≠ q.1 := fun e => by simp [e] at d1
              exact ⟨⟨⟨by rw [Heap.put_ne _ hq']; exact a1, a2⟩, a3⟩, ih a4 d2⟩
        exact key _ _ (hf j (by omega)) hfree
      · cases he
    · cases he
  ok ora k h avs op c r ups he hc hf := by
    intro F hF n w0 ρ w a o ho hr hbel hh K Q hK
    split at he
    · rename_i f args at' g first cap rest pk _
      split at he
      · rename_i l hl hfree
        simp only [Option.some.injEq, Prod.mk.injEq] at he
        obtain ⟨rfl, rfl, rfl⟩ := he
        simp only [Option.getD_some] at hc
        obtain ⟨g4, g5⟩ := hc
        simp only [Op.operands, Call.operands, Reps] at hr
        obtain ⟨fv, vs, e0, hfe, hrest⟩ := hr
        have e0' : a.eval f = fv ∧ args.toList.map a.eval = vs := by simpa using e0
        obtain ⟨rfl, rfl⟩ := e0'
        simp only [Rep] at hfe
        obtain ⟨xs, ys, e1, e2, e3⟩ := hfe
        have hrun : (execOp a.eval o).run P w = .ok (.enter g (xs ++ args.toList.map a.eval ++ ys).toArray) w := by
          simp only [execOp, ho, Sem.run_bind, resolve, e3, Deferred.ofValue, Sem.run_pure, Result.andThen_ok, invoke]
          rw [← g4]
          congr 2
          apply Array.toList_inj.1
          simp
        refine wpIn_iff hF (fun c hc' => by rw [ho] at hc'; cases hc') ?_
        rw [hrun]
        simp only [Oper.uponIn]
        have hx := evXs_spec hh.toHAt _ _ _ (reps_append (reps_append e1 hrest) e2) hl
        refine ⟨hF.depth, (hF.calls (g5 w _ hx)).mono fun en w' hen => ?_⟩
        obtain ⟨v, us, i1, i2, i3, i5⟩ := hen
        subst i1
        have hge : ∀ (bl : List (Nat × Blk)) (us : List NM), BlksOK w.heap.size w' bl us → ∀ u' ∈ us, w.heap.size ≤ u'.1 := by
          intro bl
          induction bl with
          | nil => intro us hb u' hu'; cases us with | nil => cases hu' | cons => exact hb.elim
          | cons q bl ih =>
            intro us hb u' hu'
            cases us with
            | nil => cases hu'
            | cons u us =>
              obtain ⟨hp, _, hat, _, hrest⟩ := hb
              rcases List.mem_cons.1 hu' with rfl | hu'
              · exact hat.own_le hp
              · exact ih us hrest u' hu'
        obtain ⟨ρ', r1, r2, r3, _⟩ := names_put _ us (hh.below i5) hfree i3 hh.size (fun u' hu' i v hv => by
          have := hge _ us i3 u' hu'
          have := hh.lt _ _ hv
          omega)
        exact hK ρ' v w' r1 (i2 ρ' r2) (below_step hbel i5) r3
      · cases he
    · cases he

/-- A function's run that lays blocks: they get the names that are told. -/
theorem fnM_gives {X : Rules P} {env : List Entry} (henv : EnvOK P env) {f : FuncId} {fn : Func} (hf : P.funcs[f]? = some fn) (he : ∀ vs w, (callFunc f vs).run P w = .ok (.enter f vs) w)
    (n : Nat) (os : Nat → Ora) {args : List XV} {r0 : AV} {h : Heap} {ob : Prop} (hrun : fnH P X env n os fn args = some (r0, h, ob)) (hob : ob)
    (js : List Nat) (bl : List (Nat × Blk)) (r : AV) (hblk : js.map h.get = bl.map (fun q => some q.2)) (hp : ∀ q ∈ bl, q.2.pureB = true) (hd : js.Nodup)
    (hmv : ∀ (ρ ρ' : Names) us v, js.map ρ' = us.map some → NamesOK ρ bl us → Rep ρ' r0 v → Rep ρ r v) : GivesM P f args r bl := by
  refine ⟨he, fun w vs hx => ?_⟩
  refine (fnH_ok henv hf n os hrun hob w vs hx).mono fun en w' hen => ?_
  obtain ⟨v, ρ', i1, i2, i3, i4, i5⟩ := hen
  have key : ∀ (js : List Nat) (bl : List (Nat × Blk)), js.map h.get = bl.map (fun q => some q.2) → (∀ q ∈ bl, q.2.pureB = true) → js.Nodup → ∃ us, js.map ρ' = us.map some ∧ BlksOK w.heap.size w' bl us := by
    intro js
    induction js with
    | nil => intro bl e _ _; cases bl with
      | nil => exact ⟨[], rfl, trivial⟩
      | cons => cases e
    | cons j js ih =>
      intro bl e hp hd
      cases bl with
      | nil => cases e
      | cons q bl =>
        simp only [List.map_cons, List.cons.injEq] at e
        simp only [List.nodup_cons] at hd
        obtain ⟨us, e1, e2⟩ := ih bl e.2 (fun q hq => hp q (by simp [hq])) hd.2
        obtain ⟨u, g1, g2⟩ := i5.at_ j _ e.1
        refine ⟨u :: us, by simp [g1, e1], hp q (by simp), i5.lt _ _ g1, g2.moveB (hp q (by simp)) (Nat.le_refl _), fun u' hu' => ?_, e2⟩
        have hmem : some u' ∈ js.map ρ' := by rw [e1]; exact List.mem_map.2 ⟨u', hu', rfl⟩
        obtain ⟨j', hj', ej'⟩ := List.mem_map.1 hmem
        intro eq
        have hq' : some u' ∈ (us.map some) := List.mem_map.2 ⟨u', hu', rfl⟩
        have hb' : ∃ q', q' ∈ bl ∧ h.get j' = some q'.2 := by
          have : h.get j' ∈ js.map h.get := List.mem_map.2 ⟨j', hj', rfl⟩
          rw [e.2] at this
          obtain ⟨q', h1, h2⟩ := List.mem_map.1 this
          exact ⟨q', h1, h2.symm⟩
        obtain ⟨q', hq1, hq2⟩ := hb'
        have live : ∀ b : Blk, b.pureB = true → b.live = true := fun b hb => by cases b <;> simp [Blk.pureB] at hb <;> rfl
        have e3 := i5.inj j' j u' u q'.2 q.2 hq2 e.1 (live _ (hp q' (by simp [hq1]))) (live _ (hp q (by simp))) ej' g1 eq (by
          rw [eq]; exact (g2.own_le (hp q (by simp))))
        subst e3
        exact hd.1 hj'
  obtain ⟨us, e1, e2⟩ := key js bl hblk hp hd
  exact ⟨v, us, i1, fun ρ hρ => hmv ρ ρ' us v e1 hρ i3, e2, i4⟩

/-- A shift to the left, told: hi 0 is by how much, hi 1 what comes of it. -/
def qShl (P : Program) : QRule P where
  fn ora h avs op := match op, avs with
    | .binOp .shl T _ _ _, [.v (.int k c), .v (.int k2 z)] => [(some (z = ((ora.hi 0 : Nat) : Int) ∧ k.wrap (c * 2 ^ min (ora.hi 0) k.bits) = ((ora.hi 1 : Nat) : Int)), .v (.int k ((ora.hi 1 : Nat) : Int)))]
    | _, _ => []
  nd ora h avs op k p hk c e := by subst e; simp at hk
  ok ora h avs op k c r hk hc := by
    intro B ρ w a o ho hr hh
    split at hk
    · rename_i T x y yt kd cc k2 z
      have e := one_alt hk
      simp only [Prod.mk.injEq] at e
      obtain ⟨rfl, rfl⟩ := e
      simp only [Option.getD_some] at hc
      obtain ⟨rfl, h1⟩ := hc
      simp only [Op.operands, List.map_cons, List.map_nil, Reps, Rep] at hr
      obtain ⟨u, r1, e1, rfl, v, r2, rfl, rfl, rfl⟩ := hr
      simp only [List.cons.injEq, and_true] at e1
      have e1 : a.eval x = .int kd cc ∧ a.eval y = .int k2 ((ora.hi 0 : Nat) : Int) := by simpa using e1
      have hb : ¬ ((ora.hi 0 : Nat) : Int) < 0 := by omega
      refine ⟨.int kd ((ora.hi 1 : Nat) : Int), ?_, rfl⟩
      simp only [execOp, ho, e1.1, e1.2, eqGuard_at_int, binOp, Op.shift, hb, if_false, Int.toNat_natCast, h1]
      rfl
    · simp at hk
/-- A shift by a number that has a name. -/
def shO (s r : Nat) : Ora := { ch := 0, hi := fun k => match Nat.beq k 0 with | true => s | false => r, ru := 19 }

theorem eqTy_run2 {P : Program} {T : TypeId} {ks : List K} (h : eqTy P T = some ks) {l m : List Value} (f1 : Fit l ks) (f2 : Fit m ks) (w : World) (X Y : Operand) (neg r : Bool) (hr : (r = true) ↔ l = m) :
    (do eqGuard (if neg then .neq else .eql) T X Y (.agg l.toArray) (.agg m.toArray); binOp (if neg then .neq else .eql) T (.agg l.toArray) (.agg m.toArray)).run P w = .ok (.bool (if neg then !r else r)) w := by
  unfold eqTy at h
  split at h
  · rename_i ks' hk
    split at h
    · rename_i hb
      simp only [Option.some.injEq] at h
      subst h
      simp only [Bool.and_eq_true, decide_eq_true_eq, Bool.not_eq_true'] at hb
      obtain ⟨⟨⟨h0, h3⟩, h4⟩, h5⟩ := hb
      have formed : ∀ l : List Value, Fit l ks' → Value.formed P T (.agg l.toArray) = true := by
        intro l hl
        have hc : l.length = P.cellsOf T := by rw [hl.length, h0]
        split at h5
        · rename_i hu; simp [Value.formed, hu, hc]
        · rename_i hu; simp [Value.formed, hu, hc]
        · cases h5
      obtain ⟨r', e1, e2⟩ := run_equalIn_deep (P := P) 9984 16 T h3 w 16 16 (.agg l.toArray) (.agg m.toArray) (l.map litV) (m.map litV) (formed _ f1) (formed _ f2)
        (by simpa [Value.cells] using keyLits_fit 16 T ks' hk _ f1) (by simpa [Value.cells] using keyLits_fit 16 T ks' hk _ f2)
      have hrr : r' = r := by
        rw [Bool.eq_iff_iff, e2, hr]
        exact ⟨fun e => litV_inj f1 f2 e, fun e => by rw [e]⟩
      subst hrr
      have e1' : (Op.equal T (.agg l.toArray) (.agg m.toArray)).run P w = .ok r' w := e1
      have g : ∀ op, (eqGuard op T X Y (.agg l.toArray) (.agg m.toArray)).run P w = .ok () w := by
        intro op
        cases op <;> first | rfl | simp [eqGuard, h4]
      simp only [Sem.run_bind, g, Result.andThen_ok]
      cases neg <;> simp [binOp, e1']
    · cases h
  · cases h
def negOf : BinOp → Option Bool
  | .eql => some false
  | .neq => some true
  | _ => none
/-- Structs and arrays whose cells are known to be of the type: the same (0), not the same (1). -/
def qEqv (P : Program) : QRule P where
  fn ora h avs op := match op, avs with
    | .binOp bo T _ _ _, [.ag a, .ag b] => (match negOf bo, eqTy P T, pureC a, pureC b with
      | some neg, some ks, true, true => [(some (Fit (flat a) ks ∧ Fit (flat b) ks ∧ flat a = flat b), .v (.bool (!neg))), (some (Fit (flat a) ks ∧ Fit (flat b) ks ∧ flat a ≠ flat b), .v (.bool neg))]
      | _, _, _, _ => [])
    | _, _ => []
  nd ora h avs op k p hk c e := by subst e; simp at hk
  ok ora h avs op k c r hk hc := by
    intro B ρ w a o ho hr hh
    split at hk
    · rename_i bo T x y yt cs ds
      split at hk
      · rename_i neg ks hn hT hp hp'
        simp only [Op.operands, List.map_cons, List.map_nil, Reps, Rep] at hr
        obtain ⟨u, r1, e1, ⟨hd, rfl⟩, v, r2, e2, ⟨hd', rfl⟩, e3⟩ := hr
        subst e2
        subst e3
        have e1 : a.eval x = .agg (flatR ρ cs).toArray ∧ a.eval y = .agg (flatR ρ ds).toArray := by simpa using e1
        have hbo : bo = if neg then .neq else .eql := by
          cases bo <;> simp [negOf] at hn <;> subst hn <;> rfl
        have key : ∀ r : Bool, Fit (flat cs) ks → Fit (flat ds) ks → ((r = true) ↔ flat cs = flat ds) → (execOp a.eval o).run P w = .ok (.value (.bool (if neg then !r else r))) w := by
          intro r f1 f2 hr
          have hrun := eqTy_run2 (P := P) hT f1 f2 w x y neg r hr
          rw [← hbo] at hrun
          simp only [execOp, ho, e1.1, e1.2, (pureC_flat ρ hp).1, (pureC_flat ρ hp').1]
          rw [Sem.run_bind, hrun]
          rfl
        match k, hk with
        | 0, hk =>
          simp only [List.getElem?_cons_zero, Option.some.injEq, Prod.mk.injEq] at hk
          obtain ⟨rfl, rfl⟩ := hk
          simp only [Option.getD_some] at hc
          obtain ⟨f1, f2, e⟩ := hc
          refine ⟨.bool (!neg), ?_, rfl⟩
          rw [key true f1 f2 ⟨fun _ => e, fun _ => rfl⟩]
          cases neg <;> rfl
        | 1, hk =>
          simp only [List.getElem?_cons_succ, List.getElem?_cons_zero, Option.some.injEq, Prod.mk.injEq] at hk
          obtain ⟨rfl, rfl⟩ := hk
          simp only [Option.getD_some] at hc
          obtain ⟨f1, f2, e⟩ := hc
          refine ⟨.bool neg, ?_, rfl⟩
          rw [key false f1 f2 ⟨fun h => (by cases h), fun h => absurd h e⟩]
          cases neg <;> rfl
        | k + 2, hk => simp at hk
      · simp at hk
    · simp at hk
def eqO (c : Nat) : Ora := { ch := c, hi := fun _ => 0, ru := 20 }

/-- All the rules of XRum, and these: 15 qSem, 16 qLook, 17 qLenM 18 qNeq 19 qShl 20 qEqv; 8 xMk, 9 xMkM, 10 xPut, 11 xNewM. -/
def rulesM (P : Program) : Rules P := { q := (rulesW P).q ++ [qSem P, qLook P, qLenM P, qNeq P, qShl P, qEqv P], x := (rulesW P).x ++ [xMkM P, xPut P, xNewM P], d := (rulesW P).d }
/-- .. told the blocks alone. -/
def fnMs (P : Program) (X : Rules P) (env : List Entry) (n : Nat) (os : Nat → Ora) (fn : Func) (args : List XV) (js : List Nat) : Option (AV × List (Option Blk) × Prop) :=
  match fnH P X env n os fn args with
  | some (r, h, ob) => some (r, js.map h.get, ob)
  | none => none
theorem fnMs_gives {X : Rules P} {env : List Entry} (henv : EnvOK P env) {f : FuncId} {fn : Func} (hf : P.funcs[f]? = some fn) (he : ∀ vs w, (callFunc f vs).run P w = .ok (.enter f vs) w)
    (n : Nat) (os : Nat → Ora) {args : List XV} {r0 : AV} {ob : Prop} (js : List Nat) (bl : List (Nat × Blk)) (hrun : fnMs P X env n os fn args js = some (r0, bl.map (fun q => some q.2), ob)) (hob : ob)
    (r : AV) (hp : ∀ q ∈ bl, q.2.pureB = true) (hd : js.Nodup)
    (hmv : ∀ (ρ ρ' : Names) us v, js.map ρ' = us.map some → NamesOK ρ bl us → Rep ρ' r0 v → Rep ρ r v) : GivesM P f args r bl := by
  unfold fnMs at hrun
  split at hrun
  · rename_i r1 h1 ob1 h
    simp only [Option.some.injEq, Prod.mk.injEq] at hrun
    obtain ⟨rfl, h2, rfl⟩ := hrun
    exact fnM_gives henv hf he n os h hob js bl r h2 hp hd hmv
  · cases hrun
/-- Three slices and a number are handed back. -/
theorem mv_three {i j k a b c n : Nat} {A B C : Blk} {x : Value} : ∀ (ρ ρ' : Names) us v, [i, j, k].map ρ' = us.map some → NamesOK ρ [(a, A), (b, B), (c, C)] us → Rep ρ' (.tp [.ag [.sx i n, .sx j n, .sx k n], .v x]) v → Rep ρ (.tp [.ag [.sx a n, .sx b n, .sx c n], .v x]) v := by
  intro ρ ρ' us v h1 h2 h
  match us, h1, h2 with
  | [u0, u1, u2], h1, h2 =>
    simp only [List.map_cons, List.map_nil, List.cons.injEq, and_true] at h1
    obtain ⟨g0, g1, g2⟩ := h1
    simp only [NamesOK, and_true] at h2
    obtain ⟨k0, k1, k2⟩ := h2
    simp only [Rep, Reps] at h ⊢
    obtain ⟨xs, ⟨y, r, rfl, ⟨hd, rfl⟩, h3⟩, rfl⟩ := h
    refine ⟨_, ⟨_, _, rfl, ⟨⟨⟨_, k0⟩, ⟨_, k1⟩, ⟨_, k2⟩, trivial⟩, ?_⟩, h3⟩, rfl⟩
    simp only [flatR, Ch.cells, Names.at, Names.room, g0, g1, g2, k0, k1, k2]
end Go.Ev

/- Places with a value each, one behind another: what comes behind a place of the same value, round and round; made step by step. Nothing here names a program. -/
set_option linter.unusedSimpArgs false
set_option linter.unusedVariables false
namespace Go.Ev

/-- The last, the first place ahead of Q that has the value v; the first place behind q, ahead of Q, that has q's. -/
def lastI (f : Nat → Int) : Nat → Int → Option Nat
  | 0, _ => none
  | Q + 1, v => if f Q = v then some Q else lastI f Q v
def firstI (f : Nat → Int) : Nat → Int → Option Nat
  | 0, _ => none
  | Q + 1, v => match firstI f Q v with
    | some q => some q
    | none => if f Q = v then some Q else none
def nextI (f : Nat → Int) : Nat → Nat → Option Nat
  | 0, _ => none
  | Q + 1, q => match nextI f Q q with
    | some x => some x
    | none => if q < Q ∧ f Q = f q then some Q else none
/-- What stands at place q when the places ahead of Q have been seen. -/
def valI (f : Nat → Int) (Q q : Nat) : Nat :=
  if f q < 0 ∨ Q ≤ q then q else match nextI f Q q with
    | some x => x
    | none => (firstI f Q (f q)).getD q

theorem lastI_some {f : Nat → Int} : ∀ {Q : Nat} {v : Int} {q : Nat}, lastI f Q v = some q → q < Q ∧ f q = v ∧ ∀ x, q < x → x < Q → f x ≠ v
  | 0, _, _, h => by cases h
  | Q + 1, v, q, h => by
    unfold lastI at h
    split at h
    · rename_i e
      simp only [Option.some.injEq] at h; subst h
      exact ⟨by omega, e, fun x h1 h2 => by omega⟩
    · rename_i e
      obtain ⟨h1, h2, h3⟩ := lastI_some h
      refine ⟨by omega, h2, fun x g1 g2 => ?_⟩
      rcases Nat.lt_or_ge x Q with g | g
      · exact h3 x g1 g
      · have : x = Q := by omega
        subst this; exact e
theorem lastI_none {f : Nat → Int} : ∀ {Q : Nat} {v : Int}, lastI f Q v = none → ∀ x, x < Q → f x ≠ v
  | 0, _, _, x, hx => by omega
  | Q + 1, v, h, x, hx => by
    unfold lastI at h
    split at h
    · cases h
    · rename_i e
      rcases Nat.lt_or_ge x Q with g | g
      · exact lastI_none h x g
      · have : x = Q := by omega
        subst this; exact e
theorem firstI_some {f : Nat → Int} : ∀ {Q : Nat} {v : Int} {q : Nat}, firstI f Q v = some q → q < Q ∧ f q = v ∧ ∀ x, x < q → f x ≠ v
  | 0, _, _, h => by cases h
  | Q + 1, v, q, h => by
    unfold firstI at h
    split at h
    · rename_i y e
      simp only [Option.some.injEq] at h; subst h
      obtain ⟨h1, h2, h3⟩ := firstI_some e
      exact ⟨by omega, h2, h3⟩
    · rename_i e
      split at h
      · rename_i e2
        simp only [Option.some.injEq] at h; subst h
        refine ⟨by omega, e2, fun x hx => ?_⟩
        exact firstI_none e x hx
      · cases h
where firstI_none {f : Nat → Int} : ∀ {Q : Nat} {v : Int}, firstI f Q v = none → ∀ x, x < Q → f x ≠ v
  | 0, _, _, x, hx => by omega
  | Q + 1, v, h, x, hx => by
    unfold firstI at h
    split at h
    · cases h
    · rename_i e
      split at h
      · cases h
      · rename_i e2
        rcases Nat.lt_or_ge x Q with g | g
        · exact firstI_none e x g
        · have : x = Q := by omega
          subst this; exact e2
theorem firstI_no {f : Nat → Int} {Q : Nat} {v : Int} (h : ∀ x, x < Q → f x ≠ v) : firstI f Q v = none := by
  cases e : firstI f Q v with
  | none => rfl
  | some q => obtain ⟨h1, h2, _⟩ := firstI_some e; exact absurd h2 (h q h1)
theorem firstI_is {f : Nat → Int} {Q : Nat} {v : Int} {q : Nat} (h1 : q < Q) (h2 : f q = v) (h3 : ∀ x, x < q → f x ≠ v) : firstI f Q v = some q := by
  cases e : firstI f Q v with
  | none => exact absurd h2 (firstI_some.firstI_none e q h1)
  | some y =>
    obtain ⟨g1, g2, g3⟩ := firstI_some e
    rcases Nat.lt_trichotomy y q with g | g | g
    · exact absurd g2 (h3 y g)
    · rw [g]
    · exact absurd h2 (g3 q g)
theorem nextI_some {f : Nat → Int} : ∀ {Q q x : Nat}, nextI f Q q = some x → q < x ∧ x < Q ∧ f x = f q ∧ ∀ y, q < y → y < x → f y ≠ f q
  | 0, _, _, h => by cases h
  | Q + 1, q, x, h => by
    unfold nextI at h
    split at h
    · rename_i y e
      simp only [Option.some.injEq] at h; subst h
      obtain ⟨h1, h2, h3⟩ := nextI_some e
      exact ⟨h1, by omega, h3⟩
    · rename_i e
      split at h
      · rename_i e2
        simp only [Option.some.injEq] at h; subst h
        exact ⟨e2.1, by omega, e2.2, fun y g1 g2 => nextI_none e y g1 g2⟩
      · cases h
where nextI_none {f : Nat → Int} : ∀ {Q q : Nat}, nextI f Q q = none → ∀ y, q < y → y < Q → f y ≠ f q
  | 0, _, _, y, _, hy => by omega
  | Q + 1, q, h, y, h1, h2 => by
    unfold nextI at h
    split at h
    · cases h
    · rename_i e
      split at h
      · cases h
      · rename_i e2
        rcases Nat.lt_or_ge y Q with g | g
        · exact nextI_none e y h1 g
        · have : y = Q := by omega
          subst this
          exact fun e3 => e2 ⟨h1, e3⟩
theorem nextI_no {f : Nat → Int} {Q q : Nat} (h : ∀ y, q < y → y < Q → f y ≠ f q) : nextI f Q q = none := by
  cases e : nextI f Q q with
  | none => rfl
  | some x => obtain ⟨h1, h2, h3, _⟩ := nextI_some e; exact absurd h3 (h x h1 h2)
theorem nextI_is {f : Nat → Int} {Q q x : Nat} (h1 : q < x) (h2 : x < Q) (h3 : f x = f q) (h4 : ∀ y, q < y → y < x → f y ≠ f q) : nextI f Q q = some x := by
  cases e : nextI f Q q with
  | none => exact absurd h3 (nextI_some.nextI_none e x h1 h2)
  | some y =>
    obtain ⟨g1, g2, g3, g4⟩ := nextI_some e
    rcases Nat.lt_trichotomy y x with g | g | g
    · exact absurd g3 (h4 y g1 g)
    · rw [g]
    · exact absurd h3 (g4 x h1 g)

/-- Nothing turns where a place has no value. -/
theorem valI_neg {f : Nat → Int} {Q : Nat} (h : f Q < 0) (q : Nat) : valI f (Q + 1) q = valI f Q q := by
  unfold valI
  by_cases h1 : f q < 0
  · rw [if_pos (.inl h1), if_pos (.inl h1)]
  · by_cases h2 : q < Q
    · rw [if_neg (by omega), if_neg (by omega)]
      have e : f Q ≠ f q := by omega
      have e1 : nextI f (Q + 1) q = nextI f Q q := by
        simp only [nextI]
        split
        · rename_i x e; rw [e]
        · rename_i e'; rw [if_neg (fun g => e g.2), e']
      have e2 : firstI f (Q + 1) (f q) = firstI f Q (f q) := by
        simp only [firstI]
        split
        · rename_i x e; rw [e]
        · rename_i e'; rw [if_neg e, e']
      rw [e1, e2]
    · by_cases h3 : q = Q
      · subst h3; exact absurd h h1
      · rw [if_pos (.inr (by omega)), if_pos (.inr (by omega))]
/-- A value that was not seen before: the place comes behind itself. -/
theorem valI_new {f : Nat → Int} {Q : Nat} (h : 0 ≤ f Q) (hn : lastI f Q (f Q) = none) (q : Nat) : valI f (Q + 1) q = if q = Q then Q else valI f Q q := by
  have hno := lastI_none hn
  by_cases h3 : q = Q
  · subst h3
    rw [if_pos rfl]
    unfold valI
    rw [if_neg (by omega), nextI_no (fun y h1 h2 => by omega), firstI_is (Nat.lt_succ_self q) rfl hno]
    rfl
  · rw [if_neg h3]
    unfold valI
    by_cases h1 : f q < 0 ∨ Q < q
    · rw [if_pos (by omega), if_pos (by omega)]
    · have h2 : q < Q := by omega
      rw [if_neg (by omega), if_neg (by omega)]
      have e : f Q ≠ f q := fun e => hno q h2 e.symm
      have e1 : nextI f (Q + 1) q = nextI f Q q := by
        simp only [nextI]
        split
        · rename_i x e; rw [e]
        · rename_i e'; rw [if_neg (fun g => e g.2), e']
      have e2 : firstI f (Q + 1) (f q) = firstI f Q (f q) := by
        simp only [firstI]
        split
        · rename_i x e; rw [e]
        · rename_i e'; rw [if_neg e, e']
      rw [e1, e2]
/-- A value that was seen: its last place gets this one, this one the first. -/
theorem valI_old {f : Nat → Int} {Q : Nat} (h : 0 ≤ f Q) {old fst : Nat} (hl : lastI f Q (f Q) = some old) (hf : firstI f Q (f Q) = some fst) (q : Nat) :
    valI f (Q + 1) q = if q = Q then fst else if q = old then Q else valI f Q q := by
  obtain ⟨a1, a2, a3⟩ := lastI_some hl
  obtain ⟨b1, b2, b3⟩ := firstI_some hf
  by_cases h3 : q = Q
  · subst h3
    rw [if_pos rfl]
    unfold valI
    rw [if_neg (by omega), nextI_no (fun y h1 h2 => by omega), firstI_is (show fst < q + 1 by omega) b2 b3]
    rfl
  · rw [if_neg h3]
    by_cases h4 : q = old
    · subst h4
      rw [if_pos rfl]
      unfold valI
      rw [if_neg (by omega), nextI_is a1 (Nat.lt_succ_self Q) a2.symm (fun y g1 g2 => by rw [a2]; exact a3 y g1 g2)]
    · rw [if_neg h4]
      unfold valI
      by_cases h1 : f q < 0 ∨ Q < q
      · rw [if_pos (by omega), if_pos (by omega)]
      · have h2 : q < Q := by omega
        rw [if_neg (by omega), if_neg (by omega)]
        by_cases e : f Q = f q
        · have h5 : q < old := by
            rcases Nat.lt_trichotomy q old with g | g | g
            · exact g
            · exact absurd g h4
            · exact absurd e.symm (a3 q g h2)
          cases en : nextI f Q q with
          | none => exact absurd (a2.trans e) (nextI_some.nextI_none en old h5 a1)
          | some x => simp only [nextI, en]
        · have e1 : nextI f (Q + 1) q = nextI f Q q := by
            simp only [nextI]
            split
            · rename_i x e; rw [e]
            · rename_i e'; rw [if_neg (fun g => e g.2), e']
          have e2 : firstI f (Q + 1) (f q) = firstI f Q (f q) := by
            simp only [firstI]
            split
            · rename_i x e; rw [e]
            · rename_i e'; rw [if_neg e, e']
          rw [e1, e2]
theorem valI_zero (f : Nat → Int) (q : Nat) : valI f 0 q = q := by unfold valI; rw [if_pos (.inr (Nat.zero_le q))]
theorem valI_lt {f : Nat → Int} {N q : Nat} (hq : q < N) : valI f N q < N := by
  unfold valI
  split
  · exact hq
  · split
    · rename_i x e; exact (nextI_some e).2.1
    · cases e : firstI f N (f q) with
      | none => exact hq
      | some y => exact (firstI_some e).1

/-- What comes behind is another place each time. -/
theorem valI_inj {f : Nat → Int} {N p q : Nat} (hp : p < N) (hq : q < N) (e : valI f N p = valI f N q) : p = q := by
  have key : ∀ a, a < N → f (valI f N a) = f a ∧ (f a < 0 → valI f N a = a) := fun a ha => by
    unfold valI
    by_cases h : f a < 0
    · rw [if_pos (.inl h)]; exact ⟨rfl, fun _ => rfl⟩
    · rw [if_neg (by omega)]
      refine ⟨?_, fun g => absurd g h⟩
      cases en : nextI f N a with
      | some x => exact (nextI_some en).2.2.1
      | none => cases e2 : firstI f N (f a) with
        | none => exact absurd rfl (firstI_some.firstI_none e2 a ha)
        | some y => exact (firstI_some e2).2.1
  obtain ⟨k1, k2⟩ := key p hp
  obtain ⟨k3, k4⟩ := key q hq
  have ef : f p = f q := by rw [← k1, ← k3, e]
  by_cases h : f p < 0
  · rw [k2 h, k4 (by omega)] at e; exact e
  · unfold valI at e
    rw [if_neg (by omega), if_neg (by omega)] at e
    cases e1 : nextI f N p with
    | some x =>
      obtain ⟨a1, a2, a3, a4⟩ := nextI_some e1
      rw [e1] at e
      cases e2 : nextI f N q with
      | some y =>
        obtain ⟨b1, b2, b3, b4⟩ := nextI_some e2
        rw [e2] at e
        simp only at e
        subst e
        rcases Nat.lt_trichotomy p q with g | g | g
        · exact absurd ef.symm (a4 q g b1)
        · exact g
        · exact absurd ef (b4 p g a1)
      | none =>
        rw [e2] at e
        cases e3 : firstI f N (f q) with
        | none => exact absurd rfl (firstI_some.firstI_none e3 q hq)
        | some y =>
          obtain ⟨c1, c2, c3⟩ := firstI_some e3
          rw [e3] at e
          simp only [Option.getD_some] at e
          subst e
          exact absurd ef (c3 p a1)
    | none =>
      rw [e1] at e
      cases e3 : firstI f N (f p) with
      | none => exact absurd rfl (firstI_some.firstI_none e3 p hp)
      | some x =>
        obtain ⟨c1, c2, c3⟩ := firstI_some e3
        rw [e3] at e
        cases e2 : nextI f N q with
        | some y =>
          obtain ⟨b1, b2, b3, b4⟩ := nextI_some e2
          rw [e2] at e
          simp only [Option.getD_some] at e
          subst e
          exact absurd ef.symm (c3 q b1)
        | none =>
          rcases Nat.lt_trichotomy p q with g | g | g
          · exact absurd ef.symm (nextI_some.nextI_none e1 q g hq)
          · exact g
          · exact absurd ef (nextI_some.nextI_none e2 p g hp)
end Go.Ev

/- Places that belong together: plain. -/
set_option linter.unusedSimpArgs false
set_option linter.unusedVariables false
namespace Go.Ev
open Go.RowKit
def plP (p : Int × Int) : List Value := [.int .i64 p.1, .int .i64 p.2]
def plC (l : List (Int × Int)) : List Value := l.flatMap plP
theorem pl_at (l : List (Int × Int)) (i : Nat) (p : Int × Int) (h : l[i]? = some p) : sizes [.c (.int .i64 p.1), .c (.int .i64 p.2)] = 2 ∧ ((flat [.l (plC l)]).drop (i * 2)).take 2 = flat [.c (.int .i64 p.1), .c (.int .i64 p.2)] := by
  refine ⟨rfl, ?_⟩
  rw [flat_l]
  exact rows_at plP (fun _ => rfl) l i p h
theorem nu_at (ns : List Nat) (i x : Nat) (h : ns[i]? = some x) : sizes [.n 4 x] = 4 ∧ ((flat [.l (numC 4 ns)]).drop (i * 4)).take 4 = flat [.n 4 x] := by
  refine ⟨rfl, ?_⟩
  rw [flat_l]
  have := rows_at (limbs 4) (limbs_length 4) ns i x h
  rw [show numC 4 ns = ns.flatMap (limbs 4) from rfl, this]
  simp [flat, Ch.cells]
theorem pl_lt {α : Type} {l : List α} {i : Nat} {p : α} (h : l[i]? = some p) : i < l.length := (List.getElem?_eq_some_iff.1 h).1
theorem pl_mem {α : Type} {l : List α} {i : Nat} {p : α} (h : l[i]? = some p) : p ∈ l := List.mem_of_getElem? h
theorem pl_of {α : Type} {l : List α} {i : Nat} (h : i < l.length) : ∃ p, l[i]? = some p := ⟨_, List.getElem?_eq_getElem h⟩
def inR (n : Nat) (p : Int × Int) : Prop := 0 ≤ p.2 ∧ p.2 ≤ 2 ∧ 0 ≤ p.1 ∧ p.1 < (n : Int)
instance (n : Nat) (p : Int × Int) : Decidable (inR n p) := by unfold inR; infer_instance
def sameAt (M : Nat → List Nat) (w i : Nat) (p : Int × Int) : Prop := ofR ((M w).getD i 0) = ofR ((M p.2.toNat).getD p.1.toNat 0)
instance (M : Nat → List Nat) (w i : Nat) (p : Int × Int) : Decidable (sameAt M w i p) := by unfold sameAt; infer_instance
end Go.Ev

/- A rule for the rest of a division by a number that has a name; pieces whose cells are read, some of which may be nil. -/
set_option linter.unusedSimpArgs false
set_option linter.unusedVariables false
set_option linter.unusedSectionVars false
namespace Go.Ev
open Go.RowKit
variable {P : Program}
/-- The rest of a division: hi 0. -/
def qRem (P : Program) : QRule P where
  fn ora h avs op := match op, avs with
    | .binOp .rem T _ _ _, [.v (.int k a), .v (.int k2 b)] => [(some (k = k2 ∧ b ≠ 0 ∧ a.tmod b = ((ora.hi 0 : Nat) : Int)), .v (.int k ((ora.hi 0 : Nat) : Int)))]
    | _, _ => []
  nd ora h avs op k p hk c e := by subst e; simp at hk
  ok ora h avs op k c r hk hc := by
    intro B ρ w a o ho hr hh
    split at hk
    · rename_i T x y yt kd aa k2 bb
      have e := one_alt hk
      simp only [Prod.mk.injEq] at e
      obtain ⟨rfl, rfl⟩ := e
      simp only [Option.getD_some] at hc
      obtain ⟨rfl, h0, h1⟩ := hc
      simp only [Op.operands, List.map_cons, List.map_nil, Reps, Rep] at hr
      obtain ⟨u, r1, e1, rfl, v, r2, rfl, rfl, rfl⟩ := hr
      have e1 : a.eval x = .int kd aa ∧ a.eval y = .int kd bb := by simpa using e1
      refine ⟨.int kd ((ora.hi 0 : Nat) : Int), ?_, rfl⟩
      simp [execOp, ho, e1.1, e1.2, eqGuard_at_int, binOp, Op.intDiv, h0, h1]
    · simp at hk
def rmO (r : Nat) : Ora := { ch := 0, hi := fun _ => r, ru := 21 }
/-- All the rules of XMar, and this one: 21 qRem. -/
def rulesR (P : Program) : Rules P := { q := (rulesM P).q ++ [qRem P], x := (rulesM P).x, d := (rulesM P).d }
/-- A piece that is read may be taken for one that may be nil. -/
def zpc : XPc → XPc
  | .r cs len => .z cs len
  | p => p
theorem PcsRep.zpc {w : World} : ∀ {l : List XPc} {vs : List Value}, PcsRep w l vs → PcsRep w (l.map zpc) vs
  | [], _, h => h
  | .c _ :: _, _, h => ⟨h.1, by obtain ⟨r, e, h2⟩ := h.2; exact ⟨r, e, h2.zpc⟩⟩
  | .r _ _ :: _, _, h => by
    obtain ⟨hp, b, off, room, r, rfl, hlt, hra, h2⟩ := h
    exact ⟨_, r, rfl, ⟨hp, by omega, .inr ⟨b, off, room, rfl, hlt, hra⟩⟩, h2.zpc⟩
  | .z _ _ :: _, _, h => by
    obtain ⟨y, r, rfl, hz, h2⟩ := h
    exact ⟨y, r, rfl, hz, h2.zpc⟩
def zxv : XV → XV
  | .ags l => .ags (l.map zpc)
  | x => x
theorem XRep.zxv {w : World} : ∀ {x : XV} {y : Value}, XRep w x y → XRep w (zxv x) y
  | .ags _, _, ⟨c, e, h⟩ => ⟨c, e, h.zpc⟩
  | .t _, _, h => h
  | .rd .., _, h => h
  | .rx .., _, h => h
  | .rz .., _, h => h
theorem XReps.zxv {w : World} : ∀ {l : List XV} {vs : List Value}, XReps w l vs → XReps w (l.map zxv) vs
  | [], [], _ => trivial
  | _ :: _, _ :: _, h => ⟨h.1.zxv, h.2.zxv⟩
  | [], _ :: _, h => h.elim
  | _ :: _, [], h => h.elim
theorem GivesE.zxv {f : FuncId} {l l' : List XV} {r : AV} (h : GivesE P f l' r) (e : l.map zxv = l') : GivesE P f l r := by
  subst e
  obtain ⟨h0, v, hv, hr⟩ := h
  exact ⟨h0, v, hv, fun w vs hx => hr w vs hx.zxv⟩
theorem GivesN.zxv {f : FuncId} {l l' : List XV} {r : Nat → AV} {blk : Blk} (h : GivesN P f l' r blk) (e : l.map zxv = l') : GivesN P f l r blk := by
  subst e
  exact ⟨h.1, fun w vs hx => h.2 w vs hx.zxv⟩
end Go.Ev
