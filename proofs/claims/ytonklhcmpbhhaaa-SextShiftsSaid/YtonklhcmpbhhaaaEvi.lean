/- The evaluator: whole functions, and contracts by the makes of their arguments. -/
import Derived.Test.YtonklhcmpbhhaaaEvh
set_option linter.unusedSimpArgs false
set_option linter.unusedVariables false
namespace Go.Ev
open Go.RowKit

variable {P : Program}

def resA (P : Program) (A : AA) : List ResultVar → Option (List TV)
  | [] => some []
  | .tmp t :: l =>
    match (A.t.get t).tv?, resA P A l with
    | some x, some r => some (x :: r)
    | _, _ => none
  | .cell a T :: l =>
    match A.t.get a, resA P A l with
    | .p id off, some r =>
      match A.h id with
      | some blk => match readT P T off blk.cs with
        | some v => match v.tv? with | some x => some (x :: r) | none => none
        | none => none
      | none => none
    | _, _ => none

def retA : List TV → AV
  | [x] => x.av
  | l => .tp l

theorem retA_val (l : List TV) : (retA l).val? = some (if h : (l.map TV.val).toArray.size = 1 then (l.map TV.val).toArray[0] else .tuple (l.map TV.val).toArray) := by
  match l with
  | [] => simp [retA, AV.val?]
  | [x] => cases x <;> simp [retA, TV.av, AV.val?, TV.val]
  | x :: y :: l => simp [retA, AV.val?]

theorem mapM_run {α β : Type} (f : α → Sem β) (g : α → β → Prop) (w : World) : ∀ (l : List α) (r : List β), List.length l = List.length r → (∀ (i : Nat) (x : α) (y : β), l[i]? = some x → r[i]? = some y → (f x).run P w = .ok y w) →
    (l.mapM f).run P w = .ok r w
  | [], [], _, _ => rfl
  | x :: l, y :: r, hl, h => by
    have h0 := h 0 x y rfl rfl
    have ih := mapM_run f g w l r (by simpa using hl) (fun i a b ha hb => h (i + 1) a b (by simpa using ha) (by simpa using hb))
    simp [List.mapM_cons, h0, ih]
  | [], _ :: _, hl, _ => by simp at hl
  | _ :: _, [], hl, _ => by simp at hl

def resOne (tmps : Array Value) : ResultVar → Sem Value
  | .tmp t => pure (tmps.getD t undef)
  | .cell a t => do loadVar t (← asAddr (tmps.getD a undef))

theorem results_eq (fn : Func) (tmps : Array Value) : results fn tmps = (do
    let vs ← fn.results.mapM (resOne tmps)
    pure (if h : vs.size = 1 then vs[0] else .tuple vs)) := by
  unfold results
  congr 1

theorem resA_run {w0 w : World} {ρ : Names} {A : AA} {a : Act} (hR : Rel w0 ρ A.t A.h a w) {fn : Func} {l : List TV} (h : resA P A fn.results.toList = some l) :
    (results fn a.tmps).run P w = .ok (if h : (l.map TV.val).toArray.size = 1 then (l.map TV.val).toArray[0] else .tuple (l.map TV.val).toArray) w := by
  have slot : ∀ t, Rep ρ (A.t.get t) (a.tmps.getD t undef) := fun t => rep_evA hR.slots (.tmp t)
  have key : ∀ (rs : List ResultVar) (l : List TV), resA P A rs = some l →
      (rs.mapM (resOne a.tmps)).run P w = .ok (l.map TV.val) w := by
    intro rs
    induction rs with
    | nil => intro l h; simp [resA] at h; subst h; rfl
    | cons rv rs ih =>
      intro l h
      cases rv with
      | tmp t =>
        simp only [resA] at h
        split at h
        · rename_i x r hx hr
          simp only [Option.some.injEq] at h; subst h
          have e := (slot t).of_val (AV.tv?_val hx)
          simp only [List.mapM_cons, List.map_cons]
          rw [show resOne a.tmps (.tmp t) = pure (a.tmps.getD t undef) from rfl, e]
          have := ih r hr
          simp [this]
        · cases h
      | cell x T =>
        simp only [resA] at h
        split at h
        · rename_i id off r hx hr
          split at h
          · rename_i blk hblk
            split at h
            · rename_i v hv
              split at h
              · rename_i y hy
                simp only [Option.some.injEq] at h; subst h
                have e := slot x
                rw [hx] at e
                obtain ⟨b, h1, h2⟩ := e
                obtain ⟨b', g1, g2, g3⟩ := hR.heap.at_ id blk hblk
                rw [h1] at g1; simp only [Option.some.injEq] at g1; subst g1
                obtain ⟨z, k1, k2⟩ := run_loadVar_A g3 hv
                have e2 := AV.tv?_val hy
                rw [k2] at e2
                simp only [Option.some.injEq] at e2
                subst e2
                simp only [List.mapM_cons, List.map_cons]
                rw [show resOne a.tmps (.cell x T) = (do loadVar T (← asAddr (a.tmps.getD x undef))) from rfl, h2]
                have := ih r hr
                simp [this, asAddr, k1]
              · cases h
            · cases h
          · cases h
        · cases h
  have hk := key _ _ h
  rw [results_eq, Sem.run_bind, Array.mapM_eq_mapM_toList, Sem.run_map, hk]
  rfl

def XV.av : XV → Option AV
  | .t x => some x.av
  | .f g l => some (.clo g l)
  | .rd _ _ => none

def avs : List XV → Option (List AV)
  | [] => some []
  | x :: l => match x.av, avs l with
    | some a, some r => some (a :: r)
    | _, _ => none

theorem avs_slots {w : World} (ρ : Names) : ∀ (xs : List XV) (l : List AV) (vs : List Value), avs xs = some l → XReps w xs vs → l.length = vs.length ∧ ∀ (i : Nat) (a : AV), l[i]? = some a → ∃ x : Value, vs[i]? = some x ∧ Rep ρ a x
  | [], l, [], h, _ => by simp [avs] at h; subst h; exact ⟨rfl, fun i a ha => by simp at ha⟩
  | x :: xs, l, v :: vs, h, hr => by
    unfold avs at h
    split at h
    · rename_i a r ha hr'
      simp only [Option.some.injEq] at h; subst h
      obtain ⟨h1, h2⟩ := avs_slots ρ xs r vs hr' hr.2
      refine ⟨by simp [h1], fun i b hb => ?_⟩
      cases i with
      | zero =>
        simp only [List.getElem?_cons_zero, Option.some.injEq] at hb; subst hb
        refine ⟨v, rfl, ?_⟩
        have hx := hr.1
        cases x <;> simp only [XV.av, Option.some.injEq, reduceCtorEq] at ha
        · subst ha; simp only [XRep] at hx; subst hx; exact rep_tv ρ _
        · subst ha; exact hx
      | succ i => simpa using h2 i b (by simpa using hb)
    · cases h
  | [], _, _ :: _, _, h => h.elim
  | _ :: _, _, [], _, h => h.elim

/-- A function that is gone through in place. -/
def fnI (P : Program) (env : List Entry) (os : Nat → Ora) (inl : Inl) : Inl := fun g args h k ob =>
  match P.funcs[g]? with
  | some fn =>
    if fn.name == "runtime.NumGoroutine" ∨ Nat.blt (args.length + (fn.ntmps - args.length)) 4096 = false then none else
    match fn.body with
    | some c =>
      match codeA P env inl os c k ⟨frame args fn.ntmps, h⟩ ob with
      | some (.exit _, _, _, _) => none
      | some (_, k', A, ob') => (resA P A fn.results.toList).map fun r => (retA r, k', A.h, ob')
      | none => none
    | none => none
  | none => none

def inlN (P : Program) (env : List Entry) (os : Nat → Ora) : Nat → Inl
  | 0 => fun _ _ _ _ _ => none
  | n + 1 => fnI P env os (inlN P env os n)

theorem fnI_ok {env : List Entry} (henv : EnvOK P env) {os : Nat → Ora} {inl : Inl} (hinl : InlOK P inl) : InlOK P (fnI P env os inl) := by
  refine ⟨fun g args h k ob r k' h' ob' hr hob => ?_, fun g args h k ob r k' h' ob' hr hob hfr => ?_⟩
  · unfold fnI at hr
    split at hr
    · split at hr
      · cases hr
      · split at hr
        · split at hr
          · cases hr
          · rename_i hrun
            simp only [Option.map_eq_some_iff, Prod.mk.injEq] at hr
            obtain ⟨_, _, _, _, _, rfl⟩ := hr
            exact codeA_mono hinl _ _ _ _ _ _ _ _ hrun hob
          · cases hr
        · cases hr
    · cases hr
  · unfold fnI at hr
    split at hr
    · rename_i fn hf
      split at hr
      · cases hr
      · rename_i hname
        have hcap : Nat.blt (args.length + (fn.ntmps - args.length)) 4096 = true := by
          cases hb : Nat.blt (args.length + (fn.ntmps - args.length)) 4096 with
          | true => rfl
          | false => exact absurd (.inr hb) hname
        split at hr
        · rename_i c hc
          split at hr
          · cases hr
          · rename_i ex k1 A ob1 hne hrun
            simp only [Option.map_eq_some_iff, Prod.mk.injEq] at hr
            obtain ⟨rs, hrs, rfl, rfl, rfl, rfl⟩ := hr
            have hs := fun w0 => codeA_sound (w0 := w0) henv hinl c k ⟨frame args fn.ntmps, h⟩ ob ex k1 A ob1 hrun hob hfr
            refine ⟨(hs default).1, fun vs w => by
              have h1 : fn.name ≠ "runtime.NumGoroutine" := by intro e; exact hname (.inl (by simp [e]))
              simp [callFunc, hf, h1, hc, mark], fun w0 ρ vs w hsl hb hh => ?_⟩
            refine calls_of_wp hf hc ?_
            refine (hs w0).2 _ ρ _ w ⟨frame_slots hsl fn.ntmps hcap, rfl, hb, hh⟩ fun ρ' a' w' hl hR' => ?_
            have hres := resA_run (fn := fn) hR' hrs
            have hbp : bodyPost P fn (fun e w' => ∃ v ρ', e = .returned v ∧ ρ.le ρ' ∧ Rep ρ' (retA rs) v ∧ Below w0.heap.size w0 w' ∧ HRel w0.heap.size ρ' A.h w') .normal a' w' :=
              bodyPost_end hres hR'.defers ⟨_, ρ', rfl, hl, rep_val (retA_val rs), hR'.below, hR'.heap⟩
            cases ex with
            | normal => exact hbp
            | ret => exact hbp
            | exit id => exact absurd rfl (hne id)
          · cases hr
        · cases hr
    · cases hr

theorem inlN_ok {env : List Entry} (henv : EnvOK P env) {os : Nat → Ora} : ∀ n, InlOK P (inlN P env os n)
  | 0 => ⟨fun _ _ _ _ _ _ _ _ _ h => (by cases h), fun _ _ _ _ _ _ _ _ _ h => (by cases h)⟩
  | n + 1 => fnI_ok henv (inlN_ok henv n)

/-- A function's run: what it hands back, and on what condition; so deep are calls gone through in place. -/
def fnA (P : Program) (env : List Entry) (n : Nat) (os : Nat → Ora) (fn : Func) (args : List XV) : Option (AV × Prop) :=
  match fn.body, avs args with
  | some c, some l =>
    if Nat.blt (l.length + (fn.ntmps - l.length)) 4096 = false then none else
    match codeA P env (inlN P env os n) os c 0 ⟨frame l fn.ntmps, fun _ => none⟩ True with
    | some (.exit _, _, _, _) => none
    | some (_, _, A, ob) => (resA P A fn.results.toList).map fun r => (retA r, ob)
    | none => none
  | _, _ => none

/-- What a call hands back, whatever the memory. -/
def Gives (P : Program) (f : FuncId) (args : List XV) (r : AV) : Prop :=
  ∃ v, r.val? = some v ∧ ∀ w vs, XReps w args vs → Calls P f vs.toArray w (fun en w' => en = .returned v ∧ Below w.heap.size w w')

theorem fn_gives {env : List Entry} (henv : EnvOK P env) {f : FuncId} {fn : Func} (hf : P.funcs[f]? = some fn) (n : Nat) (os : Nat → Ora) {args : List XV} {r : AV} {ob : Prop} (h : fnA P env n os fn args = some (r, ob)) (hob : ob) :
    Gives P f args r := by
  unfold fnA at h
  split at h
  · rename_i c l hc hl
    split at h
    · cases h
    rename_i hcap0
    have hcap : Nat.blt (l.length + (fn.ntmps - l.length)) 4096 = true := by
      cases hb : Nat.blt (l.length + (fn.ntmps - l.length)) 4096 with
      | true => rfl
      | false => exact absurd hb hcap0
    split at h
    · cases h
    · rename_i ex fr A ob' hne hrun
      simp only [Option.map_eq_some_iff, Prod.mk.injEq] at h
      obtain ⟨rs, hrs, rfl, rfl⟩ := h
      refine ⟨_, retA_val rs, fun w vs hx => ?_⟩
      obtain ⟨_, hs⟩ := codeA_sound (w0 := w) henv (inlN_ok henv n) c 0 _ True ex fr A ob' hrun hob (fun _ _ => rfl)
      refine calls_of_wp hf hc ?_
      obtain ⟨hlen, hat⟩ := avs_slots (fun _ => none) args l vs hl hx
      have hsl : SlotsL (fun _ => none) l vs.toArray := ⟨by simp [hlen], fun i a ha => by simpa using hat i a ha⟩
      refine hs _ _ _ _ ⟨frame_slots hsl fn.ntmps hcap, rfl, Below.refl _ _, ⟨⟨fun id blk h => (by cases h), fun i b h => (by cases h)⟩, fun i j b h => (by cases h), fun i _ => rfl⟩⟩ fun ρ' a' w' _ hR' => ?_
      have hres := resA_run (fn := fn) hR' hrs
      have hb : bodyPost P fn (fun en w' => en = .returned _ ∧ Below w.heap.size w w') .normal a' w' := bodyPost_end hres hR'.defers ⟨rfl, hR'.below⟩
      cases ex with
      | normal => exact hb
      | ret => exact hb
      | exit id => exact absurd rfl (hne id)
    · cases h
  · cases h

/-! ### Makes of arguments -/
/-- A reader of pieces: what they stand for, and what is left. -/
structure Par (α : Type) where
  p : List Ch → Option (α × List Ch)
  c : α → List Ch
  ok : ∀ l x r, p l = some (x, r) → flat l = flat (c x) ++ flat r

def Par.pair {α β : Type} (a : Par α) (b : Par β) : Par (α × β) where
  p l := match a.p l with
    | some (x, r) => match b.p r with | some (y, s) => some ((x, y), s) | none => none
    | none => none
  c z := a.c z.1 ++ b.c z.2
  ok l z s h := by
    split at h
    · rename_i x r hx
      split at h
      · rename_i y s' hy
        simp only [Option.some.injEq, Prod.mk.injEq] at h
        obtain ⟨rfl, rfl⟩ := h
        rw [a.ok _ _ _ hx, b.ok _ _ _ hy, flat_append, List.append_assoc]
      · cases h
    · cases h

/-- An argument. -/
structure XPar (α : Type) where
  p : XV → Option α
  c : α → XV
  ok : ∀ x a, p x = some a → ∀ w v, XRep w x v → XRep w (c a) v

def Par.x {α : Type} (a : Par α) : XPar α where
  p v := match v with
    | .t (.ag l) => match a.p l with | some (x, []) => some x | _ => none
    | _ => none
  c x := .t (.ag (a.c x))
  ok v x h w y hy := by
    split at h
    · split at h
      · rename_i l x' hp
        simp only [Option.some.injEq] at h; subst h
        have := a.ok _ _ _ hp
        simp only [XRep, TV.val] at hy ⊢
        rw [hy, this]
        simp [flat]
      · cases h
    · cases h

def XPar.int (k : IntKind) : XPar Int where
  p v := match v with
    | .t (.v (.int k' n)) => if k' = k then some n else none
    | _ => none
  c n := .t (.v (.int k n))
  ok v x h w y hy := by
    split at h
    · split at h
      · rename_i hk
        simp only [Option.some.injEq] at h; subst h; subst hk; exact hy
      · cases h
    · cases h

def entry0 (f : FuncId) (res : Alts) : Entry := ⟨f, fun _ => fun | [] => res | _ => []⟩
def entry1 {α : Type} (f : FuncId) (a : XPar α) (res : α → Alts) : Entry :=
  ⟨f, fun _ => fun | [x] => (match a.p x with | some u => res u | none => []) | _ => []⟩
def entry2 {α β : Type} (f : FuncId) (a : XPar α) (b : XPar β) (res : α → β → Alts) : Entry :=
  ⟨f, fun _ => fun | [x, y] => (match a.p x, b.p y with | some u, some v => res u v | _, _ => []) | _ => []⟩
def entry3 {α β γ : Type} (f : FuncId) (a : XPar α) (b : XPar β) (c : XPar γ) (res : α → β → γ → Alts) : Entry :=
  ⟨f, fun _ => fun | [x, y, z] => (match a.p x, b.p y, c.p z with | some u, some v, some t => res u v t | _, _, _ => []) | _ => []⟩

theorem entry0_ok {f : FuncId} {res : Alts} (he : ∀ args w, (callFunc f args).run P w = .ok (.enter f args) w) (h : ∀ c r, (c, r) ∈ res → c.getD True → Gives P f [] r) : (entry0 f res).OK P := by
  intro _ args c r hm hc
  simp only [entry0] at hm
  split at hm
  · obtain ⟨v, h1, h2⟩ := h c r hm hc
    exact ⟨v, h1, fun w vs hx => .inr ⟨he _ _, h2 w vs hx⟩⟩
  · cases hm

theorem entry1_ok {α : Type} {f : FuncId} {a : XPar α} {res : α → Alts} (he : ∀ args w, (callFunc f args).run P w = .ok (.enter f args) w)
    (h : ∀ u c r, (c, r) ∈ res u → c.getD True → Gives P f [a.c u] r) : (entry1 f a res).OK P := by
  intro _ args c r hm hc
  simp only [entry1] at hm
  split at hm
  · rename_i x
    split at hm
    · rename_i u hu
      obtain ⟨v, h1, h2⟩ := h u c r hm hc
      refine ⟨v, h1, fun w vs hx => ?_⟩
      match vs, hx with
      | [y], hx => exact .inr ⟨he _ _, h2 w [y] ⟨a.ok _ _ hu _ _ hx.1, trivial⟩⟩
    · cases hm
  · cases hm

theorem entry2_ok {α β : Type} {f : FuncId} {a : XPar α} {b : XPar β} {res : α → β → Alts} (he : ∀ args w, (callFunc f args).run P w = .ok (.enter f args) w)
    (h : ∀ u v c r, (c, r) ∈ res u v → c.getD True → Gives P f [a.c u, b.c v] r) : (entry2 f a b res).OK P := by
  intro _ args c r hm hc
  simp only [entry2] at hm
  split at hm
  · rename_i x y
    split at hm
    · rename_i u v hu hv
      obtain ⟨z, h1, h2⟩ := h u v c r hm hc
      refine ⟨z, h1, fun w vs hx => ?_⟩
      match vs, hx with
      | [p, q], hx => exact .inr ⟨he _ _, h2 w [p, q] ⟨a.ok _ _ hu _ _ hx.1, b.ok _ _ hv _ _ hx.2.1, trivial⟩⟩
    · cases hm
  · cases hm

theorem entry3_ok {α β γ : Type} {f : FuncId} {a : XPar α} {b : XPar β} {c : XPar γ} {res : α → β → γ → Alts} (he : ∀ args w, (callFunc f args).run P w = .ok (.enter f args) w)
    (h : ∀ u v t d r, (d, r) ∈ res u v t → d.getD True → Gives P f [a.c u, b.c v, c.c t] r) : (entry3 f a b c res).OK P := by
  intro _ args d r hm hc
  simp only [entry3] at hm
  split at hm
  · rename_i x y z
    split at hm
    · rename_i u v t hu hv ht
      obtain ⟨z, h1, h2⟩ := h u v t d r hm hc
      refine ⟨z, h1, fun w vs hx => ?_⟩
      match vs, hx with
      | [p, q, s], hx => exact .inr ⟨he _ _, h2 w [p, q, s] ⟨a.ok _ _ hu _ _ hx.1, b.ok _ _ hv _ _ hx.2.1, c.ok _ _ ht _ _ hx.2.2.1, trivial⟩⟩
    · cases hm
  · cases hm

/-- Every operation's first outcome, no number named. -/
def o0 : Nat → Ora := fun _ => ⟨0, fun _ => 0⟩

/-- Names for what operations come to, and which outcome where it is not the first. -/
def lookN : List (Nat × Nat × Nat) → Nat → Nat → Nat
  | [], _, _ => 0
  | (i, a, b) :: l, id, k => if Nat.beq i id then (if Nat.beq k 0 then a else b) else lookN l id k
def lookB : List (Nat × Nat) → Nat → Nat
  | [], _ => 0
  | (i, c) :: l, id => if Nat.beq i id then c else lookB l id
def oN (names : List (Nat × Nat × Nat)) (ways : List (Nat × Nat)) : Nat → Ora := fun id => ⟨lookB ways id, lookN names id⟩
/-- All names out of one function. -/
def oW (W : Nat → Nat → Nat) (ways : List (Nat × Nat)) : Nat → Ora := fun id => ⟨lookB ways id, W id⟩

theorem Gives.same {P : Program} {f : FuncId} {args : List XV} {r r' : AV} (h : Gives P f args r) (e : r'.val? = r.val?) : Gives P f args r' := by
  obtain ⟨v, h1, h2⟩ := h
  exact ⟨v, e.trans h1, h2⟩

/-- One outcome alone. -/
theorem only {P : Program} {f : FuncId} {args : List XV} {r0 : AV} (h : Gives P f args r0) : ∀ c r, (c, r) ∈ ([(none, r0)] : Alts) → c.getD True → Gives P f args r := by
  intro c r hm _
  simp only [List.mem_singleton, Prod.mk.injEq] at hm
  obtain ⟨_, rfl⟩ := hm
  exact h
end Go.Ev
