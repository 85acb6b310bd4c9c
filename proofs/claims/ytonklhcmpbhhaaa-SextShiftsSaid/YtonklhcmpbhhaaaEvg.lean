/- The evaluator: lists of operations, regions, code, functions; its soundness. -/
import Derived.Test.YtonklhcmpbhhaaaEvf
import Derived.LoopN
set_option linter.unusedSimpArgs false
set_option linter.unusedVariables false
namespace Go.Ev
open Go.RowKit

def addOb : Option Prop → Prop → Prop
  | none, ob => ob
  | some p, ob => p ∧ ob

theorem addOb_iff (c : Option Prop) (ob : Prop) : addOb c ob ↔ c.getD True ∧ ob := by cases c <;> simp [addOb]

/-- Functions that are gone through in place: what a call hands back, the next free name, the blocks, the condition. -/
abbrev Inl := FuncId → List AV → Heap → Nat → Prop → Option (AV × Nat × Heap × Prop)

/-- A call that is gone through in place. -/
def inlA (inl : Inl) (A : AA) (k : Nat) (op : Op) (ob : Prop) : Option (AV × Nat × Heap × Prop) :=
  match op with
  | .call { callee := .value f, args, argTypes := _ } =>
    match evA A.t f with
    | .clo g [] => inl g (args.toList.map (evA A.t)) A.h (k + 1) ob
    | _ => none
  | _ => none

/-- A builtin that writes. -/
def effA (P : Program) (A : AA) (op : Op) : Option (AV × Heap) :=
  match op with
  | .call { callee := .builtin .copy, args, argTypes } => copyA P A.t A.h args argTypes
  | _ => none

def stepS (P : Program) (env : List Entry) (inl : Inl) (os : Nat → Ora) (ops : Array Oper) (k : Nat) (o : Oper) (A : AA) (ob : Prop) : Option (Nat × AA × Prop) :=
  if wantedA ops A.t o then
    match o.op with
    | .store T x y => (storeA P A T x y).map fun h => (k + 1, ⟨putA A.t o.dst (.tp []), h⟩, ob)
    | op =>
      match stepQ P env A.h A.t k (os k) op with
      | some (c, r, nb) => some (k + 1, A.app o k r nb, addOb c ob)
      | none =>
        match inlA inl A k op ob with
        | some (r, k', h', ob') => some (k', ⟨putA A.t o.dst r, h'⟩, ob')
        | none =>
          match effA P A op with
          | some (r, h') => some (k + 1, ⟨putA A.t o.dst r, h'⟩, ob)
          | none => none
  else some (k + 1, A.app o k (.tp []) none, ob)

def runS (P : Program) (env : List Entry) (inl : Inl) (os : Nat → Ora) (ops : Array Oper) : List Oper → Nat → AA → Prop → Option (Nat × AA × Prop)
  | [], k, A, ob => some (k, A, ob)
  | o :: l, k, A, ob =>
    match stepS P env inl os ops k o A ob with
    | some (k1, A1, ob1) => runS P env inl os ops l k1 A1 ob1
    | none => none

def runH (P : Program) (env : List Entry) (os : Nat → Ora) (ops : Array Oper) (h0 : Heap) (fr : Nat) : List Oper → Nat → AA → Prop → Option (AA × Prop)
  | [], _, A, ob => some (A, ob)
  | o :: l, i, A, ob =>
    if wantedA ops A.t o then
      match o.op with
      | .store T x y => match storeA P A T x y with
        | some h' => runH P env os ops h0 fr l (i + 1) ⟨putA A.t o.dst (.tp []), h'⟩ ob
        | none => none
      | op =>
        match stepQ P env h0 A.t (fr + i) (os (fr + i)) op with
        | some (c, r, nb) => runH P env os ops h0 fr l (i + 1) (A.app o (fr + i) r nb) (addOb c ob)
        | none => none
    else runH P env os ops h0 fr l (i + 1) (A.app o (fr + i) (.tp []) none) ob

/-- What ends a region's head: a call that is no contract's. -/
def isStore (env : List Entry) (o : Oper) : Bool :=
  match o.op with
  | .call { callee := .value (.func f), .. } => (lookE env f).isNone
  | .call { callee := .builtin .copy, .. } => true
  | _ => false
def headN (env : List Entry) : List Oper → Nat
  | [] => 0
  | o :: l => if isStore env o then 0 else headN env l + 1

theorem headN_le (env : List Entry) : ∀ l, headN env l ≤ l.length
  | [] => Nat.le_refl 0
  | o :: l => by unfold headN; split <;> simp [headN_le env l]

def drawOK (ops : Array Oper) (n : Nat) : Bool :=
  memOK .any ops && Region.lexHead .any ops (ops.size - n) n 0 (Array.replicate ops.size false) && (Nat.beq n ops.size || (decide (n < ops.size) && Region.sinkB .any ops n && Region.chainB .any ops n))

def regionA (P : Program) (env : List Entry) (inl : Inl) (os : Nat → Ora) (ops : Array Oper) (draw : Bool) (fr : Nat) (A : AA) (ob : Prop) : Option (Nat × AA × Prop) :=
  match draw with
  | true =>
    if P.follows .mixedOrders && drawOK ops (headN env ops.toList) then
      match runH P env os ops A.h fr (ops.toList.take (headN env ops.toList)) 0 A ob with
      | some (A1, ob1) => runS P env inl os ops (ops.toList.drop (headN env ops.toList)) (fr + headN env ops.toList) A1 ob1
      | none => none
    else none
  | false => runS P env inl os ops ops.toList fr A ob

def Fresh (A : AA) (k : Nat) : Prop := ∀ j, k ≤ j → A.h j = none

section
variable {P : Program} {env : List Entry} {inl : Inl} {os : Nat → Ora} {ops : Array Oper} {fr : Nat} {w0 : World}

theorem beq_false_of_lt {a b : Nat} (h : b < a) : Nat.beq a b = false := by
  cases hb : Nat.beq a b with
  | false => rfl
  | true => have := Nat.eq_of_beq_eq_true hb; omega

theorem Fresh.app {A : AA} {k : Nat} (h : Fresh A k) (o : Oper) (r : AV) (nb : Option Blk) : Fresh (A.app o k r nb) (k + 1) := by
  intro j hj
  cases nb with
  | none => exact h j (by omega)
  | some b =>
    show (if Nat.beq j k = true then some b else A.h j) = none
    rw [beq_false_of_lt (by omega)]
    exact h j (by omega)

/-- What is said of a function that is gone through in place. -/
structure InlOK (P : Program) (inl : Inl) : Prop where
  mono : ∀ g args h k ob r k' h' ob', inl g args h k ob = some (r, k', h', ob') → ob' → ob
  ok : ∀ g args h k ob r k' h' ob', inl g args h k ob = some (r, k', h', ob') → ob' → (∀ j, k ≤ j → h j = none) →
    (∀ j, k' ≤ j → h' j = none) ∧ (∀ vs w, (callFunc g vs).run P w = .ok (.enter g vs) w) ∧
    ∀ (w0 : World) ρ vs w, SlotsL ρ args vs → Below w0.heap.size w0 w → HRel w0.heap.size ρ h w →
      Calls P g vs w (fun e w' => ∃ v ρ', e = .returned v ∧ ρ.le ρ' ∧ Rep ρ' r v ∧ Below w0.heap.size w0 w' ∧ HRel w0.heap.size ρ' h' w')

theorem runS_mono (hinl : InlOK P inl) : ∀ (l : List Oper) (k : Nat) (A : AA) (ob : Prop) (k' : Nat) (A' : AA) (ob' : Prop), runS P env inl os ops l k A ob = some (k', A', ob') → ob' → ob
  | [], k, A, ob, k', A', ob', h, hob => by simp only [runS, Option.some.injEq, Prod.mk.injEq] at h; obtain ⟨_, _, rfl⟩ := h; exact hob
  | o :: l, k, A, ob, k', A', ob', h, hob => by
    unfold runS at h
    split at h
    · rename_i k1 A1 ob1 hs
      have h1 := runS_mono hinl l _ _ _ _ _ _ h hob
      unfold stepS at hs
      split at hs
      · split at hs
        · simp only [Option.map_eq_some_iff, Prod.mk.injEq] at hs
          obtain ⟨_, _, _, _, rfl⟩ := hs
          exact h1
        · split at hs
          · simp only [Option.some.injEq, Prod.mk.injEq] at hs
            obtain ⟨_, _, rfl⟩ := hs
            rw [addOb_iff] at h1
            exact h1.2
          · split at hs
            · rename_i hi
              simp only [Option.some.injEq, Prod.mk.injEq] at hs
              obtain ⟨_, _, rfl⟩ := hs
              unfold inlA at hi
              split at hi
              · split at hi
                · exact hinl.mono _ _ _ _ _ _ _ _ _ hi h1
                · cases hi
              · cases hi
            · split at hs
              · simp only [Option.some.injEq, Prod.mk.injEq] at hs
                obtain ⟨_, _, rfl⟩ := hs
                exact h1
              · cases hs
      · simp only [Option.some.injEq, Prod.mk.injEq] at hs
        obtain ⟨_, _, rfl⟩ := hs
        exact h1
    · cases h

theorem slots_map {ρ : Names} {t : Sl} {a : Act} (hs : Slots ρ t a.tmps) (l : List Operand) : SlotsL ρ (l.map (evA t)) (l.map a.eval).toArray :=
  ⟨by simp, fun i b hb => by
    simp only [List.getElem?_map, Option.map_eq_some_iff] at hb
    obtain ⟨x, hx, rfl⟩ := hb
    exact ⟨a.eval x, by simp [hx], rep_evA hs x⟩⟩

theorem runS_sound (henv : EnvOK P env) (hinl : InlOK P inl) : ∀ (l : List Oper) (k : Nat) (A : AA) (ob : Prop) (k' : Nat) (A' : AA) (ob' : Prop), runS P env inl os ops l k A ob = some (k', A', ob') → ob' → Fresh A k →
    (ob ∧ Fresh A' k' ∧ ∀ (Q : Exit → Act → World → Prop) ρ a w, Rel w0 ρ A.t A.h a w → (∀ ρ' a' w', ρ.le ρ' → Rel w0 ρ' A'.t A'.h a' w' → Q .normal a' w') → wpList P ops Q l a w)
  | [], k, A, ob, k', A', ob', h, hob, hf => by
    simp only [runS, Option.some.injEq, Prod.mk.injEq] at h
    obtain ⟨rfl, rfl, rfl⟩ := h
    exact ⟨hob, hf, fun Q ρ a w hR hQ => hQ ρ a w ρ.le_refl hR⟩
  | o :: l, k, A, ob, k', A', ob', h, hob, hf => by
    unfold runS at h
    split at h
    · rename_i k1 A1 ob1 hs
      unfold stepS at hs
      split at hs
      · rename_i hw
        split at hs
        · rename_i T x y hop
          simp only [Option.map_eq_some_iff, Prod.mk.injEq] at hs
          obtain ⟨h', hst, rfl, rfl, rfl⟩ := hs
          have hf1 : Fresh ⟨putA A.t o.dst (.tp []), h'⟩ (k + 1) := by
            intro j hj
            exact storeA_fresh hst (hf j (by omega))
          obtain ⟨e1, e2, e3⟩ := runS_sound henv hinl l (k + 1) _ _ k' A' ob' h hob hf1
          refine ⟨e1, e2, fun Q ρ a w hR hQ => ?_⟩
          unfold wpList
          rw [wantedA_eq hR.slots, hw, if_pos rfl]
          exact .inl (store_wp hR hop hst fun a' w' hR' => e3 Q ρ a' w' hR' hQ)
        · split at hs
          · rename_i c r nb hq
            simp only [Option.some.injEq, Prod.mk.injEq] at hs
            obtain ⟨rfl, rfl, rfl⟩ := hs
            obtain ⟨e1, e2, e3⟩ := runS_sound henv hinl l (k + 1) _ _ k' A' ob' h hob (hf.app o r nb)
            rw [addOb_iff] at e1
            refine ⟨e1.2, e2, fun Q ρ a w hR hQ => ?_⟩
            unfold wpList
            rw [wantedA_eq hR.slots, hw, if_pos rfl]
            exact .inl (stepQ_wp henv hR (fun _ _ h => h) (hf _ (Nat.le_refl _)) hq e1.1 fun ρ' a' w' hl hR' => e3 Q ρ' a' w' hR' fun ρ'' a'' w'' hl' hR'' => hQ ρ'' a'' w'' (Names.le_trans hl hl') hR'')
          · split at hs
            · rename_i r k2 h2 ob2 hi
              simp only [Option.some.injEq, Prod.mk.injEq] at hs
              obtain ⟨rfl, rfl, rfl⟩ := hs
              unfold inlA at hi
              split at hi
              · rename_i f args at' hop
                split at hi
                · rename_i g hg
                  have hob2 : ob2 := runS_mono hinl l k2 ⟨putA A.t o.dst r, h2⟩ ob2 k' A' ob' h hob
                  obtain ⟨g3, g4, g5⟩ := hinl.ok _ _ _ _ _ _ _ _ _ hi hob2 (fun j hj => hf j (by omega))
                  obtain ⟨e1, e2, e3⟩ := runS_sound henv hinl l k2 ⟨putA A.t o.dst r, h2⟩ ob2 k' A' ob' h hob g3
                  refine ⟨hinl.mono _ _ _ _ _ _ _ _ _ hi hob2, e2, fun Q ρ a w hR hQ => ?_⟩
                  unfold wpList
                  rw [wantedA_eq hR.slots, hw, if_pos rfl]
                  refine .inl ?_
                  have hfe := rep_evA hR.slots f
                  rw [hg] at hfe
                  simp only [Rep] at hfe
                  have e1' : o.op = .call { callee := .value f, args := args, argTypes := at' } := by assumption
                  have hrun : (execOp a.eval o).run P w = .ok (.enter g (args.map a.eval)) w := by
                    simp only [execOp, e1', Sem.run_bind, resolve, hfe, Deferred.ofValue, Sem.run_pure, Result.andThen_ok, invoke]
                    rw [← g4]
                    congr 2
                    apply Array.toList_inj.1
                    simp
                  unfold Oper.wp
                  rw [hrun]
                  simp only [Oper.upon]
                  have hsl : SlotsL ρ (args.toList.map (evA A.t)) (args.map a.eval) := by
                    have := slots_map hR.slots args.toList
                    have e : (args.toList.map a.eval).toArray = args.map a.eval := by apply Array.toList_inj.1; simp
                    rwa [e] at this
                  refine (g5 w0 ρ _ w hsl hR.below hR.heap).mono fun en w' ⟨v, ρ', h1, h2', h3, h4, h5⟩ => ?_
                  subst h1
                  refine e3 Q ρ' _ w' ⟨(hR.slots.mono h2').put o.dst h3, ?_, h4, h5⟩ fun ρ'' a'' w'' hl' hR'' => hQ ρ'' a'' w'' (Names.le_trans h2' hl') hR''
                  have := hR.defers
                  cases hd : o.dst <;> simpa [Act.put, hd] using this
                · cases hi
              · cases hi
            · split at hs
              · rename_i r h' he
                simp only [Option.some.injEq, Prod.mk.injEq] at hs
                obtain ⟨rfl, rfl, rfl⟩ := hs
                unfold effA at he
                split at he
                · rename_i args argTypes e1'
                  obtain ⟨e1, e2, e3⟩ := runS_sound henv hinl l (k + 1) ⟨putA A.t o.dst r, h'⟩ _ k' A' ob' h hob (fun j hj => copyA_fresh he (hf j (by omega)))
                  refine ⟨e1, e2, fun Q ρ a w hR hQ => ?_⟩
                  unfold wpList
                  rw [wantedA_eq hR.slots, hw, if_pos rfl]
                  exact .inl (copy_wp hR e1' he fun a' w' hR' => e3 Q ρ a' w' hR' hQ)
                · cases he
              · cases hs
      · rename_i hw
        simp only [Option.some.injEq, Prod.mk.injEq] at hs
        obtain ⟨rfl, rfl, rfl⟩ := hs
        obtain ⟨e1, e2, e3⟩ := runS_sound henv hinl l (k + 1) _ _ k' A' ob' h hob (hf.app o (.tp []) none)
        refine ⟨e1, e2, fun Q ρ a w hR hQ => ?_⟩
        unfold wpList
        rw [wantedA_eq hR.slots, if_neg hw]
        refine e3 Q ρ _ w ⟨hR.slots.put o.dst (by simp [Rep, undef]), ?_, hR.below, hR.heap⟩ hQ
        have := hR.defers
        cases hd : o.dst <;> simpa [Act.put, hd] using this
    · cases h

theorem runH_lex {h0 : Heap} : ∀ (l : List Oper) (i : Nat) (A : AA) (ob : Prop) (A' : AA) (ob' : Prop), runH P env os ops h0 fr l i A ob = some (A', ob') → ob' → ob ∧ QLex P env h0 ops os fr l i A A'
  | [], i, A, ob, A', ob', h, hob => by
    simp only [runH, Option.some.injEq, Prod.mk.injEq] at h
    obtain ⟨rfl, rfl⟩ := h
    exact ⟨hob, rfl⟩
  | o :: l, i, A, ob, A', ob', h, hob => by
    unfold runH at h
    split at h
    · rename_i hw
      split at h
      · rename_i T x y hop
        split at h
        · rename_i h' hst
          obtain ⟨e1, e2⟩ := runH_lex l (i + 1) _ _ A' ob' h hob
          exact ⟨e1, _, .inr ⟨hw, T, x, y, h', hop, hst, rfl⟩, e2⟩
        · cases h
      · split at h
        · rename_i c r nb hq
          obtain ⟨e1, e2⟩ := runH_lex l (i + 1) _ _ A' ob' h hob
          rw [addOb_iff] at e1
          exact ⟨e1.2, _, .inl ⟨r, nb, .inl ⟨hw, c, hq, e1.1⟩, rfl⟩, e2⟩
        · cases h
    · rename_i hw
      obtain ⟨e1, e2⟩ := runH_lex l (i + 1) _ _ A' ob' h hob
      exact ⟨e1, _, .inl ⟨.tp [], none, .inr ⟨by simpa using hw, rfl, rfl⟩, rfl⟩, e2⟩

theorem Rel.drew {ρ : Names} {t : Sl} {h : Heap} {a : Act} {w : World} (hR : Rel w0 ρ t h a w) : Rel w0 ρ t h a { w with drawn := w.drawn + 1 } :=
  ⟨hR.slots, hR.defers, hR.below.drew, ⟨⟨hR.heap.at_, hR.heap.lt⟩, hR.heap.inj, hR.heap.none_⟩⟩

theorem QLex.fresh {h0 : Heap} : ∀ (l : List Oper) (i : Nat) (A A' : AA), QLex P env h0 ops os fr l i A A' → Fresh A (fr + i) → Fresh A' (fr + i + l.length)
  | [], i, A, A', h, hf => by cases h; simpa using hf
  | o :: l, i, A, A', ⟨A1, hq, h⟩, hf => by
    rcases hq with ⟨r, nb, _, e⟩ | ⟨_, T, x, y, h', _, hst, e⟩
    · subst e
      have := QLex.fresh l (i + 1) _ A' h (by simpa [Nat.add_assoc] using hf.app o r nb)
      simpa [Nat.add_assoc, Nat.add_comm 1] using this
    · subst e
      have := QLex.fresh l (i + 1) _ A' h (fun j hj => storeA_fresh hst (hf j (by omega)))
      simpa [Nat.add_assoc, Nat.add_comm 1] using this

theorem regionA_mono (hinl : InlOK P inl) {draw : Bool} {A A' : AA} {ob ob' : Prop} {k' : Nat} (h : regionA P env inl os ops draw fr A ob = some (k', A', ob')) (hob : ob') : ob := by
  unfold regionA at h
  split at h
  · split at h
    · split at h
      · rename_i A2 ob2 hh
        exact (runH_lex _ _ _ _ _ _ hh (runS_mono hinl _ _ _ _ _ _ _ h hob)).1
      · cases h
    · cases h
  · exact runS_mono hinl _ _ _ _ _ _ _ h hob

theorem regionA_sound (henv : EnvOK P env) (hinl : InlOK P inl) {draw : Bool} {A A' : AA} {ob ob' : Prop} {k' : Nat} (h : regionA P env inl os ops draw fr A ob = some (k', A', ob')) (hob : ob') (hf : Fresh A fr) :
    Fresh A' k' ∧ ∀ (id : Nat) (Q : Exit → Act → World → Prop) ρ a w, Rel w0 ρ A.t A.h a w → (∀ ρ' a' w', ρ.le ρ' → Rel w0 ρ' A'.t A'.h a' w' → Q .normal a' w') → (Code.region id ops draw).wp P Q a w := by
  unfold regionA at h
  split at h
  · split at h
    · rename_i hc
      simp only [Bool.and_eq_true] at hc
      obtain ⟨hm, hd⟩ := hc
      split at h
      · rename_i A1 ob1 hh
        generalize hn : headN env ops.toList = n at *
        have hnle : n ≤ ops.size := by rw [← hn]; simpa using headN_le env ops.toList
        have htl : (ops.toList.take n).length = n := by simp; omega
        have hdl : (ops.toList.drop n).length = ops.size - n := by simp
        unfold drawOK at hd
        simp only [Bool.and_eq_true, Bool.or_eq_true, decide_eq_true_eq] at hd
        obtain ⟨⟨hmo, hlex⟩, htail⟩ := hd
        have hob1 : ob1 := runS_mono hinl _ _ _ _ _ _ _ h hob
        obtain ⟨_, hql⟩ := runH_lex _ _ _ _ _ _ hh hob1
        have hf1 : Fresh A1 (fr + n) := by
          have := QLex.fresh _ _ _ _ hql (by simpa using hf)
          rw [htl] at this
          simpa using this
        obtain ⟨_, hf2, htailwp⟩ := runS_sound (w0 := w0) henv hinl _ _ _ _ _ _ _ h hob hf1
        refine ⟨hf2, fun id Q ρ a w hR hQ => ?_⟩
        have htw : ∀ (i : Nat) (listed : Array Bool), HeadInv .any ops n listed → i < n → listed.getD i true = false → ∀ t, n ≤ t → t ∉ Region.ready .any ops listed := by
          intro i listed inv hi hun t ht hr
          rcases htail with htail | ⟨⟨hlt, hs⟩, hc⟩
          · have := Nat.eq_of_beq_eq_true htail
            obtain ⟨_, ot, hot, _⟩ := mem_ready.1 hr
            have := (Array.getElem?_eq_some_iff.1 hot).1
            omega
          · exact tail_waits hs hc hlt inv _ i rfl hi hun t ht hr
        have inv0 : HeadInv .any ops n (Array.replicate ops.size false) :=
          ⟨by simp, fun j oj _ hl => (by rw [getD_replicate_false] at hl; cases hl), fun t _ ht => getD_in (by simpa using ht) (getD_replicate_false _ _)⟩
        have H := wpAnyA_lex (md := .any) (g := ops.size - n) hmo htw (ops.toList.take n) 0 (Array.replicate ops.size false) A (fun j hj => by
          have hj' : j < n := by rw [htl] at hj; exact hj
          simp [hj']) (by simpa using htl) inv0 (fun j _ => hf _ (by omega)) (by rw [htl]; exact hlex) hql
        refine wp_region_any hm ?_
        have hall := wpAny_of_A (w0 := w0) (ρb := ρ) (g := ops.size - n) (Q := Q) henv hmo _ _ _ H (fun _ _ _ h => h) inv0.closed (fun j _ => hf _ (by omega)) (fun j _ => hf _ (by omega)) (by simp)
          (fun listed' A'' ρ' a' w' hL _ _ hlb hR' => by
            obtain ⟨hseq, rfl⟩ := hL
            have := wpAny_of_seq (md := .any) (P := P) (Q' := Q) (ops.toList.drop n) n listed' a' w' (fun j => by simp [List.getElem?_drop]) (by rw [hdl]; exact hseq)
              (htailwp Q ρ' a' w' hR' fun ρ'' a'' w'' hl hR'' => hQ ρ'' a'' w'' (Names.le_trans hlb hl) hR'')
            rwa [hdl] at this) ρ a _ ρ.le_refl hR.drew
        rw [htl, show n + (ops.size - n) = ops.size by omega] at hall
        exact hall
      · cases h
    · cases h
  · obtain ⟨_, e2, e3⟩ := runS_sound (w0 := w0) henv hinl _ _ _ _ _ _ _ h hob hf
    exact ⟨e2, fun id Q ρ a w hR hQ => wp_region_list (e3 Q ρ a w hR hQ)⟩
end
end Go.Ev
