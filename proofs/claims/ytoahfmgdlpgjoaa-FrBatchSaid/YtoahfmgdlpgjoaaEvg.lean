/- The evaluator: lists of operations, regions; their soundness. -/
import Derived.Test.YtoahfmgdlpgjoaaEvw
set_option linter.unusedSimpArgs false
set_option linter.unusedVariables false
namespace Go.Ev
open Go.RowKit

def addOb : Option Prop → Prop → Prop
  | none, ob => ob
  | some p, ob => p ∧ ob

theorem addOb_iff (c : Option Prop) (ob : Prop) : addOb c ob ↔ c.getD True ∧ ob := by cases c <;> simp [addOb]

/-- What is gone through in place: a function; a loop's round. -/
inductive Tgt where
  | fn (g : FuncId)
  | yd (id : Nat)
/-- What is gone through in place: what a call hands back, the next free name, the blocks, the condition. -/
abbrev Inl := Tgt → List AV → Heap → Nat → Prop → Option (AV × Nat × Heap × Prop)

/-- A call that is gone through in place. -/
def inlA (inl : Inl) (A : AA) (k : Nat) (op : Op) (ob : Prop) : Option (AV × Nat × Heap × Prop) :=
  match op with
  | .call { callee := .value f, args, argTypes := _ } =>
    match evA A.t f with
    | .clo g first cap => inl (.fn g) (first ++ args.toList.map (evA A.t) ++ cap) A.h (k + 1) ob
    | .yd id => inl (.yd id) (args.toList.map (evA A.t)) A.h (k + 1) ob
    | _ => none
  | _ => none

/-- A builtin that writes. -/
def effA (P : Program) (A : AA) (op : Op) : Option (AV × Heap) :=
  match op with
  | .call { callee := .builtin .copy, args, argTypes } => copyA P A.t A.h args argTypes
  | _ => none

def stepS (P : Program) (X : Rules P) (env : List Entry) (inl : Inl) (os : Nat → Ora) (ops : Array Oper) (k : Nat) (o : Oper) (A : AA) (ob : Prop) : Option (Nat × AA × Prop) :=
  match wantedA ops A.t o with
  | none => none
  | some false => some (k + 1, A.app o k (.tp []) none, ob)
  | some true =>
    match (os k).ex with
    | r + 1 =>
      match X.x[r]? with
      | some q => (q.fn (os k) k A.h (o.op.operands.toList.map (evA A.t)) o.op).map fun (c, r, ups) => (k + 1, ⟨putA A.t o.dst r, setAll A.h ups, A.d⟩, addOb c ob)
      | none => none
    | 0 =>
    match o.op with
    | .store T x y => (storeA P A T x y).map fun h => (k + 1, ⟨putA A.t o.dst (.tp []), h, A.d⟩, ob)
    | op =>
      match stepQ P X env A.h A.t k (os k) op with
      | some (c, r, nb) => some (k + 1, A.app o k r nb, addOb c ob)
      | none =>
        match inlA inl A k op ob with
        | some (r, k', h', ob') => some (k', ⟨putA A.t o.dst r, h', A.d⟩, ob')
        | none =>
          match effA P A op with
          | some (r, h') => some (k + 1, ⟨putA A.t o.dst r, h', A.d⟩, ob)
          | none =>
            match X.d with
            | some q => (q.fn (os k) k A.h (o.op.operands.toList.map (evA A.t)) o.op).map fun (c, r, ups) => (k + 1, ⟨putA A.t o.dst r, setAll A.h ups, A.d⟩, addOb c ob)
            | none => none

def runS (P : Program) (X : Rules P) (env : List Entry) (inl : Inl) (os : Nat → Ora) (ops : Array Oper) : List Oper → Nat → AA → Prop → Option (Nat × AA × Prop)
  | [], k, A, ob => some (k, A, ob)
  | o :: l, k, A, ob =>
    match stepS P X env inl os ops k o A ob with
    | some (k1, A1, ob1) => runS P X env inl os ops l k1 A1 ob1
    | none => none

def runH (P : Program) (X : Rules P) (env : List Entry) (os : Nat → Ora) (ops : Array Oper) (h0 : Heap) (fr : Nat) : List Oper → Nat → AA → Prop → Option (AA × Prop)
  | [], _, A, ob => some (A, ob)
  | o :: l, i, A, ob =>
    match wantedA ops A.t o with
    | none => none
    | some false => runH P X env os ops h0 fr l (i + 1) (A.app o (fr + i) (.tp []) none) ob
    | some true =>
      match o.op with
      | .store T x y => match storeA P A T x y with
        | some h' => runH P X env os ops h0 fr l (i + 1) ⟨putA A.t o.dst (.tp []), h', A.d⟩ ob
        | none => none
      | op =>
        match stepQ P X env h0 A.t (fr + i) (os (fr + i)) op with
        | some (c, r, nb) => runH P X env os ops h0 fr l (i + 1) (A.app o (fr + i) r nb) (addOb c ob)
        | none => none

/-- What ends a region's head: a call that is no contract's. -/
def isTail (env : List Entry) (o : Oper) (ora : Ora) : Bool :=
  match ora.ex with
  | _ + 1 => true
  | 0 =>
  match o.op with
  | .call { callee := .value (.func f), .. } => match lookE env f with | some _ => false | none => true
  | .call { callee := .value _, .. } => true
  | .call { callee := .builtin .copy, .. } => true
  | .call { callee := .builtin .append, .. } => true
  | _ => false
def headN (env : List Entry) (os : Nat → Ora) : List Oper → Nat → Nat
  | [], _ => 0
  | o :: l, k => match isTail env o (os k) with | true => 0 | false => headN env os l (k + 1) + 1

theorem headN_le (env : List Entry) (os : Nat → Ora) : ∀ l k, headN env os l k ≤ l.length
  | [], _ => Nat.le_refl 0
  | o :: l, k => by unfold headN; split <;> simp [headN_le env os l]

def drawOK (ops : Array Oper) (n : Nat) : Bool :=
  Nat.ble n ops.size && memOK .any ops && Region.lexHead .any ops (ops.size - n) n 0 (Array.replicate ops.size false) && (Nat.beq n ops.size || (decide (n < ops.size) && Region.sinkB .any ops n && Region.chainB .any ops n))

def headLen (env : List Entry) (os : Nat → Ora) (ops : Array Oper) (fr : Nat) : Nat := match (os fr).hd with | n + 1 => n | 0 => headN env os ops.toList fr

def regionA (P : Program) (X : Rules P) (env : List Entry) (inl : Inl) (os : Nat → Ora) (ops : Array Oper) (draw : Bool) (fr : Nat) (A : AA) (ob : Prop) : Option (Nat × AA × Prop) :=
  match draw with
  | true =>
    match P.follows .mixedOrders && drawOK ops (headLen env os ops fr) with
    | true =>
      match runH P X env os ops A.h fr (ops.toList.take (headLen env os ops fr)) 0 A ob with
      | some (A1, ob1) => runS P X env inl os ops (ops.toList.drop (headLen env os ops fr)) (fr + headLen env os ops fr) A1 ob1
      | none => none
    | false => none
  | false => runS P X env inl os ops ops.toList fr A ob

theorem wpAnyIn_of_seq {P : Program} {ops : Array Oper} {md : Region.Mode} {F : Fence} {n : Nat} {Q' : Exit → Act → World → Prop} : ∀ (l : List Oper) (k : Nat) (listed : Array Bool) (a : Act) (w : World), (∀ j, l[j]? = ops[k + j]?) →
    Region.seqB md ops l.length k listed = true → wpListIn F n P ops Q' l a w → wpAnyIn F n P md ops Q' l.length listed a w
  | [], _, _, _, _, _, hB, h => ⟨by simpa [Region.seqB] using hB, h⟩
  | o :: l, k, listed, a, w, hl, hB, h => by
    have h0 : ops[k]? = some o := by simpa using (hl 0).symm
    simp only [List.length_cons, Region.seqB, Bool.and_eq_true, decide_eq_true_eq] at hB
    refine ⟨fun h1 => (by rw [hB.1] at h1; cases h1), fun i hi => ?_⟩
    rw [hB.1] at hi
    have hik : i = k := by simpa using hi
    subst hik
    have hw : wpOpIn F n P ops Q' i (wpListIn F n P ops Q' l) a w := by unfold wpOpIn; simp only [h0]; exact h
    exact wpOpIn_mono (fun a' w' h' => wpAnyIn_of_seq l (i + 1) _ a' w' (fun j => by have := hl (j + 1); simpa [Nat.add_assoc, Nat.add_comm 1 j] using this) hB.2 h') hw

section
variable {P : Program} {X : Rules P} {env : List Entry} {inl : Inl} {os : Nat → Ora} {ops : Array Oper} {fr : Nat} {w0 : World}

theorem Fresh.app {A : AA} {k : Nat} (h : Fresh A k) (o : Oper) (r : AV) (nb : Option Blk) : Fresh (A.app o k r nb) (k + 1) := by
  intro j hj
  cases nb with
  | none => exact h j (by omega)
  | some b =>
    show (A.h.put k b).get j = none
    rw [Heap.put_ne _ (by omega)]
    exact h j (by omega)

/-- What a call that is gone through in place leaves behind. -/
def After (w0 : World) (ρ : Names) (r : AV) (h' : Heap) (e : Ending) (w' : World) : Prop :=
  ∃ v ρ', e = .returned v ∧ ρ.le ρ' ∧ Rep ρ' r v ∧ Below w0.heap.size w0 w' ∧ HRel w0.heap.size ρ' h' w'

/-- What is said of what is gone through in place. -/
structure InlOK (P : Program) (inl : Inl) : Prop where
  mono : ∀ g args h k ob r k' h' ob', inl g args h k ob = some (r, k', h', ob') → ob' → ob
  fresh : ∀ g args h k ob r k' h' ob', inl g args h k ob = some (r, k', h', ob') → ob' → (∀ j, k ≤ j → h.get j = none) → ∀ j, k' ≤ j → h'.get j = none
  fn : ∀ g args h k ob r k' h' ob', inl (.fn g) args h k ob = some (r, k', h', ob') → ob' → (∀ j, k ≤ j → h.get j = none) →
    (∀ vs w, (callFunc g vs).run P w = .ok (.enter g vs) w) ∧
    ∀ (w0 : World) ρ (vs : Array Value) w, SlotsL ρ args vs → Below w0.heap.size w0 w → HRel w0.heap.size ρ h w → Calls P g vs w (After w0 ρ r h')
  yd : ∀ id args h k ob r k' h' ob', inl (.yd id) args h k ob = some (r, k', h', ob') → ob' → (∀ j, k ≤ j → h.get j = none) →
    ∀ (w0 : World) ρ (vs : Array Value) w v, SlotsL ρ args vs → Below w0.heap.size w0 w → HRel w0.heap.size ρ h w → ρ id = some v →
      ∃ f tmps asg body, (Instr.yield v.1 vs).run P w = .ok (.round v.1 f tmps asg body) w ∧ ∀ n, RoundIn Fence.wide n P v.1 f tmps asg body w (After w0 ρ r h')

theorem WideF.round {F : Fence} (hF : WideF F) {n : Nat} {l : Nat} {f : FuncId} {tmps : Array Value} {asg body : Code} {w : World} {R : Ending → World → Prop} (h : RoundIn Fence.wide n P l f tmps asg body w R) : RoundIn F n P l f tmps asg body w R := by
  rcases hF with rfl | ⟨l', rfl⟩
  · exact h
  · exact h

theorem stepS_mono (hinl : InlOK P inl) {k : Nat} {o : Oper} {A : AA} {ob : Prop} {k1 : Nat} {A1 : AA} {ob1 : Prop} (hs : stepS P X env inl os ops k o A ob = some (k1, A1, ob1)) (h1 : ob1) : ob := by
  unfold stepS at hs
  split at hs
  · cases hs
  · simp only [Option.some.injEq, Prod.mk.injEq] at hs; obtain ⟨_, _, rfl⟩ := hs; exact h1
  · split at hs
    · split at hs
      · simp only [Option.map_eq_some_iff, Prod.mk.injEq] at hs
        obtain ⟨⟨c, r, ups⟩, _, _, _, rfl⟩ := hs
        exact ((addOb_iff _ _).1 h1).2
      · cases hs
    · split at hs
      · simp only [Option.map_eq_some_iff, Prod.mk.injEq] at hs
        obtain ⟨_, _, _, _, rfl⟩ := hs
        exact h1
      · split at hs
        · simp only [Option.some.injEq, Prod.mk.injEq] at hs
          obtain ⟨_, _, rfl⟩ := hs
          exact ((addOb_iff _ _).1 h1).2
        · split at hs
          · rename_i hi
            simp only [Option.some.injEq, Prod.mk.injEq] at hs
            obtain ⟨_, _, rfl⟩ := hs
            unfold inlA at hi
            split at hi
            · split at hi
              · exact hinl.mono _ _ _ _ _ _ _ _ _ hi h1
              · exact hinl.mono _ _ _ _ _ _ _ _ _ hi h1
              · cases hi
            · cases hi
          · split at hs
            · simp only [Option.some.injEq, Prod.mk.injEq] at hs
              obtain ⟨_, _, rfl⟩ := hs
              exact h1
            · split at hs
              · simp only [Option.map_eq_some_iff, Prod.mk.injEq] at hs
                obtain ⟨⟨c, r, ups⟩, _, _, _, rfl⟩ := hs
                exact ((addOb_iff _ _).1 h1).2
              · cases hs

theorem runS_mono (hinl : InlOK P inl) : ∀ (l : List Oper) (k : Nat) (A : AA) (ob : Prop) (k' : Nat) (A' : AA) (ob' : Prop), runS P X env inl os ops l k A ob = some (k', A', ob') → ob' → ob
  | [], k, A, ob, k', A', ob', h, hob => by simp only [runS, Option.some.injEq, Prod.mk.injEq] at h; obtain ⟨_, _, rfl⟩ := h; exact hob
  | o :: l, k, A, ob, k', A', ob', h, hob => by
    unfold runS at h
    split at h
    · rename_i k1 A1 ob1 hs
      exact stepS_mono hinl hs (runS_mono hinl l _ _ _ _ _ _ h hob)
    · cases h

/-- One step. -/
theorem stepS_sound (henv : EnvOK P env) (hinl : InlOK P inl) {k : Nat} {o : Oper} {A : AA} {ob : Prop} {k1 : Nat} {A1 : AA} {ob1 : Prop} (hs : stepS P X env inl os ops k o A ob = some (k1, A1, ob1)) (h1 : ob1) (hf : Fresh A k) :
    Fresh A1 k1 ∧ ∀ {F : Fence} (hF : WideF F) (n : Nat) (Q : Exit → Act → World → Prop) (K : Act → World → Prop) ρ a w, Rel w0 ρ A a w → (∀ ρ' a' w', ρ.le ρ' → Rel w0 ρ' A1 a' w' → K a' w') →
      if Region.wanted o (yielded ops a.tmps) then o.wpIn F n P a w K Q else (∀ f, o.about P w a.eval = some f → F.fn f) ∧ K (a.put o.dst undef) w := by
  unfold stepS at hs
  split at hs
  · cases hs
  · rename_i hw
    simp only [Option.some.injEq, Prod.mk.injEq] at hs
    obtain ⟨rfl, rfl, rfl⟩ := hs
    refine ⟨hf.app o (.tp []) none, fun hF n Q K ρ a w hR hK => ?_⟩
    rw [wantedA_eq hR.slots hw]
    simp only [Bool.false_eq_true, if_false]
    exact ⟨about_wide hF, hK ρ _ w ρ.le_refl ⟨hR.slots.put o.dst (rep_undef.2 rfl), by rw [put_defers]; exact hR.defers, hR.below, hR.heap⟩⟩
  · rename_i hw
    split at hs
    · split at hs
      · rename_i q hq
        simp only [Option.map_eq_some_iff, Prod.mk.injEq] at hs
        obtain ⟨⟨c, r, ups⟩, hq', rfl, rfl, rfl⟩ := hs
        rw [addOb_iff] at h1
        refine ⟨fun j hj => q.fresh _ _ _ _ _ _ _ _ hq' hf j hj, fun hF n Q K ρ a w hR hK => ?_⟩
        rw [wantedA_eq hR.slots hw]
        simp only [if_true]
        exact q.ok _ _ _ _ _ _ _ _ hq' h1.1 hf hF n a o rfl (slots_map hR.slots _) hR.below hR.heap fun ρ' x w' hl hr hb hh =>
          hK ρ' _ w' hl ⟨(hR.slots.mono hl).put o.dst hr, by rw [put_defers]; exact hR.defers.mono hl, hb, hh⟩
      · cases hs
    · split at hs
      · rename_i T x y hop
        simp only [Option.map_eq_some_iff, Prod.mk.injEq] at hs
        obtain ⟨h', hst, rfl, rfl, rfl⟩ := hs
        refine ⟨fun j hj => storeA_fresh hst (hf j (by omega)), fun hF n Q K ρ a w hR hK => ?_⟩
        rw [wantedA_eq hR.slots hw]
        simp only [if_true]
        exact store_wp hF n hR hop hst fun a' w' hR' => hK ρ a' w' ρ.le_refl hR'
      · split at hs
        · rename_i c r nb hq
          simp only [Option.some.injEq, Prod.mk.injEq] at hs
          obtain ⟨rfl, rfl, rfl⟩ := hs
          rw [addOb_iff] at h1
          refine ⟨hf.app o r nb, fun hF n Q K ρ a w hR hK => ?_⟩
          rw [wantedA_eq hR.slots hw]
          simp only [if_true]
          exact stepQ_wp hF n henv hR (fun _ _ h => h) (hf _ (Nat.le_refl _)) hq h1.1 hK
        · split at hs
          · rename_i r k2 h2 ob2 hi
            simp only [Option.some.injEq, Prod.mk.injEq] at hs
            obtain ⟨rfl, rfl, rfl⟩ := hs
            have hf' : ∀ j, k + 1 ≤ j → A.h.get j = none := fun j hj => hf j (by omega)
            unfold inlA at hi
            split at hi
            · rename_i f args at' hop
              split at hi
              · rename_i g first cap hg
                have g3 := hinl.fresh _ _ _ _ _ _ _ _ _ hi h1 hf'
                obtain ⟨g4, g5⟩ := hinl.fn _ _ _ _ _ _ _ _ _ hi h1 hf'
                refine ⟨g3, fun hF n Q K ρ a w hR hK => ?_⟩
                rw [wantedA_eq hR.slots hw]
                simp only [if_true]
                have hfe := rep_evA hR.slots f
                rw [hg] at hfe
                simp only [Rep] at hfe
                obtain ⟨xs, ys, e1, e2, e3⟩ := hfe
                have e1' : o.op = .call { callee := .value f, args := args, argTypes := at' } := by assumption
                have hrun : (execOp a.eval o).run P w = .ok (.enter g (xs ++ args.toList.map a.eval ++ ys).toArray) w := by
                  simp only [execOp, e1', Sem.run_bind, resolve, e3, Deferred.ofValue, Sem.run_pure, Result.andThen_ok, invoke]
                  rw [← g4]
                  congr 2
                  apply Array.toList_inj.1
                  simp
                refine wpIn_iff hF (fun c hc' => by rw [e1'] at hc'; cases hc') ?_
                rw [hrun]
                simp only [Oper.uponIn]
                have hsl : SlotsL ρ (first ++ args.toList.map (evA A.t) ++ cap) (xs ++ args.toList.map a.eval ++ ys).toArray := reps_append (reps_append e1 (slots_map hR.slots _)) e2
                refine ⟨hF.depth, (hF.calls (g5 w0 ρ _ w hsl hR.below hR.heap)).mono fun en w' hen => ?_⟩
                obtain ⟨v, ρ', i1, i2, i3, i4, i5⟩ := hen
                subst i1
                exact hK ρ' _ w' i2 ⟨(hR.slots.mono i2).put o.dst i3, by rw [put_defers]; exact hR.defers.mono i2, i4, i5⟩
              · rename_i id hg
                have g3 := hinl.fresh _ _ _ _ _ _ _ _ _ hi h1 hf'
                have g5 := hinl.yd _ _ _ _ _ _ _ _ _ hi h1 hf'
                refine ⟨g3, fun hF n Q K ρ a w hR hK => ?_⟩
                rw [wantedA_eq hR.slots hw]
                simp only [if_true]
                have hfe := rep_evA hR.slots f
                rw [hg] at hfe
                simp only [Rep] at hfe
                obtain ⟨v, e1, e3⟩ := hfe
                have e1' : o.op = .call { callee := .value f, args := args, argTypes := at' } := by assumption
                have hsl : SlotsL ρ (args.toList.map (evA A.t)) (args.map a.eval) := by
                  have := slots_map hR.slots args.toList
                  have e : (args.map a.eval).toList = args.toList.map a.eval := by simp
                  unfold SlotsL
                  rw [e]
                  exact this
                obtain ⟨ff, tmps, asg, body, hy, hround⟩ := g5 w0 ρ _ w v hsl hR.below hR.heap e1
                have hrun : (execOp a.eval o).run P w = .ok (.round v.1 ff tmps asg body) w := by
                  simp only [execOp, e1', Sem.run_bind, resolve, e3, Deferred.ofValue, Sem.run_pure, Result.andThen_ok, invoke]
                  rw [← hy]
                  congr 2
                  apply Array.toList_inj.1
                  simp
                refine wpIn_iff hF (fun c hc' => by rw [e1'] at hc'; cases hc') ?_
                rw [hrun]
                simp only [Oper.uponIn]
                refine ⟨hF.depth, (hF.round (hround _)).mono fun en w' hen => ?_⟩
                obtain ⟨v, ρ', i1, i2, i3, i4, i5⟩ := hen
                subst i1
                exact hK ρ' _ w' i2 ⟨(hR.slots.mono i2).put o.dst i3, by rw [put_defers]; exact hR.defers.mono i2, i4, i5⟩
              · cases hi
            · cases hi
          · split at hs
            · rename_i r h' he
              simp only [Option.some.injEq, Prod.mk.injEq] at hs
              obtain ⟨rfl, rfl, rfl⟩ := hs
              unfold effA at he
              split at he
              · rename_i args argTypes e1'
                refine ⟨fun j hj => copyA_fresh he (hf j (by omega)), fun hF n Q K ρ a w hR hK => ?_⟩
                rw [wantedA_eq hR.slots hw]
                simp only [if_true]
                exact copy_wp hF n hR e1' he fun a' w' hR' => hK ρ a' w' ρ.le_refl hR'
              · cases he
            · split at hs
              · rename_i q hq
                simp only [Option.map_eq_some_iff, Prod.mk.injEq] at hs
                obtain ⟨⟨c, r, ups⟩, hq', rfl, rfl, rfl⟩ := hs
                rw [addOb_iff] at h1
                refine ⟨fun j hj => q.fresh _ _ _ _ _ _ _ _ hq' hf j hj, fun hF n Q K ρ a w hR hK => ?_⟩
                rw [wantedA_eq hR.slots hw]
                simp only [if_true]
                exact q.ok _ _ _ _ _ _ _ _ hq' h1.1 hf hF n a o rfl (slots_map hR.slots _) hR.below hR.heap fun ρ' x w' hl hr hb hh =>
                  hK ρ' _ w' hl ⟨(hR.slots.mono hl).put o.dst hr, by rw [put_defers]; exact hR.defers.mono hl, hb, hh⟩
              · cases hs

theorem runS_sound (henv : EnvOK P env) (hinl : InlOK P inl) : ∀ (l : List Oper) (k : Nat) (A : AA) (ob : Prop) (k' : Nat) (A' : AA) (ob' : Prop), runS P X env inl os ops l k A ob = some (k', A', ob') → ob' → Fresh A k →
    (Fresh A' k' ∧ ∀ {F : Fence} (hF : WideF F) (n : Nat) (Q : Exit → Act → World → Prop) ρ a w, Rel w0 ρ A a w → (∀ ρ' a' w', ρ.le ρ' → Rel w0 ρ' A' a' w' → Q .normal a' w') → wpListIn F n P ops Q l a w)
  | [], k, A, ob, k', A', ob', h, hob, hf => by
    simp only [runS, Option.some.injEq, Prod.mk.injEq] at h
    obtain ⟨rfl, rfl, rfl⟩ := h
    exact ⟨hf, fun hF n Q ρ a w hR hQ => hQ ρ a w ρ.le_refl hR⟩
  | o :: l, k, A, ob, k', A', ob', h, hob, hf => by
    unfold runS at h
    split at h
    · rename_i k1 A1 ob1 hs
      have hob1 := runS_mono hinl l _ _ _ _ _ _ h hob
      obtain ⟨f1, s1⟩ := stepS_sound (w0 := w0) henv hinl hs hob1 hf
      obtain ⟨f2, s2⟩ := runS_sound henv hinl l k1 A1 ob1 k' A' ob' h hob f1
      refine ⟨f2, fun hF n Q ρ a w hR hQ => ?_⟩
      unfold wpListIn
      exact s1 hF n Q _ ρ a w hR fun ρ' a' w' hl hR' => s2 hF n Q ρ' a' w' hR' fun ρ'' a'' w'' hl' hR'' => hQ ρ'' a'' w'' (Names.le_trans hl hl') hR''
    · cases h

theorem runH_lex {h0 : Heap} : ∀ (l : List Oper) (i : Nat) (A : AA) (ob : Prop) (A' : AA) (ob' : Prop), runH P X env os ops h0 fr l i A ob = some (A', ob') → ob' → ob ∧ QLex P X env h0 ops os fr l i A A'
  | [], i, A, ob, A', ob', h, hob => by
    simp only [runH, Option.some.injEq, Prod.mk.injEq] at h
    obtain ⟨rfl, rfl⟩ := h
    exact ⟨hob, rfl⟩
  | o :: l, i, A, ob, A', ob', h, hob => by
    unfold runH at h
    split at h
    · cases h
    · rename_i hw
      obtain ⟨e1, e2⟩ := runH_lex l (i + 1) _ _ A' ob' h hob
      exact ⟨e1, _, .inl ⟨.tp [], none, .inr ⟨hw, rfl, rfl⟩, rfl⟩, e2⟩
    · rename_i hw
      split at h
      · rename_i T x y hop
        split at h
        · rename_i h' hst
          obtain ⟨e1, e2⟩ := runH_lex l (i + 1) _ _ A' ob' h hob
          exact ⟨e1, _, .inr ⟨hw, T, x, y, h', hop, hst, rfl⟩, e2⟩
        · cases h
      · split at h
        · rename_i c r nb hq
          obtain ⟨e1, e2⟩ := runH_lex l (i + 1) _ _ A' ob' h hob
          rw [addOb_iff] at e1
          exact ⟨e1.2, _, .inl ⟨r, nb, .inl ⟨hw, c, hq, e1.1⟩, rfl⟩, e2⟩
        · cases h

theorem Rel.drew {ρ : Names} {A : AA} {a : Act} {w : World} (hR : Rel w0 ρ A a w) : Rel w0 ρ A a { w with drawn := w.drawn + 1 } :=
  ⟨hR.slots, hR.defers, hR.below.drew, ⟨⟨fun id blk hi => let ⟨v, h1, h2⟩ := hR.heap.at_ id blk hi; ⟨v, h1, h2.same rfl⟩, hR.heap.lt, hR.heap.size⟩, hR.heap.inj, hR.heap.none_⟩⟩

theorem QLex.fresh {h0 : Heap} : ∀ (l : List Oper) (i : Nat) (A A' : AA), QLex P X env h0 ops os fr l i A A' → Fresh A (fr + i) → Fresh A' (fr + i + l.length)
  | [], i, A, A', h, hf => by cases h; simpa using hf
  | o :: l, i, A, A', ⟨A1, hq, h⟩, hf => by
    rcases hq with ⟨r, nb, _, e⟩ | ⟨_, T, x, y, h', _, hst, e⟩
    · subst e
      have := QLex.fresh l (i + 1) _ A' h (by simpa [Nat.add_assoc] using hf.app o r nb)
      simpa [Nat.add_assoc, Nat.add_comm 1] using this
    · subst e
      have := QLex.fresh l (i + 1) _ A' h (fun j hj => storeA_fresh hst (hf j (by omega)))
      simpa [Nat.add_assoc, Nat.add_comm 1] using this

theorem regionA_mono (hinl : InlOK P inl) {draw : Bool} {A A' : AA} {ob ob' : Prop} {k' : Nat} (h : regionA P X env inl os ops draw fr A ob = some (k', A', ob')) (hob : ob') : ob := by
  unfold regionA at h
  split at h
  · split at h
    · split at h
      · rename_i A2 ob2 hh
        exact (runH_lex _ _ _ _ _ _ hh (runS_mono hinl _ _ _ _ _ _ _ h hob)).1
      · cases h
    · cases h
  · exact runS_mono hinl _ _ _ _ _ _ _ h hob

theorem regionA_sound (henv : EnvOK P env) (hinl : InlOK P inl) {draw : Bool} {A A' : AA} {ob ob' : Prop} {k' : Nat} (h : regionA P X env inl os ops draw fr A ob = some (k', A', ob')) (hob : ob') (hf : Fresh A fr) :
    Fresh A' k' ∧ ∀ {F : Fence} (hF : WideF F) (m : Nat) (id : Nat) (Q : Exit → Act → World → Prop) ρ a w, Rel w0 ρ A a w → (∀ ρ' a' w', ρ.le ρ' → Rel w0 ρ' A' a' w' → Q .normal a' w') → (Code.region id ops draw).wpIn F m P Q a w := by
  unfold regionA at h
  split at h
  · split at h
    · rename_i hc
      simp only [Bool.and_eq_true] at hc
      obtain ⟨hm, hd⟩ := hc
      split at h
      · rename_i A1 ob1 hh
        generalize hn : headLen env os ops fr = n at *
        unfold drawOK at hd
        simp only [Bool.and_eq_true, Bool.or_eq_true, decide_eq_true_eq] at hd
        obtain ⟨⟨⟨hnle, hmo⟩, hlex⟩, htail⟩ := hd
        have hnle : n ≤ ops.size := Nat.le_of_ble_eq_true hnle
        have htl : (ops.toList.take n).length = n := by simp; omega
        have hdl : (ops.toList.drop n).length = ops.size - n := by simp
        have hob1 : ob1 := runS_mono hinl _ _ _ _ _ _ _ h hob
        obtain ⟨_, hql⟩ := runH_lex _ _ _ _ _ _ hh hob1
        have hf1 : Fresh A1 (fr + n) := by
          have := QLex.fresh _ _ _ _ hql (by simpa using hf)
          rw [htl] at this
          simpa using this
        obtain ⟨hf2, htailwp⟩ := runS_sound (w0 := w0) henv hinl _ _ _ _ _ _ _ h hob hf1
        refine ⟨hf2, fun hF m id Q ρ a w hR hQ => ?_⟩
        have htw : ∀ (i : Nat) (listed : Array Bool), HeadInv .any ops n listed → i < n → listed.getD i true = false → ∀ t, n ≤ t → t ∉ Region.ready .any ops listed := by
          intro i listed inv hi hun t ht hr
          rcases htail with htail | ⟨⟨hlt, hs⟩, hc⟩
          · have := Nat.eq_of_beq_eq_true htail
            obtain ⟨_, ot, hot, _⟩ := mem_ready.1 hr
            have := (Array.getElem?_eq_some_iff.1 hot).1
            omega
          · exact tail_waits hs hc hlt inv _ i rfl hi hun t ht hr
        have inv0 : HeadInv .any ops n (Array.replicate ops.size false) :=
          ⟨by simp, fun j oj _ hl => (by rw [getD_replicate_false] at hl; cases hl), fun t _ ht => getD_in (by simpa using ht) (getD_replicate_false _ _)⟩
        have H := wpAnyA_lex (md := .any) (g := ops.size - n) hmo htw (ops.toList.take n) 0 (Array.replicate ops.size false) A (fun j hj => by
          have hj' : j < n := by rw [htl] at hj; exact hj
          simp [hj']) (by simpa using htl) inv0 (fun j _ => hf _ (by omega)) (by rw [htl]; exact hlex) hql
        refine wpIn_region_any hm ?_
        have hall := wpAny_of_A hF m (w0 := w0) (ρb := ρ) (g := ops.size - n) (Q := Q) henv hmo _ _ _ H (fun _ _ _ h => h) inv0.closed (fun j _ => hf _ (by omega)) (fun j _ => hf _ (by omega)) (by simp)
          (fun listed' A'' ρ' a' w' hL _ _ hlb hR' => by
            obtain ⟨hseq, rfl⟩ := hL
            have := wpAnyIn_of_seq (md := .any) (P := P) (n := m) (Q' := Q) (ops.toList.drop n) n listed' a' w' (fun j => by simp [List.getElem?_drop]) (by rw [hdl]; exact hseq)
              (htailwp hF m Q ρ' a' w' hR' fun ρ'' a'' w'' hl hR'' => hQ ρ'' a'' w'' (Names.le_trans hlb hl) hR'')
            rwa [hdl] at this) ρ a _ ρ.le_refl hR.drew
        rw [htl, show n + (ops.size - n) = ops.size by omega] at hall
        exact hall
      · cases h
    · cases h
  · obtain ⟨e2, e3⟩ := runS_sound (w0 := w0) henv hinl _ _ _ _ _ _ _ h hob hf
    exact ⟨e2, fun hF m id Q ρ a w hR hQ => wpIn_region_list (e3 hF m Q ρ a w hR hQ)⟩
end
end Go.Ev
