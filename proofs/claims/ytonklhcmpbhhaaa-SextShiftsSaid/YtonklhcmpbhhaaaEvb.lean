/- The evaluator's operations that leave the world alone, and their soundness. -/
import Derived.Test.YtonklhcmpbhhaaaEv
set_option linter.unusedSimpArgs false
set_option linter.unusedVariables false
namespace Go.Ev
open Go.RowKit

variable {P : Program}

/-- The cells of an aggregate type; none: it is one cell. -/
def rowN (P : Program) (t : TypeId) : Option (Option Nat) :=
  match P.underlying t with
  | some (.struct _) | some (.array _ _) => match P.info? t with | some i => some (some i.size) | none => none
  | some _ => some none
  | none => none

theorem rowN_some {t : TypeId} {n : Nat} (h : rowN P t = some (some n)) : (∀ w, (isAgg t).run P w = .ok true w) ∧ ∃ i, P.info? t = some i ∧ i.size = n := by
  unfold rowN at h
  split at h
  · rename_i hu
    split at h
    · rename_i i hi; simp at h; exact ⟨fun w => by simp [isAgg, run_underlying hu], i, hi, h⟩
    · cases h
  · rename_i hu
    split at h
    · rename_i i hi; simp at h; exact ⟨fun w => by simp [isAgg, run_underlying hu], i, hi, h⟩
    · cases h
  · cases h
  · cases h

theorem rowN_none {t : TypeId} (h : rowN P t = some none) : ∀ w, (isAgg t).run P w = .ok false w := by
  unfold rowN at h
  split at h
  · split at h <;> cases h
  · split at h <;> cases h
  · rename_i d hd h1 h2
    intro w
    simp only [isAgg, Sem.run_bind, run_underlying h2, Result.andThen_ok]
    rfl
  · cases h

/-- A value of type t out of pieces, from offset o on. -/
def readT (P : Program) (t : TypeId) (o : Nat) (cs : List Ch) : Option AV :=
  match rowN P t with
  | some (some n) => (sub cs o n).map .ag
  | some none => cellA cs o
  | none => none

theorem run_sizeOf' {t : TypeId} {i : TypeInfo} (h : P.info? t = some i) (w : World) : (sizeOf t).run P w = .ok i.size w := by
  simp [sizeOf, typeInfo, h]

theorem run_loadVar_A {w : World} {b o : Nat} {t e : TypeId} {cs : List Ch} {r : AV} (hb : w.heap[b]? = some (.cells (flat cs).toArray e (0, 0))) (h : readT P t o cs = some r) :
    ∃ x, (loadVar t ⟨b, o, none⟩).run P w = .ok x w ∧ r.val? = some x := by
  have hcell : ∀ j v, (flat cs)[o + j]? = some v → w.cell? ⟨b, o + j, none⟩ = some v := by
    intro j v hv
    simp [World.cell?, hb, hv]
  unfold readT at h
  split at h
  · rename_i n hn
    obtain ⟨hagg, i, hi, hs⟩ := rowN_some hn
    simp only [Option.map_eq_some_iff] at h
    obtain ⟨l, hl, rfl⟩ := h
    obtain ⟨h1, h2, h3⟩ := sub_spec hl
    refine ⟨.agg (flat l).toArray, ?_, rfl⟩
    have hl : (loadCells ⟨b, o, none⟩ n).run P w = .ok (flat l).toArray w := by
      rw [← h2]
      refine run_loadCells_list (P := P) w ⟨b, o, none⟩ (flat l) (fun j v hv => ?_)
      rw [Addr.add_mid]
      refine hcell j v ?_
      rw [← h1] at hv
      simp only [List.getElem?_take, List.getElem?_drop] at hv
      split at hv
      · exact hv
      · cases hv
    simp [loadVar, Sem.run_bind, hagg, run_sizeOf' hi, hs, hl]
  · rename_i hn
    have hagg := rowN_none hn
    obtain ⟨v, hv, hr⟩ := cellA_ok _ _ _ h
    refine ⟨v, ?_, hr⟩
    have := hcell 0 v (by simpa using hv)
    simp only [Nat.add_zero] at this
    simp [loadVar, Sem.run_bind, hagg, this]
  · cases h

/-- A part of an aggregate that is a value. -/
theorem run_part_A {w : World} {t : TypeId} {o : Nat} {cs : List Ch} {r : AV} (h : readT P t o cs = some r) :
    ∃ x, (part t (flat cs).toArray o).run P w = .ok x w ∧ r.val? = some x := by
  unfold readT at h
  split at h
  · rename_i n hn
    obtain ⟨hagg, i, hi, hs⟩ := rowN_some hn
    simp only [Option.map_eq_some_iff] at h
    obtain ⟨l, hl, rfl⟩ := h
    obtain ⟨h1, h2, h3⟩ := sub_spec hl
    refine ⟨.agg (flat l).toArray, ?_, rfl⟩
    simp [part, Sem.run_bind, hagg, run_sizeOf' hi, hs]
    exact h1
  · rename_i hn
    have hagg := rowN_none hn
    obtain ⟨v, hv, hr⟩ := cellA_ok _ _ _ h
    refine ⟨v, ?_, hr⟩
    simp [part, Sem.run_bind, hagg, hv]
  · cases h

/-- What 'build' lays: part after part put into the zero value. -/
def fillA (place : Nat → Option (Nat × Nat)) : List Ch → List (Nat × AV) → Option (List Ch)
  | cs, [] => some cs
  | cs, (i, a) :: rest =>
    match place i, a with
    | some (o, s), .ag p => if sizes p = s then (spliceB cs o p).bind fun cs' => fillA place cs' rest else none
    | some (o, s), .v (.int k n) => if s = 1 then (spliceB cs o [.c (.int k n)]).bind fun cs' => fillA place cs' rest else none
    | some (o, s), .v (.bool b) => if s = 1 then (spliceB cs o [.c (.bool b)]).bind fun cs' => fillA place cs' rest else none
    | some (o, s), .u b => if s = 1 then (spliceB cs o [.n 1 b]).bind fun cs' => fillA place cs' rest else none
    | _, _ => none

theorem foldl_set (o : Nat) : ∀ (vs : List Value) (k : Nat) (cs : Array Value), o + k + vs.length ≤ cs.size →
    ((vs.zipIdx k).foldl (fun cs (p : Value × Nat) => cs.setIfInBounds (o + p.2) p.1) cs).toList = cs.toList.take (o + k) ++ vs ++ cs.toList.drop (o + k + vs.length)
  | [], k, cs, _ => by simp
  | v :: vs, k, cs, h => by
    simp only [List.zipIdx_cons, List.foldl_cons]
    rw [foldl_set o vs (k + 1) _ (by simp at h ⊢; omega)]
    have e := list_seg_step cs.toList (o + k) v vs (by simp at h ⊢; omega)
    simpa [Array.toList_setIfInBounds, Nat.add_assoc, Nat.add_comm, Nat.add_left_comm] using e

theorem fillA_spec (place : Nat → Option (Nat × Nat)) : ∀ (l : List (Nat × AV)) (cs r : List Ch), fillA place cs l = some r →
    ∀ vs : List (Nat × Value), l.map (·.1) = vs.map (·.1) → (∀ (j : Nat) (i : Nat) (a : AV), l[j]? = some (i, a) → ∃ x, vs[j]? = some (i, x) ∧ a.val? = some x) →
    Instr.fill place (flat cs).toArray vs = some (flat r).toArray
  | [], cs, r, h, vs, hm, _ => by
    simp [fillA] at h; subst h
    have : vs = [] := by simpa using hm.symm
    subst this
    rfl
  | (i, a) :: rest, cs, r, h, [], hm, _ => by simp at hm
  | (i, a) :: rest, cs, r, h, (i', x) :: vs, hm, hv => by
    simp only [List.map_cons, List.cons.injEq] at hm
    obtain ⟨rfl, hm⟩ := hm
    have hx : a.val? = some x := by
      obtain ⟨x', h1, h2⟩ := hv 0 i a rfl
      simp at h1; subst h1; exact h2
    have hrest : ∀ (j : Nat) (i : Nat) (a : AV), rest[j]? = some (i, a) → ∃ x, vs[j]? = some (i, x) ∧ a.val? = some x := fun j i a hj => by
      simpa using hv (j + 1) i a (by simpa using hj)
    have key : ∀ (o s : Nat) (p : List Ch), place i = some (o, s) → x.cells = (flat p).toArray → (flat p).length = s → (spliceB cs o p).bind (fun cs' => fillA place cs' rest) = some r →
        Instr.fill place (flat cs).toArray ((i, x) :: vs) = some (flat r).toArray := by
      intro o s p hp hc hs hb
      cases hsp : spliceB cs o p with
      | none => simp [hsp] at hb
      | some cs' =>
        simp only [hsp, Option.bind_some] at hb
        obtain ⟨e1, e2⟩ := splice_spec hsp
        have ih := fillA_spec place rest cs' r hb vs hm hrest
        simp only [Instr.fill, hp, hc]
        have g : ¬ ((flat p).toArray.size ≠ s ∨ o + (flat p).toArray.size > (flat cs).toArray.size) := by simp [hs]; omega
        rw [if_neg (by simpa using g), ← ih]
        congr 1
        apply Array.toList_inj.1
        have := foldl_set o (flat p) 0 (flat cs).toArray (by simpa using e2)
        rw [e1]
        simpa [← Array.foldl_toList] using this
    unfold fillA at h
    split at h
    · rename_i o s p hp
      split at h
      · rename_i hsz
        exact key o s p hp (by simp [AV.val?] at hx; subst hx; rfl) (by rw [flat_length]; exact hsz) h
      · cases h
    · rename_i o s k n hp
      split at h
      · rename_i hsz
        exact key o s [.c (.int k n)] hp (by simp [AV.val?] at hx; subst hx; rfl) (by simp [flat, Ch.cells, hsz]) h
      · cases h
    · rename_i o s b hp
      split at h
      · rename_i hsz
        exact key o s [.c (.bool b)] hp (by simp [AV.val?] at hx; subst hx; rfl) (by simp [flat, Ch.cells, hsz]) h
      · cases h
    · rename_i o s b hp
      split at h
      · rename_i hsz
        exact key o s [.n 1 b] hp (by simp [AV.val?] at hx; subst hx; rfl) (by simp [flat, Ch.cells, limbs, hsz]) h
      · cases h
    · cases h

/-- The zero value's pieces, cell by cell. -/
def zeroA (P : Program) (t : TypeId) : Option (List Ch) :=
  match P.info? t with
  | some i => i.zero.map fun z => z.cells.toList.map .c
  | none => none

def builtA (P : Program) (t : TypeId) (parts : List (Nat × AV)) : Option (List Ch) :=
  match P.info? t, P.underlying t with
  | some it, some (.array _ e) =>
    match it.zero, P.info? e with
    | some z, some ie => fillA (fun i => some (i * ie.size, ie.size)) (z.cells.toList.map .c) parts
    | _, _ => none
  | some it, some (.struct fields) =>
    match it.zero, fields.toList.mapM (fun f => (P.info? f.type).map fun i => (f.offset, i.size)) with
    | some z, some places => fillA (places.toArray[·]?) (z.cells.toList.map .c) parts
    | _, _ => none
  | _, _ => none

theorem builtA_spec {t : TypeId} {l : List (Nat × AV)} {r : List Ch} (h : builtA P t l = some r) (vs : List (Nat × Value)) (hm : l.map (·.1) = vs.map (·.1))
    (hv : ∀ (j : Nat) (i : Nat) (a : AV), l[j]? = some (i, a) → ∃ x, vs[j]? = some (i, x) ∧ a.val? = some x) : P.built t vs = some (flat r).toArray := by
  unfold builtA at h
  unfold Program.built
  split at h
  · rename_i it n e hi hu
    split at h
    · rename_i z ie hz hie
      have := fillA_spec _ _ _ _ h vs hm hv
      simp only [hi, hu, hz, hie]
      simpa [flat_c] using this
    · cases h
  · rename_i it fs hi hu
    split at h
    · rename_i z pl hz hpl
      have := fillA_spec _ _ _ _ h vs hm hv
      simp only [hi, hu, hz, hpl]
      simpa [flat_c] using this
    · cases h
  · cases h
end Go.Ev
