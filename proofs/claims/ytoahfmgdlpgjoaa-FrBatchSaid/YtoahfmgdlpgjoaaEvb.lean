/- The evaluator's operations that leave the world alone: reading and building. -/
import Derived.Test.YtoahfmgdlpgjoaaEva
set_option linter.unusedSimpArgs false
set_option linter.unusedVariables false
namespace Go.Ev
open Go.RowKit

variable {P : Program}

/-- The cells of an aggregate type; none: it is one cell. -/
def rowN (P : Program) (t : TypeId) : Option (Option Nat) :=
  match P.underlying t with
  | some (.struct _) | some (.array _ _) => match P.info? t with | some i => some (some i.size) | none => none
  | some _ => some none
  | none => none

theorem rowN_some {t : TypeId} {n : Nat} (h : rowN P t = some (some n)) : (∀ w, (isAgg t).run P w = .ok true w) ∧ ∃ i, P.info? t = some i ∧ i.size = n := by
  unfold rowN at h
  split at h
  · rename_i hu
    split at h
    · rename_i i hi; simp at h; exact ⟨fun w => by simp [isAgg, run_underlying hu], i, hi, h⟩
    · cases h
  · rename_i hu
    split at h
    · rename_i i hi; simp at h; exact ⟨fun w => by simp [isAgg, run_underlying hu], i, hi, h⟩
    · cases h
  · cases h
  · cases h

theorem rowN_none {t : TypeId} (h : rowN P t = some none) : ∀ w, (isAgg t).run P w = .ok false w := by
  unfold rowN at h
  split at h
  · split at h <;> cases h
  · split at h <;> cases h
  · rename_i d hd h1 h2
    intro w
    simp only [isAgg, Sem.run_bind, run_underlying h2, Result.andThen_ok]
    rfl
  · cases h

/-- A value of type t out of pieces, from offset o on. -/
def readT (P : Program) (t : TypeId) (o : Nat) (cs : List Ch) : Option AV :=
  match rowN P t with
  | some (some n) => (sub cs o n).map .ag
  | some none => cellA cs o
  | none => none

/-- The cells of a block that has cells. -/
def Blk.cells? : Blk → Option (List Ch)
  | .own cs _ => some cs
  | .ro cs => some cs
  | .gr cs _ _ => some cs
  | .rz cs => some cs
  | _ => none

theorem BAt.cells {B : Nat} {ρ : Names} {w : World} {v : NM} {blk : Blk} {cs : List Ch} (h : BAt B ρ w v blk) (hc : blk.cells? = some cs) : DefC ρ cs ∧ w.rangeAt v.1 v.2 (flatR ρ cs) := by
  cases blk <;> simp only [Blk.cells?, Option.some.injEq, reduceCtorEq] at hc
  · subst hc
    obtain ⟨h1, h2, h3, h4⟩ := h
    refine ⟨h3, fun j x hj => ?_⟩
    rw [h1]
    simp [World.cell?, h4, hj]
  · subst hc; exact ⟨h.2.1, h.2.2⟩
  · subst hc
    obtain ⟨h1, h2, h3, rest, fz, h4, h5⟩ := h
    refine ⟨h3, fun j x hj => ?_⟩
    have hlt := (List.getElem?_eq_some_iff.1 hj).1
    rw [h1]
    simp only [World.cell?, h5, Nat.zero_add, List.getElem?_toArray]
    rw [List.getElem?_append_left hlt]
    exact hj
  · subst hc
    exact ⟨h.2.1, h.2.2.1⟩

theorem run_sizeOf' {t : TypeId} {i : TypeInfo} (h : P.info? t = some i) (w : World) : (sizeOf t).run P w = .ok i.size w := by
  simp [sizeOf, typeInfo, h]

theorem run_loadVar_A {w : World} {ρ : Names} {b o off : Nat} {t : TypeId} {cs : List Ch} {r : AV} (hd : DefC ρ cs) (hb : w.rangeAt b o (flatR ρ cs)) (h : readT P t off cs = some r) :
    ∃ x, (loadVar t ⟨b, o + off, none⟩).run P w = .ok x w ∧ Rep ρ r x := by
  have hcell : ∀ j v, (flatR ρ cs)[off + j]? = some v → w.cell? ⟨b, o + off + j, none⟩ = some v := by
    intro j v hv
    rw [Nat.add_assoc]
    exact hb _ v hv
  unfold readT at h
  split at h
  · rename_i n hn
    obtain ⟨hagg, i, hi, hs⟩ := rowN_some hn
    simp only [Option.map_eq_some_iff] at h
    obtain ⟨l, hl, rfl⟩ := h
    obtain ⟨h1, h2, h3, h4⟩ := sub_spec ρ hl
    refine ⟨.agg (flatR ρ l).toArray, ?_, ⟨h4 hd, rfl⟩⟩
    have hl : (loadCells ⟨b, o + off, none⟩ n).run P w = .ok (flatR ρ l).toArray w := by
      rw [← h2]
      refine run_loadCells_list (P := P) w ⟨b, o + off, none⟩ (flatR ρ l) (fun j v hv => ?_)
      rw [Addr.add_mid]
      refine hcell j v ?_
      rw [← h1] at hv
      simp only [List.getElem?_take, List.getElem?_drop] at hv
      split at hv
      · exact hv
      · cases hv
    simp [loadVar, Sem.run_bind, hagg, run_sizeOf' hi, hs, hl]
  · rename_i hn
    have hagg := rowN_none hn
    obtain ⟨v, hv, hr⟩ := cellA_ok _ _ _ hd h
    refine ⟨v, ?_, hr⟩
    have := hcell 0 v (by simpa using hv)
    simp only [Nat.add_zero] at this
    simp [loadVar, Sem.run_bind, hagg, this]
  · cases h

/-- A part of an aggregate that is a value. -/
theorem run_part_A {w : World} {ρ : Names} {t : TypeId} {o : Nat} {cs : List Ch} {r : AV} (hd : DefC ρ cs) (h : readT P t o cs = some r) :
    ∃ x, (part t (flatR ρ cs).toArray o).run P w = .ok x w ∧ Rep ρ r x := by
  unfold readT at h
  split at h
  · rename_i n hn
    obtain ⟨hagg, i, hi, hs⟩ := rowN_some hn
    simp only [Option.map_eq_some_iff] at h
    obtain ⟨l, hl, rfl⟩ := h
    obtain ⟨h1, h2, h3, h4⟩ := sub_spec ρ hl
    refine ⟨.agg (flatR ρ l).toArray, ?_, ⟨h4 hd, rfl⟩⟩
    simp [part, Sem.run_bind, hagg, run_sizeOf' hi, hs]
    exact h1
  · rename_i hn
    have hagg := rowN_none hn
    obtain ⟨v, hv, hr⟩ := cellA_ok _ _ _ hd h
    refine ⟨v, ?_, hr⟩
    simp [part, Sem.run_bind, hagg, hv]
  · cases h

/-- The pieces of a value. -/
def boxA : AV → Option (List Ch)
  | .ag cs => some cs
  | .u h => some [.n 1 h]
  | .v (.agg _) => none
  | .v (.tuple _) => none
  | .v x => some [.c x]
  | .p id off => some [.p id off]
  | .sl id off len cap => some [.sl id off len cap]
  | .sx id len => some [.sx id len]
  | .sz id len => some [.sz id len]
  | .clo f [] [] => some [.c (.func (.func f) #[] #[])]
  | _ => none

theorem boxA_spec {ρ : Names} {a : AV} {x : Value} {cs : List Ch} (h : boxA a = some cs) (hr : Rep ρ a x) : DefC ρ cs ∧ x.cells = (flatR ρ cs).toArray := by
  unfold boxA at h
  split at h
  · simp only [Option.some.injEq] at h; subst h; simp only [Rep] at hr; obtain ⟨h1, rfl⟩ := hr; exact ⟨h1, rfl⟩
  · simp only [Option.some.injEq] at h; subst h; simp only [Rep] at hr; subst hr; exact ⟨⟨trivial, trivial⟩, rfl⟩
  · cases h
  · cases h
  · rename_i y h1 h2
    simp only [Option.some.injEq] at h; subst h; simp only [Rep] at hr; subst hr
    refine ⟨⟨trivial, trivial⟩, ?_⟩
    cases x <;> first | rfl | exact absurd rfl (h1 _) | exact absurd rfl (h2 _)
  · simp only [Option.some.injEq] at h; subst h; simp only [Rep] at hr
    obtain ⟨v, hv, rfl⟩ := hr
    exact ⟨⟨⟨v, hv⟩, trivial⟩, by simp [Value.cells, flatR, Ch.cells, Names.at, hv]⟩
  · simp only [Option.some.injEq] at h; subst h; simp only [Rep] at hr
    obtain ⟨v, hv, rfl⟩ := hr
    exact ⟨⟨⟨v, hv⟩, trivial⟩, by simp [Value.cells, flatR, Ch.cells, Names.at, hv]⟩
  · simp only [Option.some.injEq] at h; subst h; simp only [Rep] at hr
    obtain ⟨v, hv, rfl⟩ := hr
    exact ⟨⟨⟨v, hv⟩, trivial⟩, by simp [Value.cells, flatR, Ch.cells, Names.at, Names.room, hv]⟩
  · simp only [Option.some.injEq] at h; subst h; simp only [Rep] at hr
    obtain ⟨v, hv, hz, rfl⟩ := hr
    refine ⟨⟨⟨v, hv, hz⟩, trivial⟩, ?_⟩
    simp only [flatR, Ch.cells, Names.sz, hv, List.append_nil]
    unfold zval
    split <;> rfl
  · simp only [Option.some.injEq] at h; subst h
    rw [rep_clo0] at hr
    subst hr
    exact ⟨⟨trivial, trivial⟩, rfl⟩
  · cases h

/-- What 'build' lays: part after part put into the zero value. -/
def fillA (place : Nat → Option (Nat × Nat)) : List Ch → List (Nat × AV) → Option (List Ch)
  | cs, [] => some cs
  | cs, (i, a) :: rest =>
    match place i, boxA a with
    | some (o, s), some p => match Nat.beq (sizes p) s with | true => (spliceB cs o p).bind fun cs' => fillA place cs' rest | false => none
    | _, _ => none

theorem foldl_set (o : Nat) : ∀ (vs : List Value) (k : Nat) (cs : Array Value), o + k + vs.length ≤ cs.size →
    ((vs.zipIdx k).foldl (fun cs (p : Value × Nat) => cs.setIfInBounds (o + p.2) p.1) cs).toList = cs.toList.take (o + k) ++ vs ++ cs.toList.drop (o + k + vs.length)
  | [], k, cs, _ => by simp
  | v :: vs, k, cs, h => by
    simp only [List.zipIdx_cons, List.foldl_cons]
    rw [foldl_set o vs (k + 1) _ (by simp at h ⊢; omega)]
    have e := list_seg_step cs.toList (o + k) v vs (by simp at h ⊢; omega)
    simpa [Array.toList_setIfInBounds, Nat.add_assoc, Nat.add_comm, Nat.add_left_comm] using e

theorem fillA_spec {ρ : Names} (place : Nat → Option (Nat × Nat)) : ∀ (l : List (Nat × AV)) (cs r : List Ch), fillA place cs l = some r → DefC ρ cs →
    ∀ vs : List (Nat × Value), l.map (·.1) = vs.map (·.1) → Reps ρ (l.map (·.2)) (vs.map (·.2)) →
    Instr.fill place (flatR ρ cs).toArray vs = some (flatR ρ r).toArray ∧ DefC ρ r
  | [], cs, r, h, hd, vs, hm, _ => by
    simp [fillA] at h; subst h
    have : vs = [] := by simpa using hm.symm
    subst this
    exact ⟨rfl, hd⟩
  | (i, a) :: rest, cs, r, h, hd, [], hm, _ => by simp at hm
  | (i, a) :: rest, cs, r, h, hd, (i', x) :: vs, hm, hv => by
    simp only [List.map_cons, List.cons.injEq] at hm
    obtain ⟨rfl, hm⟩ := hm
    simp only [List.map_cons, Reps, List.cons.injEq] at hv
    obtain ⟨y, r', ⟨rfl, rfl⟩, hx, hrest⟩ := hv
    unfold fillA at h
    split at h
    · rename_i o s p hp hbx
      split at h
      · rename_i hsz
        have hsz := Nat.eq_of_beq_eq_true hsz
        obtain ⟨hdp, hc⟩ := boxA_spec hbx hx
        cases hsp : spliceB cs o p with
        | none => simp [hsp] at h
        | some cs' =>
          simp only [hsp, Option.bind_some] at h
          obtain ⟨e1, e2, e3⟩ := splice_spec ρ hsp
          obtain ⟨ih, hd'⟩ := fillA_spec place rest cs' r h (e3 hd hdp) vs hm hrest
          refine ⟨?_, hd'⟩
          simp only [Instr.fill, hp, hc]
          have hs : (flatR ρ p).length = s := by rw [flatR_length]; exact hsz
          have g : ¬ ((flatR ρ p).toArray.size ≠ s ∨ o + (flatR ρ p).toArray.size > (flatR ρ cs).toArray.size) := by simp [hs]; omega
          rw [if_neg (by simpa using g), ← ih]
          congr 1
          apply Array.toList_inj.1
          have := foldl_set o (flatR ρ p) 0 (flatR ρ cs).toArray (by simpa using e2)
          rw [e1]
          simpa [← Array.foldl_toList] using this
      · cases h
    · cases h

/-- The zero value's pieces, cell by cell. -/
def zeroA (P : Program) (t : TypeId) : Option (List Ch) :=
  match P.info? t with
  | some i => i.zero.map fun z => z.cells.toList.map .c
  | none => none

def builtA (P : Program) (t : TypeId) (parts : List (Nat × AV)) : Option (List Ch) :=
  match P.info? t, P.underlying t with
  | some it, some (.array _ e) =>
    match it.zero, P.info? e with
    | some z, some ie => fillA (fun i => some (i * ie.size, ie.size)) (z.cells.toList.map .c) parts
    | _, _ => none
  | some it, some (.struct fields) =>
    match it.zero, fields.toList.mapM (fun f => (P.info? f.type).map fun i => (f.offset, i.size)) with
    | some z, some places => fillA (places.toArray[·]?) (z.cells.toList.map .c) parts
    | _, _ => none
  | _, _ => none

theorem builtA_spec {ρ : Names} {t : TypeId} {l : List (Nat × AV)} {r : List Ch} (h : builtA P t l = some r) (vs : List (Nat × Value)) (hm : l.map (·.1) = vs.map (·.1))
    (hv : Reps ρ (l.map (·.2)) (vs.map (·.2))) : P.built t vs = some (flatR ρ r).toArray ∧ DefC ρ r := by
  unfold builtA at h
  unfold Program.built
  split at h
  · rename_i it n e hi hu
    split at h
    · rename_i z ie hz hie
      obtain ⟨e1, e2⟩ := flatR_c ρ z.cells.toList
      obtain ⟨h1, h2⟩ := fillA_spec _ _ _ _ h e2 vs hm hv
      simp only [hi, hu, hz, hie]
      exact ⟨by simpa [e1] using h1, h2⟩
    · cases h
  · rename_i it fs hi hu
    split at h
    · rename_i z pl hz hpl
      obtain ⟨e1, e2⟩ := flatR_c ρ z.cells.toList
      obtain ⟨h1, h2⟩ := fillA_spec _ _ _ _ h e2 vs hm hv
      simp only [hi, hu, hz, hpl]
      exact ⟨by simpa [e1] using h1, h2⟩
    · cases h
  · cases h
end Go.Ev
