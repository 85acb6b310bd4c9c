/- Rules that turn the world: 'append', bytes of a string, stores at places that have names. Nothing here names a program. -/
import Derived.Test.YtoahfmgdlpgjoaaRul
import Derived.Laws.Append
import Derived.Laws.IdiomStrings
set_option linter.unusedSimpArgs false
set_option linter.unusedVariables false
namespace Go.Ev
open Go.RowKit

variable {P : Program}

/-- A block of the call's own goes over into another name. -/
theorem HRel.move {B : Nat} {ρ : Names} {h : Heap} {w w' : World} (hh : HRel B ρ h w) {id k : Nat} {v : NM} {b0 : Blk} (hv : ρ id = some v) (hB : B ≤ v.1) (hold : h.get id = some b0) (hlive : b0.live = true) (hk : h.get k = none)
    (blk : Blk) (v' : NM) (hs : w.heap.size ≤ w'.heap.size) (ho : ∀ j, j < w.heap.size → j ≠ v.1 → w'.heap[j]? = w.heap[j]?) (hv' : v'.1 = v.1 ∨ w.heap.size ≤ v'.1) (hlt : v'.1 < w'.heap.size)
    (hb : BAt B (ρ.nm k v') w' v' blk) : HRel B (ρ.nm k v') ((h.put id .dead).put k blk) w' ∧ ρ.le (ρ.nm k v') := by
  have hn := hh.none_ k hk
  have hle := Names.le_nm hn v'
  have hne : id ≠ k := fun e => by rw [e, hk] at hold; cases hold
  have old : ∀ j b, j ≠ k → j ≠ id → ((h.put id .dead).put k blk).get j = some b → h.get j = some b := fun j b h1 h2 h3 => by
    rw [Heap.put_ne _ h1, Heap.put_ne _ h2] at h3; exact h3
  have iddead : ∀ b, ((h.put id .dead).put k blk).get id = some b → b = .dead := fun b h3 => by
    rw [Heap.put_ne _ hne, Heap.put_eq] at h3; exact (Option.some.inj h3).symm
  refine ⟨⟨⟨fun j b hj => ?_, fun i u hi => ?_, Nat.le_trans hh.size hs⟩, fun i j u u' bi bj gi gj li lj hi hj huv hB' => ?_, fun i hi => ?_⟩, hle⟩
  · by_cases h1 : j = k
    · subst h1
      rw [Heap.put_eq] at hj
      simp only [Option.some.injEq] at hj; subst hj
      exact ⟨v', Names.nm_eq _ _ _, hb⟩
    · by_cases h2 : j = id
      · subst h2
        rw [iddead _ hj]
        exact ⟨v, hle _ _ hv, hB⟩
      · have hj' := old j b h1 h2 hj
        obtain ⟨u, g1, g2⟩ := hh.at_ j b hj'
        refine ⟨u, hle _ _ g1, ?_⟩
        cases hl : b.live with
        | true =>
          refine (g2.mono hle).same (ho _ (hh.lt _ _ g1) fun e => h2 ?_)
          exact hh.inj j id u v b b0 hj' hold hl hlive g1 hv e (by omega)
        | false =>
          have e : b = .dead := by cases b <;> simp [Blk.live] at hl ⊢
          subst e
          exact g2
  · by_cases h1 : i = k
    · subst h1; rw [Names.nm_eq] at hi; simp only [Option.some.injEq] at hi; subst hi; exact hlt
    · rw [Names.nm_ne _ _ h1] at hi; exact Nat.lt_of_lt_of_le (hh.lt _ _ hi) hs
  · have key : ∀ (j : Nat) (bj : Blk) (u' : NM), ((h.put id .dead).put k blk).get j = some bj → bj.live = true → ρ.nm k v' j = some u' → u'.1 = v'.1 → B ≤ u'.1 → j = k := fun j bj u' gj lj hj huv hB' => by
      by_cases h2 : j = k
      · exact h2
      · exfalso
        have h3 : j ≠ id := fun e => by
          subst e
          rw [iddead _ gj] at lj; cases lj
        have gj' := old j bj h2 h3 gj
        rw [Names.nm_ne _ _ h2] at hj
        rcases hv' with e | e
        · exact h3 (hh.inj j id u' v bj b0 gj' hold lj hlive hj hv (huv.trans e) hB')
        · have := hh.lt _ _ hj; omega
    by_cases h1 : i = k
    · subst h1
      rw [Names.nm_eq] at hi; simp only [Option.some.injEq] at hi; subst hi
      exact (key j bj u' gj lj hj huv.symm (by omega)).symm
    · by_cases h2 : j = k
      · subst h2
        rw [Names.nm_eq] at hj; simp only [Option.some.injEq] at hj; subst hj
        exact key i bi u gi li hi huv hB'
      · have h3 : ∀ (j : Nat) (bj : Blk), ((h.put id .dead).put k blk).get j = some bj → bj.live = true → j ≠ id := fun j bj gj lj e => by
          subst e
          rw [iddead _ gj] at lj; cases lj
        rw [Names.nm_ne _ _ h1] at hi
        rw [Names.nm_ne _ _ h2] at hj
        exact hh.inj i j u u' bi bj (old i bi h1 (h3 i bi gi li) gi) (old j bj h2 (h3 j bj gj lj) gj) li lj hi hj huv hB'
  · have h1 : i ≠ k := fun e => by subst e; rw [Heap.put_eq] at hi; cases hi
    have h2 : i ≠ id := fun e => by subst e; rw [Heap.put_ne _ hne, Heap.put_eq] at hi; cases hi
    rw [Heap.put_ne _ h1, Heap.put_ne _ h2] at hi
    rw [Names.nm_ne _ _ h1]; exact hh.none_ i hi

/-- A new block gets a name. -/
theorem HRel.fresh {B : Nat} {ρ : Names} {h : Heap} {w w' : World} (hh : HRel B ρ h w) {k : Nat} (hk : h.get k = none)
    (blk : Blk) (v' : NM) (hs : w.heap.size ≤ w'.heap.size) (ho : ∀ j, j < w.heap.size → w'.heap[j]? = w.heap[j]?) (hv' : w.heap.size ≤ v'.1) (hlt : v'.1 < w'.heap.size)
    (hb : BAt B (ρ.nm k v') w' v' blk) : HRel B (ρ.nm k v') (h.put k blk) w' ∧ ρ.le (ρ.nm k v') := by
  have hn := hh.none_ k hk
  have hle := Names.le_nm hn v'
  refine ⟨⟨⟨fun j b hj => ?_, fun i u hi => ?_, Nat.le_trans hh.size hs⟩, fun i j u u' bi bj gi gj li lj hi hj huv hB' => ?_, fun i hi => ?_⟩, hle⟩
  · by_cases h1 : j = k
    · subst h1
      rw [Heap.put_eq] at hj
      simp only [Option.some.injEq] at hj; subst hj
      exact ⟨v', Names.nm_eq _ _ _, hb⟩
    · rw [Heap.put_ne _ h1] at hj
      obtain ⟨u, g1, g2⟩ := hh.at_ j b hj
      exact ⟨u, hle _ _ g1, (g2.mono hle).same (ho _ (hh.lt _ _ g1))⟩
  · by_cases h1 : i = k
    · subst h1; rw [Names.nm_eq] at hi; simp only [Option.some.injEq] at hi; subst hi; exact hlt
    · rw [Names.nm_ne _ _ h1] at hi; exact Nat.lt_of_lt_of_le (hh.lt _ _ hi) hs
  · by_cases h1 : i = k
    · by_cases h2 : j = k
      · rw [h1, h2]
      · subst h1
        rw [Names.nm_eq] at hi; simp only [Option.some.injEq] at hi; subst hi
        rw [Names.nm_ne _ _ h2] at hj
        have := hh.lt _ _ hj; omega
    · by_cases h2 : j = k
      · subst h2
        rw [Names.nm_eq] at hj; simp only [Option.some.injEq] at hj; subst hj
        rw [Names.nm_ne _ _ h1] at hi
        have := hh.lt _ _ hi; omega
      · rw [Names.nm_ne _ _ h1] at hi
        rw [Names.nm_ne _ _ h2] at hj
        rw [Heap.put_ne _ h1] at gi
        rw [Heap.put_ne _ h2] at gj
        exact hh.inj i j u u' bi bj gi gj li lj hi hj huv hB'
  · have h1 : i ≠ k := fun e => by subst e; rw [Heap.put_eq] at hi; cases hi
    rw [Heap.put_ne _ h1] at hi
    rw [Names.nm_ne _ _ h1]; exact hh.none_ i hi

/-- Cells are stored into a row none of whose cells is frozen. -/
theorem run_storeCells_fz (g o : Nat) (t : TypeId) (fz : Nat × Nat) : ∀ (vs : List Value) (i : Nat) (cur : Array Value) (w : World), w.heap[g]? = some (.cells cur t fz) → o + i + vs.length ≤ cur.size → (fz = (0, 0) ∨ cur.size ≤ fz.1) → (∀ v ∈ vs, v.oneCell' = true) →
    (storeCells ⟨g, o, none⟩ vs i).run P w = .ok () (w.setRow g (cur.toList.take (o + i) ++ vs ++ cur.toList.drop (o + i + vs.length)).toArray)
  | [], i, cur, w, hg, _, _, _ => by
    simp only [storeCells, List.append_nil, List.length_nil, Nat.add_zero, List.take_append_drop, Array.toArray_toList]
    rw [setRow_self w g cur t fz hg]
    rfl
  | v :: rest, i, cur, w, hg, hl, hf, h1 => by
    have hi : o + i < cur.size := by simp at hl; omega
    have hadd : (⟨g, o, none⟩ : Addr).add i = ⟨g, o + i, none⟩ := by unfold Addr.add; split <;> simp_all
    have hcell : w.cell? ⟨g, o + i, none⟩ = some cur[o + i] := by simp [World.cell?, hg, hi]
    have hfro : w.frozen? ⟨g, o + i, none⟩ = false := by
      obtain ⟨lo, hi'⟩ := fz
      rcases hf with hf | hf
      · simp only [Prod.mk.injEq] at hf
        obtain ⟨rfl, rfl⟩ := hf
        simp [World.frozen?, hg]
      · simp only at hf
        have : ¬ lo ≤ o + i := by omega
        simp [World.frozen?, hg, this]
    have hst : (store ((⟨g, o, none⟩ : Addr).add i) v).run P w = .ok () (w.setRow g (cur.setIfInBounds (o + i) v)) := by
      rw [hadd, run_store P w _ v _ (h1 v (by simp)), hcell]
      simp [hfro, setCell_eq_setRow w g (o + i) cur t fz v hg]
    have ih := run_storeCells_fz g o t fz rest (i + 1) (cur.setIfInBounds (o + i) v) (w.setRow g (cur.setIfInBounds (o + i) v)) (setRow_heap w g cur _ t _ hg) (by simp at hl ⊢; omega) (by simpa using hf) (fun x hx => h1 x (by simp [hx]))
    simp only [storeCells, Sem.run_bind, hst, Result.andThen_ok, ih, setRow_setRow]
    congr 3
    have e := list_seg_step cur.toList (o + i) v rest (by simp at hl ⊢; omega)
    simpa [Array.toList_setIfInBounds, Nat.add_assoc] using e

/-- What is appended. -/
structure SrcOK (P : Program) (U : TypeId) (size m : Nat) (x : Value) (news : List Value) (w : World) : Prop where
  ty : (∃ e, P.underlying U = some (.slice e)) ∨ P.underlying U = some .string
  len : ∀ w, (Builtin.lenOf x).run P w = .ok m w
  cells : ∀ w', (∀ b : Nat, b < w.heap.size → w'.heap[b]? = w.heap[b]?) → (Builtin.firstCells size m x).run P w' = .ok news.toArray w'
  size : news.length = m * size

section
variable {w : World} {T U ty e : TypeId} {i : TypeInfo} {z : Value}
theorem run_app_room (hT : P.underlying T = some (.slice e)) (hi : P.info? e = some i) {x : Value} {m : Nat} {news : List Value} (hx : SrcOK P U i.size m x news w) (g sLen sCap : Nat) (cur : Array Value) (fz : Nat × Nat) (hg : w.heap[g]? = some (.cells cur e fz)) (hf : fz = (0, 0) ∨ cur.size ≤ fz.1)
    (h1 : ∀ u ∈ news, u.oneCell' = true) (hroom : sLen + m ≤ sCap) (hfit : sLen * i.size + news.length ≤ cur.size) :
    (Builtin.append_ #[T, U] ty #[.slice (some ⟨g, 0, none⟩) sLen sCap, x]).run P w =
      .ok (.slice (some ⟨g, 0, none⟩) (sLen + m) sCap) (w.setRow g (cur.toList.take (sLen * i.size) ++ news ++ cur.toList.drop (sLen * i.size + news.length)).toArray) := by
  have hc := hx.cells w (fun _ _ => rfl)
  have hl := hx.len w
  have hst := run_storeCells_fz (P := P) g (sLen * i.size) e fz news 0 cur w hg (by simpa using hfit) hf h1
  simp only [Nat.add_zero] at hst
  rcases hx.ty with ⟨d, hd⟩ | hd
  all_goals simp [Builtin.append_, run_underlying hT, run_underlying hd, sizeOf, typeInfo, hi, hl, hroom, hc, Addr.add_lit, hst]

theorem run_app_grow (hT : P.underlying T = some (.slice e)) (hi : P.info? e = some i) (hz : i.zero = some z) {x : Value} {m : Nat} {news : List Value} (hx : SrcOK P U i.size m x news w)
    (b : Addr) (sLen sCap : Nat) (olds : List Value) (hlo : olds.length = sLen * i.size) (holds : ∀ j v, olds[j]? = some v → w.cell? (b.add j) = some v)
    (hg : sCap < sLen + m) (h63 : sLen + m ≤ 9223372036854775807) (hfit : Builtin.nextslicecap (sLen + m) sCap * i.bytes ≤ 281474976710656) :
    (Builtin.append_ #[T, U] ty #[.slice (some b) sLen sCap, x]).run P w =
      .ok (.slice (some ⟨w.heap.size, 0, none⟩) (sLen + m) (grownCap w (sLen + m) sCap e))
        (w.drew.alloc (.cells (olds.toArray ++ news.toArray ++ Builtin.zeroCells z.cells (grownCap w (sLen + m) sCap e - (sLen + m))) e)) := by
  have hl := hx.len w
  have hn : ¬ (sLen + m ≤ sCap) := by omega
  have h63' : ¬ (9223372036854775807 < ((sLen : Int) + (m : Int))) := by omega
  have h48' : ¬ (281474976710656 < Builtin.nextslicecap (sLen + m) sCap * i.bytes) := by omega
  have hc := hx.cells w.drew (fun _ _ => rfl)
  have hfo := run_firstCells_some (P := P) w.drew i.size sLen b sLen sCap olds hlo (by simpa using holds)
  rcases hx.ty with ⟨d, hd⟩ | hd
  all_goals
    simp [Builtin.append_, run_underlying hT, run_underlying hd, sizeOf, typeInfo, zeroValue, hi, hz, hl, hn, h63', h48', Question.forced, hc, hfo, newRow, grownCap]
    congr 2
    apply Array.ext'
    simp [List.append_assoc]

theorem run_app_nil (hT : P.underlying T = some (.slice e)) (hi : P.info? e = some i) (hz : i.zero = some z) {x : Value} {m : Nat} {news : List Value} (hx : SrcOK P U i.size m x news w)
    (h0 : 0 < m) (h63 : m ≤ 9223372036854775807) (h48 : m * i.bytes ≤ 281474976710656) :
    (Builtin.append_ #[T, U] ty #[.slice none 0 0, x]).run P w =
      .ok (.slice (some ⟨w.heap.size, 0, none⟩) m (grownCap w m 0 e)) (w.drew.alloc (.cells (news.toArray ++ Builtin.zeroCells z.cells (grownCap w m 0 e - m)) e)) := by
  have hl := hx.len w
  have hn : m ≠ 0 := by omega
  have h63' : ¬ (9223372036854775807 < (m : Int)) := by omega
  have h48' : ¬ (281474976710656 < Builtin.nextslicecap m 0 * i.bytes) := by rw [nextslicecap_zero h0]; omega
  have hc := hx.cells w.drew (fun _ _ => rfl)
  rcases hx.ty with ⟨d, hd⟩ | hd
  all_goals simp [Builtin.append_, run_underlying hT, run_underlying hd, sizeOf, typeInfo, zeroValue, hi, hz, hl, hn, h63', h48', Question.forced, run_firstCells_none, hc, newRow, grownCap]
end
end Go.Ev
