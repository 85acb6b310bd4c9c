/- Pruned: Ga. -/
import Derived.Test.YtfbkefgoblcmpaaGreatQE2
import Derived.Laws.Append
import Derived.Laws.IdiomStrings
set_option linter.unusedSimpArgs false
set_option linter.unusedVariables false
namespace Go.Ev
open Go.RowKit
variable {P : Program}
theorem HRel.move {B : Nat} {ρ : Names} {h : Heap} {w w' : World} (hh : HRel B ρ h w) {id k : Nat} {v : NM} {b0 : Blk} (hv : ρ id = some v) (hB : B <= v.1) (hold : h.get id = some b0) (hlive : b0.live = true) (hk : h.get k = none)
  (blk : Blk) (v' : NM) (hs : w.heap.size <= w'.heap.size) (ho : ∀ j, j < w.heap.size -> j ≠ v.1 -> w'.heap[j]? = w.heap[j]?) (hv' : v'.1 = v.1 ∨ w.heap.size <= v'.1) (hlt : v'.1 < w'.heap.size)
  (hb : BAt B (ρ.nm k v') w' v' blk) : HRel B (ρ.nm k v') ((h.put id .dead).put k blk) w' /\ ρ.le (ρ.nm k v') := by
 have hn := hh.none_ k hk
 have hle := Names.le_nm hn v'
 have hne : id ≠ k := fun e => by rw [e, hk] at hold; cases hold
 have old : ∀ j b, j ≠ k -> j ≠ id -> ((h.put id .dead).put k blk).get j = some b -> h.get j = some b := fun j b h1 h2 h3 => by
  rw [Heap.put_ne _ h1, Heap.put_ne _ h2] at h3; exact h3
 have iddead : ∀ b, ((h.put id .dead).put k blk).get id = some b -> b = .dead := fun b h3 => by
  rw [Heap.put_ne _ hne, Heap.put_eq] at h3; exact (Option.some.inj h3).symm
 refine ⟨⟨⟨fun j b hj => ?_, fun i u hi => ?_, Nat.le_trans hh.size hs⟩, fun i j u u' bi bj gi gj li lj hi hj huv hB' => ?_, fun i hi => ?_⟩, hle⟩
 ·by_cases h1 : j = k
  ·subst h1
   rw [Heap.put_eq] at hj
   simp only [oi0] at hj; subst hj
   exact ⟨v', Names.nm_eq _ _ _, hb⟩
  ·by_cases h2 : j = id
   ·subst h2
    rw [iddead _ hj]
    exact ⟨v, hle _ _ hv, hB⟩
   ·have hj' := old j b h1 h2 hj
    obtain ⟨u, g1, g2⟩ := hh.at_ j b hj'
    refine ⟨u, hle _ _ g1, ?_⟩
    cases hl : b.live with
    | true =>
     refine (g2.mono hle).same (ho _ (hh.lt _ _ g1) fun e => h2 ?_)
     exact hh.inj j id u v b b0 hj' hold hl hlive g1 hv e (by omega)
    | false =>
     have e : b = .dead := by cases b <;> simp [Blk.live] at hl ⊢
     subst e
     exact g2
 ·by_cases h1 : i = k
  ·subst h1; rw [Names.nm_eq] at hi; simp only [oi0] at hi; subst hi; exact hlt
  ·rw [Names.nm_ne _ _ h1] at hi; exact Nat.lt_of_lt_of_le (hh.lt _ _ hi) hs
 ·have key : ∀ (j : Nat) (bj : Blk) (u' : NM), ((h.put id .dead).put k blk).get j = some bj -> bj.live = true -> ρ.nm k v' j = some u' -> u'.1 = v'.1 -> B <= u'.1 -> j = k := fun j bj u' gj lj hj huv hB' => by
   by_cases h2 : j = k
   ·exact h2
   ·exfalso
    have h3 : j ≠ id := fun e => by
     subst e
     rw [iddead _ gj] at lj; cases lj
    have gj' := old j bj h2 h3 gj
    rw [Names.nm_ne _ _ h2] at hj
    rcases hv' with e | e
    ·exact h3 (hh.inj j id u' v bj b0 gj' hold lj hlive hj hv (huv.trans e) hB')
    ·have := hh.lt _ _ hj; omega
  by_cases h1 : i = k
  ·subst h1
   rw [Names.nm_eq] at hi; simp only [oi0] at hi; subst hi
   exact (key j bj u' gj lj hj huv.symm (by omega)).symm
  ·by_cases h2 : j = k
   ·subst h2
    rw [Names.nm_eq] at hj; simp only [oi0] at hj; subst hj
    exact key i bi u gi li hi huv hB'
   ·have h3 : ∀ (j : Nat) (bj : Blk), ((h.put id .dead).put k blk).get j = some bj -> bj.live = true -> j ≠ id := fun j bj gj lj e => by
     subst e
     rw [iddead _ gj] at lj; cases lj
    rw [Names.nm_ne _ _ h1] at hi
    rw [Names.nm_ne _ _ h2] at hj
    exact hh.inj i j u u' bi bj (old i bi h1 (h3 i bi gi li) gi) (old j bj h2 (h3 j bj gj lj) gj) li lj hi hj huv hB'
 ·have h1 : i ≠ k := fun e => by subst e; rw [Heap.put_eq] at hi; cases hi
  have h2 : i ≠ id := fun e => by subst e; rw [Heap.put_ne _ hne, Heap.put_eq] at hi; cases hi
  rw [Heap.put_ne _ h1, Heap.put_ne _ h2] at hi
  rw [Names.nm_ne _ _ h1]; exact hh.none_ i hi
theorem HRel.fresh {B : Nat} {ρ : Names} {h : Heap} {w w' : World} (hh : HRel B ρ h w) {k : Nat} (hk : h.get k = none)
  (blk : Blk) (v' : NM) (hs : w.heap.size <= w'.heap.size) (ho : ∀ j, j < w.heap.size -> w'.heap[j]? = w.heap[j]?) (hv' : w.heap.size <= v'.1) (hlt : v'.1 < w'.heap.size)
  (hb : BAt B (ρ.nm k v') w' v' blk) : HRel B (ρ.nm k v') (h.put k blk) w' /\ ρ.le (ρ.nm k v') := by
 have hn := hh.none_ k hk
 have hle := Names.le_nm hn v'
 refine ⟨⟨⟨fun j b hj => ?_, fun i u hi => ?_, Nat.le_trans hh.size hs⟩, fun i j u u' bi bj gi gj li lj hi hj huv hB' => ?_, fun i hi => ?_⟩, hle⟩
 ·by_cases h1 : j = k
  ·subst h1
   rw [Heap.put_eq] at hj
   simp only [oi0] at hj; subst hj
   exact ⟨v', Names.nm_eq _ _ _, hb⟩
  ·rw [Heap.put_ne _ h1] at hj
   obtain ⟨u, g1, g2⟩ := hh.at_ j b hj
   exact ⟨u, hle _ _ g1, (g2.mono hle).same (ho _ (hh.lt _ _ g1))⟩
 ·by_cases h1 : i = k
  ·subst h1; rw [Names.nm_eq] at hi; simp only [oi0] at hi; subst hi; exact hlt
  ·rw [Names.nm_ne _ _ h1] at hi; exact Nat.lt_of_lt_of_le (hh.lt _ _ hi) hs
 ·by_cases h1 : i = k
  ·by_cases h2 : j = k
   ·rw [h1, h2]
   ·subst h1
    rw [Names.nm_eq] at hi; simp only [oi0] at hi; subst hi
    rw [Names.nm_ne _ _ h2] at hj
    have := hh.lt _ _ hj; omega
  ·by_cases h2 : j = k
   ·subst h2
    rw [Names.nm_eq] at hj; simp only [oi0] at hj; subst hj
    rw [Names.nm_ne _ _ h1] at hi
    have := hh.lt _ _ hi; omega
   ·rw [Names.nm_ne _ _ h1] at hi
    rw [Names.nm_ne _ _ h2] at hj
    rw [Heap.put_ne _ h1] at gi
    rw [Heap.put_ne _ h2] at gj
    exact hh.inj i j u u' bi bj gi gj li lj hi hj huv hB'
 ·have h1 : i ≠ k := fun e => by subst e; rw [Heap.put_eq] at hi; cases hi
  rw [Heap.put_ne _ h1] at hi
  rw [Names.nm_ne _ _ h1]; exact hh.none_ i hi
theorem rQ (g o : Nat) (t : TypeId) (fz : Nat × Nat) : ∀ (vs : List Value) (i : Nat) (cur : Array Value) (w : World), w.heap[g]? = some (.cells cur t fz) -> o + i + vs.length <= cur.size -> (fz = (0, 0) ∨ cur.size <= fz.1) -> (∀ v ∈ vs, v.oneCell' = true) →
  (storeCells ⟨g, o, none⟩ vs i).run P w = .ok () (w.setRow g (cur.toList.take (o + i) ++ vs ++ cur.toList.drop (o + i + vs.length)).toArray)
 | [], i, cur, w, hg, _, _, _ => by
  simp only [storeCells, List.append_nil, List.length_nil, Nat.add_zero, List.take_append_drop, Array.toArray_toList]
  rw [setRow_self w g cur t fz hg]
  rfl
 | v :: rest, i, cur, w, hg, hl, hf, h1 => by
  have hi : o + i < cur.size := by simp at hl; omega
  have hadd : (⟨g, o, none⟩ : Addr).add i = ⟨g, o + i, none⟩ := by unfold Addr.add; split <;> simp_all
  have hcell : w.cell? ⟨g, o + i, none⟩ = some cur[o + i] := by simp [World.cell?, hg, hi]
  have hfro : w.frozen? ⟨g, o + i, none⟩ = false := by
   obtain ⟨lo, hi'⟩ := fz
   rcases hf with hf | hf
   ·simp only [pi0] at hf
    obtain ⟨rfl, rfl⟩ := hf
    simp [World.frozen?, hg]
   ·simp only at hf
    have : ¬ lo <= o + i := by omega
    simp [World.frozen?, hg, this]
  have hst : (store ((⟨g, o, none⟩ : Addr).add i) v).run P w = .ok () (w.setRow g (cur.setIfInBounds (o + i) v)) := by
   rw [hadd, run_store P w _ v _ (h1 v (by simp)), hcell]
   simp [hfro, setCell_eq_setRow w g (o + i) cur t fz v hg]
  have ih := rQ g o t fz rest (i + 1) (cur.setIfInBounds (o + i) v) (w.setRow g (cur.setIfInBounds (o + i) v)) (setRow_heap w g cur _ t _ hg) (by simp at hl ⊢; omega) (by simpa using hf) (fun x hx => h1 x (by simp [hx]))
  simp only [storeCells, Sem.run_bind, hst, Result.andThen_ok, ih, setRow_setRow]
  congr 3
  have e := list_seg_step cur.toList (o + i) v rest (by simp at hl ⊢; omega)
  simpa [Array.toList_setIfInBounds, Nat.add_assoc] using e
structure SrcOK (P : Program) (U : TypeId) (size m : Nat) (x : Value) (news : List Value) (w : World) : Prop where
 ty : (∃ e, P.underlying U = some (.slice e)) ∨ P.underlying U = some .string
 len : ∀ w, (Builtin.lenOf x).run P w = .ok m w
 cells : ∀ w', (∀ b : Nat, b < w.heap.size -> w'.heap[b]? = w.heap[b]?) -> (Builtin.firstCells size m x).run P w' = .ok news.toArray w'
 size : news.length = m * size
section
variable {w : World} {T U ty e : TypeId} {i : TypeInfo} {z : Value}
theorem D3 (hT : P.underlying T = some (.slice e)) (hi : P.info? e = some i) {x : Value} {m : Nat} {news : List Value} (hx : SrcOK P U i.size m x news w) (g sLen sCap : Nat) (cur : Array Value) (fz : Nat × Nat) (hg : w.heap[g]? = some (.cells cur e fz)) (hf : fz = (0, 0) ∨ cur.size <= fz.1)
  (h1 : ∀ u ∈ news, u.oneCell' = true) (hroom : sLen + m <= sCap) (hfit : sLen * i.size + news.length <= cur.size) :
  (Builtin.append_ #[T, U] ty #[.slice (some ⟨g, 0, none⟩) sLen sCap, x]).run P w =
   .ok (.slice (some ⟨g, 0, none⟩) (sLen + m) sCap) (w.setRow g (cur.toList.take (sLen * i.size) ++ news ++ cur.toList.drop (sLen * i.size + news.length)).toArray) := by
 have hc := hx.cells w (fun _ _ => rfl)
 have hl := hx.len w
 have hst := rQ (P := P) g (sLen * i.size) e fz news 0 cur w hg (by simpa using hfit) hf h1
 simp only [Nat.add_zero] at hst
 rcases hx.ty with ⟨d, hd⟩ | hd
 all_goals simp [Builtin.append_, run_underlying hT, run_underlying hd, sizeOf, typeInfo, hi, hl, hroom, hc, Addr.add_lit, hst]
theorem zG (hT : P.underlying T = some (.slice e)) (hi : P.info? e = some i) (hz : i.zero = some z) {x : Value} {m : Nat} {news : List Value} (hx : SrcOK P U i.size m x news w)
  (b : Addr) (sLen sCap : Nat) (olds : List Value) (hlo : olds.length = sLen * i.size) (holds : ∀ j v, olds[j]? = some v -> w.cell? (b.add j) = some v)
  (hg : sCap < sLen + m) (h63 : sLen + m <= 9223372036854775807) (hfit : Builtin.nextslicecap (sLen + m) sCap * i.bytes <= 281474976710656) :
  (Builtin.append_ #[T, U] ty #[.slice (some b) sLen sCap, x]).run P w =
   .ok (.slice (some ⟨w.heap.size, 0, none⟩) (sLen + m) (grownCap w (sLen + m) sCap e))
    (w.drew.alloc (.cells (olds.toArray ++ news.toArray ++ Builtin.zeroCells z.cells (grownCap w (sLen + m) sCap e - (sLen + m))) e)) := by
 have hl := hx.len w
 have hn : ¬ (sLen + m <= sCap) := by omega
 have h63' : ¬ (9223372036854775807 < ((sLen : Int) + (m : Int))) := by omega
 have h48' : ¬ (281474976710656 < Builtin.nextslicecap (sLen + m) sCap * i.bytes) := by omega
 have hc := hx.cells w.drew (fun _ _ => rfl)
 have hfo := run_firstCells_some (P := P) w.drew i.size sLen b sLen sCap olds hlo (by simpa using holds)
 rcases hx.ty with ⟨d, hd⟩ | hd
 all_goals
  simp [Builtin.append_, run_underlying hT, run_underlying hd, sizeOf, typeInfo, zeroValue, hi, hz, hl, hn, h63', h48', Question.forced, hc, hfo, newRow, grownCap]
  congr 2
  apply Array.ext'
  simp [List.append_assoc]
theorem Fq (hT : P.underlying T = some (.slice e)) (hi : P.info? e = some i) (hz : i.zero = some z) {x : Value} {m : Nat} {news : List Value} (hx : SrcOK P U i.size m x news w)
  (h0 : 0 < m) (h63 : m <= 9223372036854775807) (h48 : m * i.bytes <= 281474976710656) :
  (Builtin.append_ #[T, U] ty #[.slice none 0 0, x]).run P w =
   .ok (.slice (some ⟨w.heap.size, 0, none⟩) m (grownCap w m 0 e)) (w.drew.alloc (.cells (news.toArray ++ Builtin.zeroCells z.cells (grownCap w m 0 e - m)) e)) := by
 have hl := hx.len w
 have hn : m ≠ 0 := by omega
 have h63' : ¬ (9223372036854775807 < (m : Int)) := by omega
 have h48' : ¬ (281474976710656 < Builtin.nextslicecap m 0 * i.bytes) := by rw [nextslicecap_zero h0]; omega
 have hc := hx.cells w.drew (fun _ _ => rfl)
 rcases hx.ty with ⟨d, hd⟩ | hd
 all_goals simp [Builtin.append_, run_underlying hT, run_underlying hd, sizeOf, typeInfo, zeroValue, hi, hz, hl, hn, h63', h48', Question.forced, run_firstCells_none, hc, newRow, grownCap]
end
end Go.Ev
set_option linter.unusedSimpArgs false
set_option linter.unusedVariables false
namespace Go.Ev
open Go.RowKit
variable {P : Program}
inductive BK where
 | nil
 | gr (id : Nat) (cs : List Ch)
 | cp (cs : List Ch)
def IX (h : Heap) (e : TypeId) (size : Nat) : AV -> Option (BK × Nat)
 | .v (.slice none l c) => match Nat.beq l 0, Nat.beq c 0 with | true, true => some (.nil, 0) | _, _ => none
 | .sx id len => match h.get id with
  | some (.gr cs t e') => match Nat.beq t e, Nat.beq e' size with | true, true => some (.gr id cs, len) | _, _ => none
  | _ => none
 | .sl id off len cap => match Nat.beq len cap, h.get id with
  | true, some blk => (match blk.cells? with
   | some cs => (match sub cs off (len * size) with | some p => some (.cp p, len) | none => none)
   | none => none)
  | _, _ => none
 | _ => none
def Qb (P : Program) (h : Heap) (U : TypeId) (size : Nat) : AV -> Option (Nat × List Ch)
 | .sl id off n _ => match P.underlying U, h.get id with
  | some (.slice _), some blk => (match blk.cells? with
   | some cs => (match sub cs off (n * size) with | some p => (match okC p with | true => some (n, p) | false => none) | none => none)
   | none => none)
  | _, _ => none
 | .sx id n => match P.underlying U, h.get id with
  | some (.slice _), some blk => (match blk.cells? with
   | some cs => (match sub cs 0 (n * size) with | some p => (match okC p with | true => some (n, p) | false => none) | none => none)
   | none => none)
  | _, _ => none
 | .v (.string s) => match P.underlying U, Nat.beq size 1 with
  | some .string, true => some (s.size, [.y s.data.toList])
  | _, _ => none
 | _ => none
structure AppD where
 T : TypeId
 U : TypeId
 e : TypeId
 ie : TypeInfo
 z : Value
 x : AV
 y : AV
 base : BK
 len : Nat
 m : Nat
 p : List Ch
def Kh (P : Program) (h : Heap) (avs : List AV) (op : Op) : Option AppD :=
 match op with
 | .call { callee := .builtin .append, args := _, argTypes } =>
  match avs, argTypes.toList with
  | [x, y], [T, U] =>
   match P.underlying T with
   | some (.slice e) =>
    match P.info? e with
    | some ie =>
     match ie.zero with
     | some z =>
      match Nat.beq z.cells.size ie.size, IX h e ie.size x, Qb P h U ie.size y with
      | true, some (b, len), some (m, p) => some ⟨T, U, e, ie, z, x, y, b, len, m, p⟩
      | _, _, _ => none
     | none => none
    | none => none
   | _ => none
  | _, _ => none
 | _ => none
def AppD.old (d : AppD) : List Ch := match d.base with | .gr _ cs => cs | .cp cs => cs | .nil => []
def AppD.okP (d : AppD) : Prop := sizes d.old = d.len * d.ie.size /\ d.len + d.m <= 9223372036854775807 /\ (d.len + d.m) * d.ie.bytes <= 140737488355328 /\ (match d.base with | .gr _ _ => True | _ => 0 < d.m)
def AppD.okB (d : AppD) : Bool :=
 match Nat.beq (sizes d.old) (d.len * d.ie.size), Nat.ble (d.len + d.m) 9223372036854775807, Nat.ble ((d.len + d.m) * d.ie.bytes) 140737488355328 with
 | true, true, true => (match d.base with | .gr _ _ => true | _ => Nat.blt 0 d.m)
 | _, _, _ => false
theorem AppD.okB_ok {d : AppD} (h : d.okB = true) : d.okP := by
 unfold AppD.okB at h
 split at h
 ·rename_i h1 h2 h3
  refine ⟨Nat.eq_of_beq_eq_true h1, Nat.le_of_ble_eq_true h2, Nat.le_of_ble_eq_true h3, ?_⟩
  split at h
  ·trivial
  ·simpa [Nat.blt_eq] using h
 ·cases h
def AppD.r (d : AppD) (k : Nat) : AV := .sx k (d.len + d.m)
def AppD.ups (d : AppD) (k : Nat) : List (Nat × Blk) :=
 match d.base with
 | .gr id cs => [(id, .dead), (k, .gr (cs ++ d.p) d.e d.ie.size)]
 | .cp cs => [(k, .gr (cs ++ d.p) d.e d.ie.size)]
 | .nil => [(k, .gr d.p d.e d.ie.size)]
theorem Dz {h : Heap} {avs : List AV} {op : Op} {d : AppD} (hd : Kh P h avs op = some d) :
  ∃ args argTypes, op = .call { callee := .builtin .append, args := args, argTypes := argTypes } /\ avs = [d.x, d.y] /\ argTypes = #[d.T, d.U] /\ P.underlying d.T = some (.slice d.e) /\ P.info? d.e = some d.ie /\ d.ie.zero = some d.z /\ d.z.cells.size = d.ie.size /\
   IX h d.e d.ie.size d.x = some (d.base, d.len) /\ Qb P h d.U d.ie.size d.y = some (d.m, d.p) := by
 unfold Kh at hd
 split at hd
 ·rename_i args argTypes
  split at hd
  ·rename_i x y T U hT
   have hT' : argTypes = #[T, U] := by apply Array.toList_inj.1; simpa using hT
   split at hd
   ·rename_i e hu
    split at hd
    ·rename_i ie hie
     split at hd
     ·rename_i z hz
      split at hd
      ·rename_i b len m p hzs hb hs
       simp only [oi0] at hd
       subst hd
       exact ⟨args, argTypes, rfl, rfl, hT', hu, hie, hz, Nat.eq_of_beq_eq_true hzs, hb, hs⟩
      ·cases hd
     ·cases hd
    ·cases hd
   ·cases hd
  ·cases hd
 ·cases hd
theorem I1 {B : Nat} {ρ : Names} {h : Heap} {w : World} (hh : HAt B ρ h w) {id off n size cap : Nat} {U e : TypeId} (hU : P.underlying U = some (.slice e)) {v : NM} (hv : ρ id = some v) {blk : Blk} (hblk : h.get id = some blk) {cs p : List Ch} (hcs : blk.cells? = some cs) (hp : sub cs off (n * size) = some p) :
  SrcOK P U size n (.slice (some ⟨v.1, v.2 + off, none⟩) n cap) (flatR ρ p) w /\ DefC ρ p := by
 obtain ⟨v', g1, g2⟩ := hh.at_ id blk hblk
 rw [hv] at g1; simp only [oi0] at g1; subst g1
 obtain ⟨k1, k2⟩ := g2.cells hcs
 obtain ⟨n1, n2, n3, n4⟩ := vl ρ hp
 refine ⟨⟨.inl ⟨e, hU⟩, fun w => rfl, fun w' hw' => ?_, n2⟩, n4 k1⟩
 refine run_firstCells_some (P := P) w' size n _ n cap (flatR ρ p) n2 fun j z hj => ?_
 have hlt : j < (flatR ρ p).length := (List.getElem?_eq_some_iff.1 hj).1
 rw [Addr.add_mid, Nat.add_assoc]
 have h1 : (flatR ρ cs)[off + j]? = some z := by
  rw [← n1] at hj
  simp only [List.getElem?_take, List.getElem?_drop] at hj
  rw [if_pos (by omega)] at hj
  exact hj
 have h2 := k2 _ _ h1
 have hb : w'.heap[v.1]? = w.heap[v.1]? := hw' _ (hh.lt _ _ hv)
 simp only [World.cell?, hb] at h2 ⊢
 exact h2
theorem VD {B : Nat} {ρ : Names} {h : Heap} {w : World} (hh : HAt B ρ h w) {U : TypeId} {size m : Nat} {y : AV} {p : List Ch} (hs : Qb P h U size y = some (m, p)) {x : Value} (hx : Rep ρ y x) :
  SrcOK P U size m x (flatR ρ p) w /\ DefC ρ p /\ ∀ u ∈ flatR ρ p, u.oneCell' = true := by
 unfold Qb at hs
 split at hs
 ·rename_i id off n cap
  simp only [Rep] at hx
  obtain ⟨v, h1, rfl⟩ := hx
  split at hs
  ·rename_i e blk hU hblk
   split at hs
   ·rename_i cs hcs
    split at hs
    ·rename_i q hq
     split at hs
     ·rename_i hok
      simp only [oi0, pi0] at hs
      obtain ⟨rfl, rfl⟩ := hs
      obtain ⟨a1, a2⟩ := I1 (P := P) hh (cap := cap) hU h1 hblk hcs hq
      exact ⟨a1, a2, ww ρ hok⟩
     ·cases hs
    ·cases hs
   ·cases hs
  ·cases hs
 ·rename_i id n
  simp only [Rep] at hx
  obtain ⟨v, h1, rfl⟩ := hx
  split at hs
  ·rename_i e blk hU hblk
   split at hs
   ·rename_i cs hcs
    split at hs
    ·rename_i q hq
     split at hs
     ·rename_i hok
      simp only [oi0, pi0] at hs
      obtain ⟨rfl, rfl⟩ := hs
      obtain ⟨a1, a2⟩ := I1 (P := P) hh (cap := n + v.3) hU h1 hblk hcs hq
      exact ⟨a1, a2, ww ρ hok⟩
     ·cases hs
    ·cases hs
   ·cases hs
  ·cases hs
 ·rename_i s
  simp only [Rep] at hx
  subst hx
  split at hs
  ·rename_i hU hsz
   have hsz := Nat.eq_of_beq_eq_true hsz
   simp only [oi0, pi0] at hs
   obtain ⟨rfl, rfl⟩ := hs
   subst hsz
   have e1 : flatR ρ [Ch.y s.data.toList] = s.data.toList.map GX := by simp [flatR, Ch.cells]
   rw [e1]
   refine ⟨⟨.inr hU, fun w => rfl, fun w' _ => ?_, by simp⟩, ⟨tt0, tt0⟩, fun u hu => ?_⟩
   ·have hx : s.extract 0 s.size = s := by
     apply ByteArray.ext
     simp
    simp only [Builtin.firstCells, Sem.run_pure, hx]
    congr 1
    apply Array.ext'
    simp [GX, Function.comp_def]
   ·simp only [List.mem_map] at hu
    obtain ⟨b, _, rfl⟩ := hu
    rfl
  ·cases hs
 ·cases hs
theorem tS {F : Fence} (hF : rT F) {n : Nat} {o : Oper} {a : Act} {w w' : World} {x : Value} {K : Act -> World -> Prop} {Q : Exit -> Act -> World -> Prop} (hd : ∀ c, o.op ≠ .defer c)
  (hrun : (execOp a.eval o).run P w = .ok (.value x) w') (hK : K (a.put o.dst x) w') : o.wpIn F n P a w K Q := by
 refine qO hF hd ?_
 rw [hrun]
 exact hK
theorem NQ {F : Fence} (hF : rT F) (n : Nat) {w0 w : World} {ρ : Names} {h : Heap} {k : Nat} (hk : h.get k = none) {avs : List AV} {d : AppD} (a : Act) (o : Oper) (hd : Kh P h avs o.op = some d) (hok : d.okP)
  (hr : Reps ρ avs (o.op.operands.toList.map a.eval)) (hbel : Below w0.heap.size w0 w) (hh : HRel w0.heap.size ρ h w) {K : Act -> World -> Prop} {Q : Exit -> Act -> World -> Prop}
  (hK : ∀ ρ' x w', ρ.le ρ' -> Rep ρ' (d.r k) x -> Below w0.heap.size w0 w' -> HRel w0.heap.size ρ' (r6 h (d.ups k)) w' -> K (a.put o.dst x) w') : o.wpIn F n P a w K Q := by
 obtain ⟨args, argTypes, hop, rfl, rfl, hT, hie, hz, hzs, hb, hs⟩ := Dz hd
 obtain ⟨q1, q2, q3, q4⟩ := hok
 rw [hop] at hr
 simp only [Op.operands, Call.operands, Reps] at hr
 obtain ⟨ux, r1, e1, hx, uy, r2, rfl, hy, rfl⟩ := hr
 have hargs : args.toList.map a.eval = [ux, uy] := by simpa using e1
 obtain ⟨s1, s2, s3⟩ := VD (P := P) hh.toHAt hs hy
 have hrun : ∀ x w', (Builtin.append_ #[d.T, d.U] o.type #[ux, uy]).run P w = .ok x w' -> (execOp a.eval o).run P w = .ok (.value x) w' := fun x w' hw => by
  have ha : args.map a.eval = #[ux, uy] := by apply Array.toList_inj.1; simpa using hargs
  simp only [execOp, hop, resolve, invoke, builtin, Sem.run_bind, Sem.run_pure, Result.andThen_ok, ha, hw]
 have hnd : ∀ c, o.op ≠ .defer c := fun c hc => by rw [hop] at hc; cases hc
 have hmul : (d.len + d.m) * d.ie.size = d.len * d.ie.size + d.m * d.ie.size := Nat.add_mul _ _ _
 unfold IX at hb
 split at hb
 ·-- nil
  rename_i l c hdx
  split at hb
  ·rename_i hl hc
   have hl := Nat.eq_of_beq_eq_true hl
   have hc := Nat.eq_of_beq_eq_true hc
   subst hl; subst hc
   simp only [oi0, pi0] at hb
   obtain ⟨hb1, hb2⟩ := hb
   rw [hdx] at hx
   simp only [Rep] at hx
   subst hx
   rw [← hb1] at q4
   simp only at q4
   rw [← hb2, Nat.zero_add] at q2 q3
   have hr := Fq (P := P) (w := w) (ty := o.type) hT hie hz s1 q4 q2 (by omega)
   refine tS hF hnd (hrun _ _ hr) ?_
   have hge := grownCap_ge w d.m 0 d.e
   have hsz0 : w.heap.size < (w.drew.alloc (.cells ((flatR ρ d.p).toArray ++ Builtin.zeroCells d.z.cells (grownCap w d.m 0 d.e - d.m)) d.e)).heap.size := by simp
   have hold : ∀ j, j < w.heap.size -> (w.drew.alloc (.cells ((flatR ρ d.p).toArray ++ Builtin.zeroCells d.z.cells (grownCap w d.m 0 d.e - d.m)) d.e)).heap[j]? = w.heap[j]? := fun j hj => heap_alloc_old w.drew _ (by simpa using hj)
   have hdef := rE (Names.le_nm (hh.none_ k hk) ⟨w.heap.size, 0, grownCap w d.m 0 d.e - d.m⟩) s2
   obtain ⟨f1, f2⟩ := hh.fresh hk (.gr d.p d.e d.ie.size) ⟨w.heap.size, 0, grownCap w d.m 0 d.e - d.m⟩ (Nat.le_of_lt hsz0) hold (Nat.le_refl _) hsz0
    ⟨rfl, hh.size, hdef.1, (Builtin.zeroCells d.z.cells (grownCap w d.m 0 d.e - d.m)).toList, (0, 0), ⟨by simp [size_zeroCells, hzs], .inl rfl⟩, by
     rw [hdef.2]
     have := heap_alloc_new w.drew (.cells ((flatR ρ d.p).toArray ++ Builtin.zeroCells d.z.cells (grownCap w d.m 0 d.e - d.m)) d.e)
     refine this.trans ?_
     congr 2
     apply Array.ext'
     simp⟩
   refine hK _ _ _ f2 ?_ ((hbel.drew).alloc (by simpa using hbel.size) _) ?_
   ·simp only [AppD.r, Rep]
    refine ⟨_, Names.nm_eq _ _ _, ?_⟩
    rw [← hb2, Nat.zero_add]
    congr 1
    simp only
    omega
   ·unfold AppD.ups
    rw [← hb1]
    exact f1
  ·cases hb
 ·-- a row
  rename_i id len hdx
  split at hb
  ·rename_i cs t e' hblk
   split at hb
   ·rename_i ht he'
    have ht := Nat.eq_of_beq_eq_true ht
    have he' := Nat.eq_of_beq_eq_true he'
    subst ht; subst he'
    simp only [oi0, pi0] at hb
    obtain ⟨hb1, hb2⟩ := hb
    rw [hdx] at hx
    simp only [Rep] at hx
    obtain ⟨v, hv, hvx⟩ := hx
    obtain ⟨v', g1, g2⟩ := hh.at_ id _ hblk
    rw [hv] at g1; simp only [oi0] at g1; subst g1
    obtain ⟨j1, j2, j3, rest, fz, ⟨j4, j5⟩, j6⟩ := g2
    have hold : d.old = cs := by unfold AppD.old; rw [← hb1]
    rw [hold] at q1
    have hlc : (flatR ρ cs).length = len * d.ie.size := by rw [rn, q1, ← hb2]
    rw [j1] at hvx
    subst hvx
    subst hb2
    by_cases hroom : d.m <= v.3
    ·have hfit : d.len * d.ie.size + (flatR ρ d.p).length <= (flatR ρ cs ++ rest).toArray.size := by
      simp only [List.size_toArray, List.length_append, hlc, j4, s1.size]
      have := Nat.mul_le_mul_right d.ie.size hroom
      omega
     have hr := D3 (P := P) (w := w) (ty := o.type) hT hie s1 v.1 d.len (d.len + v.3) _ fz j6 (by simpa [hlc] using j5) s3 (by omega) hfit
     refine tS hF hnd (hrun _ _ hr) ?_
     have hdl := rE (Names.le_nm (hh.none_ k hk) ⟨v.1, 0, v.3 - d.m⟩) ((tu ρ cs d.p).2 ⟨j3, s2⟩)
     have hlt0 := hh.lt _ _ hv
     obtain ⟨f1, f2⟩ := hh.move (w' := w.setRow v.1 ((flatR ρ cs ++ rest).toArray.toList.take (d.len * d.ie.size) ++ flatR ρ d.p ++ (flatR ρ cs ++ rest).toArray.toList.drop (d.len * d.ie.size + (flatR ρ d.p).length)).toArray) hv j2 hblk rfl hk (.gr (cs ++ d.p) d.e d.ie.size) ⟨v.1, 0, v.3 - d.m⟩ (by simp) (fun j _ hj => setRow_other w v.1 j _ hj) (.inl rfl) (by simpa using hlt0)
      ⟨rfl, j2, hdl.1, rest.drop (d.m * d.ie.size), fz, ⟨by
       rw [List.length_drop, j4, Nat.sub_mul], by
       rw [hdl.2, qV, List.length_append, List.length_drop, s1.size]
       rcases j5 with j5 | j5
       ·exact .inl j5
       ·right
        have := Nat.mul_le_mul_right d.ie.size hroom
        omega⟩, by
       rw [hdl.2]
       refine (setRow_heap w v.1 _ _ d.e fz j6).trans ?_
       congr 2
       apply Array.ext'
       have e3 : (flatR ρ cs ++ rest).drop (d.len * d.ie.size + (flatR ρ d.p).length) = rest.drop (d.m * d.ie.size) := by
        rw [← hlc, ← List.drop_drop, List.drop_left, s1.size]
       have e4 : (flatR ρ cs ++ rest).take (d.len * d.ie.size) = flatR ρ cs := by rw [← hlc, List.take_left]
       simp only [qV]
       rw [e3, e4]⟩
     refine hK _ _ _ f2 ?_ (below_setRow hbel j2 _) ?_
     ·simp only [AppD.r, Rep]
      refine ⟨_, Names.nm_eq _ _ _, ?_⟩
      congr 1
      simp only
      omega
     ·unfold AppD.ups
      rw [← hb1]
      exact f1
    ·have hcl : ∀ j z, (flatR ρ cs)[j]? = some z -> w.cell? ((⟨v.1, 0, none⟩ : Addr).add j) = some z := fun j z hj => by
      have hlt : j < (flatR ρ cs).length := (List.getElem?_eq_some_iff.1 hj).1
      rw [Addr.add_mid]
      simp only [World.cell?, j6, Nat.zero_add, List.getElem?_toArray]
      rw [List.getElem?_append_left hlt]
      exact hj
     have hr := zG (P := P) (w := w) (ty := o.type) hT hie hz s1 ⟨v.1, 0, none⟩ d.len (d.len + v.3) (flatR ρ cs) hlc hcl (by omega) q2 (growslice_fits (by omega) q3)
     refine tS hF hnd (hrun _ _ hr) ?_
     generalize hC : grownCap w (d.len + d.m) (d.len + v.3) d.e = C at *
     have hge : d.len + d.m <= C := by rw [← hC]; exact grownCap_ge w (d.len + d.m) (d.len + v.3) d.e
     have hsz0 : w.heap.size < (w.drew.alloc (.cells ((flatR ρ cs).toArray ++ (flatR ρ d.p).toArray ++ Builtin.zeroCells d.z.cells (C - (d.len + d.m))) d.e)).heap.size := by simp
     have holdh : ∀ j, j < w.heap.size -> (w.drew.alloc (.cells ((flatR ρ cs).toArray ++ (flatR ρ d.p).toArray ++ Builtin.zeroCells d.z.cells (C - (d.len + d.m))) d.e)).heap[j]? = w.heap[j]? := fun j hj => heap_alloc_old w.drew _ (by simpa using hj)
     have hdl := rE (Names.le_nm (hh.none_ k hk) ⟨w.heap.size, 0, C - (d.len + d.m)⟩) ((tu ρ cs d.p).2 ⟨j3, s2⟩)
     obtain ⟨f1, f2⟩ := hh.move hv j2 hblk rfl hk (.gr (cs ++ d.p) d.e d.ie.size) ⟨w.heap.size, 0, C - (d.len + d.m)⟩ (Nat.le_of_lt hsz0) (fun j hj _ => holdh j hj) (.inr (Nat.le_refl _)) hsz0
      ⟨rfl, hh.size, hdl.1, (Builtin.zeroCells d.z.cells (C - (d.len + d.m))).toList, (0, 0), ⟨by simp [size_zeroCells, hzs], .inl rfl⟩, by
       rw [hdl.2]
       have := heap_alloc_new w.drew (.cells ((flatR ρ cs).toArray ++ (flatR ρ d.p).toArray ++ Builtin.zeroCells d.z.cells (C - (d.len + d.m))) d.e)
       refine this.trans ?_
       congr 2
       apply Array.ext'
       simp [qV]⟩
     refine hK _ _ _ f2 ?_ ((hbel.drew).alloc (by simpa using hbel.size) _) ?_
     ·simp only [AppD.r, Rep]
      refine ⟨_, Names.nm_eq _ _ _, ?_⟩
      congr 1
      simp only
      omega
     ·unfold AppD.ups
      rw [← hb1]
      exact f1
   ·cases hb
  ·cases hb
 ·-- a slice without room
  rename_i id off len cap hdx
  split at hb
  ·rename_i blk hlc hblk
   have hlc := Nat.eq_of_beq_eq_true hlc
   subst hlc
   split at hb
   ·rename_i cs0 hcs0
    split at hb
    ·rename_i cs hsub
     simp only [oi0, pi0] at hb
     obtain ⟨hb1, hb2⟩ := hb
     rw [hdx] at hx
     simp only [Rep] at hx
     obtain ⟨v, hv, hvx⟩ := hx
     subst hvx
     subst hb2
     obtain ⟨v', g1, g2⟩ := hh.at_ id _ hblk
     rw [hv] at g1; simp only [oi0] at g1; subst g1
     obtain ⟨k1, k2⟩ := g2.cells hcs0
     obtain ⟨n1, n2, n3, n4⟩ := vl ρ hsub
     rw [← hb1] at q4
     simp only at q4
     have hcl : ∀ j z, (flatR ρ cs)[j]? = some z -> w.cell? ((⟨v.1, v.2 + off, none⟩ : Addr).add j) = some z := fun j z hj => by
      have hlt : j < (flatR ρ cs).length := (List.getElem?_eq_some_iff.1 hj).1
      rw [Addr.add_mid, Nat.add_assoc]
      refine k2 _ _ ?_
      rw [← n1] at hj
      simp only [List.getElem?_take, List.getElem?_drop] at hj
      rw [if_pos (by omega)] at hj
      exact hj
     have hr := zG (P := P) (w := w) (ty := o.type) hT hie hz s1 ⟨v.1, v.2 + off, none⟩ d.len d.len (flatR ρ cs) n2 hcl (by omega) q2 (growslice_fits (by omega) q3)
     refine tS hF hnd (hrun _ _ hr) ?_
     generalize hC : grownCap w (d.len + d.m) d.len d.e = C at *
     have hge : d.len + d.m <= C := by rw [← hC]; exact grownCap_ge w (d.len + d.m) d.len d.e
     have hsz0 : w.heap.size < (w.drew.alloc (.cells ((flatR ρ cs).toArray ++ (flatR ρ d.p).toArray ++ Builtin.zeroCells d.z.cells (C - (d.len + d.m))) d.e)).heap.size := by simp
     have holdh : ∀ j, j < w.heap.size -> (w.drew.alloc (.cells ((flatR ρ cs).toArray ++ (flatR ρ d.p).toArray ++ Builtin.zeroCells d.z.cells (C - (d.len + d.m))) d.e)).heap[j]? = w.heap[j]? := fun j hj => heap_alloc_old w.drew _ (by simpa using hj)
     have hdl := rE (Names.le_nm (hh.none_ k hk) ⟨w.heap.size, 0, C - (d.len + d.m)⟩) ((tu ρ cs d.p).2 ⟨n4 k1, s2⟩)
     obtain ⟨f1, f2⟩ := hh.fresh hk (.gr (cs ++ d.p) d.e d.ie.size) ⟨w.heap.size, 0, C - (d.len + d.m)⟩ (Nat.le_of_lt hsz0) holdh (Nat.le_refl _) hsz0
      ⟨rfl, hh.size, hdl.1, (Builtin.zeroCells d.z.cells (C - (d.len + d.m))).toList, (0, 0), ⟨by simp [size_zeroCells, hzs], .inl rfl⟩, by
       rw [hdl.2]
       have := heap_alloc_new w.drew (.cells ((flatR ρ cs).toArray ++ (flatR ρ d.p).toArray ++ Builtin.zeroCells d.z.cells (C - (d.len + d.m))) d.e)
       refine this.trans ?_
       congr 2
       apply Array.ext'
       simp [qV]⟩
     refine hK _ _ _ f2 ?_ ((hbel.drew).alloc (by simpa using hbel.size) _) ?_
     ·simp only [AppD.r, Rep]
      refine ⟨_, Names.nm_eq _ _ _, ?_⟩
      congr 1
      simp only
      omega
     ·unfold AppD.ups
      rw [← hb1]
      exact f1
    ·cases hb
   ·cases hb
  ·cases hb
 ·cases hb
theorem C8 {h : Heap} {k : Nat} {avs : List AV} {op : Op} {d : AppD} (hd : Kh P h avs op = some d) (hf : ∀ j, k <= j -> h.get j = none) : ∀ j, k + 1 <= j -> (r6 h (d.ups k)).get j = none := by
 obtain ⟨args, argTypes, hop, _, _, hT, hie, hz, hzs, hb, hs⟩ := Dz hd
 intro j hj
 unfold AppD.ups
 split
 ·rename_i id cs hbase
  simp only [r6]
  rw [Heap.put_ne _ (by omega)]
  have hne : j ≠ id := by
   intro e
   subst e
   have h0 := hf j (by omega)
   unfold IX at hb
   split at hb
   ·split at hb
    ·rw [hbase] at hb; simp at hb
    ·cases hb
   ·split at hb
    ·rename_i hblk
     split at hb
     ·rw [hbase] at hb
      simp only [oi0, pi0, BK.gr.injEq] at hb
      obtain ⟨⟨rfl, _⟩, _⟩ := hb
      rw [h0] at hblk; cases hblk
     ·cases hb
    ·cases hb
   ·split at hb
    ·split at hb
     ·split at hb
      ·rw [hbase] at hb; simp at hb
      ·cases hb
     ·cases hb
    ·cases hb
   ·cases hb
  rw [Heap.put_ne _ hne]
  exact hf j (by omega)
 ·simp only [r6]
  rw [Heap.put_ne _ (by omega)]
  exact hf j (by omega)
 ·simp only [r6]
  rw [Heap.put_ne _ (by omega)]
  exact hf j (by omega)
def aaE (P : Program) : XRule P where
 fn ora k h avs op := (Kh P h avs op).map fun d => (some d.okP, d.r k, d.ups k)
 fresh ora k h avs op c r ups he hf := by
  simp only [Option.map_eq_some_iff, pi0] at he
  obtain ⟨d, hd, rfl, rfl, rfl⟩ := he
  exact C8 hd hf
 ok ora k h avs op c r ups he hc hf := by
  intro F hF n w0 ρ w a o ho hr hbel hh K Q hK
  simp only [Option.map_eq_some_iff, pi0] at he
  obtain ⟨d, hd, rfl, rfl, rfl⟩ := he
  subst ho
  exact NQ hF n (hf k (Nat.le_refl _)) a o hd hc hr hbel hh hK
def R1 (P : Program) : XRule P where
 fn ora k h avs op := match Kh P h avs op with | some d => (match d.okB with | true => some (none, d.r k, d.ups k) | false => none) | none => none
 fresh ora k h avs op c r ups he hf := by
  split at he
  ·rename_i d hd
   split at he
   ·simp only [oi0, pi0] at he
    obtain ⟨rfl, rfl, rfl⟩ := he
    exact C8 hd hf
   ·cases he
  ·cases he
 ok ora k h avs op c r ups he hc hf := by
  intro F hF n w0 ρ w a o ho hr hbel hh K Q hK
  split at he
  ·rename_i d hd
   split at he
   ·rename_i hb
    simp only [oi0, pi0] at he
    obtain ⟨rfl, rfl, rfl⟩ := he
    subst ho
    exact NQ hF n (hf k (Nat.le_refl _)) a o hd (AppD.okB_ok hb) hr hbel hh hK
   ·cases he
  ·cases he
end Go.Ev
set_option linter.unusedSimpArgs false
set_option linter.unusedVariables false
namespace Go.Ev
open Go.RowKit
variable {P : Program}
end Go.Ev
set_option linter.unusedSimpArgs false
set_option linter.unusedVariables false
namespace Go.Ev
open Go.RowKit
variable {P : Program}
def Wj (P : Program) : QRule P where
 fn ora h avs op := match op, avs with
  | .load T _, [.p id off] => (match Hq P T, h.get id with
   | some (some n), some blk => (match blk.cells? with
    | some cs => (match pureC cs, pureC (ora.cs 0) with
     | true, true => [(some (sizes (ora.cs 0) = n /\ ((flat cs).drop off).take n = flat (ora.cs 0)), .ag (ora.cs 0))]
     | _, _ => [])
    | none => [])
   | some none, some blk => (match blk.cells?, (ora.av 0).val? with
    | some cs, some v => (match pureC cs with
     | true => [(some ((flat cs)[off]? = some v), ora.av 0)]
     | false => [])
    | _, _ => [])
   | _, _ => [])
  | _, _ => []
 nd ora h avs op k p hk c e := by subst e; simp at hk
 ok ora h avs op k c r hk hc := by
  intro B ρ w a o ho hr hh
  split at hk
  ·rename_i T x id off
   split at hk
   ·rename_i n blk hT hblk
    split at hk
    ·rename_i cs hcs
     split at hk
     ·rename_i hp hp'
      have e := sf hk
      simp only [pi0] at e
      obtain ⟨rfl, rfl⟩ := e
      simp only [Option.getD_some] at hc
      obtain ⟨hsz, hc⟩ := hc
      simp only [Op.operands, List.map_cons, List.map_nil, Reps, Rep] at hr
      obtain ⟨u, r1, e1, ⟨b, g1, rfl⟩, rfl⟩ := hr
      simp only [List.cons.injEq, and_true] at e1
      obtain ⟨b', k1, k2⟩ := hh.at_ id blk hblk
      rw [g1] at k1; simp only [oi0] at k1; subst k1
      obtain ⟨_, k3⟩ := k2.cells hcs
      rw [(qg ρ hp).1] at k3
      obtain ⟨hagg, i, hi, hs⟩ := Aa hT
      refine ⟨.agg (flat (ora.cs 0)).toArray, ?_, ?_⟩
      ·have hl : (loadCells ⟨b.1, b.2 + off, none⟩ n).run P w = .ok (flat (ora.cs 0)).toArray w := by
        have hlen : (flat (ora.cs 0)).length = n := by rw [so]; exact hsz
        rw [← hlen]
        refine run_loadCells_list (P := P) w _ _ (fun j z hz => ?_)
        rw [Addr.add_mid, Nat.add_assoc]
        refine k3 _ _ ?_
        rw [← hc] at hz
        simp only [List.getElem?_take, List.getElem?_drop] at hz
        split at hz
        ·exact hz
        ·cases hz
       simp [execOp, ho, e1, Instr.loadAt, Instr.sureAddr, loadVar, Sem.run_bind, hagg, qz hi, hs, hl]
      ·simp only [Rep]
       exact ⟨(qg ρ hp').2, by rw [(qg ρ hp').1]⟩
     ·simp at hk
    ·simp at hk
   ·rename_i blk hT hblk
    split at hk
    ·rename_i cs v hcs hv
     split at hk
     ·rename_i hp
      have e := sf hk
      simp only [pi0] at e
      obtain ⟨rfl, rfl⟩ := e
      simp only [Option.getD_some] at hc
      simp only [Op.operands, List.map_cons, List.map_nil, Reps, Rep] at hr
      obtain ⟨u, r1, e1, ⟨b, g1, rfl⟩, rfl⟩ := hr
      simp only [List.cons.injEq, and_true] at e1
      obtain ⟨b', k1, k2⟩ := hh.at_ id blk hblk
      rw [g1] at k1; simp only [oi0] at k1; subst k1
      obtain ⟨_, k3⟩ := k2.cells hcs
      rw [(qg ρ hp).1] at k3
      have hagg := yk hT
      have k4 := k3 off v hc
      exact ⟨v, by simp [execOp, ho, e1, Instr.loadAt, Instr.sureAddr, loadVar, Sem.run_bind, hagg, k4], ui hv⟩
     ·simp at hk
    ·simp at hk
   ·simp at hk
  ·simp at hk
def ZQ (P : Program) : QRule P where
 fn ora h avs op := match op, avs with
  | .indexAddr T _ _, [.sx id len, .v (.int k z)] => (match P.underlying T with
   | some (.slice e) => (match P.info? e with | some i => [(some (z = ((ora.hi 0 : Nat) : Int) /\ ora.hi 0 < len), .p id (ora.hi 0 * i.size))] | none => [])
   | _ => [])
  | _, _ => []
 nd ora h avs op k p hk c e := by subst e; simp at hk
 ok ora h avs op k c r hk hc := by
  intro B ρ w a o ho hr hh
  split at hk
  ·rename_i T x y id len kd z
   split at hk
   ·rename_i e hT
    split at hk
    ·rename_i i hi
     have e := sf hk
     simp only [pi0] at e
     obtain ⟨rfl, rfl⟩ := e
     simp only [Option.getD_some] at hc
     obtain ⟨rfl, h1⟩ := hc
     simp only [Op.operands, List.map_cons, List.map_nil, Reps, Rep] at hr
     obtain ⟨u, r1, e1, ⟨b, g1, rfl⟩, v, r2, rfl, rfl, rfl⟩ := hr
     simp only [List.cons.injEq, and_true] at e1
     refine ⟨.pointer (some ⟨b.1, b.2 + ora.hi 0 * i.size, none⟩), ?_, ?_⟩
     ·simp [execOp, Instr.indexAt, ho, e1.1, e1.2, asIntOf, run_underlying hT, h1, qz hi, Addr.add_mid]
     ·simp only [Rep]; exact ⟨b, g1, rfl⟩
    ·simp at hk
   ·simp at hk
  ·simp at hk
def qNo (P : Program) : QRule P where
 fn _ _ _ _ := []
 nd ora h avs op k p hk := by simp at hk
 ok ora h avs op k c r hk := by simp at hk
def xNo (P : Program) : XRule P where
 fn _ _ _ _ _ := none
 fresh ora k h avs op c r ups he := by cases he
 ok ora k h avs op c r ups he := by cases he
def qE (P : Program) : Rules P := { q := [X8 P, Xd P, WV P, Yt P, qNo P, qNo P, qNo P, Wj P, ZQ P, qNo P, qNo P, qNo P], x := [aaE P, xNo P, xNo P], d := some (R1 P) }
end Go.Ev
set_option linter.unusedSimpArgs false
set_option linter.unusedVariables false
namespace Go.Ev
open Go.RowKit
variable {P : Program}
def Blk.pureB : Blk -> Bool
 | .own cs _ => pureC cs
 | .gr cs _ _ => pureC cs
 | _ => false
theorem BAt.moveB {B B' : Nat} {ρ ρ' : Names} {w : World} {u : NM} {blk : Blk} (hp : blk.pureB = true) (h : BAt B ρ w u blk) (hB : B' <= B) : BAt B' ρ' w u blk := by
 cases blk <;> simp only [Blk.pureB] at hp <;> try (cases hp; done)
 ·rename_i cs t
  obtain ⟨h1, h2, h3, h4⟩ := h
  obtain ⟨e1, e2⟩ := qg ρ hp
  obtain ⟨e3, e4⟩ := qg ρ' hp
  exact ⟨h1, Nat.le_trans hB h2, e4, by rw [e3, ← e1]; exact h4⟩
 ·rename_i cs t e
  obtain ⟨h1, h2, h3, rest, fz, h4, h5⟩ := h
  obtain ⟨e1, e2⟩ := qg ρ hp
  obtain ⟨e3, e4⟩ := qg ρ' hp
  exact ⟨h1, Nat.le_trans hB h2, e4, rest, fz, by rw [e3, ← e1]; exact h4, by rw [e3, ← e1]; exact h5⟩
theorem BAt.own_le {B : Nat} {ρ : Names} {w : World} {u : NM} {blk : Blk} (hp : blk.pureB = true) (h : BAt B ρ w u blk) : B <= u.1 := by
 cases blk <;> simp only [Blk.pureB] at hp <;> try (cases hp; done)
 ·exact h.2.1
 ·exact h.2.1
def HL (P : Program) (f : FuncId) (args : List XV) (r : Nat -> AV) (blk : Blk) : Prop :=
 (∀ vs w, (callFunc f vs).run P w = .ok (.enter f vs) w) /\
 ∀ w vs, XReps w args vs -> Calls P f vs.toArray w (fun en w' => ∃ v u, en = .returned v /\ (∀ (ρ : Names) k, ρ k = some u -> Rep ρ (r k) v) /\ u.1 < w'.heap.size /\ BAt w.heap.size rM w' u blk /\ Below w.heap.size w w')
def ZD (P : Program) : XRule P where
 fn ora k h avs op := match op, avs, ora.lp with
  | .call { callee := .value _, args := _, argTypes := _ }, .clo g first cap :: rest, some pk => (match FF h (first ++ rest ++ cap), pk.E.hp with
   | some l, [(_, blk)] => (match blk.pureB with
    | true => some (some (HL P g l ora.av blk), ora.av k, [(k, blk)])
    | false => none)
   | _, _ => none)
  | _, _, _ => none
 fresh ora k h avs op c r ups he hf := by
  split at he
  ·split at he
   ·split at he
    ·simp only [oi0, pi0] at he
     obtain ⟨rfl, rfl, rfl⟩ := he
     intro j hj
     simp only [r6]
     rw [Heap.put_ne _ (by omega)]
     exact hf j (by omega)
    ·cases he
   ·cases he
  ·cases he
 ok ora k h avs op c r ups he hc hf := by
  intro F hF n w0 ρ w a o ho hr hbel hh K Q hK
  split at he
  ·rename_i f args at' g first cap rest pk _
   split at he
   ·rename_i l i blk hl _
    split at he
    ·rename_i hp
     simp only [oi0, pi0] at he
     obtain ⟨rfl, rfl, rfl⟩ := he
     simp only [Option.getD_some] at hc
     obtain ⟨g4, g5⟩ := hc
     simp only [Op.operands, Call.operands, Reps] at hr
     obtain ⟨fv, vs, e0, hfe, hrest⟩ := hr
     have e0' : a.eval f = fv /\ args.toList.map a.eval = vs := by simpa using e0
     obtain ⟨rfl, rfl⟩ := e0'
     simp only [Rep] at hfe
     obtain ⟨xs, ys, e1, e2, e3⟩ := hfe
     have hrun : (execOp a.eval o).run P w = .ok (.enter g (xs ++ args.toList.map a.eval ++ ys).toArray) w := by
      simp only [execOp, ho, Sem.run_bind, resolve, e3, Deferred.ofValue, Sem.run_pure, Result.andThen_ok, invoke]
      rw [← g4]
      congr 2
      apply Array.toList_inj.1
      simp
     refine qO hF (fun c hc' => by rw [ho] at hc'; cases hc') ?_
     rw [hrun]
     simp only [Oper.uponIn]
     have hx := we hh.toHAt _ _ _ (rZ (rZ e1 hrest) e2) hl
     refine ⟨hF.depth, (hF.calls (g5 w _ hx)).mono fun en w' hen => ?_⟩
     obtain ⟨v, u, i1, i2, i3, i4, i5⟩ := hen
     subst i1
     obtain ⟨f1, f2⟩ := hh.fresh (hf k (Nat.le_refl _)) blk u i5.size (fun j hj => i5.block j hj) (i4.own_le hp) i3 (i4.moveB hp hh.size)
     exact hK (ρ.nm k u) v w' f2 (i2 _ _ (Names.nm_eq _ _ _)) (zh hbel i5) f1
    ·cases he
   ·cases he
  ·cases he
def fnN (P : Program) (X : Rules P) (env : List Entry) (n : Nat) (os : Nat -> Ora) (fn : Func) (args : List XV) (j : Nat) : Option (AV × Blk × Prop) :=
 match fnH P X env n os fn args with
 | some (r, h, ob) => match h.get j with | some blk => some (r, blk, ob) | none => none
 | none => none
theorem Kx {X : Rules P} {env : List Entry} (henv : sW P env) {f : FuncId} {fn : Func} (hf : P.funcs[f]? = some fn) (he : ∀ vs w, (callFunc f vs).run P w = .ok (.enter f vs) w)
  (n : Nat) (os : Nat -> Ora) {args : List XV} {r0 : AV} {blk : Blk} {ob : Prop} (j : Nat) (h : fnN P X env n os fn args j = some (r0, blk, ob)) (hp : blk.pureB = true) (hob : ob) (r : Nat -> AV)
  (hmv : ∀ (ρ ρ' : Names) k u v, ρ' j = some u -> ρ k = some u -> Rep ρ' r0 v -> Rep ρ (r k) v) : HL P f args r blk := by
 refine ⟨he, fun w vs hx => ?_⟩
 unfold fnN at h
 split at h
 ·rename_i r1 h1 ob1 hfn
  split at h
  ·rename_i blk1 hj
   simp only [oi0, pi0] at h
   obtain ⟨rfl, rfl, rfl⟩ := h
   refine (Mo henv hf n os hfn hob w vs hx).mono fun en w' hen => ?_
   obtain ⟨v, ρ', i1, i2, i3, i4, i5⟩ := hen
   obtain ⟨u, g1, g2⟩ := i5.at_ j _ hj
   exact ⟨v, u, i1, fun ρ k hk => hmv ρ ρ' k u v g1 hk i3, i5.lt _ _ g1, g2.moveB hp (Nat.le_refl _), i4⟩
  ·cases h
 ·cases h
theorem YS {j len : Nat} : ∀ (ρ ρ' : Names) k u v, ρ' j = some u -> ρ k = some u -> Rep ρ' (.sx j len) v -> Rep ρ (.sx k len) v := by
 intro ρ ρ' k u v h1 h2 h
 simp only [Rep] at h ⊢
 obtain ⟨v1, g1, rfl⟩ := h
 rw [h1] at g1; simp only [oi0] at g1; subst g1
 exact ⟨_, h2, rfl⟩
def Z7 (P : Program) : XRule P where
 fn ora k h avs op := match op, avs with
  | .store T _ _, [.p id off, y] => (match h.get id, FN y, P.info? T with
   | some (.own cs t), some p, some i => (match Nat.beq (sizes p) i.size, okC p, pureC p, pureC cs, pureC (ora.cs 0) with
    | true, true, true, true, true => some (some (off + sizes p <= (flat cs).length /\ flat (ora.cs 0) = (flat cs).take off ++ flat p ++ (flat cs).drop (off + sizes p)), .tp [], [(id, .own (ora.cs 0) t)])
    | _, _, _, _, _ => none)
   | some (.gr cs t e), some p, some i => (match Nat.beq (sizes p) i.size, okC p, pureC p, pureC cs, pureC (ora.cs 0) with
    | true, true, true, true, true => some (some (off + sizes p <= (flat cs).length /\ flat (ora.cs 0) = (flat cs).take off ++ flat p ++ (flat cs).drop (off + sizes p)), .tp [], [(id, .gr (ora.cs 0) t e)])
    | _, _, _, _, _ => none)
   | _, _, _ => none)
  | _, _ => none
 fresh ora k h avs op c r ups he hf := by
  split at he
  ·rename_i T x y' id off y
   split at he
   ·rename_i cs t p i hblk _ _
    split at he
    ·simp only [oi0, pi0] at he
     obtain ⟨rfl, rfl, rfl⟩ := he
     intro j hj
     simp only [r6]
     have hne : j ≠ id := fun e => by
      subst e
      rw [hf j (by omega)] at hblk
      cases hblk
     rw [Heap.put_ne _ hne]
     exact hf j (by omega)
    ·cases he
   ·rename_i cs t e p i hblk _ _
    split at he
    ·simp only [oi0, pi0] at he
     obtain ⟨rfl, rfl, rfl⟩ := he
     intro j hj
     simp only [r6]
     have hne : j ≠ id := fun e => by
      subst e
      rw [hf j (by omega)] at hblk
      cases hblk
     rw [Heap.put_ne _ hne]
     exact hf j (by omega)
    ·cases he
   ·cases he
  ·cases he
 ok ora k h avs op c r ups he hc hf := by
  intro F hF n w0 ρ w a o ho hr hbel hh K Q hK
  split at he
  ·rename_i T x y' id off y
   split at he
   ·rename_i cs t p i hblk hbx hi
    split at he
    ·rename_i hsz hok hpp hpc hpn
     have hsz := Nat.eq_of_beq_eq_true hsz
     simp only [oi0, pi0] at he
     obtain ⟨rfl, rfl, rfl⟩ := he
     simp only [Option.getD_some] at hc
     obtain ⟨hle, hnew⟩ := hc
     simp only [Op.operands, Reps] at hr
     obtain ⟨u, r1, e1, hx, v2, r2, rfl, hy, rfl⟩ := hr
     simp only [Rep] at hx
     obtain ⟨v, hv, rfl⟩ := hx
     simp at e1
     obtain ⟨hd, hcells⟩ := wr hbx hy
     obtain ⟨v', g1, g2⟩ := hh.at_ id _ hblk
     rw [hv] at g1; simp only [oi0] at g1; subst g1
     obtain ⟨j1, j2, j3, j6⟩ := g2
     obtain ⟨p1, p2⟩ := qg ρ hpp
     obtain ⟨c1, c2⟩ := qg ρ hpc
     obtain ⟨n1, n2⟩ := qg ρ hpn
     have hlp : (flatR ρ p).length = sizes p := rn ρ p
     have hst := rQ (P := P) v.1 off t (0, 0) (flatR ρ p) 0 (flatR ρ cs).toArray w j6 (by simp [hlp, c1]; omega) (.inl rfl) (ww ρ hok)
     simp only [Nat.add_zero] at hst
     have e3 : (flatR ρ cs).take off ++ flatR ρ p ++ (flatR ρ cs).drop (off + (flatR ρ p).length) = flatR ρ (ora.cs 0) := by
      rw [n1, hnew, c1, hlp, p1]
     rw [e3] at hst
     have hrun : (execOp a.eval o).run P w = .ok .skip (w.setRow v.1 (flatR ρ (ora.cs 0)).toArray) := by
      have hsz' : (flatR ρ p).length = i.size := by rw [rn]; exact hsz
      simp [execOp, ho, e1.1, e1.2, j1, Instr.storeAt, Instr.sureAddr, storeVar, hcells, hsz', qz hi, hst]
     refine qO hF (fun c hc' => by rw [ho] at hc'; cases hc') ?_
     rw [hrun]
     refine hK ρ undef _ ρ.le_refl (tt.2 rfl) (below_setRow hbel j2 _) ?_
     exact hh.turn hv j2 hblk rfl _ (by simp) (fun j hj => setRow_other w v.1 j _ hj) ⟨j1, j2, n2, setRow_heap w v.1 _ _ t _ j6⟩
    ·cases he
   ·rename_i cs t e p i hblk hbx hi
    split at he
    ·rename_i hsz hok hpp hpc hpn
     have hsz := Nat.eq_of_beq_eq_true hsz
     simp only [oi0, pi0] at he
     obtain ⟨rfl, rfl, rfl⟩ := he
     simp only [Option.getD_some] at hc
     obtain ⟨hle, hnew⟩ := hc
     simp only [Op.operands, Reps] at hr
     obtain ⟨u, r1, e1, hx, v2, r2, rfl, hy, rfl⟩ := hr
     simp only [Rep] at hx
     obtain ⟨v, hv, rfl⟩ := hx
     simp at e1
     obtain ⟨hd, hcells⟩ := wr hbx hy
     obtain ⟨v', g1, g2⟩ := hh.at_ id _ hblk
     rw [hv] at g1; simp only [oi0] at g1; subst g1
     obtain ⟨j1, j2, j3, rest, fz, ⟨j4, j5⟩, j6⟩ := g2
     obtain ⟨p1, p2⟩ := qg ρ hpp
     obtain ⟨c1, c2⟩ := qg ρ hpc
     obtain ⟨n1, n2⟩ := qg ρ hpn
     have hlp : (flatR ρ p).length = sizes p := rn ρ p
     have hlc : off + (flatR ρ p).length <= (flatR ρ cs).length := by rw [hlp, c1]; exact hle
     have hst := rQ (P := P) v.1 off t fz (flatR ρ p) 0 (flatR ρ cs ++ rest).toArray w j6 (by simp; omega) (by simpa using j5) (ww ρ hok)
     simp only [Nat.add_zero] at hst
     have e3 : (flatR ρ cs ++ rest).take off ++ flatR ρ p ++ (flatR ρ cs ++ rest).drop (off + (flatR ρ p).length) = flatR ρ (ora.cs 0) ++ rest := by
      rw [List.take_append_of_le_length (by omega), List.drop_append_of_le_length (by omega), n1, hnew, c1, hlp, p1]
      simp [List.append_assoc]
     rw [e3] at hst
     have hrun : (execOp a.eval o).run P w = .ok .skip (w.setRow v.1 (flatR ρ (ora.cs 0) ++ rest).toArray) := by
      have hsz' : (flatR ρ p).length = i.size := by rw [rn]; exact hsz
      simp [execOp, ho, e1.1, e1.2, j1, Instr.storeAt, Instr.sureAddr, storeVar, hcells, hsz', qz hi, hst]
     refine qO hF (fun c hc' => by rw [ho] at hc'; cases hc') ?_
     rw [hrun]
     have hlen : (flatR ρ (ora.cs 0)).length = (flatR ρ cs).length := by
      rw [n1, hnew, c1]
      simp only [List.length_append, List.length_take, List.length_drop]
      have : (flat p).length = sizes p := so p
      omega
     refine hK ρ undef _ ρ.le_refl (tt.2 rfl) (below_setRow hbel j2 _) ?_
     exact hh.turn hv j2 hblk rfl _ (by simp) (fun j hj => setRow_other w v.1 j _ hj) ⟨j1, j2, n2, rest, fz, ⟨j4, by rw [hlen]; exact j5⟩, setRow_heap w v.1 _ _ t fz j6⟩
    ·cases he
   ·cases he
  ·cases he
theorem HRel.old {B : Nat} {ρ : Names} {h : Heap} {w : World} (hh : HRel B ρ h w) {k : Nat} (hk : h.get k = none) (blk : Blk) (v' : NM) (hlt : v'.1 < B) (hb : BAt B (ρ.nm k v') w v' blk) :
  HRel B (ρ.nm k v') (h.put k blk) w /\ ρ.le (ρ.nm k v') := by
 have hn := hh.none_ k hk
 have hle := Names.le_nm hn v'
 have hsz := hh.size
 refine ⟨⟨⟨fun j b hj => ?_, fun i u hi => ?_, hh.size⟩, fun i j u u' bi bj gi gj li lj hi hj huv hB' => ?_, fun i hi => ?_⟩, hle⟩
 ·by_cases h1 : j = k
  ·subst h1
   rw [Heap.put_eq] at hj
   simp only [oi0] at hj; subst hj
   exact ⟨v', Names.nm_eq _ _ _, hb⟩
  ·rw [Heap.put_ne _ h1] at hj
   obtain ⟨u, g1, g2⟩ := hh.at_ j b hj
   exact ⟨u, hle _ _ g1, g2.mono hle⟩
 ·by_cases h1 : i = k
  ·subst h1; rw [Names.nm_eq] at hi; simp only [oi0] at hi; subst hi; omega
  ·rw [Names.nm_ne _ _ h1] at hi; exact hh.lt _ _ hi
 ·by_cases h1 : i = k
  ·subst h1
   rw [Names.nm_eq] at hi; simp only [oi0] at hi; subst hi
   omega
  ·by_cases h2 : j = k
   ·subst h2
    rw [Names.nm_eq] at hj; simp only [oi0] at hj; subst hj
    omega
   ·rw [Names.nm_ne _ _ h1] at hi
    rw [Names.nm_ne _ _ h2] at hj
    rw [Heap.put_ne _ h1] at gi
    rw [Heap.put_ne _ h2] at gj
    exact hh.inj i j u u' bi bj gi gj li lj hi hj huv hB'
 ·by_cases h1 : i = k
  ·subst h1; rw [Heap.put_eq] at hi; cases hi
  ·rw [Heap.put_ne _ h1] at hi; rw [Names.nm_ne _ _ h1]; exact hh.none_ i hi
def aay (P : Program) : QRule P where
 fn ora h avs op := match op, avs with
  | .indexAddr T _ _, [.sz id len, .v (.int k z)] => (match P.underlying T with
   | some (.slice e) => (match P.info? e with | some i => [(some (z = ((ora.hi 0 : Nat) : Int) /\ ora.hi 0 < len), .p id (ora.hi 0 * i.size))] | none => [])
   | _ => [])
  | _, _ => []
 nd ora h avs op k p hk c e := by subst e; simp at hk
 ok ora h avs op k c r hk hc := by
  intro B ρ w a o ho hr hh
  split at hk
  ·rename_i T x y id len kd z
   split at hk
   ·rename_i e hT
    split at hk
    ·rename_i i hi
     have e := sf hk
     simp only [pi0] at e
     obtain ⟨rfl, rfl⟩ := e
     simp only [Option.getD_some] at hc
     obtain ⟨rfl, h1⟩ := hc
     simp only [Op.operands, List.map_cons, List.map_nil, Reps, Rep] at hr
     obtain ⟨u, r1, e1, ⟨b, g1, gz, rfl⟩, v, r2, rfl, rfl, rfl⟩ := hr
     simp only [List.cons.injEq, and_true] at e1
     refine ⟨.pointer (some ⟨b.1, b.2 + ora.hi 0 * i.size, none⟩), ?_, ?_⟩
     ·have e2 := e1.1
      unfold zval at e2
      split at e2
      ·rename_i h0; have := gz h0; omega
      ·simp [execOp, Instr.indexAt, ho, e2, e1.2, asIntOf, run_underlying hT, h1, qz hi, Addr.add_mid]
     ·simp only [Rep]; exact ⟨b, g1, rfl⟩
    ·simp at hk
   ·simp at hk
  ·simp at hk
def ZM (P : Program) : XRule P where
 fn ora k h avs op := match op with
  | .slice T _ none (some _) none => (match avs, P.underlying T with
   | [.sz id len, .v (.int kd z)], some (.slice e) => (match h.get id, P.info? e, pureC (ora.cs 0) with
    | some (.rz cs), some i, true => (match pureC cs with
     | true => some (some (z = ((ora.hi 0 : Nat) : Int) /\ ora.hi 0 <= len /\ flat (ora.cs 0) = (flat cs).take (ora.hi 0 * i.size)), .sz k (ora.hi 0), [(k, .rz (ora.cs 0))])
     | false => none)
    | _, _, _ => none)
   | _, _ => none)
  | _ => none
 fresh ora k h avs op c r ups he hf := by
  split at he
  ·split at he
   ·split at he
    ·split at he
     ·simp only [oi0, pi0] at he
      obtain ⟨rfl, rfl, rfl⟩ := he
      intro j hj
      simp only [r6]
      rw [Heap.put_ne _ (by omega)]
      exact hf j (by omega)
     ·cases he
    ·cases he
   ·cases he
  ·cases he
 ok ora k h avs op c r ups he hc hf := by
  intro F hF n w0 ρ w a o ho hr hbel hh K Q hK
  split at he
  ·rename_i T x y
   split at he
   ·rename_i id len kd z e hT
    split at he
    ·rename_i cs i hblk hi hpn
     split at he
     ·rename_i hpc
      simp only [oi0, pi0] at he
      obtain ⟨rfl, rfl, rfl⟩ := he
      simp only [Option.getD_some] at hc
      obtain ⟨rfl, hle, hnew⟩ := hc
      simp only [Op.operands, Reps, Rep] at hr
      obtain ⟨u, r1, e1, ⟨v, g1, gz, rfl⟩, v2, r2, rfl, rfl, rfl⟩ := hr
      simp at e1
      obtain ⟨v', k1, k2⟩ := hh.at_ id _ hblk
      rw [g1] at k1; simp only [oi0] at k1; subst k1
      obtain ⟨j1, j2, j3, j4⟩ := k2
      rw [(qg ρ hpc).1] at j3 j4
      have hrange : w.rangeAt v.1 v.2 (flat (ora.cs 0)) := by
       rw [hnew]
       intro j x hx
       rw [List.getElem?_take] at hx
       split at hx
       ·exact j3 j x hx
       ·cases hx
      have e2 := e1.1
      unfold zval at e2
      split at e2
      ·rename_i h0
       have hl0 := gz h0
       have hh0 : ora.hi 0 = 0 := by omega
       have hb : uG 0 0 none (some (.v (.int kd ((ora.hi 0 : Nat) : Int)))) none = some (0, 0, 0) := by simp [uG, hh0]
       have hr2 := xr (ρ := ρ) hb (x := none) (y := some (.int kd ((ora.hi 0 : Nat) : Int))) (z := none) trivial (by simp only [B1, Rep]) trivial true w (P := P)
       refine tS hF (fun c hc' => by rw [ho] at hc'; cases hc') (x := .slice none 0 0) (w' := w) (by simp [execOp, ho, e2, e1.2, Instr.sliceAt, Instr.slice, run_underlying hT, hr2, qz hi]) ?_
       have hfl : flat (ora.cs 0) = [] := by rw [hnew, j4 h0]; simp
       obtain ⟨f1, f2⟩ := hh.old (hf k (Nat.le_refl _)) (.rz (ora.cs 0)) v j1 ⟨j1, (qg _ hpn).2, by rw [(qg _ hpn).1]; exact hrange, fun _ => by rw [(qg _ hpn).1]; exact hfl⟩
       refine hK _ _ _ f2 ?_ hbel f1
       simp only [Rep]
       refine ⟨v, Names.nm_eq _ _ _, fun _ => hh0, ?_⟩
       unfold zval
       rw [h0]
      ·rename_i r hr0
       have hb : uG len (len + r) none (some (.v (.int kd ((ora.hi 0 : Nat) : Int)))) none = some (0, ora.hi 0, len + r) := by
        have : (0 : Int) <= ((ora.hi 0 : Nat) : Int) /\ ((ora.hi 0 : Nat) : Int) <= ((len + r : Nat) : Int) := by omega
        simp only [uG, if_pos this, Int.toNat_natCast]
       have hr2 := xr (ρ := ρ) hb (x := none) (y := some (.int kd ((ora.hi 0 : Nat) : Int))) (z := none) trivial (by simp only [B1, Rep]) trivial true w (P := P)
       refine tS hF (fun c hc' => by rw [ho] at hc'; cases hc') (x := .slice (some ⟨v.1, v.2, none⟩) (ora.hi 0) (len + r)) (w' := w) (by simp [execOp, ho, e2, e1.2, Instr.sliceAt, Instr.slice, run_underlying hT, hr2, qz hi, Addr.add]) ?_
       obtain ⟨f1, f2⟩ := hh.old (hf k (Nat.le_refl _)) (.rz (ora.cs 0)) ⟨v.1, v.2, (len + r - ora.hi 0) + 1⟩ j1 ⟨j1, (qg _ hpn).2, by rw [(qg _ hpn).1]; exact hrange, fun h => by simp at h⟩
       refine hK _ _ _ f2 ?_ hbel f1
       simp only [Rep]
       refine ⟨_, Names.nm_eq _ _ _, fun h => by simp at h, ?_⟩
       show _ = Value.slice (some ⟨v.1, v.2, none⟩) (ora.hi 0) (ora.hi 0 + (len + r - ora.hi 0))
       rw [show ora.hi 0 + (len + r - ora.hi 0) = len + r by omega]
     ·cases he
    ·cases he
   ·cases he
  ·cases he
def qY (w : Nat) (ns : List Nat) : List Value := ns.flatMap (limbs w)
theorem ry (vs : List Value) : flat [.l vs] = vs := by simp [flat, Ch.cells]
def readN (w : Nat) (a : Par Nat) : Nat -> List Ch -> Option (List Nat)
 | _, [] => some []
 | 0, _ => none
 | k + 1, l => match a.p l with | some (x, r) => (readN w a k r).map (x :: ·) | none => none
theorem Gn {w : Nat} {a : Par Nat} (ha : ∀ x, a.c x = [.n w x]) : ∀ (k : Nat) (l : List Ch) (ns : List Nat), readN w a k l = some ns -> flat l = qY w ns
 | k, [], ns, h => by
  cases k <;> simp only [readN, oi0] at h <;> subst h <;> rfl
 | 0, c :: l, ns, h => by simp [readN] at h
 | k + 1, c :: l, ns, h => by
  simp only [readN] at h
  split at h
  ·rename_i x r hx
   simp only [Option.map_eq_some_iff] at h
   obtain ⟨m, h1, rfl⟩ := h
   rw [a.ok _ _ _ hx, Gn ha k r m h1, ha]
   simp [qY, flat, Ch.cells]
  ·cases h
def XPar.ns (w : Nat) (a : Par Nat) (ha : ∀ x, a.c x = [.n w x]) : XPar (List Nat) where
 p v := match v with
  | .rd cs len cap => match readN w a len cs, Nat.ble len cap with | some ns, true => (match Nat.beq ns.length len with | true => some ns | false => none) | _, _ => none
  | _ => none
 c ns := .rz [.l (qY w ns)] ns.length
 ok v x h w' y hy := by
  split at h
  ·rename_i cs len cap
   split at h
   ·rename_i ns h1 h2
    split at h
    ·rename_i h3
     simp only [oi0] at h; subst h
     have h2 := Nat.le_of_ble_eq_true h2
     have h3 := Nat.eq_of_beq_eq_true h3
     obtain ⟨hp, b, off, rfl, hlt, hra⟩ := hy
     refine ⟨rfl, by omega, .inr ⟨b, off, cap - len, by rw [h3, Nat.add_sub_cancel' h2], hlt, ?_⟩⟩
     rw [ry, ← Gn ha _ _ _ h1]
     exact hra
    ·cases h
   ·cases h
  ·cases h
def Of (P : Program) (X : Rules P) (env : List Entry) (n : Nat) (os : Nat -> Ora) (fb : Nat) (rd : Bool) (c : Code) (k : Nat) (I J : LState) (τ : List (Nat × Nat)) : Option (Ex × Prop) :=
 match CT k I.hp, codeA P X env (inlN P X env os n) os fb rd c k I.aa True with
 | true, some (ex, _, A, ob) =>
  match zH fb A J τ with | true => some (ex, DP A J τ /\ ob) | false => none
 | _, _ => none
theorem su {X : Rules P} {env : List Entry} (henv : sW P env) {n : Nat} {os : Nat -> Ora} {fb : Nat} {rd : Bool} {c : Code} {k : Nat} {I J : LState} {τ : List (Nat × Nat)} {ex : Ex} {ob : Prop}
  (h : Of P X env n os fb rd c k I J τ = some (ex, ob)) (hob : ob) : Sound P fb rd c I.aa ex J.aa := by
 unfold Of at h
 split at h
 ·rename_i ex1 k1 A ob1 hlt hc
  split at h
  ·rename_i hb
   simp only [oi0, pi0] at h
   obtain ⟨rfl, rfl⟩ := h
   have hfr : sn I.aa k := fun j hj => un hlt j hj
   obtain ⟨_, hs⟩ := rU (fb := fb) (rd := rd) henv (tD henv n) c k I.aa True ex1 k1 A ob1 hc hob.2 hfr
   exact hs.post τ hb hob.1
  ·cases h
 ·cases h
def HU (P : Program) : Rules P := { q := (qE P).q ++ [qNo P, aay P], x := (qE P).x ++ [ZD P, Z7 P, ZM P, xNo P], d := some (R1 P) }
end Go.Ev
set_option linter.unusedSimpArgs false
set_option linter.unusedVariables false
namespace Go.Ev
open Go.RowKit
def EJ (z : List Value) (n : Nat) : List Value := (List.range n).map fun j => z.getD (j % z.length) default
theorem GF (z : Array Value) (n : Nat) : EJ z.toList n = (madeCells z n).toList := by
 have h := (x8 rM z n).1
 have e : xK z.toList n = (EJ z.toList n).map .c := by unfold xK EJ; rw [List.map_map]; rfl
 rw [e, (vB rM _).1] at h
 exact h
def xMk (P : Program) : XRule P where
 fn ora k h avs op := match op, avs with
  | .makeSlice T _ _, [.v (.int _ n), .v (.int _ m)] => (match P.underlying T with
   | some (.slice e) => (match P.info? e with
    | some ie => (match ie.zero, pureC (ora.cs 0) with
     | some z, true => some (some (n = ((ora.hi 0 : Nat) : Int) /\ m = ((ora.hi 0 : Nat) : Int) /\ ie.bytes * ora.hi 0 <= 281474976710656 /\ ora.hi 0 <= 9223372036854775807 /\ flat (ora.cs 0) = EJ z.cells.toList (ora.hi 0 * ie.size)), .sl k 0 (ora.hi 0) (ora.hi 0), [(k, .own (ora.cs 0) e)])
     | _, _ => none)
    | none => none)
   | _ => none)
  | _, _ => none
 fresh ora k h avs op c r ups he hf := by
  split at he
  ·split at he
   ·split at he
    ·split at he
     ·simp only [oi0, pi0] at he
      obtain ⟨rfl, rfl, rfl⟩ := he
      intro j hj
      simp only [r6]
      rw [Heap.put_ne _ (by omega)]
      exact hf j (by omega)
     ·cases he
    ·cases he
   ·cases he
  ·cases he
 ok ora k h avs op c r ups he hc hf := by
  intro F hF n w0 ρ w a o ho hr hbel hh K Q hK
  split at he
  ·rename_i T x y kl q1 kc q2
   split at he
   ·rename_i e hT
    split at he
    ·rename_i ie hie
     split at he
     ·rename_i z hz hp
      simp only [oi0, pi0] at he
      obtain ⟨rfl, rfl, rfl⟩ := he
      simp only [Option.getD_some] at hc
      obtain ⟨rfl, rfl, hb, h63, hcs⟩ := hc
      simp only [Op.operands, Reps, Rep] at hr
      obtain ⟨v1, r1, e1, rfl, v2, r2, rfl, rfl, rfl⟩ := hr
      simp at e1
      obtain ⟨p1, p2⟩ := qg ρ hp
      have hr := run_make (P := P) w T e ie z hT hie hz kl kc ((ora.hi 0 : Nat) : Int) ((ora.hi 0 : Nat) : Int) (by omega) (Int.le_refl _) (by rw [← Int.natCast_mul]; exact (show ∀ m : Nat, m <= 281474976710656 -> (m : Int) <= 281474976710656 from fun m h => by omega) _ hb) (by omega)
      have hcells : (flatR ρ (ora.cs 0)).toArray = madeCells z.cells (ora.hi 0 * ie.size) := by
       rw [p1, hcs, GF, Array.toArray_toList]
      have hrun : (execOp a.eval o).run P w = .ok (.value (.slice (some ⟨w.heap.size, 0, none⟩) (ora.hi 0) (ora.hi 0))) (w.alloc (.cells (flatR ρ (ora.cs 0)).toArray e)) := by
       rw [hcells]
       simp [execOp, ho, e1.1, e1.2, hr]
      refine qO hF (fun c hc' => by rw [ho] at hc'; cases hc') ?_
      rw [hrun]
      obtain ⟨f1, f2⟩ := hh.new (hf k (Nat.le_refl _)) (.cells (flatR ρ (ora.cs 0)).toArray e) (.own (ora.cs 0) e) ⟨rfl, hh.size, (qg _ hp).2, by rw [(qg (ρ.new k w.heap.size) hp).1, p1]; show (w.heap.push _)[w.heap.size]? = _; simp⟩
      refine hK _ _ _ f2 ?_ (hbel.alloc hbel.size _) f1
      simp only [Rep]
      exact ⟨_, Names.new_eq _ _ _, rfl⟩
     ·cases he
    ·cases he
   ·cases he
  ·cases he
def HB (P : Program) : Rules P := { q := (HU P).q, x := (HU P).x ++ [xMk P], d := (HU P).d }
end Go.Ev
set_option linter.unusedSimpArgs false
set_option linter.unusedVariables false
namespace Go.Ev
open Go.RowKit
def goL (step : Nat -> Option Prop) : List Nat -> Option Prop
 | [] => some True
 | i :: l => match step i, goL step l with | some p, some q => some (p /\ q) | _, _ => none
def vP : Code -> List Code
 | .region id ops true => [.region id ops true]
 | .seq a b => vP a ++ vP b
 | .cond _ a b => vP a ++ vP b
 | .block _ b => vP b
 | .loop b => vP b
 | .rangeFunc _ _ a b => vP a ++ vP b
 | .scope b => vP b
 | _ => []
def Cp (fn : Func) (k : Nat) : Code := match fn.body with | some c => (vP c).getD k .skip | none => .skip
section
variable {P : Program} {X : Rules P} {env : List Entry} {inl : Inl} {os : Nat -> Ora} {ops : Array Oper} {fr fb : Nat} {E : LState}
theorem Ix {step : Nat -> Option Prop} : ∀ {l : List Nat} {p : Prop}, goL step l = some p -> p -> ∀ i, i ∈ l -> ∃ q, step i = some q /\ q
 | [], p, h, hp, i, hi => by cases hi
 | j :: l, p, h, hp, i, hi => by
  simp only [goL] at h
  split at h
  ·rename_i q1 q2 h1 h2
   simp only [oi0] at h; subst h
   rcases List.mem_cons.1 hi with rfl | hi
   ·exact ⟨q1, h1, hp.1⟩
   ·exact Ix h2 hp.2 i hi
  ·cases h
end
end Go.Ev
