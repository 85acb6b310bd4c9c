/- The rule for 'append'. Nothing here names a program. -/
import Derived.Test.YtoahfmgdlpgjoaaRux
set_option linter.unusedSimpArgs false
set_option linter.unusedVariables false
namespace Go.Ev
open Go.RowKit

variable {P : Program}

inductive BK where
  | nil
  | gr (id : Nat) (cs : List Ch)
  | cp (cs : List Ch)
/-- What is appended to: nil; a row of the call's own that may have room; a slice that has none. -/
def baseA (h : Heap) (e : TypeId) (size : Nat) : AV → Option (BK × Nat)
  | .v (.slice none l c) => match Nat.beq l 0, Nat.beq c 0 with | true, true => some (.nil, 0) | _, _ => none
  | .sx id len => match h.get id with
    | some (.gr cs t e') => match Nat.beq t e, Nat.beq e' size with | true, true => some (.gr id cs, len) | _, _ => none
    | _ => none
  | .sl id off len cap => match Nat.beq len cap, h.get id with
    | true, some blk => (match blk.cells? with
      | some cs => (match sub cs off (len * size) with | some p => some (.cp p, len) | none => none)
      | none => none)
    | _, _ => none
  | _ => none

/-- What is appended. -/
def srcA (P : Program) (h : Heap) (U : TypeId) (size : Nat) : AV → Option (Nat × List Ch)
  | .sl id off n _ => match P.underlying U, h.get id with
    | some (.slice _), some blk => (match blk.cells? with
      | some cs => (match sub cs off (n * size) with | some p => (match okC p with | true => some (n, p) | false => none) | none => none)
      | none => none)
    | _, _ => none
  | .sx id n => match P.underlying U, h.get id with
    | some (.slice _), some blk => (match blk.cells? with
      | some cs => (match sub cs 0 (n * size) with | some p => (match okC p with | true => some (n, p) | false => none) | none => none)
      | none => none)
    | _, _ => none
  | .v (.string s) => match P.underlying U, Nat.beq size 1 with
    | some .string, true => some (s.size, [.y s.data.toList])
    | _, _ => none
  | _ => none

structure AppD where
  T : TypeId
  U : TypeId
  e : TypeId
  ie : TypeInfo
  z : Value
  x : AV
  y : AV
  base : BK
  len : Nat
  m : Nat
  p : List Ch

def appD (P : Program) (h : Heap) (avs : List AV) (op : Op) : Option AppD :=
  match op with
  | .call { callee := .builtin .append, args := _, argTypes } =>
    match avs, argTypes.toList with
    | [x, y], [T, U] =>
      match P.underlying T with
      | some (.slice e) =>
        match P.info? e with
        | some ie =>
          match ie.zero with
          | some z =>
            match Nat.beq z.cells.size ie.size, baseA h e ie.size x, srcA P h U ie.size y with
            | true, some (b, len), some (m, p) => some ⟨T, U, e, ie, z, x, y, b, len, m, p⟩
            | _, _, _ => none
          | none => none
        | none => none
      | _ => none
    | _, _ => none
  | _ => none

def AppD.old (d : AppD) : List Ch := match d.base with | .gr _ cs => cs | .cp cs => cs | .nil => []
def AppD.okP (d : AppD) : Prop := sizes d.old = d.len * d.ie.size ∧ d.len + d.m ≤ 9223372036854775807 ∧ (d.len + d.m) * d.ie.bytes ≤ 140737488355328 ∧ (match d.base with | .gr _ _ => True | _ => 0 < d.m)
def AppD.okB (d : AppD) : Bool :=
  match Nat.beq (sizes d.old) (d.len * d.ie.size), Nat.ble (d.len + d.m) 9223372036854775807, Nat.ble ((d.len + d.m) * d.ie.bytes) 140737488355328 with
  | true, true, true => (match d.base with | .gr _ _ => true | _ => Nat.blt 0 d.m)
  | _, _, _ => false
theorem AppD.okB_ok {d : AppD} (h : d.okB = true) : d.okP := by
  unfold AppD.okB at h
  split at h
  · rename_i h1 h2 h3
    refine ⟨Nat.eq_of_beq_eq_true h1, Nat.le_of_ble_eq_true h2, Nat.le_of_ble_eq_true h3, ?_⟩
    split at h
    · trivial
    · simpa [Nat.blt_eq] using h
  · cases h
def AppD.r (d : AppD) (k : Nat) : AV := .sx k (d.len + d.m)
def AppD.ups (d : AppD) (k : Nat) : List (Nat × Blk) :=
  match d.base with
  | .gr id cs => [(id, .dead), (k, .gr (cs ++ d.p) d.e d.ie.size)]
  | .cp cs => [(k, .gr (cs ++ d.p) d.e d.ie.size)]
  | .nil => [(k, .gr d.p d.e d.ie.size)]

theorem appD_spec {h : Heap} {avs : List AV} {op : Op} {d : AppD} (hd : appD P h avs op = some d) :
    ∃ args argTypes, op = .call { callee := .builtin .append, args := args, argTypes := argTypes } ∧ avs = [d.x, d.y] ∧ argTypes = #[d.T, d.U] ∧ P.underlying d.T = some (.slice d.e) ∧ P.info? d.e = some d.ie ∧ d.ie.zero = some d.z ∧ d.z.cells.size = d.ie.size ∧
      baseA h d.e d.ie.size d.x = some (d.base, d.len) ∧ srcA P h d.U d.ie.size d.y = some (d.m, d.p) := by
  unfold appD at hd
  split at hd
  · rename_i args argTypes
    split at hd
    · rename_i x y T U hT
      have hT' : argTypes = #[T, U] := by apply Array.toList_inj.1; simpa using hT
      split at hd
      · rename_i e hu
        split at hd
        · rename_i ie hie
          split at hd
          · rename_i z hz
            split at hd
            · rename_i b len m p hzs hb hs
              simp only [Option.some.injEq] at hd
              subst hd
              exact ⟨args, argTypes, rfl, rfl, hT', hu, hie, hz, Nat.eq_of_beq_eq_true hzs, hb, hs⟩
            · cases hd
          · cases hd
        · cases hd
      · cases hd
    · cases hd
  · cases hd

theorem src_row {B : Nat} {ρ : Names} {h : Heap} {w : World} (hh : HAt B ρ h w) {id off n size cap : Nat} {U e : TypeId} (hU : P.underlying U = some (.slice e)) {v : NM} (hv : ρ id = some v) {blk : Blk} (hblk : h.get id = some blk) {cs p : List Ch} (hcs : blk.cells? = some cs) (hp : sub cs off (n * size) = some p) :
    SrcOK P U size n (.slice (some ⟨v.1, v.2 + off, none⟩) n cap) (flatR ρ p) w ∧ DefC ρ p := by
  obtain ⟨v', g1, g2⟩ := hh.at_ id blk hblk
  rw [hv] at g1; simp only [Option.some.injEq] at g1; subst g1
  obtain ⟨k1, k2⟩ := g2.cells hcs
  obtain ⟨n1, n2, n3, n4⟩ := sub_spec ρ hp
  refine ⟨⟨.inl ⟨e, hU⟩, fun w => rfl, fun w' hw' => ?_, n2⟩, n4 k1⟩
  refine run_firstCells_some (P := P) w' size n _ n cap (flatR ρ p) n2 fun j z hj => ?_
  have hlt : j < (flatR ρ p).length := (List.getElem?_eq_some_iff.1 hj).1
  rw [Addr.add_mid, Nat.add_assoc]
  have h1 : (flatR ρ cs)[off + j]? = some z := by
    rw [← n1] at hj
    simp only [List.getElem?_take, List.getElem?_drop] at hj
    rw [if_pos (by omega)] at hj
    exact hj
  have h2 := k2 _ _ h1
  have hb : w'.heap[v.1]? = w.heap[v.1]? := hw' _ (hh.lt _ _ hv)
  simp only [World.cell?, hb] at h2 ⊢
  exact h2

theorem src_ok {B : Nat} {ρ : Names} {h : Heap} {w : World} (hh : HAt B ρ h w) {U : TypeId} {size m : Nat} {y : AV} {p : List Ch} (hs : srcA P h U size y = some (m, p)) {x : Value} (hx : Rep ρ y x) :
    SrcOK P U size m x (flatR ρ p) w ∧ DefC ρ p ∧ ∀ u ∈ flatR ρ p, u.oneCell' = true := by
  unfold srcA at hs
  split at hs
  · rename_i id off n cap
    simp only [Rep] at hx
    obtain ⟨v, h1, rfl⟩ := hx
    split at hs
    · rename_i e blk hU hblk
      split at hs
      · rename_i cs hcs
        split at hs
        · rename_i q hq
          split at hs
          · rename_i hok
            simp only [Option.some.injEq, Prod.mk.injEq] at hs
            obtain ⟨rfl, rfl⟩ := hs
            obtain ⟨a1, a2⟩ := src_row (P := P) hh (cap := cap) hU h1 hblk hcs hq
            exact ⟨a1, a2, okC_one ρ hok⟩
          · cases hs
        · cases hs
      · cases hs
    · cases hs
  · rename_i id n
    simp only [Rep] at hx
    obtain ⟨v, h1, rfl⟩ := hx
    split at hs
    · rename_i e blk hU hblk
      split at hs
      · rename_i cs hcs
        split at hs
        · rename_i q hq
          split at hs
          · rename_i hok
            simp only [Option.some.injEq, Prod.mk.injEq] at hs
            obtain ⟨rfl, rfl⟩ := hs
            obtain ⟨a1, a2⟩ := src_row (P := P) hh (cap := n + v.3) hU h1 hblk hcs hq
            exact ⟨a1, a2, okC_one ρ hok⟩
          · cases hs
        · cases hs
      · cases hs
    · cases hs
  · rename_i s
    simp only [Rep] at hx
    subst hx
    split at hs
    · rename_i hU hsz
      have hsz := Nat.eq_of_beq_eq_true hsz
      simp only [Option.some.injEq, Prod.mk.injEq] at hs
      obtain ⟨rfl, rfl⟩ := hs
      subst hsz
      have e1 : flatR ρ [Ch.y s.data.toList] = s.data.toList.map byteV := by simp [flatR, Ch.cells]
      rw [e1]
      refine ⟨⟨.inr hU, fun w => rfl, fun w' _ => ?_, by simp⟩, ⟨trivial, trivial⟩, fun u hu => ?_⟩
      · have hx : s.extract 0 s.size = s := by
          apply ByteArray.ext
          simp
        simp only [Builtin.firstCells, Sem.run_pure, hx]
        congr 1
        apply Array.ext'
        simp [byteV, Function.comp_def]
      · simp only [List.mem_map] at hu
        obtain ⟨b, _, rfl⟩ := hu
        rfl
    · cases hs
  · cases hs

theorem wpIn_value {F : Fence} (hF : WideF F) {n : Nat} {o : Oper} {a : Act} {w w' : World} {x : Value} {K : Act → World → Prop} {Q : Exit → Act → World → Prop} (hd : ∀ c, o.op ≠ .defer c)
    (hrun : (execOp a.eval o).run P w = .ok (.value x) w') (hK : K (a.put o.dst x) w') : o.wpIn F n P a w K Q := by
  refine wpIn_iff hF hd ?_
  rw [hrun]
  exact hK

theorem app_wp {F : Fence} (hF : WideF F) (n : Nat) {w0 w : World} {ρ : Names} {h : Heap} {k : Nat} (hk : h.get k = none) {avs : List AV} {d : AppD} (a : Act) (o : Oper) (hd : appD P h avs o.op = some d) (hok : d.okP)
    (hr : Reps ρ avs (o.op.operands.toList.map a.eval)) (hbel : Below w0.heap.size w0 w) (hh : HRel w0.heap.size ρ h w) {K : Act → World → Prop} {Q : Exit → Act → World → Prop}
    (hK : ∀ ρ' x w', ρ.le ρ' → Rep ρ' (d.r k) x → Below w0.heap.size w0 w' → HRel w0.heap.size ρ' (setAll h (d.ups k)) w' → K (a.put o.dst x) w') : o.wpIn F n P a w K Q := by
  obtain ⟨args, argTypes, hop, rfl, rfl, hT, hie, hz, hzs, hb, hs⟩ := appD_spec hd
  obtain ⟨q1, q2, q3, q4⟩ := hok
  rw [hop] at hr
  simp only [Op.operands, Call.operands, Reps] at hr
  obtain ⟨ux, r1, e1, hx, uy, r2, rfl, hy, rfl⟩ := hr
  have hargs : args.toList.map a.eval = [ux, uy] := by simpa using e1
  obtain ⟨s1, s2, s3⟩ := src_ok (P := P) hh.toHAt hs hy
  have hrun : ∀ x w', (Builtin.append_ #[d.T, d.U] o.type #[ux, uy]).run P w = .ok x w' → (execOp a.eval o).run P w = .ok (.value x) w' := fun x w' hw => by
    have ha : args.map a.eval = #[ux, uy] := by apply Array.toList_inj.1; simpa using hargs
    simp only [execOp, hop, resolve, invoke, builtin, Sem.run_bind, Sem.run_pure, Result.andThen_ok, ha, hw]
  have hnd : ∀ c, o.op ≠ .defer c := fun c hc => by rw [hop] at hc; cases hc
  have hmul : (d.len + d.m) * d.ie.size = d.len * d.ie.size + d.m * d.ie.size := Nat.add_mul _ _ _
  unfold baseA at hb
  split at hb
  · -- nil
    rename_i l c hdx
    split at hb
    · rename_i hl hc
      have hl := Nat.eq_of_beq_eq_true hl
      have hc := Nat.eq_of_beq_eq_true hc
      subst hl; subst hc
      simp only [Option.some.injEq, Prod.mk.injEq] at hb
      obtain ⟨hb1, hb2⟩ := hb
      rw [hdx] at hx
      simp only [Rep] at hx
      subst hx
      rw [← hb1] at q4
      simp only at q4
      rw [← hb2, Nat.zero_add] at q2 q3
      have hr := run_app_nil (P := P) (w := w) (ty := o.type) hT hie hz s1 q4 q2 (by omega)
      refine wpIn_value hF hnd (hrun _ _ hr) ?_
      have hge := grownCap_ge w d.m 0 d.e
      have hsz0 : w.heap.size < (w.drew.alloc (.cells ((flatR ρ d.p).toArray ++ Builtin.zeroCells d.z.cells (grownCap w d.m 0 d.e - d.m)) d.e)).heap.size := by simp
      have hold : ∀ j, j < w.heap.size → (w.drew.alloc (.cells ((flatR ρ d.p).toArray ++ Builtin.zeroCells d.z.cells (grownCap w d.m 0 d.e - d.m)) d.e)).heap[j]? = w.heap[j]? := fun j hj => heap_alloc_old w.drew _ (by simpa using hj)
      have hdef := defC_mono (Names.le_nm (hh.none_ k hk) ⟨w.heap.size, 0, grownCap w d.m 0 d.e - d.m⟩) s2
      obtain ⟨f1, f2⟩ := hh.fresh hk (.gr d.p d.e d.ie.size) ⟨w.heap.size, 0, grownCap w d.m 0 d.e - d.m⟩ (Nat.le_of_lt hsz0) hold (Nat.le_refl _) hsz0
        ⟨rfl, hh.size, hdef.1, (Builtin.zeroCells d.z.cells (grownCap w d.m 0 d.e - d.m)).toList, (0, 0), ⟨by simp [size_zeroCells, hzs], .inl rfl⟩, by
          rw [hdef.2]
          have := heap_alloc_new w.drew (.cells ((flatR ρ d.p).toArray ++ Builtin.zeroCells d.z.cells (grownCap w d.m 0 d.e - d.m)) d.e)
          refine this.trans ?_
          congr 2
          apply Array.ext'
          simp⟩
      refine hK _ _ _ f2 ?_ ((hbel.drew).alloc (by simpa using hbel.size) _) ?_
      · simp only [AppD.r, Rep]
        refine ⟨_, Names.nm_eq _ _ _, ?_⟩
        rw [← hb2, Nat.zero_add]
        congr 1
        simp only
        omega
      · unfold AppD.ups
        rw [← hb1]
        exact f1
    · cases hb
  · -- a row
    rename_i id len hdx
    split at hb
    · rename_i cs t e' hblk
      split at hb
      · rename_i ht he'
        have ht := Nat.eq_of_beq_eq_true ht
        have he' := Nat.eq_of_beq_eq_true he'
        subst ht; subst he'
        simp only [Option.some.injEq, Prod.mk.injEq] at hb
        obtain ⟨hb1, hb2⟩ := hb
        rw [hdx] at hx
        simp only [Rep] at hx
        obtain ⟨v, hv, hvx⟩ := hx
        obtain ⟨v', g1, g2⟩ := hh.at_ id _ hblk
        rw [hv] at g1; simp only [Option.some.injEq] at g1; subst g1
        obtain ⟨j1, j2, j3, rest, fz, ⟨j4, j5⟩, j6⟩ := g2
        have hold : d.old = cs := by unfold AppD.old; rw [← hb1]
        rw [hold] at q1
        have hlc : (flatR ρ cs).length = len * d.ie.size := by rw [flatR_length, q1, ← hb2]
        rw [j1] at hvx
        subst hvx
        subst hb2
        by_cases hroom : d.m ≤ v.3
        · have hfit : d.len * d.ie.size + (flatR ρ d.p).length ≤ (flatR ρ cs ++ rest).toArray.size := by
            simp only [List.size_toArray, List.length_append, hlc, j4, s1.size]
            have := Nat.mul_le_mul_right d.ie.size hroom
            omega
          have hr := run_app_room (P := P) (w := w) (ty := o.type) hT hie s1 v.1 d.len (d.len + v.3) _ fz j6 (by simpa [hlc] using j5) s3 (by omega) hfit
          refine wpIn_value hF hnd (hrun _ _ hr) ?_
          have hdl := defC_mono (Names.le_nm (hh.none_ k hk) ⟨v.1, 0, v.3 - d.m⟩) ((defC_append ρ cs d.p).2 ⟨j3, s2⟩)
          have hlt0 := hh.lt _ _ hv
          obtain ⟨f1, f2⟩ := hh.move (w' := w.setRow v.1 ((flatR ρ cs ++ rest).toArray.toList.take (d.len * d.ie.size) ++ flatR ρ d.p ++ (flatR ρ cs ++ rest).toArray.toList.drop (d.len * d.ie.size + (flatR ρ d.p).length)).toArray) hv j2 hblk rfl hk (.gr (cs ++ d.p) d.e d.ie.size) ⟨v.1, 0, v.3 - d.m⟩ (by simp) (fun j _ hj => setRow_other w v.1 j _ hj) (.inl rfl) (by simpa using hlt0)
            ⟨rfl, j2, hdl.1, rest.drop (d.m * d.ie.size), fz, ⟨by
              rw [List.length_drop, j4, Nat.sub_mul], by
              rw [hdl.2, flatR_append, List.length_append, List.length_drop, s1.size]
              rcases j5 with j5 | j5
              · exact .inl j5
              · right
                have := Nat.mul_le_mul_right d.ie.size hroom
                omega⟩, by
              rw [hdl.2]
              refine (setRow_heap w v.1 _ _ d.e fz j6).trans ?_
              congr 2
              apply Array.ext'
              have e3 : (flatR ρ cs ++ rest).drop (d.len * d.ie.size + (flatR ρ d.p).length) = rest.drop (d.m * d.ie.size) := by
                rw [← hlc, ← List.drop_drop, List.drop_left, s1.size]
              have e4 : (flatR ρ cs ++ rest).take (d.len * d.ie.size) = flatR ρ cs := by rw [← hlc, List.take_left]
              simp only [flatR_append]
              rw [e3, e4]⟩
          refine hK _ _ _ f2 ?_ (below_setRow hbel j2 _) ?_
          · simp only [AppD.r, Rep]
            refine ⟨_, Names.nm_eq _ _ _, ?_⟩
            congr 1
            simp only
            omega
          · unfold AppD.ups
            rw [← hb1]
            exact f1
        · have hcl : ∀ j z, (flatR ρ cs)[j]? = some z → w.cell? ((⟨v.1, 0, none⟩ : Addr).add j) = some z := fun j z hj => by
            have hlt : j < (flatR ρ cs).length := (List.getElem?_eq_some_iff.1 hj).1
            rw [Addr.add_mid]
            simp only [World.cell?, j6, Nat.zero_add, List.getElem?_toArray]
            rw [List.getElem?_append_left hlt]
            exact hj
          have hr := run_app_grow (P := P) (w := w) (ty := o.type) hT hie hz s1 ⟨v.1, 0, none⟩ d.len (d.len + v.3) (flatR ρ cs) hlc hcl (by omega) q2 (growslice_fits (by omega) q3)
          refine wpIn_value hF hnd (hrun _ _ hr) ?_
          generalize hC : grownCap w (d.len + d.m) (d.len + v.3) d.e = C at *
          have hge : d.len + d.m ≤ C := by rw [← hC]; exact grownCap_ge w (d.len + d.m) (d.len + v.3) d.e
          have hsz0 : w.heap.size < (w.drew.alloc (.cells ((flatR ρ cs).toArray ++ (flatR ρ d.p).toArray ++ Builtin.zeroCells d.z.cells (C - (d.len + d.m))) d.e)).heap.size := by simp
          have holdh : ∀ j, j < w.heap.size → (w.drew.alloc (.cells ((flatR ρ cs).toArray ++ (flatR ρ d.p).toArray ++ Builtin.zeroCells d.z.cells (C - (d.len + d.m))) d.e)).heap[j]? = w.heap[j]? := fun j hj => heap_alloc_old w.drew _ (by simpa using hj)
          have hdl := defC_mono (Names.le_nm (hh.none_ k hk) ⟨w.heap.size, 0, C - (d.len + d.m)⟩) ((defC_append ρ cs d.p).2 ⟨j3, s2⟩)
          obtain ⟨f1, f2⟩ := hh.move hv j2 hblk rfl hk (.gr (cs ++ d.p) d.e d.ie.size) ⟨w.heap.size, 0, C - (d.len + d.m)⟩ (Nat.le_of_lt hsz0) (fun j hj _ => holdh j hj) (.inr (Nat.le_refl _)) hsz0
            ⟨rfl, hh.size, hdl.1, (Builtin.zeroCells d.z.cells (C - (d.len + d.m))).toList, (0, 0), ⟨by simp [size_zeroCells, hzs], .inl rfl⟩, by
              rw [hdl.2]
              have := heap_alloc_new w.drew (.cells ((flatR ρ cs).toArray ++ (flatR ρ d.p).toArray ++ Builtin.zeroCells d.z.cells (C - (d.len + d.m))) d.e)
              refine this.trans ?_
              congr 2
              apply Array.ext'
              simp [flatR_append]⟩
          refine hK _ _ _ f2 ?_ ((hbel.drew).alloc (by simpa using hbel.size) _) ?_
          · simp only [AppD.r, Rep]
            refine ⟨_, Names.nm_eq _ _ _, ?_⟩
            congr 1
            simp only
            omega
          · unfold AppD.ups
            rw [← hb1]
            exact f1
      · cases hb
    · cases hb
  · -- a slice without room
    rename_i id off len cap hdx
    split at hb
    · rename_i blk hlc hblk
      have hlc := Nat.eq_of_beq_eq_true hlc
      subst hlc
      split at hb
      · rename_i cs0 hcs0
        split at hb
        · rename_i cs hsub
          simp only [Option.some.injEq, Prod.mk.injEq] at hb
          obtain ⟨hb1, hb2⟩ := hb
          rw [hdx] at hx
          simp only [Rep] at hx
          obtain ⟨v, hv, hvx⟩ := hx
          subst hvx
          subst hb2
          obtain ⟨v', g1, g2⟩ := hh.at_ id _ hblk
          rw [hv] at g1; simp only [Option.some.injEq] at g1; subst g1
          obtain ⟨k1, k2⟩ := g2.cells hcs0
          obtain ⟨n1, n2, n3, n4⟩ := sub_spec ρ hsub
          rw [← hb1] at q4
          simp only at q4
          have hcl : ∀ j z, (flatR ρ cs)[j]? = some z → w.cell? ((⟨v.1, v.2 + off, none⟩ : Addr).add j) = some z := fun j z hj => by
            have hlt : j < (flatR ρ cs).length := (List.getElem?_eq_some_iff.1 hj).1
            rw [Addr.add_mid, Nat.add_assoc]
            refine k2 _ _ ?_
            rw [← n1] at hj
            simp only [List.getElem?_take, List.getElem?_drop] at hj
            rw [if_pos (by omega)] at hj
            exact hj
          have hr := run_app_grow (P := P) (w := w) (ty := o.type) hT hie hz s1 ⟨v.1, v.2 + off, none⟩ d.len d.len (flatR ρ cs) n2 hcl (by omega) q2 (growslice_fits (by omega) q3)
          refine wpIn_value hF hnd (hrun _ _ hr) ?_
          generalize hC : grownCap w (d.len + d.m) d.len d.e = C at *
          have hge : d.len + d.m ≤ C := by rw [← hC]; exact grownCap_ge w (d.len + d.m) d.len d.e
          have hsz0 : w.heap.size < (w.drew.alloc (.cells ((flatR ρ cs).toArray ++ (flatR ρ d.p).toArray ++ Builtin.zeroCells d.z.cells (C - (d.len + d.m))) d.e)).heap.size := by simp
          have holdh : ∀ j, j < w.heap.size → (w.drew.alloc (.cells ((flatR ρ cs).toArray ++ (flatR ρ d.p).toArray ++ Builtin.zeroCells d.z.cells (C - (d.len + d.m))) d.e)).heap[j]? = w.heap[j]? := fun j hj => heap_alloc_old w.drew _ (by simpa using hj)
          have hdl := defC_mono (Names.le_nm (hh.none_ k hk) ⟨w.heap.size, 0, C - (d.len + d.m)⟩) ((defC_append ρ cs d.p).2 ⟨n4 k1, s2⟩)
          obtain ⟨f1, f2⟩ := hh.fresh hk (.gr (cs ++ d.p) d.e d.ie.size) ⟨w.heap.size, 0, C - (d.len + d.m)⟩ (Nat.le_of_lt hsz0) holdh (Nat.le_refl _) hsz0
            ⟨rfl, hh.size, hdl.1, (Builtin.zeroCells d.z.cells (C - (d.len + d.m))).toList, (0, 0), ⟨by simp [size_zeroCells, hzs], .inl rfl⟩, by
              rw [hdl.2]
              have := heap_alloc_new w.drew (.cells ((flatR ρ cs).toArray ++ (flatR ρ d.p).toArray ++ Builtin.zeroCells d.z.cells (C - (d.len + d.m))) d.e)
              refine this.trans ?_
              congr 2
              apply Array.ext'
              simp [flatR_append]⟩
          refine hK _ _ _ f2 ?_ ((hbel.drew).alloc (by simpa using hbel.size) _) ?_
          · simp only [AppD.r, Rep]
            refine ⟨_, Names.nm_eq _ _ _, ?_⟩
            congr 1
            simp only
            omega
          · unfold AppD.ups
            rw [← hb1]
            exact f1
        · cases hb
      · cases hb
    · cases hb
  · cases hb

theorem app_fresh {h : Heap} {k : Nat} {avs : List AV} {op : Op} {d : AppD} (hd : appD P h avs op = some d) (hf : ∀ j, k ≤ j → h.get j = none) : ∀ j, k + 1 ≤ j → (setAll h (d.ups k)).get j = none := by
  obtain ⟨args, argTypes, hop, _, _, hT, hie, hz, hzs, hb, hs⟩ := appD_spec hd
  intro j hj
  unfold AppD.ups
  split
  · rename_i id cs hbase
    simp only [setAll]
    rw [Heap.put_ne _ (by omega)]
    have hne : j ≠ id := by
      intro e
      subst e
      have h0 := hf j (by omega)
      unfold baseA at hb
      split at hb
      · split at hb
        · rw [hbase] at hb; simp at hb
        · cases hb
      · split at hb
        · rename_i hblk
          split at hb
          · rw [hbase] at hb
            simp only [Option.some.injEq, Prod.mk.injEq, BK.gr.injEq] at hb
            obtain ⟨⟨rfl, _⟩, _⟩ := hb
            rw [h0] at hblk; cases hblk
          · cases hb
        · cases hb
      · split at hb
        · split at hb
          · split at hb
            · rw [hbase] at hb; simp at hb
            · cases hb
          · cases hb
        · cases hb
      · cases hb
    rw [Heap.put_ne _ hne]
    exact hf j (by omega)
  · simp only [setAll]
    rw [Heap.put_ne _ (by omega)]
    exact hf j (by omega)
  · simp only [setAll]
    rw [Heap.put_ne _ (by omega)]
    exact hf j (by omega)

/-- 'append': its condition is told. -/
def xApp (P : Program) : XRule P where
  fn ora k h avs op := (appD P h avs op).map fun d => (some d.okP, d.r k, d.ups k)
  fresh ora k h avs op c r ups he hf := by
    simp only [Option.map_eq_some_iff, Prod.mk.injEq] at he
    obtain ⟨d, hd, rfl, rfl, rfl⟩ := he
    exact app_fresh hd hf
  ok ora k h avs op c r ups he hc hf := by
    intro F hF n w0 ρ w a o ho hr hbel hh K Q hK
    simp only [Option.map_eq_some_iff, Prod.mk.injEq] at he
    obtain ⟨d, hd, rfl, rfl, rfl⟩ := he
    subst ho
    exact app_wp hF n (hf k (Nat.le_refl _)) a o hd hc hr hbel hh hK
/-- 'append' where all numbers are known. -/
def xAppB (P : Program) : XRule P where
  fn ora k h avs op := match appD P h avs op with | some d => (match d.okB with | true => some (none, d.r k, d.ups k) | false => none) | none => none
  fresh ora k h avs op c r ups he hf := by
    split at he
    · rename_i d hd
      split at he
      · simp only [Option.some.injEq, Prod.mk.injEq] at he
        obtain ⟨rfl, rfl, rfl⟩ := he
        exact app_fresh hd hf
      · cases he
    · cases he
  ok ora k h avs op c r ups he hc hf := by
    intro F hF n w0 ρ w a o ho hr hbel hh K Q hK
    split at he
    · rename_i d hd
      split at he
      · rename_i hb
        simp only [Option.some.injEq, Prod.mk.injEq] at he
        obtain ⟨rfl, rfl, rfl⟩ := he
        subst ho
        exact app_wp hF n (hf k (Nat.le_refl _)) a o hd (AppD.okB_ok hb) hr hbel hh hK
      · cases he
    · cases he
end Go.Ev
