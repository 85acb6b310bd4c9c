/- The evaluator's steps in the world: stores, copies, new blocks, regions that draw their order. -/
import Derived.Test.YtoahfmgdlpgjoaaEvf
import Derived.Laws.MakeOwn
set_option linter.unusedSimpArgs false
set_option linter.unusedVariables false
namespace Go.Ev
open Go.RowKit

variable {P : Program} {X : Rules P} {env : List Entry} {h0 : Heap} {ops : Array Oper} {os : Nat → Ora} {fr : Nat}

theorem updH_keeps {h h0 : Heap} {id : Nat} (hle : ∀ i b, h0.get i = some b → h.get i = some b) (hid : h.get id = none) (nb : Option Blk) : ∀ i b, h0.get i = some b → (updH h id nb).get i = some b := by
  intro i b hb
  have h1 := hle i b hb
  cases nb with
  | none => exact h1
  | some blk =>
    simp only [updH]
    rw [Heap.put_ne _ (fun e => by rw [e, hid] at h1; cases h1)]
    exact h1

theorem run_buildSlice_A (w : World) {T e : TypeId} {len : Nat} {parts : Array (Nat × Value)} {ie : TypeInfo} {z : Value} {cells : Array Value} (hT : P.underlying T = some (.slice e)) (hie : P.info? e = some ie) (hz : ie.zero = some z) (hle : len * ie.size ≤ 16777216)
    (hf : Instr.fill (fun i => some (i * ie.size, ie.size)) ((Array.range (len * ie.size)).map ((if len * ie.size = 0 then (#[] : Array Value) else z.cells)[· % (if len * ie.size = 0 then (#[] : Array Value) else z.cells).size]!)) parts.toList = some cells) :
    (Instr.buildSlice T len parts).run P w = .ok (.slice (some ⟨w.heap.size, 0, none⟩) len len) (w.alloc (.cells cells e)) := by
  have n1 : ¬ (len * ie.size > 2 ^ 24) := by omega
  unfold Instr.buildSlice
  simp only [Sem.run_bind, run_underlying hT, Result.andThen_ok, run_sizeOf' hie, n1, if_false, Sem.run_pure]
  by_cases h0 : len * ie.size = 0
  · rw [if_pos h0] at hf
    rw [if_pos h0]
    simp only [Sem.run_bind, Sem.run_pure, Result.andThen_ok]
    rw [hf]
    simp [newRow]
  · rw [if_neg h0] at hf
    rw [if_neg h0]
    have hzero : (zeroValue e).run P w = .ok z w := by simp [zeroValue, typeInfo, hie, hz]
    simp only [Sem.run_bind, Sem.run_pure, Result.andThen_ok, hzero]
    rw [hf]
    simp [newRow]

theorem stepQ_wp {F : Fence} (hF : WideF F) (n : Nat) {w0 w : World} {ρ : Names} {A : AA} {a : Act} (henv : EnvOK P env) (hR : Rel w0 ρ A a w) (hle : ∀ i b, h0.get i = some b → A.h.get i = some b) {o : Oper} {id : Nat} {ch : Ora} (hid : A.h.get id = none)
    {c : Option Prop} {r : AV} {nb : Option Blk} (hq : stepQ P X env h0 A.t id ch o.op = some (c, r, nb)) (hc : c.getD True) {K : Act → World → Prop} {Q : Exit → Act → World → Prop}
    (hK : ∀ ρ' a' w', ρ.le ρ' → Rel w0 ρ' (A.app o id r nb) a' w' → K a' w') : o.wpIn F n P a w K Q := by
  have fin : ∀ ρ' x w', ρ.le ρ' → Rep ρ' r x → Below w0.heap.size w0 w' → HRel w0.heap.size ρ' (updH A.h id nb) w' → K (a.put o.dst x) w' := by
    intro ρ' x w' hl hr hb hh
    exact hK ρ' _ w' hl ⟨(hR.slots.mono hl).put o.dst hr, by rw [put_defers]; exact hR.defers.mono hl, hb, hh⟩
  have new : ∀ (cs : List Ch) (T : TypeId), DefC ρ cs → r = .p id 0 → nb = some (.own cs T) → K (a.put o.dst (.pointer (some ⟨w.heap.size, 0, none⟩))) (w.alloc (.cells (flatR ρ cs).toArray T)) := by
    intro cs T hd hr hn
    subst hr; subst hn
    have hnone := hR.heap.none_ id hid
    obtain ⟨d1, d2⟩ := defC_mono (Names.le_new hnone w.heap.size) hd
    obtain ⟨h1, h2⟩ := hR.heap.new hid (.cells (flatR ρ cs).toArray T) (.own cs T) ⟨rfl, hR.heap.size, d1, by rw [d2]; show (w.heap.push _)[w.heap.size]? = _; simp⟩
    refine fin _ _ _ h2 ?_ (hR.below.alloc hR.below.size _) h1
    simp only [Rep]
    exact ⟨_, Names.new_eq _ _ _, rfl⟩
  have newS : ∀ (cs : List Ch) (T : TypeId) (m : Nat), DefC ρ cs → r = .sl id 0 m m → nb = some (.own cs T) → K (a.put o.dst (.slice (some ⟨w.heap.size, 0, none⟩) m m)) (w.alloc (.cells (flatR ρ cs).toArray T)) := by
    intro cs T m hd hr hn
    subst hr; subst hn
    have hnone := hR.heap.none_ id hid
    obtain ⟨d1, d2⟩ := defC_mono (Names.le_new hnone w.heap.size) hd
    obtain ⟨h1, h2⟩ := hR.heap.new hid (.cells (flatR ρ cs).toArray T) (.own cs T) ⟨rfl, hR.heap.size, d1, by rw [d2]; show (w.heap.push _)[w.heap.size]? = _; simp⟩
    refine fin _ _ _ h2 ?_ (hR.below.alloc hR.below.size _) h1
    simp only [Rep]
    exact ⟨_, Names.new_eq _ _ _, rfl⟩
  unfold stepQ at hq
  split at hq
  · rename_i T hop
    simp only [Option.map_eq_some_iff] at hq
    obtain ⟨cs, hcs, e⟩ := hq
    simp only [Prod.mk.injEq] at e
    obtain ⟨_, rfl, rfl⟩ := e
    unfold zeroA at hcs
    split at hcs
    · rename_i i hi
      simp only [Option.map_eq_some_iff] at hcs
      obtain ⟨z, hz, rfl⟩ := hcs
      obtain ⟨e1, e2⟩ := flatR_c ρ z.cells.toList
      have hk := new _ T e2 rfl rfl
      have hrun : (execOp a.eval o).run P w = .ok (.value (.pointer (some ⟨w.heap.size, 0, none⟩))) (w.alloc (.cells z.cells T)) := by
        simp [execOp, hop, Instr.alloc, zeroValue, typeInfo, hi, hz, newVar, newRow]
      refine wpIn_iff hF (fun c hc' => by rw [hop] at hc'; cases hc') ?_
      rw [hrun]
      rw [e1] at hk
      show K (a.put o.dst _) (w.alloc (.cells z.cells T))
      simpa using hk
    · cases hcs
  · rename_i T x hop
    simp only [Option.map_eq_some_iff] at hq
    obtain ⟨cs, hcs, e⟩ := hq
    simp only [Prod.mk.injEq] at e
    obtain ⟨_, rfl, rfl⟩ := e
    obtain ⟨hd, hx⟩ := boxA_spec hcs (rep_evA hR.slots x)
    have hk := new cs T hd rfl rfl
    have hrun : (execOp a.eval o).run P w = .ok (.value (.pointer (some ⟨w.heap.size, 0, none⟩))) (w.alloc (.cells (flatR ρ cs).toArray T)) := by
      simp [execOp, hop, Instr.box, newVar, newRow, hx]
    refine wpIn_iff hF (fun c hc' => by rw [hop] at hc'; cases hc') ?_
    rw [hrun]
    exact hk
  · rename_i T len ps hop
    simp only [Option.map_eq_some_iff] at hq
    obtain ⟨⟨cs, e⟩, hcs, eq⟩ := hq
    simp only [Prod.mk.injEq] at eq
    obtain ⟨_, rfl, rfl⟩ := eq
    unfold rowA at hcs
    split at hcs
    · rename_i e' hT
      split at hcs
      · rename_i ie hie
        split at hcs
        · rename_i z hle hz
          have hle := Nat.le_of_ble_eq_true hle
          simp only [Option.map_eq_some_iff, Prod.mk.injEq] at hcs
          obtain ⟨cs', hf, rfl, rfl⟩ := hcs
          have hzz : (if len * ie.size = 0 then ([] : List Value) else z.cells.toList) = (if len * ie.size = 0 then (#[] : Array Value) else z.cells).toList := by split <;> rfl
          rw [hzz] at hf
          obtain ⟨z1, z2⟩ := zerosA_flat ρ (if len * ie.size = 0 then (#[] : Array Value) else z.cells) (len * ie.size)
          have hm : (ps.toList.map fun (i, x) => (i, evA A.t x)).map (·.1) = (ps.map fun (i, x) => (i, a.eval x)).toList.map (·.1) := by simp
          have hv : Reps ρ ((ps.toList.map fun (i, x) => (i, evA A.t x)).map (·.2)) ((ps.map fun (i, x) => (i, a.eval x)).toList.map (·.2)) := by
            have h := slots_map hR.slots (ps.toList.map (·.2))
            simpa [List.map_map, Function.comp_def] using h
          obtain ⟨k1, k2⟩ := fillA_spec _ _ _ _ hf z2 _ hm hv
          rw [z1, Array.toArray_toList] at k1
          have hk := newS _ e' len k2 rfl rfl
          have hrun : (execOp a.eval o).run P w = .ok (.value (.slice (some ⟨w.heap.size, 0, none⟩) len len)) (w.alloc (.cells (flatR ρ cs').toArray e')) := by
            have hr := run_buildSlice_A (P := P) w hT hie hz (by omega) k1
            simp only [execOp, hop, Sem.run_bind, hr, Result.andThen_ok, Sem.run_pure]
          refine wpIn_iff hF (fun c hc' => by rw [hop] at hc'; cases hc') ?_
          rw [hrun]
          exact hk
        · cases hcs
      · cases hcs
    · cases hcs
  · rename_i T l c' hop
    split at hq
    · rename_i kl n kc m hru hl hcc
      simp only [Option.map_eq_some_iff] at hq
      obtain ⟨⟨cs, e⟩, hcs, eq⟩ := hq
      simp only [Prod.mk.injEq] at eq
      obtain ⟨_, rfl, rfl⟩ := eq
      unfold makeA at hcs
      split at hcs
      · rename_i e' hT
        split at hcs
        · rename_i ie hie
          split at hcs
          · rename_i z hz
            split at hcs
            · rename_i hcond
              obtain ⟨rfl, h0, hb, h63⟩ := hcond
              simp only [Option.some.injEq, Prod.mk.injEq] at hcs
              obtain ⟨rfl, rfl⟩ := hcs
              obtain ⟨z1, z2⟩ := zerosA_flat ρ z.cells (n.toNat * ie.size)
              have el := rep_evA hR.slots l
              rw [hl] at el
              have ec := rep_evA hR.slots c'
              rw [hcc] at ec
              simp only [Rep] at el ec
              have hk := newS _ e' n.toNat z2 rfl rfl
              have hr := run_make (P := P) w T e' ie z hT hie hz kl kc n n h0 (Int.le_refl _) hb h63
              rw [z1, Array.toArray_toList] at hk
              have hrun : (execOp a.eval o).run P w = .ok (.value (.slice (some ⟨w.heap.size, 0, none⟩) n.toNat n.toNat)) (w.alloc (.cells (madeCells z.cells (n.toNat * ie.size)) e')) := by
                simp [execOp, hop, el, ec, hr]
              refine wpIn_iff hF (fun c hc' => by rw [hop] at hc'; cases hc') ?_
              rw [hrun]
              exact hk
            · cases hcs
          · cases hcs
        · cases hcs
      · cases hcs
    · cases hq
  · cases hq
  · split at hq
    · rename_i alts ha
      split at hq
      · rename_i c' r' hk
        simp only [Option.some.injEq, Prod.mk.injEq] at hq
        obtain ⟨rfl, rfl, rfl⟩ := hq
        refine alt_wp hF n henv hR.slots (hR.heap.sub hle) o ha hk hc fun x w' hx hb => ?_
        exact fin ρ x w' ρ.le_refl hx (below_step hR.below hb) (hR.heap.below hb)
      · cases hq
    · cases hq

/-- A block of the call's own is written: what becomes of the state. -/
theorem row_rel {w0 : World} {ρ : Names} {A : AA} {a : Act} {w : World} (hR : Rel w0 ρ A a w) {id : Nat} {bs : List Ch} {t : TypeId} {v : NM} (hv : ρ id = some v) (hblk : A.h.get id = some (.own bs t)) {cs' : List Ch} (hd : DefC ρ cs')
    {d : Option Tmp} {r : AV} {x : Value} (hr : Rep ρ r x) : Rel w0 ρ ⟨putA A.t d r, A.h.put id (.own cs' t), A.d⟩ (a.put d x) (w.setRow v.1 (flatR ρ cs').toArray) := by
  obtain ⟨v', g1, g2⟩ := hR.heap.at_ id _ hblk
  rw [hv] at g1; simp only [Option.some.injEq] at g1; subst g1
  obtain ⟨k1, k2, k3, k4⟩ := g2
  refine ⟨hR.slots.put d hr, by rw [put_defers]; exact hR.defers, below_setRow hR.below k2 _, ?_⟩
  exact hR.heap.turn hv k2 hblk rfl _ (by simp) (fun k hk => setRow_other w v.1 k _ hk) ⟨k1, k2, hd, setRow_heap w v.1 _ _ t (0, 0) k4⟩

/-- A store into a block of the call's own. -/
theorem store_wp {F : Fence} (hF : WideF F) (n : Nat) {w0 : World} {ρ : Names} {A : AA} {a : Act} {w : World} (hR : Rel w0 ρ A a w) {o : Oper} {T : TypeId} {x y : Operand} (ho : o.op = .store T x y) {h' : Heap} (hs : storeA P A T x y = some h')
    {K : Act → World → Prop} {Q : Exit → Act → World → Prop} (hK : ∀ a' w', Rel w0 ρ ⟨putA A.t o.dst (.tp []), h', A.d⟩ a' w' → K a' w') : o.wpIn F n P a w K Q := by
  obtain ⟨id, off, cs, i, bs, t, cs', hx, hy, hi, h4, h5, hblk, hcs, rfl⟩ := storeA_spec hs
  have ex := rep_evA hR.slots x
  rw [hx] at ex
  simp only [Rep] at ex
  obtain ⟨v, h1, h2⟩ := ex
  obtain ⟨hd, ey⟩ := boxA_spec hy (rep_evA hR.slots y)
  obtain ⟨v', g1, g2⟩ := hR.heap.at_ id _ hblk
  rw [h1] at g1; simp only [Option.some.injEq] at g1; subst g1
  obtain ⟨j1, j2, j3, j4⟩ := g2
  obtain ⟨k1, k2, k3⟩ := splice_spec ρ hcs
  have hst := run_storeCells_at (P := P) v.1 off t (flatR ρ cs) 0 (flatR ρ bs).toArray w j4 (by simpa using k2) (okC_one ρ h5)
  have hrun : (execOp a.eval o).run P w = .ok .skip (w.setRow v.1 (flatR ρ cs').toArray) := by
    have hsz : (flatR ρ cs).length = i.size := by rw [flatR_length]; exact h4
    simp only [Nat.add_zero] at hst
    rw [← k1] at hst
    simp [execOp, ho, h2, j1, Instr.storeAt, Instr.sureAddr, storeVar, hsz, run_sizeOf' hi, ey, hst]
  refine wpIn_iff hF (fun c hc' => by rw [ho] at hc'; cases hc') ?_
  rw [hrun]
  exact hK (a.put o.dst undef) _ (row_rel hR h1 hblk (k3 j3 hd) (rep_undef.2 rfl))

/-- A copy from one block into another, by slices of cells. -/
def copyA (P : Program) (t : Sl) (h : Heap) (args : Array Operand) (argTypes : Array TypeId) : Option (AV × Heap) :=
  match args.toList, argTypes.toList with
  | [x, y], [T, U] =>
    match evA t x, evA t y, P.underlying T with
    | .sl id off l _, .sl id' off' l' _, some (.slice e) =>
      match P.info? e, h.get id, h.get id' with
      | some i, some (.own bs ty), some blk' =>
        match Nat.beq i.size 1, blk'.cells? with
        | true, some cs0 =>
          match sub cs0 off' (Nat.min l' l) with
          | some cs => match okC cs with | true => (spliceB bs off cs).map fun r => (.v (.int .i64 (Nat.min l' l : Nat)), h.put id (.own r ty)) | false => none
          | none => none
        | _, _ => none
      | _, _, _ => none
    | _, _, _ => none
  | _, _ => none

theorem copyA_spec {t : Sl} {h : Heap} {args : Array Operand} {argTypes : Array TypeId} {r : AV} {h' : Heap} (hs : copyA P t h args argTypes = some (r, h')) :
    ∃ x y T U id off l c id' off' l' c' e i bs ty blk' cs0 cs r', args = #[x, y] ∧ argTypes = #[T, U] ∧ evA t x = .sl id off l c ∧ evA t y = .sl id' off' l' c' ∧ P.underlying T = some (.slice e) ∧ P.info? e = some i ∧ i.size = 1 ∧
      h.get id = some (.own bs ty) ∧ h.get id' = some blk' ∧ blk'.cells? = some cs0 ∧ sub cs0 off' (Nat.min l' l) = some cs ∧ okC cs = true ∧ spliceB bs off cs = some r' ∧ r = .v (.int .i64 (Nat.min l' l : Nat)) ∧ h' = h.put id (.own r' ty) := by
  unfold copyA at hs
  split at hs
  · rename_i x y T U hx hT
    have hx' : args = #[x, y] := by apply Array.toList_inj.1; simpa using hx
    have hT' : argTypes = #[T, U] := by apply Array.toList_inj.1; simpa using hT
    split at hs
    · rename_i id off l c id' off' l' c' e h1 h2 h3
      split at hs
      · rename_i i bs ty blk' h4 h5 h6
        split at hs
        · rename_i cs0 h7 h8
          split at hs
          · rename_i cs h9
            split at hs
            · rename_i h10
              simp only [Option.map_eq_some_iff, Prod.mk.injEq] at hs
              obtain ⟨r', h11, h12, h13⟩ := hs
              exact ⟨x, y, T, U, id, off, l, c, id', off', l', c', e, i, bs, ty, blk', cs0, cs, r', hx', hT', h1, h2, h3, h4, Nat.eq_of_beq_eq_true h7, h5, h6, h8, h9, h10, h11, h12.symm, h13.symm⟩
            · cases hs
          · cases hs
        · cases hs
      · cases hs
    · cases hs
  · cases hs

theorem copy_wp {F : Fence} (hF : WideF F) (n : Nat) {w0 : World} {ρ : Names} {A : AA} {a : Act} {w : World} (hR : Rel w0 ρ A a w) {o : Oper} {args : Array Operand} {argTypes : Array TypeId} (ho : o.op = .call { callee := .builtin .copy, args := args, argTypes := argTypes }) {r : AV} {h' : Heap} (hs : copyA P A.t A.h args argTypes = some (r, h'))
    {K : Act → World → Prop} {Q : Exit → Act → World → Prop} (hK : ∀ a' w', Rel w0 ρ ⟨putA A.t o.dst r, h', A.d⟩ a' w' → K a' w') : o.wpIn F n P a w K Q := by
  obtain ⟨x, y, T, U, id, off, l, c, id', off', l', c', e, i, bs, ty, blk', cs0, cs, r', rfl, rfl, hx, hy, hu, hi, hsz, hblk, hblk', hc0, hsub, hok, hcs, rfl, rfl⟩ := copyA_spec hs
  have ex := rep_evA hR.slots x
  rw [hx] at ex
  simp only [Rep] at ex
  obtain ⟨v, h1, h2⟩ := ex
  have ey := rep_evA hR.slots y
  rw [hy] at ey
  simp only [Rep] at ey
  obtain ⟨u, k1, k2⟩ := ey
  obtain ⟨v', g1, g2⟩ := hR.heap.at_ id _ hblk
  rw [h1] at g1; simp only [Option.some.injEq] at g1; subst g1
  obtain ⟨j1, j2, j3, j4⟩ := g2
  obtain ⟨u', f1, f2⟩ := hR.heap.at_ id' _ hblk'
  rw [k1] at f1; simp only [Option.some.injEq] at f1; subst f1
  obtain ⟨f3, f4⟩ := f2.cells hc0
  obtain ⟨m1, m2, m3⟩ := splice_spec ρ hcs
  obtain ⟨n1, n2, n3, n4⟩ := sub_spec ρ hsub
  have hcp := run_copy_row (P := P) w T U o.type e v.1 off l c ⟨u.1, u.2 + off', none⟩ l' c' (flatR ρ bs).toArray ty (flatR ρ cs) hu (by rw [hi]; simp [hsz]) j4 n2
    (fun j z hj => by
      have hlt : j < (flatR ρ cs).length := (List.getElem?_eq_some_iff.1 hj).1
      have : (flatR ρ cs0)[off' + j]? = some z := by
        rw [← n1] at hj
        simp only [List.getElem?_take, List.getElem?_drop] at hj
        rw [if_pos (by omega)] at hj
        exact hj
      rw [Addr.add_mid, Nat.add_assoc]
      exact f4 _ _ this) (by simpa using m2) (okC_one ρ hok)
  have hrun : (execOp a.eval o).run P w = .ok (.value (.int .i64 (Nat.min l' l : Nat))) (w.setRow v.1 (flatR ρ r').toArray) := by
    simp only [n2] at hcp m1 m2
    rw [← m1] at hcp
    simp only [goInt] at hcp
    simp [execOp, resolve, invoke, builtin, ho, h2, k2, j1, hcp]
  refine wpIn_iff hF (fun c hc' => by rw [ho] at hc'; cases hc') ?_
  rw [hrun]
  exact hK (a.put o.dst _) _ (row_rel hR h1 hblk (m3 j3 (n4 f3)) rfl)

theorem copyA_fresh {t : Sl} {h : Heap} {args : Array Operand} {argTypes : Array TypeId} {r : AV} {h' : Heap} (hs : copyA P t h args argTypes = some (r, h')) {j : Nat} (hj0 : h.get j = none) : h'.get j = none := by
  obtain ⟨x, y, T, U, id, off, l, c, id', off', l', c', e, i, bs, ty, blk', cs0, cs, r', rfl, rfl, hx, hy, hu, hi, hsz, hblk, hblk', hc0, hsub, hok, hcs, rfl, rfl⟩ := copyA_spec hs
  rw [Heap.put_ne _ (fun e => by rw [e, hblk] at hj0; cases hj0)]
  exact hj0

theorem q_wpOp {F : Fence} (hF : WideF F) (n : Nat) {w0 w : World} {ρ : Names} {A A' : AA} {a : Act} (henv : EnvOK P env) (hR : Rel w0 ρ A a w) {i : Nat} {o : Oper} (ho : ops[i]? = some o)
    (hle : heapless o.op = true ∨ isSt o = true ∨ (∀ i b, h0.get i = some b → A.h.get i = some b)) (hid : A.h.get (fr + i) = none)
    (hq : qOpA P X env h0 ops os fr i o A A') {K : Act → World → Prop} {Q : Exit → Act → World → Prop} (hK : ∀ ρ' a' w', ρ.le ρ' → Rel w0 ρ' A' a' w' → K a' w') : wpOpIn F n P ops Q i K a w := by
  unfold wpOpIn
  simp only [ho]
  rcases hq with ⟨r, nb, ⟨hw, c, hs, hc⟩ | ⟨hw, rfl, rfl⟩, rfl⟩ | ⟨hw, T, x, y, h', hop, hst, rfl⟩
  · rw [wantedA_eq hR.slots hw]
    simp only [if_true]
    rcases hle with hh | hh | hh
    · rw [stepQ_heapless hh h0 A.h] at hs
      exact stepQ_wp hF n henv hR (fun _ _ h => h) hid hs hc hK
    · exfalso
      unfold isSt at hh
      split at hh
      · rename_i T x y hop
        rw [hop] at hs
        simp [stepQ] at hs
      · cases hh
    · exact stepQ_wp hF n henv hR hh hid hs hc hK
  · rw [wantedA_eq hR.slots hw]
    simp only [Bool.false_eq_true, if_false]
    exact ⟨about_wide hF, hK ρ _ w ρ.le_refl ⟨hR.slots.put o.dst (rep_undef.2 rfl), by rw [put_defers]; exact hR.defers, hR.below, hR.heap⟩⟩
  · rw [wantedA_eq hR.slots hw]
    simp only [if_true]
    exact store_wp hF n hR hop hst fun a' w' hR' => hK ρ a' w' ρ.le_refl hR'
theorem wpAny_of_A {md : Region.Mode} {n : Nat} {F : Fence} (hF : WideF F) (m : Nat) {w0 : World} {ρb : Names} (henv : EnvOK P env) (hmo : memOK md ops = true) {L : Array Bool → AA → Prop} {g : Nat} {Q : Exit → Act → World → Prop} :
    ∀ (f : Nat) (listed : Array Bool) (A : AA), wpAnyA P X env h0 md ops os fr n L f listed A →
      ((∀ s os', ops[s]? = some os' → isSt os' = true → listed.getD s false = false) → ∀ i b, h0.get i = some b → A.h.get i = some b) →
      (∀ j oj, ops[j]? = some oj → listed.getD j false = true → ∀ e ∈ oj.after, Region.binds md e = true → listed.getD e.on false = true) →
      (∀ j, listed.getD j true = false → A.h.get (fr + j) = none) →
      (∀ j, ops.size ≤ j → A.h.get (fr + j) = none) → listed.size = ops.size →
      (∀ listed' A' ρ' a' w', L listed' A' → (∀ j, ops.size ≤ j → A'.h.get (fr + j) = none) → (∀ j, listed'.getD j true = false → A'.h.get (fr + j) = none) → ρb.le ρ' → Rel w0 ρ' A' a' w' → wpAnyIn F m P md ops Q g listed' a' w') →
      ∀ ρ a w, ρb.le ρ → Rel w0 ρ A a w → wpAnyIn F m P md ops Q (f + g) listed a w
  | 0, listed, A, h, hle, hcl, hfree, hbig, hsz, hL, ρ, a, w, hb, hR => by rw [Nat.zero_add]; exact hL _ _ _ _ _ h hbig hfree hb hR
  | f + 1, listed, A, h, hle, hcl, hfree, hbig, hsz, hL, ρ, a, w, hb, hR => by
    rw [show f + 1 + g = (f + g) + 1 by omega]
    refine ⟨fun h0 => absurd h0 h.1, fun i hi => ?_⟩
    obtain ⟨hin, o, A', ho, hq, hrest⟩ := h.2 i hi
    obtain ⟨hun, o', ho', hall⟩ := mem_ready.1 hi
    have : o' = o := Option.some.inj (ho'.symm.trans ho)
    subst this
    have hid := hfree i hun
    have hlt : i < listed.size := by rw [hsz]; exact (Array.getElem?_eq_some_iff.1 ho).1
    have hmemle : heapless o'.op = true ∨ isSt o' = true ∨ (∀ i b, h0.get i = some b → A.h.get i = some b) := by
      by_cases hh : heapless o'.op = true
      · exact .inl hh
      · by_cases hs : isSt o' = true
        · exact .inr (.inl hs)
        · refine .inr (.inr (hle fun s os' hos hst => ?_))
          cases hls : listed.getD s false with
          | false => rfl
          | true =>
            exfalso
            have hne : i ≠ s := fun e => by subst e; rw [getD_both hun] at hls; cases hls
            rcases memOK_spec hmo hos ho hne hst with h | h | h
            · exact hh h
            · have := anc_listed hcl 6 s i h (fun ok hk e he hb => by
                have : ok = os' := Option.some.inj (hk.symm.trans hos)
                subst this
                exact hcl s ok hos hls e he hb)
              rw [getD_both hun] at this
              cases this
            · exact hs h.1
    refine q_wpOp hF m henv hR ho hmemle hid hq fun ρ' a' w' hl hR' => ?_
    refine wpAny_of_A hF m henv hmo f _ _ hrest (fun hns => ?_) (fun j oj hj hlj e he hbn => ?_) (qOpA_free hlt hq hfree) (fun j hj => ?_) (by simpa using hsz) hL ρ' a' w' (Names.le_trans hb hl) hR'
    · -- no store yet
      have hle' := hle fun s os' hos hst => by
        have := hns s os' hos hst
        by_cases hsi : i = s
        · subst hsi; simp [hlt] at this
        · rw [getD_set_ne false hsi] at this; exact this
      have hnst : isSt o' = false := by
        cases hs : isSt o' with
        | false => rfl
        | true =>
          have := hns i o' ho hs
          simp [hlt] at this
      rcases hq with ⟨r, nb, _, rfl⟩ | ⟨_, T, x, y, h', hop, hst, rfl⟩
      · exact updH_keeps hle' hid nb
      · rw [show isSt o' = true by simp [isSt, hop]] at hnst; cases hnst
    · by_cases hij : i = j
      · subst hij
        have : oj = o' := Option.some.inj (hj.symm.trans ho)
        subst this
        exact getD_set_true (hall e he hbn)
      · rw [getD_set_ne false hij] at hlj
        exact getD_set_true (hcl j oj hj hlj e he hbn)
    · have hn := hbig j hj
      have hlt' : i < ops.size := (Array.getElem?_eq_some_iff.1 ho).1
      rcases hq with ⟨r, nb, _, rfl⟩ | ⟨_, T, x, y, h', _, hst, rfl⟩
      · cases nb with
        | none => exact hn
        | some blk =>
          show (A.h.put (fr + i) blk).get (fr + j) = none
          rw [Heap.put_ne _ (by omega)]
          exact hn
      · exact storeA_fresh hst hn
end Go.Ev
