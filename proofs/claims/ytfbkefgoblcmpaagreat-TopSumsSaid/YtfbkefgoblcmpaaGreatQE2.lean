/- Pruned: E2. -/
import Derived.Test.YtfbkefgoblcmpaaGreatQE1
import Derived.Laws.MakeOwn
import Derived.Shelf.Abstract
set_option linter.unusedSimpArgs false
set_option linter.unusedVariables false
namespace Go.Ev
abbrev LO0 := List (Nat × Ora)
abbrev vi0 (z : Int) : AV := .v (.int .i64 z)
abbrev ci0 (z : Int) : Ch := .c (.int .i64 z)
open Go.RowKit
variable {P : Program} {X : Rules P} {env : List Entry} {h0 : Heap} {ops : Array Oper} {os : Nat -> Ora} {fr : Nat}
theorem H3 {h h0 : Heap} {id : Nat} (hle : ∀ i b, h0.get i = some b -> h.get i = some b) (hid : h.get id = none) (nb : Option Blk) : ∀ i b, h0.get i = some b -> (updH h id nb).get i = some b := by
 intro i b hb
 have h1 := hle i b hb
 cases nb with
 | none => exact h1
 | some blk =>
  simp only [updH]
  rw [Heap.put_ne _ (fun e => by rw [e, hid] at h1; cases h1)]
  exact h1
theorem Af (w : World) {T e : TypeId} {len : Nat} {parts : Array (Nat × Value)} {ie : TypeInfo} {z : Value} {cells : Array Value} (hT : P.underlying T = some (.slice e)) (hie : P.info? e = some ie) (hz : ie.zero = some z) (hle : len * ie.size <= 16777216)
  (hf : Instr.fill (fun i => some (i * ie.size, ie.size)) ((Array.range (len * ie.size)).map ((if len * ie.size = 0 then (#[] : Array Value) else z.cells)[· % (if len * ie.size = 0 then (#[] : Array Value) else z.cells).size]!)) parts.toList = some cells) :
  (Instr.buildSlice T len parts).run P w = .ok (.slice (some ⟨w.heap.size, 0, none⟩) len len) (w.alloc (.cells cells e)) := by
 have n1 : ¬ (len * ie.size > 2 ^ 24) := by omega
 unfold Instr.buildSlice
 simp only [Sem.run_bind, run_underlying hT, Result.andThen_ok, qz hie, n1, if_false, Sem.run_pure]
 by_cases h0 : len * ie.size = 0
 ·rw [if_pos h0] at hf
  rw [if_pos h0]
  simp only [Sem.run_bind, Sem.run_pure, Result.andThen_ok]
  rw [hf]
  simp [newRow]
 ·rw [if_neg h0] at hf
  rw [if_neg h0]
  have hzero : (zeroValue e).run P w = .ok z w := by simp [zeroValue, typeInfo, hie, hz]
  simp only [Sem.run_bind, Sem.run_pure, Result.andThen_ok, hzero]
  rw [hf]
  simp [newRow]
theorem Cw {F : Fence} (hF : rT F) (n : Nat) {w0 w : World} {ρ : Names} {A : AA} {a : Act} (henv : sW P env) (hR : Rel w0 ρ A a w) (hle : ∀ i b, h0.get i = some b -> A.h.get i = some b) {o : Oper} {id : Nat} {ch : Ora} (hid : A.h.get id = none)
  {c : Option Prop} {r : AV} {nb : Option Blk} (hq : stepQ P X env h0 A.t id ch o.op = some (c, r, nb)) (hc : c.getD True) {K : Act -> World -> Prop} {Q : Exit -> Act -> World -> Prop}
  (hK : ∀ ρ' a' w', ρ.le ρ' -> Rel w0 ρ' (A.app o id r nb) a' w' -> K a' w') : o.wpIn F n P a w K Q := by
 have fin : ∀ ρ' x w', ρ.le ρ' -> Rep ρ' r x -> Below w0.heap.size w0 w' -> HRel w0.heap.size ρ' (updH A.h id nb) w' -> K (a.put o.dst x) w' := by
  intro ρ' x w' hl hr hb hh
  exact hK ρ' _ w' hl ⟨(hR.slots.mono hl).put o.dst hr, by rw [sL]; exact hR.defers.mono hl, hb, hh⟩
 have new : ∀ (cs : List Ch) (T : TypeId), DefC ρ cs -> r = .p id 0 -> nb = some (.own cs T) -> K (a.put o.dst (.pointer (some ⟨w.heap.size, 0, none⟩))) (w.alloc (.cells (flatR ρ cs).toArray T)) := by
  intro cs T hd hr hn
  subst hr; subst hn
  have hnone := hR.heap.none_ id hid
  obtain ⟨d1, d2⟩ := rE (Names.le_new hnone w.heap.size) hd
  obtain ⟨h1, h2⟩ := hR.heap.new hid (.cells (flatR ρ cs).toArray T) (.own cs T) ⟨rfl, hR.heap.size, d1, by rw [d2]; show (w.heap.push _)[w.heap.size]? = _; simp⟩
  refine fin _ _ _ h2 ?_ (hR.below.alloc hR.below.size _) h1
  simp only [Rep]
  exact ⟨_, Names.new_eq _ _ _, rfl⟩
 have newS : ∀ (cs : List Ch) (T : TypeId) (m : Nat), DefC ρ cs -> r = .sl id 0 m m -> nb = some (.own cs T) -> K (a.put o.dst (.slice (some ⟨w.heap.size, 0, none⟩) m m)) (w.alloc (.cells (flatR ρ cs).toArray T)) := by
  intro cs T m hd hr hn
  subst hr; subst hn
  have hnone := hR.heap.none_ id hid
  obtain ⟨d1, d2⟩ := rE (Names.le_new hnone w.heap.size) hd
  obtain ⟨h1, h2⟩ := hR.heap.new hid (.cells (flatR ρ cs).toArray T) (.own cs T) ⟨rfl, hR.heap.size, d1, by rw [d2]; show (w.heap.push _)[w.heap.size]? = _; simp⟩
  refine fin _ _ _ h2 ?_ (hR.below.alloc hR.below.size _) h1
  simp only [Rep]
  exact ⟨_, Names.new_eq _ _ _, rfl⟩
 unfold stepQ at hq
 split at hq
 ·rename_i T hop
  simp only [Option.map_eq_some_iff] at hq
  obtain ⟨cs, hcs, e⟩ := hq
  simp only [pi0] at e
  obtain ⟨_, rfl, rfl⟩ := e
  unfold Su at hcs
  split at hcs
  ·rename_i i hi
   simp only [Option.map_eq_some_iff] at hcs
   obtain ⟨z, hz, rfl⟩ := hcs
   obtain ⟨e1, e2⟩ := vB ρ z.cells.toList
   have hk := new _ T e2 rfl rfl
   have hrun : (execOp a.eval o).run P w = .ok (.value (.pointer (some ⟨w.heap.size, 0, none⟩))) (w.alloc (.cells z.cells T)) := by
    simp [execOp, hop, Instr.alloc, zeroValue, typeInfo, hi, hz, newVar, newRow]
   refine qO hF (fun c hc' => by rw [hop] at hc'; cases hc') ?_
   rw [hrun]
   rw [e1] at hk
   show K (a.put o.dst _) (w.alloc (.cells z.cells T))
   simpa using hk
  ·cases hcs
 ·rename_i T x hop
  simp only [Option.map_eq_some_iff] at hq
  obtain ⟨cs, hcs, e⟩ := hq
  simp only [pi0] at e
  obtain ⟨_, rfl, rfl⟩ := e
  obtain ⟨hd, hx⟩ := wr hcs (qt hR.slots x)
  have hk := new cs T hd rfl rfl
  have hrun : (execOp a.eval o).run P w = .ok (.value (.pointer (some ⟨w.heap.size, 0, none⟩))) (w.alloc (.cells (flatR ρ cs).toArray T)) := by
   simp [execOp, hop, Instr.box, newVar, newRow, hx]
  refine qO hF (fun c hc' => by rw [hop] at hc'; cases hc') ?_
  rw [hrun]
  exact hk
 ·rename_i T len ps hop
  simp only [Option.map_eq_some_iff] at hq
  obtain ⟨⟨cs, e⟩, hcs, eq⟩ := hq
  simp only [pi0] at eq
  obtain ⟨_, rfl, rfl⟩ := eq
  unfold W2 at hcs
  split at hcs
  ·rename_i e' hT
   split at hcs
   ·rename_i ie hie
    split at hcs
    ·rename_i z hle hz
     have hle := Nat.le_of_ble_eq_true hle
     simp only [Option.map_eq_some_iff, pi0] at hcs
     obtain ⟨cs', hf, rfl, rfl⟩ := hcs
     have hzz : (if len * ie.size = 0 then ([] : List Value) else z.cells.toList) = (if len * ie.size = 0 then (#[] : Array Value) else z.cells).toList := by split <;> rfl
     rw [hzz] at hf
     obtain ⟨z1, z2⟩ := x8 ρ (if len * ie.size = 0 then (#[] : Array Value) else z.cells) (len * ie.size)
     have hm : (ps.toList.map fun (i, x) => (i, evA A.t x)).map (·.1) = (ps.map fun (i, x) => (i, a.eval x)).toList.map (·.1) := by simp
     have hv : Reps ρ ((ps.toList.map fun (i, x) => (i, evA A.t x)).map (·.2)) ((ps.map fun (i, x) => (i, a.eval x)).toList.map (·.2)) := by
      have h := rm hR.slots (ps.toList.map (·.2))
      simpa [List.map_map, Function.comp_def] using h
     obtain ⟨k1, k2⟩ := wQ _ _ _ _ hf z2 _ hm hv
     rw [z1, Array.toArray_toList] at k1
     have hk := newS _ e' len k2 rfl rfl
     have hrun : (execOp a.eval o).run P w = .ok (.value (.slice (some ⟨w.heap.size, 0, none⟩) len len)) (w.alloc (.cells (flatR ρ cs').toArray e')) := by
      have hr := Af (P := P) w hT hie hz (by omega) k1
      simp only [execOp, hop, Sem.run_bind, hr, Result.andThen_ok, Sem.run_pure]
     refine qO hF (fun c hc' => by rw [hop] at hc'; cases hc') ?_
     rw [hrun]
     exact hk
    ·cases hcs
   ·cases hcs
  ·cases hcs
 ·rename_i T l c' hop
  split at hq
  ·rename_i kl n kc m hru hl hcc
   simp only [Option.map_eq_some_iff] at hq
   obtain ⟨⟨cs, e⟩, hcs, eq⟩ := hq
   simp only [pi0] at eq
   obtain ⟨_, rfl, rfl⟩ := eq
   unfold Sg at hcs
   split at hcs
   ·rename_i e' hT
    split at hcs
    ·rename_i ie hie
     split at hcs
     ·rename_i z hz
      split at hcs
      ·rename_i hcond
       obtain ⟨rfl, h0, hb, h63⟩ := hcond
       simp only [oi0, pi0] at hcs
       obtain ⟨rfl, rfl⟩ := hcs
       obtain ⟨z1, z2⟩ := x8 ρ z.cells (n.toNat * ie.size)
       have el := qt hR.slots l
       rw [hl] at el
       have ec := qt hR.slots c'
       rw [hcc] at ec
       simp only [Rep] at el ec
       have hk := newS _ e' n.toNat z2 rfl rfl
       have hr := run_make (P := P) w T e' ie z hT hie hz kl kc n n h0 (Int.le_refl _) hb h63
       rw [z1, Array.toArray_toList] at hk
       have hrun : (execOp a.eval o).run P w = .ok (.value (.slice (some ⟨w.heap.size, 0, none⟩) n.toNat n.toNat)) (w.alloc (.cells (madeCells z.cells (n.toNat * ie.size)) e')) := by
        simp [execOp, hop, el, ec, hr]
       refine qO hF (fun c hc' => by rw [hop] at hc'; cases hc') ?_
       rw [hrun]
       exact hk
      ·cases hcs
     ·cases hcs
    ·cases hcs
   ·cases hcs
  ·cases hq
 ·cases hq
 ·split at hq
  ·rename_i alts ha
   split at hq
   ·rename_i c' r' hk
    simp only [oi0, pi0] at hq
    obtain ⟨rfl, rfl, rfl⟩ := hq
    refine Tk hF n henv hR.slots (hR.heap.sub hle) o ha hk hc fun x w' hx hb => ?_
    exact fin ρ x w' ρ.le_refl hx (zh hR.below hb) (hR.heap.below hb)
   ·cases hq
  ·cases hq
theorem Jy {w0 : World} {ρ : Names} {A : AA} {a : Act} {w : World} (hR : Rel w0 ρ A a w) {id : Nat} {bs : List Ch} {t : TypeId} {v : NM} (hv : ρ id = some v) (hblk : A.h.get id = some (.own bs t)) {cs' : List Ch} (hd : DefC ρ cs')
  {d : Option Tmp} {r : AV} {x : Value} (hr : Rep ρ r x) : Rel w0 ρ ⟨putA A.t d r, A.h.put id (.own cs' t), A.d⟩ (a.put d x) (w.setRow v.1 (flatR ρ cs').toArray) := by
 obtain ⟨v', g1, g2⟩ := hR.heap.at_ id _ hblk
 rw [hv] at g1; simp only [oi0] at g1; subst g1
 obtain ⟨k1, k2, k3, k4⟩ := g2
 refine ⟨hR.slots.put d hr, by rw [sL]; exact hR.defers, below_setRow hR.below k2 _, ?_⟩
 exact hR.heap.turn hv k2 hblk rfl _ (by simp) (fun k hk => setRow_other w v.1 k _ hk) ⟨k1, k2, hd, setRow_heap w v.1 _ _ t (0, 0) k4⟩
theorem Fm {F : Fence} (hF : rT F) (n : Nat) {w0 : World} {ρ : Names} {A : AA} {a : Act} {w : World} (hR : Rel w0 ρ A a w) {o : Oper} {T : TypeId} {x y : Operand} (ho : o.op = .store T x y) {h' : Heap} (hs : tj P A T x y = some h')
  {K : Act -> World -> Prop} {Q : Exit -> Act -> World -> Prop} (hK : ∀ a' w', Rel w0 ρ ⟨putA A.t o.dst (.tp []), h', A.d⟩ a' w' -> K a' w') : o.wpIn F n P a w K Q := by
 obtain ⟨id, off, cs, i, bs, t, cs', hx, hy, hi, h4, h5, hblk, hcs, rfl⟩ := xo hs
 have ex := qt hR.slots x
 rw [hx] at ex
 simp only [Rep] at ex
 obtain ⟨v, h1, h2⟩ := ex
 obtain ⟨hd, ey⟩ := wr hy (qt hR.slots y)
 obtain ⟨v', g1, g2⟩ := hR.heap.at_ id _ hblk
 rw [h1] at g1; simp only [oi0] at g1; subst g1
 obtain ⟨j1, j2, j3, j4⟩ := g2
 obtain ⟨k1, k2, k3⟩ := xH ρ hcs
 have hst := run_storeCells_at (P := P) v.1 off t (flatR ρ cs) 0 (flatR ρ bs).toArray w j4 (by simpa using k2) (ww ρ h5)
 have hrun : (execOp a.eval o).run P w = .ok .skip (w.setRow v.1 (flatR ρ cs').toArray) := by
  have hsz : (flatR ρ cs).length = i.size := by rw [rn]; exact h4
  simp only [Nat.add_zero] at hst
  rw [← k1] at hst
  simp [execOp, ho, h2, j1, Instr.storeAt, Instr.sureAddr, storeVar, hsz, qz hi, ey, hst]
 refine qO hF (fun c hc' => by rw [ho] at hc'; cases hc') ?_
 rw [hrun]
 exact hK (a.put o.dst undef) _ (Jy hR h1 hblk (k3 j3 hd) (tt.2 rfl))
def Fv (P : Program) (t : Sl) (h : Heap) (args : Array Operand) (argTypes : Array TypeId) : Option (AV × Heap) :=
 match args.toList, argTypes.toList with
 | [x, y], [T, U] =>
  match evA t x, evA t y, P.underlying T with
  | .sl id off l _, .sl id' off' l' _, some (.slice e) =>
   match P.info? e, h.get id, h.get id' with
   | some i, some (.own bs ty), some blk' =>
    match Nat.beq i.size 1, blk'.cells? with
    | true, some cs0 =>
     match sub cs0 off' (Nat.min l' l) with
     | some cs => match okC cs with | true => (uM bs off cs).map fun r => (.v (.int .i64 (Nat.min l' l : Nat)), h.put id (.own r ty)) | false => none
     | none => none
    | _, _ => none
   | _, _, _ => none
  | _, _, _ => none
 | _, _ => none
theorem Cm {t : Sl} {h : Heap} {args : Array Operand} {argTypes : Array TypeId} {r : AV} {h' : Heap} (hs : Fv P t h args argTypes = some (r, h')) :
  ∃ x y T U id off l c id' off' l' c' e i bs ty blk' cs0 cs r', args = #[x, y] /\ argTypes = #[T, U] /\ evA t x = .sl id off l c /\ evA t y = .sl id' off' l' c' /\ P.underlying T = some (.slice e) /\ P.info? e = some i /\ i.size = 1 /\
   h.get id = some (.own bs ty) /\ h.get id' = some blk' /\ blk'.cells? = some cs0 /\ sub cs0 off' (Nat.min l' l) = some cs /\ okC cs = true /\ uM bs off cs = some r' /\ r = .v (.int .i64 (Nat.min l' l : Nat)) /\ h' = h.put id (.own r' ty) := by
 unfold Fv at hs
 split at hs
 ·rename_i x y T U hx hT
  have hx' : args = #[x, y] := by apply Array.toList_inj.1; simpa using hx
  have hT' : argTypes = #[T, U] := by apply Array.toList_inj.1; simpa using hT
  split at hs
  ·rename_i id off l c id' off' l' c' e h1 h2 h3
   split at hs
   ·rename_i i bs ty blk' h4 h5 h6
    split at hs
    ·rename_i cs0 h7 h8
     split at hs
     ·rename_i cs h9
      split at hs
      ·rename_i h10
       simp only [Option.map_eq_some_iff, pi0] at hs
       obtain ⟨r', h11, h12, h13⟩ := hs
       exact ⟨x, y, T, U, id, off, l, c, id', off', l', c', e, i, bs, ty, blk', cs0, cs, r', hx', hT', h1, h2, h3, h4, Nat.eq_of_beq_eq_true h7, h5, h6, h8, h9, h10, h11, h12.symm, h13.symm⟩
      ·cases hs
     ·cases hs
    ·cases hs
   ·cases hs
  ·cases hs
 ·cases hs
theorem QR {F : Fence} (hF : rT F) (n : Nat) {w0 : World} {ρ : Names} {A : AA} {a : Act} {w : World} (hR : Rel w0 ρ A a w) {o : Oper} {args : Array Operand} {argTypes : Array TypeId} (ho : o.op = .call { callee := .builtin .copy, args := args, argTypes := argTypes }) {r : AV} {h' : Heap} (hs : Fv P A.t A.h args argTypes = some (r, h'))
  {K : Act -> World -> Prop} {Q : Exit -> Act -> World -> Prop} (hK : ∀ a' w', Rel w0 ρ ⟨putA A.t o.dst r, h', A.d⟩ a' w' -> K a' w') : o.wpIn F n P a w K Q := by
 obtain ⟨x, y, T, U, id, off, l, c, id', off', l', c', e, i, bs, ty, blk', cs0, cs, r', rfl, rfl, hx, hy, hu, hi, hsz, hblk, hblk', hc0, hsub, hok, hcs, rfl, rfl⟩ := Cm hs
 have ex := qt hR.slots x
 rw [hx] at ex
 simp only [Rep] at ex
 obtain ⟨v, h1, h2⟩ := ex
 have ey := qt hR.slots y
 rw [hy] at ey
 simp only [Rep] at ey
 obtain ⟨u, k1, k2⟩ := ey
 obtain ⟨v', g1, g2⟩ := hR.heap.at_ id _ hblk
 rw [h1] at g1; simp only [oi0] at g1; subst g1
 obtain ⟨j1, j2, j3, j4⟩ := g2
 obtain ⟨u', f1, f2⟩ := hR.heap.at_ id' _ hblk'
 rw [k1] at f1; simp only [oi0] at f1; subst f1
 obtain ⟨f3, f4⟩ := f2.cells hc0
 obtain ⟨m1, m2, m3⟩ := xH ρ hcs
 obtain ⟨n1, n2, n3, n4⟩ := vl ρ hsub
 have hcp := run_copy_row (P := P) w T U o.type e v.1 off l c ⟨u.1, u.2 + off', none⟩ l' c' (flatR ρ bs).toArray ty (flatR ρ cs) hu (by rw [hi]; simp [hsz]) j4 n2
  (fun j z hj => by
   have hlt : j < (flatR ρ cs).length := (List.getElem?_eq_some_iff.1 hj).1
   have : (flatR ρ cs0)[off' + j]? = some z := by
    rw [← n1] at hj
    simp only [List.getElem?_take, List.getElem?_drop] at hj
    rw [if_pos (by omega)] at hj
    exact hj
   rw [Addr.add_mid, Nat.add_assoc]
   exact f4 _ _ this) (by simpa using m2) (ww ρ hok)
 have hrun : (execOp a.eval o).run P w = .ok (.value (.int .i64 (Nat.min l' l : Nat))) (w.setRow v.1 (flatR ρ r').toArray) := by
  simp only [n2] at hcp m1 m2
  rw [← m1] at hcp
  simp only [goInt] at hcp
  simp [execOp, resolve, invoke, builtin, ho, h2, k2, j1, hcp]
 refine qO hF (fun c hc' => by rw [ho] at hc'; cases hc') ?_
 rw [hrun]
 exact hK (a.put o.dst _) _ (Jy hR h1 hblk (m3 j3 (n4 f3)) rfl)
theorem G0 {t : Sl} {h : Heap} {args : Array Operand} {argTypes : Array TypeId} {r : AV} {h' : Heap} (hs : Fv P t h args argTypes = some (r, h')) {j : Nat} (hj0 : h.get j = none) : h'.get j = none := by
 obtain ⟨x, y, T, U, id, off, l, c, id', off', l', c', e, i, bs, ty, blk', cs0, cs, r', rfl, rfl, hx, hy, hu, hi, hsz, hblk, hblk', hc0, hsub, hok, hcs, rfl, rfl⟩ := Cm hs
 rw [Heap.put_ne _ (fun e => by rw [e, hblk] at hj0; cases hj0)]
 exact hj0
theorem TO {F : Fence} (hF : rT F) (n : Nat) {w0 w : World} {ρ : Names} {A A' : AA} {a : Act} (henv : sW P env) (hR : Rel w0 ρ A a w) {i : Nat} {o : Oper} (ho : ops[i]? = some o)
  (hle : qS o.op = true ∨ tA o = true ∨ (∀ i b, h0.get i = some b -> A.h.get i = some b)) (hid : A.h.get (fr + i) = none)
  (hq : qOpA P X env h0 ops os fr i o A A') {K : Act -> World -> Prop} {Q : Exit -> Act -> World -> Prop} (hK : ∀ ρ' a' w', ρ.le ρ' -> Rel w0 ρ' A' a' w' -> K a' w') : wpOpIn F n P ops Q i K a w := by
 unfold wpOpIn
 simp only [ho]
 rcases hq with ⟨r, nb, ⟨hw, c, hs, hc⟩ | ⟨hw, rfl, rfl⟩, rfl⟩ | ⟨hw, T, x, y, h', hop, hst, rfl⟩
 ·rw [rH hR.slots hw]
  simp only [if_true]
  rcases hle with hh | hh | hh
  ·rw [BQ hh h0 A.h] at hs
   exact Cw hF n henv hR (fun _ _ h => h) hid hs hc hK
  ·exfalso
   unfold tA at hh
   split at hh
   ·rename_i T x y hop
    rw [hop] at hs
    simp [stepQ] at hs
   ·cases hh
  ·exact Cw hF n henv hR hh hid hs hc hK
 ·rw [rH hR.slots hw]
  simp only [Bool.false_eq_true, if_false]
  exact ⟨Cl hF, hK ρ _ w ρ.le_refl ⟨hR.slots.put o.dst (tt.2 rfl), by rw [sL]; exact hR.defers, hR.below, hR.heap⟩⟩
 ·rw [rH hR.slots hw]
  simp only [if_true]
  exact Fm hF n hR hop hst fun a' w' hR' => hK ρ a' w' ρ.le_refl hR'
theorem y8 {md : Region.Mode} {n : Nat} {F : Fence} (hF : rT F) (m : Nat) {w0 : World} {ρb : Names} (henv : sW P env) (hmo : DH md ops = true) {L : Array Bool -> AA -> Prop} {g : Nat} {Q : Exit -> Act -> World -> Prop} :
  ∀ (f : Nat) (listed : Array Bool) (A : AA), Co P X env h0 md ops os fr n L f listed A →
   ((∀ s os', ops[s]? = some os' -> tA os' = true -> listed.getD s false = false) -> ∀ i b, h0.get i = some b -> A.h.get i = some b) →
   (∀ j oj, ops[j]? = some oj -> listed.getD j false = true -> ∀ e ∈ oj.after, Region.binds md e = true -> listed.getD e.on false = true) →
   (∀ j, listed.getD j true = false -> A.h.get (fr + j) = none) →
   (∀ j, ops.size <= j -> A.h.get (fr + j) = none) -> listed.size = ops.size →
   (∀ listed' A' ρ' a' w', L listed' A' -> (∀ j, ops.size <= j -> A'.h.get (fr + j) = none) -> (∀ j, listed'.getD j true = false -> A'.h.get (fr + j) = none) -> ρb.le ρ' -> Rel w0 ρ' A' a' w' -> wpAnyIn F m P md ops Q g listed' a' w') →
   ∀ ρ a w, ρb.le ρ -> Rel w0 ρ A a w -> wpAnyIn F m P md ops Q (f + g) listed a w
 | 0, listed, A, h, hle, hcl, hfree, hbig, hsz, hL, ρ, a, w, hb, hR => by rw [Nat.zero_add]; exact hL _ _ _ _ _ h hbig hfree hb hR
 | f + 1, listed, A, h, hle, hcl, hfree, hbig, hsz, hL, ρ, a, w, hb, hR => by
  rw [show f + 1 + g = (f + g) + 1 by omega]
  refine ⟨fun h0 => absurd h0 h.1, fun i hi => ?_⟩
  obtain ⟨hin, o, A', ho, hq, hrest⟩ := h.2 i hi
  obtain ⟨hun, o', ho', hall⟩ := mem_ready.1 hi
  have : o' = o := Option.some.inj (ho'.symm.trans ho)
  subst this
  have hid := hfree i hun
  have hlt : i < listed.size := by rw [hsz]; exact (Array.getElem?_eq_some_iff.1 ho).1
  have hmemle : qS o'.op = true ∨ tA o' = true ∨ (∀ i b, h0.get i = some b -> A.h.get i = some b) := by
   by_cases hh : qS o'.op = true
   ·exact .inl hh
   ·by_cases hs : tA o' = true
    ·exact .inr (.inl hs)
    ·refine .inr (.inr (hle fun s os' hos hst => ?_))
     cases hls : listed.getD s false with
     | false => rfl
     | true =>
      exfalso
      have hne : i ≠ s := fun e => by subst e; rw [getD_both hun] at hls; cases hls
      rcases y6 hmo hos ho hne hst with h | h | h
      ·exact hh h
      ·have := wy hcl 6 s i h (fun ok hk e he hb => by
        have : ok = os' := Option.some.inj (hk.symm.trans hos)
        subst this
        exact hcl s ok hos hls e he hb)
       rw [getD_both hun] at this
       cases this
      ·exact hs h.1
  refine TO hF m henv hR ho hmemle hid hq fun ρ' a' w' hl hR' => ?_
  refine y8 hF m henv hmo f _ _ hrest (fun hns => ?_) (fun j oj hj hlj e he hbn => ?_) (Dy hlt hq hfree) (fun j hj => ?_) (by simpa using hsz) hL ρ' a' w' (Names.le_trans hb hl) hR'
  ·-- no store yet
   have hle' := hle fun s os' hos hst => by
    have := hns s os' hos hst
    by_cases hsi : i = s
    ·subst hsi; simp [hlt] at this
    ·rw [getD_set_ne false hsi] at this; exact this
   have hnst : tA o' = false := by
    cases hs : tA o' with
    | false => rfl
    | true =>
     have := hns i o' ho hs
     simp [hlt] at this
   rcases hq with ⟨r, nb, _, rfl⟩ | ⟨_, T, x, y, h', hop, hst, rfl⟩
   ·exact H3 hle' hid nb
   ·rw [show tA o' = true by simp [tA, hop]] at hnst; cases hnst
  ·by_cases hij : i = j
   ·subst hij
    have : oj = o' := Option.some.inj (hj.symm.trans ho)
    subst this
    exact getD_set_true (hall e he hbn)
   ·rw [getD_set_ne false hij] at hlj
    exact getD_set_true (hcl j oj hj hlj e he hbn)
  ·have hn := hbig j hj
   have hlt' : i < ops.size := (Array.getElem?_eq_some_iff.1 ho).1
   rcases hq with ⟨r, nb, _, rfl⟩ | ⟨_, T, x, y, h', _, hst, rfl⟩
   ·cases nb with
    | none => exact hn
    | some blk =>
     show (A.h.put (fr + i) blk).get (fr + j) = none
     rw [Heap.put_ne _ (by omega)]
     exact hn
   ·exact tO hst hn
end Go.Ev
set_option linter.unusedSimpArgs false
set_option linter.unusedVariables false
namespace Go.Ev
open Go.RowKit
def addOb : Option Prop -> Prop -> Prop
 | none, ob => ob
 | some p, ob => p /\ ob
theorem tU (c : Option Prop) (ob : Prop) : addOb c ob ↔ c.getD True /\ ob := by cases c <;> simp [addOb]
inductive Tgt where
 | fn (g : FuncId)
 | yd (id : Nat)
abbrev Inl := Tgt -> List AV -> Heap -> Nat -> Prop -> Option (AV × Nat × Heap × Prop)
def TF (inl : Inl) (A : AA) (k : Nat) (op : Op) (ob : Prop) : Option (AV × Nat × Heap × Prop) :=
 match op with
 | .call { callee := .value f, args, argTypes := _ } =>
  match evA A.t f with
  | .clo g first cap => inl (.fn g) (first ++ args.toList.map (evA A.t) ++ cap) A.h (k + 1) ob
  | .yd id => inl (.yd id) (args.toList.map (evA A.t)) A.h (k + 1) ob
  | _ => none
 | _ => none
def VU (P : Program) (A : AA) (op : Op) : Option (AV × Heap) :=
 match op with
 | .call { callee := .builtin .copy, args, argTypes } => Fv P A.t A.h args argTypes
 | _ => none
def Dk (P : Program) (X : Rules P) (env : List Entry) (inl : Inl) (os : Nat -> Ora) (ops : Array Oper) (k : Nat) (o : Oper) (A : AA) (ob : Prop) : Option (Nat × AA × Prop) :=
 match ue ops A.t o with
 | none => none
 | some false => some (k + 1, A.app o k (.tp []) none, ob)
 | some true =>
  match (os k).ex with
  | r + 1 =>
   match X.x[r]? with
   | some q => (q.fn (os k) k A.h (o.op.operands.toList.map (evA A.t)) o.op).map fun (c, r, ups) => (k + 1, ⟨putA A.t o.dst r, r6 A.h ups, A.d⟩, addOb c ob)
   | none => none
  | 0 =>
  match o.op with
  | .store T x y => (tj P A T x y).map fun h => (k + 1, ⟨putA A.t o.dst (.tp []), h, A.d⟩, ob)
  | op =>
   match stepQ P X env A.h A.t k (os k) op with
   | some (c, r, nb) => some (k + 1, A.app o k r nb, addOb c ob)
   | none =>
    match TF inl A k op ob with
    | some (r, k', h', ob') => some (k', ⟨putA A.t o.dst r, h', A.d⟩, ob')
    | none =>
     match VU P A op with
     | some (r, h') => some (k + 1, ⟨putA A.t o.dst r, h', A.d⟩, ob)
     | none =>
      match X.d with
      | some q => (q.fn (os k) k A.h (o.op.operands.toList.map (evA A.t)) o.op).map fun (c, r, ups) => (k + 1, ⟨putA A.t o.dst r, r6 A.h ups, A.d⟩, addOb c ob)
      | none => none
def Fe (P : Program) (X : Rules P) (env : List Entry) (inl : Inl) (os : Nat -> Ora) (ops : Array Oper) : List Oper -> Nat -> AA -> Prop -> Option (Nat × AA × Prop)
 | [], k, A, ob => some (k, A, ob)
 | o :: l, k, A, ob =>
  match Dk P X env inl os ops k o A ob with
  | some (k1, A1, ob1) => Fe P X env inl os ops l k1 A1 ob1
  | none => none
def Ik (P : Program) (X : Rules P) (env : List Entry) (os : Nat -> Ora) (ops : Array Oper) (h0 : Heap) (fr : Nat) : List Oper -> Nat -> AA -> Prop -> Option (AA × Prop)
 | [], _, A, ob => some (A, ob)
 | o :: l, i, A, ob =>
  match ue ops A.t o with
  | none => none
  | some false => Ik P X env os ops h0 fr l (i + 1) (A.app o (fr + i) (.tp []) none) ob
  | some true =>
   match o.op with
   | .store T x y => match tj P A T x y with
    | some h' => Ik P X env os ops h0 fr l (i + 1) ⟨putA A.t o.dst (.tp []), h', A.d⟩ ob
    | none => none
   | op =>
    match stepQ P X env h0 A.t (fr + i) (os (fr + i)) op with
    | some (c, r, nb) => Ik P X env os ops h0 fr l (i + 1) (A.app o (fr + i) r nb) (addOb c ob)
    | none => none
def Tf (env : List Entry) (o : Oper) (ora : Ora) : Bool :=
 match ora.ex with
 | _ + 1 => true
 | 0 =>
 match o.op with
 | .call { callee := .value (.func f), .. } => match Cv env f with | some _ => false | none => true
 | .call { callee := .value _, .. } => true
 | .call { callee := .builtin .copy, .. } => true
 | .call { callee := .builtin .append, .. } => true
 | _ => false
def RC (env : List Entry) (os : Nat -> Ora) : List Oper -> Nat -> Nat
 | [], _ => 0
 | o :: l, k => match Tf env o (os k) with | true => 0 | false => RC env os l (k + 1) + 1
def HC (ops : Array Oper) (n : Nat) : Bool :=
 Nat.ble n ops.size && DH .any ops && Region.lexHead .any ops (ops.size - n) n 0 (Array.replicate ops.size false) && (Nat.beq n ops.size || (decide (n < ops.size) && Region.sinkB .any ops n && Region.chainB .any ops n))
def ul (env : List Entry) (os : Nat -> Ora) (ops : Array Oper) (fr : Nat) : Nat := match (os fr).hd with | n + 1 => n | 0 => RC env os ops.toList fr
def vz (P : Program) (X : Rules P) (env : List Entry) (inl : Inl) (os : Nat -> Ora) (ops : Array Oper) (draw : Bool) (fr : Nat) (A : AA) (ob : Prop) : Option (Nat × AA × Prop) :=
 match draw with
 | true =>
  match P.follows .mixedOrders && HC ops (ul env os ops fr) with
  | true =>
   match Ik P X env os ops A.h fr (ops.toList.take (ul env os ops fr)) 0 A ob with
   | some (A1, ob1) => Fe P X env inl os ops (ops.toList.drop (ul env os ops fr)) (fr + ul env os ops fr) A1 ob1
   | none => none
  | false => none
 | false => Fe P X env inl os ops ops.toList fr A ob
theorem uY {P : Program} {ops : Array Oper} {md : Region.Mode} {F : Fence} {n : Nat} {Q' : Exit -> Act -> World -> Prop} : ∀ (l : List Oper) (k : Nat) (listed : Array Bool) (a : Act) (w : World), (∀ j, l[j]? = ops[k + j]?) →
  Region.seqB md ops l.length k listed = true -> wpListIn F n P ops Q' l a w -> wpAnyIn F n P md ops Q' l.length listed a w
 | [], _, _, _, _, _, hB, h => ⟨by simpa [Region.seqB] using hB, h⟩
 | o :: l, k, listed, a, w, hl, hB, h => by
  have h0 : ops[k]? = some o := by simpa using (hl 0).symm
  simp only [List.length_cons, Region.seqB, Bool.and_eq_true, decide_eq_true_eq] at hB
  refine ⟨fun h1 => (by rw [hB.1] at h1; cases h1), fun i hi => ?_⟩
  rw [hB.1] at hi
  have hik : i = k := by simpa using hi
  subst hik
  have hw : wpOpIn F n P ops Q' i (wpListIn F n P ops Q' l) a w := by unfold wpOpIn; simp only [h0]; exact h
  exact wpOpIn_mono (fun a' w' h' => uY l (i + 1) _ a' w' (fun j => by have := hl (j + 1); simpa [Nat.add_assoc, Nat.add_comm 1 j] using this) hB.2 h') hw
section
variable {P : Program} {X : Rules P} {env : List Entry} {inl : Inl} {os : Nat -> Ora} {ops : Array Oper} {fr : Nat} {w0 : World}
theorem sn.app {A : AA} {k : Nat} (h : sn A k) (o : Oper) (r : AV) (nb : Option Blk) : sn (A.app o k r nb) (k + 1) := by
 intro j hj
 cases nb with
 | none => exact h j (by omega)
 | some b =>
  show (A.h.put k b).get j = none
  rw [Heap.put_ne _ (by omega)]
  exact h j (by omega)
def After (w0 : World) (ρ : Names) (r : AV) (h' : Heap) (e : Ending) (w' : World) : Prop :=
 ∃ v ρ', e = .returned v /\ ρ.le ρ' /\ Rep ρ' r v /\ Below w0.heap.size w0 w' /\ HRel w0.heap.size ρ' h' w'
structure InlOK (P : Program) (inl : Inl) : Prop where
 mono : ∀ g args h k ob r k' h' ob', inl g args h k ob = some (r, k', h', ob') -> ob' -> ob
 fresh : ∀ g args h k ob r k' h' ob', inl g args h k ob = some (r, k', h', ob') -> ob' -> (∀ j, k <= j -> h.get j = none) -> ∀ j, k' <= j -> h'.get j = none
 fn : ∀ g args h k ob r k' h' ob', inl (.fn g) args h k ob = some (r, k', h', ob') -> ob' -> (∀ j, k <= j -> h.get j = none) →
  (∀ vs w, (callFunc g vs).run P w = .ok (.enter g vs) w) /\
  ∀ (w0 : World) ρ (vs : Array Value) w, wz ρ args vs -> Below w0.heap.size w0 w -> HRel w0.heap.size ρ h w -> Calls P g vs w (After w0 ρ r h')
 yd : ∀ id args h k ob r k' h' ob', inl (.yd id) args h k ob = some (r, k', h', ob') -> ob' -> (∀ j, k <= j -> h.get j = none) →
  ∀ (w0 : World) ρ (vs : Array Value) w v, wz ρ args vs -> Below w0.heap.size w0 w -> HRel w0.heap.size ρ h w -> ρ id = some v →
   ∃ f tmps asg body, (Instr.yield v.1 vs).run P w = .ok (.round v.1 f tmps asg body) w /\ ∀ n, RoundIn Fence.wide n P v.1 f tmps asg body w (After w0 ρ r h')
theorem rT.round {F : Fence} (hF : rT F) {n : Nat} {l : Nat} {f : FuncId} {tmps : Array Value} {asg body : Code} {w : World} {R : Ending -> World -> Prop} (h : RoundIn Fence.wide n P l f tmps asg body w R) : RoundIn F n P l f tmps asg body w R := by
 rcases hF with rfl | ⟨l', rfl⟩
 ·exact h
 ·exact h
theorem Il (hinl : InlOK P inl) {k : Nat} {o : Oper} {A : AA} {ob : Prop} {k1 : Nat} {A1 : AA} {ob1 : Prop} (hs : Dk P X env inl os ops k o A ob = some (k1, A1, ob1)) (h1 : ob1) : ob := by
 unfold Dk at hs
 split at hs
 ·cases hs
 ·simp only [oi0, pi0] at hs; obtain ⟨_, _, rfl⟩ := hs; exact h1
 ·split at hs
  ·split at hs
   ·simp only [Option.map_eq_some_iff, pi0] at hs
    obtain ⟨⟨c, r, ups⟩, _, _, _, rfl⟩ := hs
    exact ((tU _ _).1 h1).2
   ·cases hs
  ·split at hs
   ·simp only [Option.map_eq_some_iff, pi0] at hs
    obtain ⟨_, _, _, _, rfl⟩ := hs
    exact h1
   ·split at hs
    ·simp only [oi0, pi0] at hs
     obtain ⟨_, _, rfl⟩ := hs
     exact ((tU _ _).1 h1).2
    ·split at hs
     ·rename_i hi
      simp only [oi0, pi0] at hs
      obtain ⟨_, _, rfl⟩ := hs
      unfold TF at hi
      split at hi
      ·split at hi
       ·exact hinl.mono _ _ _ _ _ _ _ _ _ hi h1
       ·exact hinl.mono _ _ _ _ _ _ _ _ _ hi h1
       ·cases hi
      ·cases hi
     ·split at hs
      ·simp only [oi0, pi0] at hs
       obtain ⟨_, _, rfl⟩ := hs
       exact h1
      ·split at hs
       ·simp only [Option.map_eq_some_iff, pi0] at hs
        obtain ⟨⟨c, r, ups⟩, _, _, _, rfl⟩ := hs
        exact ((tU _ _).1 h1).2
       ·cases hs
theorem uR (hinl : InlOK P inl) : ∀ (l : List Oper) (k : Nat) (A : AA) (ob : Prop) (k' : Nat) (A' : AA) (ob' : Prop), Fe P X env inl os ops l k A ob = some (k', A', ob') -> ob' -> ob
 | [], k, A, ob, k', A', ob', h, hob => by simp only [Fe, oi0, pi0] at h; obtain ⟨_, _, rfl⟩ := h; exact hob
 | o :: l, k, A, ob, k', A', ob', h, hob => by
  unfold Fe at h
  split at h
  ·rename_i k1 A1 ob1 hs
   exact Il hinl hs (uR hinl l _ _ _ _ _ _ h hob)
  ·cases h
theorem AH (henv : sW P env) (hinl : InlOK P inl) {k : Nat} {o : Oper} {A : AA} {ob : Prop} {k1 : Nat} {A1 : AA} {ob1 : Prop} (hs : Dk P X env inl os ops k o A ob = some (k1, A1, ob1)) (h1 : ob1) (hf : sn A k) :
  sn A1 k1 /\ ∀ {F : Fence} (hF : rT F) (n : Nat) (Q : Exit -> Act -> World -> Prop) (K : Act -> World -> Prop) ρ a w, Rel w0 ρ A a w -> (∀ ρ' a' w', ρ.le ρ' -> Rel w0 ρ' A1 a' w' -> K a' w') →
   if Region.wanted o (yielded ops a.tmps) then o.wpIn F n P a w K Q else (∀ f, o.about P w a.eval = some f -> F.fn f) /\ K (a.put o.dst undef) w := by
 unfold Dk at hs
 split at hs
 ·cases hs
 ·rename_i hw
  simp only [oi0, pi0] at hs
  obtain ⟨rfl, rfl, rfl⟩ := hs
  refine ⟨hf.app o (.tp []) none, fun hF n Q K ρ a w hR hK => ?_⟩
  rw [rH hR.slots hw]
  simp only [Bool.false_eq_true, if_false]
  exact ⟨Cl hF, hK ρ _ w ρ.le_refl ⟨hR.slots.put o.dst (tt.2 rfl), by rw [sL]; exact hR.defers, hR.below, hR.heap⟩⟩
 ·rename_i hw
  split at hs
  ·split at hs
   ·rename_i q hq
    simp only [Option.map_eq_some_iff, pi0] at hs
    obtain ⟨⟨c, r, ups⟩, hq', rfl, rfl, rfl⟩ := hs
    rw [tU] at h1
    refine ⟨fun j hj => q.fresh _ _ _ _ _ _ _ _ hq' hf j hj, fun hF n Q K ρ a w hR hK => ?_⟩
    rw [rH hR.slots hw]
    simp only [if_true]
    exact q.ok _ _ _ _ _ _ _ _ hq' h1.1 hf hF n a o rfl (rm hR.slots _) hR.below hR.heap fun ρ' x w' hl hr hb hh =>
     hK ρ' _ w' hl ⟨(hR.slots.mono hl).put o.dst hr, by rw [sL]; exact hR.defers.mono hl, hb, hh⟩
   ·cases hs
  ·split at hs
   ·rename_i T x y hop
    simp only [Option.map_eq_some_iff, pi0] at hs
    obtain ⟨h', hst, rfl, rfl, rfl⟩ := hs
    refine ⟨fun j hj => tO hst (hf j (by omega)), fun hF n Q K ρ a w hR hK => ?_⟩
    rw [rH hR.slots hw]
    simp only [if_true]
    exact Fm hF n hR hop hst fun a' w' hR' => hK ρ a' w' ρ.le_refl hR'
   ·split at hs
    ·rename_i c r nb hq
     simp only [oi0, pi0] at hs
     obtain ⟨rfl, rfl, rfl⟩ := hs
     rw [tU] at h1
     refine ⟨hf.app o r nb, fun hF n Q K ρ a w hR hK => ?_⟩
     rw [rH hR.slots hw]
     simp only [if_true]
     exact Cw hF n henv hR (fun _ _ h => h) (hf _ (Nat.le_refl _)) hq h1.1 hK
    ·split at hs
     ·rename_i r k2 h2 ob2 hi
      simp only [oi0, pi0] at hs
      obtain ⟨rfl, rfl, rfl⟩ := hs
      have hf' : ∀ j, k + 1 <= j -> A.h.get j = none := fun j hj => hf j (by omega)
      unfold TF at hi
      split at hi
      ·rename_i f args at' hop
       split at hi
       ·rename_i g first cap hg
        have g3 := hinl.fresh _ _ _ _ _ _ _ _ _ hi h1 hf'
        obtain ⟨g4, g5⟩ := hinl.fn _ _ _ _ _ _ _ _ _ hi h1 hf'
        refine ⟨g3, fun hF n Q K ρ a w hR hK => ?_⟩
        rw [rH hR.slots hw]
        simp only [if_true]
        have hfe := qt hR.slots f
        rw [hg] at hfe
        simp only [Rep] at hfe
        obtain ⟨xs, ys, e1, e2, e3⟩ := hfe
        have e1' : o.op = .call { callee := .value f, args := args, argTypes := at' } := by assumption
        have hrun : (execOp a.eval o).run P w = .ok (.enter g (xs ++ args.toList.map a.eval ++ ys).toArray) w := by
         simp only [execOp, e1', Sem.run_bind, resolve, e3, Deferred.ofValue, Sem.run_pure, Result.andThen_ok, invoke]
         rw [← g4]
         congr 2
         apply Array.toList_inj.1
         simp
        refine qO hF (fun c hc' => by rw [e1'] at hc'; cases hc') ?_
        rw [hrun]
        simp only [Oper.uponIn]
        have hsl : wz ρ (first ++ args.toList.map (evA A.t) ++ cap) (xs ++ args.toList.map a.eval ++ ys).toArray := rZ (rZ e1 (rm hR.slots _)) e2
        refine ⟨hF.depth, (hF.calls (g5 w0 ρ _ w hsl hR.below hR.heap)).mono fun en w' hen => ?_⟩
        obtain ⟨v, ρ', i1, i2, i3, i4, i5⟩ := hen
        subst i1
        exact hK ρ' _ w' i2 ⟨(hR.slots.mono i2).put o.dst i3, by rw [sL]; exact hR.defers.mono i2, i4, i5⟩
       ·rename_i id hg
        have g3 := hinl.fresh _ _ _ _ _ _ _ _ _ hi h1 hf'
        have g5 := hinl.yd _ _ _ _ _ _ _ _ _ hi h1 hf'
        refine ⟨g3, fun hF n Q K ρ a w hR hK => ?_⟩
        rw [rH hR.slots hw]
        simp only [if_true]
        have hfe := qt hR.slots f
        rw [hg] at hfe
        simp only [Rep] at hfe
        obtain ⟨v, e1, e3⟩ := hfe
        have e1' : o.op = .call { callee := .value f, args := args, argTypes := at' } := by assumption
        have hsl : wz ρ (args.toList.map (evA A.t)) (args.map a.eval) := by
         have := rm hR.slots args.toList
         have e : (args.map a.eval).toList = args.toList.map a.eval := by simp
         unfold wz
         rw [e]
         exact this
        obtain ⟨ff, tmps, asg, body, hy, hround⟩ := g5 w0 ρ _ w v hsl hR.below hR.heap e1
        have hrun : (execOp a.eval o).run P w = .ok (.round v.1 ff tmps asg body) w := by
         simp only [execOp, e1', Sem.run_bind, resolve, e3, Deferred.ofValue, Sem.run_pure, Result.andThen_ok, invoke]
         rw [← hy]
         congr 2
         apply Array.toList_inj.1
         simp
        refine qO hF (fun c hc' => by rw [e1'] at hc'; cases hc') ?_
        rw [hrun]
        simp only [Oper.uponIn]
        refine ⟨hF.depth, (hF.round (hround _)).mono fun en w' hen => ?_⟩
        obtain ⟨v, ρ', i1, i2, i3, i4, i5⟩ := hen
        subst i1
        exact hK ρ' _ w' i2 ⟨(hR.slots.mono i2).put o.dst i3, by rw [sL]; exact hR.defers.mono i2, i4, i5⟩
       ·cases hi
      ·cases hi
     ·split at hs
      ·rename_i r h' he
       simp only [oi0, pi0] at hs
       obtain ⟨rfl, rfl, rfl⟩ := hs
       unfold VU at he
       split at he
       ·rename_i args argTypes e1'
        refine ⟨fun j hj => G0 he (hf j (by omega)), fun hF n Q K ρ a w hR hK => ?_⟩
        rw [rH hR.slots hw]
        simp only [if_true]
        exact QR hF n hR e1' he fun a' w' hR' => hK ρ a' w' ρ.le_refl hR'
       ·cases he
      ·split at hs
       ·rename_i q hq
        simp only [Option.map_eq_some_iff, pi0] at hs
        obtain ⟨⟨c, r, ups⟩, hq', rfl, rfl, rfl⟩ := hs
        rw [tU] at h1
        refine ⟨fun j hj => q.fresh _ _ _ _ _ _ _ _ hq' hf j hj, fun hF n Q K ρ a w hR hK => ?_⟩
        rw [rH hR.slots hw]
        simp only [if_true]
        exact q.ok _ _ _ _ _ _ _ _ hq' h1.1 hf hF n a o rfl (rm hR.slots _) hR.below hR.heap fun ρ' x w' hl hr hb hh =>
         hK ρ' _ w' hl ⟨(hR.slots.mono hl).put o.dst hr, by rw [sL]; exact hR.defers.mono hl, hb, hh⟩
       ·cases hs
theorem wB (henv : sW P env) (hinl : InlOK P inl) : ∀ (l : List Oper) (k : Nat) (A : AA) (ob : Prop) (k' : Nat) (A' : AA) (ob' : Prop), Fe P X env inl os ops l k A ob = some (k', A', ob') -> ob' -> sn A k →
  (sn A' k' /\ ∀ {F : Fence} (hF : rT F) (n : Nat) (Q : Exit -> Act -> World -> Prop) ρ a w, Rel w0 ρ A a w -> (∀ ρ' a' w', ρ.le ρ' -> Rel w0 ρ' A' a' w' -> Q .normal a' w') -> wpListIn F n P ops Q l a w)
 | [], k, A, ob, k', A', ob', h, hob, hf => by
  simp only [Fe, oi0, pi0] at h
  obtain ⟨rfl, rfl, rfl⟩ := h
  exact ⟨hf, fun hF n Q ρ a w hR hQ => hQ ρ a w ρ.le_refl hR⟩
 | o :: l, k, A, ob, k', A', ob', h, hob, hf => by
  unfold Fe at h
  split at h
  ·rename_i k1 A1 ob1 hs
   have hob1 := uR hinl l _ _ _ _ _ _ h hob
   obtain ⟨f1, s1⟩ := AH (w0 := w0) henv hinl hs hob1 hf
   obtain ⟨f2, s2⟩ := wB henv hinl l k1 A1 ob1 k' A' ob' h hob f1
   refine ⟨f2, fun hF n Q ρ a w hR hQ => ?_⟩
   unfold wpListIn
   exact s1 hF n Q _ ρ a w hR fun ρ' a' w' hl hR' => s2 hF n Q ρ' a' w' hR' fun ρ'' a'' w'' hl' hR'' => hQ ρ'' a'' w'' (Names.le_trans hl hl') hR''
  ·cases h
theorem wu {h0 : Heap} : ∀ (l : List Oper) (i : Nat) (A : AA) (ob : Prop) (A' : AA) (ob' : Prop), Ik P X env os ops h0 fr l i A ob = some (A', ob') -> ob' -> ob /\ QLex P X env h0 ops os fr l i A A'
 | [], i, A, ob, A', ob', h, hob => by
  simp only [Ik, oi0, pi0] at h
  obtain ⟨rfl, rfl⟩ := h
  exact ⟨hob, rfl⟩
 | o :: l, i, A, ob, A', ob', h, hob => by
  unfold Ik at h
  split at h
  ·cases h
  ·rename_i hw
   obtain ⟨e1, e2⟩ := wu l (i + 1) _ _ A' ob' h hob
   exact ⟨e1, _, .inl ⟨.tp [], none, .inr ⟨hw, rfl, rfl⟩, rfl⟩, e2⟩
  ·rename_i hw
   split at h
   ·rename_i T x y hop
    split at h
    ·rename_i h' hst
     obtain ⟨e1, e2⟩ := wu l (i + 1) _ _ A' ob' h hob
     exact ⟨e1, _, .inr ⟨hw, T, x, y, h', hop, hst, rfl⟩, e2⟩
    ·cases h
   ·split at h
    ·rename_i c r nb hq
     obtain ⟨e1, e2⟩ := wu l (i + 1) _ _ A' ob' h hob
     rw [tU] at e1
     exact ⟨e1.2, _, .inl ⟨r, nb, .inl ⟨hw, c, hq, e1.1⟩, rfl⟩, e2⟩
    ·cases h
theorem Rel.drew {ρ : Names} {A : AA} {a : Act} {w : World} (hR : Rel w0 ρ A a w) : Rel w0 ρ A a { w with drawn := w.drawn + 1 } :=
 ⟨hR.slots, hR.defers, hR.below.drew, ⟨⟨fun id blk hi => let ⟨v, h1, h2⟩ := hR.heap.at_ id blk hi; ⟨v, h1, h2.same rfl⟩, hR.heap.lt, hR.heap.size⟩, hR.heap.inj, hR.heap.none_⟩⟩
theorem QLex.fresh {h0 : Heap} : ∀ (l : List Oper) (i : Nat) (A A' : AA), QLex P X env h0 ops os fr l i A A' -> sn A (fr + i) -> sn A' (fr + i + l.length)
 | [], i, A, A', h, hf => by cases h; simpa using hf
 | o :: l, i, A, A', ⟨A1, hq, h⟩, hf => by
  rcases hq with ⟨r, nb, _, e⟩ | ⟨_, T, x, y, h', _, hst, e⟩
  ·subst e
   have := QLex.fresh l (i + 1) _ A' h (by simpa [Nat.add_assoc] using hf.app o r nb)
   simpa [Nat.add_assoc, Nat.add_comm 1] using this
  ·subst e
   have := QLex.fresh l (i + 1) _ A' h (fun j hj => tO hst (hf j (by omega)))
   simpa [Nat.add_assoc, Nat.add_comm 1] using this
theorem zl (hinl : InlOK P inl) {draw : Bool} {A A' : AA} {ob ob' : Prop} {k' : Nat} (h : vz P X env inl os ops draw fr A ob = some (k', A', ob')) (hob : ob') : ob := by
 unfold vz at h
 split at h
 ·split at h
  ·split at h
   ·rename_i A2 ob2 hh
    exact (wu _ _ _ _ _ _ hh (uR hinl _ _ _ _ _ _ _ h hob)).1
   ·cases h
  ·cases h
 ·exact uR hinl _ _ _ _ _ _ _ h hob
theorem vU (henv : sW P env) (hinl : InlOK P inl) {draw : Bool} {A A' : AA} {ob ob' : Prop} {k' : Nat} (h : vz P X env inl os ops draw fr A ob = some (k', A', ob')) (hob : ob') (hf : sn A fr) :
  sn A' k' /\ ∀ {F : Fence} (hF : rT F) (m : Nat) (id : Nat) (Q : Exit -> Act -> World -> Prop) ρ a w, Rel w0 ρ A a w -> (∀ ρ' a' w', ρ.le ρ' -> Rel w0 ρ' A' a' w' -> Q .normal a' w') -> (Code.region id ops draw).wpIn F m P Q a w := by
 unfold vz at h
 split at h
 ·split at h
  ·rename_i hc
   simp only [Bool.and_eq_true] at hc
   obtain ⟨hm, hd⟩ := hc
   split at h
   ·rename_i A1 ob1 hh
    generalize hn : ul env os ops fr = n at *
    unfold HC at hd
    simp only [Bool.and_eq_true, Bool.or_eq_true, decide_eq_true_eq] at hd
    obtain ⟨⟨⟨hnle, hmo⟩, hlex⟩, htail⟩ := hd
    have hnle : n <= ops.size := Nat.le_of_ble_eq_true hnle
    have htl : (ops.toList.take n).length = n := by simp; omega
    have hdl : (ops.toList.drop n).length = ops.size - n := by simp
    have hob1 : ob1 := uR hinl _ _ _ _ _ _ _ h hob
    obtain ⟨_, hql⟩ := wu _ _ _ _ _ _ hh hob1
    have hf1 : sn A1 (fr + n) := by
     have := QLex.fresh _ _ _ _ hql (by simpa using hf)
     rw [htl] at this
     simpa using this
    obtain ⟨hf2, htailwp⟩ := wB (w0 := w0) henv hinl _ _ _ _ _ _ _ h hob hf1
    refine ⟨hf2, fun hF m id Q ρ a w hR hQ => ?_⟩
    have htw : ∀ (i : Nat) (listed : Array Bool), HeadInv .any ops n listed -> i < n -> listed.getD i true = false -> ∀ t, n <= t -> t ∉ Region.ready .any ops listed := by
     intro i listed inv hi hun t ht hr
     rcases htail with htail | ⟨⟨hlt, hs⟩, hc⟩
     ·have := Nat.eq_of_beq_eq_true htail
      obtain ⟨_, ot, hot, _⟩ := mem_ready.1 hr
      have := (Array.getElem?_eq_some_iff.1 hot).1
      omega
     ·exact tail_waits hs hc hlt inv _ i rfl hi hun t ht hr
    have inv0 : HeadInv .any ops n (Array.replicate ops.size false) :=
     ⟨by simp, fun j oj _ hl => (by rw [getD_replicate_false] at hl; cases hl), fun t _ ht => getD_in (by simpa using ht) (getD_replicate_false _ _)⟩
    have H := yW (md := .any) (g := ops.size - n) hmo htw (ops.toList.take n) 0 (Array.replicate ops.size false) A (fun j hj => by
     have hj' : j < n := by rw [htl] at hj; exact hj
     simp [hj']) (by simpa using htl) inv0 (fun j _ => hf _ (by omega)) (by rw [htl]; exact hlex) hql
    refine wpIn_region_any hm ?_
    have hall := y8 hF m (w0 := w0) (ρb := ρ) (g := ops.size - n) (Q := Q) henv hmo _ _ _ H (fun _ _ _ h => h) inv0.closed (fun j _ => hf _ (by omega)) (fun j _ => hf _ (by omega)) (by simp)
     (fun listed' A'' ρ' a' w' hL _ _ hlb hR' => by
      obtain ⟨hseq, rfl⟩ := hL
      have := uY (md := .any) (P := P) (n := m) (Q' := Q) (ops.toList.drop n) n listed' a' w' (fun j => by simp [List.getElem?_drop]) (by rw [hdl]; exact hseq)
       (htailwp hF m Q ρ' a' w' hR' fun ρ'' a'' w'' hl hR'' => hQ ρ'' a'' w'' (Names.le_trans hlb hl) hR'')
      rwa [hdl] at this) ρ a _ ρ.le_refl hR.drew
    rw [htl, show n + (ops.size - n) = ops.size by omega] at hall
    exact hall
   ·cases h
  ·cases h
 ·obtain ⟨e2, e3⟩ := wB (w0 := w0) henv hinl _ _ _ _ _ _ _ h hob hf
  exact ⟨e2, fun hF m id Q ρ a w hR hQ => wpIn_region_list (e3 hF m Q ρ a w hR hQ)⟩
end
end Go.Ev
set_option linter.unusedSimpArgs false
set_option linter.unusedVariables false
namespace Go.Ev
open Go.RowKit
theorem wq {α : Type} : ∀ (l : List (Nat × α)) (i : Nat) (a : α), (trOf l).get i = some a -> (i, a) ∈ l
 | [], i, a, h => by rw [trOf, Tr.get_nil] at h; cases h
 | (j, b) :: l, i, a, h => by
  simp only [trOf] at h
  by_cases hij : i = j
  ·subst hij
   rw [Tr.get_set _ _ _ _ Nat.lt_log2_self] at h
   simp only [oi0] at h; subst h
   simp
  ·rw [Tr.get_set_ne _ _ _ _ _ hij] at h
   exact List.mem_cons_of_mem _ (wq l i a h)
def ren : List (Nat × Nat) -> Nat -> Nat
 | [], i => i
 | (a, b) :: l, i => match Nat.beq i a with | true => b | false => ren l i
def hasN : List (Nat × Blk) -> Nat -> Bool
 | [], _ => false
 | (a, _) :: l, i => match Nat.beq i a with | true => true | false => hasN l i
theorem wR {a b : Nat} (h : Nat.beq a b = false) : a ≠ b := fun e => by subst e; simp at h
theorem FO : ∀ {l : List (Nat × Blk)} {i : Nat}, hasN l i = true -> ∃ b, (trOf l).get i = some b
 | (a, c) :: l, i, h => by
  unfold hasN at h
  simp only [trOf]
  split at h
  ·rename_i hb
   have := Nat.eq_of_beq_eq_true hb
   subst this
   exact ⟨c, Tr.get_set _ _ _ _ Nat.lt_log2_self⟩
  ·rename_i hb
   rw [Tr.get_set_ne _ _ _ _ _ (wR hb)]
   exact FO h
 | [], i, h => by simp [hasN] at h
theorem AD : ∀ {l : List (Nat × Blk)} {i : Nat} {b : Blk}, (trOf l).get i = some b -> hasN l i = true
 | [], i, b, h => by rw [trOf, Tr.get_nil] at h; cases h
 | (a, c) :: l, i, b, h => by
  unfold hasN
  split
  ·rfl
  ·rename_i hb
   simp only [trOf] at h
   rw [Tr.get_set_ne _ _ _ _ _ (wR hb)] at h
   exact AD h
section
variable (r : Nat -> Nat) (hs : Nat -> Bool)
def nmB (id id' : Nat) : Bool := match Nat.beq id (r id') with | true => hs id' | false => false
def cFit : List Ch -> List Ch -> Prop
 | [], [] => True
 | .p id off :: l, .p id' off' :: l' => (nmB r hs id id' = true /\ off = off') /\ cFit l l'
 | .sl id off len cap :: l, .sl id' off' len' cap' :: l' => (nmB r hs id id' = true /\ off = off' /\ len = len' /\ cap = cap') /\ cFit l l'
 | .sx id len :: l, .sx id' len' :: l' => (nmB r hs id id' = true /\ len = len') /\ cFit l l'
 | .sz id len :: l, .sz id' len' :: l' => (nmB r hs id id' = true /\ len = len') /\ cFit l l'
 | .mr id :: l, .mr id' :: l' => nmB r hs id id' = true /\ cFit l l'
 | c :: l, c' :: l' => (c.pure = true /\ c'.pure = true /\ c.cells rM = c'.cells rM) /\ cFit l l'
 | _, _ => False
def zT (a b : List Ch) : Prop := match pureC a, pureC b with | true, true => flat a = flat b | _, _ => cFit r hs a b
mutual
def qC : AV -> AV -> Prop
 | _, .any => True
 | .v x, .v y => x = y
 | .u x, .u y => x % 18446744073709551616 = y % 18446744073709551616
 | .v x, .u y => x = u64 y
 | .u x, .v y => u64 x = y
 | .ag a, .ag b => zT r hs a b
 | .p id off, .p id' off' => nmB r hs id id' = true /\ off = off'
 | .sl id off len cap, .sl id' off' len' cap' => nmB r hs id id' = true /\ off = off' /\ len = len' /\ cap = cap'
 | .sx id len, .sx id' len' => nmB r hs id id' = true /\ len = len'
 | .sy id off len, .sy id' off' len' => nmB r hs id id' = true /\ off = off' /\ len = len'
 | .mp id, .mp id' => nmB r hs id id' = true
 | .sz id len, .sz id' len' => nmB r hs id id' = true /\ len = len'
 | .yd id, .yd id' => nmB r hs id id' = true
 | .tp l, .tp l' => u7 l l'
 | .clo f l m, .clo f' l' m' => f = f' /\ u7 l l' /\ u7 m m'
 | .ifc T a, .ifc T' b => T = T' /\ qC a b
 | _, _ => False
def u7 : List AV -> List AV -> Prop
 | [], [] => True
 | a :: l, b :: l' => qC a b /\ u7 l l'
 | _, _ => False
end
def I8 (t : Sl) : List (Nat × AV) -> Prop
 | [] => True
 | (i, v) :: l => qC r hs (t.at i) v /\ I8 t l
def Sl.listed : Sl -> Option (List (Nat × AV)) := fun _ => none
def B4 (t t' : Sl) : Nat -> Prop
 | 0 => True
 | n + 1 => qC r hs (t.at n) (t'.at n) /\ B4 t t' n
def bFit : Blk -> Blk -> Prop
 | .own cs t, .own cs' t' => t = t' /\ zT r hs cs cs'
 | .ro cs, .ro cs' => zT r hs cs cs'
 | .lp st pe t ps asg body D, .lp st' pe' t' ps' asg' body' D' => (st = st' /\ pe = pe' /\ ps = ps' /\ asg = asg' /\ body = body' /\ nmB r hs D D' = true /\ t.n = t'.n) /\ B4 r hs t t' t.n
 | .dfd, .dfd => True
 | .gr cs t e, .gr cs' t' e' => (t = t' /\ e = e') /\ zT r hs cs cs'
 | .own _ _, .dead => True
 | .gr _ _ _, .dead => True
 | .ob o, .ob o' => o = o'
 | .ob _, .dead => True
 | .rz cs, .rz cs' => zT r hs cs cs'
 | .dfd, .dead => True
 | .lp _ _ _ _ _ _ _, .dead => True
 | .dead, .dead => True
 | _, _ => False
def J3 (h : Heap) : List (Nat × Blk) -> Prop
 | [] => True
 | (i, b) :: l => (match h.get (r i) with | some b' => bFit r hs b' b | none => False) /\ J3 h l
end
def xn (h : Heap) (L : List (Nat × Blk)) : Nat -> Bool
 | 0 => true
 | n + 1 => match h.get n with
  | some _ => (match hasN L n with | true => xn h L n | false => false)
  | none => xn h L n
def J8 (r : Nat -> Nat) (x : Nat) : List (Nat × Blk) -> Bool
 | [] => true
 | (i, _) :: l => match Nat.beq x (r i) with | true => false | false => J8 r x l
def zm (r : Nat -> Nat) : List (Nat × Blk) -> Bool
 | [] => true
 | (i, _) :: l => match J8 r (r i) l with | true => zm r l | false => false
def JY (fb : Nat) : List (Nat × Nat) -> Bool
 | [] => true
 | (a, _) :: l => match Nat.ble fb a with | true => JY fb l | false => false
def yh (r : Nat -> Nat) (hs : Nat -> Bool) : List Nat -> List Nat -> Bool
 | [], [] => true
 | a :: l, b :: l' => match nmB r hs a b with | true => yh r hs l l' | false => false
 | _, _ => false
def zH (fb : Nat) (A : AA) (L : LState) (τ : List (Nat × Nat)) : Bool :=
 Nat.beq A.t.n L.n && JY fb τ && xn A.h L.hp fb && zm (ren τ) L.hp && yh (ren τ) (hasN L.hp) A.d L.d
def DP (A : AA) (L : LState) (τ : List (Nat × Nat)) : Prop := I8 (ren τ) (hasN L.hp) A.t L.sl /\ J3 (ren τ) (hasN L.hp) A.h L.hp
def wn (ρ : Names) (L : List (Nat × Blk)) (r : Nat -> Nat) : Names := fun i => match hasN L i with | true => ρ (r i) | false => none
section
variable {ρ : Names} {L : List (Nat × Blk)} {r : Nat -> Nat}
theorem tH {id id' : Nat} (h : nmB r (hasN L) id id' = true) {v : NM} (hv : ρ id = some v) : wn ρ L r id' = some v := by
 unfold nmB at h
 split at h
 ·rename_i hb
  have := Nat.eq_of_beq_eq_true hb
  subst this
  simp only [wn, h]
  exact hv
 ·cases h
theorem wx : ∀ {a b : List Ch}, cFit r (hasN L) a b -> DefC ρ a -> DefC (wn ρ L r) b /\ flatR (wn ρ L r) b = flatR ρ a
 | [], [], _, _ => ⟨tt0, rfl⟩
 | [], _ :: _, h, _ => by simp [cFit] at h
 | c :: l, [], h, _ => by cases c <;> simp [cFit] at h
 | c :: l, c' :: l', h, hd => by
  have key : ∀ (hc : c.pure = true /\ c'.pure = true /\ c.cells rM = c'.cells rM) (hr : cFit r (hasN L) l l'), DefC (wn ρ L r) (c' :: l') /\ flatR (wn ρ L r) (c' :: l') = flatR ρ (c :: l) := by
   intro ⟨h1, h2, h3⟩ hr
   obtain ⟨e1, e2⟩ := wx hr hd.2
   exact ⟨⟨(Ch.pure_cells h2 _ rM).2, e1⟩, by simp only [flatR, e2, (Ch.pure_cells h2 (wn ρ L r) rM).1, (Ch.pure_cells h1 ρ rM).1, h3]⟩
  cases c <;> cases c' <;> simp only [cFit] at h <;> (try exact key h.1 h.2)
  ·obtain ⟨⟨h1, rfl⟩, h2⟩ := h
   obtain ⟨e1, e2⟩ := wx h2 hd.2
   obtain ⟨v, hv⟩ := hd.1
   have := tH h1 hv
   exact ⟨⟨⟨v, this⟩, e1⟩, by simp only [flatR, Ch.cells, Names.at, this, hv, e2]⟩
  ·obtain ⟨⟨h1, rfl, rfl, rfl⟩, h2⟩ := h
   obtain ⟨e1, e2⟩ := wx h2 hd.2
   obtain ⟨v, hv⟩ := hd.1
   have := tH h1 hv
   exact ⟨⟨⟨v, this⟩, e1⟩, by simp only [flatR, Ch.cells, Names.at, this, hv, e2]⟩
  ·obtain ⟨⟨h1, rfl⟩, h2⟩ := h
   obtain ⟨e1, e2⟩ := wx h2 hd.2
   obtain ⟨v, hv⟩ := hd.1
   have := tH h1 hv
   exact ⟨⟨⟨v, this⟩, e1⟩, by simp only [flatR, Ch.cells, Names.at, Names.room, this, hv, e2]⟩
  ·obtain ⟨⟨h1, rfl⟩, h2⟩ := h
   obtain ⟨e1, e2⟩ := wx h2 hd.2
   obtain ⟨v, hv, hz⟩ := hd.1
   have := tH h1 hv
   exact ⟨⟨⟨v, this, hz⟩, e1⟩, by simp only [flatR, Ch.cells, Names.sz, this, hv, e2]⟩
  ·obtain ⟨h1, h2⟩ := h
   obtain ⟨e1, e2⟩ := wx h2 hd.2
   obtain ⟨v, hv⟩ := hd.1
   have := tH h1 hv
   exact ⟨⟨⟨v, this⟩, e1⟩, by simp only [flatR, Ch.cells, Names.mref, this, hv, e2]⟩
theorem xC {a b : List Ch} (h : zT r (hasN L) a b) (hd : DefC ρ a) : DefC (wn ρ L r) b /\ flatR (wn ρ L r) b = flatR ρ a := by
 unfold zT at h
 split at h
 ·rename_i h1 h2
  obtain ⟨e1, e2⟩ := qg ρ h1
  obtain ⟨e3, e4⟩ := qg (wn ρ L r) h2
  exact ⟨e4, by rw [e3, e1, h]⟩
 ·exact wx h hd
mutual
theorem zq : ∀ {a b : AV} {x : Value}, qC r (hasN L) a b -> Rep ρ a x -> Rep (wn ρ L r) b x
 | a, .any, x, _, _ => trivial
 | .v y, .v z, x, h, hx => by simp only [qC] at h; simp only [Rep] at hx ⊢; rw [hx, h]
 | .u y, .u z, x, h, hx => by simp only [qC] at h; simp only [Rep, u64] at hx ⊢; rw [hx, h]
 | .v y, .u z, x, h, hx => by simp only [qC] at h; simp only [Rep] at hx ⊢; rw [hx, h]
 | .u y, .v z, x, h, hx => by simp only [qC] at h; simp only [Rep] at hx ⊢; rw [hx, h]
 | .ag a, .ag b, x, h, hx => by
  simp only [qC] at h
  simp only [Rep] at hx ⊢
  obtain ⟨e1, e2⟩ := xC h hx.1
  exact ⟨e1, by rw [e2]; exact hx.2⟩
 | .p id off, .p id' off', x, h, hx => by
  simp only [qC] at h
  obtain ⟨h1, rfl⟩ := h
  simp only [Rep] at hx ⊢
  obtain ⟨v, h2, h3⟩ := hx
  exact ⟨v, tH h1 h2, h3⟩
 | .sl id off len cap, .sl id' off' len' cap', x, h, hx => by
  simp only [qC] at h
  obtain ⟨h1, rfl, rfl, rfl⟩ := h
  simp only [Rep] at hx ⊢
  obtain ⟨v, h2, h3⟩ := hx
  exact ⟨v, tH h1 h2, h3⟩
 | .yd id, .yd id', x, h, hx => by
  simp only [qC] at h
  simp only [Rep] at hx ⊢
  obtain ⟨v, h2, h3⟩ := hx
  exact ⟨v, tH h h2, h3⟩
 | .sx id len, .sx id' len', x, h, hx => by
  simp only [qC] at h
  obtain ⟨h1, rfl⟩ := h
  simp only [Rep] at hx ⊢
  obtain ⟨v, h2, h3⟩ := hx
  exact ⟨v, tH h1 h2, h3⟩
 | .sy id off len, .sy id' off' len', x, h, hx => by
  simp only [qC] at h
  obtain ⟨h1, rfl, rfl⟩ := h
  simp only [Rep] at hx ⊢
  obtain ⟨v, c, h2, h3⟩ := hx
  exact ⟨v, c, tH h1 h2, h3⟩
 | .sz id len, .sz id' len', x, h, hx => by
  simp only [qC] at h
  obtain ⟨h1, rfl⟩ := h
  simp only [Rep] at hx ⊢
  obtain ⟨v, h2, h3⟩ := hx
  exact ⟨v, tH h1 h2, h3⟩
 | .mp id, .mp id', x, h, hx => by
  simp only [qC] at h
  simp only [Rep] at hx ⊢
  obtain ⟨v, h2, h3⟩ := hx
  exact ⟨v, tH h h2, h3⟩
 | .tp l, .tp l', x, h, hx => by
  simp only [qC] at h
  simp only [Rep] at hx ⊢
  obtain ⟨xs, h1, h2⟩ := hx
  exact ⟨xs, yo h h1, h2⟩
 | .clo f l m, .clo f' l' m', x, h, hx => by
  simp only [qC] at h
  obtain ⟨rfl, h1, h2⟩ := h
  simp only [Rep] at hx ⊢
  obtain ⟨xs, ys, h3, h4, h5⟩ := hx
  exact ⟨xs, ys, yo h1 h3, yo h2 h4, h5⟩
 | .ifc T a, .ifc T' b, x, h, hx => by
  simp only [qC] at h
  obtain ⟨rfl, h1⟩ := h
  simp only [Rep] at hx ⊢
  obtain ⟨y, h2, h3⟩ := hx
  exact ⟨y, zq h1 h2, h3⟩
 | .any, .sz _ _, _, h, _ | .v _, .sz _ _, _, h, _ | .u _, .sz _ _, _, h, _ | .ag _, .sz _ _, _, h, _ | .tp _, .sz _ _, _, h, _ | .clo _ _ _, .sz _ _, _, h, _ | .p _ _, .sz _ _, _, h, _ | .sl _ _ _ _, .sz _ _, _, h, _ | .yd _, .sz _ _, _, h, _ | .ifc _ _, .sz _ _, _, h, _ | .sx _ _, .sz _ _, _, h, _ | .sy _ _ _, .sz _ _, _, h, _ | .mp _, .sz _ _, _, h, _ => by simp [qC] at h
 | .sz _ _, .v _, _, h, _ | .sz _ _, .u _, _, h, _ | .sz _ _, .ag _, _, h, _ | .sz _ _, .tp _, _, h, _ | .sz _ _, .clo _ _ _, _, h, _ | .sz _ _, .p _ _, _, h, _ | .sz _ _, .sl _ _ _ _, _, h, _ | .sz _ _, .yd _, _, h, _ | .sz _ _, .ifc _ _, _, h, _ | .sz _ _, .sx _ _, _, h, _ | .sz _ _, .sy _ _ _, _, h, _ | .sz _ _, .mp _, _, h, _ => by simp [qC] at h
 | .any, .mp _, _, h, _ | .v _, .mp _, _, h, _ | .u _, .mp _, _, h, _ | .ag _, .mp _, _, h, _ | .tp _, .mp _, _, h, _ | .clo _ _ _, .mp _, _, h, _ | .p _ _, .mp _, _, h, _ | .sl _ _ _ _, .mp _, _, h, _ | .yd _, .mp _, _, h, _ | .ifc _ _, .mp _, _, h, _ | .sx _ _, .mp _, _, h, _ | .sy _ _ _, .mp _, _, h, _ => by simp [qC] at h
 | .mp _, .v _, _, h, _ | .mp _, .u _, _, h, _ | .mp _, .ag _, _, h, _ | .mp _, .tp _, _, h, _ | .mp _, .clo _ _ _, _, h, _ | .mp _, .p _ _, _, h, _ | .mp _, .sl _ _ _ _, _, h, _ | .mp _, .yd _, _, h, _ | .mp _, .ifc _ _, _, h, _ | .mp _, .sx _ _, _, h, _ | .mp _, .sy _ _ _, _, h, _ => by simp [qC] at h
 | .any, .sy _ _ _, _, h, _ | .v _, .sy _ _ _, _, h, _ | .u _, .sy _ _ _, _, h, _ | .ag _, .sy _ _ _, _, h, _ | .tp _, .sy _ _ _, _, h, _ | .clo _ _ _, .sy _ _ _, _, h, _ | .p _ _, .sy _ _ _, _, h, _ | .sl _ _ _ _, .sy _ _ _, _, h, _ | .yd _, .sy _ _ _, _, h, _ | .ifc _ _, .sy _ _ _, _, h, _ | .sx _ _, .sy _ _ _, _, h, _ => by simp [qC] at h
 | .sy _ _ _, .v _, _, h, _ | .sy _ _ _, .u _, _, h, _ | .sy _ _ _, .ag _, _, h, _ | .sy _ _ _, .tp _, _, h, _ | .sy _ _ _, .clo _ _ _, _, h, _ | .sy _ _ _, .p _ _, _, h, _ | .sy _ _ _, .sl _ _ _ _, _, h, _ | .sy _ _ _, .yd _, _, h, _ | .sy _ _ _, .ifc _ _, _, h, _ | .sy _ _ _, .sx _ _, _, h, _ => by simp [qC] at h
 | .any, .sx _ _, _, h, _ | .v _, .sx _ _, _, h, _ | .u _, .sx _ _, _, h, _ | .ag _, .sx _ _, _, h, _ | .tp _, .sx _ _, _, h, _ | .clo _ _ _, .sx _ _, _, h, _ | .p _ _, .sx _ _, _, h, _ | .sl _ _ _ _, .sx _ _, _, h, _ | .yd _, .sx _ _, _, h, _ | .ifc _ _, .sx _ _, _, h, _ => by simp [qC] at h
 | .sx _ _, .v _, _, h, _ | .sx _ _, .u _, _, h, _ | .sx _ _, .ag _, _, h, _ | .sx _ _, .tp _, _, h, _ | .sx _ _, .clo _ _ _, _, h, _ | .sx _ _, .p _ _, _, h, _ | .sx _ _, .sl _ _ _ _, _, h, _ | .sx _ _, .yd _, _, h, _ | .sx _ _, .ifc _ _, _, h, _ => by simp [qC] at h
 | .any, .ifc _ _, _, h, _ | .v _, .ifc _ _, _, h, _ | .u _, .ifc _ _, _, h, _ | .ag _, .ifc _ _, _, h, _ | .tp _, .ifc _ _, _, h, _ | .clo _ _ _, .ifc _ _, _, h, _ | .p _ _, .ifc _ _, _, h, _ | .sl _ _ _ _, .ifc _ _, _, h, _ | .yd _, .ifc _ _, _, h, _ => by simp [qC] at h
 | .ifc _ _, .v _, _, h, _ | .ifc _ _, .u _, _, h, _ | .ifc _ _, .ag _, _, h, _ | .ifc _ _, .tp _, _, h, _ | .ifc _ _, .clo _ _ _, _, h, _ | .ifc _ _, .p _ _, _, h, _ | .ifc _ _, .sl _ _ _ _, _, h, _ | .ifc _ _, .yd _, _, h, _ => by simp [qC] at h
 | .any, .v _, _, h, _ | .any, .u _, _, h, _ | .any, .ag _, _, h, _ | .any, .tp _, _, h, _ | .any, .clo _ _ _, _, h, _ | .any, .p _ _, _, h, _ | .any, .sl _ _ _ _, _, h, _ | .any, .yd _, _, h, _ => by simp [qC] at h
 | .v _, .ag _, _, h, _ | .v _, .tp _, _, h, _ | .v _, .clo _ _ _, _, h, _ | .v _, .p _ _, _, h, _ | .v _, .sl _ _ _ _, _, h, _ | .v _, .yd _, _, h, _ => by simp [qC] at h
 | .u _, .ag _, _, h, _ | .u _, .tp _, _, h, _ | .u _, .clo _ _ _, _, h, _ | .u _, .p _ _, _, h, _ | .u _, .sl _ _ _ _, _, h, _ | .u _, .yd _, _, h, _ => by simp [qC] at h
 | .ag _, .v _, _, h, _ | .ag _, .u _, _, h, _ | .ag _, .tp _, _, h, _ | .ag _, .clo _ _ _, _, h, _ | .ag _, .p _ _, _, h, _ | .ag _, .sl _ _ _ _, _, h, _ | .ag _, .yd _, _, h, _ => by simp [qC] at h
 | .tp _, .v _, _, h, _ | .tp _, .u _, _, h, _ | .tp _, .ag _, _, h, _ | .tp _, .clo _ _ _, _, h, _ | .tp _, .p _ _, _, h, _ | .tp _, .sl _ _ _ _, _, h, _ | .tp _, .yd _, _, h, _ => by simp [qC] at h
 | .clo _ _ _, .v _, _, h, _ | .clo _ _ _, .u _, _, h, _ | .clo _ _ _, .ag _, _, h, _ | .clo _ _ _, .tp _, _, h, _ | .clo _ _ _, .p _ _, _, h, _ | .clo _ _ _, .sl _ _ _ _, _, h, _ | .clo _ _ _, .yd _, _, h, _ => by simp [qC] at h
 | .p _ _, .v _, _, h, _ | .p _ _, .u _, _, h, _ | .p _ _, .ag _, _, h, _ | .p _ _, .tp _, _, h, _ | .p _ _, .clo _ _ _, _, h, _ | .p _ _, .sl _ _ _ _, _, h, _ | .p _ _, .yd _, _, h, _ => by simp [qC] at h
 | .sl _ _ _ _, .v _, _, h, _ | .sl _ _ _ _, .u _, _, h, _ | .sl _ _ _ _, .ag _, _, h, _ | .sl _ _ _ _, .tp _, _, h, _ | .sl _ _ _ _, .clo _ _ _, _, h, _ | .sl _ _ _ _, .p _ _, _, h, _ | .sl _ _ _ _, .yd _, _, h, _ => by simp [qC] at h
 | .yd _, .v _, _, h, _ | .yd _, .u _, _, h, _ | .yd _, .ag _, _, h, _ | .yd _, .tp _, _, h, _ | .yd _, .clo _ _ _, _, h, _ | .yd _, .p _ _, _, h, _ | .yd _, .sl _ _ _ _, _, h, _ => by simp [qC] at h
theorem yo : ∀ {a b : List AV} {x : List Value}, u7 r (hasN L) a b -> Reps ρ a x -> Reps (wn ρ L r) b x
 | [], [], x, _, hx => by simpa only [Reps] using hx
 | a :: l, b :: l', x, h, hx => by
  simp only [u7] at h
  simp only [Reps] at hx ⊢
  obtain ⟨y, s, h1, h2, h3⟩ := hx
  exact ⟨y, s, h1, zq h.1 h2, yo h.2 h3⟩
 | [], _ :: _, _, h, _ => by simp [u7] at h
 | _ :: _, [], _, h, _ => by simp [u7] at h
end
theorem Du {t : Sl} : ∀ {l : List (Nat × AV)}, I8 r (hasN L) t l -> ∀ i v, (i, v) ∈ l -> qC r (hasN L) (t.at i) v
 | [], _, i, v, h => by cases h
 | (j, u) :: l, hf, i, v, h => by
  simp only [List.mem_cons, pi0] at h
  rcases h with ⟨rfl, rfl⟩ | h
  ·exact hf.1
  ·exact Du hf.2 i v h
theorem DX {t t' : Sl} : ∀ {n : Nat}, B4 r (hasN L) t t' n -> ∀ i, i < n -> qC r (hasN L) (t.at i) (t'.at i)
 | 0, _, i, h => by omega
 | n + 1, hf, i, h => by
  by_cases e : i = n
  ·subst e; exact hf.1
  ·exact DX hf.2 i (by omega)
theorem yx {h : Heap} : ∀ {l : List (Nat × Blk)}, J3 r (hasN L) h l -> ∀ i b, (i, b) ∈ l -> ∃ b', h.get (r i) = some b' /\ bFit r (hasN L) b' b
 | [], _, i, b, h => by cases h
 | (j, u) :: l, hf, i, b, h => by
  simp only [List.mem_cons, pi0] at h
  rcases h with ⟨rfl, rfl⟩ | h
  ·have := hf.1
   split at this
   ·rename_i b' hb; exact ⟨b', hb, this⟩
   ·exact this.elim
  ·exact yx hf.2 i b h
theorem PX {B : Nat} {w : World} {v : NM} {a b : Blk} (h : bFit r (hasN L) a b) (hb : BAt B ρ w v a) : BAt B (wn ρ L r) w v b := by
 cases a <;> cases b <;> simp only [bFit] at h
 ·obtain ⟨rfl, h⟩ := h
  obtain ⟨h1, h2, h3, h4⟩ := hb
  obtain ⟨e1, e2⟩ := xC h h3
  exact ⟨h1, h2, e1, by rw [e2]; exact h4⟩
 ·exact hb.2.1
 ·obtain ⟨h1, h3, h4⟩ := hb
  obtain ⟨e1, e2⟩ := xC h h3
  exact ⟨h1, e1, by rw [e2]; exact h4⟩
 ·rename_i st pe t ps asg body D st' pe' t' ps' asg' body' D'
  obtain ⟨⟨rfl, rfl, rfl, rfl, rfl, hD, hn⟩, hr⟩ := h
  obtain ⟨h1, h2, fn, tmps, d, h3, h4, h5⟩ := hb
  refine ⟨h1, h2, fn, tmps, d, ⟨by rw [← hn]; exact h3.len, by rw [← hn]; exact h3.cap, fun i x hx => ?_⟩, tH hD h4, h5⟩
  have hlt : i < t.n := by rw [h3.len]; exact (Array.getElem?_eq_some_iff.1 hx).1
  exact zq (DX hr i hlt) (h3.at_ i x hx)
 ·exact hb.2.1
 ·exact hb
 ·exact hb.2.1
 ·exact hb
 ·exact hb.2.1
 ·obtain ⟨⟨rfl, rfl⟩, h⟩ := h
  obtain ⟨h1, h2, h3, rest, fz, h4, h5⟩ := hb
  obtain ⟨e1, e2⟩ := xC h h3
  exact ⟨h1, h2, e1, rest, fz, by rw [e2]; exact h4, by rw [e2]; exact h5⟩
 ·exact hb.2.1
 ·subst h; exact hb
 ·obtain ⟨h1, h3, h4, h5⟩ := hb
  obtain ⟨e1, e2⟩ := xC h h3
  exact ⟨h1, e1, by rw [e2]; exact h4, by rw [e2]; exact h5⟩
theorem De {a b : Blk} (h : bFit r (hasN L) a b) (hl : b.live = true) : a.live = true := by
 cases a <;> cases b <;> first | rfl | (simp [Blk.live] at hl; done) | (simp [bFit] at h; done)
theorem BU : ∀ {a b : List Nat} {ds : List Deferred}, yh r (hasN L) a b = true -> wJ ρ a ds -> wJ (wn ρ L r) b ds
 | [], [], ds, _, h => h
 | i :: l, j :: l', ds, hm, h => by
  unfold yh at hm
  split at hm
  ·rename_i hn
   obtain ⟨b, s, h1, h2, h3⟩ := h
   exact ⟨b, s, tH hn h1, h2, BU hm h3⟩
  ·cases hm
 | [], _ :: _, _, hm, _ => by simp [yh] at hm
 | _ :: _, [], _, hm, _ => by simp [yh] at hm
end
theorem xQ {h : Heap} {L : List (Nat × Blk)} : ∀ {n : Nat}, xn h L n = true -> ∀ i, i < n -> ∀ b, h.get i = some b -> hasN L i = true
 | 0, _, i, hi, _, _ => by omega
 | n + 1, ha, i, hi, b, hb => by
  unfold xn at ha
  by_cases e : i = n
  ·subst e
   rw [hb] at ha
   simp only at ha
   split at ha
   ·assumption
   ·cases ha
  ·split at ha
   ·split at ha
    ·exact xQ ha i (by omega) b hb
    ·cases ha
   ·exact xQ ha i (by omega) b hb
theorem BW {r : Nat -> Nat} {x : Nat} : ∀ {l : List (Nat × Blk)}, J8 r x l = true -> ∀ i, hasN l i = true -> x ≠ r i
 | [], _, i, h => by simp [hasN] at h
 | (j, b) :: l, hn, i, h => by
  unfold J8 at hn
  split at hn
  ·cases hn
  ·rename_i hb
   unfold hasN at h
   split at h
   ·rename_i he
    have := Nat.eq_of_beq_eq_true he
    subst this
    exact wR hb
   ·exact BW hn i h
theorem AQ {r : Nat -> Nat} : ∀ {l : List (Nat × Blk)}, zm r l = true -> ∀ i j, hasN l i = true -> hasN l j = true -> r i = r j -> i = j
 | [], _, i, j, h, _, _ => by simp [hasN] at h
 | (k, b) :: l, ha, i, j, hi, hj, hr => by
  unfold zm at ha
  split at ha
  ·rename_i hn
   by_cases e1 : i = k
   ·subst e1
    by_cases e2 : j = i
    ·exact e2.symm
    ·have : hasN l j = true := by
      unfold hasN at hj
      split at hj
      ·rename_i he; exact absurd (Nat.eq_of_beq_eq_true he) e2
      ·exact hj
     exact absurd hr (BW hn j this)
   ·have hi' : hasN l i = true := by
     unfold hasN at hi
     split at hi
     ·rename_i he; exact absurd (Nat.eq_of_beq_eq_true he) e1
     ·exact hi
    by_cases e2 : j = k
    ·subst e2
     exact absurd hr.symm (BW hn i hi')
    ·have hj' : hasN l j = true := by
      unfold hasN at hj
      split at hj
      ·rename_i he; exact absurd (Nat.eq_of_beq_eq_true he) e2
      ·exact hj
     exact AQ ha i j hi' hj' hr
  ·cases ha
theorem G3 {fb : Nat} : ∀ {τ : List (Nat × Nat)}, JY fb τ = true -> ∀ i, i < fb -> ren τ i = i
 | [], _, i, _ => rfl
 | (a, b) :: l, h, i, hi => by
  unfold JY at h
  split at h
  ·rename_i hb
   have := Nat.le_of_ble_eq_true hb
   unfold ren
   split
   ·rename_i he
    have := Nat.eq_of_beq_eq_true he
    omega
   ·exact G3 h i hi
  ·cases h
theorem wm {fb : Nat} {A : AA} {L : LState} {τ : List (Nat × Nat)} (hb : zH fb A L τ = true) (hp : DP A L τ) {w0 : World} {ρ : Names} {a : Act} {w : World} (hR : Rel w0 ρ A a w) :
  ∃ ρ', ρ.leB fb ρ' /\ Rel w0 ρ' L.aa a w := by
 unfold zH at hb
 simp only [Bool.and_eq_true] at hb
 obtain ⟨⟨⟨⟨b1, b2⟩, b3⟩, b4⟩, b5⟩ := hb
 have b1 := Nat.eq_of_beq_eq_true b1
 obtain ⟨p1, p2⟩ := hp
 refine ⟨wn ρ L.hp (ren τ), fun i v hi hv => ?_, ⟨⟨by show L.n = _; rw [← b1]; exact hR.slots.len, by show L.n < _; rw [← b1]; exact hR.slots.cap, fun i x hx => ?_⟩, BU b5 hR.defers, hR.below, ?_⟩⟩
 ·have hne : A.h.get i ≠ none := fun e => by rw [hR.heap.none_ i e] at hv; cases hv
  obtain ⟨b, hb⟩ := Option.ne_none_iff_exists'.1 hne
  have := xQ b3 i hi b hb
  simp only [wn, this, G3 b2 i hi]
  exact hv
 ·have h0 := hR.slots.at_ i x hx
  show Rep _ (match (trOf L.sl).get i with | some a => a | none => AV.any) x
  cases hg : (trOf L.sl).get i with
  | none => trivial
  | some v => exact zq (Du p1 i v (wq _ _ _ hg)) h0
 ·refine ⟨⟨fun id blk hi => ?_, fun i v hv => ?_, hR.heap.size⟩, fun i j u v bi bj gi gj li lj hu hv huv hB => ?_, fun i hi => ?_⟩
  ·obtain ⟨b', h1, h2⟩ := yx p2 id blk (wq _ _ _ hi)
   obtain ⟨v, h3, h4⟩ := hR.heap.at_ _ _ h1
   refine ⟨v, ?_, PX h2 h4⟩
   simp only [wn, AD hi]
   exact h3
  ·simp only [wn] at hv
   split at hv
   ·exact hR.heap.lt _ _ hv
   ·cases hv
  ·simp only [wn] at hu hv
   split at hu
   ·rename_i h1
    split at hv
    ·rename_i h2
     obtain ⟨ci, e1, e2⟩ := yx p2 i bi (wq _ _ _ gi)
     obtain ⟨cj, e3, e4⟩ := yx p2 j bj (wq _ _ _ gj)
     exact AQ b4 i j h1 h2 (hR.heap.inj _ _ u v ci cj e1 e3 (De e2 li) (De e4 lj) hu hv huv hB)
    ·cases hv
   ·cases hu
  ·simp only [wn]
   cases hh : hasN L.hp i with
   | false => rfl
   | true =>
    obtain ⟨b, hb⟩ := FO hh
    have hi' : (trOf L.hp).get i = none := hi
    rw [hb] at hi'; cases hi'
def CT (k : Nat) : List (Nat × Blk) -> Bool
 | [] => true
 | (i, _) :: l => match Nat.blt i k with | true => CT k l | false => false
theorem un {k : Nat} : ∀ {l : List (Nat × Blk)}, CT k l = true -> ∀ j, k <= j -> (trOf l).get j = none
 | [], _, j, _ => by rw [trOf, Tr.get_nil]
 | (i, b) :: l, h, j, hj => by
  unfold CT at h
  split at h
  ·rename_i hb
   have hlt : i < k := by simpa [Nat.blt_eq] using hb
   simp only [trOf]
   rw [Tr.get_set_ne _ _ _ _ _ (by omega)]
   exact un h j hj
  ·cases h
def nmC (hs : Nat -> Bool) : List Ch -> Bool
 | [] => true
 | .p id _ :: l => match hs id with | true => nmC hs l | false => false
 | .sl id _ _ _ :: l => match hs id with | true => nmC hs l | false => false
 | .sx id _ :: l => match hs id with | true => nmC hs l | false => false
 | .sz id _ :: l => match hs id with | true => nmC hs l | false => false
 | .mr id :: l => match hs id with | true => nmC hs l | false => false
 | _ :: l => nmC hs l
mutual
def nmV (hs : Nat -> Bool) : AV -> Bool
 | .ag cs => nmC hs cs
 | .p id _ => hs id
 | .sl id _ _ _ => hs id
 | .sx id _ => hs id
 | .sy id _ _ => hs id
 | .mp id => hs id
 | .sz id _ => hs id
 | .yd id => hs id
 | .tp l => Ko hs l
 | .clo _ l m => match Ko hs l with | true => Ko hs m | false => false
 | .ifc _ a => nmV hs a
 | _ => true
def Ko (hs : Nat -> Bool) : List AV -> Bool
 | [] => true
 | a :: l => match nmV hs a with | true => Ko hs l | false => false
end
def Dm (hs : Nat -> Bool) (t : Sl) : Nat -> Bool
 | 0 => true
 | n + 1 => match nmV hs (t.at n) with | true => Dm hs t n | false => false
def nmBk (hs : Nat -> Bool) : Blk -> Bool
 | .own cs _ => nmC hs cs
 | .ro cs => nmC hs cs
 | .gr cs _ _ => nmC hs cs
 | .rz cs => nmC hs cs
 | .lp _ _ t _ _ _ D => match hs D with | true => Dm hs t t.n | false => false
 | _ => true
def Ry (hs : Nat -> Bool) : List (Nat × AV) -> Bool
 | [] => true
 | (_, v) :: l => match nmV hs v with | true => Ry hs l | false => false
def Pd (hs : Nat -> Bool) : List (Nat × Blk) -> Bool
 | [] => true
 | (_, b) :: l => match nmBk hs b with | true => Pd hs l | false => false
def nmL (L : LState) : Bool := match Ry (hasN L.hp) L.sl with | true => Pd (hasN L.hp) L.hp | false => false
def xU (t : Sl) : List Nat -> List (Nat × AV)
 | [] => []
 | i :: l => (i, t.at i) :: xU t l
def Lr : List (Nat × List Nat) -> Nat -> Option (List Nat)
 | [], _ => none
 | (j, ks) :: l, i => match Nat.beq i j with | true => some ks | false => Lr l i
def ID (lk : List (Nat × List Nat)) (i : Nat) : Blk -> Blk
 | .lp st pe t ps asg body D => match Lr lk i with
  | some ks => .lp st pe ⟨t.n, .any, trOf (xU t ks)⟩ ps asg body D
  | none => .lp st pe t ps asg body D
 | b => b
def Gl (h : Heap) (lk : List (Nat × List Nat)) : List Nat -> Option (List (Nat × Blk))
 | [] => some []
 | i :: l => match h.get i, Gl h lk l with | some b, some r => some ((i, ID lk i b) :: r) | _, _ => none
def Nb : List (Nat × AV) -> List Nat
 | [] => []
 | (i, _) :: l => i :: Nb l
def Mn : List (Nat × Blk) -> List Nat
 | [] => []
 | (i, _) :: l => i :: Mn l
def Gx (A : AA) (sk hk : List Nat) (lk : List (Nat × List Nat)) : Option LState := match Gl A.h lk hk with | some hp => some ⟨A.t.n, xU A.t sk, hp, A.d⟩ | none => none
section
variable {hs : Nat -> Bool}
theorem rW {id : Nat} (h : hs id = true) : nmB (ren []) hs id id = true := by
 unfold nmB
 simp only [ren, Nat.beq_refl, h]
theorem tV : ∀ {l : List Ch}, nmC hs l = true -> cFit (ren []) hs l l
 | [], _ => trivial
 | c :: l, h => by
  cases c
  case p id off =>
   simp only [nmC] at h
   split at h
   ·rename_i hb
    simp only [cFit]
    exact ⟨⟨rW hb, tt0⟩, tV h⟩
   ·cases h
  case sl id off len cap =>
   simp only [nmC] at h
   split at h
   ·rename_i hb
    simp only [cFit]
    exact ⟨⟨rW hb, tt0, tt0, tt0⟩, tV h⟩
   ·cases h
  case sx id len =>
   simp only [nmC] at h
   split at h
   ·rename_i hb
    simp only [cFit]
    exact ⟨⟨rW hb, tt0⟩, tV h⟩
   ·cases h
  case sz id len =>
   simp only [nmC] at h
   split at h
   ·rename_i hb
    simp only [cFit]
    exact ⟨⟨rW hb, tt0⟩, tV h⟩
   ·cases h
  case mr id =>
   simp only [nmC] at h
   split at h
   ·rename_i hb
    simp only [cFit]
    exact ⟨rW hb, tV h⟩
   ·cases h
  all_goals
   simp only [nmC] at h
   simp only [cFit]
   exact ⟨⟨rfl, rfl, tt0⟩, tV h⟩
theorem vc {l : List Ch} (h : nmC hs l = true) : zT (ren []) hs l l := by
 unfold zT
 split
 ·rfl
 ·exact tV h
mutual
theorem vu : ∀ {a : AV}, nmV hs a = true -> qC (ren []) hs a a
 | .any, _ => by simp only [qC]
 | .v _, _ => by simp only [qC]
 | .u _, _ => by simp only [qC]
 | .ag cs, h => by simp only [qC]; simp only [nmV] at h; exact vc h
 | .p id off, h => by simp only [qC]; simp only [nmV] at h; exact ⟨rW h, tt0⟩
 | .sl id off len cap, h => by simp only [qC]; simp only [nmV] at h; exact ⟨rW h, tt0, tt0, tt0⟩
 | .sx id len, h => by simp only [qC]; simp only [nmV] at h; exact ⟨rW h, tt0⟩
 | .sy id off len, h => by simp only [qC]; simp only [nmV] at h; exact ⟨rW h, tt0, tt0⟩
 | .mp id, h => by simp only [qC]; simp only [nmV] at h; exact rW h
 | .sz id len, h => by simp only [qC]; simp only [nmV] at h; exact ⟨rW h, tt0⟩
 | .yd id, h => by simp only [qC]; simp only [nmV] at h; exact rW h
 | .tp l, h => by simp only [qC]; simp only [nmV] at h; exact vC h
 | .clo f l m, h => by
  simp only [qC]
  simp only [nmV] at h
  split at h
  ·rename_i hb; exact ⟨tt0, vC hb, vC h⟩
  ·cases h
 | .ifc T a, h => by simp only [qC]; simp only [nmV] at h; exact ⟨tt0, vu h⟩
theorem vC : ∀ {l : List AV}, Ko hs l = true -> u7 (ren []) hs l l
 | [], _ => by simp only [u7]
 | a :: l, h => by
  simp only [u7]
  simp only [Ko] at h
  split at h
  ·rename_i hb; exact ⟨vu hb, vC h⟩
  ·cases h
end
theorem vA {t : Sl} : ∀ {n : Nat}, Dm hs t n = true -> B4 (ren []) hs t t n
 | 0, _ => trivial
 | n + 1, h => by
  simp only [Dm] at h
  split at h
  ·rename_i hb; exact ⟨vu hb, vA h⟩
  ·cases h
theorem DD {b : Blk} (h : nmBk hs b = true) : bFit (ren []) hs b b := by
 cases b <;> simp only [nmBk] at h <;> simp only [bFit]
 ·exact ⟨tt0, vc h⟩
 ·exact vc h
 ·split at h
  ·rename_i hb; exact ⟨⟨tt0, tt0, tt0, tt0, tt0, rW hb, tt0⟩, vA h⟩
  ·cases h
 ·exact ⟨⟨tt0, tt0⟩, vc h⟩
 ·exact vc h
theorem BI {t : Sl} : ∀ {l : List Nat}, Ry hs (xU t l) = true -> I8 (ren []) hs t (xU t l)
 | [], _ => trivial
 | i :: l, h => by
  simp only [xU, Ry] at h
  split at h
  ·rename_i hb; exact ⟨vu hb, BI h⟩
  ·cases h
theorem Da {t : Sl} : ∀ {ks : List Nat} {i : Nat} {a : AV}, (i, a) ∈ xU t ks -> a = t.at i
 | [], i, a, h => by cases h
 | k :: ks, i, a, h => by
  simp only [xU, List.mem_cons, pi0] at h
  rcases h with ⟨rfl, rfl⟩ | h
  ·rfl
  ·exact Da h
theorem AS {t : Sl} {ks : List Nat} : ∀ {n : Nat}, Dm hs ⟨t.n, .any, trOf (xU t ks)⟩ n = true -> B4 (ren []) hs t ⟨t.n, .any, trOf (xU t ks)⟩ n
 | 0, _ => trivial
 | n + 1, h => by
  simp only [Dm] at h
  split at h
  ·rename_i hb
   refine ⟨?_, AS h⟩
   simp only [Sl.at] at hb ⊢
   cases hg : (trOf (xU t ks)).get n with
   | none => simp only [qC]
   | some a =>
    rw [hg] at hb
    have := Da (wq _ _ _ hg)
    subst this
    exact vu hb
  ·cases h
theorem Kj {lk : List (Nat × List Nat)} {i : Nat} {b : Blk} (h : nmBk hs (ID lk i b) = true) : bFit (ren []) hs b (ID lk i b) := by
 cases b with
 | lp st pe t ps asg body D =>
  unfold ID at h ⊢
  cases hk : Lr lk i with
  | none => rw [hk] at h; exact DD h
  | some ks =>
   rw [hk] at h
   simp only [nmBk] at h
   simp only [bFit]
   split at h
   ·rename_i hb; exact ⟨⟨tt0, tt0, tt0, tt0, tt0, rW hb, tt0⟩, AS h⟩
   ·cases h
 | _ => exact DD h
theorem CU {h : Heap} {lk : List (Nat × List Nat)} : ∀ {l : List Nat} {r : List (Nat × Blk)}, Gl h lk l = some r -> Pd hs r = true -> J3 (ren []) hs h r
 | [], r, hr, _ => by simp only [Gl, oi0] at hr; subst hr; trivial
 | i :: l, r, hr, hn => by
  simp only [Gl] at hr
  split at hr
  ·rename_i b r' hb hr'
   simp only [oi0] at hr; subst hr
   simp only [Pd] at hn
   split at hn
   ·rename_i hbn
    refine ⟨?_, CU hr' hn⟩
    simp only [ren, hb]
    exact Kj hbn
   ·cases hn
  ·cases hr
end
theorem xD {A : AA} {sk hk : List Nat} {lk : List (Nat × List Nat)} {L : LState} (h : Gx A sk hk lk = some L) (hn : nmL L = true) : DP A L [] := by
 unfold Gx at h
 split at h
 ·rename_i hp hh
  simp only [oi0] at h; subst h
  unfold nmL at hn
  split at hn
  ·rename_i h1
   exact ⟨BI h1, CU hh hn⟩
  ·cases hn
 ·cases h
end Go.Ev
set_option linter.unusedSimpArgs false
set_option linter.unusedVariables false
namespace Go.Ev
open Go.RowKit
def te (ops : Array Oper) (n : Nat) : Array Oper := match ops[n]? with | some o => ops.setIfInBounds n { o with after := o.after.push { on := 0, ground := .data } } | none => ops
def DJ (ops : Array Oper) : Bool := match ops[0]? with
 | some o => (match o.op, o.guard with | .move _, none => o.after.isEmpty | _, _ => false)
 | none => false
def zO (P : Program) (X : Rules P) (env : List Entry) (inl : Inl) (os : Nat -> Ora) (ops : Array Oper) (draw : Bool) (fr : Nat) (A : AA) (ob : Prop) : Option (Nat × AA × Prop) :=
 match draw && DJ ops && !(Nat.beq (ul env os ops fr) 0) && Region.noSelect ops && Region.free .any ops (Array.replicate ops.size false) 0 with
 | true => vz P X env inl os (te ops (ul env os ops fr)) true fr A ob
 | false => none
theorem vW (ops : Array Oper) (n : Nat) : (te ops n).size = ops.size := by unfold te; split <;> simp
theorem uI (ops : Array Oper) (n j : Nat) : ∃ g : Oper -> Oper, (te ops n)[j]? = (ops[j]?).map g /\ (∀ o, (g o).op = o.op /\ (g o).dst = o.dst /\ (g o).type = o.type /\ (g o).pos = o.pos /\ (g o).guard = o.guard) /\
  ∀ o, (g o).after = o.after ∨ (j = n /\ (g o).after = o.after.push { on := 0, ground := .data }) := by
 unfold te
 split
 ·rename_i o ho
  by_cases e : n = j
  ·subst e
   refine ⟨fun o => { o with after := o.after.push { on := 0, ground := .data } }, ?_, fun o => ⟨rfl, rfl, rfl, rfl, rfl⟩, fun o => .inr ⟨rfl, rfl⟩⟩
   have hlt := (Array.getElem?_eq_some_iff.1 ho).1
   rw [ho, Array.getElem?_setIfInBounds_self]
   simp [hlt]
  ·refine ⟨id, ?_, fun o => ⟨rfl, rfl, rfl, rfl, rfl⟩, fun o => .inl rfl⟩
   rw [Array.getElem?_setIfInBounds_ne e]
   simp
 ·exact ⟨id, by simp, fun o => ⟨rfl, rfl, rfl, rfl, rfl⟩, fun o => .inl rfl⟩
theorem Cn {ops : Array Oper} {n : Nat} {listed : Array Bool} (h : listed.getD 0 false = true) : Region.ready .any (te ops n) listed = Region.ready .any ops listed := by
 unfold Region.ready
 rw [vW]
 congr 1
 funext i
 obtain ⟨g, h1, _, h3⟩ := uI ops n i
 rw [h1]
 cases ops[i]? with
 | none => rfl
 | some o =>
  simp only [Option.map_some, Option.getD_some]
  rcases h3 o with h3 | ⟨_, h3⟩
  ·rw [h3]
  ·rw [h3]
   have h' : listed[0]?.getD false = true := by simpa using h
   simp [h']
theorem E6 {ops : Array Oper} {n : Nat} (tmps : Array Value) : yielded (te ops n) tmps = yielded ops tmps := by
 funext j
 unfold yielded
 obtain ⟨g, h1, h2, _⟩ := uI ops n j
 rw [h1]
 cases ops[j]? with
 | none => rfl
 | some o => simp [(h2 o).2.1]
theorem Dj {F : Fence} {m : Nat} {P : Program} {ops : Array Oper} {n : Nat} {Q : Exit -> Act -> World -> Prop} {i : Nat} {K : Act -> World -> Prop} {a : Act} {w : World}
  (h : wpOpIn F m P (te ops n) Q i K a w) : wpOpIn F m P ops Q i K a w := by
 unfold wpOpIn at h ⊢
 obtain ⟨g, h1, h2, _⟩ := uI ops n i
 rw [h1, E6] at h
 cases e : ops[i]? with
 | none => rw [e] at h; exact h
 | some o =>
  rw [e] at h
  simp only [Option.map_some] at h ⊢
  obtain ⟨g1, g2, g3, g4, g5⟩ := h2 o
  have e2 : ∃ af, g o = { o with after := af } := by
   generalize g o = o' at g1 g2 g3 g4 g5 ⊢
   cases o'
   cases o
   simp only at g1 g2 g3 g4 g5
   subst g1; subst g2; subst g3; subst g4; subst g5
   exact ⟨_, rfl⟩
  obtain ⟨af, e2⟩ := e2
  rw [e2] at h
  exact h
theorem GK {F : Fence} {m : Nat} {P : Program} {ops : Array Oper} {n : Nat} {Q : Exit -> Act -> World -> Prop} : ∀ (f : Nat) (listed : Array Bool) (a : Act) (w : World),
  wpAnyIn F m P .any (te ops n) Q f listed a w -> listed.getD 0 false = true -> wpAnyIn F m P .any ops Q f listed a w
 | 0, listed, a, w, h, h0 => by
  unfold wpAnyIn at h ⊢
  rw [Cn h0] at h
  exact h
 | f + 1, listed, a, w, h, h0 => by
  unfold wpAnyIn at h ⊢
  rw [Cn h0] at h
  refine ⟨h.1, fun i hi => wpOpIn_mono (fun a' w' h' => GK f _ a' w' h' ?_) (Dj (h.2 i hi))⟩
  by_cases e : i = 0
  ·subst e
   exact getD_set_true h0
  ·rw [getD_set_ne false e]; exact h0
section
variable {P : Program} {X : Rules P} {env : List Entry} {inl : Inl} {os : Nat -> Ora} {ops : Array Oper} {fr : Nat} {w0 : World}
theorem FM (henv : sW P env) (hinl : InlOK P inl) {A A' : AA} {ob ob' : Prop} {k' : Nat} (h : vz P X env inl os ops true fr A ob = some (k', A', ob')) (hob : ob') (hf : sn A fr) {F : Fence} (hF : rT F) (m : Nat) (Q : Exit -> Act -> World -> Prop) (ρ : Names) (a : Act) (w : World) (hR : Rel w0 ρ A a w)
  (hQ : ∀ ρ' a' w', ρ.le ρ' -> Rel w0 ρ' A' a' w' -> Q .normal a' w') : P.follows .mixedOrders = true /\ wpAnyIn F m P .any ops Q ops.size (Array.replicate ops.size false) a w := by
 unfold vz at h
 simp only at h
 split at h
 ·rename_i hc
  simp only [Bool.and_eq_true] at hc
  obtain ⟨hm, hd⟩ := hc
  split at h
  ·rename_i A1 ob1 hh
   generalize hn : ul env os ops fr = n at *
   unfold HC at hd
   simp only [Bool.and_eq_true, Bool.or_eq_true, decide_eq_true_eq] at hd
   obtain ⟨⟨⟨hnle, hmo⟩, hlex⟩, htail⟩ := hd
   have hnle : n <= ops.size := Nat.le_of_ble_eq_true hnle
   have htl : (ops.toList.take n).length = n := by simp; omega
   have hdl : (ops.toList.drop n).length = ops.size - n := by simp
   have hob1 : ob1 := uR hinl _ _ _ _ _ _ _ h hob
   obtain ⟨_, hql⟩ := wu _ _ _ _ _ _ hh hob1
   have hf1 : sn A1 (fr + n) := by
    have := QLex.fresh _ _ _ _ hql (by simpa using hf)
    rw [htl] at this
    simpa using this
   obtain ⟨hf2, htailwp⟩ := wB (w0 := w0) henv hinl _ _ _ _ _ _ _ h hob hf1
   have htw : ∀ (i : Nat) (listed : Array Bool), HeadInv .any ops n listed -> i < n -> listed.getD i true = false -> ∀ t, n <= t -> t ∉ Region.ready .any ops listed := by
    intro i listed inv hi hun t ht hr
    rcases htail with htail | ⟨⟨hlt, hs⟩, hc⟩
    ·have := Nat.eq_of_beq_eq_true htail
     obtain ⟨_, ot, hot, _⟩ := mem_ready.1 hr
     have := (Array.getElem?_eq_some_iff.1 hot).1
     omega
    ·exact tail_waits hs hc hlt inv _ i rfl hi hun t ht hr
   have inv0 : HeadInv .any ops n (Array.replicate ops.size false) :=
    ⟨by simp, fun j oj _ hl => (by rw [getD_replicate_false] at hl; cases hl), fun t _ ht => getD_in (by simpa using ht) (getD_replicate_false _ _)⟩
   have H := yW (md := .any) (g := ops.size - n) hmo htw (ops.toList.take n) 0 (Array.replicate ops.size false) A (fun j hj => by
    have hj' : j < n := by rw [htl] at hj; exact hj
    simp [hj']) (by simpa using htl) inv0 (fun j _ => hf _ (by omega)) (by rw [htl]; exact hlex) hql
   refine ⟨hm, ?_⟩
   have hall := y8 hF m (w0 := w0) (ρb := ρ) (g := ops.size - n) (Q := Q) henv hmo _ _ _ H (fun _ _ _ h => h) inv0.closed (fun j _ => hf _ (by omega)) (fun j _ => hf _ (by omega)) (by simp)
    (fun listed' A'' ρ' a' w' hL _ _ hlb hR' => by
     obtain ⟨hseq, rfl⟩ := hL
     have := uY (md := .any) (P := P) (n := m) (Q' := Q) (ops.toList.drop n) n listed' a' w' (fun j => by simp [List.getElem?_drop]) (by rw [hdl]; exact hseq)
      (htailwp hF m Q ρ' a' w' hR' fun ρ'' a'' w'' hl hR'' => hQ ρ'' a'' w'' (Names.le_trans hlb hl) hR'')
     rwa [hdl] at this) ρ a _ ρ.le_refl hR
   rw [htl, show n + (ops.size - n) = ops.size by omega] at hall
   exact hall
  ·cases h
 ·cases h
theorem EF (hinl : InlOK P inl) {draw : Bool} {A A' : AA} {ob ob' : Prop} {k' : Nat} (h : zO P X env inl os ops draw fr A ob = some (k', A', ob')) (hob : ob') : ob := by
 unfold zO at h
 split at h
 ·exact zl hinl h hob
 ·cases h
theorem yO (henv : sW P env) (hinl : InlOK P inl) {draw : Bool} {A A' : AA} {ob ob' : Prop} {k' : Nat} (h : zO P X env inl os ops draw fr A ob = some (k', A', ob')) (hob : ob') (hf : sn A fr) :
  sn A' k' /\ ∀ {F : Fence} (hF : rT F) (hro : F.round = none) (m : Nat) (id : Nat) (Q : Exit -> Act -> World -> Prop) ρ a w, Rel w0 ρ A a w -> (∀ ρ' a' w', ρ.le ρ' -> Rel w0 ρ' A' a' w' -> Q .normal a' w') -> (Code.region id ops draw).wpIn F m P Q a w := by
 unfold zO at h
 split at h
 ·rename_i hc
  simp only [Bool.and_eq_true, Bool.not_eq_true'] at hc
  obtain ⟨⟨⟨⟨rfl, hmv⟩, hn0⟩, hs⟩, hfree⟩ := hc
  refine ⟨(vU (w0 := w0) henv hinl h hob hf).1, fun hF hro m id Q ρ a w hR hQ => ?_⟩
  have hne : ul env os ops fr ≠ 0 := fun e => by rw [e] at hn0; simp at hn0
  generalize ul env os ops fr = n at *
  obtain ⟨hm, H⟩ := FM (w0 := w0) henv hinl h hob hf hF m (fun e a w => e = .normal /\ Q .normal a w) ρ a _ hR.drew (fun ρ' a' w' hl hR' => ⟨rfl, hQ ρ' a' w' hl hR'⟩)
  refine Code.wpIn_mono (Q := fun e a w => e = .normal /\ Q .normal a w) (fun e a w he => by obtain ⟨rfl, he⟩ := he; exact he) (wpIn_region_any hm ?_)
  rw [vW] at H
  unfold DJ at hmv
  split at hmv
  ·rename_i o ho
   split at hmv
   ·rename_i x hop hgd
    have haft : o.after = #[] := by simpa using hmv
    have hlt := (Array.getElem?_eq_some_iff.1 ho).1
    obtain ⟨s, hsz⟩ : ∃ s, ops.size = s + 1 := ⟨ops.size - 1, by omega⟩
    rw [hsz] at H ⊢
    have hget : (Array.replicate (s + 1) false).getD 0 true = false := by simp
    have hr : ∀ ops' : Array Oper, ops'.size = s + 1 -> (∃ o', ops'[0]? = some o' /\ o'.after = #[]) -> 0 ∈ Region.ready .any ops' (Array.replicate (s + 1) false) := fun ops' h1 ⟨o', h2, h3⟩ =>
     mem_ready.2 ⟨hget, o', h2, fun e he => by rw [h3] at he; simp at he⟩
    have ho' : ∃ o', (te ops n)[0]? = some o' /\ o'.after = #[] := by
     obtain ⟨g, g1, _, g3⟩ := uI ops n 0
     rw [ho] at g1
     refine ⟨g o, g1, ?_⟩
     rcases g3 o with g3 | ⟨g3, _⟩
     ·rw [g3, haft]
     ·exact absurd g3.symm hne
    have H0 := Dj (H.2 0 (hr _ (by rw [vW, hsz]) ho'))
    have hw : Region.wanted o (yielded ops a.tmps) = true := by unfold Region.wanted; rw [hgd]
    have hx : ∀ w, (execOp a.eval o).run P w = .ok (.value (a.eval x)) w := fun w => by simp [execOp, hop]
    have hab : ∀ w, o.about P w a.eval = none := fun w => by unfold Oper.about; rw [hop]
    unfold wpOpIn at H0
    simp only [ho, hw, if_true, Oper.wpIn, hro, Oper.semAt_none, hx, Oper.uponIn] at H0
    have H1 := GK _ _ _ _ H0.2 (by simp)
    refine wpAnyIn_take hro ho hs (by rw [hsz] at hfree; exact hfree) (by simpa using hr ops hsz ⟨o, ho, haft⟩) (fun c a w he => by cases he.1) ⟨.inl ⟨hw, hx⟩, hab⟩ H1
   ·cases hmv
  ·cases hmv
 ·cases h
end
end Go.Ev
set_option linter.unusedSimpArgs false
set_option linter.unusedVariables false
namespace Go.Ev
open Go.RowKit
def Ex.to : Ex -> Exit
 | .normal => .normal
 | .exit id => .exit id
 | .ret => .ret
abbrev Rs := Option (Ex × Nat × AA × Prop)
def iterA (body : Nat -> AA -> Prop -> Rs) : Nat -> Nat -> AA -> Prop -> Rs
 | 0, _, _, _ => none
 | n + 1, fr, A, ob =>
  match body fr A ob with
  | some (.normal, fr', A', ob') => iterA body n fr' A' ob'
  | r => r
def Sound (P : Program) (fb : Nat) (rd : Bool) (c : Code) (A : AA) (ex : Ex) (A' : AA) : Prop :=
 ∀ (w0 : World) {F : Fence} (hF : rT F) (hrd : rd = false -> F.round = none) (n : Nat) (Q : Exit -> Act -> World -> Prop) ρ a w, Rel w0 ρ A a w →
  (∀ ρ' a' w', ρ.leB fb ρ' -> Rel w0 ρ' A' a' w' -> Q ex.to a' w') -> c.wpIn F n P Q a w
def Dg (P : Program) (fb : Nat) (rd : Bool) (os : Nat -> Ora) (kd : Nat) (c : Code) (fr : Nat) (A : AA) (ob : Prop) : Option Rs :=
 match (os fr).lp with
 | some pk =>
  match Nat.beq pk.kd kd with
  | true => some (match zH fb A pk.I [] && nmL pk.I && CT pk.fr pk.E.hp with
   | true => some (pk.ex, pk.fr, pk.E.aa, Gx A (Nb pk.I.sl) (Mn pk.I.hp) pk.lk = some pk.I /\ Sound P fb rd c pk.I.aa pk.ex pk.E.aa /\ ob)
   | false => none)
  | false => none
 | none => none
def Cj (inl : Inl) (g : Operand) (ps : Array Tmp) (asg body : Code) (fr : Nat) (A : AA) (ob : Prop) : Rs :=
 match evA A.t g with
 | .clo gf [] cap =>
  match inl (.fn gf) (.yd (fr + 1) :: cap) ((A.h.put fr .dfd).put (fr + 1) (.lp .ready none A.t ps asg body fr)) (fr + 2) ob with
  | some (_, k', h', ob') =>
   match h'.get (fr + 1), h'.get fr with
   | some (.lp st pe _ _ _ _ _), some .dfd =>
    match st with
    | .busy => none
    | _ =>
     match pe with
     | none => some (.normal, k', ⟨A.t, h'.put (fr + 1) .dead, fr :: A.d⟩, ob')
     | some .ret => some (.ret, k', ⟨A.t, h'.put (fr + 1) .dead, fr :: A.d⟩, ob')
     | some (.exit id) => some (.exit id, k', ⟨A.t, h'.put (fr + 1) .dead, fr :: A.d⟩, ob')
     | _ => none
   | _, _ => none
  | none => none
 | _ => none
def codeA (P : Program) (X : Rules P) (env : List Entry) (inl : Inl) (os : Nat -> Ora) (fb : Nat) (rd : Bool) : Code -> Nat -> AA -> Prop -> Rs
 | .skip, fr, A, ob => some (.normal, fr, A, ob)
 | .region id ops draw, fr, A, ob =>
  match Dg P fb rd os 5 (.region id ops draw) fr A ob with
  | some r => r
  | none =>
  match vz P X env inl os ops draw fr A ob with
  | some (fr', A', ob') => some (.normal, fr', A', ob')
  | none =>
   match rd with
   | true => none
   | false =>
    match zO P X env inl os ops draw fr A ob with
    | some (fr', A', ob') => some (.normal, fr', A', ob')
    | none => none
 | .seq a b, fr, A, ob =>
  match codeA P X env inl os fb rd a fr A ob with
  | some (.normal, fr1, A1, ob1) => codeA P X env inl os fb rd b fr1 A1 ob1
  | r => r
 | .cond c a b, fr, A, ob =>
  match Dg P fb rd os 1 (.cond c a b) fr A ob with
  | some r => r
  | none =>
  match evA A.t c with
  | .v (.bool true) => codeA P X env inl os fb rd a fr A ob
  | .v (.bool false) => codeA P X env inl os fb rd b fr A ob
  | _ => none
 | .block id body, fr, A, ob =>
  match Dg P fb rd os 2 (.block id body) fr A ob with
  | some r => r
  | none =>
  match codeA P X env inl os fb rd body fr A ob with
  | some (.exit id', fr1, A1, ob1) => some (match Nat.beq id' id with | true => .normal | false => .exit id', fr1, A1, ob1)
  | r => r
 | .loop body, fr, A, ob =>
  match Dg P fb rd os 0 (.loop body) fr A ob with
  | some r => r
  | none => iterA (codeA P X env inl os fb rd body) 400 fr A ob
 | .rangeFunc g ps asg body, fr, A, ob => match rd with | true => none | false => Cj inl g ps asg body fr A ob
 | .exit id, fr, A, ob => some (.exit id, fr, A, ob)
 | .ret, fr, A, ob => some (.ret, fr, A, ob)
 | _, _, _, _ => none
section
variable {P : Program} {X : Rules P} {env : List Entry} {inl : Inl} {os : Nat -> Ora} {fb : Nat} {rd : Bool}
theorem wC {ex : Ex} (h : ex ≠ .normal) (next : Act -> World -> Prop) (Q : Exit -> Act -> World -> Prop) (a : Act) (w : World) (hq : Q ex.to a w) : Exit.then next Q ex.to a w := by
 cases ex with
 | normal => exact absurd rfl h
 | exit id => exact hq
 | ret => exact hq
theorem sK {kd : Nat} {c : Code} {fr : Nat} {A : AA} {ob : Prop} {r : Rs} (h : Dg P fb rd os kd c fr A ob = some r) {ex : Ex} {fr' : Nat} {A' : AA} {ob' : Prop} (hr : r = some (ex, fr', A', ob')) (hob : ob') :
  ob /\ sn A' fr' /\ Sound P fb rd c A ex A' := by
 unfold Dg at h
 split at h
 ·rename_i pk hpk
  split at h
  ·simp only [oi0] at h
   subst h
   split at hr
   ·rename_i hb
    simp only [Bool.and_eq_true] at hb
    simp only [oi0, pi0] at hr
    obtain ⟨rfl, rfl, rfl, rfl⟩ := hr
    obtain ⟨h1, h2, h3⟩ := hob
    refine ⟨h3, fun j hj => un hb.2 j hj, ?_⟩
    intro w0 F hF hrd n Q ρ a w hR hQ
    obtain ⟨ρ', e1, e2⟩ := wm hb.1.1 (xD h1 hb.1.2) hR
    exact h2 w0 hF hrd n Q ρ' a w e2 fun ρ'' a' w' hl hR' => hQ ρ'' a' w' (Names.leB_trans e1 hl) hR'
   ·cases hr
  ·cases h
 ·cases h
theorem Gs (hinl : InlOK P inl) {g : Operand} {ps : Array Tmp} {asg body : Code} {fr : Nat} {A : AA} {ob : Prop} {ex : Ex} {fr' : Nat} {A' : AA} {ob' : Prop} (h : Cj inl g ps asg body fr A ob = some (ex, fr', A', ob')) (hob : ob') : ob := by
 unfold Cj at h
 split at h
 ·split at h
  ·rename_i hi
   split at h
   ·split at h
    ·cases h
    ·split at h
     ·simp only [oi0, pi0] at h; obtain ⟨_, _, _, rfl⟩ := h; exact hinl.mono _ _ _ _ _ _ _ _ _ hi hob
     ·simp only [oi0, pi0] at h; obtain ⟨_, _, _, rfl⟩ := h; exact hinl.mono _ _ _ _ _ _ _ _ _ hi hob
     ·simp only [oi0, pi0] at h; obtain ⟨_, _, _, rfl⟩ := h; exact hinl.mono _ _ _ _ _ _ _ _ _ hi hob
     ·cases h
   ·cases h
  ·cases h
 ·cases h
theorem sN (hinl : InlOK P inl) : ∀ (c : Code) (fr : Nat) (A : AA) (ob : Prop) (ex : Ex) (fr' : Nat) (A' : AA) (ob' : Prop), codeA P X env inl os fb rd c fr A ob = some (ex, fr', A', ob') -> ob' -> ob := by
 intro c
 induction c with
 | skip => intro fr A ob ex fr' A' ob' h hob; simp only [codeA, oi0, pi0] at h; obtain ⟨_, _, _, rfl⟩ := h; exact hob
 | region id ops draw =>
  intro fr A ob ex fr' A' ob' h hob
  simp only [codeA] at h
  split at h
  ·rename_i hp
   exact (sK hp h hob).1
  split at h
  ·rename_i hr
   simp only [oi0, pi0] at h
   obtain ⟨_, _, _, rfl⟩ := h
   exact zl hinl hr hob
  ·split at h
   ·cases h
   ·split at h
    ·rename_i hr
     simp only [oi0, pi0] at h
     obtain ⟨_, _, _, rfl⟩ := h
     exact EF hinl hr hob
    ·cases h
 | seq x y ihx ihy =>
  intro fr A ob ex fr' A' ob' h hob
  simp only [codeA] at h
  split at h
  ·rename_i hx; exact ihx _ _ _ _ _ _ _ hx (ihy _ _ _ _ _ _ _ h hob)
  ·exact ihx _ _ _ _ _ _ _ h hob
 | cond c x y ihx ihy =>
  intro fr A ob ex fr' A' ob' h hob
  simp only [codeA] at h
  split at h
  ·rename_i hp
   exact (sK hp h hob).1
  ·split at h
   ·exact ihx _ _ _ _ _ _ _ h hob
   ·exact ihy _ _ _ _ _ _ _ h hob
   ·cases h
 | block id body ih =>
  intro fr A ob ex fr' A' ob' h hob
  simp only [codeA] at h
  split at h
  ·rename_i hp
   exact (sK hp h hob).1
  ·split at h
   ·rename_i hb
    simp only [oi0, pi0] at h
    obtain ⟨_, _, _, rfl⟩ := h
    exact ih _ _ _ _ _ _ _ hb hob
   ·exact ih _ _ _ _ _ _ _ h hob
 | loop body ih =>
  intro fr A ob ex fr' A' ob' h hob
  simp only [codeA] at h
  split at h
  ·rename_i hp
   exact (sK hp h hob).1
  ·generalize 400 = n at h
   induction n generalizing fr A ob with
   | zero => simp [iterA] at h
   | succ n ihn =>
    unfold iterA at h
    split at h
    ·rename_i hb
     have hob2 : ∀ n fr A (ob : Prop), iterA (codeA P X env inl os fb rd body) n fr A ob = some (ex, fr', A', ob') -> ob := by
      intro n
      induction n with
      | zero => intro fr A ob h; simp [iterA] at h
      | succ n ihn =>
       intro fr A ob h
       unfold iterA at h
       split at h
       ·rename_i hb; exact ih _ _ _ _ _ _ _ hb (ihn _ _ _ h)
       ·exact ih _ _ _ _ _ _ _ h hob
     exact ih _ _ _ _ _ _ _ hb (hob2 _ _ _ _ h)
    ·exact ih _ _ _ _ _ _ _ h hob
 | rangeFunc g ps asg body =>
  intro fr A ob ex fr' A' ob' h hob
  simp only [codeA] at h
  split at h
  ·cases h
  ·exact Gs hinl h hob
 | exit id => intro fr A ob ex fr' A' ob' h hob; simp only [codeA, oi0, pi0] at h; obtain ⟨_, _, _, rfl⟩ := h; exact hob
 | ret => intro fr A ob ex fr' A' ob' h hob; simp only [codeA, oi0, pi0] at h; obtain ⟨_, _, _, rfl⟩ := h; exact hob
 | _ => intro fr A ob ex fr' A' ob' h hob; simp [codeA] at h
theorem wI {w0 : World} {ρ : Names} {A : AA} {a : Act} {w : World} (hR : Rel w0 ρ A a w) {id : Nat} {v : NM} (hv : ρ id = some v) {blk : Blk} (hblk : A.h.get id = some blk) (hlive : blk.live = true) (hB : w0.heap.size <= v.1) (blk' : Blk) (o : Obj) (hb : BAt w0.heap.size ρ (w.putObj v.1 o) v blk') :
  Rel w0 ρ ⟨A.t, A.h.put id blk', A.d⟩ a (w.putObj v.1 o) := by
 have hlt := hR.heap.lt _ _ hv
 refine ⟨hR.slots, hR.defers, hR.below.trans ?_, hR.heap.turn hv hB hblk hlive blk' (by simp) (fun k hk => World.putObj_heap_other hk) hb⟩
 exact ⟨rfl, rfl, rfl, by simp, fun k hk => World.putObj_heap_other (by omega)⟩
theorem D6 (hinl : InlOK P inl) {g : Operand} {ps : Array Tmp} {asg body : Code} {fr : Nat} {A : AA} {ob : Prop} {ex : Ex} {fr' : Nat} {A' : AA} {ob' : Prop} (h : Cj inl g ps asg body fr A ob = some (ex, fr', A', ob')) (hob : ob') (hf : sn A fr) :
  sn A' fr' /\ Sound P fb false (.rangeFunc g ps asg body) A ex A' := by
 unfold Cj at h
 split at h
 ·rename_i gf cap hg
  split at h
  ·rename_i r k' h' ob1 hi
   split at h
   ·rename_i st pe t' ps' asg' body' D' hrec hdfd
    have hst : st ≠ .busy /\ ob' = ob1 /\ fr' = k' /\ A' = ⟨A.t, h'.put (fr + 1) .dead, fr :: A.d⟩ /\ ((pe = none /\ ex = .normal) ∨ (pe = some .ret /\ ex = .ret) ∨ ∃ id, pe = some (.exit id) /\ ex = .exit id) := by
     split at h
     ·cases h
     ·rename_i hnb
      split at h
      ·simp only [oi0, pi0] at h; obtain ⟨rfl, rfl, rfl, rfl⟩ := h; exact ⟨hnb, rfl, rfl, rfl, .inl ⟨rfl, rfl⟩⟩
      ·simp only [oi0, pi0] at h; obtain ⟨rfl, rfl, rfl, rfl⟩ := h; exact ⟨hnb, rfl, rfl, rfl, .inr (.inl ⟨rfl, rfl⟩)⟩
      ·rename_i id
       simp only [oi0, pi0] at h; obtain ⟨rfl, rfl, rfl, rfl⟩ := h; exact ⟨hnb, rfl, rfl, rfl, .inr (.inr ⟨_, rfl, rfl⟩)⟩
      ·cases h
    obtain ⟨hnb, rfl, rfl, rfl, hpe⟩ := hst
    have hf2 : ∀ j, fr + 2 <= j -> ((A.h.put fr .dfd).put (fr + 1) (.lp .ready none A.t ps asg body fr)).get j = none := fun j hj => by
     rw [Heap.put_ne _ (by omega), Heap.put_ne _ (by omega)]
     exact hf j (by omega)
    have hfr' := hinl.fresh _ _ _ _ _ _ _ _ _ hi hob hf2
    obtain ⟨ent, hcall⟩ := hinl.fn _ _ _ _ _ _ _ _ _ hi hob hf2
    have hlt : fr + 1 < fr' := by
     rcases Nat.lt_or_ge (fr + 1) fr' with hh | hh
     ·exact hh
     ·rw [hfr' _ hh] at hrec; cases hrec
    refine ⟨fun j hj => ?_, ?_⟩
    ·show (Heap.put h' (fr + 1) .dead).get j = none
     rw [Heap.put_ne _ (by omega)]
     exact hfr' j hj
    ·intro w0 F hF hrd n Q ρ a w hR hQ
     have hro : F.round = none := hrd rfl
     refine wpIn_rangeFunc fun fn hfn => ?_
     rw [hro]
     have hge := qt hR.slots g
     rw [hg] at hge
     simp only [Rep, Reps] at hge
     obtain ⟨xs, ys, rfl, hys, hge⟩ := hge
     refine ⟨w.heap.size + 1, [{ target := .collected w.heap.size, args := #[] }], (w.alloc (.deferred (some []))).alloc (.loop { state := .ready, pending := none, fn, tmps := a.tmps, params := ps, assign := asg, body, defers := w.heap.size }),
      { target := .fn (.func gf) ys.toArray, args := #[.func (.yield (w.heap.size + 1)) #[] #[]] }, (w.alloc (.deferred (some []))).alloc (.loop { state := .ready, pending := none, fn, tmps := a.tmps, params := ps, assign := asg, body, defers := w.heap.size }), gf, #[.func (.yield (w.heap.size + 1)) #[] #[]] ++ ys.toArray, (w.alloc (.deferred (some []))).alloc (.loop { state := .ready, pending := none, fn, tmps := a.tmps, params := ps, assign := asg, body, defers := w.heap.size }), run_enterLoop_outer _ _ _ _ _, ?_, fun f' _ => hF.fn f', ?_, hF.depth, ?_⟩
     ·simp only [resolve, hge]
      simp [go_sem]
     ·simp [invoke, go_sem, ent]
     ·-- the function's call
      have n0 := hR.heap.none_ fr (hf _ (Nat.le_refl _))
      obtain ⟨r1, l1⟩ := hR.heap.new (id := fr) (hf _ (Nat.le_refl _)) (.deferred (some [])) .dfd ⟨rfl, hR.heap.size, World.alloc_heap_new _ _⟩
      have hnone1 : (A.h.put fr .dfd).get (fr + 1) = none := by rw [Heap.put_ne _ (by omega)]; exact hf _ (by omega)
      have hn1 := r1.none_ _ hnone1
      have l2 := Names.le_new hn1 (w.alloc (.deferred (some []))).heap.size
      obtain ⟨r2, _⟩ := r1.new (id := fr + 1) hnone1 (.loop { state := .ready, pending := none, fn, tmps := a.tmps, params := ps, assign := asg, body, defers := w.heap.size }) (.lp .ready none A.t ps asg body fr)
       ⟨rfl, by have := hR.heap.size; simp; omega, fn, a.tmps, w.heap.size, (hR.slots.mono l1).mono l2, l2 _ _ (Names.new_eq _ _ _), World.alloc_heap_new _ _⟩
      have hb2 : Below w0.heap.size w0 ((w.alloc (.deferred (some []))).alloc (.loop { state := .ready, pending := none, fn, tmps := a.tmps, params := ps, assign := asg, body, defers := w.heap.size })) :=
       (hR.below.alloc hR.below.size _).alloc (by have := hR.below.size; simp; omega) _
      have hsz : (w.alloc (.deferred (some []))).heap.size = w.heap.size + 1 := by simp
      have hsl : wz (((ρ.new fr w.heap.size).new (fr + 1) (w.alloc (.deferred (some []))).heap.size)) (.yd (fr + 1) :: cap) (#[.func (.yield (w.heap.size + 1)) #[] #[]] ++ ys.toArray) := by
       have : (#[Value.func (.yield (w.heap.size + 1)) #[] #[]] ++ ys.toArray).toList = .func (.yield (w.heap.size + 1)) #[] #[] :: ys := by simp
       unfold wz
       rw [this]
       simp only [Reps]
       refine ⟨_, _, rfl, ?_, Reps.mono l2 (Reps.mono l1 hys)⟩
       simp only [Rep]
       exact ⟨_, Names.new_eq _ _ _, by rw [hsz]⟩
      refine (hF.calls (hcall w0 _ _ _ hsl hb2 r2)).mono fun en w2 hen => ?_
      obtain ⟨v, ρ', i1, i2, i3, i4, i5⟩ := hen
      subst i1
      have hv1 : ρ' (fr + 1) = some ⟨w.heap.size + 1, 0, 0⟩ := by rw [← hsz]; exact i2 _ _ (Names.new_eq _ _ _)
      have hv0 : ρ' fr = some ⟨w.heap.size, 0, 0⟩ := i2 _ _ (l2 _ _ (Names.new_eq _ _ _))
      obtain ⟨u1, g1, g2⟩ := i5.at_ _ _ hrec
      rw [hv1] at g1; simp only [oi0] at g1; subst g1
      obtain ⟨k1, k2, fn', tmps', d', k3, k4, k5⟩ := g2
      have hend := run_endLoop (P := P) k5 hnb
      have hRel : Rel w0 ρ' ⟨A.t, h', fr :: A.d⟩ { a with defers := { target := .collected w.heap.size, args := #[] } :: a.defers } w2 := by
       refine ⟨((hR.slots.mono l1).mono l2).mono i2, ⟨w.heap.size, a.defers, hv0, rfl, ((hR.defers.mono l1).mono l2).mono i2⟩, i4, i5⟩
      have hRel2 := wI hRel hv1 hrec rfl k2 .dead (.loop { state := .exhausted, pending := pe, fn := fn', tmps := tmps', params := ps', assign := asg', body := body', defers := d' }) k2
      refine ⟨pe, _, hend, ?_⟩
      have hq := hQ ρ' _ _ ((l1.leB fb |>.trans_le l2).trans_le i2) hRel2
      rcases hpe with ⟨rfl, rfl⟩ | ⟨rfl, rfl⟩ | ⟨id, rfl, rfl⟩
      ·exact hq
      ·exact wpIn_ret hq
      ·exact wpIn_exit hq
   ·cases h
  ·cases h
 ·cases h
theorem rU (henv : sW P env) (hinl : InlOK P inl) : ∀ (c : Code) (fr : Nat) (A : AA) (ob : Prop) (ex : Ex) (fr' : Nat) (A' : AA) (ob' : Prop),
  codeA P X env inl os fb rd c fr A ob = some (ex, fr', A', ob') -> ob' -> sn A fr -> sn A' fr' /\ Sound P fb rd c A ex A' := by
 intro c
 induction c with
 | skip =>
  intro fr A ob ex fr' A' ob' h hob hf
  simp only [codeA, oi0, pi0] at h
  obtain ⟨rfl, rfl, rfl, rfl⟩ := h
  exact ⟨hf, fun w0 F hF hrd n Q ρ a w hR hQ => wpIn_skip (hQ ρ a w (Names.leB_refl _ ρ) hR)⟩
 | region id ops draw =>
  intro fr A ob ex fr' A' ob' h hob hf
  simp only [codeA] at h
  split at h
  ·rename_i hp
   exact (sK hp h hob).2
  split at h
  ·rename_i fr1 A1 ob1 hr
   simp only [oi0, pi0] at h
   obtain ⟨rfl, rfl, rfl, rfl⟩ := h
   refine ⟨(vU (w0 := default) henv hinl hr hob hf).1, fun w0 F hF hrd n Q ρ a w hR hQ => ?_⟩
   exact (vU (w0 := w0) henv hinl hr hob hf).2 hF n id Q ρ a w hR fun ρ' a' w' hl hR' => hQ ρ' a' w' (hl.leB fb) hR'
  ·split at h
   ·cases h
   ·split at h
    ·rename_i fr1 A1 ob1 hr
     simp only [oi0, pi0] at h
     obtain ⟨rfl, rfl, rfl, rfl⟩ := h
     refine ⟨(yO (w0 := default) henv hinl hr hob hf).1, fun w0 F hF hrd n Q ρ a w hR hQ => ?_⟩
     exact (yO (w0 := w0) henv hinl hr hob hf).2 hF (hrd rfl) n id Q ρ a w hR fun ρ' a' w' hl hR' => hQ ρ' a' w' (hl.leB fb) hR'
    ·cases h
 | seq x y ihx ihy =>
  intro fr A ob ex fr' A' ob' h hob hf
  simp only [codeA] at h
  split at h
  ·rename_i fr1 A1 ob1 hx
   have hob1 := sN hinl y fr1 A1 ob1 ex fr' A' ob' h hob
   obtain ⟨e2, e3⟩ := ihx fr A ob .normal fr1 A1 ob1 hx hob1 hf
   obtain ⟨g2, g3⟩ := ihy fr1 A1 ob1 ex fr' A' ob' h hob e2
   exact ⟨g2, fun w0 F hF hrd n Q ρ a w hR hQ => wpIn_seq (e3 w0 hF hrd n _ ρ a w hR fun ρ' a' w' hl hR' => g3 w0 hF hrd n Q ρ' a' w' hR' fun ρ'' a'' w'' hl' hR'' => hQ ρ'' a'' w'' (Names.leB_trans hl hl') hR'')⟩
  ·rename_i hne
   obtain ⟨e2, e3⟩ := ihx fr A ob ex fr' A' ob' h hob hf
   have hn : ex ≠ .normal := fun e => by subst e; exact hne _ _ _ h
   exact ⟨e2, fun w0 F hF hrd n Q ρ a w hR hQ => wpIn_seq (e3 w0 hF hrd n _ ρ a w hR fun ρ' a' w' hl hR' => wC hn _ _ _ _ (hQ ρ' a' w' hl hR'))⟩
 | cond c x y ihx ihy =>
  intro fr A ob ex fr' A' ob' h hob hf
  simp only [codeA] at h
  split at h
  ·rename_i hp
   exact (sK hp h hob).2
  ·split at h
   ·rename_i hc
    obtain ⟨e2, e3⟩ := ihx fr A ob ex fr' A' ob' h hob hf
    refine ⟨e2, fun w0 F hF hrd n Q ρ a w hR hQ => ?_⟩
    have := qt hR.slots c
    rw [hc] at this
    exact wpIn_cond_true this (e3 w0 hF hrd n Q ρ a w hR hQ)
   ·rename_i hc
    obtain ⟨e2, e3⟩ := ihy fr A ob ex fr' A' ob' h hob hf
    refine ⟨e2, fun w0 F hF hrd n Q ρ a w hR hQ => ?_⟩
    have := qt hR.slots c
    rw [hc] at this
    exact wpIn_cond_false this (e3 w0 hF hrd n Q ρ a w hR hQ)
   ·cases h
 | block id body ih =>
  intro fr A ob ex fr' A' ob' h hob hf
  simp only [codeA] at h
  split at h
  ·rename_i hp
   exact (sK hp h hob).2
  ·split at h
   ·rename_i id' fr1 A1 ob1 hb
    simp only [oi0, pi0] at h
    obtain ⟨hex, rfl, rfl, rfl⟩ := h
    obtain ⟨e2, e3⟩ := ih fr A ob (.exit id') fr1 A1 ob1 hb hob hf
    refine ⟨e2, fun w0 F hF hrd n Q ρ a w hR hQ => wpIn_block (e3 w0 hF hrd n _ ρ a w hR fun ρ' a' w' hl hR' => ?_)⟩
    have hq := hQ ρ' a' w' hl hR'
    subst hex
    simp only [Ex.to, Exit.inBlock]
    by_cases hid : id' = id
    ·subst hid
     simp only [Nat.beq_refl, if_true, Ex.to] at hq ⊢
     exact hq
    ·have : Nat.beq id' id = false := by
      cases hb : Nat.beq id' id with
      | false => rfl
      | true => exact absurd (Nat.eq_of_beq_eq_true hb) hid
     simp only [this, Bool.false_eq_true, if_false, Ex.to, hid] at hq ⊢
     exact hq
   ·rename_i hne
    obtain ⟨e2, e3⟩ := ih fr A ob ex fr' A' ob' h hob hf
    refine ⟨e2, fun w0 F hF hrd n Q ρ a w hR hQ => wpIn_block (e3 w0 hF hrd n _ ρ a w hR fun ρ' a' w' hl hR' => ?_)⟩
    have hq := hQ ρ' a' w' hl hR'
    cases ex with
    | normal => exact hq
    | ret => exact hq
    | exit id' => exact absurd h (hne _ _ _ _)
 | loop body ih =>
  intro fr A ob ex fr' A' ob' h hob hf
  simp only [codeA] at h
  split at h
  ·rename_i hp
   exact (sK hp h hob).2
  ·suffices hs : ∀ n fr A ob, iterA (codeA P X env inl os fb rd body) n fr A ob = some (ex, fr', A', ob') -> sn A fr →
     (sn A' fr' /\ ∀ (w0 : World) {F : Fence} (hF : rT F) (hrd : rd = false -> F.round = none) (m : Nat) (Q : Exit -> Act -> World -> Prop) ρ a w, Rel w0 ρ A a w →
      (∀ ρ' a' w', ρ.leB fb ρ' -> Rel w0 ρ' A' a' w' -> Q ex.to a' w') -> Code.roundsIn F m P body Q n a w) by
    obtain ⟨e2, e3⟩ := hs 400 fr A ob h hf
    exact ⟨e2, fun w0 F hF hrd m Q ρ a w hR hQ => wpIn_loop_rounds 400 (e3 w0 hF hrd m Q ρ a w hR hQ)⟩
   intro n
   induction n with
   | zero => intro fr A ob h; simp [iterA] at h
   | succ n ihn =>
    intro fr A ob h hf
    unfold iterA at h
    split at h
    ·rename_i fr1 A1 ob1 hb
     have hob1 : ob1 := by
      have : ∀ n fr A (ob : Prop), iterA (codeA P X env inl os fb rd body) n fr A ob = some (ex, fr', A', ob') -> ob := by
       intro n
       induction n with
       | zero => intro fr A ob h; simp [iterA] at h
       | succ n ihn =>
        intro fr A ob h
        unfold iterA at h
        split at h
        ·rename_i hb; exact sN hinl _ _ _ _ _ _ _ _ hb (ihn _ _ _ h)
        ·exact sN hinl _ _ _ _ _ _ _ _ h hob
      exact this n fr1 A1 ob1 h
     obtain ⟨e2, e3⟩ := ih fr A ob .normal fr1 A1 ob1 hb hob1 hf
     obtain ⟨g2, g3⟩ := ihn fr1 A1 ob1 h e2
     exact ⟨g2, fun w0 F hF hrd m Q ρ a w hR hQ => e3 w0 hF hrd m _ ρ a w hR fun ρ' a' w' hl hR' => g3 w0 hF hrd m Q ρ' a' w' hR' fun ρ'' a'' w'' hl' hR'' => hQ ρ'' a'' w'' (Names.leB_trans hl hl') hR''⟩
    ·rename_i hne
     obtain ⟨e2, e3⟩ := ih fr A ob ex fr' A' ob' h hob hf
     have hn : ex ≠ .normal := fun e => by subst e; exact hne _ _ _ h
     exact ⟨e2, fun w0 F hF hrd m Q ρ a w hR hQ => e3 w0 hF hrd m _ ρ a w hR fun ρ' a' w' hl hR' => wC hn _ _ _ _ (hQ ρ' a' w' hl hR')⟩
 | rangeFunc g ps asg body =>
  intro fr A ob ex fr' A' ob' h hob hf
  simp only [codeA] at h
  split at h
  ·cases h
  ·exact D6 hinl h hob hf
 | exit id =>
  intro fr A ob ex fr' A' ob' h hob hf
  simp only [codeA, oi0, pi0] at h
  obtain ⟨rfl, rfl, rfl, rfl⟩ := h
  exact ⟨hf, fun w0 F hF hrd n Q ρ a w hR hQ => wpIn_exit (hQ ρ a w (Names.leB_refl _ ρ) hR)⟩
 | ret =>
  intro fr A ob ex fr' A' ob' h hob hf
  simp only [codeA, oi0, pi0] at h
  obtain ⟨rfl, rfl, rfl, rfl⟩ := h
  exact ⟨hf, fun w0 F hF hrd n Q ρ a w hR hQ => wpIn_ret (hQ ρ a w (Names.leB_refl _ ρ) hR)⟩
 | _ => intro fr A ob ex fr' A' ob' h hob hf; simp [codeA] at h
end
end Go.Ev
set_option linter.unusedSimpArgs false
set_option linter.unusedVariables false
namespace Go.Ev
open Go.RowKit
variable {P : Program}
def resA (P : Program) (t : Sl) (h : Heap) : List ResultVar -> Option (List AV)
 | [] => some []
 | .tmp i :: l =>
  match resA P t h l with
  | some r => some (t.get i :: r)
  | _ => none
 | .cell a T :: l =>
  match t.get a, resA P t h l with
  | .p id off, some r =>
   match h.get id with
   | some blk => (match blk.cells? with
    | some cs => (match AL P T off cs with
     | some v => some (v :: r)
     | none => none)
    | none => none)
   | none => none
  | _, _ => none
def D4 : List AV -> AV
 | [x] => x
 | l => .tp l
def EU (tmps : Array Value) : ResultVar -> Sem Value
 | .tmp t => pure (tmps.getD t undef)
 | .cell a t => do loadVar t (← asAddr (tmps.getD a undef))
theorem HD (fn : Func) (tmps : Array Value) : results fn tmps = (do
  let vs ← fn.results.mapM (EU tmps)
  pure (if h : vs.size = 1 then vs[0] else .tuple vs)) := by
 unfold results
 congr 1
theorem FQ {B : Nat} {w : World} {ρ : Names} {t : Sl} {h : Heap} {tmps : Array Value} (hs : Slots ρ t tmps) (hh : HAt B ρ h w) {fn : Func} {l : List AV} (hr : resA P t h fn.results.toList = some l) :
  ∃ v, (results fn tmps).run P w = .ok v w /\ Rep ρ (D4 l) v := by
 have slot : ∀ i, Rep ρ (t.get i) (tmps.getD i undef) := fun i => qt (a := { tmps := tmps, defers := [] }) hs (.tmp i)
 have key : ∀ (rs : List ResultVar) (l : List AV), resA P t h rs = some l →
   ∃ vs, (rs.mapM (EU tmps)).run P w = .ok vs w /\ Reps ρ l vs := by
  intro rs
  induction rs with
  | nil => intro l h; simp only [resA, oi0] at h; subst h; exact ⟨[], rfl, rfl⟩
  | cons rv rs ih =>
   intro l h
   cases rv with
   | tmp i =>
    simp only [resA] at h
    split at h
    ·rename_i r hr
     simp only [oi0] at h; subst h
     obtain ⟨vs, h1, h2⟩ := ih r hr
     refine ⟨tmps.getD i undef :: vs, ?_, ?_⟩
     ·simp only [List.mapM_cons]
      rw [show EU tmps (.tmp i) = pure (tmps.getD i undef) from rfl]
      simp [h1]
     ·simp only [Reps]; exact ⟨_, _, rfl, slot i, h2⟩
    ·cases h
   | cell x T =>
    simp only [resA] at h
    split at h
    ·rename_i id off r hx hr
     split at h
     ·rename_i blk hblk
      split at h
      ·rename_i cs hcs
       split at h
       ·rename_i v hv
        simp only [oi0] at h; subst h
        obtain ⟨vs, h1, h2⟩ := ih r hr
        have e := slot x
        rw [hx] at e
        simp only [Rep] at e
        obtain ⟨u, e1, e2⟩ := e
        obtain ⟨u', g1, g2⟩ := hh.at_ id blk hblk
        rw [e1] at g1; simp only [oi0] at g1; subst g1
        obtain ⟨k1, k2⟩ := g2.cells hcs
        obtain ⟨z, k1, k2⟩ := yL (P := P) k1 k2 hv
        refine ⟨z :: vs, ?_, ?_⟩
        ·simp only [List.mapM_cons]
         rw [show EU tmps (.cell x T) = (do loadVar T (← asAddr (tmps.getD x undef))) from rfl, e2]
         simp [asAddr, k1, h1]
        ·simp only [Reps]; exact ⟨_, _, rfl, k2, h2⟩
       ·cases h
      ·cases h
     ·cases h
    ·cases h
 obtain ⟨vs, h1, h2⟩ := key _ _ hr
 refine ⟨if h : vs.toArray.size = 1 then vs.toArray[0] else .tuple vs.toArray, ?_, ?_⟩
 ·rw [HD, Sem.run_bind, Array.mapM_eq_mapM_toList, Sem.run_map, h1]
  rfl
 ·match l, vs, h2 with
  | [], vs, h2 => simp only [Reps] at h2; subst h2; simp only [D4, Rep, Reps]; exact ⟨[], rfl, rfl⟩
  | [x], vs, h2 =>
   simp only [Reps] at h2
   obtain ⟨y, r, rfl, h3, rfl⟩ := h2
   simpa [D4] using h3
  | x :: y :: l, vs, h2 =>
   have hlen := vO h2
   have hne : ¬ vs.toArray.size = 1 := by simp at hlen ⊢; omega
   simp only [hne, dif_neg, not_false_eq_true, D4]
   simp only [Rep]
   exact ⟨vs, h2, rfl⟩
def uj (h : Heap) : List Nat -> Option Heap
 | [] => some h
 | i :: l => match h.get i with
  | some .dfd => uj (h.put i .dead) l
  | _ => none
theorem xY {fn : Func} {R : Ending -> World -> Prop} {t : Sl} {ρ : Names} {w0 : World} : ∀ (d : List Nat) (h h' : Heap) (a : Act) (w : World), uj h d = some h' -> Rel w0 ρ ⟨t, h, d⟩ a w →
  (∀ w', Slots ρ t a.tmps -> Below w0.heap.size w0 w' -> HRel w0.heap.size ρ h' w' -> ∃ v, (results fn a.tmps).run P w' = .ok v w' /\ R (.returned v) w') →
  LeavesInM Fence.wide 0 P fn a.tmps R a.defers .returning w
 | [], h, h', a, w, hs, hR, hk => by
  simp only [uj, oi0] at hs; subst hs
  have : a.defers = [] := hR.defers
  rw [this]
  simp only [LeavesInM, LeavesIn]
  exact hk w hR.slots hR.below hR.heap
 | i :: l, h, h', a, w, hs, hR, hk => by
  unfold uj at hs
  split at hs
  ·rename_i hd
   obtain ⟨b, r, h1, h2, h3⟩ := hR.defers
   rw [h2]
   obtain ⟨v, g1, g2⟩ := hR.heap.at_ _ _ hd
   rw [h1] at g1; simp only [oi0] at g1; subst g1
   obtain ⟨_, k2, k3⟩ := g2
   simp only [LeavesInM]
   refine ⟨by simp, .inl ⟨b, _, rfl, run_takeDeferred k3, ?_⟩⟩
   have hR' : Rel w0 ρ ⟨t, h, l⟩ { a with defers := r } w := ⟨hR.slots, h3, hR.below, hR.heap⟩
   exact xY l _ h' { a with defers := r } _ hs (wI hR' h1 hd rfl k2 .dead (.deferred none) k2) hk
  ·cases hs
def fnI (P : Program) (X : Rules P) (env : List Entry) (os : Nat -> Ora) (inl : Inl) (g : FuncId) (args : List AV) (h : Heap) (k : Nat) (ob : Prop) : Option (AV × Nat × Heap × Prop) :=
 match P.funcs[g]? with
 | some fn =>
  match fn.name == "runtime.NumGoroutine", Nat.blt (args.length + (fn.ntmps - args.length)) 4096, fn.body with
  | false, true, some c =>
   match codeA P X env inl os k false c k ⟨frame args fn.ntmps, h, []⟩ ob with
   | some (.exit _, _, _, _) => none
   | some (_, k', A, ob') =>
    match uj A.h A.d with
    | some h' => (resA P A.t h' fn.results.toList).map fun r => (D4 r, k', h', ob')
    | none => none
   | none => none
  | _, _, _ => none
 | none => none
def Ck (t : Sl) : List Nat -> List AV -> Sl
 | p :: ps, a :: l => Ck (t.set p a) ps l
 | _, _ => t
def rdI (P : Program) (X : Rules P) (env : List Entry) (os : Nat -> Ora) (inl : Inl) (id : Nat) (args : List AV) (h : Heap) (k : Nat) (ob : Prop) : Option (AV × Nat × Heap × Prop) :=
 match h.get id with
 | some (.lp .ready _ t ps asg body _) =>
  match Nat.beq args.length ps.size, codeA P X env inl os k true asg k ⟨Ck t ps.toList args, h, []⟩ ob with
  | true, some (.normal, k1, A1, ob1) =>
   match A1.h.get id with
   | some (.lp .ready pe t1 ps1 asg1 body1 D1) =>
    match codeA P X env inl os k true body k1 ⟨A1.t, A1.h.put id (.lp .busy pe t1 ps1 asg1 body1 D1), A1.d⟩ ob1 with
    | some (ex, k2, A2, ob2) =>
     match A2.h.get id with
     | some (.lp _ _ t2 ps2 asg2 body2 D2) =>
      match ex with
      | .normal => some (.v (.bool true), k2, A2.h.put id (.lp .ready none t2 ps2 asg2 body2 D2), ob2)
      | .ret => some (.v (.bool false), k2, A2.h.put id (.lp .done (some .ret) t2 ps2 asg2 body2 D2), ob2)
      | .exit j => some (.v (.bool false), k2, A2.h.put id (.lp .done (some (.exit j)) t2 ps2 asg2 body2 D2), ob2)
     | _ => none
    | none => none
   | _ => none
  | _, _ => none
 | _ => none
def inlN (P : Program) (X : Rules P) (env : List Entry) (os : Nat -> Ora) : Nat -> Inl
 | 0 => fun _ _ _ _ _ => none
 | n + 1 => fun g args h k ob => match g with
  | .fn g => fnI P X env os (inlN P X env os n) g args h k ob
  | .yd id => rdI P X env os (inlN P X env os n) id args h k ob
section
variable {X : Rules P} {env : List Entry} {os : Nat -> Ora} {inl : Inl}
theorem B9 {g : FuncId} {args : List AV} {h : Heap} {k : Nat} {ob : Prop} {r : AV} {k' : Nat} {h' : Heap} {ob' : Prop} (hr : fnI P X env os inl g args h k ob = some (r, k', h', ob')) :
  ∃ fn c ex A rs, P.funcs[g]? = some fn /\ (fn.name == "runtime.NumGoroutine") = false /\ Nat.blt (args.length + (fn.ntmps - args.length)) 4096 = true /\ fn.body = some c /\
   codeA P X env inl os k false c k ⟨frame args fn.ntmps, h, []⟩ ob = some (ex, k', A, ob') /\ (∀ id, ex ≠ .exit id) /\ uj A.h A.d = some h' /\ resA P A.t h' fn.results.toList = some rs /\ r = D4 rs := by
 unfold fnI at hr
 split at hr
 ·rename_i fn hf
  split at hr
  ·rename_i c h1 h2 h3
   split at hr
   ·cases hr
   ·rename_i ex k1 A ob1 hne hc
    split at hr
    ·rename_i h4 h5
     simp only [Option.map_eq_some_iff, pi0] at hr
     obtain ⟨rs, h6, rfl, rfl, rfl, rfl⟩ := hr
     exact ⟨fn, c, ex, A, rs, hf, h1, h2, h3, hc, fun id e => hne id e, h5, h6, rfl⟩
    ·cases hr
   ·cases hr
  ·cases hr
 ·cases hr
theorem BX {id : Nat} {args : List AV} {h : Heap} {k : Nat} {ob : Prop} {r : AV} {k' : Nat} {h' : Heap} {ob' : Prop} (hr : rdI P X env os inl id args h k ob = some (r, k', h', ob')) :
  ∃ pe0 t ps asg body D0 k1 A1 ob1 pe t1 ps1 asg1 body1 D1 ex A2 st2 pe2 t2 ps2 asg2 body2 D2, h.get id = some (.lp .ready pe0 t ps asg body D0) /\ args.length = ps.size /\
   codeA P X env inl os k true asg k ⟨Ck t ps.toList args, h, []⟩ ob = some (.normal, k1, A1, ob1) /\ A1.h.get id = some (.lp .ready pe t1 ps1 asg1 body1 D1) /\
   codeA P X env inl os k true body k1 ⟨A1.t, A1.h.put id (.lp .busy pe t1 ps1 asg1 body1 D1), A1.d⟩ ob1 = some (ex, k', A2, ob') /\ A2.h.get id = some (.lp st2 pe2 t2 ps2 asg2 body2 D2) /\
   ((ex = .normal /\ r = .v (.bool true) /\ h' = A2.h.put id (.lp .ready none t2 ps2 asg2 body2 D2)) ∨ (ex = .ret /\ r = .v (.bool false) /\ h' = A2.h.put id (.lp .done (some .ret) t2 ps2 asg2 body2 D2)) ∨
    ∃ j, ex = .exit j /\ r = .v (.bool false) /\ h' = A2.h.put id (.lp .done (some (.exit j)) t2 ps2 asg2 body2 D2)) := by
 unfold rdI at hr
 split at hr
 ·rename_i pe0 t ps asg body D0 h1
  split at hr
  ·rename_i k1 A1 ob1 h2 h3
   split at hr
   ·rename_i pe t1 ps1 asg1 body1 D1 h4
    split at hr
    ·rename_i ex k2 A2 ob2 h5
     split at hr
     ·rename_i st2 pe2 t2 ps2 asg2 body2 D2 h6
      refine ⟨pe0, t, ps, asg, body, D0, k1, A1, ob1, pe, t1, ps1, asg1, body1, D1, ex, A2, st2, pe2, t2, ps2, asg2, body2, D2, h1, Nat.eq_of_beq_eq_true h2, h3, h4, ?_⟩
      split at hr
      ·simp only [oi0, pi0] at hr; obtain ⟨rfl, rfl, rfl, rfl⟩ := hr; exact ⟨h5, h6, .inl ⟨rfl, rfl, rfl⟩⟩
      ·simp only [oi0, pi0] at hr; obtain ⟨rfl, rfl, rfl, rfl⟩ := hr; exact ⟨h5, h6, .inr (.inl ⟨rfl, rfl, rfl⟩)⟩
      ·simp only [oi0, pi0] at hr; obtain ⟨rfl, rfl, rfl, rfl⟩ := hr; exact ⟨h5, h6, .inr (.inr ⟨_, rfl, rfl, rfl⟩)⟩
     ·cases hr
    ·cases hr
   ·cases hr
  ·cases hr
 ·cases hr
theorem yP : ∀ {d : List Nat} {h h' : Heap} {k : Nat}, uj h d = some h' -> (∀ j, k <= j -> h.get j = none) -> ∀ j, k <= j -> h'.get j = none
 | [], h, h', k, hs, hf, j, hj => by simp only [uj, oi0] at hs; subst hs; exact hf j hj
 | i :: l, h, h', k, hs, hf, j, hj => by
  unfold uj at hs
  split at hs
  ·rename_i hd
   refine yP hs (fun j hj => ?_) j hj
   rw [Heap.put_ne _ (fun e => by rw [← e, hf j hj] at hd; cases hd)]
   exact hf j hj
  ·cases hs
theorem AI {ρ : Names} : ∀ (ps : List Nat) (us : List AV) (vs : List Value) (t : Sl) (tmps : Array Value), Slots ρ t tmps -> Reps ρ us vs -> us.length = ps.length →
  Slots ρ (Ck t ps us) ((ps.zip vs).foldl (fun t (p, v) => t.setIfInBounds p v) tmps)
 | [], us, vs, t, tmps, ht, hr, hl => by simpa [Ck] using ht
 | p :: ps, [], vs, t, tmps, ht, hr, hl => by simp at hl
 | p :: ps, a :: us, vs, t, tmps, ht, hr, hl => by
  simp only [Reps] at hr
  obtain ⟨y, r, rfl, h1, h2⟩ := hr
  simp only [Ck, List.zip_cons_cons, List.foldl_cons]
  exact AI ps us r _ _ (ht.set p h1) h2 (by simpa using hl)
theorem HS (henv : sW P env) (hinl : InlOK P inl) : InlOK P (fun g args h k ob => match g with | .fn g => fnI P X env os inl g args h k ob | .yd id => rdI P X env os inl id args h k ob) := by
 refine ⟨fun g args h k ob r k' h' ob' hr hob => ?_, fun g args h k ob r k' h' ob' hr hob hf => ?_, fun g args h k ob r k' h' ob' hr hob hf => ?_, fun id args h k ob r k' h' ob' hr hob hf => ?_⟩
 ·cases g with
  | fn g =>
   obtain ⟨fn, c, ex, A, rs, h1, h2, h3, h4, h5, h6, h7, h8, rfl⟩ := B9 hr
   exact sN hinl _ _ _ _ _ _ _ _ h5 hob
  | yd id =>
   obtain ⟨pe0, t, ps, asg, body, D0, k1, A1, ob1, pe, t1, ps1, asg1, body1, D1, ex, A2, st2, pe2, t2, ps2, asg2, body2, D2, h1, h2, h3, h4, h5, h6, h7⟩ := BX hr
   exact sN hinl _ _ _ _ _ _ _ _ h3 (sN hinl _ _ _ _ _ _ _ _ h5 hob)
 ·cases g with
  | fn g =>
   obtain ⟨fn, c, ex, A, rs, h1, h2, h3, h4, h5, h6, h7, h8, rfl⟩ := B9 hr
   exact yP h7 (rU henv hinl _ _ _ _ _ _ _ _ h5 hob hf).1
  | yd id =>
   obtain ⟨pe0, t, ps, asg, body, D0, k1, A1, ob1, pe, t1, ps1, asg1, body1, D1, ex, A2, st2, pe2, t2, ps2, asg2, body2, D2, h1, h2, h3, h4, h5, h6, h7⟩ := BX hr
   have hob1 := sN hinl _ _ _ _ _ _ _ _ h5 hob
   have f1 := (rU henv hinl _ _ _ _ _ _ _ _ h3 hob1 hf).1
   have f1' : sn ⟨A1.t, A1.h.put id (.lp .busy pe t1 ps1 asg1 body1 D1), A1.d⟩ k1 := fun j hj => by
    show (Heap.put A1.h id _).get j = none
    rw [Heap.put_ne _ (fun e => by have := f1 j hj; rw [e, h4] at this; cases this)]
    exact f1 j hj
   have f2 := (rU henv hinl _ _ _ _ _ _ _ _ h5 hob f1').1
   intro j hj
   have hne : j ≠ id := fun e => by have := f2 j hj; rw [e, h6] at this; cases this
   rcases h7 with ⟨_, _, rfl⟩ | ⟨_, _, rfl⟩ | ⟨_, _, _, rfl⟩ <;> rw [Heap.put_ne _ hne] <;> exact f2 j hj
 ·obtain ⟨fn, c, ex, A, rs, h1, h2, h3, h4, h5, h6, h7, h8, rfl⟩ := B9 hr
  obtain ⟨f1, s1⟩ := rU henv hinl _ _ _ _ _ _ _ _ h5 hob hf
  refine ⟨fun vs w => ?_, fun w0 ρ vs w hsl hb hh => ?_⟩
  ·have h2' : fn.name ≠ "runtime.NumGoroutine" := by intro e; rw [e] at h2; simp at h2
   simp [callFunc, h1, h2', h4, mark]
  ·refine (callsIn_wide (n := 0)).1 (callsIn_of_wp_marks h1 h4 trivial ?_)
   refine s1 w0 (.inl rfl) (fun _ => rfl) 0 _ ρ _ w ⟨AU hsl fn.ntmps h3, rfl, hb, hh⟩ fun ρ' a' w' hl hR' => ?_
   have hle : ρ.le ρ' := hl.le fun j hj => hh.none_ j (hf j hj)
   have hbp : LeavesInM Fence.wide 0 P fn a'.tmps (After w0 ρ (D4 rs) h') a'.defers .returning w' :=
    xY A.d A.h h' a' w' h7 hR' fun w'' hs hb' hh' => by
     obtain ⟨v, e1, e2⟩ := FQ (P := P) hs hh'.toHAt h8
     exact ⟨v, e1, v, ρ', rfl, hle, e2, hb', hh'⟩
   cases ex with
   | normal => exact hbp
   | ret => exact hbp
   | exit id => exact absurd rfl (h6 id)
 ·obtain ⟨pe0, t, ps, asg, body, D0, k1, A1, ob1, pe, t1, ps1, asg1, body1, D1, ex, A2, st2, pe2, t2, ps2, asg2, body2, D2, h1, h2, h3, h4, h5, h6, h7⟩ := BX hr
  have hob1 := sN hinl _ _ _ _ _ _ _ _ h5 hob
  obtain ⟨f1, s1⟩ := rU henv hinl _ _ _ _ _ _ _ _ h3 hob1 hf
  have f1' : sn ⟨A1.t, A1.h.put id (.lp .busy pe t1 ps1 asg1 body1 D1), A1.d⟩ k1 := fun j hj => by
   show (Heap.put A1.h id _).get j = none
   rw [Heap.put_ne _ (fun e => by have := f1 j hj; rw [e, h4] at this; cases this)]
   exact f1 j hj
  obtain ⟨f2, s2⟩ := rU henv hinl _ _ _ _ _ _ _ _ h5 hob f1'
  intro w0 ρ vs w v hsl hb hh hv
  have hidk : id < k := by
   rcases Nat.lt_or_ge id k with hlt | hge
   ·exact hlt
   ·rw [hf id hge] at h1; cases h1
  obtain ⟨v', g1, g2⟩ := hh.at_ _ _ h1
  rw [hv] at g1; simp only [oi0] at g1; subst g1
  obtain ⟨q1, q2, fn, tmps, d, q3, q4, q5⟩ := g2
  have hlen : vs.size = ps.size := by have := vO hsl; simp at this; omega
  have hy := run_yield (P := P) (args := vs) q5 hlen
  refine ⟨fn, _, asg, body, hy, fun n => roundIn_of_wpIn trivial ?_⟩
  have hps : Slots ρ (Ck t ps.toList args) ((ps.zip vs).foldl (fun t (p, v) => t.setIfInBounds p v) tmps) := by
   have := AI ps.toList args vs.toList t tmps q3 hsl (by simpa using h2)
   rw [← Array.foldl_toList, Array.toList_zip]
   exact this
  refine s1 w0 (.inr ⟨v.1, rfl⟩) (fun h => by cases h) n _ ρ _ w ⟨hps, rfl, hb, hh⟩ fun ρ1 a1 w1 hl1 hR1 => ?_
  have hv1 : ρ1 id = some v := hl1 id v hidk hv
  obtain ⟨v', g1, g2⟩ := hR1.heap.at_ _ _ h4
  rw [hv1] at g1; simp only [oi0] at g1; subst g1
  obtain ⟨r1, r2, fn1, tmps1, d1, r3, r4, r5⟩ := g2
  have hR1' : Rel w0 ρ1 ⟨A1.t, A1.h.put id (.lp .busy pe t1 ps1 asg1 body1 D1), A1.d⟩ a1 (w1.putObj v.1 (.loop { state := .busy, pending := pe, fn := fn1, tmps := tmps1, params := ps1, assign := asg1, body := body1, defers := d1 })) :=
   wI hR1 hv1 h4 rfl r2 _ _ ⟨r1, r2, fn1, tmps1, d1, r3, r4, World.putObj_heap_same (hR1.heap.lt _ _ hv1)⟩
  refine ⟨_, run_beginRound r5 rfl, ?_⟩
  refine s2 w0 (.inr ⟨v.1, rfl⟩) (fun h => by cases h) n _ ρ1 _ _ hR1' fun ρ2 a2 w2 hl2 hR2 => ?_
  have hv2 : ρ2 id = some v := hl2 id v hidk hv1
  obtain ⟨v', g1, g2⟩ := hR2.heap.at_ _ _ h6
  rw [hv2] at g1; simp only [oi0] at g1; subst g1
  obtain ⟨u1, u2, fn2, tmps2, d2, u3, u4, u5⟩ := g2
  have hle : ρ.le ρ2 := (Names.leB_trans hl1 hl2).le fun j hj => hh.none_ j (hf j hj)
  have fin : ∀ (st : LoopState) (jump : Option Code), Rel w0 ρ2 ⟨A2.t, A2.h.put id (.lp st jump t2 ps2 asg2 body2 D2), A2.d⟩ a2 (w2.putObj v.1 (.loop { state := st, pending := jump, fn := fn2, tmps := tmps2, params := ps2, assign := asg2, body := body2, defers := d2 })) :=
   fun st jump => wI hR2 hv2 h6 rfl u2 _ _ ⟨u1, u2, fn2, tmps2, d2, u3, u4, World.putObj_heap_same (hR2.heap.lt _ _ hv2)⟩
  rcases h7 with ⟨rfl, rfl, rfl⟩ | ⟨rfl, rfl, rfl⟩ | ⟨j, rfl, rfl, rfl⟩
  ·exact ⟨_, _, run_endRound none u5, _, ρ2, rfl, hle, rfl, (fin .ready none).below, (fin .ready none).heap⟩
  ·exact ⟨_, _, run_endRound (some .ret) u5, _, ρ2, rfl, hle, rfl, (fin .done (some .ret)).below, (fin .done (some .ret)).heap⟩
  ·exact ⟨_, _, run_endRound (some (.exit j)) u5, _, ρ2, rfl, hle, rfl, (fin .done (some (.exit j))).below, (fin .done (some (.exit j))).heap⟩
theorem tD (henv : sW P env) : ∀ n, InlOK P (inlN P X env os n)
 | 0 => ⟨fun _ _ _ _ _ _ _ _ _ h => (by cases h), fun _ _ _ _ _ _ _ _ _ h => (by cases h), fun _ _ _ _ _ _ _ _ _ h => (by cases h), fun _ _ _ _ _ _ _ _ _ h => (by cases h)⟩
 | n + 1 => HS henv (tD henv n)
end
def agsC : List XPc -> Nat -> List Ch
 | [], _ => []
 | .c x :: l, i => x :: agsC l (i + 1)
 | .r _ len :: l, i => .sx i len :: agsC l (i + 1)
 | .z _ len :: l, i => .sz i len :: agsC l (i + 1)
def hpC : List XPc -> Nat -> Heap -> Heap
 | [], _, h => h
 | .c _ :: l, i, h => hpC l (i + 1) h
 | .r cs _ :: l, i, h => hpC l (i + 1) (h.put i (.ro cs))
 | .z cs _ :: l, i, h => hpC l (i + 1) (h.put i (.rz cs))
def avs : List XV -> Nat -> List AV
 | [], _ => []
 | .t x :: l, i => x :: avs l (i + 1)
 | .rd _ len cap :: l, i => .sl i 0 len cap :: avs l (i + 1)
 | .rx _ len :: l, i => .sx i len :: avs l (i + 1)
 | .rz _ len :: l, i => .sz i len :: avs l (i + 1)
 | .ags ps :: l, i => .ag (agsC ps i) :: avs l (i + ps.length + 1)
def hp0 : List XV -> Nat -> Heap -> Heap
 | [], _, h => h
 | .t _ :: l, i, h => hp0 l (i + 1) h
 | .rd cs _ _ :: l, i, h => hp0 l (i + 1) (h.put i (.ro cs))
 | .rx cs _ :: l, i, h => hp0 l (i + 1) (h.put i (.ro cs))
 | .rz cs _ :: l, i, h => hp0 l (i + 1) (h.put i (.rz cs))
 | .ags ps :: l, i, h => hp0 l (i + ps.length + 1) (hpC ps i h)
def sr : List XV -> Nat
 | [] => 0
 | .t _ :: l => match sr l with | 0 => 0 | n + 1 => n + 2
 | .rd _ _ _ :: l => sr l + 1
 | .rx _ _ :: l => sr l + 1
 | .rz _ _ :: l => sr l + 1
 | .ags ps :: l => sr l + ps.length + 1
theorem Jk {w : World} {cs : List Ch} {len : Nat} {y : Value} (h : HX w cs len y) : ∃ v : NM, v.1 < w.heap.size /\ w.rangeAt v.1 v.2 (flat cs) /\ (v.3 = 0 -> flat cs = []) /\ (v.3 = 0 -> len = 0) /\ y = zval v len := by
 obtain ⟨hp, h0, ⟨rfl, h2, rfl⟩ | ⟨b, off, room, rfl, h3, h4⟩⟩ := h
 ·exact ⟨⟨0, 0, 0⟩, h0, by rw [h2]; intro j x hx; simp at hx, fun _ => h2, fun _ => rfl, rfl⟩
 ·exact ⟨⟨b, off, room + 1⟩, h3, h4, fun h => (by simp at h), fun h => (by simp at h), rfl⟩
theorem Bb {w : World} : ∀ (ps : List XPc) (vs : List Value) (i : Nat) (h : Heap) (ρ : Names), za w ps vs -> HRel w.heap.size ρ h w -> (∀ j, i <= j -> h.get j = none) -> (∀ j v, ρ j = some v -> v.1 < w.heap.size) →
  ∃ ρ', ρ.le ρ' /\ DefC ρ' (agsC ps i) /\ flatR ρ' (agsC ps i) = vs /\ HRel w.heap.size ρ' (hpC ps i h) w /\ (∀ j, i + ps.length <= j -> (hpC ps i h).get j = none) /\ (∀ j v, ρ' j = some v -> v.1 < w.heap.size)
 | [], vs, i, h, ρ, hx, hh, hf, hb => ⟨ρ, ρ.le_refl, tt0, by simp only [za] at hx; rw [hx]; rfl, hh, fun j hj => hf j hj, hb⟩
 | .c x :: ps, vs, i, h, ρ, hx, hh, hf, hb => by
  obtain ⟨hp, r, rfl, hr⟩ := hx
  obtain ⟨ρ', h1, h2, h3, h4, h5, h6⟩ := Bb ps r (i + 1) h ρ hr hh (fun j hj => hf j (by omega)) hb
  exact ⟨ρ', h1, ⟨(Ch.pure_cells hp ρ' rM).2, h2⟩, by simp only [agsC, flatR]; rw [h3, (Ch.pure_cells hp ρ' rM).1], h4, fun j hj => h5 j (by simp only [List.length_cons] at hj; omega), h6⟩
 | .r cs len :: ps, vs, i, h, ρ, hx, hh, hf, hb => by
  obtain ⟨hp, b, off, room, r, rfl, hlt, hra, hr⟩ := hx
  obtain ⟨g1, g2, g3⟩ := hh.ro hb (hf i (Nat.le_refl _)) hp ⟨b, off, room⟩ hlt hra
  obtain ⟨ρ', h1, h2, h3, h4, h5, h6⟩ := Bb ps r (i + 1) (h.put i (.ro cs)) _ hr g1 (fun j hj => by rw [Heap.put_ne _ (by omega)]; exact hf j (by omega)) g3
  have hi : ρ' i = some ⟨b, off, room⟩ := h1 _ _ (Names.nm_eq _ _ _)
  exact ⟨ρ', Names.le_trans g2 h1, ⟨⟨_, hi⟩, h2⟩, by simp only [agsC, flatR, Ch.cells, Names.at, Names.room, hi]; rw [h3]; rfl, h4, fun j hj => h5 j (by simp only [List.length_cons] at hj; omega), h6⟩
 | .z cs len :: ps, vs, i, h, ρ, hx, hh, hf, hb => by
  obtain ⟨y, r, rfl, hz, hr⟩ := hx
  have hp := hz.1
  obtain ⟨u, u1, u2, u3, u4, rfl⟩ := Jk hz
  obtain ⟨g1, g2, g3⟩ := hh.rz hb (hf i (Nat.le_refl _)) hp u u1 u2 u3
  obtain ⟨ρ', h1, h2, h3, h4, h5, h6⟩ := Bb ps r (i + 1) (h.put i (.rz cs)) _ hr g1 (fun j hj => by rw [Heap.put_ne _ (by omega)]; exact hf j (by omega)) g3
  have hi : ρ' i = some u := h1 _ _ (Names.nm_eq _ _ _)
  exact ⟨ρ', Names.le_trans g2 h1, ⟨⟨u, hi, u4⟩, h2⟩, by simp only [agsC, flatR, Ch.cells, Names.sz, hi]; rw [h3]; rfl, h4, fun j hj => h5 j (by simp only [List.length_cons] at hj; omega), h6⟩
theorem Nt : ∀ (l : List XV) (k : Nat) (h : Heap), sr l = 0 -> hp0 l k h = h
 | [], _, _, _ => rfl
 | .t _ :: l, k, h, hk => by
  simp only [sr] at hk
  split at hk
  ·rename_i h0; simp only [hp0]; exact Nt l _ _ h0
  ·omega
 | .rd _ _ _ :: _, _, _, hk => by simp [sr] at hk
 | .rx _ _ :: _, _, _, hk => by simp [sr] at hk
 | .rz _ _ :: _, _, _, hk => by simp [sr] at hk
 | .ags _ :: _, _, _, hk => by simp [sr] at hk
theorem wt {w : World} : ∀ (xs : List XV) (vs : List Value) (i : Nat) (h : Heap) (ρ : Names), XReps w xs vs -> HRel w.heap.size ρ h w -> (∀ j, i <= j -> h.get j = none) -> (∀ j v, ρ j = some v -> v.1 < w.heap.size) →
  ∃ ρ', ρ.le ρ' /\ Reps ρ' (avs xs i) vs /\ HRel w.heap.size ρ' (hp0 xs i h) w /\ (∀ j, i + sr xs <= j -> (hp0 xs i h).get j = none)
 | [], [], i, h, ρ, _, hh, hf, _ => ⟨ρ, ρ.le_refl, rfl, hh, fun j hj => hf j hj⟩
 | .t x :: xs, v :: vs, i, h, ρ, hx, hh, hf, hb => by
  obtain ⟨ρ', h1, h2, h3, h4⟩ := wt xs vs (i + 1) h ρ hx.2 hh (fun j hj => hf j (by omega)) hb
  refine ⟨ρ', h1, by simp only [avs, Reps]; exact ⟨_, _, rfl, ui hx.1, h2⟩, h3, fun j hj => ?_⟩
  simp only [sr] at hj
  cases hs : sr xs with
  | zero =>
   rw [hs] at hj h4
   simp only at hj
   by_cases e : j = i
   ·subst e
    simp only [hp0]
    rw [Nt _ _ _ hs]
    exact hf _ (Nat.le_refl _)
   ·exact h4 j (by omega)
  | succ n =>
   rw [hs] at hj h4
   simp only at hj
   exact h4 j (by omega)
 | .rd cs len cap :: xs, v :: vs, i, h, ρ, hx, hh, hf, hb => by
  obtain ⟨⟨hp, b, off, rfl, hlt, hr⟩, hx2⟩ := hx
  obtain ⟨g1, g2, g3⟩ := hh.ro hb (hf i (Nat.le_refl _)) hp ⟨b, off, 0⟩ hlt hr
  obtain ⟨ρ', h1, h2, h3, h4⟩ := wt xs vs (i + 1) (h.put i (.ro cs)) _ hx2 g1 (fun j hj => by rw [Heap.put_ne _ (by omega)]; exact hf j (by omega)) g3
  refine ⟨ρ', Names.le_trans g2 h1, ?_, h3, fun j hj => h4 j (by simp only [sr] at hj; omega)⟩
  simp only [avs, Reps]
  refine ⟨_, _, rfl, ?_, h2⟩
  simp only [Rep]
  exact ⟨⟨b, off, 0⟩, h1 _ _ (Names.nm_eq _ _ _), rfl⟩
 | .rx cs len :: xs, v :: vs, i, h, ρ, hx, hh, hf, hb => by
  obtain ⟨⟨hp, b, off, room, rfl, hlt, hr⟩, hx2⟩ := hx
  obtain ⟨g1, g2, g3⟩ := hh.ro hb (hf i (Nat.le_refl _)) hp ⟨b, off, room⟩ hlt hr
  obtain ⟨ρ', h1, h2, h3, h4⟩ := wt xs vs (i + 1) (h.put i (.ro cs)) _ hx2 g1 (fun j hj => by rw [Heap.put_ne _ (by omega)]; exact hf j (by omega)) g3
  refine ⟨ρ', Names.le_trans g2 h1, ?_, h3, fun j hj => h4 j (by simp only [sr] at hj; omega)⟩
  simp only [avs, Reps]
  refine ⟨_, _, rfl, ?_, h2⟩
  simp only [Rep]
  exact ⟨⟨b, off, room⟩, h1 _ _ (Names.nm_eq _ _ _), rfl⟩
 | .rz cs len :: xs, v :: vs, i, h, ρ, hx, hh, hf, hb => by
  obtain ⟨hz, hx2⟩ := hx
  have hp := hz.1
  obtain ⟨u, u1, u2, u3, u4, rfl⟩ := Jk hz
  obtain ⟨g1, g2, g3⟩ := hh.rz hb (hf i (Nat.le_refl _)) hp u u1 u2 u3
  obtain ⟨ρ', h1, h2, h3, h4⟩ := wt xs vs (i + 1) (h.put i (.rz cs)) _ hx2 g1 (fun j hj => by rw [Heap.put_ne _ (by omega)]; exact hf j (by omega)) g3
  refine ⟨ρ', Names.le_trans g2 h1, ?_, h3, fun j hj => h4 j (by simp only [sr] at hj; omega)⟩
  simp only [avs, Reps]
  refine ⟨_, _, rfl, ?_, h2⟩
  simp only [Rep]
  exact ⟨u, h1 _ _ (Names.nm_eq _ _ _), u4, rfl⟩
 | .ags ps :: xs, v :: vs, i, h, ρ, hx, hh, hf, hb => by
  obtain ⟨⟨cells, rfl, hp⟩, hx2⟩ := hx
  obtain ⟨ρ1, g1, g2, g3, g4, g5, g6⟩ := Bb ps cells i h ρ hp hh hf hb
  obtain ⟨ρ', h1, h2, h3, h4⟩ := wt xs vs (i + ps.length + 1) (hpC ps i h) _ hx2 g4 (fun j hj => g5 j (by omega)) g6
  refine ⟨ρ', Names.le_trans g1 h1, ?_, h3, fun j hj => h4 j (by simp only [sr] at hj; omega)⟩
  simp only [avs, Reps]
  refine ⟨_, _, rfl, ?_, h2⟩
  obtain ⟨d1, d2⟩ := rE h1 g2
  simp only [Rep]
  exact ⟨d1, by rw [d2, g3]⟩
 | [], _ :: _, _, _, _, h, _, _, _ => h.elim
 | .t _ :: _, [], _, _, _, h, _, _, _ => h.elim
 | .rd _ _ _ :: _, [], _, _, _, h, _, _, _ => h.elim
 | .rx _ _ :: _, [], _, _, _, h, _, _, _ => h.elim
 | .rz _ _ :: _, [], _, _, _, h, _, _, _ => h.elim
 | .ags _ :: _, [], _, _, _, h, _, _, _ => h.elim
def fnH (P : Program) (X : Rules P) (env : List Entry) (n : Nat) (os : Nat -> Ora) (fn : Func) (args : List XV) : Option (AV × Heap × Prop) :=
 match fn.body, Nat.blt ((avs args 0).length + (fn.ntmps - (avs args 0).length)) 4096 with
 | some c, true =>
  match codeA P X env (inlN P X env os n) os 0 false c (sr args) ⟨frame (avs args 0) fn.ntmps, hp0 args 0 .nil, []⟩ True with
  | some (.exit _, _, _, _) => none
  | some (_, _, A, ob) =>
   match uj A.h A.d with
   | some h' => (resA P A.t h' fn.results.toList).map fun r => (D4 r, h', ob)
   | none => none
  | none => none
 | _, _ => none
def fnA (P : Program) (X : Rules P) (env : List Entry) (n : Nat) (os : Nat -> Ora) (fn : Func) (args : List XV) : Option (AV × Prop) :=
 match fnH P X env n os fn args with
 | some (r, _, ob) => some (r, ob)
 | none => none
def Gives (P : Program) (f : FuncId) (args : List XV) (r : AV) : Prop :=
 ∃ v, r.val? = some v /\ ∀ w vs, XReps w args vs -> Calls P f vs.toArray w (fun en w' => en = .returned v /\ Below w.heap.size w w')
theorem Mo {X : Rules P} {env : List Entry} (henv : sW P env) {f : FuncId} {fn : Func} (hf : P.funcs[f]? = some fn) (n : Nat) (os : Nat -> Ora) {args : List XV} {r : AV} {h' : Heap} {ob : Prop} (h : fnH P X env n os fn args = some (r, h', ob)) (hob : ob)
  (w : World) (vs : List Value) (hx : XReps w args vs) : Calls P f vs.toArray w (After w (fun _ => none) r h') := by
 unfold fnH at h
 split at h
 ·rename_i c hc hcap
  split at h
  ·cases h
  ·rename_i ex fr A ob' hne hrun
   split at h
   ·rename_i h1 h2
    simp only [Option.map_eq_some_iff, pi0] at h
    obtain ⟨rs, hrs, rfl, rfl, rfl⟩ := h
    obtain ⟨ρ', e1, e2, e3, e4⟩ := wt args vs 0 .nil (fun _ => none) hx ⟨⟨fun id blk hi => (by rw [Tr.get_nil] at hi; cases hi), fun i v hi => (by cases hi), Nat.le_refl _⟩, fun i j u v _ _ _ _ _ _ hu => (by cases hu), fun _ _ => rfl⟩ (fun j _ => Tr.get_nil _) (fun j v hj => by cases hj)
    obtain ⟨f1, s1⟩ := rU henv (tD henv n) _ _ _ _ _ _ _ _ hrun hob (fun j hj => e4 j (by simpa using hj))
    refine (callsIn_wide (n := 0)).1 (callsIn_of_wp_marks hf hc trivial ?_)
    refine s1 w (.inl rfl) (fun _ => rfl) 0 _ ρ' _ w ⟨AU (by simpa [wz] using e2) fn.ntmps hcap, rfl, Below.refl _ _, e3⟩ fun ρ'' a' w' hl hR' => ?_
    have hbp : LeavesInM Fence.wide 0 P fn a'.tmps (After w (fun _ => none) (D4 rs) h1) a'.defers .returning w' :=
     xY A.d A.h h1 a' w' h2 hR' fun w'' hs hb' hh' => by
      obtain ⟨v, g1, g2⟩ := FQ (P := P) hs hh'.toHAt hrs
      exact ⟨v, g1, v, ρ'', rfl, fun i b h => (by cases h), g2, hb', hh'⟩
    cases ex with
    | normal => exact hbp
    | ret => exact hbp
    | exit id => exact absurd rfl (hne id)
   ·cases h
  ·cases h
 ·cases h
theorem qb {X : Rules P} {env : List Entry} (henv : sW P env) {f : FuncId} {fn : Func} (hf : P.funcs[f]? = some fn) (n : Nat) (os : Nat -> Ora) {args : List XV} {r : AV} {ob : Prop} (h : fnA P X env n os fn args = some (r, ob)) (hv : ∃ v, r.val? = some v) (hob : ob) :
  Gives P f args r := by
 unfold fnA at h
 split at h
 ·rename_i r' h' ob' hr
  simp only [oi0, pi0] at h
  obtain ⟨rfl, rfl⟩ := h
  obtain ⟨v, hv⟩ := hv
  refine ⟨v, hv, fun w vs hx => (Mo henv hf n os hr hob w vs hx).mono fun en w' hen => ?_⟩
  obtain ⟨y, ρ', rfl, _, h3, h4, _⟩ := hen
  exact ⟨by rw [h3.of_val hv], h4⟩
 ·cases h
structure Par (α : Type) where
 p : List Ch -> Option (α × List Ch)
 c : α -> List Ch
 pure : ∀ x, pureC (c x) = true
 ok : ∀ l x r, p l = some (x, r) -> flat l = flat (c x) ++ flat r
theorem zC : ∀ {a b : List Ch}, pureC a = true -> pureC b = true -> pureC (a ++ b) = true
 | [], b, _, h => h
 | c :: a, b, h, h' => by
  unfold pureC at h
  split at h
  ·rename_i hc
   simp only [List.cons_append, pureC, hc]
   exact zC h h'
  ·cases h
def Par.pair {α β : Type} (a : Par α) (b : Par β) : Par (α × β) where
 p l := match a.p l with
  | some (x, r) => match b.p r with | some (y, s) => some ((x, y), s) | none => none
  | none => none
 c z := a.c z.1 ++ b.c z.2
 pure z := zC (a.pure _) (b.pure _)
 ok l z s h := by
  split at h
  ·rename_i x r hx
   split at h
   ·rename_i y s' hy
    simp only [oi0, pi0] at h
    obtain ⟨rfl, rfl⟩ := h
    rw [a.ok _ _ _ hx, b.ok _ _ _ hy, qk, List.append_assoc]
   ·cases h
  ·cases h
structure XPar (α : Type) where
 p : XV -> Option α
 c : α -> XV
 ok : ∀ x a, p x = some a -> ∀ w v, XRep w x v -> XRep w (c a) v
theorem H6 {cs : List Ch} (h : pureC cs = true) : (AV.ag cs).val? = some (.agg (flat cs).toArray) := by simp only [AV.val?, h]
theorem GY {cs : List Ch} {v : Value} (h : (AV.ag cs).val? = some v) : v = .agg (flat cs).toArray := by
 simp only [AV.val?] at h
 split at h
 ·simp only [oi0] at h; exact h.symm
 ·cases h
def Par.x {α : Type} (a : Par α) : XPar α where
 p v := match v with
  | .t (.ag l) => match a.p l with | some (x, []) => some x | _ => none
  | _ => none
 c x := .t (.ag (a.c x))
 ok v x h w y hy := by
  split at h
  ·split at h
   ·rename_i l x' hp
    simp only [oi0] at h; subst h
    have := a.ok _ _ _ hp
    simp only [XRep] at hy ⊢
    rw [H6 (a.pure _), GY hy, this]
    simp [flat]
   ·cases h
  ·cases h
def XPar.int (k : IntKind) : XPar Int where
 p v := match v with
  | .t (.v (.int k' n)) => if k' = k then some n else none
  | _ => none
 c n := .t (.v (.int k n))
 ok v x h w y hy := by
  split at h
  ·split at h
   ·rename_i hk
    simp only [oi0] at h; subst h; subst hk; exact hy
   ·cases h
  ·cases h
def wL (f : FuncId) (res : ve) : Entry := ⟨f, fun _ => fun | [] => res | _ => []⟩
def qA {α : Type} (f : FuncId) (a : XPar α) (res : α -> ve) : Entry :=
 ⟨f, fun _ => fun | [x] => (match a.p x with | some u => res u | none => []) | _ => []⟩
def sq {α β : Type} (f : FuncId) (a : XPar α) (b : XPar β) (res : α -> β -> ve) : Entry :=
 ⟨f, fun _ => fun | [x, y] => (match a.p x, b.p y with | some u, some v => res u v | _, _ => []) | _ => []⟩
def Ak {α β γ : Type} (f : FuncId) (a : XPar α) (b : XPar β) (c : XPar γ) (res : α -> β -> γ -> ve) : Entry :=
 ⟨f, fun _ => fun | [x, y, z] => (match a.p x, b.p y, c.p z with | some u, some v, some t => res u v t | _, _, _ => []) | _ => []⟩
theorem ud {f : FuncId} {res : ve} (he : ∀ args w, (callFunc f args).run P w = .ok (.enter f args) w) (h : ∀ c r, (c, r) ∈ res -> c.getD True -> Gives P f [] r) : (wL f res).OK P := by
 intro _ args c r hm hc
 simp only [wL] at hm
 split at hm
 ·obtain ⟨v, h1, h2⟩ := h c r hm hc
  exact ⟨v, h1, fun w vs hx => .inr ⟨he _ _, h2 w vs hx⟩⟩
 ·cases hm
theorem qj {α : Type} {f : FuncId} {a : XPar α} {res : α -> ve} (he : ∀ args w, (callFunc f args).run P w = .ok (.enter f args) w)
  (h : ∀ u c r, (c, r) ∈ res u -> c.getD True -> Gives P f [a.c u] r) : (qA f a res).OK P := by
 intro _ args c r hm hc
 simp only [qA] at hm
 split at hm
 ·rename_i x
  split at hm
  ·rename_i u hu
   obtain ⟨v, h1, h2⟩ := h u c r hm hc
   refine ⟨v, h1, fun w vs hx => ?_⟩
   match vs, hx with
   | [y], hx => exact .inr ⟨he _ _, h2 w [y] ⟨a.ok _ _ hu _ _ hx.1, tt0⟩⟩
  ·cases hm
 ·cases hm
theorem q6 {α β : Type} {f : FuncId} {a : XPar α} {b : XPar β} {res : α -> β -> ve} (he : ∀ args w, (callFunc f args).run P w = .ok (.enter f args) w)
  (h : ∀ u v c r, (c, r) ∈ res u v -> c.getD True -> Gives P f [a.c u, b.c v] r) : (sq f a b res).OK P := by
 intro _ args c r hm hc
 simp only [sq] at hm
 split at hm
 ·rename_i x y
  split at hm
  ·rename_i u v hu hv
   obtain ⟨z, h1, h2⟩ := h u v c r hm hc
   refine ⟨z, h1, fun w vs hx => ?_⟩
   match vs, hx with
   | [p, q], hx => exact .inr ⟨he _ _, h2 w [p, q] ⟨a.ok _ _ hu _ _ hx.1, b.ok _ _ hv _ _ hx.2.1, tt0⟩⟩
  ·cases hm
 ·cases hm
theorem yC {α β γ : Type} {f : FuncId} {a : XPar α} {b : XPar β} {c : XPar γ} {res : α -> β -> γ -> ve} (he : ∀ args w, (callFunc f args).run P w = .ok (.enter f args) w)
  (h : ∀ u v t d r, (d, r) ∈ res u v t -> d.getD True -> Gives P f [a.c u, b.c v, c.c t] r) : (Ak f a b c res).OK P := by
 intro _ args d r hm hc
 simp only [Ak] at hm
 split at hm
 ·rename_i x y z
  split at hm
  ·rename_i u v t hu hv ht
   obtain ⟨z, h1, h2⟩ := h u v t d r hm hc
   refine ⟨z, h1, fun w vs hx => ?_⟩
   match vs, hx with
   | [p, q, s], hx => exact .inr ⟨he _ _, h2 w [p, q, s] ⟨a.ok _ _ hu _ _ hx.1, b.ok _ _ hv _ _ hx.2.1, c.ok _ _ ht _ _ hx.2.2.1, tt0⟩⟩
  ·cases hm
 ·cases hm
def tL : Rules P := {}
theorem qa {env : List Entry} (henv : sW P env) {f : FuncId} {fn : Func} (hf : P.funcs[f]? = some fn) (n : Nat) (os : Nat -> Ora) {args : List XV} {r : AV} {ob : Prop} (h : (match fnA P tL env n os fn args with | some (r, ob) => (match r.val? with | some _ => some (r, ob) | none => none) | none => none) = some (r, ob)) (hob : ob) :
  Gives P f args r := by
 split at h
 ·rename_i r' ob' hr
  split at h
  ·rename_i v hv
   simp only [oi0, pi0] at h
   obtain ⟨rfl, rfl⟩ := h
   exact qb henv hf n os hr ⟨v, hv⟩ hob
  ·cases h
 ·cases h
def o0 : Nat -> Ora := fun _ => { ch := 0, hi := fun _ => 0 }
def RQ : List (Nat × Nat × Nat) -> Nat -> Nat -> Nat
 | [], _, _ => 0
 | (i, a, b) :: l, id, k => if Nat.beq i id then (if Nat.beq k 0 then a else b) else RQ l id k
def R6 : List (Nat × Nat) -> Nat -> Nat
 | [], _ => 0
 | (i, c) :: l, id => if Nat.beq i id then c else R6 l id
def oN (names : List (Nat × Nat × Nat)) (ways : List (Nat × Nat)) : Nat -> Ora := fun id => { ch := R6 ways id, hi := RQ names id }
def oL : List (Nat × Ora) -> Nat -> Ora
 | [], _ => { ch := 0, hi := fun _ => 0 }
 | (i, c) :: l, id => match Nat.beq i id with | true => c | false => oL l id
def wT : Ora := { ch := 1, hi := fun _ => 0 }
def wF : Ora := { ch := 2, hi := fun _ => 0 }
def lpO (pk : LPick) : Ora := { ch := 0, hi := fun _ => 0, lp := some pk }
def wO (c : Nat) : Ora := { ch := c, hi := fun _ => 0 }
theorem Gives.same {f : FuncId} {args : List XV} {r r' : AV} (h : Gives P f args r) (e : r'.val? = r.val?) : Gives P f args r' := by
 obtain ⟨v, h1, h2⟩ := h
 exact ⟨v, e.trans h1, h2⟩
theorem only {f : FuncId} {args : List XV} {r0 : AV} (h : Gives P f args r0) : ∀ c r, (c, r) ∈ ([(none, r0)] : ve) -> c.getD True -> Gives P f args r := by
 intro c r hm _
 simp only [List.mem_singleton, pi0] at hm
 obtain ⟨_, rfl⟩ := hm
 exact h
theorem sZ {P : Program} {f : FuncId} {args : List XV} {p : Prop} {r0 : AV} (h : p -> Gives P f args r0) : ∀ c r, (c, r) ∈ ([(some p, r0)] : ve) -> c.getD True -> Gives P f args r := by
 intro c r hm hc
 simp only [List.mem_singleton, pi0] at hm
 obtain ⟨rfl, rfl⟩ := hm
 exact h hc
def MM (P : Program) (X : Rules P) (env : List Entry) (n : Nat) (os : Nat -> Ora) (fb : Nat) (rd : Bool) (c : Code) (k : Nat) (I : LState) (sk hk : List Nat) (lk : List (Nat × List Nat) := []) : Option (Ex × LState × Prop) :=
 match CT k I.hp, codeA P X env (inlN P X env os n) os fb rd c k I.aa True with
 | true, some (ex, _, A, ob) =>
  match Gx A sk hk lk with
  | some L => match zH fb A L [] && nmL L with | true => some (ex, L, ob) | false => none
  | none => none
 | _, _ => none
theorem qh {X : Rules P} {env : List Entry} (henv : sW P env) {n : Nat} {os : Nat -> Ora} {fb : Nat} {rd : Bool} {c : Code} {k : Nat} {I L : LState} {sk hk : List Nat} {lk : List (Nat × List Nat)} {ex : Ex} {ob : Prop} (h : MM P X env n os fb rd c k I sk hk lk = some (ex, L, ob)) (hob : ob) :
  Sound P fb rd c I.aa ex L.aa := by
 unfold MM at h
 split at h
 ·rename_i ex' fr A ob' hl hrun
  split at h
  ·rename_i L' hL
   split at h
   ·rename_i hb
    simp only [oi0, pi0] at h
    obtain ⟨rfl, rfl, rfl⟩ := h
    simp only [Bool.and_eq_true] at hb
    obtain ⟨f1, s1⟩ := rU henv (tD henv n) _ _ _ _ _ _ _ _ hrun hob (fun j hj => un hl j hj)
    intro w0 F hF hrd m Q ρ a w hR hQ
    refine s1 w0 hF hrd m Q ρ a w hR fun ρ' a' w' hle hR' => ?_
    obtain ⟨ρ'', e1, e2⟩ := wm hb.1 (xD hL hb.2) hR'
    exact hQ ρ'' a' w' (Names.leB_trans hle e1) e2
   ·cases h
  ·cases h
 ·cases h
theorem Sound.post {fb : Nat} {rd : Bool} {c : Code} {A : AA} {ex : Ex} {B : AA} {J : LState} (h : Sound P fb rd c A ex B) (τ : List (Nat × Nat)) (hb : zH fb B J τ = true) (hp : DP B J τ) : Sound P fb rd c A ex J.aa := by
 intro w0 F hF hrd m Q ρ a w hR hQ
 refine h w0 hF hrd m Q ρ a w hR fun ρ' a' w' hle hR' => ?_
 obtain ⟨ρ'', e1, e2⟩ := wm hb hp hR'
 exact hQ ρ'' a' w' (Names.leB_trans hle e1) e2
theorem Sound.pre {fb : Nat} {rd : Bool} {c : Code} {A : AA} {ex : Ex} {B : AA} {J : LState} (h : Sound P fb rd c J.aa ex B) (τ : List (Nat × Nat)) (hb : zH fb A J τ = true) (hp : DP A J τ) : Sound P fb rd c A ex B := by
 intro w0 F hF hrd m Q ρ a w hR hQ
 obtain ⟨ρ', e1, e2⟩ := wm hb hp hR
 exact h w0 hF hrd m Q ρ' a w e2 fun ρ'' a' w' hl hR' => hQ ρ'' a' w' (Names.leB_trans e1 hl) hR'
def vV : Code -> List Code
 | .seq a b => vV a ++ vV b
 | .cond _ a b => vV a ++ vV b
 | .block _ b => vV b
 | .loop b => b :: vV b
 | .rangeFunc _ _ a b => vV a ++ vV b
 | .scope b => vV b
 | _ => []
def vD : Code -> List (Array Tmp × Code × Code)
 | .seq a b => vD a ++ vD b
 | .cond _ a b => vD a ++ vD b
 | .block _ b => vD b
 | .loop b => vD b
 | .rangeFunc _ ps a b => [(ps, a, b)]
 | .scope b => vD b
 | _ => []
def qd (fn : Func) (k : Nat) : Array Tmp × Code × Code := match fn.body with | some c => (vD c).getD k (#[], .skip, .skip) | none => (#[], .skip, .skip)
def ql (fn : Func) (k : Nat) : Code := match fn.body with | some c => (vV c).getD k .skip | none => .skip
theorem sT {Y : Type} (m : Y -> Nat) (I : Y -> LState) {fb : Nat} {rd : Bool} {body : Code} {ex : Ex} {E : LState} (hex : ex ≠ .normal)
  (round : ∀ y, (∃ y', m y' < m y /\ Sound P fb rd body (I y).aa .normal (I y').aa) ∨ Sound P fb rd body (I y).aa ex E.aa) (y : Y) : Sound P fb rd (.loop body) (I y).aa ex E.aa := by
 intro w0 F hF hrd n Q ρ a w hR hQ
 suffices hs : ∀ k y ρ' a w, m y <= k -> ρ.leB fb ρ' -> Rel w0 ρ' (I y).aa a w -> Code.roundsIn F n P body Q (k + 1) a w from wpIn_loop_rounds (m y + 1) (hs (m y) y ρ a w (Nat.le_refl _) (Names.leB_refl _ _) hR)
 intro k
 induction k with
 | zero =>
  intro y ρ' a w hm hl hR
  rcases round y with ⟨y', h1, _⟩ | h1
  ·omega
  ·exact h1 w0 hF hrd n _ ρ' a w hR fun ρ'' a' w' hl' hR' => wC hex _ _ _ _ (hQ ρ'' a' w' (Names.leB_trans hl hl') hR')
 | succ k ih =>
  intro y ρ' a w hm hl hR
  rcases round y with ⟨y', h1, h2⟩ | h1
  ·exact h2 w0 hF hrd n _ ρ' a w hR fun ρ'' a' w' hl' hR' => ih y' ρ'' a' w' (by omega) (Names.leB_trans hl hl') hR'
  ·exact h1 w0 hF hrd n _ ρ' a w hR fun ρ'' a' w' hl' hR' => wC hex _ _ _ _ (hQ ρ'' a' w' (Names.leB_trans hl hl') hR')
end Go.Ev
set_option linter.unusedSimpArgs false
set_option linter.unusedVariables false
namespace Go.Ev
open Go.RowKit
def qL : Nat -> List Ch -> Option (Nat × List Ch)
 | 0, l => some (0, l)
 | w + 1, .c (.int .u64 a) :: l =>
  if 0 <= a /\ a < 18446744073709551616 then (qL w l).map fun p => (a.toNat + 18446744073709551616 * p.1, p.2) else none
 | w + 1, .n k a :: l =>
  if Nat.beq k 1 then (qL w l).map fun p => (a % 18446744073709551616 + 18446744073709551616 * p.1, p.2) else none
 | _ + 1, _ => none
theorem rG : ∀ (w : Nat) (l : List Ch) (x : Nat) (r : List Ch), qL w l = some (x, r) -> flat l = limbs w x ++ flat r
 | 0, l, x, r, h => by simp [qL] at h; obtain ⟨rfl, rfl⟩ := h; rfl
 | w + 1, [], x, r, h => by simp [qL] at h
 | w + 1, c :: l, x, r, h => by
  cases c
  case c v =>
   cases v <;> try (simp [qL] at h; done)
   rename_i k a
   cases k <;> try (simp [qL] at h; done)
   simp only [qL] at h
   split at h
   ·rename_i ha
    simp only [Option.map_eq_some_iff, pi0] at h
    obtain ⟨⟨y, s⟩, h1, rfl, rfl⟩ := h
    have := rG w l y s h1
    have e1 : (a.toNat + 18446744073709551616 * y) % 18446744073709551616 = a.toNat := by omega
    have e2 : (a.toNat + 18446744073709551616 * y) / 18446744073709551616 = y := by omega
    simp only [flat, Ch.cells, limbs, this, e1, e2, List.cons_append, List.nil_append]
    congr 2
    omega
   ·cases h
  case n k a =>
   simp only [qL] at h
   split at h
   ·rename_i hk
    have hk := Nat.eq_of_beq_eq_true hk
    subst hk
    simp only [Option.map_eq_some_iff, pi0] at h
    obtain ⟨⟨y, s⟩, h1, rfl, rfl⟩ := h
    have := rG w l y s h1
    have e1 : (a % 18446744073709551616 + 18446744073709551616 * y) % 18446744073709551616 = a % 18446744073709551616 := by omega
    have e2 : (a % 18446744073709551616 + 18446744073709551616 * y) / 18446744073709551616 = y := by omega
    simp only [flat, Ch.cells, limbs, this, e1, e2, List.cons_append, List.nil_append]
   ·cases h
  all_goals (simp [qL] at h)
theorem wN : ∀ (w : Nat) (l : List Ch) (x : Nat) (r : List Ch), qL w l = some (x, r) -> pureC r = true -> pureC l = true
 | 0, l, x, r, h, hr => by simp [qL] at h; obtain ⟨rfl, rfl⟩ := h; exact hr
 | w + 1, [], x, r, h, hr => by simp [qL] at h
 | w + 1, c :: l, x, r, h, hr => by
  cases c
  case c v =>
   cases v <;> try (simp [qL] at h; done)
   rename_i k a
   cases k <;> try (simp [qL] at h; done)
   simp only [qL] at h
   split at h
   ·simp only [Option.map_eq_some_iff, pi0] at h
    obtain ⟨⟨y, s⟩, h1, rfl, rfl⟩ := h
    exact wN w l y s h1 hr
   ·cases h
  case n k a =>
   simp only [qL] at h
   split at h
   ·simp only [Option.map_eq_some_iff, pi0] at h
    obtain ⟨⟨y, s⟩, h1, rfl, rfl⟩ := h
    exact wN w l y s h1 hr
   ·cases h
  all_goals (simp [qL] at h)
theorem qX {a b : List Ch} (ha : pureC a = true) (hb : pureC b = true) (h : flat a = flat b) : (AV.ag a).val? = (AV.ag b).val? := by
 rw [H6 ha, H6 hb, h]
theorem FH {w : Nat} {l : List Ch} {x : Nat} (h : qL w l = some (x, [])) : (AV.ag [.n w x]).val? = (AV.ag l).val? :=
 qX rfl (wN _ _ _ _ h rfl) (by rw [rG _ _ _ _ h]; rfl)
def GR : Par Nat where
 p l := match l with
  | .n w x :: r => if Nat.beq w 4 then some (x, r) else qL 4 (.n w x :: r)
  | .e x :: r => some (x.val, r)
  | l => qL 4 l
 c x := [.n 4 x]
 pure _ := rfl
 ok l x r h := by
  split at h
  ·split at h
   ·rename_i hw
    have := Nat.eq_of_beq_eq_true hw
    subst this
    simp only [oi0, pi0] at h; obtain ⟨rfl, rfl⟩ := h; simp [flat, Ch.cells]
   ·have := rG _ _ _ _ h
    simp [this]
    simp [flat, Ch.cells]
  ·simp only [oi0, pi0] at h; obtain ⟨rfl, rfl⟩ := h; simp [flat, Ch.cells]
  ·have := rG _ _ _ _ h
   simp [flat, Ch.cells, this]
def zV : Par Nat where
 p l := match l with
  | .n w x :: r => if Nat.beq w 6 then some (x, r) else qL 6 (.n w x :: r)
  | .q x :: r => some (x.val, r)
  | l => qL 6 l
 c x := [.n 6 x]
 pure _ := rfl
 ok l x r h := by
  split at h
  ·split at h
   ·rename_i hw
    have := Nat.eq_of_beq_eq_true hw
    subst this
    simp only [oi0, pi0] at h; obtain ⟨rfl, rfl⟩ := h; simp [flat, Ch.cells]
   ·have := rG _ _ _ _ h
    simp [this]
    simp [flat, Ch.cells]
  ·simp only [oi0, pi0] at h; obtain ⟨rfl, rfl⟩ := h; simp [flat, Ch.cells]
  ·have := rG _ _ _ _ h
   simp [flat, Ch.cells, this]
theorem Ls : toS 0 = 0 := by decide
theorem N4 : toM 0 = 0 := by decide
def VJ : Par (Fin Rr) where
 p l := match l with
  | .s x :: r => some (x, r)
  | l => match qL 4 l with | some (x, r) => if x = 0 then some (0, r) else none | none => none
 c x := [.s x]
 pure _ := rfl
 ok l x r h := by
  split at h
  ·simp only [oi0, pi0] at h; obtain ⟨rfl, rfl⟩ := h; simp [flat, Ch.cells]
  ·split at h
   ·rename_i y s hy
    split at h
    ·rename_i hz
     subst hz
     simp only [oi0, pi0] at h; obtain ⟨rfl, rfl⟩ := h
     have := rG _ _ _ _ hy
     simp [flat, Ch.cells, this, Ls]
    ·cases h
   ·cases h
def vw : Par (Fin Pp) where
 p l := match l with
  | .m x :: r => some (x, r)
  | l => match qL 6 l with | some (x, r) => if x = 0 then some (0, r) else none | none => none
 c x := [.m x]
 pure _ := rfl
 ok l x r h := by
  split at h
  ·simp only [oi0, pi0] at h; obtain ⟨rfl, rfl⟩ := h; simp [flat, Ch.cells]
  ·split at h
   ·rename_i y s hy
    split at h
    ·rename_i hz
     subst hz
     simp only [oi0, pi0] at h; obtain ⟨rfl, rfl⟩ := h
     have := rG _ _ _ _ hy
     simp [flat, Ch.cells, this, N4]
    ·cases h
   ·cases h
def ofR (x : Nat) : Fin Rr := Fin.ofNat Rr x
def ofP (x : Nat) : Fin Pp := Fin.ofNat Pp x
end Go.Ev
set_option linter.unusedSimpArgs false
set_option linter.unusedVariables false
namespace Go.Ev
theorem Hz (w x : Nat) : limbs (w + 1) x = .int .u64 ((x % 18446744073709551616 : Nat) : Int) :: limbs w (x / 18446744073709551616) := rfl
def Wp (a b i β o : Nat) : Prop := β <= 1 /\ o < 18446744073709551616 ^ i /\ o + b % 18446744073709551616 ^ i = a % 18446744073709551616 ^ i + 18446744073709551616 ^ i * β
def Xq (a b i β o : Nat) : Prop := β <= 1 /\ o < 18446744073709551616 ^ i /\ o + 18446744073709551616 ^ i * β = a % 18446744073709551616 ^ i + b % 18446744073709551616 ^ i
def NL : Par (Fin Pp) where
 p l := match l with | .q x :: r => some (x, r) | _ => none
 c x := [.q x]
 pure _ := rfl
 ok l x r h := by
  split at h
  ·simp only [oi0, pi0] at h; obtain ⟨rfl, rfl⟩ := h; simp [flat, Ch.cells]
  ·cases h
def SD : Par (Fin Rr) where
 p l := match l with | .e x :: r => some (x, r) | _ => none
 c x := [.e x]
 pure _ := rfl
 ok l x r h := by
  split at h
  ·simp only [oi0, pi0] at h; obtain ⟨rfl, rfl⟩ := h; simp [flat, Ch.cells]
  ·cases h
def xS {α β : Type} (f : FuncId) (a : XPar α) (b : XPar β) (ra : α -> ve) (rb : β -> ve) : Entry :=
 ⟨f, fun _ => fun | [x] => (match a.p x with | some u => ra u | none => match b.p x with | some v => rb v | none => []) | _ => []⟩
theorem xk {P : Program} {α β : Type} {f : FuncId} {a : XPar α} {b : XPar β} {ra : α -> ve} {rb : β -> ve} (h1 : (qA f a ra).OK P) (h2 : (qA f b rb).OK P) : (xS f a b ra rb).OK P := by
 intro hi args c r hm hc
 simp only [xS] at hm
 split at hm
 ·rename_i x
  split at hm
  ·rename_i u hu
   exact h1 hi [x] c r (by simp only [qA, hu]; exact hm) hc
  ·split at hm
   ·rename_i v hv
    exact h2 hi [x] c r (by simp only [qA, hv]; exact hm) hc
   ·cases hm
 ·cases hm
def XPar.or {α β : Type} (a : XPar α) (b : XPar β) : XPar (α ⊕ β) where
 p v := match a.p v with | some x => some (.inl x) | none => match b.p v with | some y => some (.inr y) | none => none
 c z := match z with | .inl x => a.c x | .inr y => b.c y
 ok v z h w y hy := by
  split at h
  ·rename_i x hx
   simp only [oi0] at h; subst h
   exact a.ok _ _ hx _ _ hy
  ·split at h
   ·rename_i x hx
    simp only [oi0] at h; subst h
    exact b.ok _ _ hx _ _ hy
   ·cases h
theorem Q8 (x : Fin Pp) : ofP x.val = x := by unfold ofP; exact Fin.ofNat_val_eq_self x
theorem PA (x : Fin Rr) : ofR x.val = x := by unfold ofR; exact Fin.ofNat_val_eq_self x
def smS (a : Nat) : Prop := a < 115792089237316195423570985008687907853269984665640564039457584007913129639936
def SG : XPar (Fin Rr ⊕ Nat) := XPar.or SD.x GR.x
def Xl : Fin Rr ⊕ Nat -> Fin Rr
 | .inl a => a
 | .inr a => ofR a
def ON : Fin Rr ⊕ Nat -> Prop
 | .inl _ => True
 | .inr a => smS a
def smP (a : Nat) : Prop := a < 39402006196394479212279040100143613805079739270465446667948293404245721771497210611414266254884915640806627990306816
theorem yB : ∀ (w a b : Nat), a < 18446744073709551616 ^ w -> b < 18446744073709551616 ^ w -> limbs w a = limbs w b -> a = b
 | 0, a, b, ha, hb, _ => by simp at ha hb; omega
 | w + 1, a, b, ha, hb, h => by
  simp only [Hz, List.cons.injEq, Value.int.injEq, true_and] at h
  obtain ⟨h1, h2⟩ := h
  rw [Nat.pow_succ, Nat.mul_comm] at ha hb
  have := yB w _ _ (Nat.div_lt_of_lt_mul ha) (Nat.div_lt_of_lt_mul hb) h2
  omega
def XPar.lim : XPar Nat where
 p v := match v with
  | .t (.u h) => some h
  | .t (.v (.int .u64 n)) => if 0 <= n /\ n < 18446744073709551616 then some n.toNat else none
  | _ => none
 c h := .t (.u h)
 ok v x h w y hy := by
  split at h
  ·simp only [oi0] at h; subst h; exact hy
  ·split at h
   ·rename_i n hn
    simp only [oi0] at h; subst h
    simp only [XRep, AV.val?, oi0] at hy ⊢
    rw [← hy]
    unfold u64
    congr 1
    omega
   ·cases h
  ·cases h
def XPar.rd (w : Nat) (a : Par Nat) (ha : ∀ x, a.c x = [.n w x]) : XPar Nat where
 p v := match v with
  | .rd cs len cap => match Nat.beq len w, Nat.beq cap w, a.p cs with | true, true, some (x, []) => some x | _, _, _ => none
  | _ => none
 c x := .rd [.n w x] w w
 ok v x h w' y hy := by
  split at h
  ·split at h
   ·rename_i h1 h2 h3
    simp only [oi0] at h; subst h
    have h1 := Nat.eq_of_beq_eq_true h1
    have h2 := Nat.eq_of_beq_eq_true h2
    subst h1
    subst h2
    obtain ⟨hp, b, off, e1, e2, e3⟩ := hy
    have e := a.ok _ _ _ h3
    rw [ha] at e
    refine ⟨rfl, b, off, e1, e2, ?_⟩
    rw [e] at e3
    simpa [flat] using e3
   ·cases h
  ·cases h
theorem qm (n : Int) : IntKind.i64.wrap n = if n % 18446744073709551616 < 9223372036854775808 then n % 18446744073709551616 else n % 18446744073709551616 - 18446744073709551616 := by
 simp [IntKind.wrap, IntKind.signed, IntKind.bits]
 split <;> split <;> omega
end Go.Ev
set_option linter.unusedSimpArgs false
set_option linter.unusedVariables false
namespace Go.Ev
open Go.RowKit
variable {P : Program}
theorem sf {p : Option Prop × AV} {k : Nat} {c : Option Prop} {r : AV} (h : [p][k]? = some (c, r)) : p = (c, r) := by
 match k, h with
 | 0, h => simpa using h
 | k + 1, h => simp at h
def X8 (P : Program) : QRule P where
 fn ora h avs op := match op, avs with
  | .index T _ _, [.v (.string s), .v (.int k z)] => (match P.underlying T with
   | some .string => [(some (0 <= z /\ z < s.size /\ ((s[z.toNat]?).getD 0).toNat = ora.hi 0), .v (.int .u8 ((ora.hi 0 : Nat) : Int)))]
   | _ => [])
  | _, _ => []
 nd ora h avs op k p hk c e := by subst e; simp at hk
 ok ora h avs op k c r hk hc := by
  intro B ρ w a o ho hr hh
  split at hk
  ·rename_i T x y s kd z
   split at hk
   ·rename_i hT
    have e := sf hk
    simp only [pi0] at e
    obtain ⟨rfl, rfl⟩ := e
    simp only [Option.getD_some] at hc
    obtain ⟨h0, h1, h2⟩ := hc
    simp only [Op.operands, List.map_cons, List.map_nil, Reps, Rep] at hr
    obtain ⟨u, r1, e1, rfl, v, r2, rfl, rfl, rfl⟩ := hr
    simp only [List.cons.injEq, and_true] at e1
    refine ⟨.int .u8 ((ora.hi 0 : Nat) : Int), ?_, rfl⟩
    have e3 := run_index_string (P := P) w T s kd z hT
    rw [dif_pos ⟨h0, h1⟩] at e3
    have h3 : z.toNat < s.size := by omega
    have h4 : (s[z.toNat]'h3).toNat = ora.hi 0 := by rw [← h2]; simp [ByteArray.getElem?_lt' _ _ h3]
    rw [h4] at e3
    simp [execOp, ho, e1.1, e1.2, e3]
   ·simp at hk
  ·simp at hk
def Xd (P : Program) : QRule P where
 fn ora h avs op := match op, avs with
  | .indexAddr T _ _, [.p id off, .v (.int k z)] => (match P.underlying T with
   | some (.array n e) => (match P.info? e with | some i => [(some (z = ((ora.hi 0 : Nat) : Int) /\ ora.hi 0 < n), .p id (off + ora.hi 0 * i.size))] | none => [])
   | _ => [])
  | .indexAddr T _ _, [.sl id off len cap, .v (.int k z)] => (match P.underlying T with
   | some (.slice e) => (match P.info? e with | some i => [(some (z = ((ora.hi 0 : Nat) : Int) /\ ora.hi 0 < len), .p id (off + ora.hi 0 * i.size))] | none => [])
   | _ => [])
  | _, _ => []
 nd ora h avs op k p hk c e := by subst e; simp at hk
 ok ora h avs op k c r hk hc := by
  intro B ρ w a o ho hr hh
  split at hk
  ·rename_i T x y id off kd z
   split at hk
   ·rename_i n e hT
    split at hk
    ·rename_i i hi
     have e := sf hk
     simp only [pi0] at e
     obtain ⟨rfl, rfl⟩ := e
     simp only [Option.getD_some] at hc
     obtain ⟨rfl, h1⟩ := hc
     simp only [Op.operands, List.map_cons, List.map_nil, Reps, Rep] at hr
     obtain ⟨u, r1, e1, ⟨b, g1, rfl⟩, v, r2, rfl, rfl, rfl⟩ := hr
     simp only [List.cons.injEq, and_true] at e1
     refine ⟨.pointer (some ⟨b.1, b.2 + off + ora.hi 0 * i.size, none⟩), ?_, ?_⟩
     ·have : (0 : Int) <= ((ora.hi 0 : Nat) : Int) /\ ((ora.hi 0 : Nat) : Int) < n := by omega
      simp [execOp, Instr.indexAt, ho, e1.1, e1.2, asIntOf, run_underlying hT, Instr.sureAddr, this, qz hi, Addr.add_mid]
      omega
     ·simp only [Rep]; exact ⟨b, g1, by rw [Nat.add_assoc]⟩
    ·simp at hk
   ·simp at hk
  ·rename_i T x y id off len cap kd z
   split at hk
   ·rename_i e hT
    split at hk
    ·rename_i i hi
     have e := sf hk
     simp only [pi0] at e
     obtain ⟨rfl, rfl⟩ := e
     simp only [Option.getD_some] at hc
     obtain ⟨rfl, h1⟩ := hc
     simp only [Op.operands, List.map_cons, List.map_nil, Reps, Rep] at hr
     obtain ⟨u, r1, e1, ⟨b, g1, rfl⟩, v, r2, rfl, rfl, rfl⟩ := hr
     simp only [List.cons.injEq, and_true] at e1
     refine ⟨.pointer (some ⟨b.1, b.2 + off + ora.hi 0 * i.size, none⟩), ?_, ?_⟩
     ·simp [execOp, Instr.indexAt, ho, e1.1, e1.2, asIntOf, run_underlying hT, h1, qz hi, Addr.add_mid]
     ·simp only [Rep]; exact ⟨b, g1, by rw [Nat.add_assoc]⟩
    ·simp at hk
   ·simp at hk
  ·simp at hk
def WV (P : Program) : QRule P where
 fn ora h avs op := match op, avs with
  | .load T _, [.p id off] => (match Hq P T, h.get id with
   | some none, some blk => (match blk.cells? with
    | some [.n w x] => [(some (off < w), .u (x / 18446744073709551616 ^ off))]
    | _ => [])
   | _, _ => [])
  | _, _ => []
 nd ora h avs op k p hk c e := by subst e; simp at hk
 ok ora h avs op k c r hk hc := by
  intro B ρ w a o ho hr hh
  split at hk
  ·rename_i T x id off
   split at hk
   ·rename_i blk hT hblk
    split at hk
    ·rename_i wd x hcs
     have e := sf hk
     simp only [pi0] at e
     obtain ⟨rfl, rfl⟩ := e
     simp only [Option.getD_some] at hc
     simp only [Op.operands, List.map_cons, List.map_nil, Reps, Rep] at hr
     obtain ⟨u, r1, e1, ⟨b, g1, rfl⟩, rfl⟩ := hr
     simp only [List.cons.injEq, and_true] at e1
     obtain ⟨b', k1, k2⟩ := hh.at_ id blk hblk
     rw [g1] at k1; simp only [oi0] at k1; subst k1
     obtain ⟨_, k3⟩ := k2.cells hcs
     have k4 := k3 off (.int .u64 ((x / 18446744073709551616 ^ off % 18446744073709551616 : Nat) : Int)) (by
      simp only [flatR, Ch.cells, List.append_nil]
      exact uc _ _ _ hc)
     refine ⟨u64 (x / 18446744073709551616 ^ off), ?_, rfl⟩
     have hagg := yk hT
     simp [execOp, ho, e1, Instr.loadAt, Instr.sureAddr, loadVar, Sem.run_bind, hagg, k4, u64]
    ·simp at hk
   ·simp at hk
  ·simp at hk
def Yt (P : Program) : QRule P where
 fn ora h avs op := match op, avs with
  | .binOp .shr T _ _ _, [.u x, .v (.int k z)] => [(some (z = ((ora.hi 0 : Nat) : Int) /\ ora.hi 0 < 64), .u (x % 18446744073709551616 / 2 ^ ora.hi 0))]
  | _, _ => []
 nd ora h avs op k p hk c e := by subst e; simp at hk
 ok ora h avs op k c r hk hc := by
  intro B ρ w a o ho hr hh
  split at hk
  ·rename_i T x y yt xx kd z
   have e := sf hk
   simp only [pi0] at e
   obtain ⟨rfl, rfl⟩ := e
   simp only [Option.getD_some] at hc
   obtain ⟨rfl, h1⟩ := hc
   simp only [Op.operands, List.map_cons, List.map_nil, Reps, Rep] at hr
   obtain ⟨u, r1, e1, rfl, v, r2, rfl, rfl, rfl⟩ := hr
   simp only [List.cons.injEq, and_true] at e1
   have hb : ¬ ((ora.hi 0 : Nat) : Int) < 0 := by omega
   refine ⟨u64 (xx % 18446744073709551616 / 2 ^ ora.hi 0), ?_, rfl⟩
   have e2 : (((xx % 18446744073709551616 : Nat) : Int).fdiv (2 ^ min (ora.hi 0) 64)) = ((xx % 18446744073709551616 / 2 ^ ora.hi 0 % 18446744073709551616 : Nat) : Int) := by
    rw [Nat.min_eq_left (by omega)]
    have h2 : (0 : Int) <= 2 ^ ora.hi 0 := by exact_mod_cast Nat.zero_le (2 ^ ora.hi 0)
    rw [Int.fdiv_eq_ediv_of_nonneg _ h2]
    have : xx % 18446744073709551616 / 2 ^ ora.hi 0 < 18446744073709551616 := by
     have := Nat.div_le_self (xx % 18446744073709551616) (2 ^ ora.hi 0)
     omega
    rw [Nat.mod_eq_of_lt this]
    norm_cast
   simp only [execOp, ho, e1.1, e1.2, u64, eqGuard_at_int, binOp, Op.shift, hb, if_false, IntKind.bits, Int.toNat_natCast]
   rw [e2]
   rfl
  ·simp at hk
def tJ (P : Program) : Rules P := { q := [X8 P, Xd P, WV P, Yt P] }
def rO (r : Nat) (x : Nat) : Ora := { ch := 0, hi := fun _ => x, ru := r }
end Go.Ev
