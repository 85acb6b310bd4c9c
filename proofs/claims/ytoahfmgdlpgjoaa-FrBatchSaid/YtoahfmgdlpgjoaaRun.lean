/- Rules: calls that lay a block anew; stores and parts told; slices of told length. Nothing here names a program. -/
import Derived.Test.YtoahfmgdlpgjoaaRuz
set_option linter.unusedSimpArgs false
set_option linter.unusedVariables false
namespace Go.Ev
open Go.RowKit

variable {P : Program}

/-- A block that has cells without names. -/
def Blk.pureB : Blk → Bool
  | .own cs _ => pureC cs
  | .gr cs _ _ => pureC cs
  | _ => false

theorem BAt.moveB {B B' : Nat} {ρ ρ' : Names} {w : World} {u : NM} {blk : Blk} (hp : blk.pureB = true) (h : BAt B ρ w u blk) (hB : B' ≤ B) : BAt B' ρ' w u blk := by
  cases blk <;> simp only [Blk.pureB] at hp <;> try (cases hp; done)
  · rename_i cs t
    obtain ⟨h1, h2, h3, h4⟩ := h
    obtain ⟨e1, e2⟩ := pureC_flat ρ hp
    obtain ⟨e3, e4⟩ := pureC_flat ρ' hp
    exact ⟨h1, Nat.le_trans hB h2, e4, by rw [e3, ← e1]; exact h4⟩
  · rename_i cs t e
    obtain ⟨h1, h2, h3, rest, fz, h4, h5⟩ := h
    obtain ⟨e1, e2⟩ := pureC_flat ρ hp
    obtain ⟨e3, e4⟩ := pureC_flat ρ' hp
    exact ⟨h1, Nat.le_trans hB h2, e4, rest, fz, by rw [e3, ← e1]; exact h4, by rw [e3, ← e1]; exact h5⟩

theorem BAt.own_le {B : Nat} {ρ : Names} {w : World} {u : NM} {blk : Blk} (hp : blk.pureB = true) (h : BAt B ρ w u blk) : B ≤ u.1 := by
  cases blk <;> simp only [Blk.pureB] at hp <;> try (cases hp; done)
  · exact h.2.1
  · exact h.2.1

/-- What a call hands back, and the block that it lays anew, whatever the memory. -/
def GivesN (P : Program) (f : FuncId) (args : List XV) (r : Nat → AV) (blk : Blk) : Prop :=
  (∀ vs w, (callFunc f vs).run P w = .ok (.enter f vs) w) ∧
  ∀ w vs, XReps w args vs → Calls P f vs.toArray w (fun en w' => ∃ v u, en = .returned v ∧ (∀ (ρ : Names) k, ρ k = some u → Rep ρ (r k) v) ∧ u.1 < w'.heap.size ∧ BAt w.heap.size noNames w' u blk ∧ Below w.heap.size w w')

/-- The call of a function that lays a block anew: told what it hands back (av), and the block. -/
def xNew (P : Program) : XRule P where
  fn ora k h avs op := match op, avs, ora.lp with
    | .call { callee := .value _, args := _, argTypes := _ }, .clo g first cap :: rest, some pk => (match evXs h (first ++ rest ++ cap), pk.E.hp with
      | some l, [(_, blk)] => (match blk.pureB with
        | true => some (some (GivesN P g l ora.av blk), ora.av k, [(k, blk)])
        | false => none)
      | _, _ => none)
    | _, _, _ => none
  fresh ora k h avs op c r ups he hf := by
    split at he
    · split at he
      · split at he
        · simp only [Option.some.injEq, Prod.mk.injEq] at he
          obtain ⟨rfl, rfl, rfl⟩ := he
          intro j hj
          simp only [setAll]
          rw [Heap.put_ne _ (by omega)]
          exact hf j (by omega)
        · cases he
      · cases he
    · cases he
  ok ora k h avs op c r ups he hc hf := by
    intro F hF n w0 ρ w a o ho hr hbel hh K Q hK
    split at he
    · rename_i f args at' g first cap rest pk _
      split at he
      · rename_i l i blk hl _
        split at he
        · rename_i hp
          simp only [Option.some.injEq, Prod.mk.injEq] at he
          obtain ⟨rfl, rfl, rfl⟩ := he
          simp only [Option.getD_some] at hc
          obtain ⟨g4, g5⟩ := hc
          simp only [Op.operands, Call.operands, Reps] at hr
          obtain ⟨fv, vs, e0, hfe, hrest⟩ := hr
          have e0' : a.eval f = fv ∧ args.toList.map a.eval = vs := by simpa using e0
          obtain ⟨rfl, rfl⟩ := e0'
          simp only [Rep] at hfe
          obtain ⟨xs, ys, e1, e2, e3⟩ := hfe
          have hrun : (execOp a.eval o).run P w = .ok (.enter g (xs ++ args.toList.map a.eval ++ ys).toArray) w := by
            simp only [execOp, ho, Sem.run_bind, resolve, e3, Deferred.ofValue, Sem.run_pure, Result.andThen_ok, invoke]
            rw [← g4]
            congr 2
            apply Array.toList_inj.1
            simp
          refine wpIn_iff hF (fun c hc' => by rw [ho] at hc'; cases hc') ?_
          rw [hrun]
          simp only [Oper.uponIn]
          have hx := evXs_spec hh.toHAt _ _ _ (reps_append (reps_append e1 hrest) e2) hl
          refine ⟨hF.depth, (hF.calls (g5 w _ hx)).mono fun en w' hen => ?_⟩
          obtain ⟨v, u, i1, i2, i3, i4, i5⟩ := hen
          subst i1
          obtain ⟨f1, f2⟩ := hh.fresh (hf k (Nat.le_refl _)) blk u i5.size (fun j hj => i5.block j hj) (i4.own_le hp) i3 (i4.moveB hp hh.size)
          exact hK (ρ.nm k u) v w' f2 (i2 _ _ (Names.nm_eq _ _ _)) (below_step hbel i5) f1
        · cases he
      · cases he
    · cases he

/-- What a function's run lays in one of its blocks. -/
def fnN (P : Program) (X : Rules P) (env : List Entry) (n : Nat) (os : Nat → Ora) (fn : Func) (args : List XV) (j : Nat) : Option (AV × Blk × Prop) :=
  match fnH P X env n os fn args with
  | some (r, h, ob) => match h.get j with | some blk => some (r, blk, ob) | none => none
  | none => none

theorem fnN_gives {X : Rules P} {env : List Entry} (henv : EnvOK P env) {f : FuncId} {fn : Func} (hf : P.funcs[f]? = some fn) (he : ∀ vs w, (callFunc f vs).run P w = .ok (.enter f vs) w)
    (n : Nat) (os : Nat → Ora) {args : List XV} {r0 : AV} {blk : Blk} {ob : Prop} (j : Nat) (h : fnN P X env n os fn args j = some (r0, blk, ob)) (hp : blk.pureB = true) (hob : ob) (r : Nat → AV)
    (hmv : ∀ (ρ ρ' : Names) k u v, ρ' j = some u → ρ k = some u → Rep ρ' r0 v → Rep ρ (r k) v) : GivesN P f args r blk := by
  refine ⟨he, fun w vs hx => ?_⟩
  unfold fnN at h
  split at h
  · rename_i r1 h1 ob1 hfn
    split at h
    · rename_i blk1 hj
      simp only [Option.some.injEq, Prod.mk.injEq] at h
      obtain ⟨rfl, rfl, rfl⟩ := h
      refine (fnH_ok henv hf n os hfn hob w vs hx).mono fun en w' hen => ?_
      obtain ⟨v, ρ', i1, i2, i3, i4, i5⟩ := hen
      obtain ⟨u, g1, g2⟩ := i5.at_ j _ hj
      exact ⟨v, u, i1, fun ρ k hk => hmv ρ ρ' k u v g1 hk i3, i5.lt _ _ g1, g2.moveB hp (Nat.le_refl _), i4⟩
    · cases h
  · cases h

/-- A slice and a number are handed back. -/
theorem mv_sx1 {j len : Nat} {x : Value} : ∀ (ρ ρ' : Names) k u v, ρ' j = some u → ρ k = some u → Rep ρ' (.tp [.sx j len, .v x]) v → Rep ρ (.tp [.sx k len, .v x]) v := by
  intro ρ ρ' k u v h1 h2 h
  simp only [Rep, Reps] at h ⊢
  obtain ⟨xs, ⟨y, r, rfl, ⟨v1, g1, rfl⟩, h3⟩, rfl⟩ := h
  rw [h1] at g1; simp only [Option.some.injEq] at g1; subst g1
  exact ⟨_, ⟨_, _, rfl, ⟨_, h2, rfl⟩, h3⟩, rfl⟩
/-- A slice is handed back. -/
theorem mv_sx {j len : Nat} : ∀ (ρ ρ' : Names) k u v, ρ' j = some u → ρ k = some u → Rep ρ' (.sx j len) v → Rep ρ (.sx k len) v := by
  intro ρ ρ' k u v h1 h2 h
  simp only [Rep] at h ⊢
  obtain ⟨v1, g1, rfl⟩ := h
  rw [h1] at g1; simp only [Option.some.injEq] at g1; subst g1
  exact ⟨_, h2, rfl⟩
theorem mv_sl {j len cap : Nat} : ∀ (ρ ρ' : Names) k u v, ρ' j = some u → ρ k = some u → Rep ρ' (.sl j 0 len cap) v → Rep ρ (.sl k 0 len cap) v := by
  intro ρ ρ' k u v h1 h2 h
  simp only [Rep] at h ⊢
  obtain ⟨v1, g1, rfl⟩ := h
  rw [h1] at g1; simp only [Option.some.injEq] at g1; subst g1
  exact ⟨_, h2, rfl⟩

/-- A store at a place that has a name: told the cells that come of it. -/
def xSto (P : Program) : XRule P where
  fn ora k h avs op := match op, avs with
    | .store T _ _, [.p id off, y] => (match h.get id, boxA y, P.info? T with
      | some (.own cs t), some p, some i => (match Nat.beq (sizes p) i.size, okC p, pureC p, pureC cs, pureC (ora.cs 0) with
        | true, true, true, true, true => some (some (off + sizes p ≤ (flat cs).length ∧ flat (ora.cs 0) = (flat cs).take off ++ flat p ++ (flat cs).drop (off + sizes p)), .tp [], [(id, .own (ora.cs 0) t)])
        | _, _, _, _, _ => none)
      | some (.gr cs t e), some p, some i => (match Nat.beq (sizes p) i.size, okC p, pureC p, pureC cs, pureC (ora.cs 0) with
        | true, true, true, true, true => some (some (off + sizes p ≤ (flat cs).length ∧ flat (ora.cs 0) = (flat cs).take off ++ flat p ++ (flat cs).drop (off + sizes p)), .tp [], [(id, .gr (ora.cs 0) t e)])
        | _, _, _, _, _ => none)
      | _, _, _ => none)
    | _, _ => none
  fresh ora k h avs op c r ups he hf := by
    split at he
    · rename_i T x y' id off y
      split at he
      · rename_i cs t p i hblk _ _
        split at he
        · simp only [Option.some.injEq, Prod.mk.injEq] at he
          obtain ⟨rfl, rfl, rfl⟩ := he
          intro j hj
          simp only [setAll]
          have hne : j ≠ id := fun e => by
            subst e
            rw [hf j (by omega)] at hblk
            cases hblk
          rw [Heap.put_ne _ hne]
          exact hf j (by omega)
        · cases he
      · rename_i cs t e p i hblk _ _
        split at he
        · simp only [Option.some.injEq, Prod.mk.injEq] at he
          obtain ⟨rfl, rfl, rfl⟩ := he
          intro j hj
          simp only [setAll]
          have hne : j ≠ id := fun e => by
            subst e
            rw [hf j (by omega)] at hblk
            cases hblk
          rw [Heap.put_ne _ hne]
          exact hf j (by omega)
        · cases he
      · cases he
    · cases he
  ok ora k h avs op c r ups he hc hf := by
    intro F hF n w0 ρ w a o ho hr hbel hh K Q hK
    split at he
    · rename_i T x y' id off y
      split at he
      · rename_i cs t p i hblk hbx hi
        split at he
        · rename_i hsz hok hpp hpc hpn
          have hsz := Nat.eq_of_beq_eq_true hsz
          simp only [Option.some.injEq, Prod.mk.injEq] at he
          obtain ⟨rfl, rfl, rfl⟩ := he
          simp only [Option.getD_some] at hc
          obtain ⟨hle, hnew⟩ := hc
          simp only [Op.operands, Reps] at hr
          obtain ⟨u, r1, e1, hx, v2, r2, rfl, hy, rfl⟩ := hr
          simp only [Rep] at hx
          obtain ⟨v, hv, rfl⟩ := hx
          simp at e1
          obtain ⟨hd, hcells⟩ := boxA_spec hbx hy
          obtain ⟨v', g1, g2⟩ := hh.at_ id _ hblk
          rw [hv] at g1; simp only [Option.some.injEq] at g1; subst g1
          obtain ⟨j1, j2, j3, j6⟩ := g2
          obtain ⟨p1, p2⟩ := pureC_flat ρ hpp
          obtain ⟨c1, c2⟩ := pureC_flat ρ hpc
          obtain ⟨n1, n2⟩ := pureC_flat ρ hpn
          have hlp : (flatR ρ p).length = sizes p := flatR_length ρ p
          have hst := run_storeCells_fz (P := P) v.1 off t (0, 0) (flatR ρ p) 0 (flatR ρ cs).toArray w j6 (by simp [hlp, c1]; omega) (.inl rfl) (okC_one ρ hok)
          simp only [Nat.add_zero] at hst
          have e3 : (flatR ρ cs).take off ++ flatR ρ p ++ (flatR ρ cs).drop (off + (flatR ρ p).length) = flatR ρ (ora.cs 0) := by
            rw [n1, hnew, c1, hlp, p1]
          rw [e3] at hst
          have hrun : (execOp a.eval o).run P w = .ok .skip (w.setRow v.1 (flatR ρ (ora.cs 0)).toArray) := by
            have hsz' : (flatR ρ p).length = i.size := by rw [flatR_length]; exact hsz
            simp [execOp, ho, e1.1, e1.2, j1, Instr.storeAt, Instr.sureAddr, storeVar, hcells, hsz', run_sizeOf' hi, hst]
          refine wpIn_iff hF (fun c hc' => by rw [ho] at hc'; cases hc') ?_
          rw [hrun]
          refine hK ρ undef _ ρ.le_refl (rep_undef.2 rfl) (below_setRow hbel j2 _) ?_
          exact hh.turn hv j2 hblk rfl _ (by simp) (fun j hj => setRow_other w v.1 j _ hj) ⟨j1, j2, n2, setRow_heap w v.1 _ _ t _ j6⟩
        · cases he
      · rename_i cs t e p i hblk hbx hi
        split at he
        · rename_i hsz hok hpp hpc hpn
          have hsz := Nat.eq_of_beq_eq_true hsz
          simp only [Option.some.injEq, Prod.mk.injEq] at he
          obtain ⟨rfl, rfl, rfl⟩ := he
          simp only [Option.getD_some] at hc
          obtain ⟨hle, hnew⟩ := hc
          simp only [Op.operands, Reps] at hr
          obtain ⟨u, r1, e1, hx, v2, r2, rfl, hy, rfl⟩ := hr
          simp only [Rep] at hx
          obtain ⟨v, hv, rfl⟩ := hx
          simp at e1
          obtain ⟨hd, hcells⟩ := boxA_spec hbx hy
          obtain ⟨v', g1, g2⟩ := hh.at_ id _ hblk
          rw [hv] at g1; simp only [Option.some.injEq] at g1; subst g1
          obtain ⟨j1, j2, j3, rest, fz, ⟨j4, j5⟩, j6⟩ := g2
          obtain ⟨p1, p2⟩ := pureC_flat ρ hpp
          obtain ⟨c1, c2⟩ := pureC_flat ρ hpc
          obtain ⟨n1, n2⟩ := pureC_flat ρ hpn
          have hlp : (flatR ρ p).length = sizes p := flatR_length ρ p
          have hlc : off + (flatR ρ p).length ≤ (flatR ρ cs).length := by rw [hlp, c1]; exact hle
          have hst := run_storeCells_fz (P := P) v.1 off t fz (flatR ρ p) 0 (flatR ρ cs ++ rest).toArray w j6 (by simp; omega) (by simpa using j5) (okC_one ρ hok)
          simp only [Nat.add_zero] at hst
          have e3 : (flatR ρ cs ++ rest).take off ++ flatR ρ p ++ (flatR ρ cs ++ rest).drop (off + (flatR ρ p).length) = flatR ρ (ora.cs 0) ++ rest := by
            rw [List.take_append_of_le_length (by omega), List.drop_append_of_le_length (by omega), n1, hnew, c1, hlp, p1]
            simp [List.append_assoc]
          rw [e3] at hst
          have hrun : (execOp a.eval o).run P w = .ok .skip (w.setRow v.1 (flatR ρ (ora.cs 0) ++ rest).toArray) := by
            have hsz' : (flatR ρ p).length = i.size := by rw [flatR_length]; exact hsz
            simp [execOp, ho, e1.1, e1.2, j1, Instr.storeAt, Instr.sureAddr, storeVar, hcells, hsz', run_sizeOf' hi, hst]
          refine wpIn_iff hF (fun c hc' => by rw [ho] at hc'; cases hc') ?_
          rw [hrun]
          have hlen : (flatR ρ (ora.cs 0)).length = (flatR ρ cs).length := by
            rw [n1, hnew, c1]
            simp only [List.length_append, List.length_take, List.length_drop]
            have : (flat p).length = sizes p := flat_length p
            omega
          refine hK ρ undef _ ρ.le_refl (rep_undef.2 rfl) (below_setRow hbel j2 _) ?_
          exact hh.turn hv j2 hblk rfl _ (by simp) (fun j hj => setRow_other w v.1 j _ hj) ⟨j1, j2, n2, rest, fz, ⟨j4, by rw [hlen]; exact j5⟩, setRow_heap w v.1 _ _ t fz j6⟩
        · cases he
      · cases he
    · cases he

/-- An element of an array that is a value, at a place that has a name: told. -/
def qElm (P : Program) : QRule P where
  fn ora h avs op := match op, avs with
    | .index T _ _, [.ag cs, .v (.int k z)] => (match P.underlying T with
      | some (.array n e) => (match rowN P e with
        | some (some m) => (match pureC cs, pureC (ora.cs 0) with
          | true, true => [(some (z = ((ora.hi 0 : Nat) : Int) ∧ ora.hi 0 < n ∧ sizes (ora.cs 0) = m ∧ ((flat cs).drop (ora.hi 0 * m)).take m = flat (ora.cs 0)), .ag (ora.cs 0))]
          | _, _ => [])
        | _ => [])
      | _ => [])
    | _, _ => []
  nd ora h avs op k p hk c e := by subst e; simp at hk
  ok ora h avs op k c r hk hc := by
    intro B ρ w a o ho hr hh
    split at hk
    · rename_i T x y cs kd z
      split at hk
      · rename_i n e hT
        split at hk
        · rename_i m hm
          split at hk
          · rename_i hp hp'
            have e := one_alt hk
            simp only [Prod.mk.injEq] at e
            obtain ⟨rfl, rfl⟩ := e
            simp only [Option.getD_some] at hc
            obtain ⟨rfl, hlt, hsz, hc⟩ := hc
            simp only [Op.operands, List.map_cons, List.map_nil, Reps, Rep] at hr
            obtain ⟨u, r1, e1, ⟨hd, rfl⟩, v, r2, rfl, rfl, rfl⟩ := hr
            simp only [List.cons.injEq, and_true] at e1
            obtain ⟨hagg, i, hi, hs⟩ := rowN_some hm
            subst hs
            refine ⟨.agg (flat (ora.cs 0)).toArray, ?_, ?_⟩
            · have : (0 : Int) ≤ ((ora.hi 0 : Nat) : Int) ∧ ((ora.hi 0 : Nat) : Int) < n := by omega
              have hc' : ((flatR ρ cs).drop (ora.hi 0 * i.size)).take i.size = flat (ora.cs 0) := by rw [(pureC_flat ρ hp).1]; exact hc
              simp [execOp, Instr.index, ho, e1.1, e1.2, asIntOf, run_underlying hT, this, run_sizeOf' hi, part, Sem.run_bind, hagg, hlt, hc']
            · simp only [Rep]
              exact ⟨(pureC_flat ρ hp').2, by rw [(pureC_flat ρ hp').1]⟩
          · simp at hk
        · simp at hk
      · simp at hk
    · simp at hk

/-- Cells that lay there before the call, or nothing, get another name. -/
theorem HRel.old {B : Nat} {ρ : Names} {h : Heap} {w : World} (hh : HRel B ρ h w) {k : Nat} (hk : h.get k = none) (blk : Blk) (v' : NM) (hlt : v'.1 < B) (hb : BAt B (ρ.nm k v') w v' blk) :
    HRel B (ρ.nm k v') (h.put k blk) w ∧ ρ.le (ρ.nm k v') := by
  have hn := hh.none_ k hk
  have hle := Names.le_nm hn v'
  have hsz := hh.size
  refine ⟨⟨⟨fun j b hj => ?_, fun i u hi => ?_, hh.size⟩, fun i j u u' bi bj gi gj li lj hi hj huv hB' => ?_, fun i hi => ?_⟩, hle⟩
  · by_cases h1 : j = k
    · subst h1
      rw [Heap.put_eq] at hj
      simp only [Option.some.injEq] at hj; subst hj
      exact ⟨v', Names.nm_eq _ _ _, hb⟩
    · rw [Heap.put_ne _ h1] at hj
      obtain ⟨u, g1, g2⟩ := hh.at_ j b hj
      exact ⟨u, hle _ _ g1, g2.mono hle⟩
  · by_cases h1 : i = k
    · subst h1; rw [Names.nm_eq] at hi; simp only [Option.some.injEq] at hi; subst hi; omega
    · rw [Names.nm_ne _ _ h1] at hi; exact hh.lt _ _ hi
  · by_cases h1 : i = k
    · subst h1
      rw [Names.nm_eq] at hi; simp only [Option.some.injEq] at hi; subst hi
      omega
    · by_cases h2 : j = k
      · subst h2
        rw [Names.nm_eq] at hj; simp only [Option.some.injEq] at hj; subst hj
        omega
      · rw [Names.nm_ne _ _ h1] at hi
        rw [Names.nm_ne _ _ h2] at hj
        rw [Heap.put_ne _ h1] at gi
        rw [Heap.put_ne _ h2] at gj
        exact hh.inj i j u u' bi bj gi gj li lj hi hj huv hB'
  · by_cases h1 : i = k
    · subst h1; rw [Heap.put_eq] at hi; cases hi
    · rw [Heap.put_ne _ h1] at hi; rw [Names.nm_ne _ _ h1]; exact hh.none_ i hi

/-- The address of an element of a slice that may be nil: hi 0 is the place. -/
def qIdz (P : Program) : QRule P where
  fn ora h avs op := match op, avs with
    | .indexAddr T _ _, [.sz id len, .v (.int k z)] => (match P.underlying T with
      | some (.slice e) => (match P.info? e with | some i => [(some (z = ((ora.hi 0 : Nat) : Int) ∧ ora.hi 0 < len), .p id (ora.hi 0 * i.size))] | none => [])
      | _ => [])
    | _, _ => []
  nd ora h avs op k p hk c e := by subst e; simp at hk
  ok ora h avs op k c r hk hc := by
    intro B ρ w a o ho hr hh
    split at hk
    · rename_i T x y id len kd z
      split at hk
      · rename_i e hT
        split at hk
        · rename_i i hi
          have e := one_alt hk
          simp only [Prod.mk.injEq] at e
          obtain ⟨rfl, rfl⟩ := e
          simp only [Option.getD_some] at hc
          obtain ⟨rfl, h1⟩ := hc
          simp only [Op.operands, List.map_cons, List.map_nil, Reps, Rep] at hr
          obtain ⟨u, r1, e1, ⟨b, g1, gz, rfl⟩, v, r2, rfl, rfl, rfl⟩ := hr
          simp only [List.cons.injEq, and_true] at e1
          refine ⟨.pointer (some ⟨b.1, b.2 + ora.hi 0 * i.size, none⟩), ?_, ?_⟩
          · have e2 := e1.1
            unfold zval at e2
            split at e2
            · rename_i h0; have := gz h0; omega
            · simp [execOp, Instr.indexAt, ho, e2, e1.2, asIntOf, run_underlying hT, h1, run_sizeOf' hi, Addr.add_mid]
          · simp only [Rep]; exact ⟨b, g1, rfl⟩
        · simp at hk
      · simp at hk
    · simp at hk

/-- The first elements of a slice that may be nil: hi 0 says how many; told their cells. -/
def xSlZ (P : Program) : XRule P where
  fn ora k h avs op := match op with
    | .slice T _ none (some _) none => (match avs, P.underlying T with
      | [.sz id len, .v (.int kd z)], some (.slice e) => (match h.get id, P.info? e, pureC (ora.cs 0) with
        | some (.rz cs), some i, true => (match pureC cs with
          | true => some (some (z = ((ora.hi 0 : Nat) : Int) ∧ ora.hi 0 ≤ len ∧ flat (ora.cs 0) = (flat cs).take (ora.hi 0 * i.size)), .sz k (ora.hi 0), [(k, .rz (ora.cs 0))])
          | false => none)
        | _, _, _ => none)
      | _, _ => none)
    | _ => none
  fresh ora k h avs op c r ups he hf := by
    split at he
    · split at he
      · split at he
        · split at he
          · simp only [Option.some.injEq, Prod.mk.injEq] at he
            obtain ⟨rfl, rfl, rfl⟩ := he
            intro j hj
            simp only [setAll]
            rw [Heap.put_ne _ (by omega)]
            exact hf j (by omega)
          · cases he
        · cases he
      · cases he
    · cases he
  ok ora k h avs op c r ups he hc hf := by
    intro F hF n w0 ρ w a o ho hr hbel hh K Q hK
    split at he
    · rename_i T x y
      split at he
      · rename_i id len kd z e hT
        split at he
        · rename_i cs i hblk hi hpn
          split at he
          · rename_i hpc
            simp only [Option.some.injEq, Prod.mk.injEq] at he
            obtain ⟨rfl, rfl, rfl⟩ := he
            simp only [Option.getD_some] at hc
            obtain ⟨rfl, hle, hnew⟩ := hc
            simp only [Op.operands, Reps, Rep] at hr
            obtain ⟨u, r1, e1, ⟨v, g1, gz, rfl⟩, v2, r2, rfl, rfl, rfl⟩ := hr
            simp at e1
            obtain ⟨v', k1, k2⟩ := hh.at_ id _ hblk
            rw [g1] at k1; simp only [Option.some.injEq] at k1; subst k1
            obtain ⟨j1, j2, j3, j4⟩ := k2
            rw [(pureC_flat ρ hpc).1] at j3 j4
            have hrange : w.rangeAt v.1 v.2 (flat (ora.cs 0)) := by
              rw [hnew]
              intro j x hx
              rw [List.getElem?_take] at hx
              split at hx
              · exact j3 j x hx
              · cases hx
            have e2 := e1.1
            unfold zval at e2
            split at e2
            · rename_i h0
              have hl0 := gz h0
              have hh0 : ora.hi 0 = 0 := by omega
              have hb : boundsA 0 0 none (some (.v (.int kd ((ora.hi 0 : Nat) : Int)))) none = some (0, 0, 0) := by simp [boundsA, hh0]
              have hr2 := boundsA_run (ρ := ρ) hb (x := none) (y := some (.int kd ((ora.hi 0 : Nat) : Int))) (z := none) trivial (by simp only [RepO, Rep]) trivial true w (P := P)
              refine wpIn_value hF (fun c hc' => by rw [ho] at hc'; cases hc') (x := .slice none 0 0) (w' := w) (by simp [execOp, ho, e2, e1.2, Instr.sliceAt, Instr.slice, run_underlying hT, hr2, run_sizeOf' hi]) ?_
              have hfl : flat (ora.cs 0) = [] := by rw [hnew, j4 h0]; simp
              obtain ⟨f1, f2⟩ := hh.old (hf k (Nat.le_refl _)) (.rz (ora.cs 0)) v j1 ⟨j1, (pureC_flat _ hpn).2, by rw [(pureC_flat _ hpn).1]; exact hrange, fun _ => by rw [(pureC_flat _ hpn).1]; exact hfl⟩
              refine hK _ _ _ f2 ?_ hbel f1
              simp only [Rep]
              refine ⟨v, Names.nm_eq _ _ _, fun _ => hh0, ?_⟩
              unfold zval
              rw [h0]
            · rename_i r hr0
              have hb : boundsA len (len + r) none (some (.v (.int kd ((ora.hi 0 : Nat) : Int)))) none = some (0, ora.hi 0, len + r) := by
                have : (0 : Int) ≤ ((ora.hi 0 : Nat) : Int) ∧ ((ora.hi 0 : Nat) : Int) ≤ ((len + r : Nat) : Int) := by omega
                simp only [boundsA, if_pos this, Int.toNat_natCast]
              have hr2 := boundsA_run (ρ := ρ) hb (x := none) (y := some (.int kd ((ora.hi 0 : Nat) : Int))) (z := none) trivial (by simp only [RepO, Rep]) trivial true w (P := P)
              refine wpIn_value hF (fun c hc' => by rw [ho] at hc'; cases hc') (x := .slice (some ⟨v.1, v.2, none⟩) (ora.hi 0) (len + r)) (w' := w) (by simp [execOp, ho, e2, e1.2, Instr.sliceAt, Instr.slice, run_underlying hT, hr2, run_sizeOf' hi, Addr.add]) ?_
              obtain ⟨f1, f2⟩ := hh.old (hf k (Nat.le_refl _)) (.rz (ora.cs 0)) ⟨v.1, v.2, (len + r - ora.hi 0) + 1⟩ j1 ⟨j1, (pureC_flat _ hpn).2, by rw [(pureC_flat _ hpn).1]; exact hrange, fun h => by simp at h⟩
              refine hK _ _ _ f2 ?_ hbel f1
              simp only [Rep]
              refine ⟨_, Names.nm_eq _ _ _, fun h => by simp at h, ?_⟩
              show _ = Value.slice (some ⟨v.1, v.2, none⟩) (ora.hi 0) (ora.hi 0 + (len + r - ora.hi 0))
              rw [show ora.hi 0 + (len + r - ora.hi 0) = len + r by omega]
          · cases he
        · cases he
      · cases he
    · cases he

/-- The call of a function of which it is told what it hands back. -/
def GivesE (P : Program) (f : FuncId) (args : List XV) (r : AV) : Prop := (∀ vs w, (callFunc f vs).run P w = .ok (.enter f vs) w) ∧ Gives P f args r
def xGiv (P : Program) : XRule P where
  fn ora k h avs op := match op, avs with
    | .call { callee := .value _, args := _, argTypes := _ }, .clo g first cap :: rest => (match evXs h (first ++ rest ++ cap) with
      | some l => some (some (GivesE P g l (ora.av 0)), ora.av 0, [])
      | none => none)
    | _, _ => none
  fresh ora k h avs op c r ups he hf := by
    split at he
    · split at he
      · simp only [Option.some.injEq, Prod.mk.injEq] at he
        obtain ⟨rfl, rfl, rfl⟩ := he
        intro j hj
        exact hf j (by omega)
      · cases he
    · cases he
  ok ora k h avs op c r ups he hc hf := by
    intro F hF n w0 ρ w a o ho hr hbel hh K Q hK
    split at he
    · rename_i f args at' g first cap rest
      split at he
      · rename_i l hl
        simp only [Option.some.injEq, Prod.mk.injEq] at he
        obtain ⟨rfl, rfl, rfl⟩ := he
        simp only [Option.getD_some] at hc
        obtain ⟨g4, v, hv, g5⟩ := hc
        simp only [Op.operands, Call.operands, Reps] at hr
        obtain ⟨fv, vs, e0, hfe, hrest⟩ := hr
        have e0' : a.eval f = fv ∧ args.toList.map a.eval = vs := by simpa using e0
        obtain ⟨rfl, rfl⟩ := e0'
        simp only [Rep] at hfe
        obtain ⟨xs, ys, e1, e2, e3⟩ := hfe
        have hrun : (execOp a.eval o).run P w = .ok (.enter g (xs ++ args.toList.map a.eval ++ ys).toArray) w := by
          simp only [execOp, ho, Sem.run_bind, resolve, e3, Deferred.ofValue, Sem.run_pure, Result.andThen_ok, invoke]
          rw [← g4]
          congr 2
          apply Array.toList_inj.1
          simp
        refine wpIn_iff hF (fun c hc' => by rw [ho] at hc'; cases hc') ?_
        rw [hrun]
        simp only [Oper.uponIn]
        have hx := evXs_spec hh.toHAt _ _ _ (reps_append (reps_append e1 hrest) e2) hl
        refine ⟨hF.depth, (hF.calls (g5 w _ hx)).mono fun en w' hen => ?_⟩
        obtain ⟨i1, i5⟩ := hen
        subst i1
        exact hK ρ v w' ρ.le_refl (rep_val hv) (below_step hbel i5) (hh.below i5)
      · cases he
    · cases he

/-- What is said of a slice that may be nil holds of one that is none, and that has its cells ahead. -/
theorem Gives.rd_rz {f : FuncId} {cs cs' : List Ch} {len cap : Nat} {r : AV} (h : Gives P f [.rz cs' len] r) (hp : pureC cs' = true) (hf : ∃ t, flat cs = flat cs' ++ t) (hc : len ≤ cap) : Gives P f [.rd cs len cap] r := by
  obtain ⟨v, hv, hr⟩ := h
  refine ⟨v, hv, fun w vs hx => hr w vs ?_⟩
  match vs, hx with
  | [], hx => exact hx.elim
  | _ :: _ :: _, hx => exact hx.2.elim
  | [y], hx =>
    obtain ⟨⟨hpc, b, off, rfl, hlt, hra⟩, _⟩ := hx
    obtain ⟨t, ht⟩ := hf
    refine ⟨⟨hp, by omega, .inr ⟨b, off, cap - len, by rw [Nat.add_sub_cancel' hc], hlt, fun j x hj => hra j x ?_⟩⟩, trivial⟩
    rw [ht, List.getElem?_append_left (List.getElem?_eq_some_iff.1 hj).1]
    exact hj
theorem Gives.rx_rz {f : FuncId} {cs cs' : List Ch} {len : Nat} {r : AV} (h : Gives P f [.rz cs' len] r) (hp : pureC cs' = true) (hf : ∃ t, flat cs = flat cs' ++ t) : Gives P f [.rx cs len] r := by
  obtain ⟨v, hv, hr⟩ := h
  refine ⟨v, hv, fun w vs hx => hr w vs ?_⟩
  match vs, hx with
  | [], hx => exact hx.elim
  | _ :: _ :: _, hx => exact hx.2.elim
  | [y], hx =>
    obtain ⟨⟨hpc, b, off, room, rfl, hlt, hra⟩, _⟩ := hx
    obtain ⟨t, ht⟩ := hf
    refine ⟨⟨hp, by omega, .inr ⟨b, off, room, rfl, hlt, fun j x hj => hra j x ?_⟩⟩, trivial⟩
    rw [ht, List.getElem?_append_left (List.getElem?_eq_some_iff.1 hj).1]
    exact hj
theorem Gives.rz_rz {f : FuncId} {cs cs' : List Ch} {len : Nat} {r : AV} (h : Gives P f [.rz cs' len] r) (hp : pureC cs' = true) (hf : flat cs = flat cs') : Gives P f [.rz cs len] r := by
  obtain ⟨v, hv, hr⟩ := h
  refine ⟨v, hv, fun w vs hx => hr w vs ?_⟩
  match vs, hx with
  | [], hx => exact hx.elim
  | _ :: _ :: _, hx => exact hx.2.elim
  | [y], hx =>
    obtain ⟨⟨_, h0, h1⟩, _⟩ := hx
    rw [hf] at h1
    exact ⟨⟨hp, h0, h1⟩, trivial⟩

/-- Numbers of w limbs, one behind another. -/
def numC (w : Nat) (ns : List Nat) : List Value := ns.flatMap (limbs w)
theorem numC_length (w : Nat) : ∀ ns, (numC w ns).length = ns.length * w
  | [] => by simp [numC]
  | n :: ns => by
    have := numC_length w ns
    simp only [numC, List.flatMap_cons, List.length_append, limbs_length, List.length_cons] at this ⊢
    rw [this, Nat.add_mul, Nat.one_mul, Nat.add_comm]
/-- Rows of like length: row i. -/
theorem rows_at {α : Type} {k : Nat} (f : α → List Value) (hf : ∀ x, (f x).length = k) : ∀ (l : List α) (i : Nat) (x : α), l[i]? = some x → ((l.flatMap f).drop (i * k)).take k = f x
  | [], i, x, h => by simp at h
  | y :: l, 0, x, h => by
    simp only [List.getElem?_cons_zero, Option.some.injEq] at h; subst h
    simp only [Nat.zero_mul, List.drop_zero, List.flatMap_cons]
    rw [List.take_append_of_le_length (by rw [hf]; omega), List.take_of_length_le (by rw [hf]; omega)]
  | y :: l, i + 1, x, h => by
    simp only [List.getElem?_cons_succ] at h
    have e : (f y ++ l.flatMap f).drop k = l.flatMap f := by rw [← hf y]; exact List.drop_left
    rw [List.flatMap_cons, Nat.add_mul, Nat.one_mul, Nat.add_comm, ← List.drop_drop, e]
    exact rows_at f hf l i x h
theorem flat_l (vs : List Value) : flat [.l vs] = vs := by simp [flat, Ch.cells]
/-- Pieces that are numbers of w limbs, all of them. -/
def readN (w : Nat) (a : Par Nat) : Nat → List Ch → Option (List Nat)
  | _, [] => some []
  | 0, _ => none
  | k + 1, l => match a.p l with | some (x, r) => (readN w a k r).map (x :: ·) | none => none
theorem readN_ok {w : Nat} {a : Par Nat} (ha : ∀ x, a.c x = [.n w x]) : ∀ (k : Nat) (l : List Ch) (ns : List Nat), readN w a k l = some ns → flat l = numC w ns
  | k, [], ns, h => by
    cases k <;> simp only [readN, Option.some.injEq] at h <;> subst h <;> rfl
  | 0, c :: l, ns, h => by simp [readN] at h
  | k + 1, c :: l, ns, h => by
    simp only [readN] at h
    split at h
    · rename_i x r hx
      simp only [Option.map_eq_some_iff] at h
      obtain ⟨m, h1, rfl⟩ := h
      rw [a.ok _ _ _ hx, readN_ok ha k r m h1, ha]
      simp [numC, flat, Ch.cells]
    · cases h
/-- A slice of numbers of w limbs whose pieces are written out. -/
def XPar.ns (w : Nat) (a : Par Nat) (ha : ∀ x, a.c x = [.n w x]) : XPar (List Nat) where
  p v := match v with
    | .rd cs len cap => match readN w a len cs, Nat.ble len cap with | some ns, true => (match Nat.beq ns.length len with | true => some ns | false => none) | _, _ => none
    | _ => none
  c ns := .rz [.l (numC w ns)] ns.length
  ok v x h w' y hy := by
    split at h
    · rename_i cs len cap
      split at h
      · rename_i ns h1 h2
        split at h
        · rename_i h3
          simp only [Option.some.injEq] at h; subst h
          have h2 := Nat.le_of_ble_eq_true h2
          have h3 := Nat.eq_of_beq_eq_true h3
          obtain ⟨hp, b, off, rfl, hlt, hra⟩ := hy
          refine ⟨rfl, by omega, .inr ⟨b, off, cap - len, by rw [h3, Nat.add_sub_cancel' h2], hlt, ?_⟩⟩
          rw [flat_l, ← readN_ok ha _ _ _ h1]
          exact hra
        · cases h
      · cases h
    · cases h

/-- A code's run from a state that is written out to one that it is told; names may change. -/
def roundP (P : Program) (X : Rules P) (env : List Entry) (n : Nat) (os : Nat → Ora) (fb : Nat) (rd : Bool) (c : Code) (k : Nat) (I J : LState) (τ : List (Nat × Nat)) : Option (Ex × Prop) :=
  match allLt k I.hp, codeA P X env (inlN P X env os n) os fb rd c k I.aa True with
  | true, some (ex, _, A, ob) =>
    match fitsB fb A J τ with | true => some (ex, fitsP A J τ ∧ ob) | false => none
  | _, _ => none
theorem roundP_sound {X : Rules P} {env : List Entry} (henv : EnvOK P env) {n : Nat} {os : Nat → Ora} {fb : Nat} {rd : Bool} {c : Code} {k : Nat} {I J : LState} {τ : List (Nat × Nat)} {ex : Ex} {ob : Prop}
    (h : roundP P X env n os fb rd c k I J τ = some (ex, ob)) (hob : ob) : Sound P fb rd c I.aa ex J.aa := by
  unfold roundP at h
  split at h
  · rename_i ex1 k1 A ob1 hlt hc
    split at h
    · rename_i hb
      simp only [Option.some.injEq, Prod.mk.injEq] at h
      obtain ⟨rfl, rfl⟩ := h
      have hfr : Fresh I.aa k := fun j hj => allLt_fresh hlt j hj
      obtain ⟨_, hs⟩ := codeA_sound (fb := fb) (rd := rd) henv (inlN_ok henv n) c k I.aa True ex1 k1 A ob1 hc hob.2 hfr
      exact hs.post τ hb hob.1
    · cases h
  · cases h

def rulesY (P : Program) : Rules P := { q := (rulesX P).q ++ [qElm P, qIdz P], x := (rulesX P).x ++ [xNew P, xSto P, xSlZ P, xGiv P], d := some (xAppB P) }
end Go.Ev
