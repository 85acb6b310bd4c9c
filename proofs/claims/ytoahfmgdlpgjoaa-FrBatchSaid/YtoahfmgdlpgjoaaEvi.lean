/- The evaluator: whole functions, rounds, contracts by the makes of their arguments, loops. -/
import Derived.Test.YtoahfmgdlpgjoaaEvk
set_option linter.unusedSimpArgs false
set_option linter.unusedVariables false
namespace Go.Ev
open Go.RowKit

variable {P : Program}

def resA (P : Program) (t : Sl) (h : Heap) : List ResultVar → Option (List AV)
  | [] => some []
  | .tmp i :: l =>
    match resA P t h l with
    | some r => some (t.get i :: r)
    | _ => none
  | .cell a T :: l =>
    match t.get a, resA P t h l with
    | .p id off, some r =>
      match h.get id with
      | some blk => (match blk.cells? with
        | some cs => (match readT P T off cs with
          | some v => some (v :: r)
          | none => none)
        | none => none)
      | none => none
    | _, _ => none

def retA : List AV → AV
  | [x] => x
  | l => .tp l

def resOne (tmps : Array Value) : ResultVar → Sem Value
  | .tmp t => pure (tmps.getD t undef)
  | .cell a t => do loadVar t (← asAddr (tmps.getD a undef))

theorem results_eq (fn : Func) (tmps : Array Value) : results fn tmps = (do
    let vs ← fn.results.mapM (resOne tmps)
    pure (if h : vs.size = 1 then vs[0] else .tuple vs)) := by
  unfold results
  congr 1

theorem resA_run {B : Nat} {w : World} {ρ : Names} {t : Sl} {h : Heap} {tmps : Array Value} (hs : Slots ρ t tmps) (hh : HAt B ρ h w) {fn : Func} {l : List AV} (hr : resA P t h fn.results.toList = some l) :
    ∃ v, (results fn tmps).run P w = .ok v w ∧ Rep ρ (retA l) v := by
  have slot : ∀ i, Rep ρ (t.get i) (tmps.getD i undef) := fun i => rep_evA (a := { tmps := tmps, defers := [] }) hs (.tmp i)
  have key : ∀ (rs : List ResultVar) (l : List AV), resA P t h rs = some l →
      ∃ vs, (rs.mapM (resOne tmps)).run P w = .ok vs w ∧ Reps ρ l vs := by
    intro rs
    induction rs with
    | nil => intro l h; simp only [resA, Option.some.injEq] at h; subst h; exact ⟨[], rfl, rfl⟩
    | cons rv rs ih =>
      intro l h
      cases rv with
      | tmp i =>
        simp only [resA] at h
        split at h
        · rename_i r hr
          simp only [Option.some.injEq] at h; subst h
          obtain ⟨vs, h1, h2⟩ := ih r hr
          refine ⟨tmps.getD i undef :: vs, ?_, ?_⟩
          · simp only [List.mapM_cons]
            rw [show resOne tmps (.tmp i) = pure (tmps.getD i undef) from rfl]
            simp [h1]
          · simp only [Reps]; exact ⟨_, _, rfl, slot i, h2⟩
        · cases h
      | cell x T =>
        simp only [resA] at h
        split at h
        · rename_i id off r hx hr
          split at h
          · rename_i blk hblk
            split at h
            · rename_i cs hcs
              split at h
              · rename_i v hv
                simp only [Option.some.injEq] at h; subst h
                obtain ⟨vs, h1, h2⟩ := ih r hr
                have e := slot x
                rw [hx] at e
                simp only [Rep] at e
                obtain ⟨u, e1, e2⟩ := e
                obtain ⟨u', g1, g2⟩ := hh.at_ id blk hblk
                rw [e1] at g1; simp only [Option.some.injEq] at g1; subst g1
                obtain ⟨k1, k2⟩ := g2.cells hcs
                obtain ⟨z, k1, k2⟩ := run_loadVar_A (P := P) k1 k2 hv
                refine ⟨z :: vs, ?_, ?_⟩
                · simp only [List.mapM_cons]
                  rw [show resOne tmps (.cell x T) = (do loadVar T (← asAddr (tmps.getD x undef))) from rfl, e2]
                  simp [asAddr, k1, h1]
                · simp only [Reps]; exact ⟨_, _, rfl, k2, h2⟩
              · cases h
            · cases h
          · cases h
        · cases h
  obtain ⟨vs, h1, h2⟩ := key _ _ hr
  refine ⟨if h : vs.toArray.size = 1 then vs.toArray[0] else .tuple vs.toArray, ?_, ?_⟩
  · rw [results_eq, Sem.run_bind, Array.mapM_eq_mapM_toList, Sem.run_map, h1]
    rfl
  · match l, vs, h2 with
    | [], vs, h2 => simp only [Reps] at h2; subst h2; simp only [retA, Rep, Reps]; exact ⟨[], rfl, rfl⟩
    | [x], vs, h2 =>
      simp only [Reps] at h2
      obtain ⟨y, r, rfl, h3, rfl⟩ := h2
      simpa [retA] using h3
    | x :: y :: l, vs, h2 =>
      have hlen := reps_length h2
      have hne : ¬ vs.toArray.size = 1 := by simp at hlen ⊢; omega
      simp only [hne, dif_neg, not_false_eq_true, retA]
      simp only [Rep]
      exact ⟨vs, h2, rfl⟩

/-- The marks are come to. -/
def shutAll (h : Heap) : List Nat → Option Heap
  | [] => some h
  | i :: l => match h.get i with
    | some .dfd => shutAll (h.put i .dead) l
    | _ => none

theorem shut_leaves {fn : Func} {R : Ending → World → Prop} {t : Sl} {ρ : Names} {w0 : World} : ∀ (d : List Nat) (h h' : Heap) (a : Act) (w : World), shutAll h d = some h' → Rel w0 ρ ⟨t, h, d⟩ a w →
    (∀ w', Slots ρ t a.tmps → Below w0.heap.size w0 w' → HRel w0.heap.size ρ h' w' → ∃ v, (results fn a.tmps).run P w' = .ok v w' ∧ R (.returned v) w') →
    LeavesInM Fence.wide 0 P fn a.tmps R a.defers .returning w
  | [], h, h', a, w, hs, hR, hk => by
    simp only [shutAll, Option.some.injEq] at hs; subst hs
    have : a.defers = [] := hR.defers
    rw [this]
    simp only [LeavesInM, LeavesIn]
    exact hk w hR.slots hR.below hR.heap
  | i :: l, h, h', a, w, hs, hR, hk => by
    unfold shutAll at hs
    split at hs
    · rename_i hd
      obtain ⟨b, r, h1, h2, h3⟩ := hR.defers
      rw [h2]
      obtain ⟨v, g1, g2⟩ := hR.heap.at_ _ _ hd
      rw [h1] at g1; simp only [Option.some.injEq] at g1; subst g1
      obtain ⟨_, k2, k3⟩ := g2
      simp only [LeavesInM]
      refine ⟨by simp, .inl ⟨b, _, rfl, run_takeDeferred k3, ?_⟩⟩
      have hR' : Rel w0 ρ ⟨t, h, l⟩ { a with defers := r } w := ⟨hR.slots, h3, hR.below, hR.heap⟩
      exact shut_leaves l _ h' { a with defers := r } _ hs (putObj_rel hR' h1 hd rfl k2 .dead (.deferred none) k2) hk
    · cases hs

/-- A function that is gone through in place. -/
def fnI (P : Program) (X : Rules P) (env : List Entry) (os : Nat → Ora) (inl : Inl) (g : FuncId) (args : List AV) (h : Heap) (k : Nat) (ob : Prop) : Option (AV × Nat × Heap × Prop) :=
  match P.funcs[g]? with
  | some fn =>
    match fn.name == "runtime.NumGoroutine", Nat.blt (args.length + (fn.ntmps - args.length)) 4096, fn.body with
    | false, true, some c =>
      match codeA P X env inl os k false c k ⟨frame args fn.ntmps, h, []⟩ ob with
      | some (.exit _, _, _, _) => none
      | some (_, k', A, ob') =>
        match shutAll A.h A.d with
        | some h' => (resA P A.t h' fn.results.toList).map fun r => (retA r, k', h', ob')
        | none => none
      | none => none
    | _, _, _ => none
  | none => none

def setPs (t : Sl) : List Nat → List AV → Sl
  | p :: ps, a :: l => setPs (t.set p a) ps l
  | _, _ => t

/-- A round of a loop over a function. -/
def rdI (P : Program) (X : Rules P) (env : List Entry) (os : Nat → Ora) (inl : Inl) (id : Nat) (args : List AV) (h : Heap) (k : Nat) (ob : Prop) : Option (AV × Nat × Heap × Prop) :=
  match h.get id with
  | some (.lp .ready _ t ps asg body _) =>
    match Nat.beq args.length ps.size, codeA P X env inl os k true asg k ⟨setPs t ps.toList args, h, []⟩ ob with
    | true, some (.normal, k1, A1, ob1) =>
      match A1.h.get id with
      | some (.lp .ready pe t1 ps1 asg1 body1 D1) =>
        match codeA P X env inl os k true body k1 ⟨A1.t, A1.h.put id (.lp .busy pe t1 ps1 asg1 body1 D1), A1.d⟩ ob1 with
        | some (ex, k2, A2, ob2) =>
          match A2.h.get id with
          | some (.lp _ _ t2 ps2 asg2 body2 D2) =>
            match ex with
            | .normal => some (.v (.bool true), k2, A2.h.put id (.lp .ready none t2 ps2 asg2 body2 D2), ob2)
            | .ret => some (.v (.bool false), k2, A2.h.put id (.lp .done (some .ret) t2 ps2 asg2 body2 D2), ob2)
            | .exit j => some (.v (.bool false), k2, A2.h.put id (.lp .done (some (.exit j)) t2 ps2 asg2 body2 D2), ob2)
          | _ => none
        | none => none
      | _ => none
    | _, _ => none
  | _ => none

def inlN (P : Program) (X : Rules P) (env : List Entry) (os : Nat → Ora) : Nat → Inl
  | 0 => fun _ _ _ _ _ => none
  | n + 1 => fun g args h k ob => match g with
    | .fn g => fnI P X env os (inlN P X env os n) g args h k ob
    | .yd id => rdI P X env os (inlN P X env os n) id args h k ob

section
variable {X : Rules P} {env : List Entry} {os : Nat → Ora} {inl : Inl}

theorem fnI_spec {g : FuncId} {args : List AV} {h : Heap} {k : Nat} {ob : Prop} {r : AV} {k' : Nat} {h' : Heap} {ob' : Prop} (hr : fnI P X env os inl g args h k ob = some (r, k', h', ob')) :
    ∃ fn c ex A rs, P.funcs[g]? = some fn ∧ (fn.name == "runtime.NumGoroutine") = false ∧ Nat.blt (args.length + (fn.ntmps - args.length)) 4096 = true ∧ fn.body = some c ∧
      codeA P X env inl os k false c k ⟨frame args fn.ntmps, h, []⟩ ob = some (ex, k', A, ob') ∧ (∀ id, ex ≠ .exit id) ∧ shutAll A.h A.d = some h' ∧ resA P A.t h' fn.results.toList = some rs ∧ r = retA rs := by
  unfold fnI at hr
  split at hr
  · rename_i fn hf
    split at hr
    · rename_i c h1 h2 h3
      split at hr
      · cases hr
      · rename_i ex k1 A ob1 hne hc
        split at hr
        · rename_i h4 h5
          simp only [Option.map_eq_some_iff, Prod.mk.injEq] at hr
          obtain ⟨rs, h6, rfl, rfl, rfl, rfl⟩ := hr
          exact ⟨fn, c, ex, A, rs, hf, h1, h2, h3, hc, fun id e => hne id e, h5, h6, rfl⟩
        · cases hr
      · cases hr
    · cases hr
  · cases hr

theorem rdI_spec {id : Nat} {args : List AV} {h : Heap} {k : Nat} {ob : Prop} {r : AV} {k' : Nat} {h' : Heap} {ob' : Prop} (hr : rdI P X env os inl id args h k ob = some (r, k', h', ob')) :
    ∃ pe0 t ps asg body D0 k1 A1 ob1 pe t1 ps1 asg1 body1 D1 ex A2 st2 pe2 t2 ps2 asg2 body2 D2, h.get id = some (.lp .ready pe0 t ps asg body D0) ∧ args.length = ps.size ∧
      codeA P X env inl os k true asg k ⟨setPs t ps.toList args, h, []⟩ ob = some (.normal, k1, A1, ob1) ∧ A1.h.get id = some (.lp .ready pe t1 ps1 asg1 body1 D1) ∧
      codeA P X env inl os k true body k1 ⟨A1.t, A1.h.put id (.lp .busy pe t1 ps1 asg1 body1 D1), A1.d⟩ ob1 = some (ex, k', A2, ob') ∧ A2.h.get id = some (.lp st2 pe2 t2 ps2 asg2 body2 D2) ∧
      ((ex = .normal ∧ r = .v (.bool true) ∧ h' = A2.h.put id (.lp .ready none t2 ps2 asg2 body2 D2)) ∨ (ex = .ret ∧ r = .v (.bool false) ∧ h' = A2.h.put id (.lp .done (some .ret) t2 ps2 asg2 body2 D2)) ∨
        ∃ j, ex = .exit j ∧ r = .v (.bool false) ∧ h' = A2.h.put id (.lp .done (some (.exit j)) t2 ps2 asg2 body2 D2)) := by
  unfold rdI at hr
  split at hr
  · rename_i pe0 t ps asg body D0 h1
    split at hr
    · rename_i k1 A1 ob1 h2 h3
      split at hr
      · rename_i pe t1 ps1 asg1 body1 D1 h4
        split at hr
        · rename_i ex k2 A2 ob2 h5
          split at hr
          · rename_i st2 pe2 t2 ps2 asg2 body2 D2 h6
            refine ⟨pe0, t, ps, asg, body, D0, k1, A1, ob1, pe, t1, ps1, asg1, body1, D1, ex, A2, st2, pe2, t2, ps2, asg2, body2, D2, h1, Nat.eq_of_beq_eq_true h2, h3, h4, ?_⟩
            split at hr
            · simp only [Option.some.injEq, Prod.mk.injEq] at hr; obtain ⟨rfl, rfl, rfl, rfl⟩ := hr; exact ⟨h5, h6, .inl ⟨rfl, rfl, rfl⟩⟩
            · simp only [Option.some.injEq, Prod.mk.injEq] at hr; obtain ⟨rfl, rfl, rfl, rfl⟩ := hr; exact ⟨h5, h6, .inr (.inl ⟨rfl, rfl, rfl⟩)⟩
            · simp only [Option.some.injEq, Prod.mk.injEq] at hr; obtain ⟨rfl, rfl, rfl, rfl⟩ := hr; exact ⟨h5, h6, .inr (.inr ⟨_, rfl, rfl, rfl⟩)⟩
          · cases hr
        · cases hr
      · cases hr
    · cases hr
  · cases hr

theorem shutAll_fresh : ∀ {d : List Nat} {h h' : Heap} {k : Nat}, shutAll h d = some h' → (∀ j, k ≤ j → h.get j = none) → ∀ j, k ≤ j → h'.get j = none
  | [], h, h', k, hs, hf, j, hj => by simp only [shutAll, Option.some.injEq] at hs; subst hs; exact hf j hj
  | i :: l, h, h', k, hs, hf, j, hj => by
    unfold shutAll at hs
    split at hs
    · rename_i hd
      refine shutAll_fresh hs (fun j hj => ?_) j hj
      rw [Heap.put_ne _ (fun e => by rw [← e, hf j hj] at hd; cases hd)]
      exact hf j hj
    · cases hs

theorem setPs_slots {ρ : Names} : ∀ (ps : List Nat) (us : List AV) (vs : List Value) (t : Sl) (tmps : Array Value), Slots ρ t tmps → Reps ρ us vs → us.length = ps.length →
    Slots ρ (setPs t ps us) ((ps.zip vs).foldl (fun t (p, v) => t.setIfInBounds p v) tmps)
  | [], us, vs, t, tmps, ht, hr, hl => by simpa [setPs] using ht
  | p :: ps, [], vs, t, tmps, ht, hr, hl => by simp at hl
  | p :: ps, a :: us, vs, t, tmps, ht, hr, hl => by
    simp only [Reps] at hr
    obtain ⟨y, r, rfl, h1, h2⟩ := hr
    simp only [setPs, List.zip_cons_cons, List.foldl_cons]
    exact setPs_slots ps us r _ _ (ht.set p h1) h2 (by simpa using hl)

theorem inlStep_ok (henv : EnvOK P env) (hinl : InlOK P inl) : InlOK P (fun g args h k ob => match g with | .fn g => fnI P X env os inl g args h k ob | .yd id => rdI P X env os inl id args h k ob) := by
  refine ⟨fun g args h k ob r k' h' ob' hr hob => ?_, fun g args h k ob r k' h' ob' hr hob hf => ?_, fun g args h k ob r k' h' ob' hr hob hf => ?_, fun id args h k ob r k' h' ob' hr hob hf => ?_⟩
  · cases g with
    | fn g =>
      obtain ⟨fn, c, ex, A, rs, h1, h2, h3, h4, h5, h6, h7, h8, rfl⟩ := fnI_spec hr
      exact codeA_mono hinl _ _ _ _ _ _ _ _ h5 hob
    | yd id =>
      obtain ⟨pe0, t, ps, asg, body, D0, k1, A1, ob1, pe, t1, ps1, asg1, body1, D1, ex, A2, st2, pe2, t2, ps2, asg2, body2, D2, h1, h2, h3, h4, h5, h6, h7⟩ := rdI_spec hr
      exact codeA_mono hinl _ _ _ _ _ _ _ _ h3 (codeA_mono hinl _ _ _ _ _ _ _ _ h5 hob)
  · cases g with
    | fn g =>
      obtain ⟨fn, c, ex, A, rs, h1, h2, h3, h4, h5, h6, h7, h8, rfl⟩ := fnI_spec hr
      exact shutAll_fresh h7 (codeA_sound henv hinl _ _ _ _ _ _ _ _ h5 hob hf).1
    | yd id =>
      obtain ⟨pe0, t, ps, asg, body, D0, k1, A1, ob1, pe, t1, ps1, asg1, body1, D1, ex, A2, st2, pe2, t2, ps2, asg2, body2, D2, h1, h2, h3, h4, h5, h6, h7⟩ := rdI_spec hr
      have hob1 := codeA_mono hinl _ _ _ _ _ _ _ _ h5 hob
      have f1 := (codeA_sound henv hinl _ _ _ _ _ _ _ _ h3 hob1 hf).1
      have f1' : Fresh ⟨A1.t, A1.h.put id (.lp .busy pe t1 ps1 asg1 body1 D1), A1.d⟩ k1 := fun j hj => by
        show (Heap.put A1.h id _).get j = none
        rw [Heap.put_ne _ (fun e => by have := f1 j hj; rw [e, h4] at this; cases this)]
        exact f1 j hj
      have f2 := (codeA_sound henv hinl _ _ _ _ _ _ _ _ h5 hob f1').1
      intro j hj
      have hne : j ≠ id := fun e => by have := f2 j hj; rw [e, h6] at this; cases this
      rcases h7 with ⟨_, _, rfl⟩ | ⟨_, _, rfl⟩ | ⟨_, _, _, rfl⟩ <;> rw [Heap.put_ne _ hne] <;> exact f2 j hj
  · obtain ⟨fn, c, ex, A, rs, h1, h2, h3, h4, h5, h6, h7, h8, rfl⟩ := fnI_spec hr
    obtain ⟨f1, s1⟩ := codeA_sound henv hinl _ _ _ _ _ _ _ _ h5 hob hf
    refine ⟨fun vs w => ?_, fun w0 ρ vs w hsl hb hh => ?_⟩
    · have h2' : fn.name ≠ "runtime.NumGoroutine" := by intro e; rw [e] at h2; simp at h2
      simp [callFunc, h1, h2', h4, mark]
    · refine (callsIn_wide (n := 0)).1 (callsIn_of_wp_marks h1 h4 trivial ?_)
      refine s1 w0 (.inl rfl) (fun _ => rfl) 0 _ ρ _ w ⟨frame_slots hsl fn.ntmps h3, rfl, hb, hh⟩ fun ρ' a' w' hl hR' => ?_
      have hle : ρ.le ρ' := hl.le fun j hj => hh.none_ j (hf j hj)
      have hbp : LeavesInM Fence.wide 0 P fn a'.tmps (After w0 ρ (retA rs) h') a'.defers .returning w' :=
        shut_leaves A.d A.h h' a' w' h7 hR' fun w'' hs hb' hh' => by
          obtain ⟨v, e1, e2⟩ := resA_run (P := P) hs hh'.toHAt h8
          exact ⟨v, e1, v, ρ', rfl, hle, e2, hb', hh'⟩
      cases ex with
      | normal => exact hbp
      | ret => exact hbp
      | exit id => exact absurd rfl (h6 id)
  · obtain ⟨pe0, t, ps, asg, body, D0, k1, A1, ob1, pe, t1, ps1, asg1, body1, D1, ex, A2, st2, pe2, t2, ps2, asg2, body2, D2, h1, h2, h3, h4, h5, h6, h7⟩ := rdI_spec hr
    have hob1 := codeA_mono hinl _ _ _ _ _ _ _ _ h5 hob
    obtain ⟨f1, s1⟩ := codeA_sound henv hinl _ _ _ _ _ _ _ _ h3 hob1 hf
    have f1' : Fresh ⟨A1.t, A1.h.put id (.lp .busy pe t1 ps1 asg1 body1 D1), A1.d⟩ k1 := fun j hj => by
      show (Heap.put A1.h id _).get j = none
      rw [Heap.put_ne _ (fun e => by have := f1 j hj; rw [e, h4] at this; cases this)]
      exact f1 j hj
    obtain ⟨f2, s2⟩ := codeA_sound henv hinl _ _ _ _ _ _ _ _ h5 hob f1'
    intro w0 ρ vs w v hsl hb hh hv
    have hidk : id < k := by
      rcases Nat.lt_or_ge id k with hlt | hge
      · exact hlt
      · rw [hf id hge] at h1; cases h1
    obtain ⟨v', g1, g2⟩ := hh.at_ _ _ h1
    rw [hv] at g1; simp only [Option.some.injEq] at g1; subst g1
    obtain ⟨q1, q2, fn, tmps, d, q3, q4, q5⟩ := g2
    have hlen : vs.size = ps.size := by have := reps_length hsl; simp at this; omega
    have hy := run_yield (P := P) (args := vs) q5 hlen
    refine ⟨fn, _, asg, body, hy, fun n => roundIn_of_wpIn trivial ?_⟩
    have hps : Slots ρ (setPs t ps.toList args) ((ps.zip vs).foldl (fun t (p, v) => t.setIfInBounds p v) tmps) := by
      have := setPs_slots ps.toList args vs.toList t tmps q3 hsl (by simpa using h2)
      rw [← Array.foldl_toList, Array.toList_zip]
      exact this
    refine s1 w0 (.inr ⟨v.1, rfl⟩) (fun h => by cases h) n _ ρ _ w ⟨hps, rfl, hb, hh⟩ fun ρ1 a1 w1 hl1 hR1 => ?_
    have hv1 : ρ1 id = some v := hl1 id v hidk hv
    obtain ⟨v', g1, g2⟩ := hR1.heap.at_ _ _ h4
    rw [hv1] at g1; simp only [Option.some.injEq] at g1; subst g1
    obtain ⟨r1, r2, fn1, tmps1, d1, r3, r4, r5⟩ := g2
    have hR1' : Rel w0 ρ1 ⟨A1.t, A1.h.put id (.lp .busy pe t1 ps1 asg1 body1 D1), A1.d⟩ a1 (w1.putObj v.1 (.loop { state := .busy, pending := pe, fn := fn1, tmps := tmps1, params := ps1, assign := asg1, body := body1, defers := d1 })) :=
      putObj_rel hR1 hv1 h4 rfl r2 _ _ ⟨r1, r2, fn1, tmps1, d1, r3, r4, World.putObj_heap_same (hR1.heap.lt _ _ hv1)⟩
    refine ⟨_, run_beginRound r5 rfl, ?_⟩
    refine s2 w0 (.inr ⟨v.1, rfl⟩) (fun h => by cases h) n _ ρ1 _ _ hR1' fun ρ2 a2 w2 hl2 hR2 => ?_
    have hv2 : ρ2 id = some v := hl2 id v hidk hv1
    obtain ⟨v', g1, g2⟩ := hR2.heap.at_ _ _ h6
    rw [hv2] at g1; simp only [Option.some.injEq] at g1; subst g1
    obtain ⟨u1, u2, fn2, tmps2, d2, u3, u4, u5⟩ := g2
    have hle : ρ.le ρ2 := (Names.leB_trans hl1 hl2).le fun j hj => hh.none_ j (hf j hj)
    have fin : ∀ (st : LoopState) (jump : Option Code), Rel w0 ρ2 ⟨A2.t, A2.h.put id (.lp st jump t2 ps2 asg2 body2 D2), A2.d⟩ a2 (w2.putObj v.1 (.loop { state := st, pending := jump, fn := fn2, tmps := tmps2, params := ps2, assign := asg2, body := body2, defers := d2 })) :=
      fun st jump => putObj_rel hR2 hv2 h6 rfl u2 _ _ ⟨u1, u2, fn2, tmps2, d2, u3, u4, World.putObj_heap_same (hR2.heap.lt _ _ hv2)⟩
    rcases h7 with ⟨rfl, rfl, rfl⟩ | ⟨rfl, rfl, rfl⟩ | ⟨j, rfl, rfl, rfl⟩
    · exact ⟨_, _, run_endRound none u5, _, ρ2, rfl, hle, rfl, (fin .ready none).below, (fin .ready none).heap⟩
    · exact ⟨_, _, run_endRound (some .ret) u5, _, ρ2, rfl, hle, rfl, (fin .done (some .ret)).below, (fin .done (some .ret)).heap⟩
    · exact ⟨_, _, run_endRound (some (.exit j)) u5, _, ρ2, rfl, hle, rfl, (fin .done (some (.exit j))).below, (fin .done (some (.exit j))).heap⟩

theorem inlN_ok (henv : EnvOK P env) : ∀ n, InlOK P (inlN P X env os n)
  | 0 => ⟨fun _ _ _ _ _ _ _ _ _ h => (by cases h), fun _ _ _ _ _ _ _ _ _ h => (by cases h), fun _ _ _ _ _ _ _ _ _ h => (by cases h), fun _ _ _ _ _ _ _ _ _ h => (by cases h)⟩
  | n + 1 => inlStep_ok henv (inlN_ok henv n)
end

/-! ### Whole functions -/
def agsC : List XPc → Nat → List Ch
  | [], _ => []
  | .c x :: l, i => x :: agsC l (i + 1)
  | .r _ len :: l, i => .sx i len :: agsC l (i + 1)
  | .z _ len :: l, i => .sz i len :: agsC l (i + 1)
def hpC : List XPc → Nat → Heap → Heap
  | [], _, h => h
  | .c _ :: l, i, h => hpC l (i + 1) h
  | .r cs _ :: l, i, h => hpC l (i + 1) (h.put i (.ro cs))
  | .z cs _ :: l, i, h => hpC l (i + 1) (h.put i (.rz cs))

def avs : List XV → Nat → List AV
  | [], _ => []
  | .t x :: l, i => x :: avs l (i + 1)
  | .rd _ len cap :: l, i => .sl i 0 len cap :: avs l (i + 1)
  | .rx _ len :: l, i => .sx i len :: avs l (i + 1)
  | .rz _ len :: l, i => .sz i len :: avs l (i + 1)
  | .ags ps :: l, i => .ag (agsC ps i) :: avs l (i + ps.length + 1)

def hp0 : List XV → Nat → Heap → Heap
  | [], _, h => h
  | .t _ :: l, i, h => hp0 l (i + 1) h
  | .rd cs _ _ :: l, i, h => hp0 l (i + 1) (h.put i (.ro cs))
  | .rx cs _ :: l, i, h => hp0 l (i + 1) (h.put i (.ro cs))
  | .rz cs _ :: l, i, h => hp0 l (i + 1) (h.put i (.rz cs))
  | .ags ps :: l, i, h => hp0 l (i + ps.length + 1) (hpC ps i h)

/-- The first free name: behind the last slice among the arguments. -/
def startK : List XV → Nat
  | [] => 0
  | .t _ :: l => match startK l with | 0 => 0 | n + 1 => n + 2
  | .rd _ _ _ :: l => startK l + 1
  | .rx _ _ :: l => startK l + 1
  | .rz _ _ :: l => startK l + 1
  | .ags ps :: l => startK l + ps.length + 1

theorem zrep_nm {w : World} {cs : List Ch} {len : Nat} {y : Value} (h : ZRep w cs len y) : ∃ v : NM, v.1 < w.heap.size ∧ w.rangeAt v.1 v.2 (flat cs) ∧ (v.3 = 0 → flat cs = []) ∧ (v.3 = 0 → len = 0) ∧ y = zval v len := by
  obtain ⟨hp, h0, ⟨rfl, h2, rfl⟩ | ⟨b, off, room, rfl, h3, h4⟩⟩ := h
  · exact ⟨⟨0, 0, 0⟩, h0, by rw [h2]; intro j x hx; simp at hx, fun _ => h2, fun _ => rfl, rfl⟩
  · exact ⟨⟨b, off, room + 1⟩, h3, h4, fun h => (by simp at h), fun h => (by simp at h), rfl⟩
theorem pcs_rel {w : World} : ∀ (ps : List XPc) (vs : List Value) (i : Nat) (h : Heap) (ρ : Names), PcsRep w ps vs → HRel w.heap.size ρ h w → (∀ j, i ≤ j → h.get j = none) → (∀ j v, ρ j = some v → v.1 < w.heap.size) →
    ∃ ρ', ρ.le ρ' ∧ DefC ρ' (agsC ps i) ∧ flatR ρ' (agsC ps i) = vs ∧ HRel w.heap.size ρ' (hpC ps i h) w ∧ (∀ j, i + ps.length ≤ j → (hpC ps i h).get j = none) ∧ (∀ j v, ρ' j = some v → v.1 < w.heap.size)
  | [], vs, i, h, ρ, hx, hh, hf, hb => ⟨ρ, ρ.le_refl, trivial, by simp only [PcsRep] at hx; rw [hx]; rfl, hh, fun j hj => hf j hj, hb⟩
  | .c x :: ps, vs, i, h, ρ, hx, hh, hf, hb => by
    obtain ⟨hp, r, rfl, hr⟩ := hx
    obtain ⟨ρ', h1, h2, h3, h4, h5, h6⟩ := pcs_rel ps r (i + 1) h ρ hr hh (fun j hj => hf j (by omega)) hb
    exact ⟨ρ', h1, ⟨(Ch.pure_cells hp ρ' noNames).2, h2⟩, by simp only [agsC, flatR]; rw [h3, (Ch.pure_cells hp ρ' noNames).1], h4, fun j hj => h5 j (by simp only [List.length_cons] at hj; omega), h6⟩
  | .r cs len :: ps, vs, i, h, ρ, hx, hh, hf, hb => by
    obtain ⟨hp, b, off, room, r, rfl, hlt, hra, hr⟩ := hx
    obtain ⟨g1, g2, g3⟩ := hh.ro hb (hf i (Nat.le_refl _)) hp ⟨b, off, room⟩ hlt hra
    obtain ⟨ρ', h1, h2, h3, h4, h5, h6⟩ := pcs_rel ps r (i + 1) (h.put i (.ro cs)) _ hr g1 (fun j hj => by rw [Heap.put_ne _ (by omega)]; exact hf j (by omega)) g3
    have hi : ρ' i = some ⟨b, off, room⟩ := h1 _ _ (Names.nm_eq _ _ _)
    exact ⟨ρ', Names.le_trans g2 h1, ⟨⟨_, hi⟩, h2⟩, by simp only [agsC, flatR, Ch.cells, Names.at, Names.room, hi]; rw [h3]; rfl, h4, fun j hj => h5 j (by simp only [List.length_cons] at hj; omega), h6⟩
  | .z cs len :: ps, vs, i, h, ρ, hx, hh, hf, hb => by
    obtain ⟨y, r, rfl, hz, hr⟩ := hx
    have hp := hz.1
    obtain ⟨u, u1, u2, u3, u4, rfl⟩ := zrep_nm hz
    obtain ⟨g1, g2, g3⟩ := hh.rz hb (hf i (Nat.le_refl _)) hp u u1 u2 u3
    obtain ⟨ρ', h1, h2, h3, h4, h5, h6⟩ := pcs_rel ps r (i + 1) (h.put i (.rz cs)) _ hr g1 (fun j hj => by rw [Heap.put_ne _ (by omega)]; exact hf j (by omega)) g3
    have hi : ρ' i = some u := h1 _ _ (Names.nm_eq _ _ _)
    exact ⟨ρ', Names.le_trans g2 h1, ⟨⟨u, hi, u4⟩, h2⟩, by simp only [agsC, flatR, Ch.cells, Names.sz, hi]; rw [h3]; rfl, h4, fun j hj => h5 j (by simp only [List.length_cons] at hj; omega), h6⟩

theorem start0 : ∀ (l : List XV) (k : Nat) (h : Heap), startK l = 0 → hp0 l k h = h
  | [], _, _, _ => rfl
  | .t _ :: l, k, h, hk => by
    simp only [startK] at hk
    split at hk
    · rename_i h0; simp only [hp0]; exact start0 l _ _ h0
    · omega
  | .rd _ _ _ :: _, _, _, hk => by simp [startK] at hk
  | .rx _ _ :: _, _, _, hk => by simp [startK] at hk
  | .rz _ _ :: _, _, _, hk => by simp [startK] at hk
  | .ags _ :: _, _, _, hk => by simp [startK] at hk

theorem args_rel {w : World} : ∀ (xs : List XV) (vs : List Value) (i : Nat) (h : Heap) (ρ : Names), XReps w xs vs → HRel w.heap.size ρ h w → (∀ j, i ≤ j → h.get j = none) → (∀ j v, ρ j = some v → v.1 < w.heap.size) →
    ∃ ρ', ρ.le ρ' ∧ Reps ρ' (avs xs i) vs ∧ HRel w.heap.size ρ' (hp0 xs i h) w ∧ (∀ j, i + startK xs ≤ j → (hp0 xs i h).get j = none)
  | [], [], i, h, ρ, _, hh, hf, _ => ⟨ρ, ρ.le_refl, rfl, hh, fun j hj => hf j hj⟩
  | .t x :: xs, v :: vs, i, h, ρ, hx, hh, hf, hb => by
    obtain ⟨ρ', h1, h2, h3, h4⟩ := args_rel xs vs (i + 1) h ρ hx.2 hh (fun j hj => hf j (by omega)) hb
    refine ⟨ρ', h1, by simp only [avs, Reps]; exact ⟨_, _, rfl, rep_val hx.1, h2⟩, h3, fun j hj => ?_⟩
    simp only [startK] at hj
    cases hs : startK xs with
    | zero =>
      rw [hs] at hj h4
      simp only at hj
      by_cases e : j = i
      · subst e
        simp only [hp0]
        rw [start0 _ _ _ hs]
        exact hf _ (Nat.le_refl _)
      · exact h4 j (by omega)
    | succ n =>
      rw [hs] at hj h4
      simp only at hj
      exact h4 j (by omega)
  | .rd cs len cap :: xs, v :: vs, i, h, ρ, hx, hh, hf, hb => by
    obtain ⟨⟨hp, b, off, rfl, hlt, hr⟩, hx2⟩ := hx
    obtain ⟨g1, g2, g3⟩ := hh.ro hb (hf i (Nat.le_refl _)) hp ⟨b, off, 0⟩ hlt hr
    obtain ⟨ρ', h1, h2, h3, h4⟩ := args_rel xs vs (i + 1) (h.put i (.ro cs)) _ hx2 g1 (fun j hj => by rw [Heap.put_ne _ (by omega)]; exact hf j (by omega)) g3
    refine ⟨ρ', Names.le_trans g2 h1, ?_, h3, fun j hj => h4 j (by simp only [startK] at hj; omega)⟩
    simp only [avs, Reps]
    refine ⟨_, _, rfl, ?_, h2⟩
    simp only [Rep]
    exact ⟨⟨b, off, 0⟩, h1 _ _ (Names.nm_eq _ _ _), rfl⟩
  | .rx cs len :: xs, v :: vs, i, h, ρ, hx, hh, hf, hb => by
    obtain ⟨⟨hp, b, off, room, rfl, hlt, hr⟩, hx2⟩ := hx
    obtain ⟨g1, g2, g3⟩ := hh.ro hb (hf i (Nat.le_refl _)) hp ⟨b, off, room⟩ hlt hr
    obtain ⟨ρ', h1, h2, h3, h4⟩ := args_rel xs vs (i + 1) (h.put i (.ro cs)) _ hx2 g1 (fun j hj => by rw [Heap.put_ne _ (by omega)]; exact hf j (by omega)) g3
    refine ⟨ρ', Names.le_trans g2 h1, ?_, h3, fun j hj => h4 j (by simp only [startK] at hj; omega)⟩
    simp only [avs, Reps]
    refine ⟨_, _, rfl, ?_, h2⟩
    simp only [Rep]
    exact ⟨⟨b, off, room⟩, h1 _ _ (Names.nm_eq _ _ _), rfl⟩
  | .rz cs len :: xs, v :: vs, i, h, ρ, hx, hh, hf, hb => by
    obtain ⟨hz, hx2⟩ := hx
    have hp := hz.1
    obtain ⟨u, u1, u2, u3, u4, rfl⟩ := zrep_nm hz
    obtain ⟨g1, g2, g3⟩ := hh.rz hb (hf i (Nat.le_refl _)) hp u u1 u2 u3
    obtain ⟨ρ', h1, h2, h3, h4⟩ := args_rel xs vs (i + 1) (h.put i (.rz cs)) _ hx2 g1 (fun j hj => by rw [Heap.put_ne _ (by omega)]; exact hf j (by omega)) g3
    refine ⟨ρ', Names.le_trans g2 h1, ?_, h3, fun j hj => h4 j (by simp only [startK] at hj; omega)⟩
    simp only [avs, Reps]
    refine ⟨_, _, rfl, ?_, h2⟩
    simp only [Rep]
    exact ⟨u, h1 _ _ (Names.nm_eq _ _ _), u4, rfl⟩
  | .ags ps :: xs, v :: vs, i, h, ρ, hx, hh, hf, hb => by
    obtain ⟨⟨cells, rfl, hp⟩, hx2⟩ := hx
    obtain ⟨ρ1, g1, g2, g3, g4, g5, g6⟩ := pcs_rel ps cells i h ρ hp hh hf hb
    obtain ⟨ρ', h1, h2, h3, h4⟩ := args_rel xs vs (i + ps.length + 1) (hpC ps i h) _ hx2 g4 (fun j hj => g5 j (by omega)) g6
    refine ⟨ρ', Names.le_trans g1 h1, ?_, h3, fun j hj => h4 j (by simp only [startK] at hj; omega)⟩
    simp only [avs, Reps]
    refine ⟨_, _, rfl, ?_, h2⟩
    obtain ⟨d1, d2⟩ := defC_mono h1 g2
    simp only [Rep]
    exact ⟨d1, by rw [d2, g3]⟩
  | [], _ :: _, _, _, _, h, _, _, _ => h.elim
  | .t _ :: _, [], _, _, _, h, _, _, _ => h.elim
  | .rd _ _ _ :: _, [], _, _, _, h, _, _, _ => h.elim
  | .rx _ _ :: _, [], _, _, _, h, _, _, _ => h.elim
  | .rz _ _ :: _, [], _, _, _, h, _, _, _ => h.elim
  | .ags _ :: _, [], _, _, _, h, _, _, _ => h.elim

/-- A function's run: what it hands back, the blocks, and on what condition; so deep are calls gone through in place. -/
def fnH (P : Program) (X : Rules P) (env : List Entry) (n : Nat) (os : Nat → Ora) (fn : Func) (args : List XV) : Option (AV × Heap × Prop) :=
  match fn.body, Nat.blt ((avs args 0).length + (fn.ntmps - (avs args 0).length)) 4096 with
  | some c, true =>
    match codeA P X env (inlN P X env os n) os 0 false c (startK args) ⟨frame (avs args 0) fn.ntmps, hp0 args 0 .nil, []⟩ True with
    | some (.exit _, _, _, _) => none
    | some (_, _, A, ob) =>
      match shutAll A.h A.d with
      | some h' => (resA P A.t h' fn.results.toList).map fun r => (retA r, h', ob)
      | none => none
    | none => none
  | _, _ => none
def fnA (P : Program) (X : Rules P) (env : List Entry) (n : Nat) (os : Nat → Ora) (fn : Func) (args : List XV) : Option (AV × Prop) :=
  match fnH P X env n os fn args with
  | some (r, _, ob) => some (r, ob)
  | none => none

/-- What a call hands back, whatever the memory. -/
def Gives (P : Program) (f : FuncId) (args : List XV) (r : AV) : Prop :=
  ∃ v, r.val? = some v ∧ ∀ w vs, XReps w args vs → Calls P f vs.toArray w (fun en w' => en = .returned v ∧ Below w.heap.size w w')

theorem fnH_ok {X : Rules P} {env : List Entry} (henv : EnvOK P env) {f : FuncId} {fn : Func} (hf : P.funcs[f]? = some fn) (n : Nat) (os : Nat → Ora) {args : List XV} {r : AV} {h' : Heap} {ob : Prop} (h : fnH P X env n os fn args = some (r, h', ob)) (hob : ob)
    (w : World) (vs : List Value) (hx : XReps w args vs) : Calls P f vs.toArray w (After w (fun _ => none) r h') := by
  unfold fnH at h
  split at h
  · rename_i c hc hcap
    split at h
    · cases h
    · rename_i ex fr A ob' hne hrun
      split at h
      · rename_i h1 h2
        simp only [Option.map_eq_some_iff, Prod.mk.injEq] at h
        obtain ⟨rs, hrs, rfl, rfl, rfl⟩ := h
        obtain ⟨ρ', e1, e2, e3, e4⟩ := args_rel args vs 0 .nil (fun _ => none) hx ⟨⟨fun id blk hi => (by rw [Tr.get_nil] at hi; cases hi), fun i v hi => (by cases hi), Nat.le_refl _⟩, fun i j u v _ _ _ _ _ _ hu => (by cases hu), fun _ _ => rfl⟩ (fun j _ => Tr.get_nil _) (fun j v hj => by cases hj)
        obtain ⟨f1, s1⟩ := codeA_sound henv (inlN_ok henv n) _ _ _ _ _ _ _ _ hrun hob (fun j hj => e4 j (by simpa using hj))
        refine (callsIn_wide (n := 0)).1 (callsIn_of_wp_marks hf hc trivial ?_)
        refine s1 w (.inl rfl) (fun _ => rfl) 0 _ ρ' _ w ⟨frame_slots (by simpa [SlotsL] using e2) fn.ntmps hcap, rfl, Below.refl _ _, e3⟩ fun ρ'' a' w' hl hR' => ?_
        have hbp : LeavesInM Fence.wide 0 P fn a'.tmps (After w (fun _ => none) (retA rs) h1) a'.defers .returning w' :=
          shut_leaves A.d A.h h1 a' w' h2 hR' fun w'' hs hb' hh' => by
            obtain ⟨v, g1, g2⟩ := resA_run (P := P) hs hh'.toHAt hrs
            exact ⟨v, g1, v, ρ'', rfl, fun i b h => (by cases h), g2, hb', hh'⟩
        cases ex with
        | normal => exact hbp
        | ret => exact hbp
        | exit id => exact absurd rfl (hne id)
      · cases h
    · cases h
  · cases h

theorem fn_gives_at {X : Rules P} {env : List Entry} (henv : EnvOK P env) {f : FuncId} {fn : Func} (hf : P.funcs[f]? = some fn) (n : Nat) (os : Nat → Ora) {args : List XV} {r : AV} {ob : Prop} (h : fnA P X env n os fn args = some (r, ob)) (hv : ∃ v, r.val? = some v) (hob : ob) :
    Gives P f args r := by
  unfold fnA at h
  split at h
  · rename_i r' h' ob' hr
    simp only [Option.some.injEq, Prod.mk.injEq] at h
    obtain ⟨rfl, rfl⟩ := h
    obtain ⟨v, hv⟩ := hv
    refine ⟨v, hv, fun w vs hx => (fnH_ok henv hf n os hr hob w vs hx).mono fun en w' hen => ?_⟩
    obtain ⟨y, ρ', rfl, _, h3, h4, _⟩ := hen
    exact ⟨by rw [h3.of_val hv], h4⟩
  · cases h

/-! ### Makes of arguments -/
/-- A reader of pieces: what they stand for, and what is left. -/
structure Par (α : Type) where
  p : List Ch → Option (α × List Ch)
  c : α → List Ch
  pure : ∀ x, pureC (c x) = true
  ok : ∀ l x r, p l = some (x, r) → flat l = flat (c x) ++ flat r

theorem pureC_append : ∀ {a b : List Ch}, pureC a = true → pureC b = true → pureC (a ++ b) = true
  | [], b, _, h => h
  | c :: a, b, h, h' => by
    unfold pureC at h
    split at h
    · rename_i hc
      simp only [List.cons_append, pureC, hc]
      exact pureC_append h h'
    · cases h

def Par.pair {α β : Type} (a : Par α) (b : Par β) : Par (α × β) where
  p l := match a.p l with
    | some (x, r) => match b.p r with | some (y, s) => some ((x, y), s) | none => none
    | none => none
  c z := a.c z.1 ++ b.c z.2
  pure z := pureC_append (a.pure _) (b.pure _)
  ok l z s h := by
    split at h
    · rename_i x r hx
      split at h
      · rename_i y s' hy
        simp only [Option.some.injEq, Prod.mk.injEq] at h
        obtain ⟨rfl, rfl⟩ := h
        rw [a.ok _ _ _ hx, b.ok _ _ _ hy, flat_append, List.append_assoc]
      · cases h
    · cases h

/-- An argument. -/
structure XPar (α : Type) where
  p : XV → Option α
  c : α → XV
  ok : ∀ x a, p x = some a → ∀ w v, XRep w x v → XRep w (c a) v

theorem val_ag {cs : List Ch} (h : pureC cs = true) : (AV.ag cs).val? = some (.agg (flat cs).toArray) := by simp only [AV.val?, h]

theorem val_ag_some {cs : List Ch} {v : Value} (h : (AV.ag cs).val? = some v) : v = .agg (flat cs).toArray := by
  simp only [AV.val?] at h
  split at h
  · simp only [Option.some.injEq] at h; exact h.symm
  · cases h

def Par.x {α : Type} (a : Par α) : XPar α where
  p v := match v with
    | .t (.ag l) => match a.p l with | some (x, []) => some x | _ => none
    | _ => none
  c x := .t (.ag (a.c x))
  ok v x h w y hy := by
    split at h
    · split at h
      · rename_i l x' hp
        simp only [Option.some.injEq] at h; subst h
        have := a.ok _ _ _ hp
        simp only [XRep] at hy ⊢
        rw [val_ag (a.pure _), val_ag_some hy, this]
        simp [flat]
      · cases h
    · cases h

def XPar.int (k : IntKind) : XPar Int where
  p v := match v with
    | .t (.v (.int k' n)) => if k' = k then some n else none
    | _ => none
  c n := .t (.v (.int k n))
  ok v x h w y hy := by
    split at h
    · split at h
      · rename_i hk
        simp only [Option.some.injEq] at h; subst h; subst hk; exact hy
      · cases h
    · cases h

def entry0 (f : FuncId) (res : Alts) : Entry := ⟨f, fun _ => fun | [] => res | _ => []⟩
def entry1 {α : Type} (f : FuncId) (a : XPar α) (res : α → Alts) : Entry :=
  ⟨f, fun _ => fun | [x] => (match a.p x with | some u => res u | none => []) | _ => []⟩
def entry2 {α β : Type} (f : FuncId) (a : XPar α) (b : XPar β) (res : α → β → Alts) : Entry :=
  ⟨f, fun _ => fun | [x, y] => (match a.p x, b.p y with | some u, some v => res u v | _, _ => []) | _ => []⟩
def entry3 {α β γ : Type} (f : FuncId) (a : XPar α) (b : XPar β) (c : XPar γ) (res : α → β → γ → Alts) : Entry :=
  ⟨f, fun _ => fun | [x, y, z] => (match a.p x, b.p y, c.p z with | some u, some v, some t => res u v t | _, _, _ => []) | _ => []⟩

theorem entry0_ok {f : FuncId} {res : Alts} (he : ∀ args w, (callFunc f args).run P w = .ok (.enter f args) w) (h : ∀ c r, (c, r) ∈ res → c.getD True → Gives P f [] r) : (entry0 f res).OK P := by
  intro _ args c r hm hc
  simp only [entry0] at hm
  split at hm
  · obtain ⟨v, h1, h2⟩ := h c r hm hc
    exact ⟨v, h1, fun w vs hx => .inr ⟨he _ _, h2 w vs hx⟩⟩
  · cases hm

theorem entry1_ok {α : Type} {f : FuncId} {a : XPar α} {res : α → Alts} (he : ∀ args w, (callFunc f args).run P w = .ok (.enter f args) w)
    (h : ∀ u c r, (c, r) ∈ res u → c.getD True → Gives P f [a.c u] r) : (entry1 f a res).OK P := by
  intro _ args c r hm hc
  simp only [entry1] at hm
  split at hm
  · rename_i x
    split at hm
    · rename_i u hu
      obtain ⟨v, h1, h2⟩ := h u c r hm hc
      refine ⟨v, h1, fun w vs hx => ?_⟩
      match vs, hx with
      | [y], hx => exact .inr ⟨he _ _, h2 w [y] ⟨a.ok _ _ hu _ _ hx.1, trivial⟩⟩
    · cases hm
  · cases hm

theorem entry2_ok {α β : Type} {f : FuncId} {a : XPar α} {b : XPar β} {res : α → β → Alts} (he : ∀ args w, (callFunc f args).run P w = .ok (.enter f args) w)
    (h : ∀ u v c r, (c, r) ∈ res u v → c.getD True → Gives P f [a.c u, b.c v] r) : (entry2 f a b res).OK P := by
  intro _ args c r hm hc
  simp only [entry2] at hm
  split at hm
  · rename_i x y
    split at hm
    · rename_i u v hu hv
      obtain ⟨z, h1, h2⟩ := h u v c r hm hc
      refine ⟨z, h1, fun w vs hx => ?_⟩
      match vs, hx with
      | [p, q], hx => exact .inr ⟨he _ _, h2 w [p, q] ⟨a.ok _ _ hu _ _ hx.1, b.ok _ _ hv _ _ hx.2.1, trivial⟩⟩
    · cases hm
  · cases hm

theorem entry3_ok {α β γ : Type} {f : FuncId} {a : XPar α} {b : XPar β} {c : XPar γ} {res : α → β → γ → Alts} (he : ∀ args w, (callFunc f args).run P w = .ok (.enter f args) w)
    (h : ∀ u v t d r, (d, r) ∈ res u v t → d.getD True → Gives P f [a.c u, b.c v, c.c t] r) : (entry3 f a b c res).OK P := by
  intro _ args d r hm hc
  simp only [entry3] at hm
  split at hm
  · rename_i x y z
    split at hm
    · rename_i u v t hu hv ht
      obtain ⟨z, h1, h2⟩ := h u v t d r hm hc
      refine ⟨z, h1, fun w vs hx => ?_⟩
      match vs, hx with
      | [p, q, s], hx => exact .inr ⟨he _ _, h2 w [p, q, s] ⟨a.ok _ _ hu _ _ hx.1, b.ok _ _ hv _ _ hx.2.1, c.ok _ _ ht _ _ hx.2.2.1, trivial⟩⟩
    · cases hm
  · cases hm

/-- No rules. -/
def rules0 : Rules P := {}

theorem fn_gives {env : List Entry} (henv : EnvOK P env) {f : FuncId} {fn : Func} (hf : P.funcs[f]? = some fn) (n : Nat) (os : Nat → Ora) {args : List XV} {r : AV} {ob : Prop} (h : (match fnA P rules0 env n os fn args with | some (r, ob) => (match r.val? with | some _ => some (r, ob) | none => none) | none => none) = some (r, ob)) (hob : ob) :
    Gives P f args r := by
  split at h
  · rename_i r' ob' hr
    split at h
    · rename_i v hv
      simp only [Option.some.injEq, Prod.mk.injEq] at h
      obtain ⟨rfl, rfl⟩ := h
      exact fn_gives_at henv hf n os hr ⟨v, hv⟩ hob
    · cases h
  · cases h

/-- Every operation's first outcome, no number named. -/
def o0 : Nat → Ora := fun _ => { ch := 0, hi := fun _ => 0 }

/-- Names for what operations come to, and which outcome where it is not the first. -/
def lookN : List (Nat × Nat × Nat) → Nat → Nat → Nat
  | [], _, _ => 0
  | (i, a, b) :: l, id, k => if Nat.beq i id then (if Nat.beq k 0 then a else b) else lookN l id k
def lookB : List (Nat × Nat) → Nat → Nat
  | [], _ => 0
  | (i, c) :: l, id => if Nat.beq i id then c else lookB l id
def oN (names : List (Nat × Nat × Nat)) (ways : List (Nat × Nat)) : Nat → Ora := fun id => { ch := lookB ways id, hi := lookN names id }
/-- All names out of one function. -/
def oW (W : Nat → Nat → Nat) (ways : List (Nat × Nat)) : Nat → Ora := fun id => { ch := lookB ways id, hi := W id }
/-- Operations' choices, one by one. -/
def oL : List (Nat × Ora) → Nat → Ora
  | [], _ => { ch := 0, hi := fun _ => 0 }
  | (i, c) :: l, id => match Nat.beq i id with | true => c | false => oL l id
/-- A test is taken for granted. -/
def wT : Ora := { ch := 1, hi := fun _ => 0 }
def wF : Ora := { ch := 2, hi := fun _ => 0 }
/-- A number is given a name: of a whole number (.v), of 64 bits (.u). -/
def nV (x : Nat) : Ora := { ch := 1, hi := fun _ => x }
/-- A piece of code is told of. -/
def lpO (pk : LPick) : Ora := { ch := 0, hi := fun _ => 0, lp := some pk }
/-- A region's head is so long. -/
def hdO (n : Nat) : Ora := { ch := 0, hi := fun _ => 0, hd := n + 1 }
/-- One of the ways. -/
def wO (c : Nat) : Ora := { ch := c, hi := fun _ => 0 }

theorem Gives.same {f : FuncId} {args : List XV} {r r' : AV} (h : Gives P f args r) (e : r'.val? = r.val?) : Gives P f args r' := by
  obtain ⟨v, h1, h2⟩ := h
  exact ⟨v, e.trans h1, h2⟩

/-- One outcome alone. -/
theorem only {f : FuncId} {args : List XV} {r0 : AV} (h : Gives P f args r0) : ∀ c r, (c, r) ∈ ([(none, r0)] : Alts) → c.getD True → Gives P f args r := by
  intro c r hm _
  simp only [List.mem_singleton, Prod.mk.injEq] at hm
  obtain ⟨_, rfl⟩ := hm
  exact h

/-- One outcome under one condition. -/
theorem onlyIf {P : Program} {f : FuncId} {args : List XV} {p : Prop} {r0 : AV} (h : p → Gives P f args r0) : ∀ c r, (c, r) ∈ ([(some p, r0)] : Alts) → c.getD True → Gives P f args r := by
  intro c r hm hc
  simp only [List.mem_singleton, Prod.mk.injEq] at hm
  obtain ⟨rfl, rfl⟩ := hm
  exact h hc

/-! ### Loops -/
/-- A code's run from a state that is written out, and what is kept of what comes of it. -/
def roundR (P : Program) (X : Rules P) (env : List Entry) (n : Nat) (os : Nat → Ora) (fb : Nat) (rd : Bool) (c : Code) (k : Nat) (I : LState) (sk hk : List Nat) (lk : List (Nat × List Nat) := []) : Option (Ex × LState × Prop) :=
  match allLt k I.hp, codeA P X env (inlN P X env os n) os fb rd c k I.aa True with
  | true, some (ex, _, A, ob) =>
    match restr A sk hk lk with
    | some L => match fitsB fb A L [] && nmL L with | true => some (ex, L, ob) | false => none
    | none => none
  | _, _ => none

theorem roundK_sound {X : Rules P} {env : List Entry} (henv : EnvOK P env) {n : Nat} {os : Nat → Ora} {fb : Nat} {rd : Bool} {c : Code} {k : Nat} {I L : LState} {sk hk : List Nat} {lk : List (Nat × List Nat)} {ex : Ex} {ob : Prop} (h : roundR P X env n os fb rd c k I sk hk lk = some (ex, L, ob)) (hob : ob) :
    Sound P fb rd c I.aa ex L.aa := by
  unfold roundR at h
  split at h
  · rename_i ex' fr A ob' hl hrun
    split at h
    · rename_i L' hL
      split at h
      · rename_i hb
        simp only [Option.some.injEq, Prod.mk.injEq] at h
        obtain ⟨rfl, rfl, rfl⟩ := h
        simp only [Bool.and_eq_true] at hb
        obtain ⟨f1, s1⟩ := codeA_sound henv (inlN_ok henv n) _ _ _ _ _ _ _ _ hrun hob (fun j hj => allLt_fresh hl j hj)
        intro w0 F hF hrd m Q ρ a w hR hQ
        refine s1 w0 hF hrd m Q ρ a w hR fun ρ' a' w' hle hR' => ?_
        obtain ⟨ρ'', e1, e2⟩ := fits_rel hb.1 (fitsP_restr hL hb.2) hR'
        exact hQ ρ'' a' w' (Names.leB_trans hle e1) e2
      · cases h
    · cases h
  · cases h

theorem roundR_sound {X : Rules P} {env : List Entry} (henv : EnvOK P env) {n : Nat} {os : Nat → Ora} {fb : Nat} {rd : Bool} {c : Code} {k : Nat} {I L : LState} {sk hk : List Nat} {ex : Ex} {ob : Prop} (h : roundR P X env n os fb rd c k I sk hk = some (ex, L, ob)) (hob : ob) :
    Sound P fb rd c I.aa ex L.aa := roundK_sound henv h hob

/-- What comes of a piece of code may be told as another state that it fits; and so may what is ahead of it. -/
theorem Sound.post {fb : Nat} {rd : Bool} {c : Code} {A : AA} {ex : Ex} {B : AA} {J : LState} (h : Sound P fb rd c A ex B) (τ : List (Nat × Nat)) (hb : fitsB fb B J τ = true) (hp : fitsP B J τ) : Sound P fb rd c A ex J.aa := by
  intro w0 F hF hrd m Q ρ a w hR hQ
  refine h w0 hF hrd m Q ρ a w hR fun ρ' a' w' hle hR' => ?_
  obtain ⟨ρ'', e1, e2⟩ := fits_rel hb hp hR'
  exact hQ ρ'' a' w' (Names.leB_trans hle e1) e2
theorem Sound.pre {fb : Nat} {rd : Bool} {c : Code} {A : AA} {ex : Ex} {B : AA} {J : LState} (h : Sound P fb rd c J.aa ex B) (τ : List (Nat × Nat)) (hb : fitsB fb A J τ = true) (hp : fitsP A J τ) : Sound P fb rd c A ex B := by
  intro w0 F hF hrd m Q ρ a w hR hQ
  obtain ⟨ρ', e1, e2⟩ := fits_rel hb hp hR
  exact h w0 hF hrd m Q ρ' a w e2 fun ρ'' a' w' hl hR' => hQ ρ'' a' w' (Names.leB_trans e1 hl) hR'

/-- The bodies of a code's loops. -/
def loopsC : Code → List Code
  | .seq a b => loopsC a ++ loopsC b
  | .cond _ a b => loopsC a ++ loopsC b
  | .block _ b => loopsC b
  | .loop b => b :: loopsC b
  | .rangeFunc _ _ a b => loopsC a ++ loopsC b
  | .scope b => loopsC b
  | _ => []
/-- The loops over functions. -/
def rangesC : Code → List (Array Tmp × Code × Code)
  | .seq a b => rangesC a ++ rangesC b
  | .cond _ a b => rangesC a ++ rangesC b
  | .block _ b => rangesC b
  | .loop b => rangesC b
  | .rangeFunc _ ps a b => [(ps, a, b)]
  | .scope b => rangesC b
  | _ => []
def rangeB (fn : Func) (k : Nat) : Array Tmp × Code × Code := match fn.body with | some c => (rangesC c).getD k (#[], .skip, .skip) | none => (#[], .skip, .skip)
def loopB (fn : Func) (k : Nat) : Code := match fn.body with | some c => (loopsC c).getD k .skip | none => .skip

/-- A loop: a family of states; from each of them a round leads to one that is nearer to the end, or out of the loop, to the state behind it. -/
theorem loop_ok {Y : Type} (m : Y → Nat) (I : Y → LState) {fb : Nat} {rd : Bool} {body : Code} {ex : Ex} {E : LState} (hex : ex ≠ .normal)
    (round : ∀ y, (∃ y', m y' < m y ∧ Sound P fb rd body (I y).aa .normal (I y').aa) ∨ Sound P fb rd body (I y).aa ex E.aa) (y : Y) : Sound P fb rd (.loop body) (I y).aa ex E.aa := by
  intro w0 F hF hrd n Q ρ a w hR hQ
  suffices hs : ∀ k y ρ' a w, m y ≤ k → ρ.leB fb ρ' → Rel w0 ρ' (I y).aa a w → Code.roundsIn F n P body Q (k + 1) a w from wpIn_loop_rounds (m y + 1) (hs (m y) y ρ a w (Nat.le_refl _) (Names.leB_refl _ _) hR)
  intro k
  induction k with
  | zero =>
    intro y ρ' a w hm hl hR
    rcases round y with ⟨y', h1, _⟩ | h1
    · omega
    · exact h1 w0 hF hrd n _ ρ' a w hR fun ρ'' a' w' hl' hR' => then_other hex _ _ _ _ (hQ ρ'' a' w' (Names.leB_trans hl hl') hR')
  | succ k ih =>
    intro y ρ' a w hm hl hR
    rcases round y with ⟨y', h1, h2⟩ | h1
    · exact h2 w0 hF hrd n _ ρ' a w hR fun ρ'' a' w' hl' hR' => ih y' ρ'' a' w' (by omega) (Names.leB_trans hl hl') hR'
    · exact h1 w0 hF hrd n _ ρ' a w hR fun ρ'' a' w' hl' hR' => then_other hex _ _ _ _ (hQ ρ'' a' w' (Names.leB_trans hl hl') hR')
end Go.Ev
