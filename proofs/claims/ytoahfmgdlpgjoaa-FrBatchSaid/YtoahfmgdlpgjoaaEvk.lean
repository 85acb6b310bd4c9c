/- The evaluator: code, loops over functions among it. -/
import Derived.Test.YtoahfmgdlpgjoaaEvh
import Derived.Shelf.Abstract
set_option linter.unusedSimpArgs false
set_option linter.unusedVariables false
namespace Go.Ev
open Go.RowKit

def Ex.to : Ex → Exit
  | .normal => .normal
  | .exit id => .exit id
  | .ret => .ret

abbrev Rs := Option (Ex × Nat × AA × Prop)

def iterA (body : Nat → AA → Prop → Rs) : Nat → Nat → AA → Prop → Rs
  | 0, _, _, _ => none
  | n + 1, fr, A, ob =>
    match body fr A ob with
    | some (.normal, fr', A', ob') => iterA body n fr' A' ob'
    | r => r

/-- What is said of a code's run; fb: the names below it stay; rd: in a round of a loop over a function. -/
def Sound (P : Program) (fb : Nat) (rd : Bool) (c : Code) (A : AA) (ex : Ex) (A' : AA) : Prop :=
  ∀ (w0 : World) {F : Fence} (hF : WideF F) (hrd : rd = false → F.round = none) (n : Nat) (Q : Exit → Act → World → Prop) ρ a w, Rel w0 ρ A a w →
    (∀ ρ' a' w', ρ.leB fb ρ' → Rel w0 ρ' A' a' w' → Q ex.to a' w') → c.wpIn F n P Q a w

/-- A piece of code of which it is told what it does. -/
def pickA (P : Program) (fb : Nat) (rd : Bool) (os : Nat → Ora) (kd : Nat) (c : Code) (fr : Nat) (A : AA) (ob : Prop) : Option Rs :=
  match (os fr).lp with
  | some pk =>
    match Nat.beq pk.kd kd with
    | true => some (match fitsB fb A pk.I [] && nmL pk.I && allLt pk.fr pk.E.hp with
      | true => some (pk.ex, pk.fr, pk.E.aa, restr A (keysS pk.I.sl) (keysH pk.I.hp) pk.lk = some pk.I ∧ Sound P fb rd c pk.I.aa pk.ex pk.E.aa ∧ ob)
      | false => none)
    | false => none
  | none => none

/-- A loop over a function. -/
def rangeA (inl : Inl) (g : Operand) (ps : Array Tmp) (asg body : Code) (fr : Nat) (A : AA) (ob : Prop) : Rs :=
  match evA A.t g with
  | .clo gf [] cap =>
    match inl (.fn gf) (.yd (fr + 1) :: cap) ((A.h.put fr .dfd).put (fr + 1) (.lp .ready none A.t ps asg body fr)) (fr + 2) ob with
    | some (_, k', h', ob') =>
      match h'.get (fr + 1), h'.get fr with
      | some (.lp st pe _ _ _ _ _), some .dfd =>
        match st with
        | .busy => none
        | _ =>
          match pe with
          | none => some (.normal, k', ⟨A.t, h'.put (fr + 1) .dead, fr :: A.d⟩, ob')
          | some .ret => some (.ret, k', ⟨A.t, h'.put (fr + 1) .dead, fr :: A.d⟩, ob')
          | some (.exit id) => some (.exit id, k', ⟨A.t, h'.put (fr + 1) .dead, fr :: A.d⟩, ob')
          | _ => none
      | _, _ => none
    | none => none
  | _ => none

def codeA (P : Program) (X : Rules P) (env : List Entry) (inl : Inl) (os : Nat → Ora) (fb : Nat) (rd : Bool) : Code → Nat → AA → Prop → Rs
  | .skip, fr, A, ob => some (.normal, fr, A, ob)
  | .region _ ops draw, fr, A, ob =>
    match regionA P X env inl os ops draw fr A ob with
    | some (fr', A', ob') => some (.normal, fr', A', ob')
    | none => none
  | .seq a b, fr, A, ob =>
    match codeA P X env inl os fb rd a fr A ob with
    | some (.normal, fr1, A1, ob1) => codeA P X env inl os fb rd b fr1 A1 ob1
    | r => r
  | .cond c a b, fr, A, ob =>
    match pickA P fb rd os 1 (.cond c a b) fr A ob with
    | some r => r
    | none =>
    match evA A.t c with
    | .v (.bool true) => codeA P X env inl os fb rd a fr A ob
    | .v (.bool false) => codeA P X env inl os fb rd b fr A ob
    | _ => none
  | .block id body, fr, A, ob =>
    match pickA P fb rd os 2 (.block id body) fr A ob with
    | some r => r
    | none =>
    match codeA P X env inl os fb rd body fr A ob with
    | some (.exit id', fr1, A1, ob1) => some (match Nat.beq id' id with | true => .normal | false => .exit id', fr1, A1, ob1)
    | r => r
  | .loop body, fr, A, ob =>
    match pickA P fb rd os 0 (.loop body) fr A ob with
    | some r => r
    | none => iterA (codeA P X env inl os fb rd body) 400 fr A ob
  | .rangeFunc g ps asg body, fr, A, ob => match rd with | true => none | false => rangeA inl g ps asg body fr A ob
  | .exit id, fr, A, ob => some (.exit id, fr, A, ob)
  | .ret, fr, A, ob => some (.ret, fr, A, ob)
  | _, _, _, _ => none

section
variable {P : Program} {X : Rules P} {env : List Entry} {inl : Inl} {os : Nat → Ora} {fb : Nat} {rd : Bool}

theorem then_other {ex : Ex} (h : ex ≠ .normal) (next : Act → World → Prop) (Q : Exit → Act → World → Prop) (a : Act) (w : World) (hq : Q ex.to a w) : Exit.then next Q ex.to a w := by
  cases ex with
  | normal => exact absurd rfl h
  | exit id => exact hq
  | ret => exact hq

theorem pickA_spec {kd : Nat} {c : Code} {fr : Nat} {A : AA} {ob : Prop} {r : Rs} (h : pickA P fb rd os kd c fr A ob = some r) {ex : Ex} {fr' : Nat} {A' : AA} {ob' : Prop} (hr : r = some (ex, fr', A', ob')) (hob : ob') :
    ob ∧ Fresh A' fr' ∧ Sound P fb rd c A ex A' := by
  unfold pickA at h
  split at h
  · rename_i pk hpk
    split at h
    · simp only [Option.some.injEq] at h
      subst h
      split at hr
      · rename_i hb
        simp only [Bool.and_eq_true] at hb
        simp only [Option.some.injEq, Prod.mk.injEq] at hr
        obtain ⟨rfl, rfl, rfl, rfl⟩ := hr
        obtain ⟨h1, h2, h3⟩ := hob
        refine ⟨h3, fun j hj => allLt_fresh hb.2 j hj, ?_⟩
        intro w0 F hF hrd n Q ρ a w hR hQ
        obtain ⟨ρ', e1, e2⟩ := fits_rel hb.1.1 (fitsP_restr h1 hb.1.2) hR
        exact h2 w0 hF hrd n Q ρ' a w e2 fun ρ'' a' w' hl hR' => hQ ρ'' a' w' (Names.leB_trans e1 hl) hR'
      · cases hr
    · cases h
  · cases h

theorem rangeA_mono (hinl : InlOK P inl) {g : Operand} {ps : Array Tmp} {asg body : Code} {fr : Nat} {A : AA} {ob : Prop} {ex : Ex} {fr' : Nat} {A' : AA} {ob' : Prop} (h : rangeA inl g ps asg body fr A ob = some (ex, fr', A', ob')) (hob : ob') : ob := by
  unfold rangeA at h
  split at h
  · split at h
    · rename_i hi
      split at h
      · split at h
        · cases h
        · split at h
          · simp only [Option.some.injEq, Prod.mk.injEq] at h; obtain ⟨_, _, _, rfl⟩ := h; exact hinl.mono _ _ _ _ _ _ _ _ _ hi hob
          · simp only [Option.some.injEq, Prod.mk.injEq] at h; obtain ⟨_, _, _, rfl⟩ := h; exact hinl.mono _ _ _ _ _ _ _ _ _ hi hob
          · simp only [Option.some.injEq, Prod.mk.injEq] at h; obtain ⟨_, _, _, rfl⟩ := h; exact hinl.mono _ _ _ _ _ _ _ _ _ hi hob
          · cases h
      · cases h
    · cases h
  · cases h

/-- Conditions only grow. -/
theorem codeA_mono (hinl : InlOK P inl) : ∀ (c : Code) (fr : Nat) (A : AA) (ob : Prop) (ex : Ex) (fr' : Nat) (A' : AA) (ob' : Prop), codeA P X env inl os fb rd c fr A ob = some (ex, fr', A', ob') → ob' → ob := by
  intro c
  induction c with
  | skip => intro fr A ob ex fr' A' ob' h hob; simp only [codeA, Option.some.injEq, Prod.mk.injEq] at h; obtain ⟨_, _, _, rfl⟩ := h; exact hob
  | region id ops draw =>
    intro fr A ob ex fr' A' ob' h hob
    simp only [codeA] at h
    split at h
    · rename_i hr
      simp only [Option.some.injEq, Prod.mk.injEq] at h
      obtain ⟨_, _, _, rfl⟩ := h
      exact regionA_mono hinl hr hob
    · cases h
  | seq x y ihx ihy =>
    intro fr A ob ex fr' A' ob' h hob
    simp only [codeA] at h
    split at h
    · rename_i hx; exact ihx _ _ _ _ _ _ _ hx (ihy _ _ _ _ _ _ _ h hob)
    · exact ihx _ _ _ _ _ _ _ h hob
  | cond c x y ihx ihy =>
    intro fr A ob ex fr' A' ob' h hob
    simp only [codeA] at h
    split at h
    · rename_i hp
      exact (pickA_spec hp h hob).1
    · split at h
      · exact ihx _ _ _ _ _ _ _ h hob
      · exact ihy _ _ _ _ _ _ _ h hob
      · cases h
  | block id body ih =>
    intro fr A ob ex fr' A' ob' h hob
    simp only [codeA] at h
    split at h
    · rename_i hp
      exact (pickA_spec hp h hob).1
    · split at h
      · rename_i hb
        simp only [Option.some.injEq, Prod.mk.injEq] at h
        obtain ⟨_, _, _, rfl⟩ := h
        exact ih _ _ _ _ _ _ _ hb hob
      · exact ih _ _ _ _ _ _ _ h hob
  | loop body ih =>
    intro fr A ob ex fr' A' ob' h hob
    simp only [codeA] at h
    split at h
    · rename_i hp
      exact (pickA_spec hp h hob).1
    · generalize 400 = n at h
      induction n generalizing fr A ob with
      | zero => simp [iterA] at h
      | succ n ihn =>
        unfold iterA at h
        split at h
        · rename_i hb
          have hob2 : ∀ n fr A (ob : Prop), iterA (codeA P X env inl os fb rd body) n fr A ob = some (ex, fr', A', ob') → ob := by
            intro n
            induction n with
            | zero => intro fr A ob h; simp [iterA] at h
            | succ n ihn =>
              intro fr A ob h
              unfold iterA at h
              split at h
              · rename_i hb; exact ih _ _ _ _ _ _ _ hb (ihn _ _ _ h)
              · exact ih _ _ _ _ _ _ _ h hob
          exact ih _ _ _ _ _ _ _ hb (hob2 _ _ _ _ h)
        · exact ih _ _ _ _ _ _ _ h hob
  | rangeFunc g ps asg body =>
    intro fr A ob ex fr' A' ob' h hob
    simp only [codeA] at h
    split at h
    · cases h
    · exact rangeA_mono hinl h hob
  | exit id => intro fr A ob ex fr' A' ob' h hob; simp only [codeA, Option.some.injEq, Prod.mk.injEq] at h; obtain ⟨_, _, _, rfl⟩ := h; exact hob
  | ret => intro fr A ob ex fr' A' ob' h hob; simp only [codeA, Option.some.injEq, Prod.mk.injEq] at h; obtain ⟨_, _, _, rfl⟩ := h; exact hob
  | _ => intro fr A ob ex fr' A' ob' h hob; simp [codeA] at h

theorem putObj_rel {w0 : World} {ρ : Names} {A : AA} {a : Act} {w : World} (hR : Rel w0 ρ A a w) {id : Nat} {v : NM} (hv : ρ id = some v) {blk : Blk} (hblk : A.h.get id = some blk) (hlive : blk.live = true) (hB : w0.heap.size ≤ v.1) (blk' : Blk) (o : Obj) (hb : BAt w0.heap.size ρ (w.putObj v.1 o) v blk') :
    Rel w0 ρ ⟨A.t, A.h.put id blk', A.d⟩ a (w.putObj v.1 o) := by
  have hlt := hR.heap.lt _ _ hv
  refine ⟨hR.slots, hR.defers, hR.below.trans ?_, hR.heap.turn hv hB hblk hlive blk' (by simp) (fun k hk => World.putObj_heap_other hk) hb⟩
  exact ⟨rfl, rfl, rfl, by simp, fun k hk => World.putObj_heap_other (by omega)⟩

theorem rangeA_sound (hinl : InlOK P inl) {g : Operand} {ps : Array Tmp} {asg body : Code} {fr : Nat} {A : AA} {ob : Prop} {ex : Ex} {fr' : Nat} {A' : AA} {ob' : Prop} (h : rangeA inl g ps asg body fr A ob = some (ex, fr', A', ob')) (hob : ob') (hf : Fresh A fr) :
    Fresh A' fr' ∧ Sound P fb false (.rangeFunc g ps asg body) A ex A' := by
  unfold rangeA at h
  split at h
  · rename_i gf cap hg
    split at h
    · rename_i r k' h' ob1 hi
      split at h
      · rename_i st pe t' ps' asg' body' D' hrec hdfd
        have hst : st ≠ .busy ∧ ob' = ob1 ∧ fr' = k' ∧ A' = ⟨A.t, h'.put (fr + 1) .dead, fr :: A.d⟩ ∧ ((pe = none ∧ ex = .normal) ∨ (pe = some .ret ∧ ex = .ret) ∨ ∃ id, pe = some (.exit id) ∧ ex = .exit id) := by
          split at h
          · cases h
          · rename_i hnb
            split at h
            · simp only [Option.some.injEq, Prod.mk.injEq] at h; obtain ⟨rfl, rfl, rfl, rfl⟩ := h; exact ⟨hnb, rfl, rfl, rfl, .inl ⟨rfl, rfl⟩⟩
            · simp only [Option.some.injEq, Prod.mk.injEq] at h; obtain ⟨rfl, rfl, rfl, rfl⟩ := h; exact ⟨hnb, rfl, rfl, rfl, .inr (.inl ⟨rfl, rfl⟩)⟩
            · rename_i id
              simp only [Option.some.injEq, Prod.mk.injEq] at h; obtain ⟨rfl, rfl, rfl, rfl⟩ := h; exact ⟨hnb, rfl, rfl, rfl, .inr (.inr ⟨_, rfl, rfl⟩)⟩
            · cases h
        obtain ⟨hnb, rfl, rfl, rfl, hpe⟩ := hst
        have hf2 : ∀ j, fr + 2 ≤ j → ((A.h.put fr .dfd).put (fr + 1) (.lp .ready none A.t ps asg body fr)).get j = none := fun j hj => by
          rw [Heap.put_ne _ (by omega), Heap.put_ne _ (by omega)]
          exact hf j (by omega)
        have hfr' := hinl.fresh _ _ _ _ _ _ _ _ _ hi hob hf2
        obtain ⟨ent, hcall⟩ := hinl.fn _ _ _ _ _ _ _ _ _ hi hob hf2
        have hlt : fr + 1 < fr' := by
          rcases Nat.lt_or_ge (fr + 1) fr' with hh | hh
          · exact hh
          · rw [hfr' _ hh] at hrec; cases hrec
        refine ⟨fun j hj => ?_, ?_⟩
        · show (Heap.put h' (fr + 1) .dead).get j = none
          rw [Heap.put_ne _ (by omega)]
          exact hfr' j hj
        · intro w0 F hF hrd n Q ρ a w hR hQ
          have hro : F.round = none := hrd rfl
          refine wpIn_rangeFunc fun fn hfn => ?_
          rw [hro]
          have hge := rep_evA hR.slots g
          rw [hg] at hge
          simp only [Rep, Reps] at hge
          obtain ⟨xs, ys, rfl, hys, hge⟩ := hge
          refine ⟨w.heap.size + 1, [{ target := .collected w.heap.size, args := #[] }], (w.alloc (.deferred (some []))).alloc (.loop { state := .ready, pending := none, fn, tmps := a.tmps, params := ps, assign := asg, body, defers := w.heap.size }),
            { target := .fn (.func gf) ys.toArray, args := #[.func (.yield (w.heap.size + 1)) #[] #[]] }, (w.alloc (.deferred (some []))).alloc (.loop { state := .ready, pending := none, fn, tmps := a.tmps, params := ps, assign := asg, body, defers := w.heap.size }), gf, #[.func (.yield (w.heap.size + 1)) #[] #[]] ++ ys.toArray, (w.alloc (.deferred (some []))).alloc (.loop { state := .ready, pending := none, fn, tmps := a.tmps, params := ps, assign := asg, body, defers := w.heap.size }), run_enterLoop_outer _ _ _ _ _, ?_, fun f' _ => hF.fn f', ?_, hF.depth, ?_⟩
          · simp only [resolve, hge]
            simp [go_sem]
          · simp [invoke, go_sem, ent]
          · -- the function's call
            have n0 := hR.heap.none_ fr (hf _ (Nat.le_refl _))
            obtain ⟨r1, l1⟩ := hR.heap.new (id := fr) (hf _ (Nat.le_refl _)) (.deferred (some [])) .dfd ⟨rfl, hR.heap.size, World.alloc_heap_new _ _⟩
            have hnone1 : (A.h.put fr .dfd).get (fr + 1) = none := by rw [Heap.put_ne _ (by omega)]; exact hf _ (by omega)
            have hn1 := r1.none_ _ hnone1
            have l2 := Names.le_new hn1 (w.alloc (.deferred (some []))).heap.size
            obtain ⟨r2, _⟩ := r1.new (id := fr + 1) hnone1 (.loop { state := .ready, pending := none, fn, tmps := a.tmps, params := ps, assign := asg, body, defers := w.heap.size }) (.lp .ready none A.t ps asg body fr)
              ⟨rfl, by have := hR.heap.size; simp; omega, fn, a.tmps, w.heap.size, (hR.slots.mono l1).mono l2, l2 _ _ (Names.new_eq _ _ _), World.alloc_heap_new _ _⟩
            have hb2 : Below w0.heap.size w0 ((w.alloc (.deferred (some []))).alloc (.loop { state := .ready, pending := none, fn, tmps := a.tmps, params := ps, assign := asg, body, defers := w.heap.size })) :=
              (hR.below.alloc hR.below.size _).alloc (by have := hR.below.size; simp; omega) _
            have hsz : (w.alloc (.deferred (some []))).heap.size = w.heap.size + 1 := by simp
            have hsl : SlotsL (((ρ.new fr w.heap.size).new (fr + 1) (w.alloc (.deferred (some []))).heap.size)) (.yd (fr + 1) :: cap) (#[.func (.yield (w.heap.size + 1)) #[] #[]] ++ ys.toArray) := by
              have : (#[Value.func (.yield (w.heap.size + 1)) #[] #[]] ++ ys.toArray).toList = .func (.yield (w.heap.size + 1)) #[] #[] :: ys := by simp
              unfold SlotsL
              rw [this]
              simp only [Reps]
              refine ⟨_, _, rfl, ?_, Reps.mono l2 (Reps.mono l1 hys)⟩
              simp only [Rep]
              exact ⟨_, Names.new_eq _ _ _, by rw [hsz]⟩
            refine (hF.calls (hcall w0 _ _ _ hsl hb2 r2)).mono fun en w2 hen => ?_
            obtain ⟨v, ρ', i1, i2, i3, i4, i5⟩ := hen
            subst i1
            have hv1 : ρ' (fr + 1) = some ⟨w.heap.size + 1, 0, 0⟩ := by rw [← hsz]; exact i2 _ _ (Names.new_eq _ _ _)
            have hv0 : ρ' fr = some ⟨w.heap.size, 0, 0⟩ := i2 _ _ (l2 _ _ (Names.new_eq _ _ _))
            obtain ⟨u1, g1, g2⟩ := i5.at_ _ _ hrec
            rw [hv1] at g1; simp only [Option.some.injEq] at g1; subst g1
            obtain ⟨k1, k2, fn', tmps', d', k3, k4, k5⟩ := g2
            have hend := run_endLoop (P := P) k5 hnb
            have hRel : Rel w0 ρ' ⟨A.t, h', fr :: A.d⟩ { a with defers := { target := .collected w.heap.size, args := #[] } :: a.defers } w2 := by
              refine ⟨((hR.slots.mono l1).mono l2).mono i2, ⟨w.heap.size, a.defers, hv0, rfl, ((hR.defers.mono l1).mono l2).mono i2⟩, i4, i5⟩
            have hRel2 := putObj_rel hRel hv1 hrec rfl k2 .dead (.loop { state := .exhausted, pending := pe, fn := fn', tmps := tmps', params := ps', assign := asg', body := body', defers := d' }) k2
            refine ⟨pe, _, hend, ?_⟩
            have hq := hQ ρ' _ _ ((l1.leB fb |>.trans_le l2).trans_le i2) hRel2
            rcases hpe with ⟨rfl, rfl⟩ | ⟨rfl, rfl⟩ | ⟨id, rfl, rfl⟩
            · exact hq
            · exact wpIn_ret hq
            · exact wpIn_exit hq
      · cases h
    · cases h
  · cases h

theorem codeA_sound (henv : EnvOK P env) (hinl : InlOK P inl) : ∀ (c : Code) (fr : Nat) (A : AA) (ob : Prop) (ex : Ex) (fr' : Nat) (A' : AA) (ob' : Prop),
    codeA P X env inl os fb rd c fr A ob = some (ex, fr', A', ob') → ob' → Fresh A fr → Fresh A' fr' ∧ Sound P fb rd c A ex A' := by
  intro c
  induction c with
  | skip =>
    intro fr A ob ex fr' A' ob' h hob hf
    simp only [codeA, Option.some.injEq, Prod.mk.injEq] at h
    obtain ⟨rfl, rfl, rfl, rfl⟩ := h
    exact ⟨hf, fun w0 F hF hrd n Q ρ a w hR hQ => wpIn_skip (hQ ρ a w (Names.leB_refl _ ρ) hR)⟩
  | region id ops draw =>
    intro fr A ob ex fr' A' ob' h hob hf
    simp only [codeA] at h
    split at h
    · rename_i fr1 A1 ob1 hr
      simp only [Option.some.injEq, Prod.mk.injEq] at h
      obtain ⟨rfl, rfl, rfl, rfl⟩ := h
      refine ⟨(regionA_sound (w0 := default) henv hinl hr hob hf).1, fun w0 F hF hrd n Q ρ a w hR hQ => ?_⟩
      exact (regionA_sound (w0 := w0) henv hinl hr hob hf).2 hF n id Q ρ a w hR fun ρ' a' w' hl hR' => hQ ρ' a' w' (hl.leB fb) hR'
    · cases h
  | seq x y ihx ihy =>
    intro fr A ob ex fr' A' ob' h hob hf
    simp only [codeA] at h
    split at h
    · rename_i fr1 A1 ob1 hx
      have hob1 := codeA_mono hinl y fr1 A1 ob1 ex fr' A' ob' h hob
      obtain ⟨e2, e3⟩ := ihx fr A ob .normal fr1 A1 ob1 hx hob1 hf
      obtain ⟨g2, g3⟩ := ihy fr1 A1 ob1 ex fr' A' ob' h hob e2
      exact ⟨g2, fun w0 F hF hrd n Q ρ a w hR hQ => wpIn_seq (e3 w0 hF hrd n _ ρ a w hR fun ρ' a' w' hl hR' => g3 w0 hF hrd n Q ρ' a' w' hR' fun ρ'' a'' w'' hl' hR'' => hQ ρ'' a'' w'' (Names.leB_trans hl hl') hR'')⟩
    · rename_i hne
      obtain ⟨e2, e3⟩ := ihx fr A ob ex fr' A' ob' h hob hf
      have hn : ex ≠ .normal := fun e => by subst e; exact hne _ _ _ h
      exact ⟨e2, fun w0 F hF hrd n Q ρ a w hR hQ => wpIn_seq (e3 w0 hF hrd n _ ρ a w hR fun ρ' a' w' hl hR' => then_other hn _ _ _ _ (hQ ρ' a' w' hl hR'))⟩
  | cond c x y ihx ihy =>
    intro fr A ob ex fr' A' ob' h hob hf
    simp only [codeA] at h
    split at h
    · rename_i hp
      exact (pickA_spec hp h hob).2
    · split at h
      · rename_i hc
        obtain ⟨e2, e3⟩ := ihx fr A ob ex fr' A' ob' h hob hf
        refine ⟨e2, fun w0 F hF hrd n Q ρ a w hR hQ => ?_⟩
        have := rep_evA hR.slots c
        rw [hc] at this
        exact wpIn_cond_true this (e3 w0 hF hrd n Q ρ a w hR hQ)
      · rename_i hc
        obtain ⟨e2, e3⟩ := ihy fr A ob ex fr' A' ob' h hob hf
        refine ⟨e2, fun w0 F hF hrd n Q ρ a w hR hQ => ?_⟩
        have := rep_evA hR.slots c
        rw [hc] at this
        exact wpIn_cond_false this (e3 w0 hF hrd n Q ρ a w hR hQ)
      · cases h
  | block id body ih =>
    intro fr A ob ex fr' A' ob' h hob hf
    simp only [codeA] at h
    split at h
    · rename_i hp
      exact (pickA_spec hp h hob).2
    · split at h
      · rename_i id' fr1 A1 ob1 hb
        simp only [Option.some.injEq, Prod.mk.injEq] at h
        obtain ⟨hex, rfl, rfl, rfl⟩ := h
        obtain ⟨e2, e3⟩ := ih fr A ob (.exit id') fr1 A1 ob1 hb hob hf
        refine ⟨e2, fun w0 F hF hrd n Q ρ a w hR hQ => wpIn_block (e3 w0 hF hrd n _ ρ a w hR fun ρ' a' w' hl hR' => ?_)⟩
        have hq := hQ ρ' a' w' hl hR'
        subst hex
        simp only [Ex.to, Exit.inBlock]
        by_cases hid : id' = id
        · subst hid
          simp only [Nat.beq_refl, if_true, Ex.to] at hq ⊢
          exact hq
        · have : Nat.beq id' id = false := by
            cases hb : Nat.beq id' id with
            | false => rfl
            | true => exact absurd (Nat.eq_of_beq_eq_true hb) hid
          simp only [this, Bool.false_eq_true, if_false, Ex.to, hid] at hq ⊢
          exact hq
      · rename_i hne
        obtain ⟨e2, e3⟩ := ih fr A ob ex fr' A' ob' h hob hf
        refine ⟨e2, fun w0 F hF hrd n Q ρ a w hR hQ => wpIn_block (e3 w0 hF hrd n _ ρ a w hR fun ρ' a' w' hl hR' => ?_)⟩
        have hq := hQ ρ' a' w' hl hR'
        cases ex with
        | normal => exact hq
        | ret => exact hq
        | exit id' => exact absurd h (hne _ _ _ _)
  | loop body ih =>
    intro fr A ob ex fr' A' ob' h hob hf
    simp only [codeA] at h
    split at h
    · rename_i hp
      exact (pickA_spec hp h hob).2
    · suffices hs : ∀ n fr A ob, iterA (codeA P X env inl os fb rd body) n fr A ob = some (ex, fr', A', ob') → Fresh A fr →
          (Fresh A' fr' ∧ ∀ (w0 : World) {F : Fence} (hF : WideF F) (hrd : rd = false → F.round = none) (m : Nat) (Q : Exit → Act → World → Prop) ρ a w, Rel w0 ρ A a w →
            (∀ ρ' a' w', ρ.leB fb ρ' → Rel w0 ρ' A' a' w' → Q ex.to a' w') → Code.roundsIn F m P body Q n a w) by
        obtain ⟨e2, e3⟩ := hs 400 fr A ob h hf
        exact ⟨e2, fun w0 F hF hrd m Q ρ a w hR hQ => wpIn_loop_rounds 400 (e3 w0 hF hrd m Q ρ a w hR hQ)⟩
      intro n
      induction n with
      | zero => intro fr A ob h; simp [iterA] at h
      | succ n ihn =>
        intro fr A ob h hf
        unfold iterA at h
        split at h
        · rename_i fr1 A1 ob1 hb
          have hob1 : ob1 := by
            have : ∀ n fr A (ob : Prop), iterA (codeA P X env inl os fb rd body) n fr A ob = some (ex, fr', A', ob') → ob := by
              intro n
              induction n with
              | zero => intro fr A ob h; simp [iterA] at h
              | succ n ihn =>
                intro fr A ob h
                unfold iterA at h
                split at h
                · rename_i hb; exact codeA_mono hinl _ _ _ _ _ _ _ _ hb (ihn _ _ _ h)
                · exact codeA_mono hinl _ _ _ _ _ _ _ _ h hob
            exact this n fr1 A1 ob1 h
          obtain ⟨e2, e3⟩ := ih fr A ob .normal fr1 A1 ob1 hb hob1 hf
          obtain ⟨g2, g3⟩ := ihn fr1 A1 ob1 h e2
          exact ⟨g2, fun w0 F hF hrd m Q ρ a w hR hQ => e3 w0 hF hrd m _ ρ a w hR fun ρ' a' w' hl hR' => g3 w0 hF hrd m Q ρ' a' w' hR' fun ρ'' a'' w'' hl' hR'' => hQ ρ'' a'' w'' (Names.leB_trans hl hl') hR''⟩
        · rename_i hne
          obtain ⟨e2, e3⟩ := ih fr A ob ex fr' A' ob' h hob hf
          have hn : ex ≠ .normal := fun e => by subst e; exact hne _ _ _ h
          exact ⟨e2, fun w0 F hF hrd m Q ρ a w hR hQ => e3 w0 hF hrd m _ ρ a w hR fun ρ' a' w' hl hR' => then_other hn _ _ _ _ (hQ ρ' a' w' hl hR')⟩
  | rangeFunc g ps asg body =>
    intro fr A ob ex fr' A' ob' h hob hf
    simp only [codeA] at h
    split at h
    · cases h
    · exact rangeA_sound hinl h hob hf
  | exit id =>
    intro fr A ob ex fr' A' ob' h hob hf
    simp only [codeA, Option.some.injEq, Prod.mk.injEq] at h
    obtain ⟨rfl, rfl, rfl, rfl⟩ := h
    exact ⟨hf, fun w0 F hF hrd n Q ρ a w hR hQ => wpIn_exit (hQ ρ a w (Names.leB_refl _ ρ) hR)⟩
  | ret =>
    intro fr A ob ex fr' A' ob' h hob hf
    simp only [codeA, Option.some.injEq, Prod.mk.injEq] at h
    obtain ⟨rfl, rfl, rfl, rfl⟩ := h
    exact ⟨hf, fun w0 F hF hrd n Q ρ a w hR hQ => wpIn_ret (hQ ρ a w (Names.leB_refl _ ρ) hR)⟩
  | _ => intro fr A ob ex fr' A' ob' h hob hf; simp [codeA] at h
end
end Go.Ev
