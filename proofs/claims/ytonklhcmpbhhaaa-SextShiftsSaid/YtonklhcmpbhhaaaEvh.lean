/- The evaluator: code, functions, contracts. -/
import Derived.Test.YtonklhcmpbhhaaaEvg
import Derived.Shelf.Abstract
set_option linter.unusedSimpArgs false
set_option linter.unusedVariables false
namespace Go.Ev
open Go.RowKit

inductive Ex where
  | normal
  | exit (id : Nat)
  | ret

def Ex.to : Ex → Exit
  | .normal => .normal
  | .exit id => .exit id
  | .ret => .ret

abbrev Rs := Option (Ex × Nat × AA × Prop)

def iterA (body : Nat → AA → Prop → Rs) : Nat → Nat → AA → Prop → Rs
  | 0, _, _, _ => none
  | n + 1, fr, A, ob =>
    match body fr A ob with
    | some (.normal, fr', A', ob') => iterA body n fr' A' ob'
    | r => r

def codeA (P : Program) (env : List Entry) (inl : Inl) (os : Nat → Ora) : Code → Nat → AA → Prop → Rs
  | .skip, fr, A, ob => some (.normal, fr, A, ob)
  | .region _ ops draw, fr, A, ob =>
    match regionA P env inl os ops draw fr A ob with
    | some (fr', A', ob') => some (.normal, fr', A', ob')
    | none => none
  | .seq a b, fr, A, ob =>
    match codeA P env inl os a fr A ob with
    | some (.normal, fr1, A1, ob1) => codeA P env inl os b fr1 A1 ob1
    | r => r
  | .cond c a b, fr, A, ob =>
    match evA A.t c with
    | .v (.bool true) => codeA P env inl os a fr A ob
    | .v (.bool false) => codeA P env inl os b fr A ob
    | _ => none
  | .block id body, fr, A, ob =>
    match codeA P env inl os body fr A ob with
    | some (.exit id', fr1, A1, ob1) => some (if Nat.beq id' id then .normal else .exit id', fr1, A1, ob1)
    | r => r
  | .loop body, fr, A, ob => iterA (codeA P env inl os body) 64 fr A ob
  | .exit id, fr, A, ob => some (.exit id, fr, A, ob)
  | .ret, fr, A, ob => some (.ret, fr, A, ob)
  | _, _, _, _ => none

section
variable {P : Program} {env : List Entry} {inl : Inl} {os : Nat → Ora} {w0 : World}

/-- What is said of a code's run. -/
def Sound (P : Program) (w0 : World) (c : Code) (A : AA) (ex : Ex) (A' : AA) : Prop :=
  ∀ (Q : Exit → Act → World → Prop) ρ a w, Rel w0 ρ A.t A.h a w → (∀ ρ' a' w', ρ.le ρ' → Rel w0 ρ' A'.t A'.h a' w' → Q ex.to a' w') → c.wp P Q a w

theorem then_other {ex : Ex} (h : ex ≠ .normal) (next : Act → World → Prop) (Q : Exit → Act → World → Prop) (a : Act) (w : World) (hq : Q ex.to a w) : Exit.then next Q ex.to a w := by
  cases ex with
  | normal => exact absurd rfl h
  | exit id => exact hq
  | ret => exact hq

/-- Conditions only grow. -/
theorem codeA_mono (hinl : InlOK P inl) : ∀ (c : Code) (fr : Nat) (A : AA) (ob : Prop) (ex : Ex) (fr' : Nat) (A' : AA) (ob' : Prop), codeA P env inl os c fr A ob = some (ex, fr', A', ob') → ob' → ob := by
  intro c
  induction c with
  | skip => intro fr A ob ex fr' A' ob' h hob; simp only [codeA, Option.some.injEq, Prod.mk.injEq] at h; obtain ⟨_, _, _, rfl⟩ := h; exact hob
  | region id ops draw =>
    intro fr A ob ex fr' A' ob' h hob
    simp only [codeA] at h
    split at h
    · rename_i hr
      simp only [Option.some.injEq, Prod.mk.injEq] at h
      obtain ⟨_, _, _, rfl⟩ := h
      exact regionA_mono hinl hr hob
    · cases h
  | seq x y ihx ihy =>
    intro fr A ob ex fr' A' ob' h hob
    simp only [codeA] at h
    split at h
    · rename_i hx; exact ihx _ _ _ _ _ _ _ hx (ihy _ _ _ _ _ _ _ h hob)
    · exact ihx _ _ _ _ _ _ _ h hob
  | cond c x y ihx ihy =>
    intro fr A ob ex fr' A' ob' h hob
    simp only [codeA] at h
    split at h
    · exact ihx _ _ _ _ _ _ _ h hob
    · exact ihy _ _ _ _ _ _ _ h hob
    · cases h
  | block id body ih =>
    intro fr A ob ex fr' A' ob' h hob
    simp only [codeA] at h
    split at h
    · rename_i hb
      simp only [Option.some.injEq, Prod.mk.injEq] at h
      obtain ⟨_, _, _, rfl⟩ := h
      exact ih _ _ _ _ _ _ _ hb hob
    · exact ih _ _ _ _ _ _ _ h hob
  | loop body ih =>
    intro fr A ob ex fr' A' ob' h hob
    simp only [codeA] at h
    generalize 64 = n at h
    induction n generalizing fr A ob with
    | zero => simp [iterA] at h
    | succ n ihn =>
      unfold iterA at h
      split at h
      · rename_i hb; exact ih _ _ _ _ _ _ _ hb (ihn _ _ _ h)
      · exact ih _ _ _ _ _ _ _ h hob
  | exit id => intro fr A ob ex fr' A' ob' h hob; simp only [codeA, Option.some.injEq, Prod.mk.injEq] at h; obtain ⟨_, _, _, rfl⟩ := h; exact hob
  | ret => intro fr A ob ex fr' A' ob' h hob; simp only [codeA, Option.some.injEq, Prod.mk.injEq] at h; obtain ⟨_, _, _, rfl⟩ := h; exact hob
  | _ => intro fr A ob ex fr' A' ob' h hob; simp [codeA] at h

theorem codeA_sound (henv : EnvOK P env) (hinl : InlOK P inl) : ∀ (c : Code) (fr : Nat) (A : AA) (ob : Prop) (ex : Ex) (fr' : Nat) (A' : AA) (ob' : Prop),
    codeA P env inl os c fr A ob = some (ex, fr', A', ob') → ob' → Fresh A fr → Fresh A' fr' ∧ Sound P w0 c A ex A' := by
  intro c
  induction c with
  | skip =>
    intro fr A ob ex fr' A' ob' h hob hf
    simp only [codeA, Option.some.injEq, Prod.mk.injEq] at h
    obtain ⟨rfl, rfl, rfl, rfl⟩ := h
    exact ⟨hf, fun Q ρ a w hR hQ => wp_skip (hQ ρ a w ρ.le_refl hR)⟩
  | region id ops draw =>
    intro fr A ob ex fr' A' ob' h hob hf
    simp only [codeA] at h
    split at h
    · rename_i fr1 A1 ob1 hr
      simp only [Option.some.injEq, Prod.mk.injEq] at h
      obtain ⟨rfl, rfl, rfl, rfl⟩ := h
      obtain ⟨e2, e3⟩ := regionA_sound (w0 := w0) henv hinl hr hob hf
      exact ⟨e2, fun Q ρ a w hR hQ => e3 id Q ρ a w hR hQ⟩
    · cases h
  | seq x y ihx ihy =>
    intro fr A ob ex fr' A' ob' h hob hf
    simp only [codeA] at h
    split at h
    · rename_i fr1 A1 ob1 hx
      have hob1 := codeA_mono hinl y fr1 A1 ob1 ex fr' A' ob' h hob
      obtain ⟨e2, e3⟩ := ihx fr A ob .normal fr1 A1 ob1 hx hob1 hf
      obtain ⟨g2, g3⟩ := ihy fr1 A1 ob1 ex fr' A' ob' h hob e2
      exact ⟨g2, fun Q ρ a w hR hQ => wp_seq (e3 _ ρ a w hR fun ρ' a' w' hl hR' => g3 Q ρ' a' w' hR' fun ρ'' a'' w'' hl' hR'' => hQ ρ'' a'' w'' (Names.le_trans hl hl') hR'')⟩
    · rename_i hne
      obtain ⟨e2, e3⟩ := ihx fr A ob ex fr' A' ob' h hob hf
      have hn : ex ≠ .normal := fun e => by subst e; exact hne _ _ _ h
      exact ⟨e2, fun Q ρ a w hR hQ => wp_seq (e3 _ ρ a w hR fun ρ' a' w' hl hR' => then_other hn _ _ _ _ (hQ ρ' a' w' hl hR'))⟩
  | cond c x y ihx ihy =>
    intro fr A ob ex fr' A' ob' h hob hf
    simp only [codeA] at h
    split at h
    · rename_i hc
      obtain ⟨e2, e3⟩ := ihx fr A ob ex fr' A' ob' h hob hf
      refine ⟨e2, fun Q ρ a w hR hQ => ?_⟩
      have := rep_evA hR.slots c
      rw [hc] at this
      exact wp_cond_true this (e3 Q ρ a w hR hQ)
    · rename_i hc
      obtain ⟨e2, e3⟩ := ihy fr A ob ex fr' A' ob' h hob hf
      refine ⟨e2, fun Q ρ a w hR hQ => ?_⟩
      have := rep_evA hR.slots c
      rw [hc] at this
      exact wp_cond_false this (e3 Q ρ a w hR hQ)
    · cases h
  | block id body ih =>
    intro fr A ob ex fr' A' ob' h hob hf
    simp only [codeA] at h
    split at h
    · rename_i id' fr1 A1 ob1 hb
      simp only [Option.some.injEq, Prod.mk.injEq] at h
      obtain ⟨hex, rfl, rfl, rfl⟩ := h
      obtain ⟨e2, e3⟩ := ih fr A ob (.exit id') fr1 A1 ob1 hb hob hf
      refine ⟨e2, fun Q ρ a w hR hQ => wp_block (e3 _ ρ a w hR fun ρ' a' w' hl hR' => ?_)⟩
      have hq := hQ ρ' a' w' hl hR'
      subst hex
      simp only [Ex.to, Exit.inBlock]
      by_cases hid : id' = id
      · subst hid
        simp only [Nat.beq_refl, if_true, Ex.to] at hq ⊢
        exact hq
      · have : Nat.beq id' id = false := by
          cases hb : Nat.beq id' id with
          | false => rfl
          | true => exact absurd (Nat.eq_of_beq_eq_true hb) hid
        simp only [this, Bool.false_eq_true, if_false, Ex.to, hid] at hq ⊢
        exact hq
    · rename_i hne
      obtain ⟨e2, e3⟩ := ih fr A ob ex fr' A' ob' h hob hf
      refine ⟨e2, fun Q ρ a w hR hQ => wp_block (e3 _ ρ a w hR fun ρ' a' w' hl hR' => ?_)⟩
      have hq := hQ ρ' a' w' hl hR'
      cases ex with
      | normal => exact hq
      | ret => exact hq
      | exit id' => exact absurd h (hne _ _ _ _)
  | loop body ih =>
    intro fr A ob ex fr' A' ob' h hob hf
    simp only [codeA] at h
    suffices hs : ∀ n fr A ob, iterA (codeA P env inl os body) n fr A ob = some (ex, fr', A', ob') → Fresh A fr →
        (Fresh A' fr' ∧ ∀ (Q : Exit → Act → World → Prop) ρ a w, Rel w0 ρ A.t A.h a w → (∀ ρ' a' w', ρ.le ρ' → Rel w0 ρ' A'.t A'.h a' w' → Q ex.to a' w') → Code.rounds P body Q n a w) by
      obtain ⟨e2, e3⟩ := hs 64 fr A ob h hf
      exact ⟨e2, fun Q ρ a w hR hQ => wp_loop_rounds 64 (e3 Q ρ a w hR hQ)⟩
    intro n
    induction n with
    | zero => intro fr A ob h; simp [iterA] at h
    | succ n ihn =>
      intro fr A ob h hf
      unfold iterA at h
      split at h
      · rename_i fr1 A1 ob1 hb
        have hob1 : ob1 := by
          have : ∀ n fr A (ob : Prop), iterA (codeA P env inl os body) n fr A ob = some (ex, fr', A', ob') → ob := by
            intro n
            induction n with
            | zero => intro fr A ob h; simp [iterA] at h
            | succ n ihn =>
              intro fr A ob h
              unfold iterA at h
              split at h
              · rename_i hb; exact codeA_mono hinl _ _ _ _ _ _ _ _ hb (ihn _ _ _ h)
              · exact codeA_mono hinl _ _ _ _ _ _ _ _ h hob
          exact this n fr1 A1 ob1 h
        obtain ⟨e2, e3⟩ := ih fr A ob .normal fr1 A1 ob1 hb hob1 hf
        obtain ⟨g2, g3⟩ := ihn fr1 A1 ob1 h e2
        exact ⟨g2, fun Q ρ a w hR hQ => e3 _ ρ a w hR fun ρ' a' w' hl hR' => g3 Q ρ' a' w' hR' fun ρ'' a'' w'' hl' hR'' => hQ ρ'' a'' w'' (Names.le_trans hl hl') hR''⟩
      · rename_i hne
        obtain ⟨e2, e3⟩ := ih fr A ob ex fr' A' ob' h hob hf
        have hn : ex ≠ .normal := fun e => by subst e; exact hne _ _ _ h
        exact ⟨e2, fun Q ρ a w hR hQ => e3 _ ρ a w hR fun ρ' a' w' hl hR' => then_other hn _ _ _ _ (hQ ρ' a' w' hl hR')⟩
  | exit id =>
    intro fr A ob ex fr' A' ob' h hob hf
    simp only [codeA, Option.some.injEq, Prod.mk.injEq] at h
    obtain ⟨rfl, rfl, rfl, rfl⟩ := h
    exact ⟨hf, fun Q ρ a w hR hQ => wp_exit (hQ ρ a w ρ.le_refl hR)⟩
  | ret =>
    intro fr A ob ex fr' A' ob' h hob hf
    simp only [codeA, Option.some.injEq, Prod.mk.injEq] at h
    obtain ⟨rfl, rfl, rfl, rfl⟩ := h
    exact ⟨hf, fun Q ρ a w hR hQ => wp_ret (hQ ρ a w ρ.le_refl hR)⟩
  | _ => intro fr A ob ex fr' A' ob' h hob hf; simp [codeA] at h
end
end Go.Ev
