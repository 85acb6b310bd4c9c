/- Pruned: Gv. -/
import Derived.Test.YtobgpmclgacbmaaQGa
/- A region that draws, in all orders, by the sets of what is done: each set has a told state, each step leads from one to the next. Nothing here names a program. -/
set_option linter.unusedSimpArgs false
set_option linter.unusedVariables false
namespace Go.Ev
open Go.RowKit
/-- The set with this number, of n. -/
def doneA (n m : Nat) : Array Bool := ((List.range n).map fun i => Nat.testBit m i).toArray
/-- A step from a set's state to the next one's. -/
def edgeD (P : Program) (X : Rules P) (env : List Entry) (inl : Inl) (os : Nat → Ora) (ops : Array Oper) (fr fb : Nat) (S : Nat → LState) (kk : Nat → Nat → Nat) (tau : Nat → Nat → List (Nat × Nat)) (m i m' : Nat) : Option Prop :=
  match ops[i]? with
  | none => none
  | some o =>
    match allLt (kk m i) (S m).hp, stepS P X env inl (fun _ => os (fr + i)) ops (kk m i) o (S m).aa True with
    | true, some (_, A1, ob1) =>
      (match tau m i with
      | [] => (match fitsB fb A1 (S m') [] && nmL (S m') with
        | true => some (ob1 ∧ restr A1 (keysS (S m').sl) (keysH (S m').hp) [] = some (S m'))
        | false => none)
      | t => (match fitsB fb A1 (S m') t with
        | true => some (ob1 ∧ fitsP A1 (S m') t)
        | false => none))
    | _, _ => none
def nodeD (P : Program) (X : Rules P) (env : List Entry) (inl : Inl) (os : Nat → Ora) (ops : Array Oper) (fr fb : Nat) (S : Nat → LState) (kk : Nat → Nat → Nat) (tau : Nat → Nat → List (Nat × Nat)) (Ms : List (Nat × Nat)) (full : Nat) : Nat × Nat → Option Prop
  | (0, m) => match Nat.beq m full && (Region.ready .any ops (doneA ops.size m)).isEmpty with | true => some True | false => none
  | (f + 1, m) => match Region.ready .any ops (doneA ops.size m) with
    | [] => none
    | i :: is => goL (fun i => match Ms.contains (f, m + 2 ^ i) && decide ((doneA ops.size m).setIfInBounds i true = doneA ops.size (m + 2 ^ i)) with
      | true => edgeD P X env inl os ops fr fb S kk tau m i (m + 2 ^ i)
      | false => none) (i :: is)
def nodesD (step : Nat × Nat → Option Prop) : List (Nat × Nat) → Option Prop
  | [] => some True
  | x :: l => match step x, nodesD step l with | some p, some q => some (p ∧ q) | _, _ => none
def regionD (P : Program) (X : Rules P) (env : List Entry) (inl : Inl) (os : Nat → Ora) (fb : Nat) (c : Code) (k : Nat) (S : Nat → LState) (kk : Nat → Nat → Nat) (tau : Nat → Nat → List (Nat × Nat)) (Ms : List (Nat × Nat)) (full : Nat) : Option Prop :=
  match c with
  | .region _ ops true => (match P.follows .mixedOrders && Ms.contains (ops.size, 0) && decide (doneA ops.size 0 = Array.replicate ops.size false) with
    | true => nodesD (nodeD P X env inl os ops k fb S kk tau Ms full) Ms
    | false => none)
  | _ => none
section
variable {P : Program} {X : Rules P} {env : List Entry} {inl : Inl} {os : Nat → Ora} {ops : Array Oper} {fr fb : Nat} {S : Nat → LState} {kk : Nat → Nat → Nat} {tau : Nat → Nat → List (Nat × Nat)} {Ms : List (Nat × Nat)} {full : Nat}
theorem nodesD_mem {step : Nat × Nat → Option Prop} : ∀ {l : List (Nat × Nat)} {p : Prop}, nodesD step l = some p → p → ∀ x, x ∈ l → ∃ q, step x = some q ∧ q
  | [], p, h, hp, i, hi => by cases hi
  | j :: l, p, h, hp, i, hi => by
    simp only [nodesD] at h
    split at h
    · rename_i q1 q2 h1 h2
      simp only [Option.some.injEq] at h; subst h
      rcases List.mem_cons.1 hi with rfl | hi
      · exact ⟨q1, h1, hp.1⟩
      · exact nodesD_mem h2 hp.2 i hi
    · cases h
theorem dag_sound (henv : EnvOK P env) (hinl : InlOK P inl) {p : Prop} (h : nodesD (nodeD P X env inl os ops fr fb S kk tau Ms full) Ms = some p) (hp : p) : ∀ (f m : Nat), (f, m) ∈ Ms →
    ∀ (w0 : World) {F : Fence} (hF : WideF F) (n : Nat) (Q : Exit → Act → World → Prop) ρ a w, Rel w0 ρ (S m).aa a w → (∀ ρ' a' w', ρ.leB fb ρ' → Rel w0 ρ' (S full).aa a' w' → Q .normal a' w') → wpAnyIn F n P .any ops Q f (doneA ops.size m) a w
  | 0, m, hm => by
    intro w0 F hF n Q ρ a w hR hQ
    obtain ⟨q, h1, h2⟩ := nodesD_mem h hp _ hm
    simp only [nodeD] at h1
    split at h1
    · rename_i hb
      simp only [Bool.and_eq_true] at hb
      have e := Nat.eq_of_beq_eq_true hb.1
      subst e
      exact ⟨List.isEmpty_iff.1 hb.2, hQ ρ a w (ρ.le_refl.leB fb) hR⟩
    · cases h1
  | f + 1, m, hm => by
    intro w0 F hF n Q ρ a w hR hQ
    obtain ⟨q, h1, h2⟩ := nodesD_mem h hp _ hm
    simp only [nodeD] at h1
    split at h1
    · cases h1
    · rename_i i0 is hr
      refine ⟨fun h0 => (by rw [hr] at h0; cases h0), fun i hi => ?_⟩
      rw [hr] at hi
      obtain ⟨q1, g1, g2⟩ := goL_mem h1 h2 i hi
      split at g1
      · rename_i hc
        simp only [Bool.and_eq_true, decide_eq_true_eq] at hc
        have hmem : (f, m + 2 ^ i) ∈ Ms := by simpa using hc.1
        unfold edgeD at g1
        split at g1
        · cases g1
        · rename_i o ho
          split at g1
          · rename_i k1 A1 ob1 hlt hs
            have key : ob1 ∧ (∀ ρ' a' w', Rel w0 ρ' A1 a' w' → ∃ ρ'', ρ'.leB fb ρ'' ∧ Rel w0 ρ'' (S (m + 2 ^ i)).aa a' w') := by
              split at g1
              · split at g1
                · rename_i hb
                  simp only [Option.some.injEq] at g1; subst g1
                  simp only [Bool.and_eq_true] at hb
                  exact ⟨g2.1, fun ρ' a' w' hR' => fits_rel hb.1 (fitsP_restr g2.2 hb.2) hR'⟩
                · cases g1
              · split at g1
                · rename_i hb
                  simp only [Option.some.injEq] at g1; subst g1
                  exact ⟨g2.1, fun ρ' a' w' hR' => fits_rel hb g2.2 hR'⟩
                · cases g1
            obtain ⟨f1, s1⟩ := stepS_sound (w0 := w0) henv hinl hs key.1 (fun j hj => allLt_fresh hlt j hj)
            unfold wpOpIn
            simp only [ho]
            refine s1 hF n Q _ ρ a w hR fun ρ' a' w' hl hR' => ?_
            obtain ⟨ρ'', e1, e2⟩ := key.2 ρ' a' w' hR'
            rw [hc.2]
            exact dag_sound henv hinl h hp f (m + 2 ^ i) hmem w0 hF n Q ρ'' a' w' e2 fun ρ3 a3 w3 hl3 hR3 => hQ ρ3 a3 w3 (Names.leB_trans (hl.leB fb) (Names.leB_trans e1 hl3)) hR3
          · cases g1
      · cases g1
theorem regionD_sound (henv : EnvOK P env) (hinl : InlOK P inl) {rd : Bool} {c : Code} {k : Nat} {p : Prop} (h : regionD P X env inl os fb c k S kk tau Ms full = some p) (hp : p) : Sound P fb rd c (S 0).aa .normal (S full).aa := by
  unfold regionD at h
  split at h
  · rename_i id ops
    split at h
    · rename_i hb
      simp only [Bool.and_eq_true, decide_eq_true_eq] at hb
      intro w0 F hF hrd n Q ρ a w hR hQ
      have hm : (ops.size, 0) ∈ Ms := by simpa using hb.1.2
      have := dag_sound henv hinl h hp ops.size 0 hm w0 hF n Q ρ a _ hR.drew hQ
      rw [hb.2] at this
      exact wpIn_region_any hb.1.1 this
    · cases h
  · cases h
end
end Go.Ev
