/- Pruned: If. -/
import Derived.Test.YtoigbjimhcgolaaQGa
import Derived.Test.YtoigbjimhcgolaaQIe
import Derived.Test.YtoigbjimhcgolaaQIh
import Derived.Test.YtoigbjimhcgolaaQIb
/- A region that draws, in all orders, by the sets of what is done: each set has a told state, each step leads from one to the next. Nothing here names a program. -/
set_option linter.unusedSimpArgs false
set_option linter.unusedVariables false
namespace Go.Ev
open Go.RowKit
/-- The set with this number, of n. -/
def doneA (n m : Nat) : Array Bool := ((List.range n).map fun i => Nat.testBit m i).toArray
/-- A step from a set's state to the next one's. -/
def edgeD (P : Program) (X : Rules P) (env : List Entry) (inl : Inl) (os : Nat → Ora) (ops : Array Oper) (fr fb : Nat) (S : Nat → LState) (kk : Nat → Nat → Nat) (tau : Nat → Nat → List (Nat × Nat)) (m i m' : Nat) : Option Prop :=
  match ops[i]? with
  | none => none
  | some o =>
    match allLt (kk m i) (S m).hp, stepS P X env inl (fun _ => os (fr + i)) ops (kk m i) o (S m).aa True with
    | true, some (_, A1, ob1) =>
      (match tau m i with
      | [] => (match fitsB fb A1 (S m') [] && nmL (S m') with
        | true => some (ob1 ∧ restr A1 (keysS (S m').sl) (keysH (S m').hp) [] = some (S m'))
        | false => none)
      | t => (match fitsB fb A1 (S m') t with
        | true => some (ob1 ∧ fitsP A1 (S m') t)
        | false => none))
    | _, _ => none
def nodeD (P : Program) (X : Rules P) (env : List Entry) (inl : Inl) (os : Nat → Ora) (ops : Array Oper) (fr fb : Nat) (S : Nat → LState) (kk : Nat → Nat → Nat) (tau : Nat → Nat → List (Nat × Nat)) (Ms : List (Nat × Nat)) (full : Nat) : Nat × Nat → Option Prop
  | (0, m) => match Nat.beq m full && (Region.ready .any ops (doneA ops.size m)).isEmpty with | true => some True | false => none
  | (f + 1, m) => match Region.ready .any ops (doneA ops.size m) with
    | [] => none
    | i :: is => goL (fun i => match Ms.contains (f, m + 2 ^ i) && decide ((doneA ops.size m).setIfInBounds i true = doneA ops.size (m + 2 ^ i)) with
      | true => edgeD P X env inl os ops fr fb S kk tau m i (m + 2 ^ i)
      | false => none) (i :: is)
def nodesD (step : Nat × Nat → Option Prop) : List (Nat × Nat) → Option Prop
  | [] => some True
  | x :: l => match step x, nodesD step l with | some p, some q => some (p ∧ q) | _, _ => none
def regionD (P : Program) (X : Rules P) (env : List Entry) (inl : Inl) (os : Nat → Ora) (fb : Nat) (c : Code) (k : Nat) (S : Nat → LState) (kk : Nat → Nat → Nat) (tau : Nat → Nat → List (Nat × Nat)) (Ms : List (Nat × Nat)) (full : Nat) : Option Prop :=
  match c with
  | .region _ ops true => (match P.follows .mixedOrders && Ms.contains (ops.size, 0) && decide (doneA ops.size 0 = Array.replicate ops.size false) with
    | true => nodesD (nodeD P X env inl os ops k fb S kk tau Ms full) Ms
    | false => none)
  | _ => none
section
variable {P : Program} {X : Rules P} {env : List Entry} {inl : Inl} {os : Nat → Ora} {ops : Array Oper} {fr fb : Nat} {S : Nat → LState} {kk : Nat → Nat → Nat} {tau : Nat → Nat → List (Nat × Nat)} {Ms : List (Nat × Nat)} {full : Nat}
theorem nodesD_mem {step : Nat × Nat → Option Prop} : ∀ {l : List (Nat × Nat)} {p : Prop}, nodesD step l = some p → p → ∀ x, x ∈ l → ∃ q, step x = some q ∧ q
  | [], p, h, hp, i, hi => by cases hi
  | j :: l, p, h, hp, i, hi => by
    simp only [nodesD] at h
    split at h
    · rename_i q1 q2 h1 h2
      simp only [Option.some.injEq] at h; subst h
      rcases List.mem_cons.1 hi with rfl | hi
      · exact ⟨q1, h1, hp.1⟩
      · exact nodesD_mem h2 hp.2 i hi
    · cases h
theorem dag_sound (henv : EnvOK P env) (hinl : InlOK P inl) {p : Prop} (h : nodesD (nodeD P X env inl os ops fr fb S kk tau Ms full) Ms = some p) (hp : p) : ∀ (f m : Nat), (f, m) ∈ Ms →
    ∀ (w0 : World) {F : Fence} (hF : WideF F) (n : Nat) (Q : Exit → Act → World → Prop) ρ a w, Rel w0 ρ (S m).aa a w → (∀ ρ' a' w', ρ.leB fb ρ' → Rel w0 ρ' (S full).aa a' w' → Q .normal a' w') → wpAnyIn F n P .any ops Q f (doneA ops.size m) a w
  | 0, m, hm => by
    intro w0 F hF n Q ρ a w hR hQ
    obtain ⟨q, h1, h2⟩ := nodesD_mem h hp _ hm
    simp only [nodeD] at h1
    split at h1
    · rename_i hb
      simp only [Bool.and_eq_true] at hb
      have e := Nat.eq_of_beq_eq_true hb.1
      subst e
      exact ⟨List.isEmpty_iff.1 hb.2, hQ ρ a w (ρ.le_refl.leB fb) hR⟩
    · cases h1
  | f + 1, m, hm => by
    intro w0 F hF n Q ρ a w hR hQ
    obtain ⟨q, h1, h2⟩ := nodesD_mem h hp _ hm
    simp only [nodeD] at h1
    split at h1
    · cases h1
    · rename_i i0 is hr
      refine ⟨fun h0 => (by rw [hr] at h0; cases h0), fun i hi => ?_⟩
      rw [hr] at hi
      obtain ⟨q1, g1, g2⟩ := goL_mem h1 h2 i hi
      split at g1
      · rename_i hc
        simp only [Bool.and_eq_true, decide_eq_true_eq] at hc
        have hmem : (f, m + 2 ^ i) ∈ Ms := by simpa using hc.1
        unfold edgeD at g1
        split at g1
        · cases g1
        · rename_i o ho
          split at g1
          · rename_i k1 A1 ob1 hlt hs
            have key : ob1 ∧ (∀ ρ' a' w', Rel w0 ρ' A1 a' w' → ∃ ρ'', ρ'.leB fb ρ'' ∧ Rel w0 ρ'' (S (m + 2 ^ i)).aa a' w') := by
              split at g1
              · split at g1
                · rename_i hb
                  simp only [Option.some.injEq] at g1; subst g1
                  simp only [Bool.and_eq_true] at hb
                  exact ⟨g2.1, fun ρ' a' w' hR' => fits_rel hb.1 (fitsP_restr g2.2 hb.2) hR'⟩
                · cases g1
              · split at g1
                · rename_i hb
                  simp only [Option.some.injEq] at g1; subst g1
                  exact ⟨g2.1, fun ρ' a' w' hR' => fits_rel hb g2.2 hR'⟩
                · cases g1
            obtain ⟨f1, s1⟩ := stepS_sound (w0 := w0) henv hinl hs key.1 (fun j hj => allLt_fresh hlt j hj)
            unfold wpOpIn
            simp only [ho]
            refine s1 hF n Q _ ρ a w hR fun ρ' a' w' hl hR' => ?_
            obtain ⟨ρ'', e1, e2⟩ := key.2 ρ' a' w' hR'
            rw [hc.2]
            exact dag_sound henv hinl h hp f (m + 2 ^ i) hmem w0 hF n Q ρ'' a' w' e2 fun ρ3 a3 w3 hl3 hR3 => hQ ρ3 a3 w3 (Names.leB_trans (hl.leB fb) (Names.leB_trans e1 hl3)) hR3
          · cases g1
      · cases g1
theorem regionD_sound (henv : EnvOK P env) (hinl : InlOK P inl) {rd : Bool} {c : Code} {k : Nat} {p : Prop} (h : regionD P X env inl os fb c k S kk tau Ms full = some p) (hp : p) : Sound P fb rd c (S 0).aa .normal (S full).aa := by
  unfold regionD at h
  split at h
  · rename_i id ops
    split at h
    · rename_i hb
      simp only [Bool.and_eq_true, decide_eq_true_eq] at hb
      intro w0 F hF hrd n Q ρ a w hR hQ
      have hm : (ops.size, 0) ∈ Ms := by simpa using hb.1.2
      have := dag_sound henv hinl h hp ops.size 0 hm w0 hF n Q ρ a _ hR.drew hQ
      rw [hb.2] at this
      exact wpIn_region_any hb.1.1 this
    · cases h
  · cases h
end
end Go.Ev

/- chirographref19.Step: a row's products. -/
set_option linter.unusedSimpArgs false
set_option linter.unusedVariables false
namespace Go.Proofs.Ytoigbjimhcgolaa
open Go.Ev Go.RowKit

/-- A place's factor of the top, of the low product; a row's products. -/
def fcT (M : Nat → List Nat) (lg be ga i w : Nat) : Fin Rr := (ofR ((M w).getD i 0) + ofR ga) + ofR be * numP lg (i, w)
def fcL (F : Nat → Int) (n : Nat) (M : Nat → List Nat) (lg be ga i w : Nat) : Fin Rr := (ofR ((M w).getD i 0) + ofR ga) + ofR be * valP F lg n w i
def tpI (M : Nat → List Nat) (lg be ga i : Nat) : Fin Rr := 1 * fcT M lg be ga i 0 * fcT M lg be ga i 1 * fcT M lg be ga i 2
def lwI (F : Nat → Int) (n : Nat) (M : Nat → List Nat) (lg be ga i : Nat) : Fin Rr := 1 * fcL F n M lg be ga i 0 * fcL F n M lg be ga i 1 * fcL F n M lg be ga i 2
theorem nu_get {ns : List Nat} {i m : Nat} (h : ns[i]? = some m) : ns.getD i 0 = m := by rw [List.getD_eq_getElem?_getD, h]; rfl
end Go.Proofs.Ytoigbjimhcgolaa

/- core.Batch: the inverses of many. -/
set_option linter.unusedSimpArgs false
set_option linter.unusedVariables false
namespace Go.Proofs.Ytoigbjimhcgolaa
open Go.Ev Go.RowKit
def baI (C A : List Value) (n : Nat) (a : Fin Rr) (z : Int) : LState := { n := 72, sl := [(0, .sl 0 0 n n), (5, .sl 5 0 n n), (6, .p 8 0), (16, .sl 0 0 n n), (17, .v (.int .i64 ((n : Nat) : Int))), (18, .v (.int .i64 z))], hp := [(0, .ro [.l C]), (5, .own [.l A] 73), (8, .own [.s a] 73)] }
def baE (C A : List Value) (n : Nat) (a : Fin Rr) : LState := { n := 72, sl := [(0, .sl 0 0 n n), (5, .sl 5 0 n n), (6, .p 8 0)], hp := [(0, .ro [.l C]), (5, .own [.l A] 73), (8, .own [.s a] 73)] }
def bbI (C A B : List Value) (n : Nat) (a : Fin Rr) (z : Int) : LState := { n := 72, sl := [(0, .sl 0 0 n n), (5, .sl 5 0 n n), (6, .p 8 0), (9, .sl 20 0 n n), (10, .v (.int .i64 z))], hp := [(0, .ro [.l C]), (5, .own [.l A] 73), (8, .own [.s a] 73), (20, .own [.l B] 73)] }
def bbE (B : List Value) (n : Nat) : LState := { n := 72, sl := [(9, .sl 20 0 n n)], hp := [(20, .own [.l B] 73)] }
theorem ba_nz (C A A' : List Value) (n : Nat) (hn : n ≤ 1000000) (a x : Fin Rr) (i : Nat) (hi : i < n) (hl : (C.drop (i * 4)).take 4 = flat [.s x]) (hs : stOK A A' i (flat [.s a])) (h : x ≠ 0) : Sound Try.prog 0 false (loopB Try.f37 0) (baI C A n a (i : Int)).aa .normal (baI C A' n (a * x) ((i + 1 : Nat) : Int)).aa := by
  have hh := roundK_sound (P := Try.prog) (X := rulesW _) (env := [eIsZeS, eTimesS]) ⟨eIsZeS_ok, eTimesS_ok, trivial⟩ (n := 0) (os := oL [(13, wT), (15, rO 2 i), (16, { ch := 0, hi := fun _ => 0, ru := 8, cs := fun _ => [.s x] }), (23, rO 2 i), (24, { ch := 0, hi := fun _ => 0, ex := 5, cs := fun _ => [.l A'] }), (27, wO 1)]) (fb := 0) (rd := false) (c := (loopB Try.f37 0)) (k := 13) (I := baI C A n a (i : Int)) (sk := [0, 5, 6, 16, 17, 18]) (hk := [0, 5, 8]) (lk := []) (ex := .normal)
    (L := baI C A' n (a * x) (IntKind.i64.wrap ((i : Int) + 1))) (by kernel_rfl)
    (And.intro (show x ≠ 0 from h)
    (And.intro (st_cond (p := [.s a]) hs rfl)
    (And.intro (show (i : Int) = ((i : Nat) : Int) ∧ i < n from ⟨rfl, hi⟩)
    (And.intro (ld_cond (p := [.s x]) hl rfl)
    (And.intro (show (i : Int) = ((i : Nat) : Int) ∧ i < n from ⟨rfl, hi⟩)
    (And.intro (show decide ((i : Int) < ((n : Nat) : Int)) = true from decide_eq_true (by omega)) trivial))))))
  rw [wrap_i64, show (if ((i : Int) + 1) % 18446744073709551616 < 9223372036854775808 then ((i : Int) + 1) % 18446744073709551616 else ((i : Int) + 1) % 18446744073709551616 - 18446744073709551616) = ((i + 1 : Nat) : Int) by omega] at hh
  exact hh
theorem ba_z (C A A' : List Value) (n : Nat) (hn : n ≤ 1000000) (a x : Fin Rr) (i : Nat) (hi : i < n) (hl : (C.drop (i * 4)).take 4 = flat [.s x]) (hs : stOK A A' i (flat [.s a])) (h : x = 0) : Sound Try.prog 0 false (loopB Try.f37 0) (baI C A n a (i : Int)).aa .normal (baI C A' n a ((i + 1 : Nat) : Int)).aa := by
  have hh := roundK_sound (P := Try.prog) (X := rulesW _) (env := [eIsZeS, eTimesS]) ⟨eIsZeS_ok, eTimesS_ok, trivial⟩ (n := 0) (os := oL [(13, wT), (15, rO 2 i), (16, { ch := 0, hi := fun _ => 0, ru := 8, cs := fun _ => [.s x] }), (23, rO 2 i), (24, { ch := 0, hi := fun _ => 0, ex := 5, cs := fun _ => [.l A'] }), (27, wO 0)]) (fb := 0) (rd := false) (c := (loopB Try.f37 0)) (k := 13) (I := baI C A n a (i : Int)) (sk := [0, 5, 6, 16, 17, 18]) (hk := [0, 5, 8]) (lk := []) (ex := .normal)
    (L := baI C A' n a (IntKind.i64.wrap ((i : Int) + 1))) (by kernel_rfl)
    (And.intro (show x = 0 from h)
    (And.intro (st_cond (p := [.s a]) hs rfl)
    (And.intro (show (i : Int) = ((i : Nat) : Int) ∧ i < n from ⟨rfl, hi⟩)
    (And.intro (ld_cond (p := [.s x]) hl rfl)
    (And.intro (show (i : Int) = ((i : Nat) : Int) ∧ i < n from ⟨rfl, hi⟩)
    (And.intro (show decide ((i : Int) < ((n : Nat) : Int)) = true from decide_eq_true (by omega)) trivial))))))
  rw [wrap_i64, show (if ((i : Int) + 1) % 18446744073709551616 < 9223372036854775808 then ((i : Int) + 1) % 18446744073709551616 else ((i : Int) + 1) % 18446744073709551616 - 18446744073709551616) = ((i + 1 : Nat) : Int) by omega] at hh
  exact hh
theorem ba_end (C A : List Value) (n : Nat) (a : Fin Rr) : Sound Try.prog 0 false (loopB Try.f37 0) (baI C A n a ((n : Nat) : Int)).aa (.exit 0) (baE C A n a).aa := by
  have hh := roundK_sound (P := Try.prog) (X := rulesW _) (env := [eIsZeS, eTimesS]) ⟨eIsZeS_ok, eTimesS_ok, trivial⟩ (n := 0) (os := oL [(13, wF)]) (fb := 0) (rd := false) (c := (loopB Try.f37 0)) (k := 13) (I := baI C A n a ((n : Nat) : Int)) (sk := [0, 5, 6]) (hk := [0, 5, 8]) (lk := []) (ex := (.exit 0))
    (L := baE C A n a) (by kernel_rfl)
    (And.intro (show decide (((n : Nat) : Int) < ((n : Nat) : Int)) = false from decide_eq_false (by omega)) trivial)
  exact hh
theorem bb_nz (C A B B' : List Value) (n : Nat) (hn : n ≤ 1000000) (a x b : Fin Rr) (i : Nat) (hi : i < n) (hl : (C.drop (i * 4)).take 4 = flat [.s x]) (h : x ≠ 0) (hm : (A.drop (i * 4)).take 4 = flat [.s b]) (hs : stOK B B' i (flat [.s (a * b)])) : Sound Try.prog 0 false (loopB Try.f37 1) (bbI C A B n a (i : Int)).aa .normal (bbI C A B' n (a * x) ((i : Int) - 1)).aa := by
  have hh := roundK_sound (P := Try.prog) (X := rulesW _) (env := [eIsZeS, eTimesS]) ⟨eIsZeS_ok, eTimesS_ok, trivial⟩ (n := 0) (os := oL [(27, wT), (30, rO 2 i), (31, { ch := 0, hi := fun _ => 0, ru := 8, cs := fun _ => [.s x] }), (36, wO 1), (44, rO 2 i), (45, { ch := 0, hi := fun _ => 0, ru := 8, cs := fun _ => [.s b] }), (47, rO 2 i), (48, { ch := 0, hi := fun _ => 0, ex := 5, cs := fun _ => [.l B'] })]) (fb := 0) (rd := false) (c := (loopB Try.f37 1)) (k := 26) (I := bbI C A B n a (i : Int)) (sk := [0, 5, 6, 9, 10]) (hk := [0, 5, 8, 20]) (lk := []) (ex := .normal)
    (L := bbI C A B' n (a * x) (IntKind.i64.wrap ((i : Int) - 1))) (by kernel_rfl)
    (And.intro (st_cond (p := [.s (a * b)]) hs rfl)
    (And.intro (show (i : Int) = ((i : Nat) : Int) ∧ i < n from ⟨rfl, hi⟩)
    (And.intro (ld_cond (p := [.s b]) hm rfl)
    (And.intro (show (i : Int) = ((i : Nat) : Int) ∧ i < n from ⟨rfl, hi⟩)
    (And.intro (show x ≠ 0 from h)
    (And.intro (ld_cond (p := [.s x]) hl rfl)
    (And.intro (show (i : Int) = ((i : Nat) : Int) ∧ i < n from ⟨rfl, hi⟩)
    (And.intro (show decide ((i : Int) ≥ 0) = true from decide_eq_true (by omega)) trivial))))))))
  rw [wrap_i64, show (if ((i : Int) - 1) % 18446744073709551616 < 9223372036854775808 then ((i : Int) - 1) % 18446744073709551616 else ((i : Int) - 1) % 18446744073709551616 - 18446744073709551616) = (i : Int) - 1 by split <;> omega] at hh
  exact hh
theorem bb_z (C A B : List Value) (n : Nat) (hn : n ≤ 1000000) (a x b : Fin Rr) (i : Nat) (hi : i < n) (hl : (C.drop (i * 4)).take 4 = flat [.s x]) (h : x = 0) : Sound Try.prog 0 false (loopB Try.f37 1) (bbI C A B n a (i : Int)).aa .normal (bbI C A B n a ((i : Int) - 1)).aa := by
  have hh := roundK_sound (P := Try.prog) (X := rulesW _) (env := [eIsZeS, eTimesS]) ⟨eIsZeS_ok, eTimesS_ok, trivial⟩ (n := 0) (os := oL [(27, wT), (30, rO 2 i), (31, { ch := 0, hi := fun _ => 0, ru := 8, cs := fun _ => [.s x] }), (36, wO 0)]) (fb := 0) (rd := false) (c := (loopB Try.f37 1)) (k := 26) (I := bbI C A B n a (i : Int)) (sk := [0, 5, 6, 9, 10]) (hk := [0, 5, 8, 20]) (lk := []) (ex := .normal)
    (L := bbI C A B n a (IntKind.i64.wrap ((i : Int) - 1))) (by kernel_rfl)
    (And.intro (show x = 0 from h)
    (And.intro (ld_cond (p := [.s x]) hl rfl)
    (And.intro (show (i : Int) = ((i : Nat) : Int) ∧ i < n from ⟨rfl, hi⟩)
    (And.intro (show decide ((i : Int) ≥ 0) = true from decide_eq_true (by omega)) trivial))))
  rw [wrap_i64, show (if ((i : Int) - 1) % 18446744073709551616 < 9223372036854775808 then ((i : Int) - 1) % 18446744073709551616 else ((i : Int) - 1) % 18446744073709551616 - 18446744073709551616) = (i : Int) - 1 by split <;> omega] at hh
  exact hh
theorem bb_end (C A B : List Value) (n : Nat) (a : Fin Rr) : Sound Try.prog 0 false (loopB Try.f37 1) (bbI C A B n a (-1)).aa (.exit 2) (bbE B n).aa := by
  have hh := roundK_sound (P := Try.prog) (X := rulesW _) (env := [eIsZeS, eTimesS]) ⟨eIsZeS_ok, eTimesS_ok, trivial⟩ (n := 0) (os := oL []) (fb := 0) (rd := false) (c := (loopB Try.f37 1)) (k := 26) (I := bbI C A B n a (-1)) (sk := [9]) (hk := [20]) (lk := []) (ex := (.exit 2))
    (L := bbE B n) (by kernel_rfl)
    trivial
  exact hh
/-- The product of what is not 0 ahead of place i. -/
def nzp (f : Nat → Fin Rr) : Nat → Fin Rr
  | 0 => 1
  | i + 1 => if f i = 0 then nzp f i else nzp f i * f i
theorem one_neS : (1 : Fin Rr) ≠ 0 := by decide
theorem nzp_ne (f : Nat → Fin Rr) : ∀ i, nzp f i ≠ 0
  | 0 => one_neS
  | i + 1 => by
    unfold nzp
    split
    · exact nzp_ne f i
    · rename_i h
      intro e
      rcases no_zeroS e with e | e
      · exact nzp_ne f i e
      · exact h e
theorem iv_one {w u v iw jv : Fin Rr} (hw : w = u * v) (h1 : w * iw = 1) (h2 : v * jv = 1) : iw * u = jv := by
  have : iw * u = iw * u * (v * jv) := by rw [h2]; grind
  rw [this]
  have : iw * u * (v * jv) = w * iw * jv := by rw [hw]; grind
  rw [this, h1]; grind
theorem iv_nz (f : Nat → Fin Rr) (i : Nat) (h : f i ≠ 0) : (pwS (nzp f (i + 1)) 52435875175126190479447740508185965837690552500527637822603658699938581184511) * nzp f i = (pwS (f i) 52435875175126190479447740508185965837690552500527637822603658699938581184511) ∧ (pwS (nzp f (i + 1)) 52435875175126190479447740508185965837690552500527637822603658699938581184511) * f i = (pwS (nzp f i) 52435875175126190479447740508185965837690552500527637822603658699938581184511) := by
  have h1 := mul_invS (nzp_ne f (i + 1))
  have h2 := mul_invS h
  have h3 := mul_invS (nzp_ne f i)
  have e : nzp f (i + 1) = nzp f i * f i := by show (if f i = 0 then _ else _) = _; rw [if_neg h]
  generalize (pwS (nzp f (i + 1)) 52435875175126190479447740508185965837690552500527637822603658699938581184511) = iw at *
  generalize (pwS (nzp f i) 52435875175126190479447740508185965837690552500527637822603658699938581184511) = iu at *
  generalize (pwS (f i) 52435875175126190479447740508185965837690552500527637822603658699938581184511) = jv at *
  exact ⟨iv_one e h1 h2, iv_one (e.trans (by grind)) h1 h3⟩
theorem ba_all (C : List Value) (n : Nat) (hn : n ≤ 1000000) (f : Nat → Fin Rr) (hx : ∀ i, i < n → (C.drop (i * 4)).take 4 = flat [.s (f i)]) : Sound Try.prog 0 false (.loop (loopB Try.f37 0)) (baI C (tab sC n (fun _ => 0)) n 1 0).aa (.exit 0) (baE C (tab sC n (nzp f)) n (nzp f n)).aa := by
  have hh := loop_ok (P := Try.prog) (fb := 0) (rd := false) (body := (loopB Try.f37 0)) (ex := .exit 0) (E := baE C (tab sC n (fun j => if j < n then nzp f j else 0)) n (nzp f n)) (m := fun y : { i : Nat // i ≤ n } => n - y.val) (fun y => baI C (tab sC n (fun j => if j < y.val then nzp f j else 0)) n (nzp f y.val) (y.val : Int)) (by simp) (fun y => ?_) ⟨0, by omega⟩
  · rw [tab_congr sC n (fun j => if j < n then nzp f j else 0) (nzp f) (fun j hj => if_pos hj), tab_congr sC n (fun j => if j < ((⟨0, by omega⟩ : { i : Nat // i ≤ n }).val) then nzp f j else 0) (fun _ => 0) (fun j hj => if_neg (Nat.not_lt_zero j))] at hh
    exact hh
  obtain ⟨i, hi⟩ := y
  by_cases e : i < n
  · refine .inl ⟨⟨i + 1, e⟩, by show n - (i + 1) < n - i; omega, ?_⟩
    have hs := tab_set sC sC_len n (fun j => if j < i then nzp f j else 0) (fun j => if j < i + 1 then nzp f j else 0) i e (nzp f i) (if_pos (by omega)) step_ite
    by_cases h : f i = 0
    · have e2 : nzp f (i + 1) = nzp f i := by show (if f i = 0 then _ else _) = _; rw [if_pos h]
      show Sound Try.prog 0 false _ _ _ (baI C _ n (nzp f (i + 1)) _).aa
      rw [e2]
      exact ba_z C _ _ n hn (nzp f i) (f i) i e (hx i e) hs h
    · have e2 : nzp f (i + 1) = nzp f i * f i := by show (if f i = 0 then _ else _) = _; rw [if_neg h]
      show Sound Try.prog 0 false _ _ _ (baI C _ n (nzp f (i + 1)) _).aa
      rw [e2]
      exact ba_nz C _ _ n hn (nzp f i) (f i) i e (hx i e) hs h
  · have e : i = n := by omega
    subst e
    exact .inr (ba_end C _ i _)
theorem step_le {f : Nat → Fin Rr} {i : Nat} (j : Nat) (hj : j ≠ i) : (if i ≤ j then f j else 0) = if i + 1 ≤ j then f j else 0 := by
  by_cases h : i ≤ j
  · rw [if_pos h, if_pos (by omega)]
  · rw [if_neg h, if_neg (by omega)]
theorem bb_all (C : List Value) (n : Nat) (hn : n ≤ 1000000) (f : Nat → Fin Rr) (iv : Nat → Fin Rr) (iw : Nat → Fin Rr) (hiv : ∀ i, f i ≠ 0 → iw (i + 1) * nzp f i = iv i ∧ iw (i + 1) * f i = iw i) (hiz : ∀ i, f i = 0 → iv i = 0 ∧ iw (i + 1) = iw i) (hx : ∀ i, i < n → (C.drop (i * 4)).take 4 = flat [.s (f i)]) : Sound Try.prog 0 false (.loop (loopB Try.f37 1)) (bbI C (tab sC n (nzp f)) (tab sC n (fun _ => 0)) n (iw n) ((n : Int) - 1)).aa (.exit 2) (bbE (tab sC n iv) n).aa := by
  have hh := loop_ok (P := Try.prog) (fb := 0) (rd := false) (body := (loopB Try.f37 1)) (ex := .exit 2) (E := bbE (tab sC n (fun j => if 0 ≤ j then iv j else 0)) n) (m := fun y : { i : Nat // i ≤ n } => y.val) (fun y => bbI C (tab sC n (nzp f)) (tab sC n (fun j => if y.val ≤ j then iv j else 0)) n (iw y.val) ((y.val : Int) - 1)) (by simp) (fun y => ?_) ⟨n, by omega⟩
  · rw [tab_congr sC n (fun j => if 0 ≤ j then iv j else 0) iv (fun j hj => if_pos (Nat.zero_le j)), tab_congr sC n (fun j => if ((⟨n, by omega⟩ : { i : Nat // i ≤ n }).val) ≤ j then iv j else 0) (fun _ => 0) (fun j hj => if_neg (Nat.not_le.2 hj))] at hh
    exact hh
  obtain ⟨i, hi⟩ := y
  match i, hi with
  | 0, hi => exact .inr (bb_end C _ _ n _)
  | i + 1, hi =>
    refine .inl ⟨⟨i, by omega⟩, by show i < i + 1; omega, ?_⟩
    have e : i < n := by omega
    show Sound Try.prog 0 false _ (bbI C _ _ n _ (((i + 1 : Nat) : Int) - 1)).aa _ _
    rw [show ((i + 1 : Nat) : Int) - 1 = (i : Int) by omega]
    have hm : ((tab sC n (nzp f)).drop (i * 4)).take 4 = flat [.s (nzp f i)] := tab_at sC sC_len n (nzp f) i e
    by_cases h : f i = 0
    · obtain ⟨h1, h2⟩ := hiz i h
      have e2 : tab sC n (fun j => if i ≤ j then iv j else 0) = tab sC n (fun j => if i + 1 ≤ j then iv j else 0) := tab_congr sC n _ _ (fun j hj => by
        by_cases hj : j = i
        · subst hj; show (if j ≤ j then iv j else 0) = (if j + 1 ≤ j then iv j else 0); rw [if_pos (Nat.le_refl _), if_neg (by omega), h1]
        · exact step_le j hj)
      show Sound Try.prog 0 false _ (bbI C _ _ n (iw (i + 1)) _).aa _ (bbI C _ (tab sC n (fun j => if i ≤ j then iv j else 0)) n (iw i) _).aa
      rw [e2, h2]
      exact bb_z C _ _ n hn (iw i) (f i) 0 i e (hx i e) h
    · obtain ⟨h1, h2⟩ := hiv i h
      have hs := tab_set sC sC_len n (fun j => if i + 1 ≤ j then iv j else 0) (fun j => if i ≤ j then iv j else 0) i e (iw (i + 1) * nzp f i) (by show (if i ≤ i then iv i else 0) = _; rw [if_pos (Nat.le_refl _), h1]) step_le
      have := bb_nz C _ _ _ n hn (iw (i + 1)) (f i) (nzp f i) i e (hx i e) h hm hs
      rw [h2] at this
      exact this
theorem batch_run (C : List Value) (n : Nat) (hn : n ≤ 1000000) (u a : Fin Rr) (Z A W : List Value) (hz : (n : Int) = ((n : Nat) : Int) ∧ (n : Int) = ((n : Nat) : Int) ∧ 32 * n ≤ 281474976710656 ∧ n ≤ 9223372036854775807 ∧ flat [.l Z] = zerosL [.int .u64 0, .int .u64 0, .int .u64 0, .int .u64 0] (n * 4))
    (h1 : Sound Try.prog 0 false (.loop (loopB Try.f37 0)) (baI C Z n u 0).aa (.exit 0) (baE C A n a).aa) (h2 : Sound Try.prog 0 false (.loop (loopB Try.f37 1)) (bbI C A Z n ((pwS a 52435875175126190479447740508185965837690552500527637822603658699938581184511)) (IntKind.i64.wrap ((n : Int) - 1))).aa (.exit 2) (bbE W n).aa) : GivesN Try.prog 37 [.rd [.l C] n n, .t (.ag [.s u])] (fun k => .sl k 0 n n) (.own [.l W] 73) := by
  exact fnN_gives (P := Try.prog) (X := rulesW _) (env := [eIsZeS, eTimesS, eInvS]) ⟨eIsZeS_ok, eTimesS_ok, eInvS_ok, trivial⟩ Try.func37 (fun vs w => Go.Proofs.enters_of (P := Try.prog) Try.func37 (by kernel_rfl) rfl vs w) 0 (oL [(5, { ch := 0, hi := fun _ => n, ex := 8, cs := fun _ => [.l Z] }), (13, lpO { I := baI C Z n u 0, ex := .exit 0, E := baE C A n a, fr := 14 }), (20, { ch := 0, hi := fun _ => n, ex := 8, cs := fun _ => [.l Z] }), (26, lpO { I := bbI C A Z n ((pwS a 52435875175126190479447740508185965837690552500527637822603658699938581184511)) (IntKind.i64.wrap ((n : Int) - 1)), ex := .exit 2, E := bbE W n, fr := 27 })]) (r0 := .sl 20 0 n n) 20 (by kernel_rfl) rfl
    (And.intro (show some (bbI C A Z n (pwS a 52435875175126190479447740508185965837690552500527637822603658699938581184511) (IntKind.i64.wrap ((n : Int) - 1))) = some (bbI C A Z n (pwS a 52435875175126190479447740508185965837690552500527637822603658699938581184511) (IntKind.i64.wrap ((n : Int) - 1))) from rfl)
    (And.intro (h2)
    (And.intro (hz)
    (And.intro (show some (baI C Z n u 0) = some (baI C Z n u 0) from rfl)
    (And.intro (h1)
    (And.intro (hz) trivial)))))) (fun k => .sl k 0 n n) mv_sl
theorem batch_gives (C : List Value) (n : Nat) (hn : n ≤ 1000000) (u : Fin Rr) (hu : u = 1) (f : Nat → Fin Rr) (hx : ∀ i, i < n → (C.drop (i * 4)).take 4 = flat [.s (f i)]) : GivesN Try.prog 37 [.rd [.l C] n n, .t (.ag [.s u])] (fun k => .sl k 0 n n) (.own [.l (tab sC n (fun i => (pwS (f i) 52435875175126190479447740508185965837690552500527637822603658699938581184511)))] 73) := by
  have h2 := bb_all C n hn f (fun i => (pwS (f i) 52435875175126190479447740508185965837690552500527637822603658699938581184511)) (fun i => (pwS (nzp f i) 52435875175126190479447740508185965837690552500527637822603658699938581184511)) (fun i h => iv_nz f i h) (fun i h => ⟨by show (pwS (f i) 52435875175126190479447740508185965837690552500527637822603658699938581184511) = 0; rw [h]; exact inv_zeroS, by
    show (pwS (nzp f (i + 1)) 52435875175126190479447740508185965837690552500527637822603658699938581184511) = (pwS (nzp f i) 52435875175126190479447740508185965837690552500527637822603658699938581184511)
    have e2 : nzp f (i + 1) = nzp f i := by show (if f i = 0 then _ else _) = _; rw [if_pos h]
    rw [e2]⟩) hx
  have h1 := ba_all C n hn f hx
  subst hu
  refine batch_run C n hn 1 (nzp f n) _ _ _ (mk_cond sC sC_zero n hn) h1 ?_
  rw [wrap_i64, show (if ((n : Int) - 1) % 18446744073709551616 < 9223372036854775808 then ((n : Int) - 1) % 18446744073709551616 else ((n : Int) - 1) % 18446744073709551616 - 18446744073709551616) = (n : Int) - 1 by split <;> omega]
  exact h2
end Go.Proofs.Ytoigbjimhcgolaa

/- sigma.Grand: the rows' products. -/
set_option linter.unusedSimpArgs false
set_option linter.unusedVariables false
namespace Go.Proofs.Ytoigbjimhcgolaa
open Go.Ev Go.RowKit
def goI (n : Nat) (A0 A1 A2 D0 D1 D2 : List Value) (M : Nat → List Nat) (be ga : Nat) (B1 B2 : List Value) (z : Int) : LState := { n := 158, sl := [(7, .p 10 0), (12, .p 21 0), (14, .p 31 0), (15, .v (.int .i64 (((n : Nat) : Int)))), (18, .p 73 0), (19, .p 74 0), (20, .sl 78 0 n n), (21, .sl 80 0 n n), (68, .v (.int .i64 (((n : Nat) : Int)))), (69, .v (.int .i64 (z)))], hp := [(5, .rz [.l (numC 4 (M 0))]), (6, .rz [.l (numC 4 (M 1))]), (7, .rz [.l (numC 4 (M 2))]), (10, .own [.sz 5 (M 0).length, .sz 6 (M 1).length, .sz 7 (M 2).length] 34), (15, .gr [.l A0] 44 2), (16, .gr [.l A1] 44 2), (17, .gr [.l A2] 44 2), (21, .own [.sx 15 n, .sx 16 n, .sx 17 n] 29), (25, .gr [.l D0] 73 4), (26, .gr [.l D1] 73 4), (27, .gr [.l D2] 73 4), (31, .own [.sx 25 n, .sx 26 n, .sx 27 n] 70), (73, .own [.s (ofR be)] 73), (74, .own [.s (ofR ga)] 73), (78, .own [.l B1] 73), (80, .own [.l B2] 73)] }
def goE (n : Nat) (B1 B2 : List Value) : LState := { n := 158, sl := [(15, .v (.int .i64 (((n : Nat) : Int)))), (20, .sl 78 0 n n), (21, .sl 80 0 n n)], hp := [(78, .own [.l B1] 73), (80, .own [.l B2] 73)] }
def goD : LState := { n := 158, sl := [(10, .v (.slice none 0 0)), (11, .v (.int .i64 (71)))], hp := [] }
def giI (n : Nat) (A0 A1 A2 D0 D1 D2 : List Value) (M : Nat → List Nat) (be ga : Nat) (B1 B2 : List Value) (z w : Int) (t l : Fin Rr) : LState := { n := 158, sl := [(7, .p 10 0), (12, .p 21 0), (14, .p 31 0), (15, .v (.int .i64 (((n : Nat) : Int)))), (18, .p 73 0), (19, .p 74 0), (20, .sl 78 0 n n), (21, .sl 80 0 n n), (22, .v (.int .i64 (z))), (23, .p 205 0), (24, .p 206 0), (68, .v (.int .i64 (((n : Nat) : Int)))), (69, .v (.int .i64 (z))), (74, .v (.int .i64 (w)))], hp := [(5, .rz [.l (numC 4 (M 0))]), (6, .rz [.l (numC 4 (M 1))]), (7, .rz [.l (numC 4 (M 2))]), (10, .own [.sz 5 (M 0).length, .sz 6 (M 1).length, .sz 7 (M 2).length] 34), (15, .gr [.l A0] 44 2), (16, .gr [.l A1] 44 2), (17, .gr [.l A2] 44 2), (21, .own [.sx 15 n, .sx 16 n, .sx 17 n] 29), (25, .gr [.l D0] 73 4), (26, .gr [.l D1] 73 4), (27, .gr [.l D2] 73 4), (31, .own [.sx 25 n, .sx 26 n, .sx 27 n] 70), (73, .own [.s (ofR be)] 73), (74, .own [.s (ofR ga)] 73), (78, .own [.l B1] 73), (80, .own [.l B2] 73), (205, .own [.s t] 73), (206, .own [.s l] 73)] }
def giE (n : Nat) (A0 A1 A2 D0 D1 D2 : List Value) (M : Nat → List Nat) (be ga : Nat) (B1 B2 : List Value) (z : Int) (t l : Fin Rr) : LState := { n := 158, sl := [(7, .p 10 0), (12, .p 21 0), (14, .p 31 0), (15, .v (.int .i64 (((n : Nat) : Int)))), (18, .p 73 0), (19, .p 74 0), (20, .sl 78 0 n n), (21, .sl 80 0 n n), (22, .v (.int .i64 (z))), (23, .p 205 0), (24, .p 206 0), (68, .v (.int .i64 (((n : Nat) : Int)))), (69, .v (.int .i64 (z)))], hp := [(5, .rz [.l (numC 4 (M 0))]), (6, .rz [.l (numC 4 (M 1))]), (7, .rz [.l (numC 4 (M 2))]), (10, .own [.sz 5 (M 0).length, .sz 6 (M 1).length, .sz 7 (M 2).length] 34), (15, .gr [.l A0] 44 2), (16, .gr [.l A1] 44 2), (17, .gr [.l A2] 44 2), (21, .own [.sx 15 n, .sx 16 n, .sx 17 n] 29), (25, .gr [.l D0] 73 4), (26, .gr [.l D1] 73 4), (27, .gr [.l D2] 73 4), (31, .own [.sx 25 n, .sx 26 n, .sx 27 n] 70), (73, .own [.s (ofR be)] 73), (74, .own [.s (ofR ga)] 73), (78, .own [.l B1] 73), (80, .own [.l B2] 73), (205, .own [.s t] 73), (206, .own [.s l] 73)] }
theorem gi00 (n : Nat) (A0 A1 A2 D0 D1 D2 : List Value) (M : Nat → List Nat) (be ga : Nat) (B1 B2 : List Value) (hga : ga < 115792089237316195423570985008687907853269984665640564039457584007913129639936) (i : Nat) (hi : i < n) (t l : Fin Rr) (m : Nat) (hx : (M 0)[i]? = some m) (hm : m < 115792089237316195423570985008687907853269984665640564039457584007913129639936) (ro : Nat) (hro : ro < n) (nu bv : Fin Rr) (hp : (A0.drop (i * 2)).take 2 = flat [.c (.int .i64 ((ro : Nat) : Int)), .c (.int .i64 0)]) (hd : (D0.drop (i * 4)).take 4 = flat [.s nu]) (hb : (D0.drop (ro * 4)).take 4 = flat [.s bv]) : Sound Try.prog 0 false (loopB Try.f17 2) (giI n A0 A1 A2 D0 D1 D2 M be ga B1 B2 ((i : Nat) : Int) 0 t l).aa .normal (giI n A0 A1 A2 D0 D1 D2 M be ga B1 B2 ((i : Nat) : Int) 1 (t * ((ofR m + ofR ga) + ofR be * nu)) (l * ((ofR m + ofR ga) + ofR be * bv))).aa := by
  have hh := roundK_sound (P := Try.prog) (X := rulesM _) (env := [eSmS, eInSq, eTimesS, ePlusS, eIsZeS, eOutS]) ⟨eSmS_ok, eInSq_ok, eTimesS_ok, ePlusS_ok, eIsZeS_ok, eOutS_ok, trivial⟩ (n := 0) (os := (oL [(307, rO 14 i), (308, { ch := 0, hi := fun _ => 0, ru := 8, cs := fun _ => [.n 4 m] }), (318, rO 9 i), (319, { ch := 0, hi := fun _ => 0, ru := 8, cs := fun _ => [.c (.int .i64 ((ro : Nat) : Int)), .c (.int .i64 0)] }), (329, rO 9 i), (330, { ch := 0, hi := fun _ => 0, ru := 8, cs := fun _ => [.s nu] }), (344, rO 9 ro), (345, { ch := 0, hi := fun _ => 0, ru := 8, cs := fun _ => [.s bv] })])) (fb := 0) (rd := false) (c := (loopB Try.f17 2)) (k := 300) (I := giI n A0 A1 A2 D0 D1 D2 M be ga B1 B2 ((i : Nat) : Int) 0 t l) (sk := [7, 12, 14, 15, 18, 19, 20, 21, 22, 23, 24, 68, 69, 74]) (hk := [5, 6, 7, 10, 15, 16, 17, 21, 25, 26, 27, 31, 73, 74, 78, 80, 205, 206]) (lk := []) (ex := .normal)
    (L := giI n A0 A1 A2 D0 D1 D2 M be ga B1 B2 ((i : Nat) : Int) 1 (t * ((ofR m + ofR ga) + ofR be * nu)) (l * ((ofR m + ofR ga) + ofR be * bv))) (by kernel_rfl)
    (And.intro (ldO (p := [.s bv]) hb rfl)
    (And.intro (show ((ro : Nat) : Int) = ((ro : Nat) : Int) ∧ ro < n from ⟨rfl, hro⟩)
    (And.intro (ldO (p := [.s nu]) hd rfl)
    (And.intro (show ((i : Nat) : Int) = ((i : Nat) : Int) ∧ i < n from ⟨rfl, hi⟩)
    (And.intro (ldO (p := [.c (.int .i64 ((ro : Nat) : Int)), .c (.int .i64 0)]) hp rfl)
    (And.intro (show ((i : Nat) : Int) = ((i : Nat) : Int) ∧ i < n from ⟨rfl, hi⟩)
    (And.intro (show (m : Nat) < 115792089237316195423570985008687907853269984665640564039457584007913129639936 from hm)
    (And.intro (nu_at (M 0) i m hx)
    (And.intro (show ((i : Nat) : Int) = ((i : Nat) : Int) ∧ i < (M 0).length from ⟨rfl, pl_lt hx⟩) trivial)))))))))
  exact hh
theorem gi01 (n : Nat) (A0 A1 A2 D0 D1 D2 : List Value) (M : Nat → List Nat) (be ga : Nat) (B1 B2 : List Value) (hga : ga < 115792089237316195423570985008687907853269984665640564039457584007913129639936) (i : Nat) (hi : i < n) (t l : Fin Rr) (m : Nat) (hx : (M 0)[i]? = some m) (hm : m < 115792089237316195423570985008687907853269984665640564039457584007913129639936) (ro : Nat) (hro : ro < n) (nu bv : Fin Rr) (hp : (A0.drop (i * 2)).take 2 = flat [.c (.int .i64 ((ro : Nat) : Int)), .c (.int .i64 1)]) (hd : (D0.drop (i * 4)).take 4 = flat [.s nu]) (hb : (D1.drop (ro * 4)).take 4 = flat [.s bv]) : Sound Try.prog 0 false (loopB Try.f17 2) (giI n A0 A1 A2 D0 D1 D2 M be ga B1 B2 ((i : Nat) : Int) 0 t l).aa .normal (giI n A0 A1 A2 D0 D1 D2 M be ga B1 B2 ((i : Nat) : Int) 1 (t * ((ofR m + ofR ga) + ofR be * nu)) (l * ((ofR m + ofR ga) + ofR be * bv))).aa := by
  have hh := roundK_sound (P := Try.prog) (X := rulesM _) (env := [eSmS, eInSq, eTimesS, ePlusS, eIsZeS, eOutS]) ⟨eSmS_ok, eInSq_ok, eTimesS_ok, ePlusS_ok, eIsZeS_ok, eOutS_ok, trivial⟩ (n := 0) (os := (oL [(307, rO 14 i), (308, { ch := 0, hi := fun _ => 0, ru := 8, cs := fun _ => [.n 4 m] }), (318, rO 9 i), (319, { ch := 0, hi := fun _ => 0, ru := 8, cs := fun _ => [.c (.int .i64 ((ro : Nat) : Int)), .c (.int .i64 1)] }), (329, rO 9 i), (330, { ch := 0, hi := fun _ => 0, ru := 8, cs := fun _ => [.s nu] }), (344, rO 9 ro), (345, { ch := 0, hi := fun _ => 0, ru := 8, cs := fun _ => [.s bv] })])) (fb := 0) (rd := false) (c := (loopB Try.f17 2)) (k := 300) (I := giI n A0 A1 A2 D0 D1 D2 M be ga B1 B2 ((i : Nat) : Int) 0 t l) (sk := [7, 12, 14, 15, 18, 19, 20, 21, 22, 23, 24, 68, 69, 74]) (hk := [5, 6, 7, 10, 15, 16, 17, 21, 25, 26, 27, 31, 73, 74, 78, 80, 205, 206]) (lk := []) (ex := .normal)
    (L := giI n A0 A1 A2 D0 D1 D2 M be ga B1 B2 ((i : Nat) : Int) 1 (t * ((ofR m + ofR ga) + ofR be * nu)) (l * ((ofR m + ofR ga) + ofR be * bv))) (by kernel_rfl)
    (And.intro (ldO (p := [.s bv]) hb rfl)
    (And.intro (show ((ro : Nat) : Int) = ((ro : Nat) : Int) ∧ ro < n from ⟨rfl, hro⟩)
    (And.intro (ldO (p := [.s nu]) hd rfl)
    (And.intro (show ((i : Nat) : Int) = ((i : Nat) : Int) ∧ i < n from ⟨rfl, hi⟩)
    (And.intro (ldO (p := [.c (.int .i64 ((ro : Nat) : Int)), .c (.int .i64 1)]) hp rfl)
    (And.intro (show ((i : Nat) : Int) = ((i : Nat) : Int) ∧ i < n from ⟨rfl, hi⟩)
    (And.intro (show (m : Nat) < 115792089237316195423570985008687907853269984665640564039457584007913129639936 from hm)
    (And.intro (nu_at (M 0) i m hx)
    (And.intro (show ((i : Nat) : Int) = ((i : Nat) : Int) ∧ i < (M 0).length from ⟨rfl, pl_lt hx⟩) trivial)))))))))
  exact hh
theorem gi02 (n : Nat) (A0 A1 A2 D0 D1 D2 : List Value) (M : Nat → List Nat) (be ga : Nat) (B1 B2 : List Value) (hga : ga < 115792089237316195423570985008687907853269984665640564039457584007913129639936) (i : Nat) (hi : i < n) (t l : Fin Rr) (m : Nat) (hx : (M 0)[i]? = some m) (hm : m < 115792089237316195423570985008687907853269984665640564039457584007913129639936) (ro : Nat) (hro : ro < n) (nu bv : Fin Rr) (hp : (A0.drop (i * 2)).take 2 = flat [.c (.int .i64 ((ro : Nat) : Int)), .c (.int .i64 2)]) (hd : (D0.drop (i * 4)).take 4 = flat [.s nu]) (hb : (D2.drop (ro * 4)).take 4 = flat [.s bv]) : Sound Try.prog 0 false (loopB Try.f17 2) (giI n A0 A1 A2 D0 D1 D2 M be ga B1 B2 ((i : Nat) : Int) 0 t l).aa .normal (giI n A0 A1 A2 D0 D1 D2 M be ga B1 B2 ((i : Nat) : Int) 1 (t * ((ofR m + ofR ga) + ofR be * nu)) (l * ((ofR m + ofR ga) + ofR be * bv))).aa := by
  have hh := roundK_sound (P := Try.prog) (X := rulesM _) (env := [eSmS, eInSq, eTimesS, ePlusS, eIsZeS, eOutS]) ⟨eSmS_ok, eInSq_ok, eTimesS_ok, ePlusS_ok, eIsZeS_ok, eOutS_ok, trivial⟩ (n := 0) (os := (oL [(307, rO 14 i), (308, { ch := 0, hi := fun _ => 0, ru := 8, cs := fun _ => [.n 4 m] }), (318, rO 9 i), (319, { ch := 0, hi := fun _ => 0, ru := 8, cs := fun _ => [.c (.int .i64 ((ro : Nat) : Int)), .c (.int .i64 2)] }), (329, rO 9 i), (330, { ch := 0, hi := fun _ => 0, ru := 8, cs := fun _ => [.s nu] }), (344, rO 9 ro), (345, { ch := 0, hi := fun _ => 0, ru := 8, cs := fun _ => [.s bv] })])) (fb := 0) (rd := false) (c := (loopB Try.f17 2)) (k := 300) (I := giI n A0 A1 A2 D0 D1 D2 M be ga B1 B2 ((i : Nat) : Int) 0 t l) (sk := [7, 12, 14, 15, 18, 19, 20, 21, 22, 23, 24, 68, 69, 74]) (hk := [5, 6, 7, 10, 15, 16, 17, 21, 25, 26, 27, 31, 73, 74, 78, 80, 205, 206]) (lk := []) (ex := .normal)
    (L := giI n A0 A1 A2 D0 D1 D2 M be ga B1 B2 ((i : Nat) : Int) 1 (t * ((ofR m + ofR ga) + ofR be * nu)) (l * ((ofR m + ofR ga) + ofR be * bv))) (by kernel_rfl)
    (And.intro (ldO (p := [.s bv]) hb rfl)
    (And.intro (show ((ro : Nat) : Int) = ((ro : Nat) : Int) ∧ ro < n from ⟨rfl, hro⟩)
    (And.intro (ldO (p := [.s nu]) hd rfl)
    (And.intro (show ((i : Nat) : Int) = ((i : Nat) : Int) ∧ i < n from ⟨rfl, hi⟩)
    (And.intro (ldO (p := [.c (.int .i64 ((ro : Nat) : Int)), .c (.int .i64 2)]) hp rfl)
    (And.intro (show ((i : Nat) : Int) = ((i : Nat) : Int) ∧ i < n from ⟨rfl, hi⟩)
    (And.intro (show (m : Nat) < 115792089237316195423570985008687907853269984665640564039457584007913129639936 from hm)
    (And.intro (nu_at (M 0) i m hx)
    (And.intro (show ((i : Nat) : Int) = ((i : Nat) : Int) ∧ i < (M 0).length from ⟨rfl, pl_lt hx⟩) trivial)))))))))
  exact hh
theorem gi10 (n : Nat) (A0 A1 A2 D0 D1 D2 : List Value) (M : Nat → List Nat) (be ga : Nat) (B1 B2 : List Value) (hga : ga < 115792089237316195423570985008687907853269984665640564039457584007913129639936) (i : Nat) (hi : i < n) (t l : Fin Rr) (m : Nat) (hx : (M 1)[i]? = some m) (hm : m < 115792089237316195423570985008687907853269984665640564039457584007913129639936) (ro : Nat) (hro : ro < n) (nu bv : Fin Rr) (hp : (A1.drop (i * 2)).take 2 = flat [.c (.int .i64 ((ro : Nat) : Int)), .c (.int .i64 0)]) (hd : (D1.drop (i * 4)).take 4 = flat [.s nu]) (hb : (D0.drop (ro * 4)).take 4 = flat [.s bv]) : Sound Try.prog 0 false (loopB Try.f17 2) (giI n A0 A1 A2 D0 D1 D2 M be ga B1 B2 ((i : Nat) : Int) 1 t l).aa .normal (giI n A0 A1 A2 D0 D1 D2 M be ga B1 B2 ((i : Nat) : Int) 2 (t * ((ofR m + ofR ga) + ofR be * nu)) (l * ((ofR m + ofR ga) + ofR be * bv))).aa := by
  have hh := roundK_sound (P := Try.prog) (X := rulesM _) (env := [eSmS, eInSq, eTimesS, ePlusS, eIsZeS, eOutS]) ⟨eSmS_ok, eInSq_ok, eTimesS_ok, ePlusS_ok, eIsZeS_ok, eOutS_ok, trivial⟩ (n := 0) (os := (oL [(307, rO 14 i), (308, { ch := 0, hi := fun _ => 0, ru := 8, cs := fun _ => [.n 4 m] }), (318, rO 9 i), (319, { ch := 0, hi := fun _ => 0, ru := 8, cs := fun _ => [.c (.int .i64 ((ro : Nat) : Int)), .c (.int .i64 0)] }), (329, rO 9 i), (330, { ch := 0, hi := fun _ => 0, ru := 8, cs := fun _ => [.s nu] }), (344, rO 9 ro), (345, { ch := 0, hi := fun _ => 0, ru := 8, cs := fun _ => [.s bv] })])) (fb := 0) (rd := false) (c := (loopB Try.f17 2)) (k := 300) (I := giI n A0 A1 A2 D0 D1 D2 M be ga B1 B2 ((i : Nat) : Int) 1 t l) (sk := [7, 12, 14, 15, 18, 19, 20, 21, 22, 23, 24, 68, 69, 74]) (hk := [5, 6, 7, 10, 15, 16, 17, 21, 25, 26, 27, 31, 73, 74, 78, 80, 205, 206]) (lk := []) (ex := .normal)
    (L := giI n A0 A1 A2 D0 D1 D2 M be ga B1 B2 ((i : Nat) : Int) 2 (t * ((ofR m + ofR ga) + ofR be * nu)) (l * ((ofR m + ofR ga) + ofR be * bv))) (by kernel_rfl)
    (And.intro (ldO (p := [.s bv]) hb rfl)
    (And.intro (show ((ro : Nat) : Int) = ((ro : Nat) : Int) ∧ ro < n from ⟨rfl, hro⟩)
    (And.intro (ldO (p := [.s nu]) hd rfl)
    (And.intro (show ((i : Nat) : Int) = ((i : Nat) : Int) ∧ i < n from ⟨rfl, hi⟩)
    (And.intro (ldO (p := [.c (.int .i64 ((ro : Nat) : Int)), .c (.int .i64 0)]) hp rfl)
    (And.intro (show ((i : Nat) : Int) = ((i : Nat) : Int) ∧ i < n from ⟨rfl, hi⟩)
    (And.intro (show (m : Nat) < 115792089237316195423570985008687907853269984665640564039457584007913129639936 from hm)
    (And.intro (nu_at (M 1) i m hx)
    (And.intro (show ((i : Nat) : Int) = ((i : Nat) : Int) ∧ i < (M 1).length from ⟨rfl, pl_lt hx⟩) trivial)))))))))
  exact hh
theorem gi11 (n : Nat) (A0 A1 A2 D0 D1 D2 : List Value) (M : Nat → List Nat) (be ga : Nat) (B1 B2 : List Value) (hga : ga < 115792089237316195423570985008687907853269984665640564039457584007913129639936) (i : Nat) (hi : i < n) (t l : Fin Rr) (m : Nat) (hx : (M 1)[i]? = some m) (hm : m < 115792089237316195423570985008687907853269984665640564039457584007913129639936) (ro : Nat) (hro : ro < n) (nu bv : Fin Rr) (hp : (A1.drop (i * 2)).take 2 = flat [.c (.int .i64 ((ro : Nat) : Int)), .c (.int .i64 1)]) (hd : (D1.drop (i * 4)).take 4 = flat [.s nu]) (hb : (D1.drop (ro * 4)).take 4 = flat [.s bv]) : Sound Try.prog 0 false (loopB Try.f17 2) (giI n A0 A1 A2 D0 D1 D2 M be ga B1 B2 ((i : Nat) : Int) 1 t l).aa .normal (giI n A0 A1 A2 D0 D1 D2 M be ga B1 B2 ((i : Nat) : Int) 2 (t * ((ofR m + ofR ga) + ofR be * nu)) (l * ((ofR m + ofR ga) + ofR be * bv))).aa := by
  have hh := roundK_sound (P := Try.prog) (X := rulesM _) (env := [eSmS, eInSq, eTimesS, ePlusS, eIsZeS, eOutS]) ⟨eSmS_ok, eInSq_ok, eTimesS_ok, ePlusS_ok, eIsZeS_ok, eOutS_ok, trivial⟩ (n := 0) (os := (oL [(307, rO 14 i), (308, { ch := 0, hi := fun _ => 0, ru := 8, cs := fun _ => [.n 4 m] }), (318, rO 9 i), (319, { ch := 0, hi := fun _ => 0, ru := 8, cs := fun _ => [.c (.int .i64 ((ro : Nat) : Int)), .c (.int .i64 1)] }), (329, rO 9 i), (330, { ch := 0, hi := fun _ => 0, ru := 8, cs := fun _ => [.s nu] }), (344, rO 9 ro), (345, { ch := 0, hi := fun _ => 0, ru := 8, cs := fun _ => [.s bv] })])) (fb := 0) (rd := false) (c := (loopB Try.f17 2)) (k := 300) (I := giI n A0 A1 A2 D0 D1 D2 M be ga B1 B2 ((i : Nat) : Int) 1 t l) (sk := [7, 12, 14, 15, 18, 19, 20, 21, 22, 23, 24, 68, 69, 74]) (hk := [5, 6, 7, 10, 15, 16, 17, 21, 25, 26, 27, 31, 73, 74, 78, 80, 205, 206]) (lk := []) (ex := .normal)
    (L := giI n A0 A1 A2 D0 D1 D2 M be ga B1 B2 ((i : Nat) : Int) 2 (t * ((ofR m + ofR ga) + ofR be * nu)) (l * ((ofR m + ofR ga) + ofR be * bv))) (by kernel_rfl)
    (And.intro (ldO (p := [.s bv]) hb rfl)
    (And.intro (show ((ro : Nat) : Int) = ((ro : Nat) : Int) ∧ ro < n from ⟨rfl, hro⟩)
    (And.intro (ldO (p := [.s nu]) hd rfl)
    (And.intro (show ((i : Nat) : Int) = ((i : Nat) : Int) ∧ i < n from ⟨rfl, hi⟩)
    (And.intro (ldO (p := [.c (.int .i64 ((ro : Nat) : Int)), .c (.int .i64 1)]) hp rfl)
    (And.intro (show ((i : Nat) : Int) = ((i : Nat) : Int) ∧ i < n from ⟨rfl, hi⟩)
    (And.intro (show (m : Nat) < 115792089237316195423570985008687907853269984665640564039457584007913129639936 from hm)
    (And.intro (nu_at (M 1) i m hx)
    (And.intro (show ((i : Nat) : Int) = ((i : Nat) : Int) ∧ i < (M 1).length from ⟨rfl, pl_lt hx⟩) trivial)))))))))
  exact hh
theorem gi12 (n : Nat) (A0 A1 A2 D0 D1 D2 : List Value) (M : Nat → List Nat) (be ga : Nat) (B1 B2 : List Value) (hga : ga < 115792089237316195423570985008687907853269984665640564039457584007913129639936) (i : Nat) (hi : i < n) (t l : Fin Rr) (m : Nat) (hx : (M 1)[i]? = some m) (hm : m < 115792089237316195423570985008687907853269984665640564039457584007913129639936) (ro : Nat) (hro : ro < n) (nu bv : Fin Rr) (hp : (A1.drop (i * 2)).take 2 = flat [.c (.int .i64 ((ro : Nat) : Int)), .c (.int .i64 2)]) (hd : (D1.drop (i * 4)).take 4 = flat [.s nu]) (hb : (D2.drop (ro * 4)).take 4 = flat [.s bv]) : Sound Try.prog 0 false (loopB Try.f17 2) (giI n A0 A1 A2 D0 D1 D2 M be ga B1 B2 ((i : Nat) : Int) 1 t l).aa .normal (giI n A0 A1 A2 D0 D1 D2 M be ga B1 B2 ((i : Nat) : Int) 2 (t * ((ofR m + ofR ga) + ofR be * nu)) (l * ((ofR m + ofR ga) + ofR be * bv))).aa := by
  have hh := roundK_sound (P := Try.prog) (X := rulesM _) (env := [eSmS, eInSq, eTimesS, ePlusS, eIsZeS, eOutS]) ⟨eSmS_ok, eInSq_ok, eTimesS_ok, ePlusS_ok, eIsZeS_ok, eOutS_ok, trivial⟩ (n := 0) (os := (oL [(307, rO 14 i), (308, { ch := 0, hi := fun _ => 0, ru := 8, cs := fun _ => [.n 4 m] }), (318, rO 9 i), (319, { ch := 0, hi := fun _ => 0, ru := 8, cs := fun _ => [.c (.int .i64 ((ro : Nat) : Int)), .c (.int .i64 2)] }), (329, rO 9 i), (330, { ch := 0, hi := fun _ => 0, ru := 8, cs := fun _ => [.s nu] }), (344, rO 9 ro), (345, { ch := 0, hi := fun _ => 0, ru := 8, cs := fun _ => [.s bv] })])) (fb := 0) (rd := false) (c := (loopB Try.f17 2)) (k := 300) (I := giI n A0 A1 A2 D0 D1 D2 M be ga B1 B2 ((i : Nat) : Int) 1 t l) (sk := [7, 12, 14, 15, 18, 19, 20, 21, 22, 23, 24, 68, 69, 74]) (hk := [5, 6, 7, 10, 15, 16, 17, 21, 25, 26, 27, 31, 73, 74, 78, 80, 205, 206]) (lk := []) (ex := .normal)
    (L := giI n A0 A1 A2 D0 D1 D2 M be ga B1 B2 ((i : Nat) : Int) 2 (t * ((ofR m + ofR ga) + ofR be * nu)) (l * ((ofR m + ofR ga) + ofR be * bv))) (by kernel_rfl)
    (And.intro (ldO (p := [.s bv]) hb rfl)
    (And.intro (show ((ro : Nat) : Int) = ((ro : Nat) : Int) ∧ ro < n from ⟨rfl, hro⟩)
    (And.intro (ldO (p := [.s nu]) hd rfl)
    (And.intro (show ((i : Nat) : Int) = ((i : Nat) : Int) ∧ i < n from ⟨rfl, hi⟩)
    (And.intro (ldO (p := [.c (.int .i64 ((ro : Nat) : Int)), .c (.int .i64 2)]) hp rfl)
    (And.intro (show ((i : Nat) : Int) = ((i : Nat) : Int) ∧ i < n from ⟨rfl, hi⟩)
    (And.intro (show (m : Nat) < 115792089237316195423570985008687907853269984665640564039457584007913129639936 from hm)
    (And.intro (nu_at (M 1) i m hx)
    (And.intro (show ((i : Nat) : Int) = ((i : Nat) : Int) ∧ i < (M 1).length from ⟨rfl, pl_lt hx⟩) trivial)))))))))
  exact hh
theorem gi20 (n : Nat) (A0 A1 A2 D0 D1 D2 : List Value) (M : Nat → List Nat) (be ga : Nat) (B1 B2 : List Value) (hga : ga < 115792089237316195423570985008687907853269984665640564039457584007913129639936) (i : Nat) (hi : i < n) (t l : Fin Rr) (m : Nat) (hx : (M 2)[i]? = some m) (hm : m < 115792089237316195423570985008687907853269984665640564039457584007913129639936) (ro : Nat) (hro : ro < n) (nu bv : Fin Rr) (hp : (A2.drop (i * 2)).take 2 = flat [.c (.int .i64 ((ro : Nat) : Int)), .c (.int .i64 0)]) (hd : (D2.drop (i * 4)).take 4 = flat [.s nu]) (hb : (D0.drop (ro * 4)).take 4 = flat [.s bv]) : Sound Try.prog 0 false (loopB Try.f17 2) (giI n A0 A1 A2 D0 D1 D2 M be ga B1 B2 ((i : Nat) : Int) 2 t l).aa .normal (giI n A0 A1 A2 D0 D1 D2 M be ga B1 B2 ((i : Nat) : Int) 3 (t * ((ofR m + ofR ga) + ofR be * nu)) (l * ((ofR m + ofR ga) + ofR be * bv))).aa := by
  have hh := roundK_sound (P := Try.prog) (X := rulesM _) (env := [eSmS, eInSq, eTimesS, ePlusS, eIsZeS, eOutS]) ⟨eSmS_ok, eInSq_ok, eTimesS_ok, ePlusS_ok, eIsZeS_ok, eOutS_ok, trivial⟩ (n := 0) (os := (oL [(307, rO 14 i), (308, { ch := 0, hi := fun _ => 0, ru := 8, cs := fun _ => [.n 4 m] }), (318, rO 9 i), (319, { ch := 0, hi := fun _ => 0, ru := 8, cs := fun _ => [.c (.int .i64 ((ro : Nat) : Int)), .c (.int .i64 0)] }), (329, rO 9 i), (330, { ch := 0, hi := fun _ => 0, ru := 8, cs := fun _ => [.s nu] }), (344, rO 9 ro), (345, { ch := 0, hi := fun _ => 0, ru := 8, cs := fun _ => [.s bv] })])) (fb := 0) (rd := false) (c := (loopB Try.f17 2)) (k := 300) (I := giI n A0 A1 A2 D0 D1 D2 M be ga B1 B2 ((i : Nat) : Int) 2 t l) (sk := [7, 12, 14, 15, 18, 19, 20, 21, 22, 23, 24, 68, 69, 74]) (hk := [5, 6, 7, 10, 15, 16, 17, 21, 25, 26, 27, 31, 73, 74, 78, 80, 205, 206]) (lk := []) (ex := .normal)
    (L := giI n A0 A1 A2 D0 D1 D2 M be ga B1 B2 ((i : Nat) : Int) 3 (t * ((ofR m + ofR ga) + ofR be * nu)) (l * ((ofR m + ofR ga) + ofR be * bv))) (by kernel_rfl)
    (And.intro (ldO (p := [.s bv]) hb rfl)
    (And.intro (show ((ro : Nat) : Int) = ((ro : Nat) : Int) ∧ ro < n from ⟨rfl, hro⟩)
    (And.intro (ldO (p := [.s nu]) hd rfl)
    (And.intro (show ((i : Nat) : Int) = ((i : Nat) : Int) ∧ i < n from ⟨rfl, hi⟩)
    (And.intro (ldO (p := [.c (.int .i64 ((ro : Nat) : Int)), .c (.int .i64 0)]) hp rfl)
    (And.intro (show ((i : Nat) : Int) = ((i : Nat) : Int) ∧ i < n from ⟨rfl, hi⟩)
    (And.intro (show (m : Nat) < 115792089237316195423570985008687907853269984665640564039457584007913129639936 from hm)
    (And.intro (nu_at (M 2) i m hx)
    (And.intro (show ((i : Nat) : Int) = ((i : Nat) : Int) ∧ i < (M 2).length from ⟨rfl, pl_lt hx⟩) trivial)))))))))
  exact hh
theorem gi21 (n : Nat) (A0 A1 A2 D0 D1 D2 : List Value) (M : Nat → List Nat) (be ga : Nat) (B1 B2 : List Value) (hga : ga < 115792089237316195423570985008687907853269984665640564039457584007913129639936) (i : Nat) (hi : i < n) (t l : Fin Rr) (m : Nat) (hx : (M 2)[i]? = some m) (hm : m < 115792089237316195423570985008687907853269984665640564039457584007913129639936) (ro : Nat) (hro : ro < n) (nu bv : Fin Rr) (hp : (A2.drop (i * 2)).take 2 = flat [.c (.int .i64 ((ro : Nat) : Int)), .c (.int .i64 1)]) (hd : (D2.drop (i * 4)).take 4 = flat [.s nu]) (hb : (D1.drop (ro * 4)).take 4 = flat [.s bv]) : Sound Try.prog 0 false (loopB Try.f17 2) (giI n A0 A1 A2 D0 D1 D2 M be ga B1 B2 ((i : Nat) : Int) 2 t l).aa .normal (giI n A0 A1 A2 D0 D1 D2 M be ga B1 B2 ((i : Nat) : Int) 3 (t * ((ofR m + ofR ga) + ofR be * nu)) (l * ((ofR m + ofR ga) + ofR be * bv))).aa := by
  have hh := roundK_sound (P := Try.prog) (X := rulesM _) (env := [eSmS, eInSq, eTimesS, ePlusS, eIsZeS, eOutS]) ⟨eSmS_ok, eInSq_ok, eTimesS_ok, ePlusS_ok, eIsZeS_ok, eOutS_ok, trivial⟩ (n := 0) (os := (oL [(307, rO 14 i), (308, { ch := 0, hi := fun _ => 0, ru := 8, cs := fun _ => [.n 4 m] }), (318, rO 9 i), (319, { ch := 0, hi := fun _ => 0, ru := 8, cs := fun _ => [.c (.int .i64 ((ro : Nat) : Int)), .c (.int .i64 1)] }), (329, rO 9 i), (330, { ch := 0, hi := fun _ => 0, ru := 8, cs := fun _ => [.s nu] }), (344, rO 9 ro), (345, { ch := 0, hi := fun _ => 0, ru := 8, cs := fun _ => [.s bv] })])) (fb := 0) (rd := false) (c := (loopB Try.f17 2)) (k := 300) (I := giI n A0 A1 A2 D0 D1 D2 M be ga B1 B2 ((i : Nat) : Int) 2 t l) (sk := [7, 12, 14, 15, 18, 19, 20, 21, 22, 23, 24, 68, 69, 74]) (hk := [5, 6, 7, 10, 15, 16, 17, 21, 25, 26, 27, 31, 73, 74, 78, 80, 205, 206]) (lk := []) (ex := .normal)
    (L := giI n A0 A1 A2 D0 D1 D2 M be ga B1 B2 ((i : Nat) : Int) 3 (t * ((ofR m + ofR ga) + ofR be * nu)) (l * ((ofR m + ofR ga) + ofR be * bv))) (by kernel_rfl)
    (And.intro (ldO (p := [.s bv]) hb rfl)
    (And.intro (show ((ro : Nat) : Int) = ((ro : Nat) : Int) ∧ ro < n from ⟨rfl, hro⟩)
    (And.intro (ldO (p := [.s nu]) hd rfl)
    (And.intro (show ((i : Nat) : Int) = ((i : Nat) : Int) ∧ i < n from ⟨rfl, hi⟩)
    (And.intro (ldO (p := [.c (.int .i64 ((ro : Nat) : Int)), .c (.int .i64 1)]) hp rfl)
    (And.intro (show ((i : Nat) : Int) = ((i : Nat) : Int) ∧ i < n from ⟨rfl, hi⟩)
    (And.intro (show (m : Nat) < 115792089237316195423570985008687907853269984665640564039457584007913129639936 from hm)
    (And.intro (nu_at (M 2) i m hx)
    (And.intro (show ((i : Nat) : Int) = ((i : Nat) : Int) ∧ i < (M 2).length from ⟨rfl, pl_lt hx⟩) trivial)))))))))
  exact hh
theorem gi22 (n : Nat) (A0 A1 A2 D0 D1 D2 : List Value) (M : Nat → List Nat) (be ga : Nat) (B1 B2 : List Value) (hga : ga < 115792089237316195423570985008687907853269984665640564039457584007913129639936) (i : Nat) (hi : i < n) (t l : Fin Rr) (m : Nat) (hx : (M 2)[i]? = some m) (hm : m < 115792089237316195423570985008687907853269984665640564039457584007913129639936) (ro : Nat) (hro : ro < n) (nu bv : Fin Rr) (hp : (A2.drop (i * 2)).take 2 = flat [.c (.int .i64 ((ro : Nat) : Int)), .c (.int .i64 2)]) (hd : (D2.drop (i * 4)).take 4 = flat [.s nu]) (hb : (D2.drop (ro * 4)).take 4 = flat [.s bv]) : Sound Try.prog 0 false (loopB Try.f17 2) (giI n A0 A1 A2 D0 D1 D2 M be ga B1 B2 ((i : Nat) : Int) 2 t l).aa .normal (giI n A0 A1 A2 D0 D1 D2 M be ga B1 B2 ((i : Nat) : Int) 3 (t * ((ofR m + ofR ga) + ofR be * nu)) (l * ((ofR m + ofR ga) + ofR be * bv))).aa := by
  have hh := roundK_sound (P := Try.prog) (X := rulesM _) (env := [eSmS, eInSq, eTimesS, ePlusS, eIsZeS, eOutS]) ⟨eSmS_ok, eInSq_ok, eTimesS_ok, ePlusS_ok, eIsZeS_ok, eOutS_ok, trivial⟩ (n := 0) (os := (oL [(307, rO 14 i), (308, { ch := 0, hi := fun _ => 0, ru := 8, cs := fun _ => [.n 4 m] }), (318, rO 9 i), (319, { ch := 0, hi := fun _ => 0, ru := 8, cs := fun _ => [.c (.int .i64 ((ro : Nat) : Int)), .c (.int .i64 2)] }), (329, rO 9 i), (330, { ch := 0, hi := fun _ => 0, ru := 8, cs := fun _ => [.s nu] }), (344, rO 9 ro), (345, { ch := 0, hi := fun _ => 0, ru := 8, cs := fun _ => [.s bv] })])) (fb := 0) (rd := false) (c := (loopB Try.f17 2)) (k := 300) (I := giI n A0 A1 A2 D0 D1 D2 M be ga B1 B2 ((i : Nat) : Int) 2 t l) (sk := [7, 12, 14, 15, 18, 19, 20, 21, 22, 23, 24, 68, 69, 74]) (hk := [5, 6, 7, 10, 15, 16, 17, 21, 25, 26, 27, 31, 73, 74, 78, 80, 205, 206]) (lk := []) (ex := .normal)
    (L := giI n A0 A1 A2 D0 D1 D2 M be ga B1 B2 ((i : Nat) : Int) 3 (t * ((ofR m + ofR ga) + ofR be * nu)) (l * ((ofR m + ofR ga) + ofR be * bv))) (by kernel_rfl)
    (And.intro (ldO (p := [.s bv]) hb rfl)
    (And.intro (show ((ro : Nat) : Int) = ((ro : Nat) : Int) ∧ ro < n from ⟨rfl, hro⟩)
    (And.intro (ldO (p := [.s nu]) hd rfl)
    (And.intro (show ((i : Nat) : Int) = ((i : Nat) : Int) ∧ i < n from ⟨rfl, hi⟩)
    (And.intro (ldO (p := [.c (.int .i64 ((ro : Nat) : Int)), .c (.int .i64 2)]) hp rfl)
    (And.intro (show ((i : Nat) : Int) = ((i : Nat) : Int) ∧ i < n from ⟨rfl, hi⟩)
    (And.intro (show (m : Nat) < 115792089237316195423570985008687907853269984665640564039457584007913129639936 from hm)
    (And.intro (nu_at (M 2) i m hx)
    (And.intro (show ((i : Nat) : Int) = ((i : Nat) : Int) ∧ i < (M 2).length from ⟨rfl, pl_lt hx⟩) trivial)))))))))
  exact hh
theorem gi_e (n : Nat) (A0 A1 A2 D0 D1 D2 : List Value) (M : Nat → List Nat) (be ga : Nat) (B1 B2 : List Value) (z : Int) (t l : Fin Rr) : Sound Try.prog 0 false (loopB Try.f17 2) (giI n A0 A1 A2 D0 D1 D2 M be ga B1 B2 z 3 t l).aa (.exit 4) (giE n A0 A1 A2 D0 D1 D2 M be ga B1 B2 z t l).aa := by
  have hh := roundK_sound (P := Try.prog) (X := rulesM _) (env := []) trivial (n := 0) (os := (oL [])) (fb := 0) (rd := false) (c := (loopB Try.f17 2)) (k := 300) (I := giI n A0 A1 A2 D0 D1 D2 M be ga B1 B2 z 3 t l) (sk := [7, 12, 14, 15, 18, 19, 20, 21, 22, 23, 24, 68, 69]) (hk := [5, 6, 7, 10, 15, 16, 17, 21, 25, 26, 27, 31, 73, 74, 78, 80, 205, 206]) (lk := []) (ex := (.exit 4))
    (L := giE n A0 A1 A2 D0 D1 D2 M be ga B1 B2 z t l) (by kernel_rfl)
    trivial
  exact hh
def tpW (M : Nat → List Nat) (lg be ga i : Nat) : Nat → Fin Rr
  | 0 => (ofR (1 % 18446744073709551616))
  | w + 1 => tpW M lg be ga i w * fcT M lg be ga i w
def lwW (F : Nat → Int) (n : Nat) (M : Nat → List Nat) (lg be ga i : Nat) : Nat → Fin Rr
  | 0 => (ofR (1 % 18446744073709551616))
  | w + 1 => lwW F n M lg be ga i w * fcL F n M lg be ga i w
theorem tpW_3 (M : Nat → List Nat) (lg be ga i : Nat) : tpW M lg be ga i 3 = tpI M lg be ga i := by unfold tpI; rw [← ofR_one]; rfl
theorem lwW_3 (F : Nat → Int) (n : Nat) (M : Nat → List Nat) (lg be ga i : Nat) : lwW F n M lg be ga i 3 = lwI F n M lg be ga i := by unfold lwI; rw [← ofR_one]; rfl
theorem gs0 (F : Nat → Int) (lg n : Nat) (hn : n ≤ 1000) (M : Nat → List Nat) (hs : ∀ w x, x ∈ M w → x < 115792089237316195423570985008687907853269984665640564039457584007913129639936) (be ga : Nat) (hbe : be < 115792089237316195423570985008687907853269984665640564039457584007913129639936) (hga : ga < 115792089237316195423570985008687907853269984665640564039457584007913129639936) (hlen : ∀ w, w < 3 → (M w).length = n) (B1 B2 : List Value) (i : Nat) (hi : i < n) : Sound Try.prog 0 false (loopB Try.f17 2) (giI n (rowQ F n (3 * n) 0) (rowQ F n (3 * n) 1) (rowQ F n (3 * n) 2) (tab sC n (fun i => npw (rt lg) i * shf 0)) (tab sC n (fun i => npw (rt lg) i * shf 1)) (tab sC n (fun i => npw (rt lg) i * shf 2)) M be ga B1 B2 ((i : Nat) : Int) 0 (tpW M lg be ga i 0) (lwW F n M lg be ga i 0)).aa .normal (giI n (rowQ F n (3 * n) 0) (rowQ F n (3 * n) 1) (rowQ F n (3 * n) 2) (tab sC n (fun i => npw (rt lg) i * shf 0)) (tab sC n (fun i => npw (rt lg) i * shf 1)) (tab sC n (fun i => npw (rt lg) i * shf 2)) M be ga B1 B2 ((i : Nat) : Int) 1 (tpW M lg be ga i 1) (lwW F n M lg be ga i 1)).aa := by
  obtain ⟨m, hx⟩ := pl_of (show i < (M 0).length by rw [hlen 0 (by decide)]; exact hi)
  have hq := valI_lt (f := F) (N := 3 * n) (q := 0 * n + i) (by omega)
  obtain ⟨h1, h2⟩ := pl_lt3 hq
  have hp : (((rowQ F n (3 * n) 0).drop (i * 2)).take 2 = plV (valI F (3 * n) (0 * n + i) % n, valI F (3 * n) (0 * n + i) / n)) := tabG_at plV plV_len n _ i hi
  have ht : tpW M lg be ga i 1 = tpW M lg be ga i 0 * ((ofR m + ofR ga) + ofR be * (npw (rt lg) i * shf 0)) := by
    show tpW M lg be ga i 0 * fcT M lg be ga i 0 = _
    unfold fcT; rw [nu_get hx]; rfl
  have hw : lwW F n M lg be ga i 1 = lwW F n M lg be ga i 0 * ((ofR m + ofR ga) + ofR be * (npw (rt lg) (valI F (3 * n) (0 * n + i) % n) * shf (valI F (3 * n) (0 * n + i) / n))) := by
    show lwW F n M lg be ga i 0 * fcL F n M lg be ga i 0 = _
    unfold fcL; rw [nu_get hx]; rfl
  rw [ht, hw]
  generalize tpW M lg be ga i 0 = t
  generalize lwW F n M lg be ga i 0 = l
  generalize valI F (3 * n) (0 * n + i) % n = ro at *
  generalize valI F (3 * n) (0 * n + i) / n = q at *
  rcases lt3 h1 with rfl | rfl | rfl
  · exact gi00 n (rowQ F n (3 * n) 0) (rowQ F n (3 * n) 1) (rowQ F n (3 * n) 2) (tab sC n (fun i => npw (rt lg) i * shf 0)) (tab sC n (fun i => npw (rt lg) i * shf 1)) (tab sC n (fun i => npw (rt lg) i * shf 2)) M be ga B1 B2 hga i hi t l m hx (hs _ _ (pl_mem hx)) ro h2 _ _ hp (tab_at sC sC_len n _ i hi) (tab_at sC sC_len n _ ro h2)
  · exact gi01 n (rowQ F n (3 * n) 0) (rowQ F n (3 * n) 1) (rowQ F n (3 * n) 2) (tab sC n (fun i => npw (rt lg) i * shf 0)) (tab sC n (fun i => npw (rt lg) i * shf 1)) (tab sC n (fun i => npw (rt lg) i * shf 2)) M be ga B1 B2 hga i hi t l m hx (hs _ _ (pl_mem hx)) ro h2 _ _ hp (tab_at sC sC_len n _ i hi) (tab_at sC sC_len n _ ro h2)
  · exact gi02 n (rowQ F n (3 * n) 0) (rowQ F n (3 * n) 1) (rowQ F n (3 * n) 2) (tab sC n (fun i => npw (rt lg) i * shf 0)) (tab sC n (fun i => npw (rt lg) i * shf 1)) (tab sC n (fun i => npw (rt lg) i * shf 2)) M be ga B1 B2 hga i hi t l m hx (hs _ _ (pl_mem hx)) ro h2 _ _ hp (tab_at sC sC_len n _ i hi) (tab_at sC sC_len n _ ro h2)
theorem gs1 (F : Nat → Int) (lg n : Nat) (hn : n ≤ 1000) (M : Nat → List Nat) (hs : ∀ w x, x ∈ M w → x < 115792089237316195423570985008687907853269984665640564039457584007913129639936) (be ga : Nat) (hbe : be < 115792089237316195423570985008687907853269984665640564039457584007913129639936) (hga : ga < 115792089237316195423570985008687907853269984665640564039457584007913129639936) (hlen : ∀ w, w < 3 → (M w).length = n) (B1 B2 : List Value) (i : Nat) (hi : i < n) : Sound Try.prog 0 false (loopB Try.f17 2) (giI n (rowQ F n (3 * n) 0) (rowQ F n (3 * n) 1) (rowQ F n (3 * n) 2) (tab sC n (fun i => npw (rt lg) i * shf 0)) (tab sC n (fun i => npw (rt lg) i * shf 1)) (tab sC n (fun i => npw (rt lg) i * shf 2)) M be ga B1 B2 ((i : Nat) : Int) 1 (tpW M lg be ga i 1) (lwW F n M lg be ga i 1)).aa .normal (giI n (rowQ F n (3 * n) 0) (rowQ F n (3 * n) 1) (rowQ F n (3 * n) 2) (tab sC n (fun i => npw (rt lg) i * shf 0)) (tab sC n (fun i => npw (rt lg) i * shf 1)) (tab sC n (fun i => npw (rt lg) i * shf 2)) M be ga B1 B2 ((i : Nat) : Int) 2 (tpW M lg be ga i 2) (lwW F n M lg be ga i 2)).aa := by
  obtain ⟨m, hx⟩ := pl_of (show i < (M 1).length by rw [hlen 1 (by decide)]; exact hi)
  have hq := valI_lt (f := F) (N := 3 * n) (q := 1 * n + i) (by omega)
  obtain ⟨h1, h2⟩ := pl_lt3 hq
  have hp : (((rowQ F n (3 * n) 1).drop (i * 2)).take 2 = plV (valI F (3 * n) (1 * n + i) % n, valI F (3 * n) (1 * n + i) / n)) := tabG_at plV plV_len n _ i hi
  have ht : tpW M lg be ga i 2 = tpW M lg be ga i 1 * ((ofR m + ofR ga) + ofR be * (npw (rt lg) i * shf 1)) := by
    show tpW M lg be ga i 1 * fcT M lg be ga i 1 = _
    unfold fcT; rw [nu_get hx]; rfl
  have hw : lwW F n M lg be ga i 2 = lwW F n M lg be ga i 1 * ((ofR m + ofR ga) + ofR be * (npw (rt lg) (valI F (3 * n) (1 * n + i) % n) * shf (valI F (3 * n) (1 * n + i) / n))) := by
    show lwW F n M lg be ga i 1 * fcL F n M lg be ga i 1 = _
    unfold fcL; rw [nu_get hx]; rfl
  rw [ht, hw]
  generalize tpW M lg be ga i 1 = t
  generalize lwW F n M lg be ga i 1 = l
  generalize valI F (3 * n) (1 * n + i) % n = ro at *
  generalize valI F (3 * n) (1 * n + i) / n = q at *
  rcases lt3 h1 with rfl | rfl | rfl
  · exact gi10 n (rowQ F n (3 * n) 0) (rowQ F n (3 * n) 1) (rowQ F n (3 * n) 2) (tab sC n (fun i => npw (rt lg) i * shf 0)) (tab sC n (fun i => npw (rt lg) i * shf 1)) (tab sC n (fun i => npw (rt lg) i * shf 2)) M be ga B1 B2 hga i hi t l m hx (hs _ _ (pl_mem hx)) ro h2 _ _ hp (tab_at sC sC_len n _ i hi) (tab_at sC sC_len n _ ro h2)
  · exact gi11 n (rowQ F n (3 * n) 0) (rowQ F n (3 * n) 1) (rowQ F n (3 * n) 2) (tab sC n (fun i => npw (rt lg) i * shf 0)) (tab sC n (fun i => npw (rt lg) i * shf 1)) (tab sC n (fun i => npw (rt lg) i * shf 2)) M be ga B1 B2 hga i hi t l m hx (hs _ _ (pl_mem hx)) ro h2 _ _ hp (tab_at sC sC_len n _ i hi) (tab_at sC sC_len n _ ro h2)
  · exact gi12 n (rowQ F n (3 * n) 0) (rowQ F n (3 * n) 1) (rowQ F n (3 * n) 2) (tab sC n (fun i => npw (rt lg) i * shf 0)) (tab sC n (fun i => npw (rt lg) i * shf 1)) (tab sC n (fun i => npw (rt lg) i * shf 2)) M be ga B1 B2 hga i hi t l m hx (hs _ _ (pl_mem hx)) ro h2 _ _ hp (tab_at sC sC_len n _ i hi) (tab_at sC sC_len n _ ro h2)
theorem gs2 (F : Nat → Int) (lg n : Nat) (hn : n ≤ 1000) (M : Nat → List Nat) (hs : ∀ w x, x ∈ M w → x < 115792089237316195423570985008687907853269984665640564039457584007913129639936) (be ga : Nat) (hbe : be < 115792089237316195423570985008687907853269984665640564039457584007913129639936) (hga : ga < 115792089237316195423570985008687907853269984665640564039457584007913129639936) (hlen : ∀ w, w < 3 → (M w).length = n) (B1 B2 : List Value) (i : Nat) (hi : i < n) : Sound Try.prog 0 false (loopB Try.f17 2) (giI n (rowQ F n (3 * n) 0) (rowQ F n (3 * n) 1) (rowQ F n (3 * n) 2) (tab sC n (fun i => npw (rt lg) i * shf 0)) (tab sC n (fun i => npw (rt lg) i * shf 1)) (tab sC n (fun i => npw (rt lg) i * shf 2)) M be ga B1 B2 ((i : Nat) : Int) 2 (tpW M lg be ga i 2) (lwW F n M lg be ga i 2)).aa .normal (giI n (rowQ F n (3 * n) 0) (rowQ F n (3 * n) 1) (rowQ F n (3 * n) 2) (tab sC n (fun i => npw (rt lg) i * shf 0)) (tab sC n (fun i => npw (rt lg) i * shf 1)) (tab sC n (fun i => npw (rt lg) i * shf 2)) M be ga B1 B2 ((i : Nat) : Int) 3 (tpW M lg be ga i 3) (lwW F n M lg be ga i 3)).aa := by
  obtain ⟨m, hx⟩ := pl_of (show i < (M 2).length by rw [hlen 2 (by decide)]; exact hi)
  have hq := valI_lt (f := F) (N := 3 * n) (q := 2 * n + i) (by omega)
  obtain ⟨h1, h2⟩ := pl_lt3 hq
  have hp : (((rowQ F n (3 * n) 2).drop (i * 2)).take 2 = plV (valI F (3 * n) (2 * n + i) % n, valI F (3 * n) (2 * n + i) / n)) := tabG_at plV plV_len n _ i hi
  have ht : tpW M lg be ga i 3 = tpW M lg be ga i 2 * ((ofR m + ofR ga) + ofR be * (npw (rt lg) i * shf 2)) := by
    show tpW M lg be ga i 2 * fcT M lg be ga i 2 = _
    unfold fcT; rw [nu_get hx]; rfl
  have hw : lwW F n M lg be ga i 3 = lwW F n M lg be ga i 2 * ((ofR m + ofR ga) + ofR be * (npw (rt lg) (valI F (3 * n) (2 * n + i) % n) * shf (valI F (3 * n) (2 * n + i) / n))) := by
    show lwW F n M lg be ga i 2 * fcL F n M lg be ga i 2 = _
    unfold fcL; rw [nu_get hx]; rfl
  rw [ht, hw]
  generalize tpW M lg be ga i 2 = t
  generalize lwW F n M lg be ga i 2 = l
  generalize valI F (3 * n) (2 * n + i) % n = ro at *
  generalize valI F (3 * n) (2 * n + i) / n = q at *
  rcases lt3 h1 with rfl | rfl | rfl
  · exact gi20 n (rowQ F n (3 * n) 0) (rowQ F n (3 * n) 1) (rowQ F n (3 * n) 2) (tab sC n (fun i => npw (rt lg) i * shf 0)) (tab sC n (fun i => npw (rt lg) i * shf 1)) (tab sC n (fun i => npw (rt lg) i * shf 2)) M be ga B1 B2 hga i hi t l m hx (hs _ _ (pl_mem hx)) ro h2 _ _ hp (tab_at sC sC_len n _ i hi) (tab_at sC sC_len n _ ro h2)
  · exact gi21 n (rowQ F n (3 * n) 0) (rowQ F n (3 * n) 1) (rowQ F n (3 * n) 2) (tab sC n (fun i => npw (rt lg) i * shf 0)) (tab sC n (fun i => npw (rt lg) i * shf 1)) (tab sC n (fun i => npw (rt lg) i * shf 2)) M be ga B1 B2 hga i hi t l m hx (hs _ _ (pl_mem hx)) ro h2 _ _ hp (tab_at sC sC_len n _ i hi) (tab_at sC sC_len n _ ro h2)
  · exact gi22 n (rowQ F n (3 * n) 0) (rowQ F n (3 * n) 1) (rowQ F n (3 * n) 2) (tab sC n (fun i => npw (rt lg) i * shf 0)) (tab sC n (fun i => npw (rt lg) i * shf 1)) (tab sC n (fun i => npw (rt lg) i * shf 2)) M be ga B1 B2 hga i hi t l m hx (hs _ _ (pl_mem hx)) ro h2 _ _ hp (tab_at sC sC_len n _ i hi) (tab_at sC sC_len n _ ro h2)
theorem gs_all (F : Nat → Int) (lg n : Nat) (hn : n ≤ 1000) (M : Nat → List Nat) (hs : ∀ w x, x ∈ M w → x < 115792089237316195423570985008687907853269984665640564039457584007913129639936) (be ga : Nat) (hbe : be < 115792089237316195423570985008687907853269984665640564039457584007913129639936) (hga : ga < 115792089237316195423570985008687907853269984665640564039457584007913129639936) (hlen : ∀ w, w < 3 → (M w).length = n) (B1 B2 : List Value) (i : Nat) (hi : i < n) : Sound Try.prog 0 false (.loop (loopB Try.f17 2)) (giI n (rowQ F n (3 * n) 0) (rowQ F n (3 * n) 1) (rowQ F n (3 * n) 2) (tab sC n (fun i => npw (rt lg) i * shf 0)) (tab sC n (fun i => npw (rt lg) i * shf 1)) (tab sC n (fun i => npw (rt lg) i * shf 2)) M be ga B1 B2 ((i : Nat) : Int) 0 (ofR (1 % 18446744073709551616)) (ofR (1 % 18446744073709551616))).aa (.exit 4) (giE n (rowQ F n (3 * n) 0) (rowQ F n (3 * n) 1) (rowQ F n (3 * n) 2) (tab sC n (fun i => npw (rt lg) i * shf 0)) (tab sC n (fun i => npw (rt lg) i * shf 1)) (tab sC n (fun i => npw (rt lg) i * shf 2)) M be ga B1 B2 ((i : Nat) : Int) (tpI M lg be ga i) (lwI F n M lg be ga i)).aa := by
  rw [← tpW_3, ← lwW_3]
  refine loop_ok (m := fun y : { w : Nat // w ≤ 3 } => 3 - y.val) (fun y => giI n (rowQ F n (3 * n) 0) (rowQ F n (3 * n) 1) (rowQ F n (3 * n) 2) (tab sC n (fun i => npw (rt lg) i * shf 0)) (tab sC n (fun i => npw (rt lg) i * shf 1)) (tab sC n (fun i => npw (rt lg) i * shf 2)) M be ga B1 B2 ((i : Nat) : Int) ((y.val : Nat) : Int) (tpW M lg be ga i y.val) (lwW F n M lg be ga i y.val)) (by simp) (fun y => ?_) ⟨0, by omega⟩
  obtain ⟨w, hw⟩ := y
  match w, hw with
  | 0, _ => exact .inl ⟨⟨1, by omega⟩, by show 3 - 1 < 3 - 0; decide, gs0 F lg n hn M hs be ga hbe hga hlen B1 B2 i hi⟩
  | 1, _ => exact .inl ⟨⟨2, by omega⟩, by show 3 - 2 < 3 - 1; decide, gs1 F lg n hn M hs be ga hbe hga hlen B1 B2 i hi⟩
  | 2, _ => exact .inl ⟨⟨3, by omega⟩, by show 3 - 3 < 3 - 2; decide, gs2 F lg n hn M hs be ga hbe hga hlen B1 B2 i hi⟩
  | 3, _ => exact .inr (gi_e n (rowQ F n (3 * n) 0) (rowQ F n (3 * n) 1) (rowQ F n (3 * n) 2) (tab sC n (fun i => npw (rt lg) i * shf 0)) (tab sC n (fun i => npw (rt lg) i * shf 1)) (tab sC n (fun i => npw (rt lg) i * shf 2)) M be ga B1 B2 ((i : Nat) : Int) _ _)
def glS (n : Nat) (A0 A1 A2 D0 D1 D2 : List Value) (M : Nat → List Nat) (be ga : Nat) (B1 B2 : List Value) (C1 C2 : List Value) (i : Nat) (t l : Fin Rr) (m : Nat) : LState := { n := 158, sl := [(7, .p 10 0), (12, .p 21 0), (14, .p 31 0), (15, .v (.int .i64 (((n : Nat) : Int)))), (18, .p 73 0), (19, .p 74 0), (20, .sl 78 0 n n), (21, .sl 80 0 n n), (22, .v (.int .i64 (((i : Nat) : Int)))), (23, .p 205 0), (24, .p 206 0), (68, .v (.int .i64 (((n : Nat) : Int)))), (69, .v (.int .i64 (((i : Nat) : Int))))] ++ (match Nat.testBit m 0 with | true => [(121, .sl 78 0 n n)] | false => []) ++ (match Nat.testBit m 1 with | true => [(122, .v (.int .i64 (((i : Nat) : Int))))] | false => []) ++ (match Nat.testBit m 2 with | true => [(123, .sl 80 0 n n)] | false => []) ++ (match Nat.testBit m 3 with | true => [(124, .v (.int .i64 (((i : Nat) : Int))))] | false => []) ++ (match Nat.testBit m 4 with | true => [(125, .ag [.s t])] | false => []) ++ (match Nat.testBit m 5 with | true => [(126, .ag [.s l])] | false => []) ++ (match Nat.testBit m 6 with | true => [(127, .p 78 (0 + i * 4))] | false => []) ++ (match Nat.testBit m 8 with | true => [(128, .p 80 (0 + i * 4))] | false => []), hp := [(5, .rz [.l (numC 4 (M 0))]), (6, .rz [.l (numC 4 (M 1))]), (7, .rz [.l (numC 4 (M 2))]), (10, .own [.sz 5 (M 0).length, .sz 6 (M 1).length, .sz 7 (M 2).length] 34), (15, .gr [.l A0] 44 2), (16, .gr [.l A1] 44 2), (17, .gr [.l A2] 44 2), (21, .own [.sx 15 n, .sx 16 n, .sx 17 n] 29), (25, .gr [.l D0] 73 4), (26, .gr [.l D1] 73 4), (27, .gr [.l D2] 73 4), (31, .own [.sx 25 n, .sx 26 n, .sx 27 n] 70), (73, .own [.s (ofR be)] 73), (74, .own [.s (ofR ga)] 73), (78, (match Nat.testBit m 7 with | true => (.own [.l C1] 73) | false => .own [.l B1] 73)), (80, (match Nat.testBit m 9 with | true => (.own [.l C2] 73) | false => .own [.l B2] 73)), (205, .own [.s t] 73), (206, .own [.s l] 73)] }
def glMs : List (Nat × Nat) := [(10, 0), (9, 1), (9, 2), (9, 4), (9, 8), (9, 16), (9, 32), (8, 3), (8, 5), (8, 6), (8, 9), (8, 10), (8, 12), (8, 17), (8, 18), (8, 20), (8, 24), (8, 33), (8, 34), (8, 36), (8, 40), (8, 48), (7, 7), (7, 11), (7, 13), (7, 14), (7, 19), (7, 21), (7, 22), (7, 25), (7, 26), (7, 28), (7, 35), (7, 37), (7, 38), (7, 41), (7, 42), (7, 44), (7, 49), (7, 50), (7, 52), (7, 56), (6, 15), (6, 23), (6, 27), (6, 29), (6, 30), (6, 39), (6, 43), (6, 45), (6, 46), (6, 51), (6, 53), (6, 54), (6, 57), (6, 58), (6, 60), (6, 83), (5, 31), (5, 47), (5, 55), (5, 59), (5, 61), (5, 62), (5, 87), (5, 91), (5, 115), (5, 211), (4, 63), (4, 95), (4, 119), (4, 123), (4, 215), (4, 219), (4, 243), (3, 127), (3, 223), (3, 247), (3, 251), (2, 255), (1, 511), (0, 1023)]
theorem gl_region (n : Nat) (A0 A1 A2 D0 D1 D2 : List Value) (M : Nat → List Nat) (be ga : Nat) (B1 B2 : List Value) (C1 C2 : List Value) (i : Nat) (t l : Fin Rr) (hi : i < n) (h1 : stOK B1 C1 i (flat [.s t])) (h2 : stOK B2 C2 i (flat [.s l])) : Sound Try.prog 0 false (drawB Try.f17 5) (glS n A0 A1 A2 D0 D1 D2 M be ga B1 B2 C1 C2 i t l 0).aa .normal (glS n A0 A1 A2 D0 D1 D2 M be ga B1 B2 C1 C2 i t l 1023).aa :=
  regionD_sound (P := Try.prog) (X := rulesM _) (env := []) trivial (inlN_ok (P := Try.prog) (X := rulesM _) (env := []) (os := oL [(906, rO 2 i), (907, { ch := 0, hi := fun _ => 0, ex := 5, cs := fun _ => [.l C1] }), (908, rO 2 i), (909, { ch := 0, hi := fun _ => 0, ex := 5, cs := fun _ => [.l C2] })]) trivial 0) (os := oL [(906, rO 2 i), (907, { ch := 0, hi := fun _ => 0, ex := 5, cs := fun _ => [.l C1] }), (908, rO 2 i), (909, { ch := 0, hi := fun _ => 0, ex := 5, cs := fun _ => [.l C2] })]) (fb := 0) (k := 900) (S := glS n A0 A1 A2 D0 D1 D2 M be ga B1 B2 C1 C2 i t l ) (kk := fun _ _ => 1000) (tau := fun _ _ => []) (Ms := glMs) (full := 1023) (by kernel_rfl)
    (have hR : ∀ m, some (glS n A0 A1 A2 D0 D1 D2 M be ga B1 B2 C1 C2 i t l m) = some (glS n A0 A1 A2 D0 D1 D2 M be ga B1 B2 C1 C2 i t l m) := fun _ => rfl; (And.intro (And.intro (And.intro trivial (hR 1)) (And.intro (And.intro trivial (hR 2)) (And.intro (And.intro trivial (hR 4)) (And.intro (And.intro trivial (hR 8)) (And.intro (And.intro trivial (hR 16)) (And.intro (And.intro trivial (hR 32)) trivial)))))) (And.intro (And.intro (And.intro trivial (hR 3)) (And.intro (And.intro trivial (hR 5)) (And.intro (And.intro trivial (hR 9)) (And.intro (And.intro trivial (hR 17)) (And.intro (And.intro trivial (hR 33)) trivial))))) (And.intro (And.intro (And.intro trivial (hR 3)) (And.intro (And.intro trivial (hR 6)) (And.intro (And.intro trivial (hR 10)) (And.intro (And.intro trivial (hR 18)) (And.intro (And.intro trivial (hR 34)) trivial))))) (And.intro (And.intro (And.intro trivial (hR 5)) (And.intro (And.intro trivial (hR 6)) (And.intro (And.intro trivial (hR 12)) (And.intro (And.intro trivial (hR 20)) (And.intro (And.intro trivial (hR 36)) trivial))))) (And.intro (And.intro (And.intro trivial (hR 9)) (And.intro (And.intro trivial (hR 10)) (And.intro (And.intro trivial (hR 12)) (And.intro (And.intro trivial (hR 24)) (And.intro (And.intro trivial (hR 40)) trivial))))) (And.intro (And.intro (And.intro trivial (hR 17)) (And.intro (And.intro trivial (hR 18)) (And.intro (And.intro trivial (hR 20)) (And.intro (And.intro trivial (hR 24)) (And.intro (And.intro trivial (hR 48)) trivial))))) (And.intro (And.intro (And.intro trivial (hR 33)) (And.intro (And.intro trivial (hR 34)) (And.intro (And.intro trivial (hR 36)) (And.intro (And.intro trivial (hR 40)) (And.intro (And.intro trivial (hR 48)) trivial))))) (And.intro (And.intro (And.intro trivial (hR 7)) (And.intro (And.intro trivial (hR 11)) (And.intro (And.intro trivial (hR 19)) (And.intro (And.intro trivial (hR 35)) trivial)))) (And.intro (And.intro (And.intro trivial (hR 7)) (And.intro (And.intro trivial (hR 13)) (And.intro (And.intro trivial (hR 21)) (And.intro (And.intro trivial (hR 37)) trivial)))) (And.intro (And.intro (And.intro trivial (hR 7)) (And.intro (And.intro trivial (hR 14)) (And.intro (And.intro trivial (hR 22)) (And.intro (And.intro trivial (hR 38)) trivial)))) (And.intro (And.intro (And.intro trivial (hR 11)) (And.intro (And.intro trivial (hR 13)) (And.intro (And.intro trivial (hR 25)) (And.intro (And.intro trivial (hR 41)) trivial)))) (And.intro (And.intro (And.intro trivial (hR 11)) (And.intro (And.intro trivial (hR 14)) (And.intro (And.intro trivial (hR 26)) (And.intro (And.intro trivial (hR 42)) trivial)))) (And.intro (And.intro (And.intro trivial (hR 13)) (And.intro (And.intro trivial (hR 14)) (And.intro (And.intro trivial (hR 28)) (And.intro (And.intro trivial (hR 44)) trivial)))) (And.intro (And.intro (And.intro trivial (hR 19)) (And.intro (And.intro trivial (hR 21)) (And.intro (And.intro trivial (hR 25)) (And.intro (And.intro trivial (hR 49)) trivial)))) (And.intro (And.intro (And.intro trivial (hR 19)) (And.intro (And.intro trivial (hR 22)) (And.intro (And.intro trivial (hR 26)) (And.intro (And.intro trivial (hR 50)) trivial)))) (And.intro (And.intro (And.intro trivial (hR 21)) (And.intro (And.intro trivial (hR 22)) (And.intro (And.intro trivial (hR 28)) (And.intro (And.intro trivial (hR 52)) trivial)))) (And.intro (And.intro (And.intro trivial (hR 25)) (And.intro (And.intro trivial (hR 26)) (And.intro (And.intro trivial (hR 28)) (And.intro (And.intro trivial (hR 56)) trivial)))) (And.intro (And.intro (And.intro trivial (hR 35)) (And.intro (And.intro trivial (hR 37)) (And.intro (And.intro trivial (hR 41)) (And.intro (And.intro trivial (hR 49)) trivial)))) (And.intro (And.intro (And.intro trivial (hR 35)) (And.intro (And.intro trivial (hR 38)) (And.intro (And.intro trivial (hR 42)) (And.intro (And.intro trivial (hR 50)) trivial)))) (And.intro (And.intro (And.intro trivial (hR 37)) (And.intro (And.intro trivial (hR 38)) (And.intro (And.intro trivial (hR 44)) (And.intro (And.intro trivial (hR 52)) trivial)))) (And.intro (And.intro (And.intro trivial (hR 41)) (And.intro (And.intro trivial (hR 42)) (And.intro (And.intro trivial (hR 44)) (And.intro (And.intro trivial (hR 56)) trivial)))) (And.intro (And.intro (And.intro trivial (hR 49)) (And.intro (And.intro trivial (hR 50)) (And.intro (And.intro trivial (hR 52)) (And.intro (And.intro trivial (hR 56)) trivial)))) (And.intro (And.intro (And.intro trivial (hR 15)) (And.intro (And.intro trivial (hR 23)) (And.intro (And.intro trivial (hR 39)) trivial))) (And.intro (And.intro (And.intro trivial (hR 15)) (And.intro (And.intro trivial (hR 27)) (And.intro (And.intro trivial (hR 43)) trivial))) (And.intro (And.intro (And.intro trivial (hR 15)) (And.intro (And.intro trivial (hR 29)) (And.intro (And.intro trivial (hR 45)) trivial))) (And.intro (And.intro (And.intro trivial (hR 15)) (And.intro (And.intro trivial (hR 30)) (And.intro (And.intro trivial (hR 46)) trivial))) (And.intro (And.intro (And.intro trivial (hR 23)) (And.intro (And.intro trivial (hR 27)) (And.intro (And.intro trivial (hR 51)) (And.intro (And.intro (And.intro (show ((i : Nat) : Int) = ((i : Nat) : Int) ∧ i < n from ⟨rfl, hi⟩) trivial) (hR 83)) trivial)))) (And.intro (And.intro (And.intro trivial (hR 23)) (And.intro (And.intro trivial (hR 29)) (And.intro (And.intro trivial (hR 53)) trivial))) (And.intro (And.intro (And.intro trivial (hR 23)) (And.intro (And.intro trivial (hR 30)) (And.intro (And.intro trivial (hR 54)) trivial))) (And.intro (And.intro (And.intro trivial (hR 27)) (And.intro (And.intro trivial (hR 29)) (And.intro (And.intro trivial (hR 57)) trivial))) (And.intro (And.intro (And.intro trivial (hR 27)) (And.intro (And.intro trivial (hR 30)) (And.intro (And.intro trivial (hR 58)) trivial))) (And.intro (And.intro (And.intro trivial (hR 29)) (And.intro (And.intro trivial (hR 30)) (And.intro (And.intro trivial (hR 60)) trivial))) (And.intro (And.intro (And.intro trivial (hR 39)) (And.intro (And.intro trivial (hR 43)) (And.intro (And.intro trivial (hR 51)) trivial))) (And.intro (And.intro (And.intro trivial (hR 39)) (And.intro (And.intro trivial (hR 45)) (And.intro (And.intro trivial (hR 53)) trivial))) (And.intro (And.intro (And.intro trivial (hR 39)) (And.intro (And.intro trivial (hR 46)) (And.intro (And.intro trivial (hR 54)) trivial))) (And.intro (And.intro (And.intro trivial (hR 43)) (And.intro (And.intro trivial (hR 45)) (And.intro (And.intro trivial (hR 57)) trivial))) (And.intro (And.intro (And.intro trivial (hR 43)) (And.intro (And.intro trivial (hR 46)) (And.intro (And.intro trivial (hR 58)) trivial))) (And.intro (And.intro (And.intro trivial (hR 45)) (And.intro (And.intro trivial (hR 46)) (And.intro (And.intro trivial (hR 60)) trivial))) (And.intro (And.intro (And.intro trivial (hR 51)) (And.intro (And.intro trivial (hR 53)) (And.intro (And.intro trivial (hR 57)) trivial))) (And.intro (And.intro (And.intro trivial (hR 51)) (And.intro (And.intro trivial (hR 54)) (And.intro (And.intro trivial (hR 58)) trivial))) (And.intro (And.intro (And.intro trivial (hR 53)) (And.intro (And.intro trivial (hR 54)) (And.intro (And.intro trivial (hR 60)) trivial))) (And.intro (And.intro (And.intro trivial (hR 57)) (And.intro (And.intro trivial (hR 58)) (And.intro (And.intro trivial (hR 60)) trivial))) (And.intro (And.intro (And.intro trivial (hR 31)) (And.intro (And.intro trivial (hR 47)) trivial)) (And.intro (And.intro (And.intro trivial (hR 31)) (And.intro (And.intro trivial (hR 55)) (And.intro (And.intro (And.intro (show ((i : Nat) : Int) = ((i : Nat) : Int) ∧ i < n from ⟨rfl, hi⟩) trivial) (hR 87)) trivial))) (And.intro (And.intro (And.intro trivial (hR 31)) (And.intro (And.intro trivial (hR 59)) (And.intro (And.intro (And.intro (show ((i : Nat) : Int) = ((i : Nat) : Int) ∧ i < n from ⟨rfl, hi⟩) trivial) (hR 91)) trivial))) (And.intro (And.intro (And.intro trivial (hR 31)) (And.intro (And.intro trivial (hR 61)) trivial)) (And.intro (And.intro (And.intro trivial (hR 31)) (And.intro (And.intro trivial (hR 62)) trivial)) (And.intro (And.intro (And.intro trivial (hR 47)) (And.intro (And.intro trivial (hR 55)) trivial)) (And.intro (And.intro (And.intro trivial (hR 47)) (And.intro (And.intro trivial (hR 59)) trivial)) (And.intro (And.intro (And.intro trivial (hR 47)) (And.intro (And.intro trivial (hR 61)) trivial)) (And.intro (And.intro (And.intro trivial (hR 47)) (And.intro (And.intro trivial (hR 62)) trivial)) (And.intro (And.intro (And.intro trivial (hR 55)) (And.intro (And.intro trivial (hR 59)) (And.intro (And.intro (And.intro (show ((i : Nat) : Int) = ((i : Nat) : Int) ∧ i < n from ⟨rfl, hi⟩) trivial) (hR 115)) trivial))) (And.intro (And.intro (And.intro trivial (hR 55)) (And.intro (And.intro trivial (hR 61)) trivial)) (And.intro (And.intro (And.intro trivial (hR 55)) (And.intro (And.intro trivial (hR 62)) trivial)) (And.intro (And.intro (And.intro trivial (hR 59)) (And.intro (And.intro trivial (hR 61)) trivial)) (And.intro (And.intro (And.intro trivial (hR 59)) (And.intro (And.intro trivial (hR 62)) trivial)) (And.intro (And.intro (And.intro trivial (hR 61)) (And.intro (And.intro trivial (hR 62)) trivial)) (And.intro (And.intro (And.intro trivial (hR 87)) (And.intro (And.intro trivial (hR 91)) (And.intro (And.intro trivial (hR 115)) (And.intro (And.intro (And.intro (st_cond (p := [.s t]) h1 rfl) trivial) (hR 211)) trivial)))) (And.intro (And.intro (And.intro trivial (hR 63)) (And.intro (And.intro (And.intro (show ((i : Nat) : Int) = ((i : Nat) : Int) ∧ i < n from ⟨rfl, hi⟩) trivial) (hR 95)) trivial)) (And.intro (And.intro (And.intro trivial (hR 63)) trivial) (And.intro (And.intro (And.intro trivial (hR 63)) (And.intro (And.intro (And.intro (show ((i : Nat) : Int) = ((i : Nat) : Int) ∧ i < n from ⟨rfl, hi⟩) trivial) (hR 119)) trivial)) (And.intro (And.intro (And.intro trivial (hR 63)) (And.intro (And.intro (And.intro (show ((i : Nat) : Int) = ((i : Nat) : Int) ∧ i < n from ⟨rfl, hi⟩) trivial) (hR 123)) trivial)) (And.intro (And.intro (And.intro trivial (hR 63)) trivial) (And.intro (And.intro (And.intro trivial (hR 63)) trivial) (And.intro (And.intro (And.intro trivial (hR 95)) (And.intro (And.intro trivial (hR 119)) (And.intro (And.intro (And.intro (st_cond (p := [.s t]) h1 rfl) trivial) (hR 215)) trivial))) (And.intro (And.intro (And.intro trivial (hR 95)) (And.intro (And.intro trivial (hR 123)) (And.intro (And.intro (And.intro (st_cond (p := [.s t]) h1 rfl) trivial) (hR 219)) trivial))) (And.intro (And.intro (And.intro trivial (hR 119)) (And.intro (And.intro trivial (hR 123)) (And.intro (And.intro (And.intro (st_cond (p := [.s t]) h1 rfl) trivial) (hR 243)) trivial))) (And.intro (And.intro (And.intro trivial (hR 215)) (And.intro (And.intro trivial (hR 219)) (And.intro (And.intro trivial (hR 243)) trivial))) (And.intro (And.intro (And.intro (And.intro (show ((i : Nat) : Int) = ((i : Nat) : Int) ∧ i < n from ⟨rfl, hi⟩) trivial) (hR 127)) trivial) (And.intro (And.intro (And.intro trivial (hR 127)) (And.intro (And.intro (And.intro (st_cond (p := [.s t]) h1 rfl) trivial) (hR 223)) trivial)) (And.intro (And.intro (And.intro trivial (hR 127)) (And.intro (And.intro (And.intro (st_cond (p := [.s t]) h1 rfl) trivial) (hR 247)) trivial)) (And.intro (And.intro (And.intro trivial (hR 127)) (And.intro (And.intro (And.intro (st_cond (p := [.s t]) h1 rfl) trivial) (hR 251)) trivial)) (And.intro (And.intro (And.intro trivial (hR 223)) (And.intro (And.intro trivial (hR 247)) trivial)) (And.intro (And.intro (And.intro trivial (hR 223)) (And.intro (And.intro trivial (hR 251)) trivial)) (And.intro (And.intro (And.intro trivial (hR 247)) (And.intro (And.intro trivial (hR 251)) trivial)) (And.intro (And.intro (And.intro (And.intro (st_cond (p := [.s t]) h1 rfl) trivial) (hR 255)) trivial) (And.intro (And.intro (And.intro trivial (hR 255)) trivial) (And.intro (And.intro (And.intro trivial (hR 255)) trivial) (And.intro (And.intro (And.intro trivial (hR 255)) trivial) (And.intro (And.intro (And.intro (And.intro (show ((i : Nat) : Int) = ((i : Nat) : Int) ∧ i < n from ⟨rfl, hi⟩) trivial) (hR 511)) trivial) (And.intro (And.intro (And.intro (And.intro (st_cond (p := [.s l]) h2 rfl) trivial) (hR 1023)) trivial) (And.intro trivial trivial)))))))))))))))))))))))))))))))))))))))))))))))))))))))))))))))))))))))))))))))))))
theorem go_r (n : Nat) (A0 A1 A2 D0 D1 D2 : List Value) (M : Nat → List Nat) (be ga : Nat) (B1 B2 : List Value) (i : Nat) (hi : i < n) (hn : n ≤ 1000) (t l : Fin Rr) (hin : Sound Try.prog 0 false (.loop (loopB Try.f17 2)) (giI n A0 A1 A2 D0 D1 D2 M be ga B1 B2 ((i : Nat) : Int) 0 (ofR (1 % 18446744073709551616)) (ofR (1 % 18446744073709551616))).aa (.exit 4) (giE n A0 A1 A2 D0 D1 D2 M be ga B1 B2 ((i : Nat) : Int) t l).aa) (hl : l ≠ 0) (C1 C2 : List Value) (h1 : stOK B1 C1 i (flat [.s t])) (h2 : stOK B2 C2 i (flat [.s l])) : Sound Try.prog 0 false (loopB Try.f17 1) (goI n A0 A1 A2 D0 D1 D2 M be ga B1 B2 ((i : Nat) : Int)).aa .normal (goI n A0 A1 A2 D0 D1 D2 M be ga C1 C2 ((i + 1 : Nat) : Int)).aa := by
  have hh := roundK_sound (P := Try.prog) (X := rulesM _) (env := [eSmS, eInSq, eTimesS, ePlusS, eIsZeS, eOutS]) ⟨eSmS_ok, eInSq_ok, eTimesS_ok, ePlusS_ok, eIsZeS_ok, eOutS_ok, trivial⟩ (n := 0) (os := (oL [(200, wT), (210, lpO { I := giI n A0 A1 A2 D0 D1 D2 M be ga B1 B2 ((i : Nat) : Int) 0 (ofR (1 % 18446744073709551616)) (ofR (1 % 18446744073709551616)), ex := .exit 4, E := giE n A0 A1 A2 D0 D1 D2 M be ga B1 B2 ((i : Nat) : Int) t l, fr := 211 }), (212, wO 1), (213, lpO { kd := 5, I := glS n A0 A1 A2 D0 D1 D2 M be ga B1 B2 C1 C2 i t l 0, ex := .normal, E := glS n A0 A1 A2 D0 D1 D2 M be ga B1 B2 C1 C2 i t l 1023, fr := 223 })])) (fb := 0) (rd := false) (c := (loopB Try.f17 1)) (k := 200) (I := goI n A0 A1 A2 D0 D1 D2 M be ga B1 B2 ((i : Nat) : Int)) (sk := [7, 12, 14, 15, 18, 19, 20, 21, 68, 69]) (hk := [5, 6, 7, 10, 15, 16, 17, 21, 25, 26, 27, 31, 73, 74, 78, 80]) (lk := []) (ex := .normal)
    (L := goI n A0 A1 A2 D0 D1 D2 M be ga C1 C2 (IntKind.i64.wrap (((i : Nat) : Int) + 1))) (by kernel_rfl)
    (And.intro (show some (glS n A0 A1 A2 D0 D1 D2 M be ga B1 B2 C1 C2 i t l 0) = some (glS n A0 A1 A2 D0 D1 D2 M be ga B1 B2 C1 C2 i t l 0) from rfl)
    (And.intro (gl_region n A0 A1 A2 D0 D1 D2 M be ga B1 B2 C1 C2 i t l hi h1 h2)
    (And.intro (show l ≠ 0 from hl)
    (And.intro (show some (giI n A0 A1 A2 D0 D1 D2 M be ga B1 B2 ((i : Nat) : Int) 0 (ofR (1 % 18446744073709551616)) (ofR (1 % 18446744073709551616))) = some (giI n A0 A1 A2 D0 D1 D2 M be ga B1 B2 ((i : Nat) : Int) 0 (ofR (1 % 18446744073709551616)) (ofR (1 % 18446744073709551616))) from rfl)
    (And.intro (hin)
    (And.intro (show decide (((i : Nat) : Int) < ((n : Nat) : Int)) = true from decide_eq_true (by omega)) trivial))))))
  rw [r_next (by omega)] at hh
  exact hh
theorem go_d (n : Nat) (A0 A1 A2 D0 D1 D2 : List Value) (M : Nat → List Nat) (be ga : Nat) (B1 B2 : List Value) (i : Nat) (hi : i < n) (hn : n ≤ 1000) (t l : Fin Rr) (hin : Sound Try.prog 0 false (.loop (loopB Try.f17 2)) (giI n A0 A1 A2 D0 D1 D2 M be ga B1 B2 ((i : Nat) : Int) 0 (ofR (1 % 18446744073709551616)) (ofR (1 % 18446744073709551616))).aa (.exit 4) (giE n A0 A1 A2 D0 D1 D2 M be ga B1 B2 ((i : Nat) : Int) t l).aa) (hl : l = 0) : Sound Try.prog 0 false (loopB Try.f17 1) (goI n A0 A1 A2 D0 D1 D2 M be ga B1 B2 ((i : Nat) : Int)).aa .ret (goD).aa := by
  have hh := roundK_sound (P := Try.prog) (X := rulesM _) (env := [eSmS, eInSq, eTimesS, ePlusS, eIsZeS, eOutS]) ⟨eSmS_ok, eInSq_ok, eTimesS_ok, ePlusS_ok, eIsZeS_ok, eOutS_ok, trivial⟩ (n := 0) (os := (oL [(200, wT), (210, lpO { I := giI n A0 A1 A2 D0 D1 D2 M be ga B1 B2 ((i : Nat) : Int) 0 (ofR (1 % 18446744073709551616)) (ofR (1 % 18446744073709551616)), ex := .exit 4, E := giE n A0 A1 A2 D0 D1 D2 M be ga B1 B2 ((i : Nat) : Int) t l, fr := 211 }), (212, wO 0)])) (fb := 0) (rd := false) (c := (loopB Try.f17 1)) (k := 200) (I := goI n A0 A1 A2 D0 D1 D2 M be ga B1 B2 ((i : Nat) : Int)) (sk := [10, 11]) (hk := []) (lk := []) (ex := .ret)
    (L := goD) (by kernel_rfl)
    (And.intro (show l = 0 from hl)
    (And.intro (show some (giI n A0 A1 A2 D0 D1 D2 M be ga B1 B2 ((i : Nat) : Int) 0 (ofR (1 % 18446744073709551616)) (ofR (1 % 18446744073709551616))) = some (giI n A0 A1 A2 D0 D1 D2 M be ga B1 B2 ((i : Nat) : Int) 0 (ofR (1 % 18446744073709551616)) (ofR (1 % 18446744073709551616))) from rfl)
    (And.intro (hin)
    (And.intro (show decide (((i : Nat) : Int) < ((n : Nat) : Int)) = true from decide_eq_true (by omega)) trivial))))
  exact hh
theorem go_e (n : Nat) (A0 A1 A2 D0 D1 D2 : List Value) (M : Nat → List Nat) (be ga : Nat) (B1 B2 : List Value)  : Sound Try.prog 0 false (loopB Try.f17 1) (goI n A0 A1 A2 D0 D1 D2 M be ga B1 B2 ((n : Nat) : Int)).aa (.exit 2) (goE n B1 B2).aa := by
  have hh := roundK_sound (P := Try.prog) (X := rulesM _) (env := []) trivial (n := 0) (os := (oL [(200, wF)])) (fb := 0) (rd := false) (c := (loopB Try.f17 1)) (k := 200) (I := goI n A0 A1 A2 D0 D1 D2 M be ga B1 B2 ((n : Nat) : Int)) (sk := [15, 20, 21]) (hk := [78, 80]) (lk := []) (ex := (.exit 2))
    (L := goE n B1 B2) (by kernel_rfl)
    (And.intro (show decide (((n : Nat) : Int) < ((n : Nat) : Int)) = false from decide_eq_false (by omega)) trivial)
  exact hh
theorem go_step (F : Nat → Int) (lg n : Nat) (hn : n ≤ 1000) (M : Nat → List Nat) (hs : ∀ w x, x ∈ M w → x < 115792089237316195423570985008687907853269984665640564039457584007913129639936) (be ga : Nat) (hbe : be < 115792089237316195423570985008687907853269984665640564039457584007913129639936) (hga : ga < 115792089237316195423570985008687907853269984665640564039457584007913129639936) (hlen : ∀ w, w < 3 → (M w).length = n) (i : Nat) (hi : i < n) (hz : lwI F n M lg be ga i ≠ 0) : Sound Try.prog 0 false (loopB Try.f17 1) (goI n (rowQ F n (3 * n) 0) (rowQ F n (3 * n) 1) (rowQ F n (3 * n) 2) (tab sC n (fun i => npw (rt lg) i * shf 0)) (tab sC n (fun i => npw (rt lg) i * shf 1)) (tab sC n (fun i => npw (rt lg) i * shf 2)) M be ga (tab sC n (fun j => if j < i then tpI M lg be ga j else 0)) (tab sC n (fun j => if j < i then lwI F n M lg be ga j else 0)) ((i : Nat) : Int)).aa .normal (goI n (rowQ F n (3 * n) 0) (rowQ F n (3 * n) 1) (rowQ F n (3 * n) 2) (tab sC n (fun i => npw (rt lg) i * shf 0)) (tab sC n (fun i => npw (rt lg) i * shf 1)) (tab sC n (fun i => npw (rt lg) i * shf 2)) M be ga (tab sC n (fun j => if j < i + 1 then tpI M lg be ga j else 0)) (tab sC n (fun j => if j < i + 1 then lwI F n M lg be ga j else 0)) ((i + 1 : Nat) : Int)).aa :=
  go_r n (rowQ F n (3 * n) 0) (rowQ F n (3 * n) 1) (rowQ F n (3 * n) 2) (tab sC n (fun i => npw (rt lg) i * shf 0)) (tab sC n (fun i => npw (rt lg) i * shf 1)) (tab sC n (fun i => npw (rt lg) i * shf 2)) M be ga (tab sC n (fun j => if j < i then tpI M lg be ga j else 0)) (tab sC n (fun j => if j < i then lwI F n M lg be ga j else 0)) i hi hn _ _ (gs_all F lg n hn M hs be ga hbe hga hlen _ _ i hi) hz _ _
    (tab_set sC sC_len n (fun j => if j < i then tpI M lg be ga j else 0) (fun j => if j < i + 1 then tpI M lg be ga j else 0) i hi (tpI M lg be ga i) (if_pos (by omega)) step_ite)
    (tab_set sC sC_len n (fun j => if j < i then lwI F n M lg be ga j else 0) (fun j => if j < i + 1 then lwI F n M lg be ga j else 0) i hi (lwI F n M lg be ga i) (if_pos (by omega)) step_ite)
theorem tab_none (f : Nat → Fin Rr) (n : Nat) : tab sC n (fun j => if j < 0 then f j else 0) = tab sC n (fun _ => 0) := tab_congr _ _ _ _ (fun j _ => if_neg (Nat.not_lt_zero j))
theorem tab_full (f : Nat → Fin Rr) (n : Nat) : tab sC n (fun j => if j < n then f j else 0) = tab sC n f := tab_congr _ _ _ _ (fun j hj => if_pos hj)
theorem go_all (F : Nat → Int) (lg n : Nat) (hn : n ≤ 1000) (M : Nat → List Nat) (hs : ∀ w x, x ∈ M w → x < 115792089237316195423570985008687907853269984665640564039457584007913129639936) (be ga : Nat) (hbe : be < 115792089237316195423570985008687907853269984665640564039457584007913129639936) (hga : ga < 115792089237316195423570985008687907853269984665640564039457584007913129639936) (hlen : ∀ w, w < 3 → (M w).length = n) (hz : ∀ i, i < n → lwI F n M lg be ga i ≠ 0) : Sound Try.prog 0 false (.loop (loopB Try.f17 1)) (goI n (rowQ F n (3 * n) 0) (rowQ F n (3 * n) 1) (rowQ F n (3 * n) 2) (tab sC n (fun i => npw (rt lg) i * shf 0)) (tab sC n (fun i => npw (rt lg) i * shf 1)) (tab sC n (fun i => npw (rt lg) i * shf 2)) M be ga (tab sC n (fun _ => 0)) (tab sC n (fun _ => 0)) 0).aa (.exit 2) (goE n (tab sC n (tpI M lg be ga)) (tab sC n (lwI F n M lg be ga))).aa := by
  have hh := loop_ok (P := Try.prog) (fb := 0) (rd := false) (body := (loopB Try.f17 1)) (ex := .exit 2) (E := goE n (tab sC n (fun j => if j < n then tpI M lg be ga j else 0)) (tab sC n (fun j => if j < n then lwI F n M lg be ga j else 0))) (m := fun y : { i : Nat // i ≤ n } => n - y.val) (fun y => goI n (rowQ F n (3 * n) 0) (rowQ F n (3 * n) 1) (rowQ F n (3 * n) 2) (tab sC n (fun i => npw (rt lg) i * shf 0)) (tab sC n (fun i => npw (rt lg) i * shf 1)) (tab sC n (fun i => npw (rt lg) i * shf 2)) M be ga (tab sC n (fun j => if j < y.val then tpI M lg be ga j else 0)) (tab sC n (fun j => if j < y.val then lwI F n M lg be ga j else 0)) ((y.val : Nat) : Int)) (by simp) (fun y => ?_) ⟨0, by omega⟩
  · simp only [tab_none, tab_full] at hh
    exact hh
  obtain ⟨i, hi⟩ := y
  by_cases e : i < n
  · exact .inl ⟨⟨i + 1, e⟩, by show n - (i + 1) < n - i; omega, go_step F lg n hn M hs be ga hbe hga hlen i e (hz i e)⟩
  · have e : i = n := by omega
    refine .inr ?_
    show Sound _ _ _ _ (goI n (rowQ F n (3 * n) 0) (rowQ F n (3 * n) 1) (rowQ F n (3 * n) 2) (tab sC n (fun i => npw (rt lg) i * shf 0)) (tab sC n (fun i => npw (rt lg) i * shf 1)) (tab sC n (fun i => npw (rt lg) i * shf 2)) M be ga (tab sC n (fun j => if j < i then tpI M lg be ga j else 0)) (tab sC n (fun j => if j < i then lwI F n M lg be ga j else 0)) ((i : Nat) : Int)).aa _ _
    rw [e]
    exact go_e n (rowQ F n (3 * n) 0) (rowQ F n (3 * n) 1) (rowQ F n (3 * n) 2) (tab sC n (fun i => npw (rt lg) i * shf 0)) (tab sC n (fun i => npw (rt lg) i * shf 1)) (tab sC n (fun i => npw (rt lg) i * shf 2)) M be ga (tab sC n (fun j => if j < n then tpI M lg be ga j else 0)) (tab sC n (fun j => if j < n then lwI F n M lg be ga j else 0))
theorem go_no (F : Nat → Int) (lg n : Nat) (hn : n ≤ 1000) (M : Nat → List Nat) (hs : ∀ w x, x ∈ M w → x < 115792089237316195423570985008687907853269984665640564039457584007913129639936) (be ga : Nat) (hbe : be < 115792089237316195423570985008687907853269984665640564039457584007913129639936) (hga : ga < 115792089237316195423570985008687907853269984665640564039457584007913129639936) (hlen : ∀ w, w < 3 → (M w).length = n) (j : Nat) (hj : j < n) (hd : lwI F n M lg be ga j = 0) (hz : ∀ i, i < j → lwI F n M lg be ga i ≠ 0) : Sound Try.prog 0 false (.loop (loopB Try.f17 1)) (goI n (rowQ F n (3 * n) 0) (rowQ F n (3 * n) 1) (rowQ F n (3 * n) 2) (tab sC n (fun i => npw (rt lg) i * shf 0)) (tab sC n (fun i => npw (rt lg) i * shf 1)) (tab sC n (fun i => npw (rt lg) i * shf 2)) M be ga (tab sC n (fun _ => 0)) (tab sC n (fun _ => 0)) 0).aa .ret goD.aa := by
  have hh := loop_ok (P := Try.prog) (fb := 0) (rd := false) (body := (loopB Try.f17 1)) (ex := .ret) (E := goD) (m := fun y : { i : Nat // i ≤ j } => j - y.val) (fun y => goI n (rowQ F n (3 * n) 0) (rowQ F n (3 * n) 1) (rowQ F n (3 * n) 2) (tab sC n (fun i => npw (rt lg) i * shf 0)) (tab sC n (fun i => npw (rt lg) i * shf 1)) (tab sC n (fun i => npw (rt lg) i * shf 2)) M be ga (tab sC n (fun j => if j < y.val then tpI M lg be ga j else 0)) (tab sC n (fun j => if j < y.val then lwI F n M lg be ga j else 0)) ((y.val : Nat) : Int)) (by simp) (fun y => ?_) ⟨0, by omega⟩
  · simp only [tab_none] at hh
    exact hh
  obtain ⟨i, hi⟩ := y
  by_cases e : i < j
  · exact .inl ⟨⟨i + 1, e⟩, by show j - (i + 1) < j - i; omega, go_step F lg n hn M hs be ga hbe hga hlen i (by omega) (hz i e)⟩
  · have e : i = j := by omega
    subst e
    exact .inr (go_d n (rowQ F n (3 * n) 0) (rowQ F n (3 * n) 1) (rowQ F n (3 * n) 2) (tab sC n (fun i => npw (rt lg) i * shf 0)) (tab sC n (fun i => npw (rt lg) i * shf 1)) (tab sC n (fun i => npw (rt lg) i * shf 2)) M be ga (tab sC n (fun j => if j < i then tpI M lg be ga j else 0)) (tab sC n (fun j => if j < i then lwI F n M lg be ga j else 0)) i hj hn _ _ (gs_all F lg n hn M hs be ga hbe hga hlen _ _ i hj) hd)
end Go.Proofs.Ytoigbjimhcgolaa
