/- Whatever circuit, log, variables and numbers are given, chirographlaw19.SigmaCloses says true: values taken from variables close. -/
import Derived.Test.YtoigbjimhcgolaaQZhOpn
import Derived.Test.YtoigbjimhcgolaaQGa
import Derived.Deep.Slices
import Derived.Carry
import Derived.HandedShaped
import Derived.Test.YtoigbjimhcgolaaQGf
import Derived.Test.YtoigbjimhcgolaaQIa
import Derived.Test.YtoigbjimhcgolaaQHa
import Derived.ChangeMaps5
import Derived.Test.YtoigbjimhcgolaaRows
import Derived.Test.YtoigbjimhcgolaaQGLskx
/- Arguments that hold slices of plain rows, opened: what their cells are. Nothing here names a program. -/
set_option linter.unusedSimpArgs false
set_option linter.unusedVariables false
namespace Go.Ev
open Go.ChangeShapes Go.WideShapes Go.ChangeAt Go.RowKit

/-- What a cell is: a plain one; a slice whose elements have such plain cells. -/
inductive Sh where
  | k (x : K)
  | s (ks : List K)
def Sh.k? : Sh → Option K
  | .k x => some x
  | .s _ => none
def plain : List Sh → Option (List K)
  | [] => some []
  | a :: l => match a.k?, plain l with | some x, some r => some (x :: r) | _, _ => none
def repS : Nat → List Sh → List Sh
  | 0, _ => []
  | n + 1, a => a ++ repS n a
theorem repS_length : ∀ n a, (repS n a).length = n * a.length
  | 0, a => by simp [repS]
  | n + 1, a => by simp [repS, repS_length n a, Nat.add_mul, Nat.add_comm]
def shF (P : Program) (sh : TypeId → Option (List Sh)) : List Field → Nat → Option (List Sh)
  | [], _ => some []
  | f :: fs, o =>
    match Nat.beq f.offset o, sh f.type with
    | true, some a => (match Nat.beq a.length (P.cellsOf f.type), shF P sh fs (o + a.length) with | true, some r => some (a ++ r) | _, _ => none)
    | _, _ => none
def shT (P : Program) : Nat → TypeId → Option (List Sh)
  | 0, _ => none
  | d + 1, t =>
    match P.underlying t with
    | some .bool => some [.k .b]
    | some (.int q) => some [.k (.i q)]
    | some (.array n e) =>
      match shT P d e with
      | some a => (match Nat.beq a.length (P.cellsOf e), Nat.beq (n * a.length) (P.cellsOf t) with | true, true => some (repS n a) | _, _ => none)
      | none => none
    | some (.struct fs) =>
      match shF P (shT P d) fs.toList 0 with
      | some a => (match Nat.beq a.length (P.cellsOf t) with | true => some a | false => none)
      | none => none
    | some (.slice e) =>
      match shT P d e with
      | some a => (match Nat.beq a.length (P.cellsOf e), plain a with | true, some ks => some [.s ks] | _, _ => none)
      | none => none
    | _ => none

/-- A slice of such rows. -/
def SlIs (w : World) (v : Value) (rows : List (List Value)) : Prop :=
  (v = .slice none 0 0 ∧ rows = []) ∨ ∃ a cap, v = .slice (some a) rows.length cap ∧ rows.length ≤ cap ∧ cap ≤ 9223372036854775807 ∧ ∀ j x, rows.flatten[j]? = some x → w.cell? (a.add j) = some x
def fit1 (w : World) (v : Value) : Sh → Prop
  | .k x => fitK v x
  | .s ks => ∃ rows : List (List Value), (∀ c, c ∈ rows → Fit c ks) ∧ SlIs w v rows
def ShFits (w : World) : List Value → List Sh → Prop
  | [], [] => True
  | v :: vs, s :: ss => fit1 w v s ∧ ShFits w vs ss
  | _, _ => False
theorem ShFits.append {w : World} : ∀ {a b : List Value} {s t : List Sh}, ShFits w a s → ShFits w b t → ShFits w (a ++ b) (s ++ t)
  | [], b, [], t, _, h => h
  | v :: a, b, s :: ss, t, h, h' => ⟨h.1, h.2.append h'⟩
  | [], _, _ :: _, _, h, _ => h.elim
  | _ :: _, _, [], _, h, _ => h.elim
theorem ShFits.plain {w : World} : ∀ {a : List Value} {s : List Sh} {ks : List K}, ShFits w a s → Go.Ev.plain s = some ks → Fit a ks
  | [], [], ks, _, h => by simp only [Go.Ev.plain, Option.some.injEq] at h; subst h; trivial
  | v :: a, s :: ss, ks, hf, h => by
    simp only [Go.Ev.plain] at h
    split at h
    · rename_i x r h1 h2
      simp only [Option.some.injEq] at h; subst h
      cases s with
      | k y => simp only [Sh.k?, Option.some.injEq] at h1; subst h1; exact ⟨hf.1, hf.2.plain h2⟩
      | s _ => simp [Sh.k?] at h1
    · cases h
  | [], _ :: _, _, h, _ => h.elim
  | _ :: _, [], _, h, _ => h.elim
/-- Rows of like length, one behind another: where a cell comes from. -/
theorem flatten_get {α : Type} {k : Nat} : ∀ (rows : List (List α)) (q : Nat) (x : α), (∀ c, c ∈ rows → c.length = k) → rows.flatten[q]? = some x → ∃ i j row, rows[i]? = some row ∧ row[j]? = some x ∧ q = i * k + j
  | [], q, x, _, h => by simp at h
  | r :: rows, q, x, hl, h => by
    have hr : r.length = k := hl r (by simp)
    rw [List.flatten_cons] at h
    by_cases hq : q < r.length
    · rw [List.getElem?_append_left hq] at h
      exact ⟨0, q, r, rfl, h, by omega⟩
    · rw [List.getElem?_append_right (by omega)] at h
      obtain ⟨i, j, row, h1, h2, h3⟩ := flatten_get rows _ x (fun c hc => hl c (by simp [hc])) h
      refine ⟨i + 1, j, row, by simpa using h1, h2, ?_⟩
      rw [Nat.add_mul, Nat.one_mul]; omega

section
variable {H : Type} {enc : TypeId × Value → H} {P : Program} {w : World} {base : Nat} {spare : Nat → Bool} {held : Bool}

theorem shF_fits {sh : TypeId → Option (List Sh)} {cs : List Value} : ∀ (fs : List Field) (o : Nat) (r : List Sh), shF P sh fs o = some r →
    (∀ f, f ∈ fs → ∀ a, sh f.type = some a → a.length = P.cellsOf f.type → ShFits w ((cs.drop f.offset).take (P.cellsOf f.type)) a) → ShFits w ((cs.drop o).take r.length) r
  | [], o, r, h, _ => by simp only [shF, Option.some.injEq] at h; subst h; simp [ShFits]
  | f :: fs, o, r, h, hf => by
    simp only [shF] at h
    split at h
    · rename_i a ho ha
      split at h
      · rename_i r' hl hr
        simp only [Option.some.injEq] at h; subst h
        have ho := Nat.eq_of_beq_eq_true ho
        have hl := Nat.eq_of_beq_eq_true hl
        have h1 := hf f (by simp) a ha hl
        rw [ho, ← hl] at h1
        have h2 := shF_fits fs _ _ hr (fun g hg => hf g (by simp [hg]))
        rw [List.length_append, List.take_add, List.drop_drop]
        exact h1.append h2
      · cases h
    · cases h

theorem repS_fits {a : List Sh} {cs : List Value} : ∀ (n o : Nat), (∀ i, i < n → ShFits w ((cs.drop (o + i * a.length)).take a.length) a) → ShFits w ((cs.drop o).take (repS n a).length) (repS n a)
  | 0, o, _ => by simp [repS, ShFits]
  | n + 1, o, h => by
    have h0 := h 0 (by omega)
    rw [Nat.zero_mul, Nat.add_zero] at h0
    have h1 := repS_fits (a := a) (cs := cs) n (o + a.length) (fun i hi => by
      have := h (i + 1) (by omega)
      rwa [Nat.add_mul, Nat.one_mul, Nat.add_comm (i * a.length), ← Nat.add_assoc] at this)
    rw [show repS (n + 1) a = a ++ repS n a from rfl, List.length_append, List.take_add, List.drop_drop]
    exact h0.append h1

theorem sh_trod : ∀ (d fuel : Nat) (t : TypeId) (cs : List Value) (x : DataW H × List MemPlace) (ss : List Sh), shT P d t = some ss → DataW.trod enc P w base spare held fuel t cs = some x → ShFits w cs ss
  | 0, _, _, _, _, _, h, _ => by simp [shT] at h
  | d + 1, fuel, t, cs, x, ss, h, hx => by
    unfold shT at h
    split at h
    · rename_i hu
      simp only [Option.some.injEq] at h; subst h
      obtain ⟨b, rfl, rfl⟩ := DataW.trod_bool hu hx
      exact ⟨trivial, trivial⟩
    · rename_i q hu
      simp only [Option.some.injEq] at h; subst h
      obtain ⟨n, rfl, rfl, hw⟩ := DataW.trod_int hu hx
      exact ⟨⟨rfl, hw⟩, trivial⟩
    · rename_i n e hu
      split at h
      · rename_i a ha
        split at h
        · rename_i h1 h2
          simp only [Option.some.injEq] at h; subst h
          have h1 := Nat.eq_of_beq_eq_true h1
          have h2 := Nat.eq_of_beq_eq_true h2
          obtain ⟨xs, m, rfl, rfl, hl, hn, hg⟩ := DataW.trod_array hu hx
          have key := repS_fits (w := w) (a := a) (cs := cs) n 0 (fun i hi => by
            rw [Nat.zero_add, h1]
            have hgi := hg i hi
            rw [List.getElem?_eq_getElem (by omega)] at hgi
            exact sh_trod d m e _ _ a ha hgi)
          rw [List.drop_zero, repS_length, h2, ← hl, List.take_length] at key
          exact key
        · cases h
      · cases h
    · rename_i fs hu
      split at h
      · rename_i a ha
        split at h
        · rename_i h1
          simp only [Option.some.injEq] at h; subst h
          have h1 := Nat.eq_of_beq_eq_true h1
          obtain ⟨xs, m, rfl, rfl, hl, hn, hg⟩ := DataW.trod_struct hu hx
          have key := shF_fits (w := w) (cs := cs) fs.toList 0 _ ha (fun f hf a' ha' hl' => by
            obtain ⟨i, hi⟩ := List.mem_iff_getElem?.1 hf
            have hgi := hg i f (by simpa using hi)
            have hlt : i < fs.toList.length := (List.getElem?_eq_some_iff.1 hi).1
            rw [List.getElem?_eq_getElem (by rw [hn]; simpa using hlt)] at hgi
            exact sh_trod d m f.type _ _ a' ha' hgi)
          rw [List.drop_zero, h1, ← hl, List.take_length] at key
          exact key
        · cases h
      · cases h
    · rename_i e hu
      split at h
      · rename_i a ha
        split at h
        · rename_i ks h1 h2
          simp only [Option.some.injEq] at h; subst h
          have h1 := Nat.eq_of_beq_eq_true h1
          rcases Go.Deep.open_slice hu hx with ⟨rfl, rfl⟩ | ⟨ad, len, cap, m, n, D, Pl, rfl, hb, hl, hm, hmm, rfl, hg⟩
          · exact ⟨⟨[], (fun c hc => by cases hc), .inl ⟨rfl, rfl⟩⟩, trivial⟩
          · have hle : len ≤ m := by rw [hmm]; split <;> omega
            obtain ⟨f, hf⟩ := Go.Deep.choose_lt (α := List Value) (n := len) (p := fun i c => w.cells? base (ad.add (i * P.cellsOf e)) (P.cellsOf e) = some c ∧ Fit c ks) (fun i hi => by
              obtain ⟨c, c1, c2⟩ := hg i (by omega)
              exact ⟨c, c1, (sh_trod d n e _ _ a ha c2).plain h2⟩)
            have hk : P.cellsOf e = ks.length := by
              have : ∀ (s : List Sh) (k : List K), plain s = some k → s.length = k.length := fun s => by
                induction s with
                | nil => intro k hk; simp only [plain, Option.some.injEq] at hk; subst hk; rfl
                | cons y s ih =>
                  intro k hk
                  simp only [plain] at hk
                  split at hk
                  · rename_i x r e1 e2
                    simp only [Option.some.injEq] at hk; subst hk
                    simp [ih r e2]
                  · cases hk
              rw [← h1]; exact this a ks h2
            refine ⟨⟨(List.range len).map f, fun c hc => ?_, .inr ⟨ad, cap, by simp, by simpa using hl, by unfold maxLen at hm; omega, fun j x hj => ?_⟩⟩, trivial⟩
            · obtain ⟨i, hi, rfl⟩ := List.mem_map.1 hc
              exact (hf i (List.mem_range.1 hi)).2
            · obtain ⟨i, q, row, g1, g2, rfl⟩ := flatten_get (k := ks.length) _ j x (fun c hc => by
                obtain ⟨i, hi, rfl⟩ := List.mem_map.1 hc
                exact (hf i (List.mem_range.1 hi)).2.length) hj
              rw [List.getElem?_map] at g1
              obtain ⟨i', hi', rfl⟩ := Option.map_eq_some_iff.1 g1
              have hi2 : i < len := by
                have := (List.getElem?_eq_some_iff.1 hi').1
                simpa using this
              have : i' = i := by
                rw [List.getElem?_range hi2] at hi'
                exact (Option.some.inj hi').symm
              subst this
              obtain ⟨c1, c2⟩ := hf i' hi2
              obtain ⟨_, c4, c5⟩ := World.cells?_some c1
              have hq : q < P.cellsOf e := by rw [← c4]; exact (List.getElem?_eq_some_iff.1 g2).1
              have := c5 q hq
              rw [g2, Go.Deep.add_add, hk] at this
              exact this
        · cases h
      · cases h
    · cases h
end

theorem ShFits.cons_s {w : World} {cl : List Value} {ks : List K} {ss : List Sh} (h : ShFits w cl (.s ks :: ss)) : ∃ v vs rows, cl = v :: vs ∧ (∀ c, c ∈ rows → Fit c ks) ∧ SlIs w v rows ∧ ShFits w vs ss := by
  cases cl with
  | nil => exact h.elim
  | cons v vs => obtain ⟨⟨rows, h1, h2⟩, h3⟩ := h; exact ⟨v, vs, rows, rfl, h1, h2, h3⟩
theorem ShFits.cons_i {w : World} {cl : List Value} {q : IntKind} {ss : List Sh} (h : ShFits w cl (.k (.i q) :: ss)) : ∃ z vs, cl = .int q z :: vs ∧ (Lit.int q z).wf = true ∧ ShFits w vs ss := by
  cases cl with
  | nil => exact h.elim
  | cons v vs =>
    obtain ⟨h1, h3⟩ := h
    cases v <;> simp only [fit1, fitK] at h1
    obtain ⟨rfl, h2⟩ := h1
    exact ⟨_, vs, rfl, h2, h3⟩
theorem ShFits.nil_eq {w : World} {cl : List Value} (h : ShFits w cl []) : cl = [] := by
  cases cl with
  | nil => rfl
  | cons v vs => exact h.elim
/-- Plain kinds. -/
def kS (ks : List K) : List Sh := ks.map Sh.k
theorem ShFits.take {w : World} : ∀ {cl : List Value} (ks : List K) {ss : List Sh}, ShFits w cl (kS ks ++ ss) → ∃ a b, cl = a ++ b ∧ Fit a ks ∧ ShFits w b ss
  | cl, [], ss, h => ⟨[], cl, rfl, trivial, h⟩
  | [], k :: ks, ss, h => h.elim
  | v :: cl, k :: ks, ss, h => by
    obtain ⟨a, b, e, h1, h2⟩ := ShFits.take ks (ss := ss) h.2
    exact ⟨v :: a, b, by rw [e]; rfl, ⟨h.1, h1⟩, h2⟩

/-- A slice among the cells of an argument points to cells. -/
theorem cell_slice {P : Program} {w : World} {r : Reach} {b0 : Nat} {t : TypeId} {a : Addr} {len cap : Nat} (h : Cell.okWide P w r b0 t (.slice (some a) len cap)) : a.spot = none ∧ a.block < w.heap.size := by
  have h2 : Cell.ok P w r b0 t (.slice (some a) len cap) := by
    unfold Cell.okWide at h
    split at h <;> first | exact h | (rename_i e; cases e)
  unfold Cell.ok at h2
  split at h2 <;> first | (rename_i e; cases e; done) | skip
  all_goals first
    | (rename_i e1 e2; simp at e2; done)
    | (exact h2.elim)
    | (rename_i e a' len' cap' hu hv
       simp only [Value.slice.injEq, Option.some.injEq] at hv
       obtain ⟨rfl, rfl, rfl⟩ := hv
       obtain ⟨_, _, _, hs, row, cells, hsh, _⟩ := h2
       refine ⟨hs, ?_⟩
       unfold World.shape? at hsh
       split at hsh
       · rename_i c el fz hb
         exact (Array.getElem?_eq_some_iff.1 hb).1
       · cases hsh)

theorem agg_slice {P : Program} {w : World} {r : Reach} {b0 : Nat} {t : TypeId} {cs : Array Value} (ha : aggT P t = true) (h : Value.okWide P w r b0 t (.agg cs)) {a : Addr} {len cap : Nat} (hm : Value.slice (some a) len cap ∈ cs.toList) :
    a.spot = none ∧ a.block < w.heap.size := by
  unfold aggT at ha
  unfold Value.okWide at h
  split at ha
  · rename_i fs hu
    rw [hu] at h
    obtain ⟨cs', e, _, ts, _, _, hr⟩ := h
    simp only [Value.agg.injEq] at e; subst e
    obtain ⟨i, hi⟩ := List.mem_iff_getElem?.1 hm
    obtain ⟨u, _, h2⟩ := hr i _ (by simpa using hi)
    exact cell_slice h2
  · rename_i n e hu
    rw [hu] at h
    obtain ⟨cs', e, _, ts, _, _, hr⟩ := h
    simp only [Value.agg.injEq] at e; subst e
    obtain ⟨i, hi⟩ := List.mem_iff_getElem?.1 hm
    obtain ⟨u, _, h2⟩ := hr i _ (by simpa using hi)
    exact cell_slice h2
  · cases ha

/-- What a slice of rows is to the evaluator. -/
theorem SlIs.zrep {w : World} {v : Value} {rows : List (List Value)} (h : SlIs w v rows) (h0 : 0 < w.heap.size) (hs : ∀ a len cap, v = .slice (some a) len cap → a.spot = none ∧ a.block < w.heap.size) : ZRep w [.l rows.flatten] rows.length v := by
  refine ⟨rfl, h0, ?_⟩
  rcases h with ⟨rfl, rfl⟩ | ⟨⟨b, off, sp⟩, cap, rfl, h1, h2, h3⟩
  · exact .inl ⟨rfl, by simp [flat, Ch.cells], rfl⟩
  · obtain ⟨e1, e2⟩ := hs _ _ _ rfl
    simp only at e1 e2
    subst e1
    refine .inr ⟨b, off, cap - rows.length, by rw [Nat.add_sub_cancel' h1], e2, fun j x hj => ?_⟩
    rw [flat_l] at hj
    have := h3 j x hj
    rwa [Addr.add_mid] at this
theorem SlIs.len {w : World} {v : Value} {rows : List (List Value)} (h : SlIs w v rows) : rows.length ≤ 9223372036854775807 := by
  rcases h with ⟨rfl, rfl⟩ | ⟨a, cap, rfl, h1, h2, h3⟩
  · simp
  · omega
/-- The heap of a started program has blocks. -/
theorem heap_pos {P : Program} {w : World} (h : w.ShapedOpen P) (hp : P.globals.size < (begin P (fun _ _ => 0) default).world.heap.size) : 0 < w.heap.size := by
  obtain ⟨_, h2⟩ := h
  obtain ⟨o, o0, h3, _⟩ := h2 P.globals.size (Nat.le_refl _) hp
  have := (Array.getElem?_eq_some_iff.1 h3).1
  omega
/-- Cells that are numbers of 64 bits. -/
theorem fit_u64 : ∀ (n : Nat) (vs : List Value), Fit vs (repK n [K.i .u64]) → ∃ x, x < 18446744073709551616 ^ n ∧ vs = limbs n x := by
  intro n vs h
  refine u_limbs n vs (fun v hv => ?_) (by rw [h.length, repK_length]; simp)
  have : ∀ (m : Nat) (us : List Value), Fit us (repK m [K.i .u64]) → ∀ u ∈ us, isU u := fun m => by
    induction m with
    | zero => intro us hu u hm; cases us with | nil => cases hm | cons => exact hu.elim
    | succ m ih =>
      intro us hu u hm
      cases us with
      | nil => cases hm
      | cons y us =>
        obtain ⟨h1, h2⟩ := hu
        rcases List.mem_cons.1 hm with rfl | hm
        · cases u <;> simp only [fitK] at h1
          rename_i k z
          obtain ⟨rfl, hw⟩ := h1
          have hb := bounds_u64 hw
          exact ⟨z.toNat, by omega, by congr 1; omega⟩
        · exact ih us h2 u hm
  exact this n vs h v hv
end Go.Ev

/- Arguments of the laws on sigma, opened: gates, rows of numbers. -/
set_option linter.unusedSimpArgs false
set_option linter.unusedVariables false
namespace Go.Proofs.Ytoigbjimhcgolaa
open Go.Ev Go.ChangeShapes Go.WideShapes Go.ChangeAt Go.RowKit
def n4K : List K := [K.i .u64, K.i .u64, K.i .u64, K.i .u64]
def gateK : List K := n4K ++ (n4K ++ (n4K ++ (n4K ++ (n4K ++ [K.i .i64, K.i .i64, K.i .i64]))))
theorem fit_num4 {vs : List Value} {ks : List K} (h : Fit vs (n4K ++ ks)) : ∃ x us, x < 115792089237316195423570985008687907853269984665640564039457584007913129639936 ∧ vs = limbs 4 x ++ us ∧ Fit us ks := by
  obtain ⟨h1, h2⟩ := Fit.split h
  obtain ⟨x, hx, e⟩ := fit_u64 4 _ h1
  exact ⟨x, _, Nat.lt_of_lt_of_eq hx (by decide), by rw [← e]; exact (List.take_append_drop _ _).symm, h2⟩
theorem fit_nil {vs : List Value} (h : Fit vs []) : vs = [] := by
  cases vs with
  | nil => rfl
  | cons => exact h.elim
theorem gate_fit {c : List Value} (h : Fit c gateK) : ∃ g : GT, c = gC g := by
  obtain ⟨x0, c1, b0, e0, h1⟩ := fit_num4 h
  obtain ⟨x1, c2, b1, e1, h2⟩ := fit_num4 h1
  obtain ⟨x2, c3, b2, e2, h3⟩ := fit_num4 h2
  obtain ⟨x3, c4, b3, e3, h4⟩ := fit_num4 h3
  obtain ⟨x4, c5, b4, e4, h5⟩ := fit_num4 h4
  subst e4 e3 e2 e1 e0
  clear h1 h2 h3 h4 h
  match c5, h5 with
  | [.int k0 z0, .int k1 z1, .int k2 z2], ⟨⟨e0, _⟩, ⟨e1, _⟩, ⟨e2, _⟩, _⟩ =>
    subst e0; subst e1; subst e2
    refine ⟨⟨x0, x1, x2, x3, x4, z0, z1, z2⟩, ?_⟩
    simp [gC, gP, flat, Ch.cells]
theorem rows_gates : ∀ rows : List (List Value), (∀ c, c ∈ rows → Fit c gateK) → ∃ l : List GT, rows.flatten = gsC l ∧ l.length = rows.length
  | [], _ => ⟨[], rfl, rfl⟩
  | c :: rows, h => by
    obtain ⟨g, rfl⟩ := gate_fit (h c (by simp))
    obtain ⟨l, e1, e2⟩ := rows_gates rows (fun c hc => h c (by simp [hc]))
    exact ⟨g :: l, by simp [gsC, e1], by simp [e2]⟩
theorem rows_nums : ∀ rows : List (List Value), (∀ c, c ∈ rows → Fit c n4K) → ∃ l : List Nat, rows.flatten = numC 4 l ∧ l.length = rows.length ∧ ∀ x, x ∈ l → x < 115792089237316195423570985008687907853269984665640564039457584007913129639936
  | [], _ => ⟨[], rfl, rfl, fun g hg => by cases hg⟩
  | c :: rows, h => by
    obtain ⟨x, us, hx, e, hu⟩ := fit_num4 (ks := []) (h c (by simp))
    have hu := fit_nil hu
    subst hu; subst e
    obtain ⟨l, e1, e2, e3⟩ := rows_nums rows (fun c hc => h c (by simp [hc]))
    refine ⟨x :: l, by simp [numC] at e1 ⊢; exact e1, by simp [e2], fun y hy => ?_⟩
    rcases List.mem_cons.1 hy with rfl | hy
    · exact hx
    · exact e3 y hy
theorem Try.own : ownKnob Try.prog.godebug = none := by kernel_rfl
set_option maxRecDepth 100000 in
theorem Try.laid : laidOutB Try.prog = true := by kernel_rfl
set_option maxRecDepth 100000 in
theorem Try.some_blocks : Try.prog.globals.size < (begin Try.prog (fun _ _ => 0) default).world.heap.size := of_decide_eq_true (by kernel_rfl)
end Go.Proofs.Ytoigbjimhcgolaa

/- Five arguments, opened and shut. Nothing here names a program. -/
set_option linter.unusedSimpArgs false
set_option linter.unusedVariables false
namespace Go.Ev
open Go.ChangeShapes Go.WideShapes Go.ChangeAt Go.RowKit
section
variable {H : Type} {enc : TypeId × Value → H} {P : Program} {w : World} {base : Nat} {spare : Nat → Bool} {held : Bool}
theorem trodAll_five {t0 t1 t2 t3 t4 : TypeId} {args : Array Value} {ds : List (DataW H)} {ps : List MemPlace} (h : DataW.TrodAll enc P w base spare held [t0, t1, t2, t3, t4] args.toList ds ps) :
    ∃ v0 v1 v2 v3 v4 d0 d1 d2 d3 d4 p0 p1 p2 p3 p4, args = #[v0, v1, v2, v3, v4] ∧ ds = [d0, d1, d2, d3, d4] ∧ ps = p0 ++ p1 ++ p2 ++ p3 ++ p4 ∧ DataW.Trod enc P w base spare held t0 v0 d0 p0 ∧ DataW.Trod enc P w base spare held t1 v1 d1 p1 ∧ DataW.Trod enc P w base spare held t2 v2 d2 p2 ∧ DataW.Trod enc P w base spare held t3 v3 d3 p3 ∧ DataW.Trod enc P w base spare held t4 v4 d4 p4 := by
  obtain ⟨v0, s0, d0, e0, p0, q0, hargs, rfl, rfl, h0, r0⟩ := trodAll_cons h
  obtain ⟨v1, s1, d1, e1, p1, q1, rfl, rfl, rfl, h1, r1⟩ := trodAll_cons r0
  obtain ⟨v2, s2, d2, e2, p2, q2, rfl, rfl, rfl, h2, r2⟩ := trodAll_cons r1
  obtain ⟨v3, s3, d3, e3, p3, q3, rfl, rfl, rfl, h3, r3⟩ := trodAll_cons r2
  obtain ⟨v4, s4, d4, e4, p4, q4, rfl, rfl, rfl, h4, r4⟩ := trodAll_cons r3
  obtain ⟨rfl, rfl, rfl⟩ := trodAll_nil r4
  exact ⟨v0, v1, v2, v3, v4, d0, d1, d2, d3, d4, p0, p1, p2, p3, p4, by cases args; simp_all, rfl, by simp, h0, h1, h2, h3, h4⟩
theorem trodAll_mk5 {t0 t1 t2 t3 t4 : TypeId} {v0 v1 v2 v3 v4 : Value} {d0 d1 d2 d3 d4 : DataW H} {p0 p1 p2 p3 p4 : List MemPlace} (h0 : DataW.Trod enc P w base spare held t0 v0 d0 p0) (h1 : DataW.Trod enc P w base spare held t1 v1 d1 p1) (h2 : DataW.Trod enc P w base spare held t2 v2 d2 p2) (h3 : DataW.Trod enc P w base spare held t3 v3 d3 p3) (h4 : DataW.Trod enc P w base spare held t4 v4 d4 p4) :
    DataW.TrodAll enc P w base spare held [t0, t1, t2, t3, t4] [v0, v1, v2, v3, v4] [d0, d1, d2, d3, d4] (p0 ++ (p1 ++ (p2 ++ (p3 ++ p4)))) := ⟨p0, p1 ++ (p2 ++ (p3 ++ p4)), h0, ⟨p1, p2 ++ (p3 ++ p4), h1, trodAll_mk3 h2 h3 h4, rfl⟩, rfl⟩
end
end Go.Ev

/- Whatever circuit, log, variables and numbers are given, chirographlaw19.SigmaCloses says true: values taken from variables close. -/
set_option linter.unusedSimpArgs false
set_option linter.unusedVariables false
namespace Go.Proofs.Ytoigbjimhcgolaa
open Go.Ev Go.ChangeShapes Go.WideShapes Go.ChangeAt Go.RowKit
theorem val_slice {P : Program} {w : World} {r : Reach} {b0 : Nat} {t e : TypeId} (hu : P.underlying t = some (.slice e)) {a : Addr} {len cap : Nat} (h : Value.okWide P w r b0 t (.slice (some a) len cap)) : a.spot = none ∧ a.block < w.heap.size := by
  unfold Value.okWide at h
  rw [hu] at h
  exact cell_slice h
set_option maxRecDepth 100000 in
theorem sigmaCloses_lifted (os : Os) (started : os.Started) (H : Type) (enc : TypeId × Value → H) :
    ReturnsInHanded {} Try.checked os 6 .any (Rows.sigmaClosesSpec.pre6 enc Try.prog Try.f6 Rows.sigmaClosesRow.domain false) (Rows.sigmaClosesSpec.post enc Try.prog Try.f6 false true false false) := by
  refine returnsInHanded_of_change_shaped (C := Try.checked) Try.own started (by kernel_rfl) Try.func6
    (ChangeSpec.witness6 (enc := enc) (C := Try.checked) false ⟨#[], #[.agg #[.slice none 0 0, .int .i64 0, .int .i64 0], .int .i64 0, .slice none 0 0, .agg (Array.replicate 4 (.int .u64 0)), .agg (Array.replicate 4 (.int .u64 0))], []⟩ 8 (by kernel_rfl) (by kernel_rfl) (by kernel_rfl) (by kernel_rfl)) ?_
  intro W base args ds vs0 before hval0 hW _ _ hshape _
  have hval : ∀ (j : Nat) t v, Try.f6.params[j]? = some t → args[j]? = some v → Value.okWide Try.prog W .any base t v := hval0
  have hW' := hW
  obtain ⟨p, q, hA0, hV, rfl, _, _⟩ := hW
  have hA : DataW.TrodAll enc Try.prog W 0 (fun _ => true) true Try.f6.params.toList args.toList ds p := hA0
  rw [Try.params6] at hA hval
  obtain ⟨v0, v1, v2, v3, v4, d0, d1, d2, d3, d4, p0, p1, p2, p3, p4, rfl, rfl, rfl, h0, h1, h2, h3, h4⟩ := trodAll_five hA
  obtain ⟨rfl, rfl⟩ := trodVars_none hV
  have hpos : 0 < W.heap.size := heap_pos hshape Try.some_blocks
  have ok0 := hval 0 _ v0 rfl rfl
  have ok1 := hval 1 _ v1 rfl rfl
  have ok2 := hval 2 _ v2 rfl rfl
  obtain ⟨x0, rfl, rfl, rfl, b0⟩ := open_int (k := .i64) Try.underlying3 ok1 h1
  obtain ⟨ca, rfl, ua, la, rfl, sa⟩ := open_flat 8 (by kernel_rfl) (by kernel_rfl) (hval 3 _ v3 rfl rfl) h3
  obtain ⟨be, ba, rfl⟩ := u_limbs 4 ca ua (la.trans (by kernel_rfl))
  replace ba := Nat.lt_of_lt_of_eq ba (show _ = 115792089237316195423570985008687907853269984665640564039457584007913129639936 from rfl)
  obtain ⟨cb, rfl, ub, lb, rfl, sb⟩ := open_flat 8 (by kernel_rfl) (by kernel_rfl) (hval 4 _ v4 rfl rfl) h4
  obtain ⟨ga, bb, rfl⟩ := u_limbs 4 cb ub (lb.trans (by kernel_rfl))
  replace bb := Nat.lt_of_lt_of_eq bb (show _ = 115792089237316195423570985008687907853269984665640564039457584007913129639936 from rfl)
  obtain ⟨cs, rfl, _⟩ := okWide_struct Try.underlying24 ok0
  obtain ⟨a0, len0, cap0, rfl⟩ := okWide_slice Try.underlying33 ok2
  obtain ⟨fuel, hf⟩ := h0
  obtain ⟨fu2, hf2⟩ := h2
  have hfit0 := sh_trod 8 fuel _ _ _ [.s gateK, .k (.i .i64), .k (.i .i64)] (by kernel_rfl) hf
  have t2 : ShFits W [.slice a0 len0 cap0] [.s n4K] := sh_trod 8 fu2 _ _ _ [.s n4K] (by kernel_rfl) hf2
  have hlt := DataW.trod_lt fuel _ _ _ hf
  have hlt2 := DataW.trod_lt fu2 _ _ _ hf2
  obtain ⟨cl⟩ := cs
  have hfit : ShFits W cl [.s gateK, .k (.i .i64), .k (.i .i64)] := hfit0
  obtain ⟨s0, c1, rows, rfl, hr, hsl, f1⟩ := hfit.cons_s
  obtain ⟨pub, c2, rfl, _, f2⟩ := f1.cons_i
  obtain ⟨vars, c3, rfl, _, f3⟩ := f2.cons_i
  have f4 := f3.nil_eq
  subst f4
  obtain ⟨y3, t3, r3, e3, hr3, hs3, _⟩ := t2.cons_s
  obtain ⟨rfl, rfl⟩ := List.cons.inj e3
  obtain ⟨ns, g3, k3, z3⟩ := rows_nums r3 hr3
  have q3 : ZRep W [.l (numC 4 ns)] ns.length (.slice a0 len0 cap0) := by
    rw [← g3, k3]
    exact hs3.zrep hpos (fun a len cap e => val_slice Try.underlying33 (e ▸ ok2))
  clear hfit0 hfit f1 f2 f3
  obtain ⟨l, g1, g2⟩ := rows_gates rows hr
  have hz : ZRep W [.l (gsC l)] l.length s0 := by
    rw [← g1, g2]
    exact hsl.zrep hpos (fun a len cap e => agg_slice (by kernel_rfl) ok0 (by rw [← e]; simp))
  clear hA0 hval0
  simp only [List.append_nil] at hW'
  obtain ⟨v, hv, hrun⟩ := sigmaCloses_gives l pub vars x0 ns z3 be ga ba bb
  simp only [AV.val?, Option.some.injEq] at hv
  subst hv
  refine (hrun W [_, _, _, _, _] ⟨⟨_, rfl, ⟨_, _, rfl, hz, rfl, _, rfl, rfl, _, rfl, rfl⟩⟩, rfl, q3, rfl, rfl, trivial⟩).mono fun e W' ⟨he, hb⟩ => ?_
  subst he
  exact ⟨_, rfl, _, _, _, [], _, [], hW', trodAll_mk1 (shut_bool Try.underlying4 true), by
    have hm := trodAll_mk5 (Below.trod Try.laid (by kernel_rfl) (of_decide_eq_true (by kernel_rfl)) ⟨fuel, hf⟩ hb hlt) (shut_int Try.underlying3 b0) (Below.trod Try.laid (by kernel_rfl) (of_decide_eq_true (by kernel_rfl)) ⟨fu2, hf2⟩ hb hlt2) (sa _ _ _ _) (sb _ _ _ _)
    simp only [List.nil_append, List.append_nil] at hm
    exact hm, rfl, hb.frame _, fun h => by cases h⟩

theorem sigmaCloses_holds : Rows.SigmaClosesSaid :=
  OpenClaim.holds_of_wide 6 Try.f6 rfl rfl rfl rfl rfl rfl rfl ⟨rfl, rfl, rfl, rfl, rfl⟩ rfl rfl rfl rfl rfl (by kernel_rfl) Try.func6 (by kernel_rfl)
    (of_decide_eq_true (by kernel_rfl)) (by unfold Func.isWrapper; first | (rw [if_pos (by decide +kernel)]; kernel_rfl) | (rw [if_neg (by decide +kernel)]; exact ⟨rfl, rfl⟩))
    (fun os started H enc _ => sigmaCloses_lifted os started H enc)
end Go.Proofs.Ytoigbjimhcgolaa
