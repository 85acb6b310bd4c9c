/- Whatever proof and whatever a verifier needs are given, chirographlaw23.FormatProofs says true: they are written as just those bytes, or refused. -/
import Derived.Test.YtmbllhibdbeplaaQZhOpn
import Derived.Test.YtmbllhibdbeplaaQGa
import Derived.Deep.Slices
import Derived.Carry
import Derived.HandedShaped
import Derived.Test.YtmbllhibdbeplaaQGf
import Derived.Test.YtmbllhibdbeplaaQGg
import Derived.Test.YtmbllhibdbeplaaQZhOpt
import Derived.ChangeMaps5
import Derived.Test.YtmbllhibdbeplaaRows
import Derived.Test.YtmbllhibdbeplaaQZhFmB
/- Arguments that hold slices of plain rows, opened: what their cells are. Nothing here names a program. -/
set_option linter.unusedSimpArgs false
set_option linter.unusedVariables false
namespace Go.Ev
open Go.ChangeShapes Go.WideShapes Go.ChangeAt Go.RowKit

/-- What a cell is: a plain one; a slice whose elements have such plain cells. -/
inductive Sh where
  | k (x : K)
  | s (ks : List K)
def Sh.k? : Sh → Option K
  | .k x => some x
  | .s _ => none
def plain : List Sh → Option (List K)
  | [] => some []
  | a :: l => match a.k?, plain l with | some x, some r => some (x :: r) | _, _ => none
def repS : Nat → List Sh → List Sh
  | 0, _ => []
  | n + 1, a => a ++ repS n a
theorem repS_length : ∀ n a, (repS n a).length = n * a.length
  | 0, a => by simp [repS]
  | n + 1, a => by simp [repS, repS_length n a, Nat.add_mul, Nat.add_comm]
def shF (P : Program) (sh : TypeId → Option (List Sh)) : List Field → Nat → Option (List Sh)
  | [], _ => some []
  | f :: fs, o =>
    match Nat.beq f.offset o, sh f.type with
    | true, some a => (match Nat.beq a.length (P.cellsOf f.type), shF P sh fs (o + a.length) with | true, some r => some (a ++ r) | _, _ => none)
    | _, _ => none
def shT (P : Program) : Nat → TypeId → Option (List Sh)
  | 0, _ => none
  | d + 1, t =>
    match P.underlying t with
    | some .bool => some [.k .b]
    | some (.int q) => some [.k (.i q)]
    | some (.array n e) =>
      match shT P d e with
      | some a => (match Nat.beq a.length (P.cellsOf e), Nat.beq (n * a.length) (P.cellsOf t) with | true, true => some (repS n a) | _, _ => none)
      | none => none
    | some (.struct fs) =>
      match shF P (shT P d) fs.toList 0 with
      | some a => (match Nat.beq a.length (P.cellsOf t) with | true => some a | false => none)
      | none => none
    | some (.slice e) =>
      match shT P d e with
      | some a => (match Nat.beq a.length (P.cellsOf e), plain a with | true, some ks => some [.s ks] | _, _ => none)
      | none => none
    | _ => none

/-- A slice of such rows. -/
def SlIs (w : World) (v : Value) (rows : List (List Value)) : Prop :=
  (v = .slice none 0 0 ∧ rows = []) ∨ ∃ a cap, v = .slice (some a) rows.length cap ∧ rows.length ≤ cap ∧ cap ≤ 9223372036854775807 ∧ ∀ j x, rows.flatten[j]? = some x → w.cell? (a.add j) = some x
def fit1 (w : World) (v : Value) : Sh → Prop
  | .k x => fitK v x
  | .s ks => ∃ rows : List (List Value), (∀ c, c ∈ rows → Fit c ks) ∧ SlIs w v rows
def ShFits (w : World) : List Value → List Sh → Prop
  | [], [] => True
  | v :: vs, s :: ss => fit1 w v s ∧ ShFits w vs ss
  | _, _ => False
theorem ShFits.append {w : World} : ∀ {a b : List Value} {s t : List Sh}, ShFits w a s → ShFits w b t → ShFits w (a ++ b) (s ++ t)
  | [], b, [], t, _, h => h
  | v :: a, b, s :: ss, t, h, h' => ⟨h.1, h.2.append h'⟩
  | [], _, _ :: _, _, h, _ => h.elim
  | _ :: _, _, [], _, h, _ => h.elim
theorem ShFits.plain {w : World} : ∀ {a : List Value} {s : List Sh} {ks : List K}, ShFits w a s → Go.Ev.plain s = some ks → Fit a ks
  | [], [], ks, _, h => by simp only [Go.Ev.plain, Option.some.injEq] at h; subst h; trivial
  | v :: a, s :: ss, ks, hf, h => by
    simp only [Go.Ev.plain] at h
    split at h
    · rename_i x r h1 h2
      simp only [Option.some.injEq] at h; subst h
      cases s with
      | k y => simp only [Sh.k?, Option.some.injEq] at h1; subst h1; exact ⟨hf.1, hf.2.plain h2⟩
      | s _ => simp [Sh.k?] at h1
    · cases h
  | [], _ :: _, _, h, _ => h.elim
  | _ :: _, [], _, h, _ => h.elim
/-- Rows of like length, one behind another: where a cell comes from. -/
theorem flatten_get {α : Type} {k : Nat} : ∀ (rows : List (List α)) (q : Nat) (x : α), (∀ c, c ∈ rows → c.length = k) → rows.flatten[q]? = some x → ∃ i j row, rows[i]? = some row ∧ row[j]? = some x ∧ q = i * k + j
  | [], q, x, _, h => by simp at h
  | r :: rows, q, x, hl, h => by
    have hr : r.length = k := hl r (by simp)
    rw [List.flatten_cons] at h
    by_cases hq : q < r.length
    · rw [List.getElem?_append_left hq] at h
      exact ⟨0, q, r, rfl, h, by omega⟩
    · rw [List.getElem?_append_right (by omega)] at h
      obtain ⟨i, j, row, h1, h2, h3⟩ := flatten_get rows _ x (fun c hc => hl c (by simp [hc])) h
      refine ⟨i + 1, j, row, by simpa using h1, h2, ?_⟩
      rw [Nat.add_mul, Nat.one_mul]; omega

section
variable {H : Type} {enc : TypeId × Value → H} {P : Program} {w : World} {base : Nat} {spare : Nat → Bool} {held : Bool}

theorem shF_fits {sh : TypeId → Option (List Sh)} {cs : List Value} : ∀ (fs : List Field) (o : Nat) (r : List Sh), shF P sh fs o = some r →
    (∀ f, f ∈ fs → ∀ a, sh f.type = some a → a.length = P.cellsOf f.type → ShFits w ((cs.drop f.offset).take (P.cellsOf f.type)) a) → ShFits w ((cs.drop o).take r.length) r
  | [], o, r, h, _ => by simp only [shF, Option.some.injEq] at h; subst h; simp [ShFits]
  | f :: fs, o, r, h, hf => by
    simp only [shF] at h
    split at h
    · rename_i a ho ha
      split at h
      · rename_i r' hl hr
        simp only [Option.some.injEq] at h; subst h
        have ho := Nat.eq_of_beq_eq_true ho
        have hl := Nat.eq_of_beq_eq_true hl
        have h1 := hf f (by simp) a ha hl
        rw [ho, ← hl] at h1
        have h2 := shF_fits fs _ _ hr (fun g hg => hf g (by simp [hg]))
        rw [List.length_append, List.take_add, List.drop_drop]
        exact h1.append h2
      · cases h
    · cases h

theorem repS_fits {a : List Sh} {cs : List Value} : ∀ (n o : Nat), (∀ i, i < n → ShFits w ((cs.drop (o + i * a.length)).take a.length) a) → ShFits w ((cs.drop o).take (repS n a).length) (repS n a)
  | 0, o, _ => by simp [repS, ShFits]
  | n + 1, o, h => by
    have h0 := h 0 (by omega)
    rw [Nat.zero_mul, Nat.add_zero] at h0
    have h1 := repS_fits (a := a) (cs := cs) n (o + a.length) (fun i hi => by
      have := h (i + 1) (by omega)
      rwa [Nat.add_mul, Nat.one_mul, Nat.add_comm (i * a.length), ← Nat.add_assoc] at this)
    rw [show repS (n + 1) a = a ++ repS n a from rfl, List.length_append, List.take_add, List.drop_drop]
    exact h0.append h1

theorem sh_trod : ∀ (d fuel : Nat) (t : TypeId) (cs : List Value) (x : DataW H × List MemPlace) (ss : List Sh), shT P d t = some ss → DataW.trod enc P w base spare held fuel t cs = some x → ShFits w cs ss
  | 0, _, _, _, _, _, h, _ => by simp [shT] at h
  | d + 1, fuel, t, cs, x, ss, h, hx => by
    unfold shT at h
    split at h
    · rename_i hu
      simp only [Option.some.injEq] at h; subst h
      obtain ⟨b, rfl, rfl⟩ := DataW.trod_bool hu hx
      exact ⟨trivial, trivial⟩
    · rename_i q hu
      simp only [Option.some.injEq] at h; subst h
      obtain ⟨n, rfl, rfl, hw⟩ := DataW.trod_int hu hx
      exact ⟨⟨rfl, hw⟩, trivial⟩
    · rename_i n e hu
      split at h
      · rename_i a ha
        split at h
        · rename_i h1 h2
          simp only [Option.some.injEq] at h; subst h
          have h1 := Nat.eq_of_beq_eq_true h1
          have h2 := Nat.eq_of_beq_eq_true h2
          obtain ⟨xs, m, rfl, rfl, hl, hn, hg⟩ := DataW.trod_array hu hx
          have key := repS_fits (w := w) (a := a) (cs := cs) n 0 (fun i hi => by
            rw [Nat.zero_add, h1]
            have hgi := hg i hi
            rw [List.getElem?_eq_getElem (by omega)] at hgi
            exact sh_trod d m e _ _ a ha hgi)
          rw [List.drop_zero, repS_length, h2, ← hl, List.take_length] at key
          exact key
        · cases h
      · cases h
    · rename_i fs hu
      split at h
      · rename_i a ha
        split at h
        · rename_i h1
          simp only [Option.some.injEq] at h; subst h
          have h1 := Nat.eq_of_beq_eq_true h1
          obtain ⟨xs, m, rfl, rfl, hl, hn, hg⟩ := DataW.trod_struct hu hx
          have key := shF_fits (w := w) (cs := cs) fs.toList 0 _ ha (fun f hf a' ha' hl' => by
            obtain ⟨i, hi⟩ := List.mem_iff_getElem?.1 hf
            have hgi := hg i f (by simpa using hi)
            have hlt : i < fs.toList.length := (List.getElem?_eq_some_iff.1 hi).1
            rw [List.getElem?_eq_getElem (by rw [hn]; simpa using hlt)] at hgi
            exact sh_trod d m f.type _ _ a' ha' hgi)
          rw [List.drop_zero, h1, ← hl, List.take_length] at key
          exact key
        · cases h
      · cases h
    · rename_i e hu
      split at h
      · rename_i a ha
        split at h
        · rename_i ks h1 h2
          simp only [Option.some.injEq] at h; subst h
          have h1 := Nat.eq_of_beq_eq_true h1
          rcases Go.Deep.open_slice hu hx with ⟨rfl, rfl⟩ | ⟨ad, len, cap, m, n, D, Pl, rfl, hb, hl, hm, hmm, rfl, hg⟩
          · exact ⟨⟨[], (fun c hc => by cases hc), .inl ⟨rfl, rfl⟩⟩, trivial⟩
          · have hle : len ≤ m := by rw [hmm]; split <;> omega
            obtain ⟨f, hf⟩ := Go.Deep.choose_lt (α := List Value) (n := len) (p := fun i c => w.cells? base (ad.add (i * P.cellsOf e)) (P.cellsOf e) = some c ∧ Fit c ks) (fun i hi => by
              obtain ⟨c, c1, c2⟩ := hg i (by omega)
              exact ⟨c, c1, (sh_trod d n e _ _ a ha c2).plain h2⟩)
            have hk : P.cellsOf e = ks.length := by
              have : ∀ (s : List Sh) (k : List K), plain s = some k → s.length = k.length := fun s => by
                induction s with
                | nil => intro k hk; simp only [plain, Option.some.injEq] at hk; subst hk; rfl
                | cons y s ih =>
                  intro k hk
                  simp only [plain] at hk
                  split at hk
                  · rename_i x r e1 e2
                    simp only [Option.some.injEq] at hk; subst hk
                    simp [ih r e2]
                  · cases hk
              rw [← h1]; exact this a ks h2
            refine ⟨⟨(List.range len).map f, fun c hc => ?_, .inr ⟨ad, cap, by simp, by simpa using hl, by unfold maxLen at hm; omega, fun j x hj => ?_⟩⟩, trivial⟩
            · obtain ⟨i, hi, rfl⟩ := List.mem_map.1 hc
              exact (hf i (List.mem_range.1 hi)).2
            · obtain ⟨i, q, row, g1, g2, rfl⟩ := flatten_get (k := ks.length) _ j x (fun c hc => by
                obtain ⟨i, hi, rfl⟩ := List.mem_map.1 hc
                exact (hf i (List.mem_range.1 hi)).2.length) hj
              rw [List.getElem?_map] at g1
              obtain ⟨i', hi', rfl⟩ := Option.map_eq_some_iff.1 g1
              have hi2 : i < len := by
                have := (List.getElem?_eq_some_iff.1 hi').1
                simpa using this
              have : i' = i := by
                rw [List.getElem?_range hi2] at hi'
                exact (Option.some.inj hi').symm
              subst this
              obtain ⟨c1, c2⟩ := hf i' hi2
              obtain ⟨_, c4, c5⟩ := World.cells?_some c1
              have hq : q < P.cellsOf e := by rw [← c4]; exact (List.getElem?_eq_some_iff.1 g2).1
              have := c5 q hq
              rw [g2, Go.Deep.add_add, hk] at this
              exact this
        · cases h
      · cases h
    · cases h
end

theorem ShFits.nil_eq {w : World} {cl : List Value} (h : ShFits w cl []) : cl = [] := by
  cases cl with
  | nil => rfl
  | cons v vs => exact h.elim
/-- Plain kinds. -/
def kS (ks : List K) : List Sh := ks.map Sh.k
theorem ShFits.take {w : World} : ∀ {cl : List Value} (ks : List K) {ss : List Sh}, ShFits w cl (kS ks ++ ss) → ∃ a b, cl = a ++ b ∧ Fit a ks ∧ ShFits w b ss
  | cl, [], ss, h => ⟨[], cl, rfl, trivial, h⟩
  | [], k :: ks, ss, h => h.elim
  | v :: cl, k :: ks, ss, h => by
    obtain ⟨a, b, e, h1, h2⟩ := ShFits.take ks (ss := ss) h.2
    exact ⟨v :: a, b, by rw [e]; rfl, ⟨h.1, h1⟩, h2⟩

theorem SlIs.len {w : World} {v : Value} {rows : List (List Value)} (h : SlIs w v rows) : rows.length ≤ 9223372036854775807 := by
  rcases h with ⟨rfl, rfl⟩ | ⟨a, cap, rfl, h1, h2, h3⟩
  · simp
  · omega
/-- Cells that are numbers of 64 bits. -/
theorem fit_u64 : ∀ (n : Nat) (vs : List Value), Fit vs (repK n [K.i .u64]) → ∃ x, x < 18446744073709551616 ^ n ∧ vs = limbs n x := by
  intro n vs h
  refine u_limbs n vs (fun v hv => ?_) (by rw [h.length, repK_length]; simp)
  have : ∀ (m : Nat) (us : List Value), Fit us (repK m [K.i .u64]) → ∀ u ∈ us, isU u := fun m => by
    induction m with
    | zero => intro us hu u hm; cases us with | nil => cases hm | cons => exact hu.elim
    | succ m ih =>
      intro us hu u hm
      cases us with
      | nil => cases hm
      | cons y us =>
        obtain ⟨h1, h2⟩ := hu
        rcases List.mem_cons.1 hm with rfl | hm
        · cases u <;> simp only [fitK] at h1
          rename_i k z
          obtain ⟨rfl, hw⟩ := h1
          have hb := bounds_u64 hw
          exact ⟨z.toNat, by omega, by congr 1; omega⟩
        · exact ih us h2 u hm
  exact this n vs h v hv
end Go.Ev

/- Arguments of the laws on bytes of all values, opened: gates, numbers, points, keys. -/
set_option linter.unusedSimpArgs false
set_option linter.unusedVariables false
namespace Go.Proofs.Ytmbllhibdbeplaa
open Go.Ev Go.ChangeShapes Go.WideShapes Go.ChangeAt Go.RowKit
def n4K : List K := [K.i .u64, K.i .u64, K.i .u64, K.i .u64]
theorem fit_num4 {vs : List Value} {ks : List K} (h : Fit vs (n4K ++ ks)) : ∃ x us, x < 115792089237316195423570985008687907853269984665640564039457584007913129639936 ∧ vs = limbs 4 x ++ us ∧ Fit us ks := by
  obtain ⟨h1, h2⟩ := Fit.split h
  obtain ⟨x, hx, e⟩ := fit_u64 4 _ h1
  exact ⟨x, _, Nat.lt_of_lt_of_eq hx (by decide), by rw [← e]; exact (List.take_append_drop _ _).symm, h2⟩
def n6K : List K := [K.i .u64, K.i .u64, K.i .u64, K.i .u64, K.i .u64, K.i .u64]
def ptK : List K := n6K ++ (n6K ++ [K.b])
def pt2K : List K := n6K ++ (n6K ++ (n6K ++ (n6K ++ [K.b])))
theorem fit_num6 {vs : List Value} {ks : List K} (h : Fit vs (n6K ++ ks)) : ∃ x us, x < 39402006196394479212279040100143613805079739270465446667948293404245721771497210611414266254884915640806627990306816 ∧ vs = limbs 6 x ++ us ∧ Fit us ks := by
  obtain ⟨h1, h2⟩ := Fit.split h
  obtain ⟨x, hx, e⟩ := fit_u64 6 _ h1
  exact ⟨x, _, Nat.lt_of_lt_of_eq hx (by decide), by rw [← e]; exact (List.take_append_drop _ _).symm, h2⟩
theorem fit_bool {vs : List Value} {ks : List K} (h : Fit vs (K.b :: ks)) : ∃ b us, vs = .bool b :: us ∧ Fit us ks := by
  cases vs with
  | nil => exact h.elim
  | cons v us =>
    obtain ⟨h1, h2⟩ := h
    cases v <;> simp only [fitK] at h1
    exact ⟨_, us, rfl, h2⟩
theorem fit_nil {vs : List Value} (h : Fit vs []) : vs = [] := by
  cases vs with
  | nil => rfl
  | cons => exact h.elim
theorem pt_fit {c : List Value} {ks : List K} (h : Fit c (ptK ++ ks)) : ∃ (a : A1) (us : List Value), c = ptC a ++ us ∧ sml1 a ∧ Fit us ks := by
  have h' : Fit c (n6K ++ (n6K ++ (K.b :: ks))) := h
  obtain ⟨x, c1, b0, e0, h1⟩ := fit_num6 h'
  obtain ⟨y, c2, b1, e1, h2⟩ := fit_num6 h1
  obtain ⟨i, us, e2, h3⟩ := fit_bool h2
  subst e2 e1 e0
  exact ⟨(x, y, i), us, by simp [ptC, ptP, flat, Ch.cells], ⟨b0, b1⟩, h3⟩
theorem pt2_fit {c : List Value} {ks : List K} (h : Fit c (pt2K ++ ks)) : ∃ (a : A2) (us : List Value), c = limbs 6 a.1.1 ++ (limbs 6 a.1.2 ++ (limbs 6 a.2.1.1 ++ (limbs 6 a.2.1.2 ++ (.bool a.2.2 :: us)))) ∧ sml2 a ∧ Fit us ks := by
  have h' : Fit c (n6K ++ (n6K ++ (n6K ++ (n6K ++ (K.b :: ks))))) := h
  obtain ⟨x, c1, b0, e0, h1⟩ := fit_num6 h'
  obtain ⟨y, c2, b1, e1, h2⟩ := fit_num6 h1
  obtain ⟨z, c3, b2, e2, h3⟩ := fit_num6 h2
  obtain ⟨t, c4, b3, e3, h4⟩ := fit_num6 h3
  obtain ⟨i, us, e4, h5⟩ := fit_bool h4
  subst e4 e3 e2 e1 e0
  exact ⟨((x, y), (z, t), i), us, rfl, ⟨⟨b0, b1⟩, ⟨b2, b3⟩⟩, h5⟩
theorem ShFits.all {w : World} {cl : List Value} {ks : List K} (h : ShFits w cl (kS ks)) : Fit cl ks := by
  obtain ⟨a, b, e, h1, h2⟩ := ShFits.take ks (ss := []) (by rwa [List.append_nil])
  have h2 := h2.nil_eq
  subst h2
  rw [List.append_nil] at e
  subst e
  exact h1
theorem Try.own : ownKnob Try.prog.godebug = none := by kernel_rfl
set_option maxRecDepth 100000 in
theorem Try.laid : laidOutB Try.prog = true := by kernel_rfl
end Go.Proofs.Ytmbllhibdbeplaa

/- Whatever proof and whatever a verifier needs are given, chirographlaw23.FormatProofs says true: they are written as just those bytes, or refused. -/
set_option linter.unusedSimpArgs false
set_option linter.unusedVariables false
namespace Go.Proofs.Ytmbllhibdbeplaa
open Go.Ev Go.ChangeShapes Go.WideShapes Go.ChangeAt Go.RowKit
def prK : List K := (ptK ++ (ptK ++ (ptK ++ (ptK ++ (ptK ++ (ptK ++ (ptK ++ (ptK ++ (ptK ++ (n4K ++ (n4K ++ (n4K ++ (n4K ++ (n4K ++ (n4K ++ [])))))))))))))))
def vfK : List K := (K.i .i64 :: K.i .i64 :: (ptK ++ (ptK ++ (ptK ++ (ptK ++ (ptK ++ (ptK ++ (ptK ++ (ptK ++ (pt2K ++ []))))))))))
theorem fit_int {vs : List Value} {ks : List K} (h : Fit vs (K.i .i64 :: ks)) : ∃ (b : Int) (us : List Value), vs = .int .i64 b :: us ∧ Fit us ks := by
  match vs, h with
  | [], h => exact h.elim
  | .int k z :: us, ⟨⟨e, _⟩, h2⟩ => subst e; exact ⟨z, us, rfl, h2⟩
theorem proof_fit {c : List Value} (h : Fit c prK) : ∃ p : PF, c = flat p.ch ∧ p.sm := by
  have h0 : Fit c (ptK ++ (ptK ++ (ptK ++ (ptK ++ (ptK ++ (ptK ++ (ptK ++ (ptK ++ (ptK ++ (n4K ++ (n4K ++ (n4K ++ (n4K ++ (n4K ++ (n4K ++ []))))))))))))))) := h
  clear h
  obtain ⟨a0, c0, e0, m0, h1⟩ := pt_fit h0
  obtain ⟨a1, c1, e1, m1, h2⟩ := pt_fit h1
  obtain ⟨a2, c2, e2, m2, h3⟩ := pt_fit h2
  obtain ⟨a3, c3, e3, m3, h4⟩ := pt_fit h3
  obtain ⟨a4, c4, e4, m4, h5⟩ := pt_fit h4
  obtain ⟨a5, c5, e5, m5, h6⟩ := pt_fit h5
  obtain ⟨a6, c6, e6, m6, h7⟩ := pt_fit h6
  obtain ⟨a7, c7, e7, m7, h8⟩ := pt_fit h7
  obtain ⟨a8, c8, e8, m8, h9⟩ := pt_fit h8
  obtain ⟨x0, c9, m9, e9, h10⟩ := fit_num4 h9
  obtain ⟨x1, c10, m10, e10, h11⟩ := fit_num4 h10
  obtain ⟨x2, c11, m11, e11, h12⟩ := fit_num4 h11
  obtain ⟨x3, c12, m12, e12, h13⟩ := fit_num4 h12
  obtain ⟨x4, c13, m13, e13, h14⟩ := fit_num4 h13
  obtain ⟨x5, c14, m14, e14, h15⟩ := fit_num4 h14
  obtain rfl := fit_nil h15
  subst e14 e13 e12 e11 e10 e9 e8 e7 e6 e5 e4 e3 e2 e1 e0
  refine ⟨⟨a0, a1, a2, a3, a4, a5, a6, a7, a8, x0, x1, x2, x3, x4, x5⟩, ?_, fun x hx => ?_, fun x hx => ?_⟩
  · simp [PF.ch, ptC, ptP, flat, Ch.cells]
  · simp only [PF.pts, List.mem_cons, List.not_mem_nil, or_false] at hx
    rcases hx with rfl | rfl | rfl | rfl | rfl | rfl | rfl | rfl | rfl <;> assumption
  · simp only [PF.nums, List.mem_cons, List.not_mem_nil, or_false] at hx
    rcases hx with rfl | rfl | rfl | rfl | rfl | rfl <;> assumption
theorem verif_fit {c : List Value} (h : Fit c vfK) : ∃ v : VT, c = flat v.ch ∧ v.sm := by
  have h : Fit c (K.i .i64 :: K.i .i64 :: (ptK ++ (ptK ++ (ptK ++ (ptK ++ (ptK ++ (ptK ++ (ptK ++ (ptK ++ (pt2K ++ [])))))))))) := h
  obtain ⟨zl, d0, el, h⟩ := fit_int h
  obtain ⟨zp, d1, ep, h0⟩ := fit_int h
  clear h
  obtain ⟨b0, c0, e0, m0, h1⟩ := pt_fit h0
  obtain ⟨b1, c1, e1, m1, h2⟩ := pt_fit h1
  obtain ⟨b2, c2, e2, m2, h3⟩ := pt_fit h2
  obtain ⟨b3, c3, e3, m3, h4⟩ := pt_fit h3
  obtain ⟨b4, c4, e4, m4, h5⟩ := pt_fit h4
  obtain ⟨b5, c5, e5, m5, h6⟩ := pt_fit h5
  obtain ⟨b6, c6, e6, m6, h7⟩ := pt_fit h6
  obtain ⟨b7, c7, e7, m7, h8⟩ := pt_fit h7
  obtain ⟨b, us, eb, hb, hu⟩ := pt2_fit (ks := []) h8
  obtain rfl := fit_nil hu
  subst eb e7 e6 e5 e4 e3 e2 e1 e0
  subst ep el
  refine ⟨⟨zl, zp, b0, b1, b2, b3, b4, b5, b6, b7, b⟩, ?_, fun x hx => ?_, hb⟩
  · simp [VT.ch, ptC, ptP, flat, Ch.cells]
  · simp only [VT.pts, List.mem_cons, List.not_mem_nil, or_false] at hx
    rcases hx with rfl | rfl | rfl | rfl | rfl | rfl | rfl | rfl <;> assumption
set_option maxRecDepth 100000 in
theorem formatProofs_lifted (os : Os) (started : os.Started) (H : Type) (enc : TypeId × Value → H) :
    ReturnsInHanded {} Try.checked os 5 .any (Rows.formatProofsSpec.pre6 enc Try.prog Try.f5 Rows.formatProofsRow.domain false) (Rows.formatProofsSpec.post enc Try.prog Try.f5 false true false false) := by
  refine returnsInHanded_of_change_shaped (C := Try.checked) Try.own started (by kernel_rfl) Try.func5
    (ChangeSpec.witness6 (enc := enc) (C := Try.checked) false ⟨#[], #[.agg ((List.replicate 9 (List.replicate 12 (Value.int .u64 0) ++ [Value.bool false])).flatten ++ List.replicate 24 (Value.int .u64 0)).toArray, .agg ([Value.int .i64 0, Value.int .i64 0] ++ (List.replicate 8 (List.replicate 12 (Value.int .u64 0) ++ [Value.bool false])).flatten ++ (List.replicate 24 (Value.int .u64 0) ++ [Value.bool false])).toArray], []⟩ 8 (by kernel_rfl) (by kernel_rfl) (by kernel_rfl) (by kernel_rfl)) ?_
  intro W base args ds vs0 before hval0 hW _ _ hshape _
  have hval : ∀ (j : Nat) t v, Try.f5.params[j]? = some t → args[j]? = some v → Value.okWide Try.prog W .any base t v := hval0
  have hW' := hW
  obtain ⟨p, q, hA0, hV, rfl, _, _⟩ := hW
  have hA : DataW.TrodAll enc Try.prog W 0 (fun _ => true) true Try.f5.params.toList args.toList ds p := hA0
  rw [Try.params5] at hA hval
  obtain ⟨v0, v1, d0, d1, p0, p1, rfl, rfl, rfl, h0, h1⟩ := trodAll_two hA
  obtain ⟨rfl, rfl⟩ := trodVars_none hV
  have ok0 := hval 0 _ v0 rfl rfl
  have ok1 := hval 1 _ v1 rfl rfl
  obtain ⟨cs0, rfl, _⟩ := okWide_struct Try.underlying58 ok0
  obtain ⟨cs1, rfl, _⟩ := okWide_struct Try.underlying62 ok1
  obtain ⟨fu0, hf0⟩ := h0
  obtain ⟨fu1, hf1⟩ := h1
  have t0 : ShFits W cs0.toList (kS prK) := sh_trod 8 fu0 _ _ _ (kS prK) (by kernel_rfl) hf0
  have t1 : ShFits W cs1.toList (kS vfK) := sh_trod 8 fu1 _ _ _ (kS vfK) (by kernel_rfl) hf1
  have hlt0 := DataW.trod_lt fu0 _ _ _ hf0
  have hlt1 := DataW.trod_lt fu1 _ _ _ hf1
  obtain ⟨pr, e0, hp⟩ := proof_fit (ShFits.all t0)
  obtain ⟨vr, e1, hv⟩ := verif_fit (ShFits.all t1)
  obtain rfl : cs0 = (flat pr.ch).toArray := Array.toList_inj.1 e0
  obtain rfl : cs1 = (flat vr.ch).toArray := Array.toList_inj.1 e1
  clear hA0 hval0
  simp only [List.append_nil] at hW'
  obtain ⟨v, hvv, hrun⟩ := formatProofs_gives pr vr hp hv
  simp only [AV.val?, Option.some.injEq] at hvv
  subst hvv
  refine (hrun W [_, _] ⟨rfl, rfl, trivial⟩).mono fun e W' ⟨he, hbel⟩ => ?_
  subst he
  exact ⟨_, rfl, _, _, _, [], _, [], hW', trodAll_mk1 (shut_bool Try.underlying4 true), trodAll_mk2 (Below.trod Try.laid (by kernel_rfl) (of_decide_eq_true (by kernel_rfl)) ⟨fu0, hf0⟩ hbel hlt0) (Below.trod Try.laid (by kernel_rfl) (of_decide_eq_true (by kernel_rfl)) ⟨fu1, hf1⟩ hbel hlt1), rfl, hbel.frame _, fun h => by cases h⟩

theorem formatProofs_holds : Rows.FormatProofsSaid :=
  OpenClaim.holds_of_wide 5 Try.f5 rfl rfl rfl rfl rfl rfl rfl ⟨rfl, rfl, rfl, rfl, rfl⟩ rfl rfl rfl rfl rfl (by kernel_rfl) Try.func5 (by kernel_rfl)
    (of_decide_eq_true (by kernel_rfl)) (by unfold Func.isWrapper; first | (rw [if_pos (by decide +kernel)]; kernel_rfl) | (rw [if_neg (by decide +kernel)]; exact ⟨rfl, rfl⟩))
    (fun os started H enc _ => formatProofs_lifted os started H enc)
end Go.Proofs.Ytmbllhibdbeplaa
