/- '==' on arrays and structs of numbers and bools: whether the cells are the same. -/
import Derived.Test.YtoahfmgdlpgjoaaEvc
set_option linter.unusedSimpArgs false
set_option linter.unusedVariables false
namespace Go.Ev
open Go.RowKit

variable {P : Program}

inductive K where
  | b
  | i (k : IntKind)
  deriving DecidableEq

def repK : Nat → List K → List K
  | 0, _ => []
  | n + 1, ks => ks ++ repK n ks

def kindF (P : Program) (kind : TypeId → Option (List K)) : List Field → Nat → Option (List K)
  | [], _ => some []
  | f :: fs, o =>
    if f.name != "_" && f.offset == o then
      match kind f.type with
      | some ks => if ks.length = P.cellsOf f.type then (kindF P kind fs (o + ks.length)).map (ks ++ ·) else none
      | none => none
    else none

/-- The kinds of a type's cells, in order. -/
def kindT (P : Program) : Nat → TypeId → Option (List K)
  | 0, _ => none
  | d + 1, t =>
    match P.underlying t with
    | some .bool => some [K.b]
    | some (.int q) => some [K.i q]
    | some (.array n e) =>
      match kindT P d e with
      | some ks => if ks.length = P.cellsOf e ∧ n * ks.length = P.cellsOf t then some (repK n ks) else none
      | none => none
    | some (.struct fs) =>
      match kindF P (kindT P d) fs.toList 0 with
      | some ks => if ks.length = P.cellsOf t ∧ fs.all (·.name != "_") = true then some ks else none
      | none => none
    | _ => none

def fitK : Value → K → Prop
  | .bool _, .b => True
  | .int k n, .i k' => k = k' ∧ (Lit.int k n).wf = true
  | _, _ => False

/-- Cells of these kinds. -/
def Fit : List Value → List K → Prop
  | [], [] => True
  | v :: vs, k :: ks => fitK v k ∧ Fit vs ks
  | _, _ => False

theorem Fit.length : ∀ {vs ks}, Fit vs ks → vs.length = ks.length
  | [], [], _ => rfl
  | v :: vs, k :: ks, h => by simp [Fit.length h.2]
  | [], _ :: _, h => h.elim
  | _ :: _, [], h => h.elim

theorem Fit.append : ∀ {a b ka kb}, Fit a ka → Fit b kb → Fit (a ++ b) (ka ++ kb)
  | [], b, [], kb, _, h => h
  | v :: a, b, k :: ka, kb, h, h' => ⟨h.1, Fit.append h.2 h'⟩
  | [], _, _ :: _, _, h, _ => h.elim
  | _ :: _, _, [], _, h, _ => h.elim

theorem Fit.split : ∀ {ka kb vs}, Fit vs (ka ++ kb) → Fit (vs.take ka.length) ka ∧ Fit (vs.drop ka.length) kb
  | [], kb, vs, h => by simpa [Fit] using h
  | k :: ka, kb, v :: vs, h => by
    obtain ⟨h1, h2⟩ := Fit.split (ka := ka) (kb := kb) (vs := vs) h.2
    exact ⟨⟨h.1, h1⟩, h2⟩
  | k :: ka, kb, [], h => h.elim

def litV : Value → Lit
  | .bool b => .bool b
  | .int k n => .int k n
  | _ => .bool false

theorem litV_inj : ∀ {vs us ks}, Fit vs ks → Fit us ks → vs.map litV = us.map litV → vs = us
  | [], [], _, _, _, _ => rfl
  | v :: vs, u :: us, k :: ks, h, h', e => by
    simp only [List.map_cons, List.cons.injEq] at e
    have e1 := litV_inj h.2 h'.2 e.2
    subst e1
    have h1 := h.1
    have h2 := h'.1
    have e0 := e.1
    cases v <;> cases k <;> simp only [fitK] at h1 <;> cases u <;> simp only [fitK] at h2 <;> simp_all [litV]
  | [], _ :: _, [], _, h, _ => h.elim
  | _ :: _, [], [], h, _, _ => h.elim
  | _ :: _, _ :: _, [], h, _, _ => h.elim
  | [], _ :: _, _ :: _, h, _, _ => h.elim
  | _ :: _, [], _ :: _, _, h, _ => h.elim

/-- Cut into rows of c cells. -/
theorem rows_lit (f : List Value → Option (List Lit)) (ks : List K) (hf : ∀ vs, Fit vs ks → f vs = some (vs.map litV)) : ∀ (n : Nat) (vs : List Value) (o : Nat),
    Fit (vs.drop (o * ks.length)) (repK n ks) → ((List.range' o n).mapM fun i => f ((vs.drop (i * ks.length)).take ks.length)).map List.flatten = some ((vs.drop (o * ks.length)).map litV)
  | 0, vs, o, h => by
    have : vs.drop (o * ks.length) = [] := by
      have := h.length; simp only [repK, List.length_nil] at this; exact List.eq_nil_of_length_eq_zero this
    simp [this]
  | n + 1, vs, o, h => by
    simp only [repK] at h
    obtain ⟨h1, h2⟩ := h.split
    rw [List.drop_drop, show o * ks.length + ks.length = (o + 1) * ks.length by rw [Nat.add_mul, Nat.one_mul]] at h2
    have ih := rows_lit f ks hf n vs (o + 1) h2
    simp only [List.range'_succ, List.mapM_cons, Option.pure_def, Option.bind_eq_bind]
    rw [hf _ h1]
    simp only [Option.map_eq_some_iff] at ih
    obtain ⟨l, hl, e⟩ := ih
    simp only [hl, Option.bind_some, Option.map_some, List.flatten_cons, Option.some.injEq]
    rw [e, ← List.map_append]
    congr 1
    have := List.take_append_drop ks.length (vs.drop (o * ks.length))
    rw [List.drop_drop, show o * ks.length + ks.length = (o + 1) * ks.length by rw [Nat.add_mul, Nat.one_mul]] at this
    exact this

theorem repK_length : ∀ n ks, (repK n ks).length = n * ks.length
  | 0, ks => by simp [repK]
  | n + 1, ks => by simp [repK, repK_length n ks, Nat.add_mul, Nat.add_comm]

theorem keyLits_fit : ∀ (d : Nat) (t : TypeId) (ks : List K), kindT P d t = some ks → ∀ vs, Fit vs ks → P.keyLits d t vs = some (vs.map litV)
  | 0, t, ks, h, _, _ => by simp [kindT] at h
  | d + 1, t, ks, h, vs, hv => by
    have IH := keyLits_fit d
    unfold kindT at h
    unfold Program.keyLits
    split at h
    · rename_i hu
      simp only [Option.some.injEq] at h; subst h
      match vs, hv with
      | [.bool b], _ => simp [hu, litV]
      | [.int _ _], hv => exact hv.1.elim
    · rename_i q hu
      simp only [Option.some.injEq] at h; subst h
      match vs, hv with
      | [.int k n], hv =>
        obtain ⟨⟨rfl, h2⟩, _⟩ := hv
        simp [hu, litV, h2]
      | [.bool b], hv => exact hv.1.elim
    · rename_i n e hu
      split at h
      · rename_i ke hke
        split at h
        · rename_i hc
          simp only [Option.some.injEq] at h; subst h
          have hl := hv.length
          rw [repK_length] at hl
          have r := rows_lit (fun cs => P.keyLits d e cs) ke (fun cs hcs => IH e ke hke cs hcs) n vs 0 (by simpa using hv)
          simp only [hu]
          have e0 : (vs.length = P.cellsOf t) := by rw [hl]; exact hc.2
          cases vs with
          | nil =>
            simp only [e0, if_true]
            rw [← hc.1, List.range_eq_range']
            simpa using r
          | cons v vs =>
            simp only [e0, if_true]
            rw [← hc.1, List.range_eq_range']
            simpa using r
        · cases h
      · cases h
    · rename_i fs hu
      split at h
      · rename_i ks' hks'
        split at h
        · rename_i hc
          simp only [Option.some.injEq] at h; subst h
          have gen : ∀ (l : List Field) (o : Nat) (kl : List K), kindF P (kindT P d) l o = some kl → Fit (vs.drop o) kl →
              (l.mapM fun f => P.keyLits d f.type ((vs.drop f.offset).take (P.cellsOf f.type))).map List.flatten = some ((vs.drop o).map litV) := by
            intro l
            induction l with
            | nil =>
              intro o kl hk hf
              simp [kindF] at hk; subst hk
              have : vs.drop o = [] := by have := hf.length; exact List.eq_nil_of_length_eq_zero this
              simp [this]
            | cons f l ih =>
              intro o kl hk hf
              unfold kindF at hk
              split at hk
              · rename_i hname
                simp only [Bool.and_eq_true, beq_iff_eq] at hname
                split at hk
                · rename_i kf hkf
                  split at hk
                  · rename_i hlen
                    simp only [Option.map_eq_some_iff] at hk
                    obtain ⟨kr, hkr, rfl⟩ := hk
                    obtain ⟨h1, h2⟩ := hf.split
                    rw [List.drop_drop] at h2
                    have r := ih (o + kf.length) kr hkr h2
                    simp only [List.mapM_cons, Option.pure_def, Option.bind_eq_bind, hname.2, ← hlen]
                    rw [IH f.type kf hkf _ h1]
                    simp only [Option.map_eq_some_iff] at r
                    obtain ⟨L, hL, e⟩ := r
                    simp only [hL, Option.bind_some, Option.map_some, List.flatten_cons, Option.some.injEq]
                    rw [e, ← List.map_append, ← List.drop_drop, List.take_append_drop]
                  · cases hk
                · cases hk
              · cases hk
          have r := gen fs.toList 0 ks' hks' (by simpa using hv)
          have e0 : vs.length = P.cellsOf t := by rw [hv.length]; exact hc.1
          simp only [hu]
          cases vs with
          | nil => simp only [e0, hc.2, and_self, if_true]; simpa using r
          | cons v vs => simp only [e0, hc.2, and_self, if_true]; simpa using r
        · cases h
      · cases h
    · cases h

def Ch.kinds : Ch → Option (List K)
  | .c (.bool _) => some [K.b]
  | .c (.int k z) => if (Lit.int k z).wf = true then some [K.i k] else none
  | .c _ => none
  | .n w _ => some (repK w [K.i .u64])
  | .e _ | .s _ => some [K.i .u64, K.i .u64, K.i .u64, K.i .u64]
  | .q _ | .m _ => some [K.i .u64, K.i .u64, K.i .u64, K.i .u64, K.i .u64, K.i .u64]
  | .l _ | .p _ _ | .sl _ _ _ _ | .sx _ _ | .sz _ _ | .y _ => none

def kindsC : List Ch → Option (List K)
  | [] => some []
  | c :: l => match c.kinds, kindsC l with | some a, some b => some (a ++ b) | _, _ => none

theorem wf_u64 (x : Nat) : (Lit.int .u64 ((x % 18446744073709551616 : Nat) : Int)).wf = true := by
  have : ((x % 18446744073709551616 : Nat) : Int) < 18446744073709551616 := by omega
  have h0 : (0 : Int) ≤ ((x % 18446744073709551616 : Nat) : Int) := by omega
  simp only [Lit.wf, IntKind.min, IntKind.max, IntKind.signed, IntKind.bits]
  simp
  omega

theorem fit_limbs : ∀ w x, Fit (limbs w x) (repK w [K.i .u64])
  | 0, _ => trivial
  | w + 1, x => ⟨⟨rfl, wf_u64 x⟩, fit_limbs w _⟩

theorem Ch.fit {c : Ch} {ks : List K} (h : c.kinds = some ks) : Fit (c.cells noNames) ks := by
  unfold Ch.kinds at h
  split at h
  · simp only [Option.some.injEq] at h; subst h; exact ⟨trivial, trivial⟩
  · split at h
    · rename_i hw; simp only [Option.some.injEq] at h; subst h; exact ⟨⟨rfl, hw⟩, trivial⟩
    · cases h
  · cases h
  · simp only [Option.some.injEq] at h; subst h; exact fit_limbs _ _
  all_goals first | (cases h; done) | (simp only [Option.some.injEq] at h; subst h; first | exact fit_limbs 4 _ | exact fit_limbs 6 _)

theorem kindsC_pure : ∀ {l : List Ch} {ks : List K}, kindsC l = some ks → pureC l = true
  | [], ks, _ => rfl
  | c :: l, ks, h => by
    unfold kindsC at h
    split at h
    · rename_i a b ha hb
      unfold pureC
      have : c.pure = true := by cases c <;> first | rfl | (simp [Ch.kinds] at ha)
      rw [this]
      exact kindsC_pure hb
    · cases h

theorem kindsC_fit : ∀ {l : List Ch} {ks : List K}, kindsC l = some ks → Fit (flat l) ks
  | [], ks, h => by simp [kindsC] at h; subst h; trivial
  | c :: l, ks, h => by
    unfold kindsC at h
    split at h
    · rename_i a b ha hb
      simp only [Option.some.injEq] at h; subst h
      exact (Ch.fit ha).append (kindsC_fit hb)
    · cases h

/-- May values of this type, made of these pieces, be held against one another? -/
def eqOK (P : Program) (T : TypeId) (xs ys : List Ch) : Bool :=
  match kindT P 16 T with
  | some ks => decide (ks.length = P.cellsOf T) && decide (kindsC xs = some ks) && decide (kindsC ys = some ks) && P.keyTypeAt 16 T && !P.eqGuardType P.depth T &&
      (match P.underlying T with | some (.array _ _) | some (.struct _) => true | _ => false)
  | none => false

theorem eqOK_run {ρ : Names} {T : TypeId} {xs ys : List Ch} (h : eqOK P T xs ys = true) (w : World) (X Y : Operand) (neg : Bool) (r : Bool) (hr : (r = true) ↔ flat xs = flat ys) :
    (do eqGuard (if neg then .neq else .eql) T X Y (.agg (flatR ρ xs).toArray) (.agg (flatR ρ ys).toArray); binOp (if neg then .neq else .eql) T (.agg (flatR ρ xs).toArray) (.agg (flatR ρ ys).toArray)).run P w = .ok (.bool (if neg then !r else r)) w := by
  unfold eqOK at h
  split at h
  · rename_i ks hk
    simp only [Bool.and_eq_true, decide_eq_true_eq, Bool.not_eq_true'] at h
    obtain ⟨⟨⟨⟨⟨h0, h1⟩, h2⟩, h3⟩, h4⟩, h5⟩ := h
    rw [(pureC_flat ρ (kindsC_pure h1)).1, (pureC_flat ρ (kindsC_pure h2)).1]
    have f1 := kindsC_fit h1
    have f2 := kindsC_fit h2
    have formed : ∀ l : List Value, Fit l ks → Value.formed P T (.agg l.toArray) = true := by
      intro l hl
      have hc : l.length = P.cellsOf T := by rw [hl.length, h0]
      split at h5
      · rename_i hu; simp [Value.formed, hu, hc]
      · rename_i hu; simp [Value.formed, hu, hc]
      · cases h5
    obtain ⟨r', e1, e2⟩ := run_equalIn_deep (P := P) 9984 16 T h3 w 16 16 (.agg (flat xs).toArray) (.agg (flat ys).toArray) ((flat xs).map litV) ((flat ys).map litV) (formed _ f1) (formed _ f2)
      (by simpa [Value.cells] using keyLits_fit 16 T ks hk _ f1) (by simpa [Value.cells] using keyLits_fit 16 T ks hk _ f2)
    have hrr : r' = r := by
      rw [Bool.eq_iff_iff, e2, hr]
      exact ⟨fun e => litV_inj f1 f2 e, fun e => by rw [e]⟩
    subst hrr
    have e1' : (Op.equal T (.agg (flat xs).toArray) (.agg (flat ys).toArray)).run P w = .ok r' w := e1
    have g : ∀ op, (eqGuard op T X Y (.agg (flat xs).toArray) (.agg (flat ys).toArray)).run P w = .ok () w := by
      intro op
      cases op <;> first | rfl | simp [eqGuard, h4]
    cases neg
    · simp only [Bool.false_eq_true, if_false, Sem.run_bind, g, Result.andThen_ok]
      simp [binOp, e1']
    · simp only [if_true, Sem.run_bind, g, Result.andThen_ok]
      simp [binOp, e1']
  · cases h
end Go.Ev
