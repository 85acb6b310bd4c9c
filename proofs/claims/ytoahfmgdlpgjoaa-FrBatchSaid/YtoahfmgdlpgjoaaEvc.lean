/- The evaluator's operations that leave the world alone: the operations themselves. -/
import Derived.Test.YtoahfmgdlpgjoaaEvb
import Derived.Laws.Bits64b
import Derived.Laws.BytesString
set_option linter.unusedSimpArgs false
set_option linter.unusedVariables false
namespace Go.Ev
open Go.RowKit

variable {P : Program}

/-- A number of 64 bits: one that is written out, or one that has a name. -/
def asU : AV → Option Nat
  | .u h => some h
  | .v (.int .u64 n) => if 0 ≤ n ∧ n < 18446744073709551616 then some n.toNat else none
  | _ => none

theorem asU_rep {ρ : Names} {a : AV} {h : Nat} {x : Value} (ha : asU a = some h) (hr : Rep ρ a x) : x = u64 h := by
  unfold asU at ha
  split at ha
  · simp only [Option.some.injEq] at ha; subst ha; exact hr
  · split at ha
    · rename_i n hn
      simp only [Option.some.injEq] at ha; subst ha
      simp only [Rep] at hr
      subst hr
      unfold u64
      congr 1
      omega
    · cases ha
  · cases ha

def bitsA (op : BinOp) (k : IntKind) (x y : Int) : Option Int :=
  let a := BitVec.ofInt k.bits x
  let b := BitVec.ofInt k.bits y
  match op with
  | .and => some (k.wrap (a &&& b).toNat)
  | .or => some (k.wrap (a ||| b).toNat)
  | .xor => some (k.wrap (a ^^^ b).toNat)
  | .andNot => some (k.wrap (a &&& ~~~b).toNat)
  | _ => none

theorem bitsA_run {op : BinOp} {k : IntKind} {x y r : Int} (h : bitsA op k x y = some r) (w : World) : (Op.intBits op k x y).run P w = .ok (.int k r) w := by
  cases op <;> simp only [bitsA, Option.some.injEq, reduceCtorEq] at h <;> subst h <;> rfl

/-- Arithmetic on numbers of 64 bits that have names. -/
def uA (op : BinOp) (a b : Nat) : Option AV :=
  match op with
  | .add => some (.u (a + b))
  | .sub => some (.u (a + (18446744073709551616 - b % 18446744073709551616)))
  | .mul => some (.u (a * b))
  | .eql => some (.v (.bool (decide (a % 18446744073709551616 = b % 18446744073709551616))))
  | .neq => some (.v (.bool (!decide (a % 18446744073709551616 = b % 18446744073709551616))))
  | .lss => some (.v (.bool (decide (a % 18446744073709551616 < b % 18446744073709551616))))
  | .leq => some (.v (.bool (decide (a % 18446744073709551616 ≤ b % 18446744073709551616))))
  | .gtr => some (.v (.bool (decide (b % 18446744073709551616 < a % 18446744073709551616))))
  | .geq => some (.v (.bool (decide (b % 18446744073709551616 ≤ a % 18446744073709551616))))
  | .quo => if b % 18446744073709551616 = 0 then none else some (.u (a % 18446744073709551616 / (b % 18446744073709551616)))
  | .rem => if b % 18446744073709551616 = 0 then none else some (.u (a % 18446744073709551616 % (b % 18446744073709551616)))
  | .and => some (.u (a % 18446744073709551616 &&& b % 18446744073709551616))
  | .or => some (.u (a % 18446744073709551616 ||| b % 18446744073709551616))
  | _ => none

theorem wrap_u64 (n : Int) : IntKind.u64.wrap n = n % 18446744073709551616 := by
  simp [IntKind.wrap, IntKind.signed, IntKind.bits]

theorem pure_run {X : Sem Unit} {Y : Sem Value} {z : Value} (hX : X = pure ()) (hY : Y = pure z) (w : World) : (do X; Y).run P w = .ok z w := by
  rw [hX, hY]; rfl

theorem uA_run {op : BinOp} {a b : Nat} {r : AV} (h : uA op a b = some r) {ρ : Names} (w : World) (T : TypeId) (X Y : Operand) :
    ∃ z, (do eqGuard op T X Y (u64 a) (u64 b); binOp op T (u64 a) (u64 b)).run P w = .ok z w ∧ Rep ρ r z := by
  unfold u64
  generalize hA : ((a % 18446744073709551616 : Nat) : Int) = A
  generalize hB : ((b % 18446744073709551616 : Nat) : Int) = B
  have key : ∀ z, binOp op T (.int .u64 A) (.int .u64 B) = pure z → (do eqGuard op T X Y (.int .u64 A) (.int .u64 B); binOp op T (.int .u64 A) (.int .u64 B)).run P w = .ok z w :=
    fun z hz => pure_run (eqGuard_at_int op T X Y (.int .u64 B) .u64 A) hz w
  have num : ∀ (n : Int) (m : Nat), n % 18446744073709551616 = ((m % 18446744073709551616 : Nat) : Int) → Rep ρ (.u m) (.int .u64 (IntKind.u64.wrap n)) := by
    intro n m e
    simp only [Rep, u64, wrap_u64, e]
  cases op <;> simp only [uA, Option.some.injEq, reduceCtorEq] at h
  case add => subst h; exact ⟨_, key _ (binOp_add _ _ _ _), num _ _ (by omega)⟩
  case sub => subst h; exact ⟨_, key _ (binOp_sub _ _ _ _), num _ _ (by omega)⟩
  case mul =>
    subst h
    refine ⟨_, key _ (binOp_mul _ _ _ _), num _ _ ?_⟩
    rw [← hA, ← hB, Nat.mul_mod, ← Int.natCast_mul]
    generalize a % 18446744073709551616 * (b % 18446744073709551616) = q
    omega
  case quo =>
    split at h
    · cases h
    · rename_i hz
      simp only [Option.some.injEq] at h; subst h
      have hB0 : ¬ B = 0 := by omega
      refine ⟨_, key (.int .u64 (IntKind.u64.wrap (A.tdiv B))) (by rw [binOp_quo]; simp only [Op.intDiv, hB0, if_false]), num _ _ ?_⟩
      rw [Int.tdiv_eq_ediv_of_nonneg (by omega), ← hA, ← hB, ← Int.natCast_ediv]
      generalize a % 18446744073709551616 / (b % 18446744073709551616) = q
      omega
  case rem =>
    split at h
    · cases h
    · rename_i hz
      simp only [Option.some.injEq] at h; subst h
      have hB0 : ¬ B = 0 := by omega
      refine ⟨_, key (.int .u64 (A.tmod B)) (by rw [binOp_rem]; simp only [Op.intDiv, hB0, if_false]), ?_⟩
      simp only [Rep, u64]
      congr 1
      rw [Int.tmod_eq_emod_of_nonneg (by omega), ← hA, ← hB]
      have : a % 18446744073709551616 % (b % 18446744073709551616) < 18446744073709551616 := by
        have := Nat.mod_lt (a % 18446744073709551616) (show 0 < b % 18446744073709551616 by omega)
        omega
      rw [Nat.mod_eq_of_lt this]
      norm_cast
  case and =>
    subst h
    have e := bits_and_u64_nat (a % 18446744073709551616) (b % 18446744073709551616) (by omega) (by omega)
    rw [hA, hB] at e
    refine ⟨.int .u64 (bits .and .u64 A B), key _ (by rw [binOp_and]; rfl), ?_⟩
    have hlt : a % 18446744073709551616 &&& b % 18446744073709551616 < 2 ^ 64 := Nat.and_lt_two_pow _ (by omega)
    simp only [Rep, u64]
    rw [e]
    generalize (a % 18446744073709551616 &&& b % 18446744073709551616) = z at hlt ⊢
    congr 1
    omega
  case or =>
    subst h
    have e := bits_or_u64_nat (a % 18446744073709551616) (b % 18446744073709551616) (by omega) (by omega)
    rw [hA, hB] at e
    refine ⟨.int .u64 (bits .or .u64 A B), key _ (by rw [binOp_or]; rfl), ?_⟩
    have hlt : a % 18446744073709551616 ||| b % 18446744073709551616 < 2 ^ 64 := Nat.or_lt_two_pow (by omega) (by omega)
    simp only [Rep, u64]
    rw [e]
    generalize (a % 18446744073709551616 ||| b % 18446744073709551616) = z at hlt ⊢
    congr 1
    omega
  case eql =>
    subst h
    refine ⟨_, key _ (binOp_eql _ _ _ _), ?_⟩
    simp only [Rep, Value.bool.injEq]
    rw [Bool.eq_iff_iff]
    simp only [beq_iff_eq, decide_eq_true_eq]
    omega
  case neq =>
    subst h
    refine ⟨_, key _ (binOp_neq _ _ _ _), ?_⟩
    simp only [Rep, Value.bool.injEq]
    rw [Bool.eq_iff_iff]
    simp only [bne_iff_ne, ne_eq, Bool.not_eq_true', decide_eq_false_iff_not]
    omega
  case lss =>
    subst h
    refine ⟨_, key _ (binOp_lss _ _ _ _), ?_⟩
    simp only [Rep, Value.bool.injEq, decide_eq_decide]
    omega
  case leq =>
    subst h
    refine ⟨_, key _ (binOp_leq _ _ _ _), ?_⟩
    simp only [Rep, Value.bool.injEq, decide_eq_decide]
    omega
  case gtr =>
    subst h
    refine ⟨_, key _ (binOp_gtr _ _ _ _), ?_⟩
    simp only [Rep, Value.bool.injEq, decide_eq_decide]
    omega
  case geq =>
    subst h
    refine ⟨_, key _ (binOp_geq _ _ _ _), ?_⟩
    simp only [Rep, Value.bool.injEq, decide_eq_decide]
    omega

def binA (P : Program) (op : BinOp) (T : TypeId) (x y : AV) : Option AV :=
  match x, y with
  | .v (.int k a), .v (.int k' b) =>
    match op with
    | .shr => if b < 0 then none else some (.v (.int k (a.fdiv (2 ^ min b.toNat k.bits))))
    | .shl => if b < 0 then none else some (.v (.int k (k.wrap (a * 2 ^ min b.toNat k.bits))))
    | _ =>
    if k = k' then
      match op with
      | .add => some (.v (.int k (k.wrap (a + b))))
      | .sub => some (.v (.int k (k.wrap (a - b))))
      | .mul => some (.v (.int k (k.wrap (a * b))))
      | .eql => some (.v (.bool (a == b)))
      | .neq => some (.v (.bool (a != b)))
      | .lss => some (.v (.bool (decide (a < b))))
      | .leq => some (.v (.bool (decide (a ≤ b))))
      | .gtr => some (.v (.bool (decide (a > b))))
      | .geq => some (.v (.bool (decide (a ≥ b))))
      | .quo => if b = 0 then none else some (.v (.int k (k.wrap (a.tdiv b))))
      | .rem => if b = 0 then none else some (.v (.int k (a.tmod b)))
      | op => (bitsA op k a b).map fun r => .v (.int k r)
    else none
  | .v (.bool a), .v (.bool b) =>
    match P.underlying T with
    | some .bool =>
      match op with
      | .eql => some (.v (.bool (a == b)))
      | .neq => some (.v (.bool (!(a == b))))
      | _ => none
    | _ => none
  | .u a, .v (.int k b) =>
    match op with
    | .shr => if b < 0 then none else some (.u (a % 18446744073709551616 / 2 ^ min b.toNat 64))
    | .shl => if b < 0 then none else some (.u (a * 2 ^ min b.toNat 64))
    | _ => match asU (.v (.int k b)) with | some b => uA op a b | none => none
  | .v (.string a), .v (.string b) =>
    match op with
    | .eql => some (.v (.bool (a.toList == b.toList)))
    | .neq => some (.v (.bool (!(a.toList == b.toList))))
    | _ => none
  | x, y => match asU x, asU y with
    | some a, some b => uA op a b
    | _, _ => none

theorem binA_run {w : World} {op : BinOp} {T : TypeId} {x y : AV} {r : AV} (h : binA P op T x y = some r) {ρ : Names} {u v : Value} (hx : Rep ρ x u) (hy : Rep ρ y v) (X Y : Operand) :
    ∃ z, (do eqGuard op T X Y u v; binOp op T u v).run P w = .ok z w ∧ Rep ρ r z := by
  unfold binA at h
  split at h
  · rename_i k a k' b
    simp only [Rep] at hx hy
    subst hx; subst hy
    split at h
    · split at h
      · cases h
      · rename_i hb
        simp only [Option.some.injEq] at h; subst h
        exact ⟨_, by simp [eqGuard_at_int, binOp, Op.shift, hb], rfl⟩
    · split at h
      · cases h
      · rename_i hb
        simp only [Option.some.injEq] at h; subst h
        exact ⟨_, by simp [eqGuard_at_int, binOp, Op.shift, hb], rfl⟩
    · rename_i ns1 ns2
      split at h
      · rename_i hk
        subst hk
        cases op <;> simp only [Option.some.injEq, reduceCtorEq] at h
        case shl => exact absurd rfl ns2
        case shr => exact absurd rfl ns1
        case quo =>
          split at h
          · cases h
          · rename_i hb
            simp only [Option.some.injEq] at h; subst h
            exact ⟨_, by simp [eqGuard_at_int, binOp, Op.intDiv, hb], rfl⟩
        case rem =>
          split at h
          · cases h
          · rename_i hb
            simp only [Option.some.injEq] at h; subst h
            exact ⟨_, by simp [eqGuard_at_int, binOp, Op.intDiv, hb], rfl⟩
        case and => simp only [Option.map_eq_some_iff] at h; obtain ⟨q, hq, rfl⟩ := h; exact ⟨_, by simp [eqGuard_at_int, binOp, bitsA_run hq], rfl⟩
        case or => simp only [Option.map_eq_some_iff] at h; obtain ⟨q, hq, rfl⟩ := h; exact ⟨_, by simp [eqGuard_at_int, binOp, bitsA_run hq], rfl⟩
        case xor => simp only [Option.map_eq_some_iff] at h; obtain ⟨q, hq, rfl⟩ := h; exact ⟨_, by simp [eqGuard_at_int, binOp, bitsA_run hq], rfl⟩
        case andNot => simp only [Option.map_eq_some_iff] at h; obtain ⟨q, hq, rfl⟩ := h; exact ⟨_, by simp [eqGuard_at_int, binOp, bitsA_run hq], rfl⟩
        all_goals first
          | (subst h; exact ⟨_, by simp [eqGuard_at_int, binOp, Op.intArith, Op.intCmp]; done, rfl⟩)
          | (subst h; exact ⟨_, by simp [eqGuard_at_int, binOp, Op.intArith, Op.intCmp]; rfl, rfl⟩)
          | (simp [bitsA] at h; done)
      · cases h
  · rename_i a b
    split at h
    · rename_i hT
      simp only [Rep] at hx hy
      subst hx; subst hy
      have e := run_equal_bool (P := P) w T a b hT
      cases op <;> simp only [Option.some.injEq, reduceCtorEq] at h <;> subst h
      · exact ⟨_, by simp [eqGuard_at_bool, binOp, e], rfl⟩
      · exact ⟨_, by simp [eqGuard_at_bool, binOp, e], rfl⟩
    · cases h
  · rename_i a k b
    split at h
    · split at h
      · cases h
      · rename_i hb
        simp only [Option.some.injEq] at h; subst h
        simp only [Rep] at hx hy
        subst hx; subst hy
        refine ⟨_, by simp only [u64, eqGuard_at_int, binOp, Op.shift, hb, if_false]; rfl, ?_⟩
        simp only [Rep, u64, IntKind.bits]
        congr 1
        generalize min b.toNat 64 = q
        have h2 : (0 : Int) ≤ 2 ^ q := by exact_mod_cast Nat.zero_le (2 ^ q)
        rw [Int.fdiv_eq_ediv_of_nonneg _ h2]
        have : a % 18446744073709551616 / 2 ^ q < 18446744073709551616 := by
          have := Nat.div_le_self (a % 18446744073709551616) (2 ^ q)
          omega
        rw [Nat.mod_eq_of_lt this]
        norm_cast
    · split at h
      · cases h
      · rename_i hb
        simp only [Option.some.injEq] at h; subst h
        simp only [Rep] at hx hy
        subst hx; subst hy
        refine ⟨_, by simp only [u64, eqGuard_at_int, binOp, Op.shift, hb, if_false]; rfl, ?_⟩
        simp only [Rep, u64, IntKind.bits, wrap_u64]
        congr 1
        generalize min b.toNat 64 = q
        have e : (2 : Int) ^ q = ((2 ^ q : Nat) : Int) := by norm_cast
        have e2 : a % 18446744073709551616 * 2 ^ q % 18446744073709551616 = a * 2 ^ q % 18446744073709551616 := by rw [Nat.mul_mod, Nat.mod_mod, ← Nat.mul_mod]
        rw [e, ← Int.natCast_mul, ← e2]
        generalize a % 18446744073709551616 * 2 ^ q = z
        omega
    · split at h
      · rename_i n hn
        have e2 := asU_rep hn hy
        simp only [Rep] at hx
        subst hx; subst e2
        exact uA_run h w T X Y
      · cases h
  · rename_i a b
    simp only [Rep] at hx hy
    subst hx; subst hy
    cases op <;> simp only [Option.some.injEq, reduceCtorEq] at h <;> subst h <;> exact ⟨_, by simp [eqGuard, binOp, Op.equal, Op.equalIn, Op.stringOp], rfl⟩
  · split at h
    · rename_i a b ha hb
      have e1 := asU_rep ha hx
      have e2 := asU_rep hb hy
      subst e1; subst e2
      exact uA_run h w T X Y
    · cases h

/-- The bounds of a slice expression. -/
def boundsA (len cap : Nat) : Option AV → Option AV → Option AV → Option (Nat × Nat × Nat)
  | none, none, none => some (0, len, cap)
  | none, some (.v (.int _ h)), none => if 0 ≤ h ∧ h ≤ cap then some (0, h.toNat, cap) else none
  | some (.v (.int _ l)), none, none => if 0 ≤ l ∧ l ≤ len then some (l.toNat, len, cap) else none
  | some (.v (.int _ l)), some (.v (.int _ h)), none => if 0 ≤ l ∧ l ≤ h ∧ h ≤ cap then some (l.toNat, h.toNat, cap) else none
  | none, some (.v (.int _ h)), some (.v (.int _ m)) => if 0 ≤ h ∧ h ≤ m ∧ m ≤ cap then some (0, h.toNat, m.toNat) else none
  | some (.v (.int _ l)), some (.v (.int _ h)), some (.v (.int _ m)) => if 0 ≤ l ∧ l ≤ h ∧ h ≤ m ∧ m ≤ cap then some (l.toNat, h.toNat, m.toNat) else none
  | _, _, _ => none

def RepO (ρ : Names) : Option AV → Option Value → Prop
  | none, none => True
  | some a, some x => Rep ρ a x
  | _, _ => False

theorem boundsA_run {ρ : Names} {len cap : Nat} {lo hi mx : Option AV} {l h m : Nat} (hb : boundsA len cap lo hi mx = some (l, h, m)) {x y z : Option Value} (hx : RepO ρ lo x) (hy : RepO ρ hi y) (hz : RepO ρ mx z) (isS : Bool) (w : World) :
    (Instr.sliceBounds isS len cap x y z).run P w = .ok (l, h, m) w := by
  have sb : ∀ (k : IntKind) (i : Int) (y : Nat) (code : BoundsCode), 0 ≤ i → i ≤ y → (Instr.sliceBound (.int k i) y code).run P w = .ok i.toNat w := by
    intro k i y code h0 h1
    simp [Instr.sliceBound, asIntOf, h0, h1]
  unfold boundsA at hb
  split at hb
  · match x, y, z, hx, hy, hz with
    | none, none, none, _, _, _ =>
      simp only [Option.some.injEq, Prod.mk.injEq] at hb; obtain ⟨rfl, rfl, rfl⟩ := hb
      simp [Instr.sliceBounds]
  · rename_i k i
    match x, y, z, hx, hy, hz with
    | none, some y, none, _, hy, _ =>
      simp only [RepO, Rep] at hy; subst hy
      split at hb
      · rename_i hc
        simp only [Option.some.injEq, Prod.mk.injEq] at hb; obtain ⟨rfl, rfl, rfl⟩ := hb
        simp [Instr.sliceBounds, sb _ _ _ _ hc.1 hc.2]
      · cases hb
  · rename_i k i
    match x, y, z, hx, hy, hz with
    | some x, none, none, hx, _, _ =>
      simp only [RepO, Rep] at hx; subst hx
      split at hb
      · rename_i hc
        simp only [Option.some.injEq, Prod.mk.injEq] at hb; obtain ⟨rfl, rfl, rfl⟩ := hb
        simp [Instr.sliceBounds, sb _ _ _ _ hc.1 hc.2]
      · cases hb
  · rename_i k i k' i'
    match x, y, z, hx, hy, hz with
    | some x, some y, none, hx, hy, _ =>
      simp only [RepO, Rep] at hx hy; subst hx; subst hy
      split at hb
      · rename_i hc
        simp only [Option.some.injEq, Prod.mk.injEq] at hb; obtain ⟨rfl, rfl, rfl⟩ := hb
        have e2 := sb k' i' cap (if isS = true then .sliceAcap else .sliceAlen) (by omega) hc.2.2
        simp [Instr.sliceBounds, e2, sb k i i'.toNat .sliceB hc.1 (by omega)]
      · cases hb
  · rename_i k i k' i'
    match x, y, z, hx, hy, hz with
    | none, some y, some z, _, hy, hz =>
      simp only [RepO, Rep] at hy hz; subst hy; subst hz
      split at hb
      · rename_i hc
        simp only [Option.some.injEq, Prod.mk.injEq] at hb; obtain ⟨rfl, rfl, rfl⟩ := hb
        have e2 := sb k' i' cap (if isS = true then .slice3Acap else .slice3Alen) (by omega) hc.2.2
        simp [Instr.sliceBounds, e2, sb k i i'.toNat .slice3B hc.1 (by omega)]
      · cases hb
  · rename_i k i k' i' k'' i''
    match x, y, z, hx, hy, hz with
    | some x, some y, some z, hx, hy, hz =>
      simp only [RepO, Rep] at hx hy hz; subst hx; subst hy; subst hz
      split at hb
      · rename_i hc
        simp only [Option.some.injEq, Prod.mk.injEq] at hb; obtain ⟨rfl, rfl, rfl⟩ := hb
        have e2 := sb k'' i'' cap (if isS = true then .slice3Acap else .slice3Alen) (by omega) hc.2.2.2
        simp [Instr.sliceBounds, e2, sb k' i' i''.toNat .slice3B (by omega) (by omega), sb k i i'.toNat .slice3C hc.1 (by omega)]
      · cases hb
  · cases hb

def lenA (P : Program) : List AV → List TypeId → Option AV
  | [a], [T] =>
    match P.underlying T, a with
    | some (.slice _), .sl _ _ len _ => some (.v (.int .i64 len))
    | some (.slice _), .sx _ len => some (.v (.int .i64 len))
    | some (.slice _), .sz _ len => some (.v (.int .i64 len))
    | some (.slice _), .v (.slice _ len _) => some (.v (.int .i64 len))
    | some (.array n _), _ => some (.v (.int .i64 n))
    | some .string, .v (.string s) => some (.v (.int .i64 s.size))
    | _, _ => none
  | _, _ => none

theorem lenA_run {ρ : Names} {args : List AV} {vs : List Value} {argTypes : List TypeId} {r : AV} (h : lenA P args argTypes = some r) (hr : Reps ρ args vs) (T0 : TypeId) (w : World) :
    ∃ x, (Builtin.len_ argTypes.toArray T0 vs.toArray).run P w = .ok x w ∧ Rep ρ r x := by
  match args, argTypes, h with
  | [a], [T], h =>
    simp only [Reps] at hr
    obtain ⟨x, _, rfl, hx, rfl⟩ := hr
    simp only [lenA] at h
    split at h
    · rename_i e id off len cap hu
      simp only [Rep] at hx
      obtain ⟨v, _, rfl⟩ := hx
      simp only [Option.some.injEq] at h; subst h
      exact ⟨.int .i64 len, by simp [Builtin.len_, run_underlying hu, goInt], rfl⟩
    · rename_i e id len hu
      simp only [Rep] at hx
      obtain ⟨v, _, rfl⟩ := hx
      simp only [Option.some.injEq] at h; subst h
      exact ⟨.int .i64 len, by simp [Builtin.len_, run_underlying hu, goInt], rfl⟩
    · rename_i e id len hu
      simp only [Rep] at hx
      obtain ⟨v, _, hz, rfl⟩ := hx
      simp only [Option.some.injEq] at h; subst h
      refine ⟨.int .i64 len, ?_, rfl⟩
      unfold zval
      split
      · rename_i h0; rw [hz h0]; simp [Builtin.len_, run_underlying hu, goInt]
      · simp [Builtin.len_, run_underlying hu, goInt]
    · rename_i e q len cap hu
      simp only [Rep] at hx; subst hx
      simp only [Option.some.injEq] at h; subst h
      exact ⟨.int .i64 len, by simp [Builtin.len_, run_underlying hu, goInt], rfl⟩
    · rename_i n e hu
      simp only [Option.some.injEq] at h; subst h
      exact ⟨.int .i64 n, by simp [Builtin.len_, run_underlying hu, goInt], rfl⟩
    · rename_i s hu
      simp only [Rep] at hx; subst hx
      simp only [Option.some.injEq] at h; subst h
      exact ⟨.int .i64 s.size, by simp [Builtin.len_, run_underlying hu, goInt], rfl⟩
    · cases h

/-- The least, or the greatest, of numbers. -/
def minA (mn : Bool) : List AV → Option AV
  | [.v (.int k a), .v (.int k' b)] => some (.v (.int k (if mn then (if b < a then b else a) else (if b > a then b else a))))
  | _ => none

def opt (t : Sl) : Option Operand → Option AV
  | none => none
  | some x => some (evA t x)

theorem opt_rep {ρ : Names} {t : Sl} {a : Act} (hs : Slots ρ t a.tmps) (x : Option Operand) : RepO ρ (opt t x) (x.map a.eval) := by
  cases x with
  | none => trivial
  | some x => exact rep_evA hs x

/-- Which function is a type's method of this name, if it takes the value itself. -/
def methodAt (P : Program) (T : TypeId) (name : String) : Option FuncId :=
  match P.underlying T with
  | some (.struct _) | some (.array _ _) =>
    match P.info? T with
    | some i => match i.methods.find? (·.name == name) with
      | some m => match m.path.isEmpty, m.func with
        | true, some (f, false) => some f
        | _, _ => none
      | none => none
    | none => none
  | _ => none

theorem methodAt_run {T : TypeId} {name : String} {f : FuncId} (h : methodAt P T name = some f) (v : Value) (args : Array Value) (w : World) : (callMethod (.iface T v) name args).run P w = (callFunc f (#[v] ++ args)).run P w := by
  unfold methodAt at h
  have key : ∀ (d : TypeDesc), P.underlying T = some d → (∀ e, d ≠ .pointer e) → ∀ i, P.info? T = some i → ∀ m, i.methods.find? (·.name == name) = some m → m.path.isEmpty = true → m.func = some (f, false) →
      ∀ k, (method (k + 1) T v name).run P w = .ok (f, v) w := by
    intro d hd hp i hi m hm he hf k
    have hpath : m.path.toList = [] := by simpa using he
    unfold method
    simp only [Sem.run_bind, typeInfo]
    simp only [hi, hm, hpath, follow, hf, Sem.run_pure, Result.andThen_ok, Sem.run_bind, receiverAt, run_underlying hd]
    simp [hi, hm, hpath, follow, hf, receiverAt, run_underlying hd]
    cases d <;> first | exact absurd rfl (hp _) | simp [Place.get]
  have fin : ∀ (d : TypeDesc), P.underlying T = some d → (∀ e, d ≠ .pointer e) → (match P.info? T with
    | some i => match i.methods.find? (·.name == name) with
      | some m => match m.path.isEmpty, m.func with
        | true, some (f, false) => some f
        | _, _ => none
      | none => none
    | none => none) = some f → (callMethod (.iface T v) name args).run P w = (callFunc f (#[v] ++ args)).run P w := by
    intro d hd hp h
    split at h
    · rename_i i hi
      split at h
      · rename_i m hm
        split at h
        · rename_i he hf
          simp only [Option.some.injEq] at h; subst h
          have := key d hd hp i hi m hm he hf (P.types.size + Made.depth - 1)
          rw [show P.types.size + Made.depth - 1 + 1 = P.types.size + Made.depth by unfold Made.depth; omega] at this
          simp only [callMethod, Sem.run_bind]
          simp [this]
        · cases h
      · cases h
    · cases h
  split at h
  · rename_i hu; exact fin _ hu (fun e he => by cases he) h
  · rename_i hu; exact fin _ hu (fun e he => by cases he) h
  · cases h

/-- A string of such bytes. -/
def ofL (l : List UInt8) : ByteArray := ⟨l.toArray⟩
/-- The bytes that pieces are, if they are bytes. -/
def strL : List Ch → Option (List UInt8)
  | [] => some []
  | .c (.int .u8 n) :: l => (strL l).map fun r => UInt8.ofNat n.toNat :: r
  | .y bs :: l => (strL l).map fun r => bs ++ r
  | _ :: _ => none
/-- Cells that are bytes. -/
def isB (n : Int) : Value := .int .u8 n
theorem strL_spec (ρ : Names) : ∀ {cs : List Ch} {l : List UInt8}, strL cs = some l → ∃ ns : List Int, flatR ρ cs = ns.map (Value.int .u8) ∧ ns.map (fun n => UInt8.ofNat n.toNat) = l
  | [], l, h => by simp only [strL, Option.some.injEq] at h; subst h; exact ⟨[], rfl, rfl⟩
  | c :: cs, l, h => by
    unfold strL at h
    split at h
    · cases ‹c :: cs = []›
    · rename_i n r he
      simp only [List.cons.injEq] at he
      obtain ⟨rfl, rfl⟩ := he
      simp only [Option.map_eq_some_iff] at h
      obtain ⟨m, h1, rfl⟩ := h
      obtain ⟨ns, e1, e2⟩ := strL_spec ρ h1
      exact ⟨n :: ns, by simp [flatR, Ch.cells, e1], by simp [e2]⟩
    · rename_i bs r he
      simp only [List.cons.injEq] at he
      obtain ⟨rfl, rfl⟩ := he
      simp only [Option.map_eq_some_iff] at h
      obtain ⟨m, h1, rfl⟩ := h
      obtain ⟨ns, e1, e2⟩ := strL_spec ρ h1
      refine ⟨bs.map (fun b => ((b.toNat : Nat) : Int)) ++ ns, ?_, ?_⟩
      · simp only [flatR, Ch.cells, e1, List.map_append, List.map_map]
        rfl
      · rw [List.map_append, List.map_map, e2]
        congr 1
        have : ((fun n : Int => UInt8.ofNat n.toNat) ∘ fun b : UInt8 => ((b.toNat : Nat) : Int)) = id := by
          funext b; simp
        rw [this, List.map_id]
    · cases h
theorem foldl_pushB : ∀ (ns : List Int) (r : ByteArray), ns.foldl (fun r n => r.push (UInt8.ofNat n.toNat)) r = ⟨r.data ++ (ns.map (fun n => UInt8.ofNat n.toNat)).toArray⟩
  | [], r => by simp
  | n :: ns, r => by
    simp only [List.foldl_cons]
    rw [foldl_pushB ns]
    simp [ByteArray.push]
theorem str_run {w : World} {ρ : Names} {b off len cap : Nat} {src dst e : TypeId} (hs : P.underlying src = some (.slice e)) (he : P.underlying e = some (.int .u8)) (hd : P.underlying dst = some .string)
    {p : List Ch} {l : List UInt8} (hl : strL p = some l) (hc : ∀ j v, (flatR ρ p)[j]? = some v → w.cell? ⟨b, off + j, none⟩ = some v) (hlen : (flatR ρ p).length = len) :
    (convert src dst (.slice (some ⟨b, off, none⟩) len cap)).run P w = .ok (.string (ofL l)) w := by
  rw [run_convert_bytes_string w src dst e _ _ _ hs he hd]
  obtain ⟨ns, e1, e2⟩ := strL_spec ρ hl
  have h1 := run_loadCells_list (P := P) w ⟨b, off, none⟩ (flatR ρ p) (fun j v hj => by rw [Addr.add_mid]; exact hc j v hj)
  rw [hlen, e1] at h1
  rw [run_bytesToString w _ len cap ns h1, foldl_pushB, e2]
  congr 2
  show ByteArray.mk _ = ByteArray.mk _
  congr 1
  exact Array.empty_append

def valA (P : Program) (h : Heap) (t : Sl) : Op → Option AV
  | .move x => some (evA t x)
  | .assign x => some (evA t x)
  | .pick c a b =>
    match evA t c with
    | .v (.bool true) => some (evA t a)
    | .v (.bool false) => some (evA t b)
    | _ => none
  | .load T x =>
    match evA t x with
    | .p id off => match h.get id with | some blk => (match blk.cells? with | some cs => readT P T off cs | none => none) | none => none
    | _ => none
  | .build T ps => (builtA P T (ps.toList.map fun (i, x) => (i, evA t x))).map .ag
  | .fieldAddr S x f =>
    match evA t x, P.underlying S with
    | .p id off, some (.struct fs) =>
      match fs[f]? with
      | some fd => match P.info? fd.type with | some i => (match Nat.beq i.size 0 with | true => none | false => some (.p id (off + fd.offset))) | none => none
      | none => none
    | _, _ => none
  | .field S x f =>
    match evA t x, P.underlying S with
    | .ag cs, some (.struct fs) => match fs[f]? with | some fd => readT P fd.type fd.offset cs | none => none
    | _, _ => none
  | .indexAddr T x i =>
    match evA t x, evA t i, P.underlying T with
    | .p id off, .v (.int _ n), some (.array len e) =>
      match P.info? e with | some ie => if 0 ≤ n ∧ n < len then some (.p id (off + n.toNat * ie.size)) else none | none => none
    | .sl id off len _, .v (.int _ n), some (.slice e) =>
      match P.info? e with | some ie => if 0 ≤ n ∧ n < len then some (.p id (off + n.toNat * ie.size)) else none | none => none
    | .sx id len, .v (.int _ n), some (.slice e) =>
      match P.info? e with | some ie => if 0 ≤ n ∧ n < len then some (.p id (n.toNat * ie.size)) else none | none => none
    | _, _, _ => none
  | .index T x i =>
    match evA t x, evA t i, P.underlying T with
    | .ag cs, .v (.int _ n), some (.array len e) =>
      match P.info? e with | some ie => if 0 ≤ n ∧ n < len then readT P e (n.toNat * ie.size) cs else none | none => none
    | _, _, _ => none
  | .extract x i => match evA t x with | .tp l => l[i]? | _ => none
  | .unOp op _ x =>
    match op, evA t x with
    | .not, .v (.bool b) => some (.v (.bool (!b)))
    | .neg, .v (.int k n) => some (.v (.int k (k.wrap (0 - n))))
    | .neg, .u h => some (.u (18446744073709551616 - h % 18446744073709551616))
    | .xor, .v (.int k n) => (bitsA .xor k (if k.signed then -1 else k.max) n).map fun r => .v (.int k r)
    | _, _ => none
  | .binOp op T x y _ => binA P op T (evA t x) (evA t y)
  | .convert src dst x =>
    match evA t x, P.underlying src, P.underlying dst with
    | .v (.int _ n), some (.int _), some (.int k) => some (.v (.int k (k.wrap n)))
    | .u h, some (.int _), some (.int .u64) => some (.u h)
    | .u h, some (.int _), some (.int k) => some (.v (.int k (k.wrap ((h % 18446744073709551616 : Nat) : Int))))
    | .sl id off len _, some (.slice e), some .string =>
      match P.underlying e, h.get id with
      | some (.int .u8), some blk => (match blk.cells? with
        | some cs => (match sub cs off len with | some p => (strL p).map fun l => .v (.string (ofL l)) | none => none)
        | none => none)
      | _, _ => none
    | .sx id len, some (.slice e), some .string =>
      match P.underlying e, h.get id with
      | some (.int .u8), some blk => (match blk.cells? with
        | some cs => (match sub cs 0 len with | some p => (strL p).map fun l => .v (.string (ofL l)) | none => none)
        | none => none)
      | _, _ => none
    | _, _, _ => none
  | .sliceToArrayPointer T x =>
    match evA t x, P.underlying T with
    | .sl id off len _, some (.array n _) => (match Nat.ble n len with | true => some (.p id off) | false => none)
    | .sx id len, some (.array n _) => (match Nat.ble n len with | true => some (.p id 0) | false => none)
    | _, _ => none
  | .slice T x lo hi mx =>
    match evA t x, P.underlying T with
    | .p id off, some (.array n e) =>
      match P.info? e, boundsA n n (opt t lo) (opt t hi) (opt t mx) with
      | some ie, some (l, h, m) => some (.sl id (match Nat.beq m l with | true => off | false => off + l * ie.size) (h - l) (m - l))
      | _, _ => none
    | .sl id off len cap, some (.slice e) =>
      match P.info? e, boundsA len cap (opt t lo) (opt t hi) (opt t mx) with
      | some ie, some (l, h, m) => some (.sl id (match Nat.beq m l with | true => off | false => off + l * ie.size) (h - l) (m - l))
      | _, _ => none
    | _, _ => none
  | .makeFunc (.func f) first captured => some (.clo f (first.toList.map (evA t)) (captured.toList.map (evA t)))
  | .call { callee := .builtin .len, args := args, argTypes := argTypes } => lenA P (args.toList.map (evA t)) argTypes.toList
  | .call { callee := .builtin .min, args := args, argTypes := argTypes } => minA true (args.toList.map (evA t))
  | .call { callee := .builtin .max, args := args, argTypes := argTypes } => minA false (args.toList.map (evA t))
  | .makeInterface T x => match P.underlying T with | some (.interface _) => none | some _ => some (.ifc T (evA t x)) | none => none
  | .nilCheck x =>
    match evA t x with
    | .p id off => some (.p id off)
    | .clo f l m => some (.clo f l m)
    | _ => none
  | _ => none

theorem boundsA_eqs {isS : Bool} {len cap : Nat} {lo hi mx : Option AV} {l h m : Nat} (hb : boundsA len cap lo hi mx = some (l, h, m)) : True := trivial

theorem valA_run {w : World} {ρ : Names} {t : Sl} {a : Act} {h : Heap} {B : Nat} (hs : Slots ρ t a.tmps) (hh : HAt B ρ h w) (o : Oper) {r : AV} (hv : valA P h t o.op = some r) :
    ∃ x, (execOp a.eval o).run P w = .ok (.value x) w ∧ Rep ρ r x := by
  obtain ⟨dst, op, type, pos, after, guard⟩ := o
  simp only at hv
  have slice_run : ∀ (isS : Bool) (len cap l h m : Nat) (lo hi mx : Option Operand), boundsA len cap (opt t lo) (opt t hi) (opt t mx) = some (l, h, m) →
      (Instr.sliceBounds isS len cap (lo.map a.eval) (hi.map a.eval) (mx.map a.eval)).run P w = .ok (l, h, m) w :=
    fun isS len cap l h m lo hi mx hb => boundsA_run hb (opt_rep hs lo) (opt_rep hs hi) (opt_rep hs mx) isS w
  cases op <;> simp only [valA, reduceCtorEq] at hv
  case move x => simp only [Option.some.injEq] at hv; subst hv; exact ⟨a.eval x, by simp [execOp], rep_evA hs x⟩
  case assign x => simp only [Option.some.injEq] at hv; subst hv; exact ⟨a.eval x, by simp [execOp], rep_evA hs x⟩
  case pick c x y =>
    have hc := rep_evA hs c
    split at hv
    · rename_i hb
      rw [hb] at hc; simp only [Rep] at hc
      simp only [Option.some.injEq] at hv; subst hv
      exact ⟨a.eval x, by simp [execOp, hc, asBool], rep_evA hs x⟩
    · rename_i hb
      rw [hb] at hc; simp only [Rep] at hc
      simp only [Option.some.injEq] at hv; subst hv
      exact ⟨a.eval y, by simp [execOp, hc, asBool], rep_evA hs y⟩
    · cases hv
  case load T x =>
    have hx := rep_evA hs x
    split at hv
    · rename_i id off hp
      rw [hp] at hx
      simp only [Rep] at hx
      obtain ⟨v, h1, h2⟩ := hx
      split at hv
      · rename_i blk hblk
        split at hv
        · rename_i cs hcs
          obtain ⟨v', g1, g2⟩ := hh.at_ id blk hblk
          rw [h1] at g1; simp only [Option.some.injEq] at g1; subst g1
          obtain ⟨k1, k2⟩ := g2.cells hcs
          obtain ⟨z, k1, k2⟩ := run_loadVar_A k1 k2 hv
          exact ⟨z, by simp [execOp, h2, Instr.loadAt, Instr.sureAddr, k1], k2⟩
        · cases hv
      · cases hv
    · cases hv
  case build T ps =>
    simp only [Option.map_eq_some_iff] at hv
    obtain ⟨cs, hc, rfl⟩ := hv
    have hparts : Reps ρ ((ps.toList.map fun (i, x) => (i, evA t x)).map (·.2)) ((ps.toList.map fun (i, x) => (i, a.eval x)).map (·.2)) := by
      have := slots_map hs (ps.toList.map (·.2))
      simpa [List.map_map, Function.comp_def] using this
    obtain ⟨hb, hd⟩ := builtA_spec hc (ps.toList.map fun (i, x) => (i, a.eval x)) (by simp [Function.comp_def]) hparts
    refine ⟨.agg (flatR ρ cs).toArray, ?_, by simp only [Rep]; exact ⟨hd, trivial⟩⟩
    have := run_build (P := P) w T (ps.map fun (i, x) => (i, a.eval x)) (flatR ρ cs).toArray (by simpa using hb)
    simp [execOp, this]
  case fieldAddr S x f =>
    have hx := rep_evA hs x
    split at hv
    · rename_i id off fs hp hS
      rw [hp] at hx
      simp only [Rep] at hx
      obtain ⟨v, h1, h2⟩ := hx
      split at hv
      · rename_i fd hfd
        split at hv
        · rename_i i hi
          split at hv
          · cases hv
          · rename_i hz
            have hz : i.size ≠ 0 := fun e => by rw [e] at hz; cases hz
            simp only [Option.some.injEq] at hv; subst hv
            refine ⟨.pointer (some ⟨v.1, v.2 + off + fd.offset, none⟩), ?_, ?_⟩
            · simp [execOp, Instr.fieldAt, run_underlying hS, hfd, h2, Instr.sureAddr, fieldPlace, run_sizeOf' hi, hz, Addr.add_mid]
            · simp only [Rep]; exact ⟨v, h1, by rw [Nat.add_assoc]⟩
        · cases hv
      · cases hv
    · cases hv
  case field S x f =>
    have hx := rep_evA hs x
    split at hv
    · rename_i cs fs hp hS
      rw [hp] at hx
      simp only [Rep] at hx
      split at hv
      · rename_i fd hfd
        obtain ⟨z, k1, k2⟩ := run_part_A (P := P) (w := w) hx.1 hv
        refine ⟨z, ?_, k2⟩
        simp [execOp, Instr.field, run_underlying hS, hfd, hx.2, asAgg, k1]
      · cases hv
    · cases hv
  case indexAddr T x i =>
    have hx := rep_evA hs x
    have hi := rep_evA hs i
    split at hv
    · rename_i id off k n len e hp hn hT
      rw [hp] at hx; rw [hn] at hi
      simp only [Rep] at hi hx
      obtain ⟨v, h1, h2⟩ := hx
      split at hv
      · rename_i ie hie
        split at hv
        · rename_i hlt
          simp only [Option.some.injEq] at hv; subst hv
          refine ⟨.pointer (some ⟨v.1, v.2 + off + n.toNat * ie.size, none⟩), ?_, ?_⟩
          · simp [execOp, Instr.indexAt, hi, asIntOf, run_underlying hT, h2, Instr.sureAddr, hlt, run_sizeOf' hie, Addr.add_mid]
          · simp only [Rep]; exact ⟨v, h1, by rw [Nat.add_assoc]⟩
        · cases hv
      · cases hv
    · rename_i id off len cap k n e hp hn hT
      rw [hp] at hx; rw [hn] at hi
      simp only [Rep] at hi hx
      obtain ⟨v, h1, h2⟩ := hx
      split at hv
      · rename_i ie hie
        split at hv
        · rename_i hlt
          simp only [Option.some.injEq] at hv; subst hv
          refine ⟨.pointer (some ⟨v.1, v.2 + off + n.toNat * ie.size, none⟩), ?_, ?_⟩
          · simp [execOp, Instr.indexAt, hi, asIntOf, run_underlying hT, h2, hlt, run_sizeOf' hie, Addr.add_mid]
          · simp only [Rep]; exact ⟨v, h1, by rw [Nat.add_assoc]⟩
        · cases hv
      · cases hv
    · rename_i id len k n e hp hn hT
      rw [hp] at hx; rw [hn] at hi
      simp only [Rep] at hi hx
      obtain ⟨v, h1, h2⟩ := hx
      split at hv
      · rename_i ie hie
        split at hv
        · rename_i hlt
          simp only [Option.some.injEq] at hv; subst hv
          refine ⟨.pointer (some ⟨v.1, v.2 + n.toNat * ie.size, none⟩), ?_, ?_⟩
          · simp [execOp, Instr.indexAt, hi, asIntOf, run_underlying hT, h2, hlt, run_sizeOf' hie, Addr.add_mid]
          · simp only [Rep]; exact ⟨v, h1, rfl⟩
        · cases hv
      · cases hv
    · cases hv
  case index T x i =>
    have hx := rep_evA hs x
    have hi := rep_evA hs i
    split at hv
    · rename_i cs k n len e hp hn hT
      rw [hp] at hx; rw [hn] at hi
      simp only [Rep] at hi hx
      split at hv
      · rename_i ie hie
        split at hv
        · rename_i hlt
          obtain ⟨z, k1, k2⟩ := run_part_A (P := P) (w := w) hx.1 hv
          refine ⟨z, ?_, k2⟩
          simp [execOp, Instr.index, hi, asIntOf, run_underlying hT, hx.2, hlt, run_sizeOf' hie, k1]
        · cases hv
      · cases hv
    · cases hv
  case extract x i =>
    have hx := rep_evA hs x
    split at hv
    · rename_i l hp
      rw [hp] at hx
      simp only [Rep] at hx
      obtain ⟨xs, h1, h2⟩ := hx
      obtain ⟨y, h3, h4⟩ := reps_get h1 i r hv
      refine ⟨y, ?_, h4⟩
      simp [execOp, h2, Instr.extract, h3]
    · cases hv
  case unOp op T x =>
    have hx := rep_evA hs x
    split at hv
    · rename_i b hp
      rw [hp] at hx
      simp only [Rep] at hx
      simp only [Option.some.injEq] at hv; subst hv
      exact ⟨.bool (!b), by simp [execOp, hx, Op.unary], rfl⟩
    · rename_i k n hp
      rw [hp] at hx
      simp only [Rep] at hx
      simp only [Option.some.injEq] at hv; subst hv
      exact ⟨.int k (k.wrap (0 - n)), by simp [execOp, hx, Op.unary, Op.intArith], rfl⟩
    · rename_i n hp
      rw [hp] at hx
      simp only [Rep, u64] at hx
      simp only [Option.some.injEq] at hv; subst hv
      refine ⟨.int .u64 (IntKind.u64.wrap (0 - ((n % 18446744073709551616 : Nat) : Int))), by simp [execOp, hx, Op.unary, Op.intArith], ?_⟩
      simp only [Rep, u64, wrap_u64]
      congr 1
      omega
    · rename_i k n hp
      rw [hp] at hx
      simp only [Rep] at hx
      simp only [Option.map_eq_some_iff] at hv
      obtain ⟨q, hq, rfl⟩ := hv
      exact ⟨.int k q, by simp [execOp, hx, Op.unary, bitsA_run hq], rfl⟩
    · cases hv
  case binOp op T x y yt =>
    obtain ⟨z, k1, k2⟩ := binA_run (w := w) hv (rep_evA hs x) (rep_evA hs y) x y
    refine ⟨z, ?_, k2⟩
    simp only [execOp]
    rw [Sem.run_bind, k1]
    rfl
  case convert src dst x =>
    have hx := rep_evA hs x
    split at hv
    · rename_i k n d k' hp hsrc hdst
      rw [hp] at hx
      simp only [Rep] at hx
      simp only [Option.some.injEq] at hv; subst hv
      refine ⟨.int k' (k'.wrap n), ?_, rfl⟩
      have hk : P.intKind dst = k' := by simp [Program.intKind, hdst]
      have := run_convert_int (P := P) w src dst k n (by simp [hsrc]) (by rw [hdst, hk])
      rw [hk] at this
      simp [execOp, hx, this]
    · rename_i n d hp hsrc hdst
      rw [hp] at hx
      simp only [Rep] at hx
      simp only [Option.some.injEq] at hv; subst hv
      refine ⟨u64 n, ?_, rfl⟩
      have hk : P.intKind dst = .u64 := by simp [Program.intKind, hdst]
      have := run_convert_int (P := P) w src dst .u64 ((n % 18446744073709551616 : Nat) : Int) (by simp [hsrc]) (by rw [hdst, hk])
      rw [hk, wrap_u64, show ((n % 18446744073709551616 : Nat) : Int) % 18446744073709551616 = ((n % 18446744073709551616 : Nat) : Int) by omega] at this
      simp only [execOp, hx, u64]
      rw [Sem.run_bind, this]
      rfl
    · rename_i n d k' hne hp hsrc hdst
      rw [hp] at hx
      simp only [Rep] at hx
      simp only [Option.some.injEq] at hv; subst hv
      refine ⟨.int k' (k'.wrap ((n % 18446744073709551616 : Nat) : Int)), ?_, rfl⟩
      have hk : P.intKind dst = k' := by simp [Program.intKind, hdst]
      have := run_convert_int (P := P) w src dst .u64 ((n % 18446744073709551616 : Nat) : Int) (by simp [hsrc]) (by rw [hdst, hk])
      rw [hk] at this
      simp only [execOp, hx, u64]
      rw [Sem.run_bind, this]
      rfl
    · rename_i id off len cap e hp hsrc hdst
      rw [hp] at hx
      simp only [Rep] at hx
      obtain ⟨v, h1, h2⟩ := hx
      split at hv
      · rename_i blk he hblk
        split at hv
        · rename_i cs hcs
          split at hv
          · rename_i p hsub
            simp only [Option.map_eq_some_iff] at hv
            obtain ⟨l, hl, rfl⟩ := hv
            obtain ⟨v', g1, g2⟩ := hh.at_ id blk hblk
            rw [h1] at g1; simp only [Option.some.injEq] at g1; subst g1
            obtain ⟨k1, k2⟩ := g2.cells hcs
            obtain ⟨n1, n2, n3, n4⟩ := sub_spec ρ hsub
            refine ⟨.string (ofL l), ?_, rfl⟩
            have hr := str_run (P := P) (w := w) (ρ := ρ) (b := v.1) (off := v.2 + off) (len := len) (cap := cap) hsrc he hdst hl (fun j z hj => by
              have hlt : j < (flatR ρ p).length := (List.getElem?_eq_some_iff.1 hj).1
              rw [Nat.add_assoc]
              refine k2 _ _ ?_
              rw [← n1] at hj
              simp only [List.getElem?_take, List.getElem?_drop] at hj
              rw [if_pos (by omega)] at hj
              exact hj) n2
            simp [execOp, h2, hr]
          · cases hv
        · cases hv
      · cases hv
    · rename_i id len e hp hsrc hdst
      rw [hp] at hx
      simp only [Rep] at hx
      obtain ⟨v, h1, h2⟩ := hx
      split at hv
      · rename_i blk he hblk
        split at hv
        · rename_i cs hcs
          split at hv
          · rename_i p hsub
            simp only [Option.map_eq_some_iff] at hv
            obtain ⟨l, hl, rfl⟩ := hv
            obtain ⟨v', g1, g2⟩ := hh.at_ id blk hblk
            rw [h1] at g1; simp only [Option.some.injEq] at g1; subst g1
            obtain ⟨k1, k2⟩ := g2.cells hcs
            obtain ⟨n1, n2, n3, n4⟩ := sub_spec ρ hsub
            refine ⟨.string (ofL l), ?_, rfl⟩
            have hr := str_run (P := P) (w := w) (ρ := ρ) (b := v.1) (off := v.2) (len := len) (cap := len + v.3) hsrc he hdst hl (fun j z hj => by
              have hlt : j < (flatR ρ p).length := (List.getElem?_eq_some_iff.1 hj).1
              refine k2 _ _ ?_
              rw [← n1] at hj
              simp only [List.getElem?_take, List.getElem?_drop, Nat.zero_add] at hj
              rw [if_pos (by omega)] at hj
              exact hj) n2
            simp [execOp, h2, hr]
          · cases hv
        · cases hv
      · cases hv
    · cases hv
  case sliceToArrayPointer T x =>
    have hx := rep_evA hs x
    split at hv
    · rename_i id off len cap n e hp hT
      rw [hp] at hx
      simp only [Rep] at hx
      obtain ⟨v, h1, h2⟩ := hx
      split at hv
      · rename_i hle
        have hle := Nat.le_of_ble_eq_true hle
        simp only [Option.some.injEq] at hv; subst hv
        refine ⟨.pointer (some ⟨v.1, v.2 + off, none⟩), ?_, ?_⟩
        · simp [execOp, h2, Instr.arrayAt, run_underlying hT, Nat.not_lt.2 hle]
        · simp only [Rep]; exact ⟨v, h1, rfl⟩
      · cases hv
    · rename_i id len n e hp hT
      rw [hp] at hx
      simp only [Rep] at hx
      obtain ⟨v, h1, h2⟩ := hx
      split at hv
      · rename_i hle
        have hle := Nat.le_of_ble_eq_true hle
        simp only [Option.some.injEq] at hv; subst hv
        refine ⟨.pointer (some ⟨v.1, v.2, none⟩), ?_, ?_⟩
        · simp [execOp, h2, Instr.arrayAt, run_underlying hT, Nat.not_lt.2 hle]
        · simp only [Rep]; exact ⟨v, h1, rfl⟩
      · cases hv
    · cases hv
  case slice T x lo hi mx =>
    have hx := rep_evA hs x
    have beq : ∀ (m l : Nat) (u v : Nat), (match Nat.beq m l with | true => u | false => v) = if m = l then u else v := by
      intro m l u v
      by_cases hml : m = l
      · subst hml; simp
      · have : Nat.beq m l = false := by
          cases hb : Nat.beq m l with
          | false => rfl
          | true => exact absurd (Nat.eq_of_beq_eq_true hb) hml
        simp [this, hml]
    split at hv
    · rename_i id off n e hp hT
      rw [hp] at hx
      simp only [Rep] at hx
      obtain ⟨v, h1, h2⟩ := hx
      split at hv
      · rename_i ie l hh m hie hb
        simp only [Option.some.injEq] at hv; subst hv
        have hbr := slice_run false n n l hh m lo hi mx hb
        refine ⟨.slice (some ⟨v.1, v.2 + (if m = l then off else off + l * ie.size), none⟩) (hh - l) (m - l), ?_, ?_⟩
        · simp only [execOp, Instr.sliceAt, Sem.run_bind, run_underlying hT, Result.andThen_ok, h2, Instr.sureAddr, Sem.run_pure, hbr, run_sizeOf' hie]
          congr 3
          by_cases hml : m = l
          · simp [hml]
          · simp [hml, Addr.add_mid, Nat.add_assoc]
        · simp only [Rep]; exact ⟨v, h1, by rw [beq]⟩
      · cases hv
    · rename_i id off len cap e hp hT
      rw [hp] at hx
      simp only [Rep] at hx
      obtain ⟨v, h1, h2⟩ := hx
      split at hv
      · rename_i ie l hh m hie hb
        simp only [Option.some.injEq] at hv; subst hv
        have hbr := slice_run true len cap l hh m lo hi mx hb
        refine ⟨.slice (some ⟨v.1, v.2 + (if m = l then off else off + l * ie.size), none⟩) (hh - l) (m - l), ?_, ?_⟩
        · simp only [execOp, Instr.sliceAt, Instr.slice, Sem.run_bind, run_underlying hT, Result.andThen_ok, h2, Sem.run_pure, hbr, run_sizeOf' hie]
          congr 3
          by_cases hml : m = l
          · simp [hml]
          · simp [hml, Addr.add_mid, Nat.add_assoc]
        · simp only [Rep]; exact ⟨v, h1, by rw [beq]⟩
      · cases hv
    · cases hv
  case makeFunc fn first captured =>
    cases fn <;> simp only [reduceCtorEq, Option.some.injEq] at hv
    rename_i f
    subst hv
    refine ⟨.func (.func f) (first.map a.eval) (captured.map a.eval), by simp [execOp, Instr.makeFunc], ?_⟩
    simp only [Rep]
    exact ⟨_, _, slots_map hs first.toList, slots_map hs captured.toList, by congr 1 <;> (apply Array.toList_inj.1; simp)⟩
  case call c =>
    obtain ⟨callee, args, argTypes⟩ := c
    cases callee <;> try (simp only [reduceCtorEq] at hv; done)
    rename_i b
    cases b <;> try (simp only [reduceCtorEq] at hv; done)
    · simp only at hv
      obtain ⟨x, h1, h2⟩ := lenA_run hv (slots_map hs args.toList) type w
      refine ⟨x, ?_, h2⟩
      have e : (args.toList.map a.eval).toArray = args.map a.eval := by apply Array.toList_inj.1; simp
      rw [e] at h1
      simp [execOp, resolve, invoke, builtin, h1]
    · simp only at hv
      have hr := slots_map hs args.toList
      unfold minA at hv
      split at hv
      · rename_i k p k' q he
        rw [he] at hr
        simp only [Reps, Rep] at hr
        obtain ⟨x, r1, e1, rfl, y, r2, rfl, rfl, rfl⟩ := hr
        simp only [Option.some.injEq] at hv; subst hv
        refine ⟨_, ?_, rfl⟩
        simp [execOp, resolve, invoke, builtin, Builtin.max_, e1, Builtin.max2]
      · cases hv
    · simp only at hv
      have hr := slots_map hs args.toList
      unfold minA at hv
      split at hv
      · rename_i k p k' q he
        rw [he] at hr
        simp only [Reps, Rep] at hr
        obtain ⟨x, r1, e1, rfl, y, r2, rfl, rfl, rfl⟩ := hr
        simp only [Option.some.injEq] at hv; subst hv
        refine ⟨_, ?_, rfl⟩
        simp [execOp, resolve, invoke, builtin, Builtin.min_, e1, Builtin.min2]
      · cases hv
  case makeInterface T x =>
    split at hv
    · cases hv
    · rename_i d hne hT
      simp only [Option.some.injEq] at hv; subst hv
      refine ⟨.iface T (a.eval x), ?_, ⟨_, rep_evA hs x, rfl⟩⟩
      cases d <;> first | exact absurd rfl (hne _) | (exact (hne _ rfl).elim) | simp [execOp, Instr.makeInterface, run_underlying hT]
    · cases hv
  case nilCheck x =>
    have hx := rep_evA hs x
    split at hv
    · rename_i id off hp
      rw [hp] at hx
      have hx' := hx
      simp only [Rep] at hx
      obtain ⟨v, h1, h2⟩ := hx
      simp only [Option.some.injEq] at hv; subst hv
      exact ⟨a.eval x, by simp [execOp, h2], hx'⟩
    · rename_i f l m hp
      rw [hp] at hx
      have hx' := hx
      simp only [Rep] at hx
      obtain ⟨xs, ys, _, _, h2⟩ := hx
      simp only [Option.some.injEq] at hv; subst hv
      exact ⟨a.eval x, by simp [execOp, h2], hx'⟩
    · cases hv
end Go.Ev
