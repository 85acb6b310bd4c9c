/- The evaluator's operations that leave the world alone: the operations themselves. -/
import Derived.Test.YtonklhcmpbhhaaaEvb
import Derived.Laws.Bits64b
set_option linter.unusedSimpArgs false
set_option linter.unusedVariables false
namespace Go.Ev
open Go.RowKit

variable {P : Program}

/-- A number of 64 bits: one that is written out, or one that has a name. -/
def asU : AV → Option Nat
  | .u h => some h
  | .v (.int .u64 n) => if 0 ≤ n ∧ n < 18446744073709551616 then some n.toNat else none
  | _ => none

theorem asU_rep {ρ : Names} {a : AV} {h : Nat} {x : Value} (ha : asU a = some h) (hr : Rep ρ a x) : x = u64 h := by
  unfold asU at ha
  split at ha
  · simp only [Option.some.injEq] at ha; subst ha; exact hr
  · split at ha
    · rename_i n hn
      simp only [Option.some.injEq] at ha; subst ha
      simp only [Rep] at hr
      subst hr
      unfold u64
      congr 1
      omega
    · cases ha
  · cases ha

def bitsA (op : BinOp) (k : IntKind) (x y : Int) : Option Int :=
  let a := BitVec.ofInt k.bits x
  let b := BitVec.ofInt k.bits y
  match op with
  | .and => some (k.wrap (a &&& b).toNat)
  | .or => some (k.wrap (a ||| b).toNat)
  | .xor => some (k.wrap (a ^^^ b).toNat)
  | .andNot => some (k.wrap (a &&& ~~~b).toNat)
  | _ => none

theorem bitsA_run {op : BinOp} {k : IntKind} {x y r : Int} (h : bitsA op k x y = some r) (w : World) : (Op.intBits op k x y).run P w = .ok (.int k r) w := by
  cases op <;> simp only [bitsA, Option.some.injEq, reduceCtorEq] at h <;> subst h <;> rfl

/-- Arithmetic on numbers of 64 bits that have names. -/
def uA (op : BinOp) (a b : Nat) : Option AV :=
  match op with
  | .add => some (.u (a + b))
  | .sub => some (.u (a + (18446744073709551616 - b % 18446744073709551616)))
  | .mul => some (.u (a * b))
  | .eql => some (.v (.bool (decide (a % 18446744073709551616 = b % 18446744073709551616))))
  | .neq => some (.v (.bool (!decide (a % 18446744073709551616 = b % 18446744073709551616))))
  | .lss => some (.v (.bool (decide (a % 18446744073709551616 < b % 18446744073709551616))))
  | .leq => some (.v (.bool (decide (a % 18446744073709551616 ≤ b % 18446744073709551616))))
  | .gtr => some (.v (.bool (decide (b % 18446744073709551616 < a % 18446744073709551616))))
  | .geq => some (.v (.bool (decide (b % 18446744073709551616 ≤ a % 18446744073709551616))))
  | .quo => if b % 18446744073709551616 = 0 then none else some (.u (a % 18446744073709551616 / (b % 18446744073709551616)))
  | .rem => if b % 18446744073709551616 = 0 then none else some (.u (a % 18446744073709551616 % (b % 18446744073709551616)))
  | .and => some (.u (a % 18446744073709551616 &&& b % 18446744073709551616))
  | .or => some (.u (a % 18446744073709551616 ||| b % 18446744073709551616))
  | _ => none

theorem wrap_u64 (n : Int) : IntKind.u64.wrap n = n % 18446744073709551616 := by
  simp [IntKind.wrap, IntKind.signed, IntKind.bits]

theorem pure_run {X : Sem Unit} {Y : Sem Value} {z : Value} (hX : X = pure ()) (hY : Y = pure z) (w : World) : (do X; Y).run P w = .ok z w := by
  rw [hX, hY]; rfl

theorem uA_run {op : BinOp} {a b : Nat} {r : AV} (h : uA op a b = some r) {ρ : Names} (w : World) (T : TypeId) (X Y : Operand) :
    ∃ z, (do eqGuard op T X Y (u64 a) (u64 b); binOp op T (u64 a) (u64 b)).run P w = .ok z w ∧ Rep ρ r z := by
  unfold u64
  generalize hA : ((a % 18446744073709551616 : Nat) : Int) = A
  generalize hB : ((b % 18446744073709551616 : Nat) : Int) = B
  have key : ∀ z, binOp op T (.int .u64 A) (.int .u64 B) = pure z → (do eqGuard op T X Y (.int .u64 A) (.int .u64 B); binOp op T (.int .u64 A) (.int .u64 B)).run P w = .ok z w :=
    fun z hz => pure_run (eqGuard_at_int op T X Y (.int .u64 B) .u64 A) hz w
  have num : ∀ (n : Int) (m : Nat), n % 18446744073709551616 = ((m % 18446744073709551616 : Nat) : Int) → Rep ρ (.u m) (.int .u64 (IntKind.u64.wrap n)) := by
    intro n m e
    simp only [Rep, u64, wrap_u64, e]
  cases op <;> simp only [uA, Option.some.injEq, reduceCtorEq] at h
  case add => subst h; exact ⟨_, key _ (binOp_add _ _ _ _), num _ _ (by omega)⟩
  case sub => subst h; exact ⟨_, key _ (binOp_sub _ _ _ _), num _ _ (by omega)⟩
  case mul =>
    subst h
    refine ⟨_, key _ (binOp_mul _ _ _ _), num _ _ ?_⟩
    rw [← hA, ← hB, Nat.mul_mod, ← Int.natCast_mul]
    generalize a % 18446744073709551616 * (b % 18446744073709551616) = q
    omega
  case quo =>
    split at h
    · cases h
    · rename_i hz
      simp only [Option.some.injEq] at h; subst h
      have hB0 : ¬ B = 0 := by omega
      refine ⟨_, key (.int .u64 (IntKind.u64.wrap (A.tdiv B))) (by rw [binOp_quo]; simp only [Op.intDiv, hB0, if_false]), num _ _ ?_⟩
      rw [Int.tdiv_eq_ediv_of_nonneg (by omega), ← hA, ← hB, ← Int.natCast_ediv]
      generalize a % 18446744073709551616 / (b % 18446744073709551616) = q
      omega
  case rem =>
    split at h
    · cases h
    · rename_i hz
      simp only [Option.some.injEq] at h; subst h
      have hB0 : ¬ B = 0 := by omega
      refine ⟨_, key (.int .u64 (A.tmod B)) (by rw [binOp_rem]; simp only [Op.intDiv, hB0, if_false]), ?_⟩
      simp only [Rep, u64]
      congr 1
      rw [Int.tmod_eq_emod_of_nonneg (by omega), ← hA, ← hB]
      have : a % 18446744073709551616 % (b % 18446744073709551616) < 18446744073709551616 := by
        have := Nat.mod_lt (a % 18446744073709551616) (show 0 < b % 18446744073709551616 by omega)
        omega
      rw [Nat.mod_eq_of_lt this]
      norm_cast
  case and =>
    subst h
    have e := bits_and_u64_nat (a % 18446744073709551616) (b % 18446744073709551616) (by omega) (by omega)
    rw [hA, hB] at e
    refine ⟨.int .u64 (bits .and .u64 A B), key _ (by rw [binOp_and]; rfl), ?_⟩
    have hlt : a % 18446744073709551616 &&& b % 18446744073709551616 < 2 ^ 64 := Nat.and_lt_two_pow _ (by omega)
    simp only [Rep, u64]
    rw [e]
    generalize (a % 18446744073709551616 &&& b % 18446744073709551616) = z at hlt ⊢
    congr 1
    omega
  case or =>
    subst h
    have e := bits_or_u64_nat (a % 18446744073709551616) (b % 18446744073709551616) (by omega) (by omega)
    rw [hA, hB] at e
    refine ⟨.int .u64 (bits .or .u64 A B), key _ (by rw [binOp_or]; rfl), ?_⟩
    have hlt : a % 18446744073709551616 ||| b % 18446744073709551616 < 2 ^ 64 := Nat.or_lt_two_pow (by omega) (by omega)
    simp only [Rep, u64]
    rw [e]
    generalize (a % 18446744073709551616 ||| b % 18446744073709551616) = z at hlt ⊢
    congr 1
    omega
  case eql =>
    subst h
    refine ⟨_, key _ (binOp_eql _ _ _ _), ?_⟩
    simp only [Rep, Value.bool.injEq]
    rw [Bool.eq_iff_iff]
    simp only [beq_iff_eq, decide_eq_true_eq]
    omega
  case neq =>
    subst h
    refine ⟨_, key _ (binOp_neq _ _ _ _), ?_⟩
    simp only [Rep, Value.bool.injEq]
    rw [Bool.eq_iff_iff]
    simp only [bne_iff_ne, ne_eq, Bool.not_eq_true', decide_eq_false_iff_not]
    omega
  case lss =>
    subst h
    refine ⟨_, key _ (binOp_lss _ _ _ _), ?_⟩
    simp only [Rep, Value.bool.injEq, decide_eq_decide]
    omega
  case leq =>
    subst h
    refine ⟨_, key _ (binOp_leq _ _ _ _), ?_⟩
    simp only [Rep, Value.bool.injEq, decide_eq_decide]
    omega
  case gtr =>
    subst h
    refine ⟨_, key _ (binOp_gtr _ _ _ _), ?_⟩
    simp only [Rep, Value.bool.injEq, decide_eq_decide]
    omega
  case geq =>
    subst h
    refine ⟨_, key _ (binOp_geq _ _ _ _), ?_⟩
    simp only [Rep, Value.bool.injEq, decide_eq_decide]
    omega

def binA (P : Program) (op : BinOp) (T : TypeId) (x y : AV) : Option AV :=
  match x, y with
  | .v (.int k a), .v (.int k' b) =>
    match op with
    | .shr => if b < 0 then none else some (.v (.int k (a.fdiv (2 ^ min b.toNat k.bits))))
    | .shl => if b < 0 then none else some (.v (.int k (k.wrap (a * 2 ^ min b.toNat k.bits))))
    | _ =>
    if k = k' then
      match op with
      | .add => some (.v (.int k (k.wrap (a + b))))
      | .sub => some (.v (.int k (k.wrap (a - b))))
      | .mul => some (.v (.int k (k.wrap (a * b))))
      | .eql => some (.v (.bool (a == b)))
      | .neq => some (.v (.bool (a != b)))
      | .lss => some (.v (.bool (decide (a < b))))
      | .leq => some (.v (.bool (decide (a ≤ b))))
      | .gtr => some (.v (.bool (decide (a > b))))
      | .geq => some (.v (.bool (decide (a ≥ b))))
      | .quo => if b = 0 then none else some (.v (.int k (k.wrap (a.tdiv b))))
      | .rem => if b = 0 then none else some (.v (.int k (a.tmod b)))
      | op => (bitsA op k a b).map fun r => .v (.int k r)
    else none
  | .v (.bool a), .v (.bool b) =>
    match P.underlying T with
    | some .bool =>
      match op with
      | .eql => some (.v (.bool (a == b)))
      | .neq => some (.v (.bool (!(a == b))))
      | _ => none
    | _ => none
  | .u a, .v (.int k b) =>
    match op with
    | .shr => if b < 0 then none else some (.u (a % 18446744073709551616 / 2 ^ min b.toNat 64))
    | .shl => if b < 0 then none else some (.u (a * 2 ^ min b.toNat 64))
    | _ => match asU (.v (.int k b)) with | some b => uA op a b | none => none
  | x, y => match asU x, asU y with
    | some a, some b => uA op a b
    | _, _ => none

theorem binA_run {w : World} {op : BinOp} {T : TypeId} {x y : AV} {r : AV} (h : binA P op T x y = some r) {ρ : Names} {u v : Value} (hx : Rep ρ x u) (hy : Rep ρ y v) (X Y : Operand) :
    ∃ z, (do eqGuard op T X Y u v; binOp op T u v).run P w = .ok z w ∧ Rep ρ r z := by
  unfold binA at h
  split at h
  · rename_i k a k' b
    simp only [Rep] at hx hy
    subst hx; subst hy
    split at h
    · split at h
      · cases h
      · rename_i hb
        simp only [Option.some.injEq] at h; subst h
        exact ⟨_, by simp [eqGuard_at_int, binOp, Op.shift, hb], rfl⟩
    · split at h
      · cases h
      · rename_i hb
        simp only [Option.some.injEq] at h; subst h
        exact ⟨_, by simp [eqGuard_at_int, binOp, Op.shift, hb], rfl⟩
    · rename_i ns1 ns2
      split at h
      · rename_i hk
        subst hk
        cases op <;> simp only [Option.some.injEq, reduceCtorEq] at h
        case shl => exact absurd rfl ns2
        case shr => exact absurd rfl ns1
        case quo =>
          split at h
          · cases h
          · rename_i hb
            simp only [Option.some.injEq] at h; subst h
            exact ⟨_, by simp [eqGuard_at_int, binOp, Op.intDiv, hb], rfl⟩
        case rem =>
          split at h
          · cases h
          · rename_i hb
            simp only [Option.some.injEq] at h; subst h
            exact ⟨_, by simp [eqGuard_at_int, binOp, Op.intDiv, hb], rfl⟩
        case and => simp only [Option.map_eq_some_iff] at h; obtain ⟨q, hq, rfl⟩ := h; exact ⟨_, by simp [eqGuard_at_int, binOp, bitsA_run hq], rfl⟩
        case or => simp only [Option.map_eq_some_iff] at h; obtain ⟨q, hq, rfl⟩ := h; exact ⟨_, by simp [eqGuard_at_int, binOp, bitsA_run hq], rfl⟩
        case xor => simp only [Option.map_eq_some_iff] at h; obtain ⟨q, hq, rfl⟩ := h; exact ⟨_, by simp [eqGuard_at_int, binOp, bitsA_run hq], rfl⟩
        case andNot => simp only [Option.map_eq_some_iff] at h; obtain ⟨q, hq, rfl⟩ := h; exact ⟨_, by simp [eqGuard_at_int, binOp, bitsA_run hq], rfl⟩
        all_goals first
          | (subst h; exact ⟨_, by simp [eqGuard_at_int, binOp, Op.intArith, Op.intCmp]; done, rfl⟩)
          | (subst h; exact ⟨_, by simp [eqGuard_at_int, binOp, Op.intArith, Op.intCmp]; rfl, rfl⟩)
          | (simp [bitsA] at h; done)
      · cases h
  · rename_i a b
    split at h
    · rename_i hT
      simp only [Rep] at hx hy
      subst hx; subst hy
      have e := run_equal_bool (P := P) w T a b hT
      cases op <;> simp only [Option.some.injEq, reduceCtorEq] at h <;> subst h
      · exact ⟨_, by simp [eqGuard_at_bool, binOp, e], rfl⟩
      · exact ⟨_, by simp [eqGuard_at_bool, binOp, e], rfl⟩
    · cases h
  · rename_i a k b
    split at h
    · split at h
      · cases h
      · rename_i hb
        simp only [Option.some.injEq] at h; subst h
        simp only [Rep] at hx hy
        subst hx; subst hy
        refine ⟨_, by simp only [u64, eqGuard_at_int, binOp, Op.shift, hb, if_false]; rfl, ?_⟩
        simp only [Rep, u64, IntKind.bits]
        congr 1
        generalize min b.toNat 64 = q
        have h2 : (0 : Int) ≤ 2 ^ q := by exact_mod_cast Nat.zero_le (2 ^ q)
        rw [Int.fdiv_eq_ediv_of_nonneg _ h2]
        have : a % 18446744073709551616 / 2 ^ q < 18446744073709551616 := by
          have := Nat.div_le_self (a % 18446744073709551616) (2 ^ q)
          omega
        rw [Nat.mod_eq_of_lt this]
        norm_cast
    · split at h
      · cases h
      · rename_i hb
        simp only [Option.some.injEq] at h; subst h
        simp only [Rep] at hx hy
        subst hx; subst hy
        refine ⟨_, by simp only [u64, eqGuard_at_int, binOp, Op.shift, hb, if_false]; rfl, ?_⟩
        simp only [Rep, u64, IntKind.bits, wrap_u64]
        congr 1
        generalize min b.toNat 64 = q
        have e : (2 : Int) ^ q = ((2 ^ q : Nat) : Int) := by norm_cast
        have e2 : a % 18446744073709551616 * 2 ^ q % 18446744073709551616 = a * 2 ^ q % 18446744073709551616 := by rw [Nat.mul_mod, Nat.mod_mod, ← Nat.mul_mod]
        rw [e, ← Int.natCast_mul, ← e2]
        generalize a % 18446744073709551616 * 2 ^ q = z
        omega
    · split at h
      · rename_i n hn
        have e2 := asU_rep hn hy
        simp only [Rep] at hx
        subst hx; subst e2
        exact uA_run h w T X Y
      · cases h
  · split at h
    · rename_i a b ha hb
      have e1 := asU_rep ha hx
      have e2 := asU_rep hb hy
      subst e1; subst e2
      exact uA_run h w T X Y
    · cases h

def AV.tv? : AV → Option TV
  | .v x => some (.v x)
  | .u x => some (.u x)
  | .ag cs => some (.ag cs)
  | _ => none

theorem AV.tv?_val {a : AV} {x : TV} (h : a.tv? = some x) : a.val? = some x.val := by
  cases a <;> simp_all [AV.tv?, AV.val?]
  all_goals (subst h; rfl)

def tvs (t : Sl) : List Operand → Option (List TV)
  | [] => some []
  | x :: l => match (evA t x).tv?, tvs t l with
    | some a, some r => some (a :: r)
    | _, _ => none

theorem tvs_spec {ρ : Names} {t : Sl} {a : Act} (hs : Slots ρ t a.tmps) : ∀ (l : List Operand) (r : List TV), tvs t l = some r → l.map a.eval = r.map TV.val
  | [], r, h => by simp [tvs] at h; subst h; rfl
  | x :: l, r, h => by
    unfold tvs at h
    split at h
    · rename_i b r' hb hr'
      simp only [Option.some.injEq] at h
      subst h
      simp only [List.map_cons, tvs_spec hs l r' hr']
      rw [(rep_evA hs x).of_val (AV.tv?_val hb)]
    · cases h

def lenA (P : Program) : List AV → List TypeId → Option AV
  | [a], [T] =>
    match a, P.underlying T with
    | .sl _ _ len _, some (.slice _) => some (.v (.int .i64 len))
    | .ag _, some (.array n _) => some (.v (.int .i64 n))
    | _, _ => none
  | _, _ => none

def valA (P : Program) (h : Heap) (t : Sl) : Op → Option AV
  | .move x => some (evA t x)
  | .assign x => some (evA t x)
  | .pick c a b =>
    match evA t c with
    | .v (.bool true) => some (evA t a)
    | .v (.bool false) => some (evA t b)
    | _ => none
  | .load T x =>
    match evA t x with
    | .p id off => match h id with | some blk => readT P T off blk.cs | none => none
    | _ => none
  | .build T ps => (builtA P T (ps.toList.map fun (i, x) => (i, evA t x))).map .ag
  | .fieldAddr S x f =>
    match evA t x, P.underlying S with
    | .p id off, some (.struct fs) =>
      match fs[f]? with
      | some fd => match P.info? fd.type with | some i => if i.size = 0 then none else some (.p id (off + fd.offset)) | none => none
      | none => none
    | _, _ => none
  | .field S x f =>
    match evA t x, P.underlying S with
    | .ag cs, some (.struct fs) => match fs[f]? with | some fd => readT P fd.type fd.offset cs | none => none
    | _, _ => none
  | .indexAddr T x i =>
    match evA t x, evA t i, P.underlying T with
    | .p id off, .v (.int _ n), some (.array len e) =>
      match P.info? e with | some ie => if 0 ≤ n ∧ n < len then some (.p id (off + n.toNat * ie.size)) else none | none => none
    | .sl id off len _, .v (.int _ n), some (.slice e) =>
      match P.info? e with | some ie => if 0 ≤ n ∧ n < len then some (.p id (off + n.toNat * ie.size)) else none | none => none
    | _, _, _ => none
  | .index T x i =>
    match evA t x, evA t i, P.underlying T with
    | .ag cs, .v (.int _ n), some (.array len e) =>
      match P.info? e with | some ie => if 0 ≤ n ∧ n < len then readT P e (n.toNat * ie.size) cs else none | none => none
    | _, _, _ => none
  | .extract x i => match evA t x with | .tp l => (l[i]?).map TV.av | _ => none
  | .unOp .not _ x => match evA t x with | .v (.bool b) => some (.v (.bool (!b))) | _ => none
  | .binOp op T x y _ => binA P op T (evA t x) (evA t y)
  | .convert src dst x =>
    match evA t x, P.underlying src, P.underlying dst with
    | .v (.int _ n), some _, some (.int k) => some (.v (.int k (k.wrap n)))
    | .u h, some _, some (.int .u64) => some (.u h)
    | .u h, some _, some (.int k) => some (.v (.int k (k.wrap ((h % 18446744073709551616 : Nat) : Int))))
    | _, _, _ => none
  | .slice T x none none none =>
    match evA t x, P.underlying T with
    | .p id off, some (.array len e) => match P.info? e with | some _ => some (.sl id off len len) | none => none
    | _, _ => none
  | .makeFunc (.func f) first captured => if captured.size = 0 then (tvs t first.toList).map (.clo f) else none
  | .slice T x none (some y) none =>
    match evA t x, evA t y, P.underlying T with
    | .p id off, .v (.int _ n), some (.array len e) => match P.info? e with | some _ => if 0 ≤ n ∧ n ≤ len then some (.sl id off n.toNat len) else none | none => none
    | _, _, _ => none
  | .call { callee := .builtin .len, args := args, argTypes := argTypes } => lenA P (args.toList.map (evA t)) argTypes.toList
  | _ => none

theorem valA_run {w0 w : World} {ρ : Names} {t : Sl} {a : Act} {h : Heap} {B : Nat} (hs : Slots ρ t a.tmps) (hh : HAt B ρ h w) (o : Oper) {r : AV} (hv : valA P h t o.op = some r) :
    ∃ x, (execOp a.eval o).run P w = .ok (.value x) w ∧ Rep ρ r x := by
  obtain ⟨dst, op, type, pos, after, guard⟩ := o
  simp only at hv
  unfold valA at hv
  split at hv
  case h_1 x => simp only [Option.some.injEq] at hv; subst hv; exact ⟨a.eval x, by simp [execOp], rep_evA hs x⟩
  case h_2 x => simp only [Option.some.injEq] at hv; subst hv; exact ⟨a.eval x, by simp [execOp], rep_evA hs x⟩
  case h_3 c x y =>
    have hc := rep_evA hs c
    split at hv
    · rename_i hb
      rw [hb] at hc; simp only [Rep] at hc
      simp only [Option.some.injEq] at hv; subst hv
      exact ⟨a.eval x, by simp [execOp, hc, asBool], rep_evA hs x⟩
    · rename_i hb
      rw [hb] at hc; simp only [Rep] at hc
      simp only [Option.some.injEq] at hv; subst hv
      exact ⟨a.eval y, by simp [execOp, hc, asBool], rep_evA hs y⟩
    · cases hv
  case h_4 T x =>
    have hx := rep_evA hs x
    split at hv
    · rename_i id off hp
      rw [hp] at hx
      obtain ⟨b, h1, h2⟩ := hx
      split at hv
      · rename_i blk hblk
        obtain ⟨b', g1, g2, g3⟩ := hh.at_ id blk hblk
        rw [h1] at g1; simp only [Option.some.injEq] at g1; subst g1
        obtain ⟨z, k1, k2⟩ := run_loadVar_A g3 hv
        exact ⟨z, by simp [execOp, h2, Instr.loadAt, Instr.sureAddr, k1], rep_val k2⟩
      · cases hv
    · cases hv
  case h_5 T ps =>
    simp only [Option.map_eq_some_iff] at hv
    obtain ⟨cs, hc, rfl⟩ := hv
    have hparts : ∀ (j i : Nat) (c : AV), (ps.toList.map fun (i, x) => (i, evA t x))[j]? = some (i, c) → ∃ x, (ps.toList.map fun (i, x) => (i, a.eval x))[j]? = some (i, x) ∧ Rep ρ c x := by
      intro j i c hj
      simp only [List.getElem?_map, Option.map_eq_some_iff] at hj ⊢
      obtain ⟨⟨i', x⟩, h1, h2⟩ := hj
      simp only [Prod.mk.injEq] at h2
      obtain ⟨rfl, rfl⟩ := h2
      exact ⟨a.eval x, ⟨(i', x), h1, rfl⟩, rep_evA hs x⟩
    have hval : ∀ (j i : Nat) (c : AV), (ps.toList.map fun (i, x) => (i, evA t x))[j]? = some (i, c) → (∃ x, c.val? = some x) := by
      -- every part that was filled in is a value
      have gen : ∀ (place : Nat → Option (Nat × Nat)) (l : List (Nat × AV)) (cs r : List Ch), fillA place cs l = some r → ∀ (j i : Nat) (c : AV), l[j]? = some (i, c) → ∃ x, c.val? = some x := by
        intro place l
        induction l with
        | nil => intro cs r _ j i c hj; simp at hj
        | cons q l ih =>
          obtain ⟨i0, a0⟩ := q
          intro cs r hf j i c hj
          unfold fillA at hf
          cases j with
          | zero =>
            simp only [List.getElem?_cons_zero, Option.some.injEq, Prod.mk.injEq] at hj
            obtain ⟨rfl, rfl⟩ := hj
            split at hf
            · exact ⟨_, rfl⟩
            · exact ⟨_, rfl⟩
            · exact ⟨_, rfl⟩
            · exact ⟨_, rfl⟩
            · cases hf
          | succ j =>
            simp only [List.getElem?_cons_succ] at hj
            split at hf
            · split at hf
              · cases hsp : spliceB cs _ _ with
                | none => rw [hsp] at hf; cases hf
                | some cs' => rw [hsp] at hf; exact ih cs' r hf j i c hj
              · cases hf
            · split at hf
              · cases hsp : spliceB cs _ _ with
                | none => rw [hsp] at hf; cases hf
                | some cs' => rw [hsp] at hf; exact ih cs' r hf j i c hj
              · cases hf
            · split at hf
              · cases hsp : spliceB cs _ _ with
                | none => rw [hsp] at hf; cases hf
                | some cs' => rw [hsp] at hf; exact ih cs' r hf j i c hj
              · cases hf
            · split at hf
              · cases hsp : spliceB cs _ _ with
                | none => rw [hsp] at hf; cases hf
                | some cs' => rw [hsp] at hf; exact ih cs' r hf j i c hj
              · cases hf
            · cases hf
      intro j i c hj
      unfold builtA at hc
      split at hc
      · split at hc
        · exact gen _ _ _ _ hc j i c hj
        · cases hc
      · split at hc
        · exact gen _ _ _ _ hc j i c hj
        · cases hc
      · cases hc
    have hb := builtA_spec hc (ps.toList.map fun (i, x) => (i, a.eval x)) (by simp [Function.comp_def]) (fun j i c hj => by
      obtain ⟨x, k1, k2⟩ := hparts j i c hj
      obtain ⟨y, hy⟩ := hval j i c hj
      exact ⟨x, k1, by rw [hy, k2.of_val hy]⟩)
    refine ⟨.agg (flat cs).toArray, ?_, rfl⟩
    have := run_build (P := P) w T (ps.map fun (i, x) => (i, a.eval x)) (flat cs).toArray (by simpa using hb)
    simp [execOp, this]
  case h_6 S x f =>
    have hx := rep_evA hs x
    split at hv
    · rename_i id off fs hp hS
      rw [hp] at hx
      obtain ⟨b, h1, h2⟩ := hx
      split at hv
      · rename_i fd hfd
        split at hv
        · rename_i i hi
          split at hv
          · cases hv
          · rename_i hz
            simp only [Option.some.injEq] at hv; subst hv
            refine ⟨.pointer (some ⟨b, off + fd.offset, none⟩), ?_, b, h1, rfl⟩
            simp [execOp, Instr.fieldAt, run_underlying hS, hfd, h2, Instr.sureAddr, fieldPlace, run_sizeOf' hi, hz, Addr.add_mid]
        · cases hv
      · cases hv
    · cases hv
  case h_7 S x f =>
    have hx := rep_evA hs x
    split at hv
    · rename_i cs fs hp hS
      rw [hp] at hx
      simp only [Rep] at hx
      split at hv
      · rename_i fd hfd
        obtain ⟨z, k1, k2⟩ := run_part_A (P := P) (w := w) hv
        refine ⟨z, ?_, rep_val k2⟩
        simp [execOp, Instr.field, run_underlying hS, hfd, hx, asAgg, k1]
      · cases hv
    · cases hv
  case h_8 T x i =>
    have hx := rep_evA hs x
    have hi := rep_evA hs i
    split at hv
    · rename_i id off k n len e hp hn hT
      rw [hp] at hx; rw [hn] at hi
      obtain ⟨b, h1, h2⟩ := hx
      simp only [Rep] at hi
      split at hv
      · rename_i ie hie
        split at hv
        · rename_i hlt
          simp only [Option.some.injEq] at hv; subst hv
          refine ⟨.pointer (some ⟨b, off + n.toNat * ie.size, none⟩), ?_, b, h1, rfl⟩
          simp [execOp, Instr.indexAt, hi, asIntOf, run_underlying hT, h2, Instr.sureAddr, hlt, run_sizeOf' hie, Addr.add_mid]
        · cases hv
      · cases hv
    · rename_i id off len cap k n e hp hn hT
      rw [hp] at hx; rw [hn] at hi
      obtain ⟨b, h1, h2⟩ := hx
      simp only [Rep] at hi
      split at hv
      · rename_i ie hie
        split at hv
        · rename_i hlt
          simp only [Option.some.injEq] at hv; subst hv
          refine ⟨.pointer (some ⟨b, off + n.toNat * ie.size, none⟩), ?_, b, h1, rfl⟩
          simp [execOp, Instr.indexAt, hi, asIntOf, run_underlying hT, h2, hlt, run_sizeOf' hie, Addr.add_mid]
        · cases hv
      · cases hv
    · cases hv
  case h_9 T x i =>
    have hx := rep_evA hs x
    have hi := rep_evA hs i
    split at hv
    · rename_i cs k n len e hp hn hT
      rw [hp] at hx; rw [hn] at hi
      simp only [Rep] at hi hx
      split at hv
      · rename_i ie hie
        split at hv
        · rename_i hlt
          obtain ⟨z, k1, k2⟩ := run_part_A (P := P) (w := w) hv
          refine ⟨z, ?_, rep_val k2⟩
          simp [execOp, Instr.index, hi, asIntOf, run_underlying hT, hx, hlt, run_sizeOf' hie, k1]
        · cases hv
      · cases hv
    · cases hv
  case h_10 x i =>
    have hx := rep_evA hs x
    split at hv
    · rename_i l hp
      rw [hp] at hx
      simp only [Rep] at hx
      simp only [Option.map_eq_some_iff] at hv
      obtain ⟨c, hc, rfl⟩ := hv
      refine ⟨c.val, ?_, rep_tv ρ c⟩
      simp [execOp, hx, Instr.extract, hc]
    · cases hv
  case h_11 T x =>
    have hx := rep_evA hs x
    split at hv
    · rename_i b hp
      rw [hp] at hx
      simp only [Rep] at hx
      simp only [Option.some.injEq] at hv; subst hv
      exact ⟨.bool (!b), by simp [execOp, hx, Op.unary], rfl⟩
    · cases hv
  case h_12 op T x y yt =>
    obtain ⟨z, k1, k2⟩ := binA_run (w := w) hv (rep_evA hs x) (rep_evA hs y) x y
    refine ⟨z, ?_, k2⟩
    simp only [execOp]
    rw [Sem.run_bind, k1]
    rfl
  case h_13 src dst x =>
    have hx := rep_evA hs x
    split at hv
    · rename_i k n d k' hp hsrc hdst
      rw [hp] at hx
      simp only [Rep] at hx
      simp only [Option.some.injEq] at hv; subst hv
      refine ⟨.int k' (k'.wrap n), ?_, rfl⟩
      have hk : P.intKind dst = k' := by simp [Program.intKind, hdst]
      have := run_convert_int (P := P) w src dst k n (by simp [hsrc]) (by rw [hdst, hk])
      rw [hk] at this
      simp [execOp, hx, this]
    · rename_i n d hp hsrc hdst
      rw [hp] at hx
      simp only [Rep] at hx
      simp only [Option.some.injEq] at hv; subst hv
      refine ⟨u64 n, ?_, rfl⟩
      have hk : P.intKind dst = .u64 := by simp [Program.intKind, hdst]
      have := run_convert_int (P := P) w src dst .u64 ((n % 18446744073709551616 : Nat) : Int) (by simp [hsrc]) (by rw [hdst, hk])
      rw [hk, wrap_u64, show ((n % 18446744073709551616 : Nat) : Int) % 18446744073709551616 = ((n % 18446744073709551616 : Nat) : Int) by omega] at this
      simp only [execOp, hx, u64]
      rw [Sem.run_bind, this]
      rfl
    · rename_i n d k' hne hp hsrc hdst
      rw [hp] at hx
      simp only [Rep] at hx
      simp only [Option.some.injEq] at hv; subst hv
      refine ⟨.int k' (k'.wrap ((n % 18446744073709551616 : Nat) : Int)), ?_, rfl⟩
      have hk : P.intKind dst = k' := by simp [Program.intKind, hdst]
      have := run_convert_int (P := P) w src dst .u64 ((n % 18446744073709551616 : Nat) : Int) (by simp [hsrc]) (by rw [hdst, hk])
      rw [hk] at this
      simp only [execOp, hx, u64]
      rw [Sem.run_bind, this]
      rfl
    · cases hv
  case h_14 T x =>
    have hx := rep_evA hs x
    split at hv
    · rename_i id off len e hp hT
      rw [hp] at hx
      obtain ⟨b, h1, h2⟩ := hx
      split at hv
      · rename_i ie hie
        simp only [Option.some.injEq] at hv; subst hv
        refine ⟨.slice (some ⟨b, off, none⟩) len len, ?_, b, h1, rfl⟩
        have e1 : P.arrayLen T = len := by simp [Program.arrayLen, hT]
        have e2 : P.elem T = e := by simp [Program.elem, hT]
        have := run_sliceAt_array_all (P := P) w T ⟨b, off, none⟩ (by rw [e1, e2]; exact hT)
        rw [e1, e2, run_sizeOf' hie] at this
        simp [execOp, h2, this, slicedAt, Addr.add]
      · cases hv
    · cases hv
  case h_15 f first captured =>
    split at hv
    · rename_i hz
      simp only [Option.map_eq_some_iff] at hv
      obtain ⟨l, hl, rfl⟩ := hv
      have hc : captured = #[] := Array.eq_empty_of_size_eq_zero hz
      subst hc
      refine ⟨.func (.func f) (l.map TV.val).toArray #[], ?_, rfl⟩
      have := tvs_spec hs _ _ hl
      have e : first.map a.eval = (l.map TV.val).toArray := by
        apply Array.toList_inj.1; simpa using this
      simp [execOp, Instr.makeFunc, e]
    · cases hv
  case h_16 T x y =>
    have hx := rep_evA hs x
    have hy := rep_evA hs y
    split at hv
    · rename_i id off k n len e hp hn hT
      rw [hp] at hx
      obtain ⟨b, h1, h2⟩ := hx
      rw [hn] at hy
      simp only [Rep] at hy
      split at hv
      · rename_i ie hie
        split at hv
        · rename_i hr
          simp only [Option.some.injEq] at hv; subst hv
          refine ⟨.slice (some ⟨b, off, none⟩) n.toNat len, ?_, b, h1, rfl⟩
          have e1 : P.arrayLen T = len := by simp [Program.arrayLen, hT]
          have e2 : P.elem T = e := by simp [Program.elem, hT]
          have := run_sliceAt_array_h (P := P) w T ⟨b, off, none⟩ (by rw [e1, e2]; exact hT) k n hr.1 (by rw [e1]; exact hr.2)
          rw [e1, e2, run_sizeOf' hie] at this
          simp [execOp, h2, hy, this, slicedAt, Addr.add]
        · cases hv
      · cases hv
    · cases hv
  case h_17 args argTypes =>
    obtain ⟨args⟩ := args
    obtain ⟨argTypes⟩ := argTypes
    simp only at hv
    match args, argTypes, hv with
    | [x], [T], hv =>
      have hx := rep_evA hs x
      simp only [List.map_cons, List.map_nil, lenA] at hv
      split at hv
      · rename_i id off len cap e hp hu
        rw [hp] at hx
        obtain ⟨b, h1, h2⟩ := hx
        simp only [Option.some.injEq] at hv; subst hv
        refine ⟨.int .i64 len, ?_, rfl⟩
        simp [execOp, resolve, invoke, builtin, Builtin.len_, h2, run_underlying hu, goInt]
      · rename_i cs n e hp hu
        rw [hp] at hx
        simp only [Rep] at hx
        simp only [Option.some.injEq] at hv; subst hv
        refine ⟨.int .i64 n, ?_, rfl⟩
        simp [execOp, resolve, invoke, builtin, Builtin.len_, hx, run_underlying hu, goInt]
      · cases hv
  case h_18 => cases hv
end Go.Ev
