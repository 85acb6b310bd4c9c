/- Rules: reading at places that have names: strings, rows, slices; shifts by such numbers. Nothing here names a program. -/
import Derived.Test.YtoahfmgdlpgjoaaNum
set_option linter.unusedSimpArgs false
set_option linter.unusedVariables false
namespace Go.Ev
open Go.RowKit

variable {P : Program}

theorem one_alt {p : Option Prop × AV} {k : Nat} {c : Option Prop} {r : AV} (h : [p][k]? = some (c, r)) : p = (c, r) := by
  match k, h with
  | 0, h => simpa using h
  | k + 1, h => simp at h

/-- A string's byte: hi 0 is the byte. -/
def qStr (P : Program) : QRule P where
  fn ora h avs op := match op, avs with
    | .index T _ _, [.v (.string s), .v (.int k z)] => (match P.underlying T with
      | some .string => [(some (0 ≤ z ∧ z < s.size ∧ ((s[z.toNat]?).getD 0).toNat = ora.hi 0), .v (.int .u8 ((ora.hi 0 : Nat) : Int)))]
      | _ => [])
    | _, _ => []
  nd ora h avs op k p hk c e := by subst e; simp at hk
  ok ora h avs op k c r hk hc := by
    intro B ρ w a o ho hr hh
    split at hk
    · rename_i T x y s kd z
      split at hk
      · rename_i hT
        have e := one_alt hk
        simp only [Prod.mk.injEq] at e
        obtain ⟨rfl, rfl⟩ := e
        simp only [Option.getD_some] at hc
        obtain ⟨h0, h1, h2⟩ := hc
        simp only [Op.operands, List.map_cons, List.map_nil, Reps, Rep] at hr
        obtain ⟨u, r1, e1, rfl, v, r2, rfl, rfl, rfl⟩ := hr
        simp only [List.cons.injEq, and_true] at e1
        refine ⟨.int .u8 ((ora.hi 0 : Nat) : Int), ?_, rfl⟩
        have e3 := run_index_string (P := P) w T s kd z hT
        rw [dif_pos ⟨h0, h1⟩] at e3
        have h3 : z.toNat < s.size := by omega
        have h4 : (s[z.toNat]'h3).toNat = ora.hi 0 := by rw [← h2]; simp [ByteArray.getElem?_lt' _ _ h3]
        rw [h4] at e3
        simp [execOp, ho, e1.1, e1.2, e3]
      · simp at hk
    · simp at hk

/-- The address of an element of an array, or of a slice: hi 0 is the place. -/
def qIdx (P : Program) : QRule P where
  fn ora h avs op := match op, avs with
    | .indexAddr T _ _, [.p id off, .v (.int k z)] => (match P.underlying T with
      | some (.array n e) => (match P.info? e with | some i => [(some (z = ((ora.hi 0 : Nat) : Int) ∧ ora.hi 0 < n), .p id (off + ora.hi 0 * i.size))] | none => [])
      | _ => [])
    | .indexAddr T _ _, [.sl id off len cap, .v (.int k z)] => (match P.underlying T with
      | some (.slice e) => (match P.info? e with | some i => [(some (z = ((ora.hi 0 : Nat) : Int) ∧ ora.hi 0 < len), .p id (off + ora.hi 0 * i.size))] | none => [])
      | _ => [])
    | _, _ => []
  nd ora h avs op k p hk c e := by subst e; simp at hk
  ok ora h avs op k c r hk hc := by
    intro B ρ w a o ho hr hh
    split at hk
    · rename_i T x y id off kd z
      split at hk
      · rename_i n e hT
        split at hk
        · rename_i i hi
          have e := one_alt hk
          simp only [Prod.mk.injEq] at e
          obtain ⟨rfl, rfl⟩ := e
          simp only [Option.getD_some] at hc
          obtain ⟨rfl, h1⟩ := hc
          simp only [Op.operands, List.map_cons, List.map_nil, Reps, Rep] at hr
          obtain ⟨u, r1, e1, ⟨b, g1, rfl⟩, v, r2, rfl, rfl, rfl⟩ := hr
          simp only [List.cons.injEq, and_true] at e1
          refine ⟨.pointer (some ⟨b.1, b.2 + off + ora.hi 0 * i.size, none⟩), ?_, ?_⟩
          · have : (0 : Int) ≤ ((ora.hi 0 : Nat) : Int) ∧ ((ora.hi 0 : Nat) : Int) < n := by omega
            simp [execOp, Instr.indexAt, ho, e1.1, e1.2, asIntOf, run_underlying hT, Instr.sureAddr, this, run_sizeOf' hi, Addr.add_mid]
            omega
          · simp only [Rep]; exact ⟨b, g1, by rw [Nat.add_assoc]⟩
        · simp at hk
      · simp at hk
    · rename_i T x y id off len cap kd z
      split at hk
      · rename_i e hT
        split at hk
        · rename_i i hi
          have e := one_alt hk
          simp only [Prod.mk.injEq] at e
          obtain ⟨rfl, rfl⟩ := e
          simp only [Option.getD_some] at hc
          obtain ⟨rfl, h1⟩ := hc
          simp only [Op.operands, List.map_cons, List.map_nil, Reps, Rep] at hr
          obtain ⟨u, r1, e1, ⟨b, g1, rfl⟩, v, r2, rfl, rfl, rfl⟩ := hr
          simp only [List.cons.injEq, and_true] at e1
          refine ⟨.pointer (some ⟨b.1, b.2 + off + ora.hi 0 * i.size, none⟩), ?_, ?_⟩
          · simp [execOp, Instr.indexAt, ho, e1.1, e1.2, asIntOf, run_underlying hT, h1, run_sizeOf' hi, Addr.add_mid]
          · simp only [Rep]; exact ⟨b, g1, by rw [Nat.add_assoc]⟩
        · simp at hk
      · simp at hk
    · simp at hk

/-- A load of one cell of a number's limbs, at a place that has a name. -/
def qLim (P : Program) : QRule P where
  fn ora h avs op := match op, avs with
    | .load T _, [.p id off] => (match rowN P T, h.get id with
      | some none, some blk => (match blk.cells? with
        | some [.n w x] => [(some (off < w), .u (x / 18446744073709551616 ^ off))]
        | _ => [])
      | _, _ => [])
    | _, _ => []
  nd ora h avs op k p hk c e := by subst e; simp at hk
  ok ora h avs op k c r hk hc := by
    intro B ρ w a o ho hr hh
    split at hk
    · rename_i T x id off
      split at hk
      · rename_i blk hT hblk
        split at hk
        · rename_i wd x hcs
          have e := one_alt hk
          simp only [Prod.mk.injEq] at e
          obtain ⟨rfl, rfl⟩ := e
          simp only [Option.getD_some] at hc
          simp only [Op.operands, List.map_cons, List.map_nil, Reps, Rep] at hr
          obtain ⟨u, r1, e1, ⟨b, g1, rfl⟩, rfl⟩ := hr
          simp only [List.cons.injEq, and_true] at e1
          obtain ⟨b', k1, k2⟩ := hh.at_ id blk hblk
          rw [g1] at k1; simp only [Option.some.injEq] at k1; subst k1
          obtain ⟨_, k3⟩ := k2.cells hcs
          have k4 := k3 off (.int .u64 ((x / 18446744073709551616 ^ off % 18446744073709551616 : Nat) : Int)) (by
            simp only [flatR, Ch.cells, List.append_nil]
            exact limbs_get _ _ _ hc)
          refine ⟨u64 (x / 18446744073709551616 ^ off), ?_, rfl⟩
          have hagg := rowN_none hT
          simp [execOp, ho, e1, Instr.loadAt, Instr.sureAddr, loadVar, Sem.run_bind, hagg, k4, u64]
        · simp at hk
      · simp at hk
    · simp at hk

/-- A shift to the right of a number of 64 bits, by a number that has a name. -/
def qShr (P : Program) : QRule P where
  fn ora h avs op := match op, avs with
    | .binOp .shr T _ _ _, [.u x, .v (.int k z)] => [(some (z = ((ora.hi 0 : Nat) : Int) ∧ ora.hi 0 < 64), .u (x % 18446744073709551616 / 2 ^ ora.hi 0))]
    | _, _ => []
  nd ora h avs op k p hk c e := by subst e; simp at hk
  ok ora h avs op k c r hk hc := by
    intro B ρ w a o ho hr hh
    split at hk
    · rename_i T x y yt xx kd z
      have e := one_alt hk
      simp only [Prod.mk.injEq] at e
      obtain ⟨rfl, rfl⟩ := e
      simp only [Option.getD_some] at hc
      obtain ⟨rfl, h1⟩ := hc
      simp only [Op.operands, List.map_cons, List.map_nil, Reps, Rep] at hr
      obtain ⟨u, r1, e1, rfl, v, r2, rfl, rfl, rfl⟩ := hr
      simp only [List.cons.injEq, and_true] at e1
      have hb : ¬ ((ora.hi 0 : Nat) : Int) < 0 := by omega
      refine ⟨u64 (xx % 18446744073709551616 / 2 ^ ora.hi 0), ?_, rfl⟩
      have e2 : (((xx % 18446744073709551616 : Nat) : Int).fdiv (2 ^ min (ora.hi 0) 64)) = ((xx % 18446744073709551616 / 2 ^ ora.hi 0 % 18446744073709551616 : Nat) : Int) := by
        rw [Nat.min_eq_left (by omega)]
        have h2 : (0 : Int) ≤ 2 ^ ora.hi 0 := by exact_mod_cast Nat.zero_le (2 ^ ora.hi 0)
        rw [Int.fdiv_eq_ediv_of_nonneg _ h2]
        have : xx % 18446744073709551616 / 2 ^ ora.hi 0 < 18446744073709551616 := by
          have := Nat.div_le_self (xx % 18446744073709551616) (2 ^ ora.hi 0)
          omega
        rw [Nat.mod_eq_of_lt this]
        norm_cast
      simp only [execOp, ho, e1.1, e1.2, u64, eqGuard_at_int, binOp, Op.shift, hb, if_false, IntKind.bits, Int.toNat_natCast]
      rw [e2]
      rfl
    · simp at hk

def rulesQ (P : Program) : Rules P := { q := [qStr P, qIdx P, qLim P, qShr P] }
/-- A rule, told a number. -/
def rO (r : Nat) (x : Nat) : Ora := { ch := 0, hi := fun _ => x, ru := r }
/-- A rule, told two numbers. -/
def rO2 (r : Nat) (x y : Nat) : Ora := { ch := 0, hi := fun k => match Nat.beq k 0 with | true => x | false => y, ru := r }
end Go.Ev
