/- Rules: parts of strings, sums of strings, parts of slices, loads at places that have names. Nothing here names a program. -/
import Derived.Test.YtoahfmgdlpgjoaaRuv
set_option linter.unusedSimpArgs false
set_option linter.unusedVariables false
namespace Go.Ev
open Go.RowKit

variable {P : Program}

theorem ofL_eta (s : ByteArray) : ofL s.data.toList = s := by unfold ofL; rw [Array.toArray_toList]
theorem ofL_list (l : List UInt8) : (ofL l).data.toList = l := rfl
theorem extract_ofL (s : ByteArray) (a b : Nat) (h : b ≤ s.size) : s.extract a b = ofL ((s.data.toList.take b).drop a) := by
  apply ByteArray.ext
  show (s.extract a b).data = _
  simp only [ofL]
  rw [ByteArray.data_extract]
  apply Array.ext'
  simp [List.extract_eq_take_drop, List.drop_take]

/-- A part of a string. -/
def strCut (s : ByteArray) (lo hi : Option Int) : Option Prop × AV :=
  match lo, hi with
  | none, none => (none, .v (.string (ofL s.data.toList)))
  | none, some z => (some (0 ≤ z ∧ z ≤ s.size), .v (.string (ofL (s.data.toList.take z.toNat))))
  | some y, none => (some (0 ≤ y ∧ y ≤ s.size), .v (.string (ofL (s.data.toList.drop y.toNat))))
  | some y, some z => (some (0 ≤ y ∧ y ≤ z ∧ z ≤ s.size), .v (.string (ofL ((s.data.toList.take z.toNat).drop y.toNat))))
theorem strCut_run {s : ByteArray} {lo hi : Option Int} {kl kh : IntKind} {T : TypeId} (hT : P.underlying T = some .string) (hc : (strCut s lo hi).1.getD True) (w : World) :
    ∃ t, (strCut s lo hi).2 = .v (.string t) ∧ (Instr.sliceAt T (.string s) (lo.map (.int kl)) (hi.map (.int kh)) none).run P w = .ok (.string t) w := by
  have sb : ∀ (k : IntKind) (i : Int) (y : Nat) (code : BoundsCode), 0 ≤ i → i ≤ y → (Instr.sliceBound (.int k i) y code).run P w = .ok i.toNat w := by
    intro k i y code h0 h1
    simp [Instr.sliceBound, asIntOf, h0, h1]
  cases lo with
  | none =>
    cases hi with
    | none =>
      refine ⟨_, rfl, ?_⟩
      simp [Instr.sliceAt, Instr.slice, run_underlying hT, Instr.sliceBounds, ofL_eta]
    | some z =>
      simp only [strCut, Option.getD_some] at hc
      refine ⟨_, rfl, ?_⟩
      have h1 := sb kh z s.size .sliceAlen hc.1 hc.2
      have h2 := extract_ofL s 0 z.toNat (by omega)
      rw [List.drop_zero] at h2
      simp [Instr.sliceAt, Instr.slice, run_underlying hT, Instr.sliceBounds, h1, h2]
  | some y =>
    cases hi with
    | none =>
      simp only [strCut, Option.getD_some] at hc
      refine ⟨_, rfl, ?_⟩
      have h1 := sb kl y s.size .sliceB hc.1 hc.2
      have h2 := extract_ofL s y.toNat s.size (Nat.le_refl _)
      rw [show s.data.toList.take s.size = s.data.toList from List.take_of_length_le (by simp)] at h2
      simp [Instr.sliceAt, Instr.slice, run_underlying hT, Instr.sliceBounds, h1, h2]
    | some z =>
      simp only [strCut, Option.getD_some] at hc
      refine ⟨_, rfl, ?_⟩
      have h1 := sb kh z s.size .sliceAlen (by omega) hc.2.2
      have h3 := sb kl y z.toNat .sliceB hc.1 (by omega)
      have h2 := extract_ofL s y.toNat z.toNat (by omega)
      simp [Instr.sliceAt, Instr.slice, run_underlying hT, Instr.sliceBounds, h1, h3, h2]

def qStS (P : Program) : QRule P where
  fn ora h avs op := match op with
    | .slice T _ none none none => (match avs, P.underlying T with | [.v (.string s)], some .string => [strCut s none none] | _, _ => [])
    | .slice T _ none (some _) none => (match avs, P.underlying T with | [.v (.string s), .v (.int _ z)], some .string => [strCut s none (some z)] | _, _ => [])
    | .slice T _ (some _) none none => (match avs, P.underlying T with | [.v (.string s), .v (.int _ y)], some .string => [strCut s (some y) none] | _, _ => [])
    | .slice T _ (some _) (some _) none => (match avs, P.underlying T with | [.v (.string s), .v (.int _ y), .v (.int _ z)], some .string => [strCut s (some y) (some z)] | _, _ => [])
    | _ => []
  nd ora h avs op k p hk c e := by subst e; simp at hk
  ok ora h avs op k c r hk hc := by
    intro B ρ w a o ho hr hh
    split at hk
    · rename_i T x
      split at hk
      · rename_i s hT
        have e := one_alt hk
        simp only [Op.operands, Reps, Rep] at hr
        obtain ⟨u, r1, e1, rfl, rfl⟩ := hr
        simp at e1
        obtain ⟨t, h1, h2⟩ := strCut_run (P := P) (s := s) (lo := none) (hi := none) (kl := .i64) (kh := .i64) hT (by rw [e]; exact hc) w
        rw [e] at h1
        simp only at h1; subst h1
        simp only [Option.map_none] at h2
        exact ⟨.string t, by simp [execOp, ho, e1, h2], rfl⟩
      · simp at hk
    · rename_i T x z0
      split at hk
      · rename_i s kz z hT
        have e := one_alt hk
        simp only [Op.operands, Reps, Rep] at hr
        obtain ⟨u, r1, e1, rfl, v, r2, rfl, rfl, rfl⟩ := hr
        simp at e1
        obtain ⟨t, h1, h2⟩ := strCut_run (P := P) (s := s) (lo := none) (hi := some z) (kl := .i64) (kh := kz) hT (by rw [e]; exact hc) w
        rw [e] at h1
        simp only at h1; subst h1
        simp only [Option.map_none, Option.map_some] at h2
        exact ⟨.string t, by simp [execOp, ho, e1.1, e1.2, h2], rfl⟩
      · simp at hk
    · rename_i T x y0
      split at hk
      · rename_i s ky y hT
        have e := one_alt hk
        simp only [Op.operands, Reps, Rep] at hr
        obtain ⟨u, r1, e1, rfl, v, r2, rfl, rfl, rfl⟩ := hr
        simp at e1
        obtain ⟨t, h1, h2⟩ := strCut_run (P := P) (s := s) (lo := some y) (hi := none) (kl := ky) (kh := .i64) hT (by rw [e]; exact hc) w
        rw [e] at h1
        simp only at h1; subst h1
        simp only [Option.map_none, Option.map_some] at h2
        exact ⟨.string t, by simp [execOp, ho, e1.1, e1.2, h2], rfl⟩
      · simp at hk
    · rename_i T x y0 z0
      split at hk
      · rename_i s ky y kz z hT
        have e := one_alt hk
        simp only [Op.operands, Reps, Rep] at hr
        obtain ⟨u, r1, e1, rfl, v, r2, rfl, rfl, v', r3, rfl, rfl, rfl⟩ := hr
        simp at e1
        obtain ⟨t, h1, h2⟩ := strCut_run (P := P) (s := s) (lo := some y) (hi := some z) (kl := ky) (kh := kz) hT (by rw [e]; exact hc) w
        rw [e] at h1
        simp only at h1; subst h1
        simp only [Option.map_some] at h2
        exact ⟨.string t, by simp [execOp, ho, e1.1, e1.2.1, e1.2.2, h2], rfl⟩
      · simp at hk
    · simp at hk

/-- Two strings, one behind the other. -/
def qCat (P : Program) : QRule P where
  fn ora h avs op := match op, avs with
    | .binOp .add T _ _ _, [.v (.string s), .v (.string t)] => [(some (s.size + t.size ≤ 9223372036854775807), .v (.string (ofL (s.data.toList ++ t.data.toList))))]
    | _, _ => []
  nd ora h avs op k p hk c e := by subst e; simp at hk
  ok ora h avs op k c r hk hc := by
    intro B ρ w a o ho hr hh
    split at hk
    · rename_i T x y yt s t
      have e := one_alt hk
      simp only [Prod.mk.injEq] at e
      obtain ⟨rfl, rfl⟩ := e
      simp only [Option.getD_some] at hc
      simp only [Op.operands, Reps, Rep] at hr
      obtain ⟨u, r1, e1, rfl, v, r2, rfl, rfl, rfl⟩ := hr
      simp at e1
      refine ⟨.string (ofL (s.data.toList ++ t.data.toList)), ?_, rfl⟩
      have h1 : ¬ (((s.size + t.size : Nat) : Int) > IntKind.i64.max) := by
        show ¬ (((s.size + t.size : Nat) : Int) > 9223372036854775807)
        omega
      have h2 : s ++ t = ofL (s.data.toList ++ t.data.toList) := by
        apply ByteArray.ext
        simp [ofL]
      simp only [execOp, ho, e1.1, e1.2, eqGuard, binOp, Op.stringOp]
      simp only [h1, if_false]
      simp [h2]
    · simp at hk

/-- A slice, cut at a place that has a name. -/
def qSlB (P : Program) : QRule P where
  fn ora h avs op := match op with
    | .slice T _ none (some _) none => (match avs, P.underlying T with
      | [.sl id off len cap, .v (.int k z)], some (.slice e) => (match P.info? e with | some i => [(some (z = ((ora.hi 0 : Nat) : Int) ∧ ora.hi 0 ≤ cap), .sl id off (ora.hi 0) cap)] | none => [])
      | _, _ => [])
    | _ => []
  nd ora h avs op k p hk c e := by subst e; simp at hk
  ok ora h avs op k c r hk hc := by
    intro B ρ w a o ho hr hh
    split at hk
    · rename_i T x z0
      split at hk
      · rename_i id off len cap kz z e hT
        split at hk
        · rename_i i hi
          have e := one_alt hk
          simp only [Prod.mk.injEq] at e
          obtain ⟨rfl, rfl⟩ := e
          simp only [Option.getD_some] at hc
          obtain ⟨rfl, hle⟩ := hc
          simp only [Op.operands, Reps, Rep] at hr
          obtain ⟨u, r1, e1, ⟨b, g1, rfl⟩, v, r2, rfl, rfl, rfl⟩ := hr
          simp at e1
          refine ⟨.slice (some ⟨b.1, b.2 + off, none⟩) (ora.hi 0) cap, ?_, ?_⟩
          · have h1 : (Instr.sliceBound (.int kz ((ora.hi 0 : Nat) : Int)) cap .sliceAcap).run P w = .ok (ora.hi 0) w := by
              have : ((ora.hi 0 : Nat) : Int) ≤ cap := by omega
              simp [Instr.sliceBound, asIntOf, this]
            simp [execOp, ho, e1.1, e1.2, Instr.sliceAt, Instr.slice, run_underlying hT, Instr.sliceBounds, h1, run_sizeOf' hi]
            intro _
            simp [Addr.add_mid]
          · simp only [Rep]; exact ⟨b, g1, rfl⟩
        · simp at hk
      · simp at hk
    · simp at hk

/-- A load of what is told. -/
def qLoad (P : Program) : QRule P where
  fn ora h avs op := match op, avs with
    | .load T _, [.p id off] => (match rowN P T, h.get id with
      | some (some n), some blk => (match blk.cells? with
        | some cs => (match pureC cs, pureC (ora.cs 0) with
          | true, true => [(some (sizes (ora.cs 0) = n ∧ ((flat cs).drop off).take n = flat (ora.cs 0)), .ag (ora.cs 0))]
          | _, _ => [])
        | none => [])
      | some none, some blk => (match blk.cells?, (ora.av 0).val? with
        | some cs, some v => (match pureC cs with
          | true => [(some ((flat cs)[off]? = some v), ora.av 0)]
          | false => [])
        | _, _ => [])
      | _, _ => [])
    | _, _ => []
  nd ora h avs op k p hk c e := by subst e; simp at hk
  ok ora h avs op k c r hk hc := by
    intro B ρ w a o ho hr hh
    split at hk
    · rename_i T x id off
      split at hk
      · rename_i n blk hT hblk
        split at hk
        · rename_i cs hcs
          split at hk
          · rename_i hp hp'
            have e := one_alt hk
            simp only [Prod.mk.injEq] at e
            obtain ⟨rfl, rfl⟩ := e
            simp only [Option.getD_some] at hc
            obtain ⟨hsz, hc⟩ := hc
            simp only [Op.operands, List.map_cons, List.map_nil, Reps, Rep] at hr
            obtain ⟨u, r1, e1, ⟨b, g1, rfl⟩, rfl⟩ := hr
            simp only [List.cons.injEq, and_true] at e1
            obtain ⟨b', k1, k2⟩ := hh.at_ id blk hblk
            rw [g1] at k1; simp only [Option.some.injEq] at k1; subst k1
            obtain ⟨_, k3⟩ := k2.cells hcs
            rw [(pureC_flat ρ hp).1] at k3
            obtain ⟨hagg, i, hi, hs⟩ := rowN_some hT
            refine ⟨.agg (flat (ora.cs 0)).toArray, ?_, ?_⟩
            · have hl : (loadCells ⟨b.1, b.2 + off, none⟩ n).run P w = .ok (flat (ora.cs 0)).toArray w := by
                have hlen : (flat (ora.cs 0)).length = n := by rw [flat_length]; exact hsz
                rw [← hlen]
                refine run_loadCells_list (P := P) w _ _ (fun j z hz => ?_)
                rw [Addr.add_mid, Nat.add_assoc]
                refine k3 _ _ ?_
                rw [← hc] at hz
                simp only [List.getElem?_take, List.getElem?_drop] at hz
                split at hz
                · exact hz
                · cases hz
              simp [execOp, ho, e1, Instr.loadAt, Instr.sureAddr, loadVar, Sem.run_bind, hagg, run_sizeOf' hi, hs, hl]
            · simp only [Rep]
              exact ⟨(pureC_flat ρ hp').2, by rw [(pureC_flat ρ hp').1]⟩
          · simp at hk
        · simp at hk
      · rename_i blk hT hblk
        split at hk
        · rename_i cs v hcs hv
          split at hk
          · rename_i hp
            have e := one_alt hk
            simp only [Prod.mk.injEq] at e
            obtain ⟨rfl, rfl⟩ := e
            simp only [Option.getD_some] at hc
            simp only [Op.operands, List.map_cons, List.map_nil, Reps, Rep] at hr
            obtain ⟨u, r1, e1, ⟨b, g1, rfl⟩, rfl⟩ := hr
            simp only [List.cons.injEq, and_true] at e1
            obtain ⟨b', k1, k2⟩ := hh.at_ id blk hblk
            rw [g1] at k1; simp only [Option.some.injEq] at k1; subst k1
            obtain ⟨_, k3⟩ := k2.cells hcs
            rw [(pureC_flat ρ hp).1] at k3
            have hagg := rowN_none hT
            have k4 := k3 off v hc
            exact ⟨v, by simp [execOp, ho, e1, Instr.loadAt, Instr.sureAddr, loadVar, Sem.run_bind, hagg, k4], rep_val hv⟩
          · simp at hk
        · simp at hk
      · simp at hk
    · simp at hk

/-- The address of an element of a slice whose room is not known: hi 0 is the place. -/
def qIdy (P : Program) : QRule P where
  fn ora h avs op := match op, avs with
    | .indexAddr T _ _, [.sx id len, .v (.int k z)] => (match P.underlying T with
      | some (.slice e) => (match P.info? e with | some i => [(some (z = ((ora.hi 0 : Nat) : Int) ∧ ora.hi 0 < len), .p id (ora.hi 0 * i.size))] | none => [])
      | _ => [])
    | _, _ => []
  nd ora h avs op k p hk c e := by subst e; simp at hk
  ok ora h avs op k c r hk hc := by
    intro B ρ w a o ho hr hh
    split at hk
    · rename_i T x y id len kd z
      split at hk
      · rename_i e hT
        split at hk
        · rename_i i hi
          have e := one_alt hk
          simp only [Prod.mk.injEq] at e
          obtain ⟨rfl, rfl⟩ := e
          simp only [Option.getD_some] at hc
          obtain ⟨rfl, h1⟩ := hc
          simp only [Op.operands, List.map_cons, List.map_nil, Reps, Rep] at hr
          obtain ⟨u, r1, e1, ⟨b, g1, rfl⟩, v, r2, rfl, rfl, rfl⟩ := hr
          simp only [List.cons.injEq, and_true] at e1
          refine ⟨.pointer (some ⟨b.1, b.2 + ora.hi 0 * i.size, none⟩), ?_, ?_⟩
          · simp [execOp, Instr.indexAt, ho, e1.1, e1.2, asIntOf, run_underlying hT, h1, run_sizeOf' hi, Addr.add_mid]
          · simp only [Rep]; exact ⟨b, g1, rfl⟩
        · simp at hk
      · simp at hk
    · simp at hk

/-- The string that the bytes of a slice are: told. -/
def qByS (P : Program) : QRule P where
  fn ora h avs op := match op, avs with
    | .convert src dst _, [.sx id len] => (match P.underlying src, P.underlying dst, h.get id, ora.av 0 with
      | some (.slice e), some .string, some blk, .v (.string s) => (match P.underlying e, blk.cells? with
        | some (.int .u8), some cs => (match pureC cs with
          | true => [(some ((flat cs).take len = s.data.toList.map byteV ∧ len = s.size), .v (.string s))]
          | false => [])
        | _, _ => [])
      | _, _, _, _ => [])
    | _, _ => []
  nd ora h avs op k p hk c e := by subst e; simp at hk
  ok ora h avs op k c r hk hc := by
    intro B ρ w a o ho hr hh
    split at hk
    · rename_i src dst x id len
      split at hk
      · rename_i e blk s hs hd hblk hav
        split at hk
        · rename_i cs he hcs
          split at hk
          · rename_i hp
            have e := one_alt hk
            simp only [Prod.mk.injEq] at e
            obtain ⟨rfl, rfl⟩ := e
            simp only [Option.getD_some] at hc
            obtain ⟨hc, hsz⟩ := hc
            simp only [Op.operands, Reps, Rep] at hr
            obtain ⟨u, r1, e1, ⟨b, g1, rfl⟩, rfl⟩ := hr
            simp at e1
            obtain ⟨b', k1, k2⟩ := hh.at_ id blk hblk
            rw [g1] at k1; simp only [Option.some.injEq] at k1; subst k1
            obtain ⟨_, k3⟩ := k2.cells hcs
            rw [(pureC_flat ρ hp).1] at k3
            have h1 := run_loadCells_list (P := P) w ⟨b.1, b.2, none⟩ (s.data.toList.map byteV) (fun j z hz => by
              rw [Addr.add_mid]
              refine k3 _ _ ?_
              rw [← hc, List.getElem?_take] at hz
              split at hz
              · exact hz
              · cases hz)
            have hl : (s.data.toList.map byteV).length = len := by rw [hsz, List.length_map]; exact Array.length_toList
            rw [hl] at h1
            refine ⟨.string s, ?_, rfl⟩
            have h2 : s.data.toList.map byteV = (s.data.toList.map (fun b => ((b.toNat : Nat) : Int))).map (Value.int .u8) := by simp [byteV]
            rw [h2] at h1
            have h3 := run_convert_bytes_string (P := P) w src dst e (some ⟨b.1, b.2, none⟩) len (len + b.3) hs he hd
            rw [run_bytesToString w _ len (len + b.3) _ h1, foldl_pushB] at h3
            have h4 : (⟨ByteArray.empty.data ++ ((s.data.toList.map (fun b => ((b.toNat : Nat) : Int))).map (fun n => UInt8.ofNat n.toNat)).toArray⟩ : ByteArray) = s := by
              apply ByteArray.ext
              apply Array.toList_inj.1
              have h5 : ((fun n : Int => UInt8.ofNat n.toNat) ∘ fun b : UInt8 => ((b.toNat : Nat) : Int)) = fun b => b := by funext b; simp
              rw [List.map_map, h5, List.map_id']
              show (#[] ++ s.data.toList.toArray).toList = s.data.toList
              simp
            rw [h4] at h3
            simp [execOp, ho, e1, h3]
          · simp at hk
        · simp at hk
      · simp at hk
    · simp at hk

/-- A part of a slice whose room is not known: hi 0 and hi 1 are its ends. -/
def qSlX (P : Program) : QRule P where
  fn ora h avs op := match op with
    | .slice T _ (some _) (some _) none => (match avs, P.underlying T with
      | [.sx id len, .v (.int k a), .v (.int k' b)], some (.slice e) => (match P.info? e with | some i => [(some (a = ((ora.hi 0 : Nat) : Int) ∧ b = ((ora.hi 1 : Nat) : Int) ∧ ora.hi 0 < ora.hi 1 ∧ ora.hi 1 ≤ len), .sy id (ora.hi 0 * i.size) (ora.hi 1 - ora.hi 0))] | none => [])
      | _, _ => [])
    | _ => []
  nd ora h avs op k p hk c e := by subst e; simp at hk
  ok ora h avs op k c r hk hc := by
    intro B ρ w a o ho hr hh
    split at hk
    · rename_i T x z0 z1
      split at hk
      · rename_i id len k1 z k2 z' e hT
        split at hk
        · rename_i i hi
          have e := one_alt hk
          simp only [Prod.mk.injEq] at e
          obtain ⟨rfl, rfl⟩ := e
          simp only [Option.getD_some] at hc
          obtain ⟨rfl, rfl, hlt, hle⟩ := hc
          simp only [Op.operands, Reps, Rep] at hr
          obtain ⟨u, r1, e1, ⟨b, g1, rfl⟩, v, r2, rfl, rfl, v', r3, rfl, rfl, rfl⟩ := hr
          simp at e1
          refine ⟨.slice (some ⟨b.1, b.2 + ora.hi 0 * i.size, none⟩) (ora.hi 1 - ora.hi 0) (len + b.3 - ora.hi 0), ?_, ?_⟩
          · have h1 : (Instr.sliceBound (.int k2 ((ora.hi 1 : Nat) : Int)) (len + b.3) .sliceAcap).run P w = .ok (ora.hi 1) w := by
              have h2 : ((ora.hi 1 : Nat) : Int) ≤ (len : Int) + (b.3 : Int) := by omega
              have h3 : ¬ ((len : Int) + (b.3 : Int) < ((ora.hi 1 : Nat) : Int)) := by omega
              simp [Instr.sliceBound, asIntOf, h2, h3]
            have h0 : (Instr.sliceBound (.int k1 ((ora.hi 0 : Nat) : Int)) (ora.hi 1) .sliceB).run P w = .ok (ora.hi 0) w := by
              have h2 : ((ora.hi 0 : Nat) : Int) ≤ ((ora.hi 1 : Nat) : Int) := by omega
              have h3 : ¬ (((ora.hi 1 : Nat) : Int) < ((ora.hi 0 : Nat) : Int)) := by omega
              simp [Instr.sliceBound, asIntOf, h2, h3]
              try omega
            have hne : ¬ (len + b.3 = ora.hi 0) := by omega
            simp [execOp, ho, e1.1, e1.2.1, e1.2.2, Instr.sliceAt, Instr.slice, run_underlying hT, Instr.sliceBounds, h1, h0, run_sizeOf' hi, hne, Addr.add_mid]
          · simp only [Rep]; exact ⟨b, _, g1, rfl⟩
        · simp at hk
      · simp at hk
    · simp at hk

/-- The string that the bytes of a part of a slice are: told. -/
def qSyS (P : Program) : QRule P where
  fn ora h avs op := match op, avs with
    | .convert src dst _, [.sy id off len] => (match P.underlying src, P.underlying dst, h.get id, ora.av 0 with
      | some (.slice e), some .string, some blk, .v (.string s) => (match P.underlying e, blk.cells? with
        | some (.int .u8), some cs => (match pureC cs with
          | true => [(some (((flat cs).drop off).take len = s.data.toList.map byteV ∧ len = s.size), .v (.string s))]
          | false => [])
        | _, _ => [])
      | _, _, _, _ => [])
    | _, _ => []
  nd ora h avs op k p hk c e := by subst e; simp at hk
  ok ora h avs op k c r hk hc := by
    intro B ρ w a o ho hr hh
    split at hk
    · rename_i src dst x id off len
      split at hk
      · rename_i e blk s hs hd hblk hav
        split at hk
        · rename_i cs he hcs
          split at hk
          · rename_i hp
            have e := one_alt hk
            simp only [Prod.mk.injEq] at e
            obtain ⟨rfl, rfl⟩ := e
            simp only [Option.getD_some] at hc
            obtain ⟨hc, hsz⟩ := hc
            simp only [Op.operands, Reps, Rep] at hr
            obtain ⟨u, r1, e1, ⟨b, cp, g1, rfl⟩, rfl⟩ := hr
            simp at e1
            obtain ⟨b', k1, k2⟩ := hh.at_ id blk hblk
            rw [g1] at k1; simp only [Option.some.injEq] at k1; subst k1
            obtain ⟨_, k3⟩ := k2.cells hcs
            rw [(pureC_flat ρ hp).1] at k3
            have h1 := run_loadCells_list (P := P) w ⟨b.1, b.2 + off, none⟩ (s.data.toList.map byteV) (fun j z hz => by
              rw [Addr.add_mid, Nat.add_assoc]
              refine k3 _ _ ?_
              rw [← hc, List.getElem?_take] at hz
              split at hz
              · rw [List.getElem?_drop] at hz; exact hz
              · cases hz)
            have hl : (s.data.toList.map byteV).length = len := by rw [hsz, List.length_map]; exact Array.length_toList
            rw [hl] at h1
            refine ⟨.string s, ?_, rfl⟩
            have h2 : s.data.toList.map byteV = (s.data.toList.map (fun b => ((b.toNat : Nat) : Int))).map (Value.int .u8) := by simp [byteV]
            rw [h2] at h1
            have h3 := run_convert_bytes_string (P := P) w src dst e (some ⟨b.1, b.2 + off, none⟩) len cp hs he hd
            rw [run_bytesToString w _ len cp _ h1, foldl_pushB] at h3
            have h4 : (⟨ByteArray.empty.data ++ ((s.data.toList.map (fun b => ((b.toNat : Nat) : Int))).map (fun n => UInt8.ofNat n.toNat)).toArray⟩ : ByteArray) = s := by
              apply ByteArray.ext
              apply Array.toList_inj.1
              have h5 : ((fun n : Int => UInt8.ofNat n.toNat) ∘ fun b : UInt8 => ((b.toNat : Nat) : Int)) = fun b => b := by funext b; simp
              rw [List.map_map, h5, List.map_id']
              show (#[] ++ s.data.toList.toArray).toList = s.data.toList
              simp
            rw [h4] at h3
            simp [execOp, ho, e1, h3]
          · simp at hk
        · simp at hk
      · simp at hk
    · simp at hk

def rulesX (P : Program) : Rules P := { q := [qStr P, qIdx P, qLim P, qShr P, qStS P, qCat P, qSlB P, qLoad P, qIdy P, qByS P, qSlX P, qSyS P], x := [xApp P, xByt P, xStg P], d := some (xAppB P) }
end Go.Ev
