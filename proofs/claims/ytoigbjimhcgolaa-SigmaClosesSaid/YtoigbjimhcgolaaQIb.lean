/- Pruned: Ib. -/
import Derived.Test.YtoigbjimhcgolaaQGf
import Derived.Test.YtoigbjimhcgolaaQIa
import Derived.Test.YtoigbjimhcgolaaQZhPwS
import Derived.Test.YtoigbjimhcgolaaQHb
import Derived.Test.YtoigbjimhcgolaaQGa
import Derived.Test.YtoigbjimhcgolaaQHa
/- chirographref19: a place's variable, what comes behind a place. -/
set_option linter.unusedSimpArgs false
set_option linter.unusedVariables false
namespace Go.Proofs.Ytoigbjimhcgolaa
open Go.Ev Go.RowKit
/-- The variable of a gate's wire, of a place; -1: none. -/
def wv (g : GT) (w : Nat) : Int := match w with | 0 => g.w0 | 1 => g.w1 | _ => g.w2
def wAt (gs : List GT) (r w : Nat) : Int := match gs[r]? with | some g => wv g w | none => -1
/-- .. by its number among n rows of each wire. -/
def vf (gs : List GT) (n q : Nat) : Int := wAt gs (q % n) (q / n)
theorem wire_cell (gs : List GT) (i : Nat) (g : GT) (h : gs[i]? = some g) (w : Nat) (hw : w < 3) : (flat [.l (gsC gs)])[i * 23 + 20 + w]? = some (.int .i64 (wv g w)) := by
  obtain ⟨_, e⟩ := gate_at gs i g h
  have e2 : (((flat [.l (gsC gs)]).drop (i * 23)).take 23)[20 + w]? = (flat (gP g))[20 + w]? := by rw [e]
  rw [List.getElem?_take, if_pos (by omega), List.getElem?_drop] at e2
  rw [show i * 23 + 20 + w = i * 23 + (20 + w) by omega, e2]
  have e3 : flat (gP g) = limbs 4 g.q0 ++ (limbs 4 g.q1 ++ (limbs 4 g.q2 ++ (limbs 4 g.q3 ++ (limbs 4 g.q4 ++ [.int .i64 g.w0, .int .i64 g.w1, .int .i64 g.w2])))) := by
    simp [gP, flat, Ch.cells]
  rw [e3]
  have hl : ∀ x, (limbs 4 x).length = 4 := fun x => limbs_length 4 x
  rw [List.getElem?_append_right (by rw [hl]; omega), List.getElem?_append_right (by simp only [hl]; omega), List.getElem?_append_right (by simp only [hl]; omega), List.getElem?_append_right (by simp only [hl]; omega), List.getElem?_append_right (by simp only [hl]; omega)]
  simp only [hl]
  rcases (show w = 0 ∨ w = 1 ∨ w = 2 by omega) with rfl | rfl | rfl <;> rfl
instance (gs : List GT) (pub vars : Int) : Decidable (rightC gs pub vars) := by unfold rightC; infer_instance
/-- May a log be, with so many gates? -/
def okLog (gs : List GT) (log : Int) : Prop := 0 ≤ log ∧ log ≤ 16 ∧ gs.length ≤ 2 ^ log.toNat
instance (gs : List GT) (log : Int) : Decidable (okLog gs log) := by unfold okLog; infer_instance
def ckE (gs : List GT) (pub vars log : Int) : Int := if rightC gs pub vars then if okLog gs log then 0 else 40 else 1
theorem sh_num (lg : Nat) (h : lg ≤ 16) : IntKind.i64.wrap (1 * 2 ^ min lg IntKind.i64.bits) = ((2 ^ lg : Nat) : Int) := by
  have : ∀ x : Fin 17, IntKind.i64.wrap (1 * 2 ^ min x.val IntKind.i64.bits) = ((2 ^ x.val : Nat) : Int) := by decide +kernel
  exact this ⟨lg, by omega⟩
theorem wrap_u (lg : Nat) (h : lg ≤ 16) : IntKind.u64.wrap ((lg : Nat) : Int) = ((lg : Nat) : Int) := by rw [wrap_u64]; omega
theorem ck0 (gs : List GT) (pub vars : Int) (hm : gs.length ≤ 9223372036854775807) (log : Int) (h : ¬ rightC gs pub vars) : Gives Try.prog 24 [.ags [.z [.l (gsC gs)] gs.length, .c (.c (.int .i64 pub)), .c (.c (.int .i64 vars))], .t (.v (.int .i64 log))] (.v (.int .i64 1)) :=
  fn_gives_at (P := Try.prog) (X := rulesM _) (env := []) trivial Try.func24 0 (oL [(7, { ch := 0, hi := fun _ => 0, ex := 7, av := fun _ => .v (.bool false) })]) (by kernel_rfl) ⟨_, rfl⟩
    (And.intro (show GivesE Try.prog 43 [.ags [.z [.l (gsC gs)] gs.length, .c (.c (.int .i64 pub)), .c (.c (.int .i64 vars))]] (.v (.bool false)) from ⟨fun vs w => Go.Proofs.enters_of (P := Try.prog) Try.func43 (by kernel_rfl) rfl vs w, cr_no gs pub vars h⟩) trivial)
theorem ck1 (gs : List GT) (pub vars : Int) (hm : gs.length ≤ 9223372036854775807) (log : Int) (h : rightC gs pub vars) (h1 : log < 0) : Gives Try.prog 24 [.ags [.z [.l (gsC gs)] gs.length, .c (.c (.int .i64 pub)), .c (.c (.int .i64 vars))], .t (.v (.int .i64 log))] (.v (.int .i64 40)) :=
  fn_gives_at (P := Try.prog) (X := rulesM _) (env := []) trivial Try.func24 0 (oL [(7, { ch := 0, hi := fun _ => 0, ex := 7, av := fun _ => .v (.bool true) }), (11, wT)]) (by kernel_rfl) ⟨_, rfl⟩
    (And.intro (show decide (log < 0) = true from decide_eq_true h1)
    (And.intro (show GivesE Try.prog 43 [.ags [.z [.l (gsC gs)] gs.length, .c (.c (.int .i64 pub)), .c (.c (.int .i64 vars))]] (.v (.bool true)) from ⟨fun vs w => Go.Proofs.enters_of (P := Try.prog) Try.func43 (by kernel_rfl) rfl vs w, cr_yes gs pub vars h⟩) trivial))
theorem ck2 (gs : List GT) (pub vars : Int) (hm : gs.length ≤ 9223372036854775807) (log : Int) (h : rightC gs pub vars) (h1 : ¬ log < 0) (h2 : log > 16) : Gives Try.prog 24 [.ags [.z [.l (gsC gs)] gs.length, .c (.c (.int .i64 pub)), .c (.c (.int .i64 vars))], .t (.v (.int .i64 log))] (.v (.int .i64 40)) :=
  fn_gives_at (P := Try.prog) (X := rulesM _) (env := []) trivial Try.func24 0 (oL [(7, { ch := 0, hi := fun _ => 0, ex := 7, av := fun _ => .v (.bool true) }), (11, wF), (14, wT)]) (by kernel_rfl) ⟨_, rfl⟩
    (And.intro (show decide (log > 16) = true from decide_eq_true h2)
    (And.intro (show decide (log < 0) = false from decide_eq_false h1)
    (And.intro (show GivesE Try.prog 43 [.ags [.z [.l (gsC gs)] gs.length, .c (.c (.int .i64 pub)), .c (.c (.int .i64 vars))]] (.v (.bool true)) from ⟨fun vs w => Go.Proofs.enters_of (P := Try.prog) Try.func43 (by kernel_rfl) rfl vs w, cr_yes gs pub vars h⟩) trivial)))
theorem ck3 (gs : List GT) (pub vars : Int) (hm : gs.length ≤ 9223372036854775807) (lg : Nat) (hl : lg ≤ 16) (h : rightC gs pub vars) (h3 : 2 ^ lg < gs.length) : Gives Try.prog 24 [.ags [.z [.l (gsC gs)] gs.length, .c (.c (.int .i64 pub)), .c (.c (.int .i64 vars))], .t (.v (.int .i64 ((lg : Nat) : Int)))] (.v (.int .i64 40)) :=
  fn_gives_at (P := Try.prog) (X := rulesM _) (env := []) trivial Try.func24 0 (oL [(7, { ch := 0, hi := fun _ => 0, ex := 7, av := fun _ => .v (.bool true) }), (11, wF), (14, wF), (18, shO lg (2 ^ lg)), (22, wT)]) (by kernel_rfl) ⟨_, rfl⟩
    (And.intro (show decide (((2 ^ lg : Nat) : Int) < ((gs.length : Nat) : Int)) = true from decide_eq_true (by omega))
    (And.intro (show ((lg : Nat) : Int) = ((lg : Nat) : Int) ∧ IntKind.i64.wrap (1 * 2 ^ min lg IntKind.i64.bits) = ((2 ^ lg : Nat) : Int) from ⟨rfl, sh_num lg hl⟩)
    (And.intro (show decide (((lg : Nat) : Int) > 16) = false from decide_eq_false (by omega))
    (And.intro (show decide (((lg : Nat) : Int) < 0) = false from decide_eq_false (by omega))
    (And.intro (show GivesE Try.prog 43 [.ags [.z [.l (gsC gs)] gs.length, .c (.c (.int .i64 pub)), .c (.c (.int .i64 vars))]] (.v (.bool true)) from ⟨fun vs w => Go.Proofs.enters_of (P := Try.prog) Try.func43 (by kernel_rfl) rfl vs w, cr_yes gs pub vars h⟩) trivial)))))
theorem ck4 (gs : List GT) (pub vars : Int) (hm : gs.length ≤ 9223372036854775807) (lg : Nat) (hl : lg ≤ 16) (h : rightC gs pub vars) (h3 : ¬ 2 ^ lg < gs.length) : Gives Try.prog 24 [.ags [.z [.l (gsC gs)] gs.length, .c (.c (.int .i64 pub)), .c (.c (.int .i64 vars))], .t (.v (.int .i64 ((lg : Nat) : Int)))] (.v (.int .i64 0)) :=
  fn_gives_at (P := Try.prog) (X := rulesM _) (env := []) trivial Try.func24 0 (oL [(7, { ch := 0, hi := fun _ => 0, ex := 7, av := fun _ => .v (.bool true) }), (11, wF), (14, wF), (18, shO lg (2 ^ lg)), (22, wF)]) (by kernel_rfl) ⟨_, rfl⟩
    (And.intro (show decide (((2 ^ lg : Nat) : Int) < ((gs.length : Nat) : Int)) = false from decide_eq_false (by omega))
    (And.intro (show ((lg : Nat) : Int) = ((lg : Nat) : Int) ∧ IntKind.i64.wrap (1 * 2 ^ min lg IntKind.i64.bits) = ((2 ^ lg : Nat) : Int) from ⟨rfl, sh_num lg hl⟩)
    (And.intro (show decide (((lg : Nat) : Int) > 16) = false from decide_eq_false (by omega))
    (And.intro (show decide (((lg : Nat) : Int) < 0) = false from decide_eq_false (by omega))
    (And.intro (show GivesE Try.prog 43 [.ags [.z [.l (gsC gs)] gs.length, .c (.c (.int .i64 pub)), .c (.c (.int .i64 vars))]] (.v (.bool true)) from ⟨fun vs w => Go.Proofs.enters_of (P := Try.prog) Try.func43 (by kernel_rfl) rfl vs w, cr_yes gs pub vars h⟩) trivial)))))
theorem ck_e (gs : List GT) (pub vars : Int) (hm : gs.length ≤ 9223372036854775807) (log : Int) : GivesE Try.prog 24 [.ags [.z [.l (gsC gs)] gs.length, .c (.c (.int .i64 pub)), .c (.c (.int .i64 vars))], .t (.v (.int .i64 log))] (.v (.int .i64 (ckE gs pub vars log))) := by
  refine ⟨fun args w => Go.Proofs.enters_of (P := Try.prog) Try.func24 (by kernel_rfl) rfl args w, ?_⟩
  unfold ckE
  by_cases h : rightC gs pub vars
  · rw [if_pos h]
    by_cases h1 : log < 0
    · rw [if_neg (fun e => by have := e.1; omega)]; exact ck1 gs pub vars hm log h h1
    · by_cases h2 : log > 16
      · rw [if_neg (fun e => by have := e.2.1; omega)]; exact ck2 gs pub vars hm log h h1 h2
      · obtain ⟨lg, rfl⟩ := Int.eq_ofNat_of_zero_le (show 0 ≤ log by omega)
        by_cases h3 : 2 ^ lg < gs.length
        · rw [if_neg (fun e => by have := e.2.2; rw [Int.toNat_natCast] at this; omega)]; exact ck3 gs pub vars hm lg (by omega) h h3
        · rw [if_pos ⟨by omega, by omega, by rw [Int.toNat_natCast]; omega⟩]; exact ck4 gs pub vars hm lg (by omega) h h3
  · rw [if_neg h]; exact ck0 gs pub vars hm log h
theorem rk0 (gs : List GT) (pub vars : Int) (hm : gs.length ≤ 9223372036854775807) (log : Int) (h : ¬ rightC gs pub vars) : Gives Try.prog 11 [.ags [.z [.l (gsC gs)] gs.length, .c (.c (.int .i64 pub)), .c (.c (.int .i64 vars))], .t (.v (.int .i64 log))] (.v (.int .i64 1)) :=
  fn_gives_at (P := Try.prog) (X := rulesM _) (env := []) trivial Try.func11 0 (oL [(7, { ch := 0, hi := fun _ => 0, ex := 7, av := fun _ => .v (.bool false) })]) (by kernel_rfl) ⟨_, rfl⟩
    (And.intro (show GivesE Try.prog 28 [.ags [.z [.l (gsC gs)] gs.length, .c (.c (.int .i64 pub)), .c (.c (.int .i64 vars))]] (.v (.bool false)) from ⟨fun vs w => Go.Proofs.enters_of (P := Try.prog) Try.func28 (by kernel_rfl) rfl vs w, r18_no gs pub vars hm h⟩) trivial)
theorem rk1 (gs : List GT) (pub vars : Int) (hm : gs.length ≤ 9223372036854775807) (log : Int) (h : rightC gs pub vars) (h1 : log < 0) : Gives Try.prog 11 [.ags [.z [.l (gsC gs)] gs.length, .c (.c (.int .i64 pub)), .c (.c (.int .i64 vars))], .t (.v (.int .i64 log))] (.v (.int .i64 40)) :=
  fn_gives_at (P := Try.prog) (X := rulesM _) (env := []) trivial Try.func11 0 (oL [(7, { ch := 0, hi := fun _ => 0, ex := 7, av := fun _ => .v (.bool true) }), (10, wT)]) (by kernel_rfl) ⟨_, rfl⟩
    (And.intro (show decide (log < 0) = true from decide_eq_true h1)
    (And.intro (show GivesE Try.prog 28 [.ags [.z [.l (gsC gs)] gs.length, .c (.c (.int .i64 pub)), .c (.c (.int .i64 vars))]] (.v (.bool true)) from ⟨fun vs w => Go.Proofs.enters_of (P := Try.prog) Try.func28 (by kernel_rfl) rfl vs w, r18_yes gs pub vars hm h⟩) trivial))
theorem rk2 (gs : List GT) (pub vars : Int) (hm : gs.length ≤ 9223372036854775807) (log : Int) (h : rightC gs pub vars) (h1 : ¬ log < 0) (h2 : log > 16) : Gives Try.prog 11 [.ags [.z [.l (gsC gs)] gs.length, .c (.c (.int .i64 pub)), .c (.c (.int .i64 vars))], .t (.v (.int .i64 log))] (.v (.int .i64 40)) :=
  fn_gives_at (P := Try.prog) (X := rulesM _) (env := []) trivial Try.func11 0 (oL [(7, { ch := 0, hi := fun _ => 0, ex := 7, av := fun _ => .v (.bool true) }), (10, wF), (13, wT)]) (by kernel_rfl) ⟨_, rfl⟩
    (And.intro (show decide (log > 16) = true from decide_eq_true h2)
    (And.intro (show decide (log < 0) = false from decide_eq_false h1)
    (And.intro (show GivesE Try.prog 28 [.ags [.z [.l (gsC gs)] gs.length, .c (.c (.int .i64 pub)), .c (.c (.int .i64 vars))]] (.v (.bool true)) from ⟨fun vs w => Go.Proofs.enters_of (P := Try.prog) Try.func28 (by kernel_rfl) rfl vs w, r18_yes gs pub vars hm h⟩) trivial)))
theorem rk3 (gs : List GT) (pub vars : Int) (hm : gs.length ≤ 9223372036854775807) (lg : Nat) (hl : lg ≤ 16) (h : rightC gs pub vars) (h3 : 2 ^ lg < gs.length) : Gives Try.prog 11 [.ags [.z [.l (gsC gs)] gs.length, .c (.c (.int .i64 pub)), .c (.c (.int .i64 vars))], .t (.v (.int .i64 ((lg : Nat) : Int)))] (.v (.int .i64 40)) :=
  fn_gives_at (P := Try.prog) (X := rulesM _) (env := []) trivial Try.func11 0 (oL [(7, { ch := 0, hi := fun _ => 0, ex := 7, av := fun _ => .v (.bool true) }), (10, wF), (13, wF), (18, shO lg (2 ^ lg)), (22, wT)]) (by kernel_rfl) ⟨_, rfl⟩
    (And.intro (show decide (((2 ^ lg : Nat) : Int) < ((gs.length : Nat) : Int)) = true from decide_eq_true (by omega))
    (And.intro (show IntKind.u64.wrap ((lg : Nat) : Int) = ((lg : Nat) : Int) ∧ IntKind.i64.wrap (1 * 2 ^ min lg IntKind.i64.bits) = ((2 ^ lg : Nat) : Int) from ⟨wrap_u lg hl, sh_num lg hl⟩)
    (And.intro (show decide (((lg : Nat) : Int) > 16) = false from decide_eq_false (by omega))
    (And.intro (show decide (((lg : Nat) : Int) < 0) = false from decide_eq_false (by omega))
    (And.intro (show GivesE Try.prog 28 [.ags [.z [.l (gsC gs)] gs.length, .c (.c (.int .i64 pub)), .c (.c (.int .i64 vars))]] (.v (.bool true)) from ⟨fun vs w => Go.Proofs.enters_of (P := Try.prog) Try.func28 (by kernel_rfl) rfl vs w, r18_yes gs pub vars hm h⟩) trivial)))))
theorem rk4 (gs : List GT) (pub vars : Int) (hm : gs.length ≤ 9223372036854775807) (lg : Nat) (hl : lg ≤ 16) (h : rightC gs pub vars) (h3 : ¬ 2 ^ lg < gs.length) : Gives Try.prog 11 [.ags [.z [.l (gsC gs)] gs.length, .c (.c (.int .i64 pub)), .c (.c (.int .i64 vars))], .t (.v (.int .i64 ((lg : Nat) : Int)))] (.v (.int .i64 0)) :=
  fn_gives_at (P := Try.prog) (X := rulesM _) (env := []) trivial Try.func11 0 (oL [(7, { ch := 0, hi := fun _ => 0, ex := 7, av := fun _ => .v (.bool true) }), (10, wF), (13, wF), (18, shO lg (2 ^ lg)), (22, wF)]) (by kernel_rfl) ⟨_, rfl⟩
    (And.intro (show decide (((2 ^ lg : Nat) : Int) < ((gs.length : Nat) : Int)) = false from decide_eq_false (by omega))
    (And.intro (show IntKind.u64.wrap ((lg : Nat) : Int) = ((lg : Nat) : Int) ∧ IntKind.i64.wrap (1 * 2 ^ min lg IntKind.i64.bits) = ((2 ^ lg : Nat) : Int) from ⟨wrap_u lg hl, sh_num lg hl⟩)
    (And.intro (show decide (((lg : Nat) : Int) > 16) = false from decide_eq_false (by omega))
    (And.intro (show decide (((lg : Nat) : Int) < 0) = false from decide_eq_false (by omega))
    (And.intro (show GivesE Try.prog 28 [.ags [.z [.l (gsC gs)] gs.length, .c (.c (.int .i64 pub)), .c (.c (.int .i64 vars))]] (.v (.bool true)) from ⟨fun vs w => Go.Proofs.enters_of (P := Try.prog) Try.func28 (by kernel_rfl) rfl vs w, r18_yes gs pub vars hm h⟩) trivial)))))
theorem rk_e (gs : List GT) (pub vars : Int) (hm : gs.length ≤ 9223372036854775807) (log : Int) : GivesE Try.prog 11 [.ags [.z [.l (gsC gs)] gs.length, .c (.c (.int .i64 pub)), .c (.c (.int .i64 vars))], .t (.v (.int .i64 log))] (.v (.int .i64 (ckE gs pub vars log))) := by
  refine ⟨fun args w => Go.Proofs.enters_of (P := Try.prog) Try.func11 (by kernel_rfl) rfl args w, ?_⟩
  unfold ckE
  by_cases h : rightC gs pub vars
  · rw [if_pos h]
    by_cases h1 : log < 0
    · rw [if_neg (fun e => by have := e.1; omega)]; exact rk1 gs pub vars hm log h h1
    · by_cases h2 : log > 16
      · rw [if_neg (fun e => by have := e.2.1; omega)]; exact rk2 gs pub vars hm log h h1 h2
      · obtain ⟨lg, rfl⟩ := Int.eq_ofNat_of_zero_le (show 0 ≤ log by omega)
        by_cases h3 : 2 ^ lg < gs.length
        · rw [if_neg (fun e => by have := e.2.2; rw [Int.toNat_natCast] at this; omega)]; exact rk3 gs pub vars hm lg (by omega) h h3
        · rw [if_pos ⟨by omega, by omega, by rw [Int.toNat_natCast]; omega⟩]; exact rk4 gs pub vars hm lg (by omega) h h3
  · rw [if_neg h]; exact rk0 gs pub vars hm log h
end Go.Proofs.Ytoigbjimhcgolaa

/- chirographref19.Behind: what comes behind a place. -/
set_option linter.unusedSimpArgs false
set_option linter.unusedVariables false
namespace Go.Proofs.Ytoigbjimhcgolaa
open Go.Ev Go.RowKit
theorem pl_div {w r n : Nat} (h : r < n) : (w * n + r) / n = w ∧ (w * n + r) % n = r := by
  have hn : 0 < n := by omega
  refine ⟨?_, ?_⟩
  · rw [Nat.add_comm, Nat.add_mul_div_right _ _ hn, Nat.div_eq_of_lt h, Nat.zero_add]
  · rw [Nat.mul_add_mod', Nat.mod_eq_of_lt h]
theorem pl_lt3 {x n : Nat} (h : x < 3 * n) : x / n < 3 ∧ x % n < n := by
  have hn : 0 < n := by omega
  exact ⟨(Nat.div_lt_iff_lt_mul hn).2 h, Nat.mod_lt _ hn⟩
theorem pl_eq {x n : Nat} : x / n * n + x % n = x := by rw [Nat.mul_comm]; exact Nat.div_add_mod x n
theorem r_next {r : Nat} (h : r < 1000000) : IntKind.i64.wrap (((r : Nat) : Int) + 1) = ((r + 1 : Nat) : Int) := by rw [wrap_i64]; omega
theorem least_of (p : Nat → Prop) [DecidablePred p] (n : Nat) (h : p n) : ∃ s, s ≤ n ∧ p s ∧ ∀ u, u < s → ¬ p u := by
  induction n with
  | zero => exact ⟨0, Nat.le_refl _, h, fun u hu => by omega⟩
  | succ n ih =>
    by_cases h1 : ∃ s, s ≤ n ∧ p s
    · obtain ⟨s, h2, h3⟩ := h1
      clear ih h
      induction s using Nat.strongRecOn with
      | ind s ih =>
        by_cases h4 : ∃ u, u < s ∧ p u
        · obtain ⟨u, h5, h6⟩ := h4
          exact ih u h5 (by omega) h6
        · exact ⟨s, by omega, h3, fun u hu hp => h4 ⟨u, hu, hp⟩⟩
    · exact ⟨n + 1, Nat.le_refl _, h, fun u hu hp => h1 ⟨u, by omega, hp⟩⟩
end Go.Proofs.Ytoigbjimhcgolaa

/- core.S.IsZero. -/
set_option linter.unusedSimpArgs false
set_option linter.unusedVariables false
namespace Go.Proofs.Ytoigbjimhcgolaa
open Go.Ev Go.RowKit
theorem toS_inj {x y : Fin Rr} (h : toS x = toS y) : x = y := by
  have e : ∀ z : Fin Rr, toS z = (z * ⟨115792089237316195423570985008687907853269984665640564039457584007913129639936 % Rr, Nat.mod_lt _ (by decide)⟩).val := fun z => by
    unfold toS
    rw [Fin.val_mul]
    show _ = z.val * (115792089237316195423570985008687907853269984665640564039457584007913129639936 % Rr) % Rr
    rw [Nat.mul_mod, Nat.mul_mod z.val (_ % Rr), Nat.mod_mod]
  rw [e, e] at h
  have h1 := Fin.ext h
  have h0 : (⟨115792089237316195423570985008687907853269984665640564039457584007913129639936 % Rr, Nat.mod_lt _ (by decide)⟩ : Fin Rr) ≠ 0 := by decide
  generalize (⟨115792089237316195423570985008687907853269984665640564039457584007913129639936 % Rr, Nat.mod_lt _ (by decide)⟩ : Fin Rr) = c at *
  have hi := mul_invS h0
  generalize pwS c _ = d at hi
  have hx : x = (x * c) * d := by
    have : (x * c) * d = x * (c * d) := by grind
    rw [this, hi]; grind
  have hy : y = (y * c) * d := by
    have : (y * c) * d = y * (c * d) := by grind
    rw [this, hi]; grind
  rw [hx, hy, h1]
theorem flat_s_inj {x y : Fin Rr} (h : flat [.s x] = flat [.s y]) : x = y := by
  have h' : limbs 4 (toS x) ++ [] = limbs 4 (toS y) ++ [] := h
  rw [List.append_nil, List.append_nil] at h'
  exact toS_inj (limbs_inj 4 _ _ (Nat.lt_trans (Nat.mod_lt _ (by decide)) (show Rr < _ by decide)) (Nat.lt_trans (Nat.mod_lt _ (by decide)) (show Rr < _ by decide)) h')
theorem zero_s : flat [.s (0 : Fin Rr)] = flat [.c (.int .u64 0), .c (.int .u64 0), .c (.int .u64 0), .c (.int .u64 0)] := by kernel_rfl
theorem isZeS_0 (a : Fin Rr) (h : a = 0) : Gives Try.prog 36 [.t (.ag [.s a])] (.v (.bool true)) := fn_gives (P := Try.prog) (env := []) trivial Try.func36 0 (oN [] [(4, 0)]) (by kernel_rfl) (And.intro (show flat [.s a] = flat [.c (.int .u64 0), .c (.int .u64 0), .c (.int .u64 0), .c (.int .u64 0)] from by rw [h]; exact zero_s) trivial)
theorem isZeS_1 (a : Fin Rr) (h : a ≠ 0) : Gives Try.prog 36 [.t (.ag [.s a])] (.v (.bool false)) := fn_gives (P := Try.prog) (env := []) trivial Try.func36 0 (oN [] [(4, 1)]) (by kernel_rfl) (And.intro (show ¬ flat [.s a] = flat [.c (.int .u64 0), .c (.int .u64 0), .c (.int .u64 0), .c (.int .u64 0)] from fun e => h (flat_s_inj (e.trans zero_s.symm))) trivial)
def eIsZeS : Entry := entry1 36 parS.x (fun a => [(some (a = 0), .v (.bool true)), (some (a ≠ 0), .v (.bool false))])
theorem eIsZeS_ok : eIsZeS.OK Try.prog := entry1_ok (fun args w => Go.Proofs.enters_of (P := Try.prog) Try.func36 (by kernel_rfl) rfl args w) (fun a c r hm hc => by
  simp only [List.mem_cons, Prod.mk.injEq, List.not_mem_nil, or_false] at hm
  rcases hm with ⟨rfl, rfl⟩ | ⟨rfl, rfl⟩
  · exact isZeS_0 a hc
  · exact isZeS_1 a hc)
end Go.Proofs.Ytoigbjimhcgolaa

/- Rows of elements; fr.each. -/
set_option linter.unusedSimpArgs false
set_option linter.unusedVariables false
namespace Go.Proofs.Ytoigbjimhcgolaa
open Go.Ev Go.RowKit

def sC (x : Fin Rr) : List Value := flat [.s x]
def eC (x : Fin Rr) : List Value := flat [.e x]
theorem sC_len (x : Fin Rr) : (sC x).length = 4 := by simp [sC, flat, Ch.cells, limbs_length]
theorem eC_len (x : Fin Rr) : (eC x).length = 4 := by simp [eC, flat, Ch.cells, limbs_length]
/-- Rows: what f says at the first n places. -/
def tab (g : Fin Rr → List Value) (n : Nat) (f : Nat → Fin Rr) : List Value := ((List.range n).map f).flatMap g
theorem tab_len (g : Fin Rr → List Value) (hg : ∀ x, (g x).length = 4) (n : Nat) (f : Nat → Fin Rr) : (tab g n f).length = n * 4 := by
  unfold tab
  induction n with
  | zero => rfl
  | succ n ih => rw [List.range_succ, List.map_append, List.flatMap_append, List.length_append, ih]; simp [hg]; omega
theorem tab_congr (g : Fin Rr → List Value) (n : Nat) (f f' : Nat → Fin Rr) (h : ∀ j, j < n → f j = f' j) : tab g n f = tab g n f' := by
  unfold tab
  rw [List.map_congr_left (fun j hj => h j (List.mem_range.1 hj))]
theorem tab_split (g : Fin Rr → List Value) (hg : ∀ x, (g x).length = 4) (n : Nat) (f : Nat → Fin Rr) (i : Nat) (hi : i < n) : ∃ a b, tab g n f = a ++ g (f i) ++ b ∧ a.length = i * 4 ∧ a = tab g i f ∧ b = ((List.range' (i + 1) (n - i - 1)).map f).flatMap g := by
  refine ⟨tab g i f, ((List.range' (i + 1) (n - i - 1)).map f).flatMap g, ?_, tab_len g hg i f, rfl, rfl⟩
  unfold tab
  have e : List.range n = List.range i ++ ([i] ++ List.range' (i + 1) (n - i - 1)) := by
    rw [List.range_eq_range', List.range_eq_range']
    have h1 : List.range' 0 n = List.range' 0 i ++ List.range' i (n - i) := by
      have := List.range'_append_1 (s := 0) (m := i) (n := n - i)
      rw [Nat.zero_add] at this
      rw [this]; congr 1; omega
    have h2 : List.range' i (n - i) = [i] ++ List.range' (i + 1) (n - i - 1) := by
      rw [show n - i = (n - i - 1) + 1 by omega, List.range'_succ]
      simp
    rw [h1, h2]
  rw [e]
  simp
/-- Row i. -/
theorem tab_at (g : Fin Rr → List Value) (hg : ∀ x, (g x).length = 4) (n : Nat) (f : Nat → Fin Rr) (i : Nat) (hi : i < n) : ((tab g n f).drop (i * 4)).take 4 = g (f i) := by
  obtain ⟨a, b, e, h, _, _⟩ := tab_split g hg n f i hi
  rw [e, ← h, List.append_assoc, List.drop_left, ← hg (f i), List.take_left]
/-- A row is laid anew. -/
def stOK (B B' : List Value) (i : Nat) (r : List Value) : Prop := i * 4 + 4 ≤ B.length ∧ B' = B.take (i * 4) ++ r ++ B.drop (i * 4 + 4)
theorem tab_set (g : Fin Rr → List Value) (hg : ∀ x, (g x).length = 4) (n : Nat) (f f' : Nat → Fin Rr) (i : Nat) (hi : i < n) (x : Fin Rr) (h1 : f' i = x) (h2 : ∀ j, j ≠ i → f' j = f j) : stOK (tab g n f) (tab g n f') i (g x) := by
  refine ⟨by rw [tab_len g hg]; omega, ?_⟩
  obtain ⟨a, b, e, h, ha, hb⟩ := tab_split g hg n f i hi
  obtain ⟨a', b', e', h', ha', hb'⟩ := tab_split g hg n f' i hi
  have e1 : a' = a := by rw [ha, ha']; exact tab_congr g i _ _ (fun j hj => h2 j (by omega))
  have e2 : b' = b := by
    rw [hb, hb']
    congr 1
    exact List.map_congr_left (fun j hj => h2 j (by have := List.mem_range'_1.1 hj; omega))
  have t1 : (a ++ g (f i) ++ b).take (i * 4) = a := by rw [← h, List.append_assoc, List.take_left]
  have t2 : (a ++ g (f i) ++ b).drop (i * 4 + 4) = b := by rw [show i * 4 + 4 = (a ++ g (f i)).length by rw [List.length_append, hg, h], List.drop_left]
  rw [e, e', e1, e2, h1, t1, t2]
theorem step_ite {f : Nat → Fin Rr} {i : Nat} (j : Nat) (hj : j ≠ i) : (if j < i + 1 then f j else 0) = if j < i then f j else 0 := by
  by_cases h : j < i
  · rw [if_pos h, if_pos (by omega)]
  · rw [if_neg h, if_neg (by omega)]
theorem st_cond {B B' : List Value} {i : Nat} {p : List Ch} (h : stOK B B' i (flat p)) (hp : sizes p = 4) : (0 + i * 4) + sizes p ≤ (flat [.l B]).length ∧ flat [.l B'] = (flat [.l B]).take (0 + i * 4) ++ flat p ++ (flat [.l B]).drop ((0 + i * 4) + sizes p) := by
  rw [flat_l, flat_l, hp, Nat.zero_add]
  exact h
theorem ld_cond {B : List Value} {i : Nat} {p : List Ch} (h : (B.drop (i * 4)).take 4 = flat p) (hp : sizes p = 4) : sizes p = 4 ∧ ((flat [.l B]).drop (0 + i * 4)).take 4 = flat p := by
  rw [flat_l, Nat.zero_add]
  exact ⟨hp, h⟩
theorem tab_zero (g : Fin Rr → List Value) (hg : g 0 = List.replicate 4 (.int .u64 0)) (n : Nat) : tab g n (fun _ => 0) = List.replicate (n * 4) (.int .u64 0) := by
  unfold tab
  induction n with
  | zero => rfl
  | succ n ih => rw [List.range_succ, List.map_append, List.flatMap_append, ih, Nat.add_mul, ← List.replicate_append_replicate]; simp [hg]
theorem sC_zero : sC 0 = List.replicate 4 (.int .u64 0) := by kernel_rfl
theorem eC_zero : eC 0 = List.replicate 4 (.int .u64 0) := by kernel_rfl
theorem mk_cond (g : Fin Rr → List Value) (hg : g 0 = List.replicate 4 (.int .u64 0)) (n : Nat) (hn : n ≤ 1000000) : (n : Int) = ((n : Nat) : Int) ∧ (n : Int) = ((n : Nat) : Int) ∧ 32 * n ≤ 281474976710656 ∧ n ≤ 9223372036854775807 ∧ flat [.l (tab g n (fun _ => 0))] = zerosL [.int .u64 0, .int .u64 0, .int .u64 0, .int .u64 0] (n * 4) := by
  refine ⟨rfl, rfl, by omega, by omega, ?_⟩
  rw [flat_l, tab_zero g hg]
  exact (zerosL_rep (.int .u64 0) 3 (n * 4)).symm
end Go.Proofs.Ytoigbjimhcgolaa
