/- Pruned: Ib. -/
import Derived.Test.YtoigbjimhcgolaaQGf
import Derived.Test.YtoigbjimhcgolaaQIa
import Derived.Test.YtoigbjimhcgolaaQZhPwS
import Derived.Test.YtoigbjimhcgolaaQHb
import Derived.Test.YtoigbjimhcgolaaQGa
import Derived.Test.YtoigbjimhcgolaaQHa
/- chirographref19: a place's variable, what comes behind a place. -/
set_option linter.unusedSimpArgs false
set_option linter.unusedVariables false
namespace Go.Proofs.Ytoigbjimhcgolaa
open Go.Ev Go.RowKit
/-- The variable of a gate's wire, of a place; -1: none. -/
def wv (g : GT) (w : Nat) : Int := match w with | 0 => g.w0 | 1 => g.w1 | _ => g.w2
def wAt (gs : List GT) (r w : Nat) : Int := match gs[r]? with | some g => wv g w | none => -1
/-- .. by its number among n rows of each wire. -/
def vf (gs : List GT) (n q : Nat) : Int := wAt gs (q % n) (q / n)
theorem wire_cell (gs : List GT) (i : Nat) (g : GT) (h : gs[i]? = some g) (w : Nat) (hw : w < 3) : (flat [.l (gsC gs)])[i * 23 + 20 + w]? = some (.int .i64 (wv g w)) := by
  obtain ⟨_, e⟩ := gate_at gs i g h
  have e2 : (((flat [.l (gsC gs)]).drop (i * 23)).take 23)[20 + w]? = (flat (gP g))[20 + w]? := by rw [e]
  rw [List.getElem?_take, if_pos (by omega), List.getElem?_drop] at e2
  rw [show i * 23 + 20 + w = i * 23 + (20 + w) by omega, e2]
  have e3 : flat (gP g) = limbs 4 g.q0 ++ (limbs 4 g.q1 ++ (limbs 4 g.q2 ++ (limbs 4 g.q3 ++ (limbs 4 g.q4 ++ [.int .i64 g.w0, .int .i64 g.w1, .int .i64 g.w2])))) := by
    simp [gP, flat, Ch.cells]
  rw [e3]
  have hl : ∀ x, (limbs 4 x).length = 4 := fun x => limbs_length 4 x
  rw [List.getElem?_append_right (by rw [hl]; omega), List.getElem?_append_right (by simp only [hl]; omega), List.getElem?_append_right (by simp only [hl]; omega), List.getElem?_append_right (by simp only [hl]; omega), List.getElem?_append_right (by simp only [hl]; omega)]
  simp only [hl]
  rcases (show w = 0 ∨ w = 1 ∨ w = 2 by omega) with rfl | rfl | rfl <;> rfl
theorem wire_in0 (gs : List GT) (pub vars : Int) (i : Nat) (g : GT) (hg : gs[i]? = some g) : Gives Try.prog 31 [.ags [.z [.l (gsC gs)] gs.length, .c (.c (.int .i64 pub)), .c (.c (.int .i64 vars))], .t (.ag [.c (.int .i64 ((i : Nat) : Int)), .c (.int .i64 (0))])] (.v (.int .i64 (wv g 0))) :=
  fn_gives_at (P := Try.prog) (X := rulesM _) (env := []) trivial Try.func31 0 (oL [(12, wF), (19, rO 14 i), (22, { ch := 0, hi := fun _ => 0, ru := 8, av := fun _ => .v (.int .i64 (wv g 0)) })]) (by kernel_rfl) ⟨_, rfl⟩
    (And.intro (show (flat [.l (gsC gs)])[i * 23 + 20 + 0]? = some (.int .i64 (wv g 0)) from wire_cell gs i g hg 0 (by decide))
    (And.intro (show ((i : Nat) : Int) = ((i : Nat) : Int) ∧ i < gs.length from ⟨rfl, glt hg⟩)
    (And.intro (show decide (((i : Nat) : Int) ≥ ((gs.length : Nat) : Int)) = false from decide_eq_false (by have := glt hg; omega)) trivial)))
theorem wire_in1 (gs : List GT) (pub vars : Int) (i : Nat) (g : GT) (hg : gs[i]? = some g) : Gives Try.prog 31 [.ags [.z [.l (gsC gs)] gs.length, .c (.c (.int .i64 pub)), .c (.c (.int .i64 vars))], .t (.ag [.c (.int .i64 ((i : Nat) : Int)), .c (.int .i64 (1))])] (.v (.int .i64 (wv g 1))) :=
  fn_gives_at (P := Try.prog) (X := rulesM _) (env := []) trivial Try.func31 0 (oL [(12, wF), (19, rO 14 i), (22, { ch := 0, hi := fun _ => 0, ru := 8, av := fun _ => .v (.int .i64 (wv g 1)) })]) (by kernel_rfl) ⟨_, rfl⟩
    (And.intro (show (flat [.l (gsC gs)])[i * 23 + 20 + 1]? = some (.int .i64 (wv g 1)) from wire_cell gs i g hg 1 (by decide))
    (And.intro (show ((i : Nat) : Int) = ((i : Nat) : Int) ∧ i < gs.length from ⟨rfl, glt hg⟩)
    (And.intro (show decide (((i : Nat) : Int) ≥ ((gs.length : Nat) : Int)) = false from decide_eq_false (by have := glt hg; omega)) trivial)))
theorem wire_in2 (gs : List GT) (pub vars : Int) (i : Nat) (g : GT) (hg : gs[i]? = some g) : Gives Try.prog 31 [.ags [.z [.l (gsC gs)] gs.length, .c (.c (.int .i64 pub)), .c (.c (.int .i64 vars))], .t (.ag [.c (.int .i64 ((i : Nat) : Int)), .c (.int .i64 (2))])] (.v (.int .i64 (wv g 2))) :=
  fn_gives_at (P := Try.prog) (X := rulesM _) (env := []) trivial Try.func31 0 (oL [(12, wF), (19, rO 14 i), (22, { ch := 0, hi := fun _ => 0, ru := 8, av := fun _ => .v (.int .i64 (wv g 2)) })]) (by kernel_rfl) ⟨_, rfl⟩
    (And.intro (show (flat [.l (gsC gs)])[i * 23 + 20 + 2]? = some (.int .i64 (wv g 2)) from wire_cell gs i g hg 2 (by decide))
    (And.intro (show ((i : Nat) : Int) = ((i : Nat) : Int) ∧ i < gs.length from ⟨rfl, glt hg⟩)
    (And.intro (show decide (((i : Nat) : Int) ≥ ((gs.length : Nat) : Int)) = false from decide_eq_false (by have := glt hg; omega)) trivial)))
theorem wire_out (gs : List GT) (pub vars z w : Int) (h : z ≥ ((gs.length : Nat) : Int)) : Gives Try.prog 31 [.ags [.z [.l (gsC gs)] gs.length, .c (.c (.int .i64 pub)), .c (.c (.int .i64 vars))], .t (.ag [.c (.int .i64 (z)), .c (.int .i64 (w))])] (.v (.int .i64 (-1))) :=
  fn_gives_at (P := Try.prog) (X := rulesM _) (env := []) trivial Try.func31 0 (oL [(12, wT)]) (by kernel_rfl) ⟨_, rfl⟩
    (And.intro (show decide (z ≥ ((gs.length : Nat) : Int)) = true from decide_eq_true h) trivial)
theorem wire_e (gs : List GT) (pub vars : Int) (r w : Nat) (hw : w < 3) : GivesE Try.prog 31 [.ags [.z [.l (gsC gs)] gs.length, .c (.c (.int .i64 pub)), .c (.c (.int .i64 vars))], .t (.ag [.c (.int .i64 ((r : Nat) : Int)), .c (.int .i64 ((w : Nat) : Int))])] (.v (.int .i64 (wAt gs r w))) := by
  refine ⟨fun args w => Go.Proofs.enters_of (P := Try.prog) Try.func31 (by kernel_rfl) rfl args w, ?_⟩
  unfold wAt
  cases e : gs[r]? with
  | some g => rcases (show w = 0 ∨ w = 1 ∨ w = 2 by omega) with rfl | rfl | rfl
              · exact wire_in0 gs pub vars r g e
              · exact wire_in1 gs pub vars r g e
              · exact wire_in2 gs pub vars r g e
  | none => exact wire_out gs pub vars _ _ (by have := List.getElem?_eq_none_iff.1 e; omega)
instance (gs : List GT) (pub vars : Int) : Decidable (rightC gs pub vars) := by unfold rightC; infer_instance
/-- May a log be, with so many gates? -/
def okLog (gs : List GT) (log : Int) : Prop := 0 ≤ log ∧ log ≤ 16 ∧ gs.length ≤ 2 ^ log.toNat
instance (gs : List GT) (log : Int) : Decidable (okLog gs log) := by unfold okLog; infer_instance
def ckE (gs : List GT) (pub vars log : Int) : Int := if rightC gs pub vars then if okLog gs log then 0 else 40 else 1
theorem sh_num (lg : Nat) (h : lg ≤ 16) : IntKind.i64.wrap (1 * 2 ^ min lg IntKind.i64.bits) = ((2 ^ lg : Nat) : Int) := by
  have : ∀ x : Fin 17, IntKind.i64.wrap (1 * 2 ^ min x.val IntKind.i64.bits) = ((2 ^ x.val : Nat) : Int) := by decide +kernel
  exact this ⟨lg, by omega⟩
theorem wrap_u (lg : Nat) (h : lg ≤ 16) : IntKind.u64.wrap ((lg : Nat) : Int) = ((lg : Nat) : Int) := by rw [wrap_u64]; omega
theorem ck0 (gs : List GT) (pub vars : Int) (hm : gs.length ≤ 9223372036854775807) (log : Int) (h : ¬ rightC gs pub vars) : Gives Try.prog 24 [.ags [.z [.l (gsC gs)] gs.length, .c (.c (.int .i64 pub)), .c (.c (.int .i64 vars))], .t (.v (.int .i64 log))] (.v (.int .i64 1)) :=
  fn_gives_at (P := Try.prog) (X := rulesM _) (env := []) trivial Try.func24 0 (oL [(7, { ch := 0, hi := fun _ => 0, ex := 7, av := fun _ => .v (.bool false) })]) (by kernel_rfl) ⟨_, rfl⟩
    (And.intro (show GivesE Try.prog 43 [.ags [.z [.l (gsC gs)] gs.length, .c (.c (.int .i64 pub)), .c (.c (.int .i64 vars))]] (.v (.bool false)) from ⟨fun vs w => Go.Proofs.enters_of (P := Try.prog) Try.func43 (by kernel_rfl) rfl vs w, cr_no gs pub vars h⟩) trivial)
theorem ck1 (gs : List GT) (pub vars : Int) (hm : gs.length ≤ 9223372036854775807) (log : Int) (h : rightC gs pub vars) (h1 : log < 0) : Gives Try.prog 24 [.ags [.z [.l (gsC gs)] gs.length, .c (.c (.int .i64 pub)), .c (.c (.int .i64 vars))], .t (.v (.int .i64 log))] (.v (.int .i64 40)) :=
  fn_gives_at (P := Try.prog) (X := rulesM _) (env := []) trivial Try.func24 0 (oL [(7, { ch := 0, hi := fun _ => 0, ex := 7, av := fun _ => .v (.bool true) }), (11, wT)]) (by kernel_rfl) ⟨_, rfl⟩
    (And.intro (show decide (log < 0) = true from decide_eq_true h1)
    (And.intro (show GivesE Try.prog 43 [.ags [.z [.l (gsC gs)] gs.length, .c (.c (.int .i64 pub)), .c (.c (.int .i64 vars))]] (.v (.bool true)) from ⟨fun vs w => Go.Proofs.enters_of (P := Try.prog) Try.func43 (by kernel_rfl) rfl vs w, cr_yes gs pub vars h⟩) trivial))
theorem ck2 (gs : List GT) (pub vars : Int) (hm : gs.length ≤ 9223372036854775807) (log : Int) (h : rightC gs pub vars) (h1 : ¬ log < 0) (h2 : log > 16) : Gives Try.prog 24 [.ags [.z [.l (gsC gs)] gs.length, .c (.c (.int .i64 pub)), .c (.c (.int .i64 vars))], .t (.v (.int .i64 log))] (.v (.int .i64 40)) :=
  fn_gives_at (P := Try.prog) (X := rulesM _) (env := []) trivial Try.func24 0 (oL [(7, { ch := 0, hi := fun _ => 0, ex := 7, av := fun _ => .v (.bool true) }), (11, wF), (14, wT)]) (by kernel_rfl) ⟨_, rfl⟩
    (And.intro (show decide (log > 16) = true from decide_eq_true h2)
    (And.intro (show decide (log < 0) = false from decide_eq_false h1)
    (And.intro (show GivesE Try.prog 43 [.ags [.z [.l (gsC gs)] gs.length, .c (.c (.int .i64 pub)), .c (.c (.int .i64 vars))]] (.v (.bool true)) from ⟨fun vs w => Go.Proofs.enters_of (P := Try.prog) Try.func43 (by kernel_rfl) rfl vs w, cr_yes gs pub vars h⟩) trivial)))
theorem ck3 (gs : List GT) (pub vars : Int) (hm : gs.length ≤ 9223372036854775807) (lg : Nat) (hl : lg ≤ 16) (h : rightC gs pub vars) (h3 : 2 ^ lg < gs.length) : Gives Try.prog 24 [.ags [.z [.l (gsC gs)] gs.length, .c (.c (.int .i64 pub)), .c (.c (.int .i64 vars))], .t (.v (.int .i64 ((lg : Nat) : Int)))] (.v (.int .i64 40)) :=
  fn_gives_at (P := Try.prog) (X := rulesM _) (env := []) trivial Try.func24 0 (oL [(7, { ch := 0, hi := fun _ => 0, ex := 7, av := fun _ => .v (.bool true) }), (11, wF), (14, wF), (18, shO lg (2 ^ lg)), (22, wT)]) (by kernel_rfl) ⟨_, rfl⟩
    (And.intro (show decide (((2 ^ lg : Nat) : Int) < ((gs.length : Nat) : Int)) = true from decide_eq_true (by omega))
    (And.intro (show ((lg : Nat) : Int) = ((lg : Nat) : Int) ∧ IntKind.i64.wrap (1 * 2 ^ min lg IntKind.i64.bits) = ((2 ^ lg : Nat) : Int) from ⟨rfl, sh_num lg hl⟩)
    (And.intro (show decide (((lg : Nat) : Int) > 16) = false from decide_eq_false (by omega))
    (And.intro (show decide (((lg : Nat) : Int) < 0) = false from decide_eq_false (by omega))
    (And.intro (show GivesE Try.prog 43 [.ags [.z [.l (gsC gs)] gs.length, .c (.c (.int .i64 pub)), .c (.c (.int .i64 vars))]] (.v (.bool true)) from ⟨fun vs w => Go.Proofs.enters_of (P := Try.prog) Try.func43 (by kernel_rfl) rfl vs w, cr_yes gs pub vars h⟩) trivial)))))
theorem ck4 (gs : List GT) (pub vars : Int) (hm : gs.length ≤ 9223372036854775807) (lg : Nat) (hl : lg ≤ 16) (h : rightC gs pub vars) (h3 : ¬ 2 ^ lg < gs.length) : Gives Try.prog 24 [.ags [.z [.l (gsC gs)] gs.length, .c (.c (.int .i64 pub)), .c (.c (.int .i64 vars))], .t (.v (.int .i64 ((lg : Nat) : Int)))] (.v (.int .i64 0)) :=
  fn_gives_at (P := Try.prog) (X := rulesM _) (env := []) trivial Try.func24 0 (oL [(7, { ch := 0, hi := fun _ => 0, ex := 7, av := fun _ => .v (.bool true) }), (11, wF), (14, wF), (18, shO lg (2 ^ lg)), (22, wF)]) (by kernel_rfl) ⟨_, rfl⟩
    (And.intro (show decide (((2 ^ lg : Nat) : Int) < ((gs.length : Nat) : Int)) = false from decide_eq_false (by omega))
    (And.intro (show ((lg : Nat) : Int) = ((lg : Nat) : Int) ∧ IntKind.i64.wrap (1 * 2 ^ min lg IntKind.i64.bits) = ((2 ^ lg : Nat) : Int) from ⟨rfl, sh_num lg hl⟩)
    (And.intro (show decide (((lg : Nat) : Int) > 16) = false from decide_eq_false (by omega))
    (And.intro (show decide (((lg : Nat) : Int) < 0) = false from decide_eq_false (by omega))
    (And.intro (show GivesE Try.prog 43 [.ags [.z [.l (gsC gs)] gs.length, .c (.c (.int .i64 pub)), .c (.c (.int .i64 vars))]] (.v (.bool true)) from ⟨fun vs w => Go.Proofs.enters_of (P := Try.prog) Try.func43 (by kernel_rfl) rfl vs w, cr_yes gs pub vars h⟩) trivial)))))
theorem ck_e (gs : List GT) (pub vars : Int) (hm : gs.length ≤ 9223372036854775807) (log : Int) : GivesE Try.prog 24 [.ags [.z [.l (gsC gs)] gs.length, .c (.c (.int .i64 pub)), .c (.c (.int .i64 vars))], .t (.v (.int .i64 log))] (.v (.int .i64 (ckE gs pub vars log))) := by
  refine ⟨fun args w => Go.Proofs.enters_of (P := Try.prog) Try.func24 (by kernel_rfl) rfl args w, ?_⟩
  unfold ckE
  by_cases h : rightC gs pub vars
  · rw [if_pos h]
    by_cases h1 : log < 0
    · rw [if_neg (fun e => by have := e.1; omega)]; exact ck1 gs pub vars hm log h h1
    · by_cases h2 : log > 16
      · rw [if_neg (fun e => by have := e.2.1; omega)]; exact ck2 gs pub vars hm log h h1 h2
      · obtain ⟨lg, rfl⟩ := Int.eq_ofNat_of_zero_le (show 0 ≤ log by omega)
        by_cases h3 : 2 ^ lg < gs.length
        · rw [if_neg (fun e => by have := e.2.2; rw [Int.toNat_natCast] at this; omega)]; exact ck3 gs pub vars hm lg (by omega) h h3
        · rw [if_pos ⟨by omega, by omega, by rw [Int.toNat_natCast]; omega⟩]; exact ck4 gs pub vars hm lg (by omega) h h3
  · rw [if_neg h]; exact ck0 gs pub vars hm log h
theorem rk0 (gs : List GT) (pub vars : Int) (hm : gs.length ≤ 9223372036854775807) (log : Int) (h : ¬ rightC gs pub vars) : Gives Try.prog 11 [.ags [.z [.l (gsC gs)] gs.length, .c (.c (.int .i64 pub)), .c (.c (.int .i64 vars))], .t (.v (.int .i64 log))] (.v (.int .i64 1)) :=
  fn_gives_at (P := Try.prog) (X := rulesM _) (env := []) trivial Try.func11 0 (oL [(7, { ch := 0, hi := fun _ => 0, ex := 7, av := fun _ => .v (.bool false) })]) (by kernel_rfl) ⟨_, rfl⟩
    (And.intro (show GivesE Try.prog 28 [.ags [.z [.l (gsC gs)] gs.length, .c (.c (.int .i64 pub)), .c (.c (.int .i64 vars))]] (.v (.bool false)) from ⟨fun vs w => Go.Proofs.enters_of (P := Try.prog) Try.func28 (by kernel_rfl) rfl vs w, r18_no gs pub vars hm h⟩) trivial)
theorem rk1 (gs : List GT) (pub vars : Int) (hm : gs.length ≤ 9223372036854775807) (log : Int) (h : rightC gs pub vars) (h1 : log < 0) : Gives Try.prog 11 [.ags [.z [.l (gsC gs)] gs.length, .c (.c (.int .i64 pub)), .c (.c (.int .i64 vars))], .t (.v (.int .i64 log))] (.v (.int .i64 40)) :=
  fn_gives_at (P := Try.prog) (X := rulesM _) (env := []) trivial Try.func11 0 (oL [(7, { ch := 0, hi := fun _ => 0, ex := 7, av := fun _ => .v (.bool true) }), (10, wT)]) (by kernel_rfl) ⟨_, rfl⟩
    (And.intro (show decide (log < 0) = true from decide_eq_true h1)
    (And.intro (show GivesE Try.prog 28 [.ags [.z [.l (gsC gs)] gs.length, .c (.c (.int .i64 pub)), .c (.c (.int .i64 vars))]] (.v (.bool true)) from ⟨fun vs w => Go.Proofs.enters_of (P := Try.prog) Try.func28 (by kernel_rfl) rfl vs w, r18_yes gs pub vars hm h⟩) trivial))
theorem rk2 (gs : List GT) (pub vars : Int) (hm : gs.length ≤ 9223372036854775807) (log : Int) (h : rightC gs pub vars) (h1 : ¬ log < 0) (h2 : log > 16) : Gives Try.prog 11 [.ags [.z [.l (gsC gs)] gs.length, .c (.c (.int .i64 pub)), .c (.c (.int .i64 vars))], .t (.v (.int .i64 log))] (.v (.int .i64 40)) :=
  fn_gives_at (P := Try.prog) (X := rulesM _) (env := []) trivial Try.func11 0 (oL [(7, { ch := 0, hi := fun _ => 0, ex := 7, av := fun _ => .v (.bool true) }), (10, wF), (13, wT)]) (by kernel_rfl) ⟨_, rfl⟩
    (And.intro (show decide (log > 16) = true from decide_eq_true h2)
    (And.intro (show decide (log < 0) = false from decide_eq_false h1)
    (And.intro (show GivesE Try.prog 28 [.ags [.z [.l (gsC gs)] gs.length, .c (.c (.int .i64 pub)), .c (.c (.int .i64 vars))]] (.v (.bool true)) from ⟨fun vs w => Go.Proofs.enters_of (P := Try.prog) Try.func28 (by kernel_rfl) rfl vs w, r18_yes gs pub vars hm h⟩) trivial)))
theorem rk3 (gs : List GT) (pub vars : Int) (hm : gs.length ≤ 9223372036854775807) (lg : Nat) (hl : lg ≤ 16) (h : rightC gs pub vars) (h3 : 2 ^ lg < gs.length) : Gives Try.prog 11 [.ags [.z [.l (gsC gs)] gs.length, .c (.c (.int .i64 pub)), .c (.c (.int .i64 vars))], .t (.v (.int .i64 ((lg : Nat) : Int)))] (.v (.int .i64 40)) :=
  fn_gives_at (P := Try.prog) (X := rulesM _) (env := []) trivial Try.func11 0 (oL [(7, { ch := 0, hi := fun _ => 0, ex := 7, av := fun _ => .v (.bool true) }), (10, wF), (13, wF), (18, shO lg (2 ^ lg)), (22, wT)]) (by kernel_rfl) ⟨_, rfl⟩
    (And.intro (show decide (((2 ^ lg : Nat) : Int) < ((gs.length : Nat) : Int)) = true from decide_eq_true (by omega))
    (And.intro (show IntKind.u64.wrap ((lg : Nat) : Int) = ((lg : Nat) : Int) ∧ IntKind.i64.wrap (1 * 2 ^ min lg IntKind.i64.bits) = ((2 ^ lg : Nat) : Int) from ⟨wrap_u lg hl, sh_num lg hl⟩)
    (And.intro (show decide (((lg : Nat) : Int) > 16) = false from decide_eq_false (by omega))
    (And.intro (show decide (((lg : Nat) : Int) < 0) = false from decide_eq_false (by omega))
    (And.intro (show GivesE Try.prog 28 [.ags [.z [.l (gsC gs)] gs.length, .c (.c (.int .i64 pub)), .c (.c (.int .i64 vars))]] (.v (.bool true)) from ⟨fun vs w => Go.Proofs.enters_of (P := Try.prog) Try.func28 (by kernel_rfl) rfl vs w, r18_yes gs pub vars hm h⟩) trivial)))))
theorem rk4 (gs : List GT) (pub vars : Int) (hm : gs.length ≤ 9223372036854775807) (lg : Nat) (hl : lg ≤ 16) (h : rightC gs pub vars) (h3 : ¬ 2 ^ lg < gs.length) : Gives Try.prog 11 [.ags [.z [.l (gsC gs)] gs.length, .c (.c (.int .i64 pub)), .c (.c (.int .i64 vars))], .t (.v (.int .i64 ((lg : Nat) : Int)))] (.v (.int .i64 0)) :=
  fn_gives_at (P := Try.prog) (X := rulesM _) (env := []) trivial Try.func11 0 (oL [(7, { ch := 0, hi := fun _ => 0, ex := 7, av := fun _ => .v (.bool true) }), (10, wF), (13, wF), (18, shO lg (2 ^ lg)), (22, wF)]) (by kernel_rfl) ⟨_, rfl⟩
    (And.intro (show decide (((2 ^ lg : Nat) : Int) < ((gs.length : Nat) : Int)) = false from decide_eq_false (by omega))
    (And.intro (show IntKind.u64.wrap ((lg : Nat) : Int) = ((lg : Nat) : Int) ∧ IntKind.i64.wrap (1 * 2 ^ min lg IntKind.i64.bits) = ((2 ^ lg : Nat) : Int) from ⟨wrap_u lg hl, sh_num lg hl⟩)
    (And.intro (show decide (((lg : Nat) : Int) > 16) = false from decide_eq_false (by omega))
    (And.intro (show decide (((lg : Nat) : Int) < 0) = false from decide_eq_false (by omega))
    (And.intro (show GivesE Try.prog 28 [.ags [.z [.l (gsC gs)] gs.length, .c (.c (.int .i64 pub)), .c (.c (.int .i64 vars))]] (.v (.bool true)) from ⟨fun vs w => Go.Proofs.enters_of (P := Try.prog) Try.func28 (by kernel_rfl) rfl vs w, r18_yes gs pub vars hm h⟩) trivial)))))
theorem rk_e (gs : List GT) (pub vars : Int) (hm : gs.length ≤ 9223372036854775807) (log : Int) : GivesE Try.prog 11 [.ags [.z [.l (gsC gs)] gs.length, .c (.c (.int .i64 pub)), .c (.c (.int .i64 vars))], .t (.v (.int .i64 log))] (.v (.int .i64 (ckE gs pub vars log))) := by
  refine ⟨fun args w => Go.Proofs.enters_of (P := Try.prog) Try.func11 (by kernel_rfl) rfl args w, ?_⟩
  unfold ckE
  by_cases h : rightC gs pub vars
  · rw [if_pos h]
    by_cases h1 : log < 0
    · rw [if_neg (fun e => by have := e.1; omega)]; exact rk1 gs pub vars hm log h h1
    · by_cases h2 : log > 16
      · rw [if_neg (fun e => by have := e.2.1; omega)]; exact rk2 gs pub vars hm log h h1 h2
      · obtain ⟨lg, rfl⟩ := Int.eq_ofNat_of_zero_le (show 0 ≤ log by omega)
        by_cases h3 : 2 ^ lg < gs.length
        · rw [if_neg (fun e => by have := e.2.2; rw [Int.toNat_natCast] at this; omega)]; exact rk3 gs pub vars hm lg (by omega) h h3
        · rw [if_pos ⟨by omega, by omega, by rw [Int.toNat_natCast]; omega⟩]; exact rk4 gs pub vars hm lg (by omega) h h3
  · rw [if_neg h]; exact rk0 gs pub vars hm log h
end Go.Proofs.Ytoigbjimhcgolaa

/- chirographref19.Behind: what comes behind a place. -/
set_option linter.unusedSimpArgs false
set_option linter.unusedVariables false
namespace Go.Proofs.Ytoigbjimhcgolaa
open Go.Ev Go.RowKit
theorem pl_div {w r n : Nat} (h : r < n) : (w * n + r) / n = w ∧ (w * n + r) % n = r := by
  have hn : 0 < n := by omega
  refine ⟨?_, ?_⟩
  · rw [Nat.add_comm, Nat.add_mul_div_right _ _ hn, Nat.div_eq_of_lt h, Nat.zero_add]
  · rw [Nat.mul_add_mod', Nat.mod_eq_of_lt h]
theorem pl_lt3 {x n : Nat} (h : x < 3 * n) : x / n < 3 ∧ x % n < n := by
  have hn : 0 < n := by omega
  exact ⟨(Nat.div_lt_iff_lt_mul hn).2 h, Nat.mod_lt _ hn⟩
theorem pl_eq {x n : Nat} : x / n * n + x % n = x := by rw [Nat.mul_comm]; exact Nat.div_add_mod x n
/-- The next place, round and round. -/
theorem pl_next {x n : Nat} (h : x < 3 * n) : (x % n + 1 = n → (x + 1) % (3 * n) % n = 0 ∧ (x + 1) % (3 * n) / n = (x / n + 1) % 3) ∧ (x % n + 1 ≠ n → (x + 1) % (3 * n) % n = x % n + 1 ∧ (x + 1) % (3 * n) / n = x / n) := by
  obtain ⟨h1, h2⟩ := pl_lt3 h
  have e := pl_eq (x := x) (n := n)
  generalize x / n = w at h1 e ⊢
  generalize x % n = r at h2 e ⊢
  subst e
  have hn : 0 < n := by omega
  refine ⟨fun h3 => ?_, fun h3 => ?_⟩
  · rcases (show w = 0 ∨ w = 1 ∨ w = 2 by omega) with rfl | rfl | rfl
    · rw [show 0 * n + r + 1 = 1 * n + 0 by omega, Nat.mod_eq_of_lt (show 1 * n + 0 < 3 * n by omega)]; exact ⟨(pl_div hn).2, (pl_div hn).1⟩
    · rw [show 1 * n + r + 1 = 2 * n + 0 by omega, Nat.mod_eq_of_lt (show 2 * n + 0 < 3 * n by omega)]; exact ⟨(pl_div hn).2, (pl_div hn).1⟩
    · rw [show 2 * n + r + 1 = 3 * n by omega, Nat.mod_self]; exact ⟨Nat.zero_mod _, Nat.zero_div _⟩
  · have : w * n + r + 1 = w * n + (r + 1) := by omega
    rw [this, Nat.mod_eq_of_lt (show w * n + (r + 1) < 3 * n by rcases (show w = 0 ∨ w = 1 ∨ w = 2 by omega) with rfl | rfl | rfl <;> omega)]
    exact ⟨(pl_div (by omega)).2, (pl_div (by omega)).1⟩
theorem r_next {r : Nat} (h : r < 1000000) : IntKind.i64.wrap (((r : Nat) : Int) + 1) = ((r + 1 : Nat) : Int) := by rw [wrap_i64]; omega
theorem z_lt {z n : Nat} (h : z < 3 * n) (hn : n ≤ 1000) : decide (((z : Nat) : Int) < IntKind.i64.wrap (3 * ((n : Nat) : Int))) = true := decide_eq_true (by rw [wrap_i64]; omega)
theorem w_next {w : Nat} (h : w < 3) : (IntKind.i64.wrap (((w : Nat) : Int) + 1)).tmod 3 = (((w + 1) % 3 : Nat) : Int) := by
  rw [r_next (by omega)]
  rcases (show w = 0 ∨ w = 1 ∨ w = 2 by omega) with rfl | rfl | rfl <;> rfl
theorem least_of (p : Nat → Prop) [DecidablePred p] (n : Nat) (h : p n) : ∃ s, s ≤ n ∧ p s ∧ ∀ u, u < s → ¬ p u := by
  induction n with
  | zero => exact ⟨0, Nat.le_refl _, h, fun u hu => by omega⟩
  | succ n ih =>
    by_cases h1 : ∃ s, s ≤ n ∧ p s
    · obtain ⟨s, h2, h3⟩ := h1
      clear ih h
      induction s using Nat.strongRecOn with
      | ind s ih =>
        by_cases h4 : ∃ u, u < s ∧ p u
        · obtain ⟨u, h5, h6⟩ := h4
          exact ih u h5 (by omega) h6
        · exact ⟨s, by omega, h3, fun u hu hp => h4 ⟨u, hu, hp⟩⟩
    · exact ⟨n + 1, Nat.le_refl _, h, fun u hu hp => h1 ⟨u, by omega, hp⟩⟩
def bhI (gs : List GT) (pub vars : Int) (n : Nat) (v r0 w0 r w z : Int) : LState := { n := 44, sl := [(1, .v (.int .i64 ((n : Nat) : Int))), (3, .p 4 0), (5, .p 5 0), (6, .p 6 0), (7, .v (.int .i64 v)), (8, .p 14 0), (9, .v (.int .i64 z))], hp := [(0, .rz [.l (gsC gs)]), (4, .own [.sz 0 gs.length, .c (.int .i64 pub), .c (.int .i64 vars)] 24), (5, .own [.c (.int .i64 r0), .c (.int .i64 w0)] 44), (6, .own [.c (.int .i64 0), .c (.int .i64 0)] 44), (14, .own [.c (.int .i64 r), .c (.int .i64 w)] 44)] }
def bhE (r w : Int) : LState := { n := 44, sl := [(6, .p 6 0)], hp := [(6, .own [.c (.int .i64 r), .c (.int .i64 w)] 44)] }
theorem bh_00 (gs : List GT) (pub vars : Int) (n : Nat) (r0 w0 r w z v vv : Int) (hz : decide (z < IntKind.i64.wrap (3 * ((n : Nat) : Int))) = true) (h : ((IntKind.i64.wrap (r + 1)) == ((n : Nat) : Int)) = false) (hg : GivesE Try.prog 31 [.ags [.z [.l (gsC gs)] gs.length, .c (.c (.int .i64 pub)), .c (.c (.int .i64 vars))], .t (.ag [.c (.int .i64 (IntKind.i64.wrap (r + 1))), .c (.int .i64 w)])] (.v (.int .i64 vv))) (hf : (vv == v) = false) : Sound Try.prog 0 false (loopB Try.f15 0) (bhI gs pub vars n v r0 w0 r w z).aa .normal (bhI gs pub vars n v r0 w0 (IntKind.i64.wrap (r + 1)) w (IntKind.i64.wrap (z + 1))).aa :=
  roundK_sound (P := Try.prog) (X := rulesM _) (env := []) trivial (n := 0) (os := (oL [(20, wT), (29, wF), (32, { ch := 0, hi := fun _ => 0, ex := 7, av := fun _ => .v (.int .i64 vv) }), (34, wF)])) (fb := 0) (rd := false) (c := (loopB Try.f15 0)) (k := 17) (I := bhI gs pub vars n v r0 w0 r w z) (sk := [1, 3, 5, 6, 7, 8, 9]) (hk := [0, 4, 5, 6, 14]) (lk := []) (ex := .normal)
    (L := bhI gs pub vars n v r0 w0 (IntKind.i64.wrap (r + 1)) w (IntKind.i64.wrap (z + 1))) (by kernel_rfl)
    (And.intro (hf)
    (And.intro (hg)
    (And.intro (h)
    (And.intro (hz) trivial))))
theorem bh_01 (gs : List GT) (pub vars : Int) (n : Nat) (r0 w0 r w z v vv : Int) (hz : decide (z < IntKind.i64.wrap (3 * ((n : Nat) : Int))) = true) (h : ((IntKind.i64.wrap (r + 1)) == ((n : Nat) : Int)) = false) (hg : GivesE Try.prog 31 [.ags [.z [.l (gsC gs)] gs.length, .c (.c (.int .i64 pub)), .c (.c (.int .i64 vars))], .t (.ag [.c (.int .i64 (IntKind.i64.wrap (r + 1))), .c (.int .i64 w)])] (.v (.int .i64 vv))) (hf : (vv == v) = true) : Sound Try.prog 0 false (loopB Try.f15 0) (bhI gs pub vars n v r0 w0 r w z).aa .ret (bhE (IntKind.i64.wrap (r + 1)) w).aa :=
  roundK_sound (P := Try.prog) (X := rulesM _) (env := []) trivial (n := 0) (os := (oL [(20, wT), (29, wF), (32, { ch := 0, hi := fun _ => 0, ex := 7, av := fun _ => .v (.int .i64 vv) }), (34, wT)])) (fb := 0) (rd := false) (c := (loopB Try.f15 0)) (k := 17) (I := bhI gs pub vars n v r0 w0 r w z) (sk := [6]) (hk := [6]) (lk := []) (ex := .ret)
    (L := bhE (IntKind.i64.wrap (r + 1)) w) (by kernel_rfl)
    (And.intro (hf)
    (And.intro (hg)
    (And.intro (h)
    (And.intro (hz) trivial))))
theorem bh_10 (gs : List GT) (pub vars : Int) (n : Nat) (r0 w0 r w z v vv : Int) (hz : decide (z < IntKind.i64.wrap (3 * ((n : Nat) : Int))) = true) (h : ((IntKind.i64.wrap (r + 1)) == ((n : Nat) : Int)) = true) (hg : GivesE Try.prog 31 [.ags [.z [.l (gsC gs)] gs.length, .c (.c (.int .i64 pub)), .c (.c (.int .i64 vars))], .t (.ag [.c (.int .i64 0), .c (.int .i64 ((IntKind.i64.wrap (w + 1)).tmod 3))])] (.v (.int .i64 vv))) (hf : (vv == v) = false) : Sound Try.prog 0 false (loopB Try.f15 0) (bhI gs pub vars n v r0 w0 r w z).aa .normal (bhI gs pub vars n v r0 w0 0 ((IntKind.i64.wrap (w + 1)).tmod 3) (IntKind.i64.wrap (z + 1))).aa :=
  roundK_sound (P := Try.prog) (X := rulesM _) (env := []) trivial (n := 0) (os := (oL [(20, wT), (29, wT), (40, { ch := 0, hi := fun _ => 0, ex := 7, av := fun _ => .v (.int .i64 vv) }), (42, wF)])) (fb := 0) (rd := false) (c := (loopB Try.f15 0)) (k := 17) (I := bhI gs pub vars n v r0 w0 r w z) (sk := [1, 3, 5, 6, 7, 8, 9]) (hk := [0, 4, 5, 6, 14]) (lk := []) (ex := .normal)
    (L := bhI gs pub vars n v r0 w0 0 ((IntKind.i64.wrap (w + 1)).tmod 3) (IntKind.i64.wrap (z + 1))) (by kernel_rfl)
    (And.intro (hf)
    (And.intro (hg)
    (And.intro (h)
    (And.intro (hz) trivial))))
theorem bh_11 (gs : List GT) (pub vars : Int) (n : Nat) (r0 w0 r w z v vv : Int) (hz : decide (z < IntKind.i64.wrap (3 * ((n : Nat) : Int))) = true) (h : ((IntKind.i64.wrap (r + 1)) == ((n : Nat) : Int)) = true) (hg : GivesE Try.prog 31 [.ags [.z [.l (gsC gs)] gs.length, .c (.c (.int .i64 pub)), .c (.c (.int .i64 vars))], .t (.ag [.c (.int .i64 0), .c (.int .i64 ((IntKind.i64.wrap (w + 1)).tmod 3))])] (.v (.int .i64 vv))) (hf : (vv == v) = true) : Sound Try.prog 0 false (loopB Try.f15 0) (bhI gs pub vars n v r0 w0 r w z).aa .ret (bhE 0 ((IntKind.i64.wrap (w + 1)).tmod 3)).aa :=
  roundK_sound (P := Try.prog) (X := rulesM _) (env := []) trivial (n := 0) (os := (oL [(20, wT), (29, wT), (40, { ch := 0, hi := fun _ => 0, ex := 7, av := fun _ => .v (.int .i64 vv) }), (42, wT)])) (fb := 0) (rd := false) (c := (loopB Try.f15 0)) (k := 17) (I := bhI gs pub vars n v r0 w0 r w z) (sk := [6]) (hk := [6]) (lk := []) (ex := .ret)
    (L := bhE 0 ((IntKind.i64.wrap (w + 1)).tmod 3)) (by kernel_rfl)
    (And.intro (hf)
    (And.intro (hg)
    (And.intro (h)
    (And.intro (hz) trivial))))
/-- From the place x on, to the first place that has the value. -/
theorem bh_loop (gs : List GT) (pub vars : Int) (n : Nat) (hn : n ≤ 1000) (r0 w0 : Int) (q : Nat) (hq : q < 3 * n) (s : Nat) (hs : s < 3 * n) (h1 : vf gs n ((q + 1 + s) % (3 * n)) = vf gs n q) (h2 : ∀ u, u < s → vf gs n ((q + 1 + u) % (3 * n)) ≠ vf gs n q) :
    Sound Try.prog 0 false (.loop (loopB Try.f15 0)) (bhI gs pub vars n (vf gs n q) r0 w0 ((q % n : Nat) : Int) ((q / n : Nat) : Int) 0).aa .ret (bhE (((q + 1 + s) % (3 * n) % n : Nat) : Int) (((q + 1 + s) % (3 * n) / n : Nat) : Int)).aa := by
  have hh := loop_ok (P := Try.prog) (fb := 0) (rd := false) (body := (loopB Try.f15 0)) (ex := .ret) (E := bhE (((q + 1 + s) % (3 * n) % n : Nat) : Int) (((q + 1 + s) % (3 * n) / n : Nat) : Int)) (m := fun y : { i : Nat // i ≤ s } => s - y.val) (fun y => bhI gs pub vars n (vf gs n q) r0 w0 (((q + y.val) % (3 * n) % n : Nat) : Int) (((q + y.val) % (3 * n) / n : Nat) : Int) ((y.val : Nat) : Int)) (by simp) (fun y => ?_) ⟨0, by omega⟩
  · simp only [Nat.add_zero, Nat.mod_eq_of_lt hq] at hh
    exact hh
  obtain ⟨t, ht⟩ := y
  simp only
  have hx : (q + t) % (3 * n) < 3 * n := Nat.mod_lt _ (by omega)
  obtain ⟨p1, p2⟩ := pl_lt3 hx
  have e0 : ((q + t) % (3 * n) + 1) % (3 * n) = (q + 1 + t) % (3 * n) := by rw [Nat.mod_add_mod]; congr 1; omega
  obtain ⟨n1, n2⟩ := pl_next hx
  rw [e0] at n1 n2
  have ev : vf gs n ((q + 1 + t) % (3 * n)) = wAt gs ((q + 1 + t) % (3 * n) % n) ((q + 1 + t) % (3 * n) / n) := rfl
  by_cases e : t < s
  · refine .inl ⟨⟨t + 1, e⟩, by show s - (t + 1) < s - t; omega, ?_⟩
    have hne := h2 t e
    rw [ev] at hne
    show Sound _ _ _ _ _ _ (bhI gs pub vars n (vf gs n q) r0 w0 (((q + (t + 1)) % (3 * n) % n : Nat) : Int) (((q + (t + 1)) % (3 * n) / n : Nat) : Int) ((t + 1 : Nat) : Int)).aa
    rw [show q + (t + 1) = q + 1 + t by omega]
    by_cases hw : (q + t) % (3 * n) % n + 1 = n
    · obtain ⟨g1, g2⟩ := n1 hw
      rw [g1, g2] at hne ⊢
      have hh := bh_10 gs pub vars n r0 w0 (((q + t) % (3 * n) % n : Nat) : Int) (((q + t) % (3 * n) / n : Nat) : Int) ((t : Nat) : Int) (vf gs n q) _ (z_lt (by omega) hn) (by rw [r_next (by omega)]; exact int_eqT hw) (by rw [w_next p1]; exact wire_e gs pub vars 0 _ (Nat.mod_lt _ (by decide))) (beq_eq_false_iff_ne.2 hne)
      simp only [w_next p1, r_next (show t < 1000000 by omega)] at hh
      exact hh
    · obtain ⟨g1, g2⟩ := n2 hw
      rw [g1, g2] at hne ⊢
      have hh := bh_00 gs pub vars n r0 w0 (((q + t) % (3 * n) % n : Nat) : Int) (((q + t) % (3 * n) / n : Nat) : Int) ((t : Nat) : Int) (vf gs n q) _ (z_lt (by omega) hn) (by rw [r_next (by omega)]; exact int_eqF hw) (by rw [r_next (by omega)]; exact wire_e gs pub vars _ _ p1) (beq_eq_false_iff_ne.2 hne)
      simp only [r_next (show (q + t) % (3 * n) % n < 1000000 by omega), r_next (show t < 1000000 by omega)] at hh
      exact hh
  · have e : t = s := by omega
    subst e
    refine .inr ?_
    have hne := h1
    rw [ev] at hne
    by_cases hw : (q + t) % (3 * n) % n + 1 = n
    · obtain ⟨g1, g2⟩ := n1 hw
      rw [g1, g2] at hne ⊢
      have hh := bh_11 gs pub vars n r0 w0 (((q + t) % (3 * n) % n : Nat) : Int) (((q + t) % (3 * n) / n : Nat) : Int) ((t : Nat) : Int) (vf gs n q) _ (z_lt (by omega) hn) (by rw [r_next (by omega)]; exact int_eqT hw) (by rw [w_next p1]; exact wire_e gs pub vars 0 _ (Nat.mod_lt _ (by decide))) (beq_iff_eq.2 hne)
      simp only [w_next p1] at hh
      exact hh
    · obtain ⟨g1, g2⟩ := n2 hw
      rw [g1, g2] at hne ⊢
      have hh := bh_01 gs pub vars n r0 w0 (((q + t) % (3 * n) % n : Nat) : Int) (((q + t) % (3 * n) / n : Nat) : Int) ((t : Nat) : Int) (vf gs n q) _ (z_lt (by omega) hn) (by rw [r_next (by omega)]; exact int_eqF hw) (by rw [r_next (by omega)]; exact wire_e gs pub vars _ _ p1) (beq_iff_eq.2 hne)
      simp only [r_next (show (q + t) % (3 * n) % n < 1000000 by omega)] at hh
      exact hh
theorem bhd_0 (gs : List GT) (pub vars : Int) (n : Nat) (hn : n ≤ 1000) (r w : Nat) (hw : w < 3) (h : (wAt gs r w) < 0) : Gives Try.prog 15 [.ags [.z [.l (gsC gs)] gs.length, .c (.c (.int .i64 pub)), .c (.c (.int .i64 vars))], .t (.v (.int .i64 ((n : Nat) : Int))), .t (.ag [.c (.int .i64 ((r : Nat) : Int)), .c (.int .i64 ((w : Nat) : Int))])] (.ag [.c (.int .i64 ((r : Nat) : Int)), .c (.int .i64 ((w : Nat) : Int))]) :=
  fn_gives_at (P := Try.prog) (X := rulesM _) (env := []) trivial Try.func15 0 (oL [(9, { ch := 0, hi := fun _ => 0, ex := 7, av := fun _ => .v (.int .i64 (wAt gs r w)) }), (12, wT)]) (by kernel_rfl) ⟨_, rfl⟩
    (And.intro (show decide ((wAt gs r w) < 0) = true from decide_eq_true h)
    (And.intro (show GivesE Try.prog 31 [.ags [.z [.l (gsC gs)] gs.length, .c (.c (.int .i64 pub)), .c (.c (.int .i64 vars))], .t (.ag [.c (.int .i64 ((r : Nat) : Int)), .c (.int .i64 ((w : Nat) : Int))])] (.v (.int .i64 (wAt gs r w))) from wire_e gs pub vars r w hw) trivial))
theorem bhd_1 (gs : List GT) (pub vars : Int) (n : Nat) (hn : n ≤ 1000) (r w : Nat) (hw : w < 3) (h : ¬ (wAt gs r w) < 0) (x y : Int) (hl : Sound Try.prog 0 false (.loop (loopB Try.f15 0)) (bhI gs pub vars n (wAt gs r w) ((r : Nat) : Int) ((w : Nat) : Int) ((r : Nat) : Int) ((w : Nat) : Int) 0).aa .ret (bhE x y).aa) : Gives Try.prog 15 [.ags [.z [.l (gsC gs)] gs.length, .c (.c (.int .i64 pub)), .c (.c (.int .i64 vars))], .t (.v (.int .i64 ((n : Nat) : Int))), .t (.ag [.c (.int .i64 ((r : Nat) : Int)), .c (.int .i64 ((w : Nat) : Int))])] (.ag [.c (.int .i64 x), .c (.int .i64 y)]) :=
  fn_gives_at (P := Try.prog) (X := rulesM _) (env := []) trivial Try.func15 0 (oL [(9, { ch := 0, hi := fun _ => 0, ex := 7, av := fun _ => .v (.int .i64 (wAt gs r w)) }), (12, wF), (17, lpO { I := bhI gs pub vars n (wAt gs r w) ((r : Nat) : Int) ((w : Nat) : Int) ((r : Nat) : Int) ((w : Nat) : Int) 0, ex := .ret, E := bhE x y, fr := 18 })]) (by kernel_rfl) ⟨_, rfl⟩
    (And.intro (show some (bhI gs pub vars n (wAt gs r w) ((r : Nat) : Int) ((w : Nat) : Int) ((r : Nat) : Int) ((w : Nat) : Int) 0) = some (bhI gs pub vars n (wAt gs r w) ((r : Nat) : Int) ((w : Nat) : Int) ((r : Nat) : Int) ((w : Nat) : Int) 0) from rfl)
    (And.intro (hl)
    (And.intro (show decide ((wAt gs r w) < 0) = false from decide_eq_false h)
    (And.intro (show GivesE Try.prog 31 [.ags [.z [.l (gsC gs)] gs.length, .c (.c (.int .i64 pub)), .c (.c (.int .i64 vars))], .t (.ag [.c (.int .i64 ((r : Nat) : Int)), .c (.int .i64 ((w : Nat) : Int))])] (.v (.int .i64 (wAt gs r w))) from wire_e gs pub vars r w hw) trivial))))
/-- What comes behind a place, by its number among 3 n ones. -/
theorem behind_e (gs : List GT) (pub vars : Int) (n : Nat) (hn : n ≤ 1000) (r w : Nat) (hr : r < n) (hw : w < 3) : GivesE Try.prog 15 [.ags [.z [.l (gsC gs)] gs.length, .c (.c (.int .i64 pub)), .c (.c (.int .i64 vars))], .t (.v (.int .i64 ((n : Nat) : Int))), .t (.ag [.c (.int .i64 ((r : Nat) : Int)), .c (.int .i64 ((w : Nat) : Int))])] (.ag [.c (.int .i64 ((valI (vf gs n) (3 * n) (w * n + r) % n : Nat) : Int)), .c (.int .i64 ((valI (vf gs n) (3 * n) (w * n + r) / n : Nat) : Int))]) := by
  refine ⟨fun args w => Go.Proofs.enters_of (P := Try.prog) Try.func15 (by kernel_rfl) rfl args w, ?_⟩
  obtain ⟨d1, d2⟩ := pl_div (w := w) hr
  have hq : w * n + r < 3 * n := by rcases (show w = 0 ∨ w = 1 ∨ w = 2 by omega) with rfl | rfl | rfl <;> omega
  have ev : vf gs n (w * n + r) = wAt gs r w := by unfold vf; rw [d1, d2]
  rw [valI_beh hq]
  by_cases h : vf gs n (w * n + r) < 0
  · rw [if_pos h, d1, d2]
    exact bhd_0 gs pub vars n hn r w hw (by rw [← ev]; exact h)
  · rw [if_neg h]
    obtain ⟨s, h1, h2, h3⟩ := least_of (fun s => vf gs n ((w * n + r + 1 + s) % (3 * n)) = vf gs n (w * n + r)) (3 * n - 1) (by
      show vf gs n ((w * n + r + 1 + (3 * n - 1)) % (3 * n)) = _
      rw [show w * n + r + 1 + (3 * n - 1) = w * n + r + 3 * n by omega, Nat.add_mod_right, Nat.mod_eq_of_lt hq])
    rw [behI_at (f := vf gs n) (3 * n) 0 s (Nat.zero_le _) (by omega) h2 (fun u _ hu => h3 u hu)]
    have hl := bh_loop gs pub vars n hn ((r : Nat) : Int) ((w : Nat) : Int) (w * n + r) hq s (by omega) h2 h3
    rw [ev, d1, d2] at hl
    exact bhd_1 gs pub vars n hn r w hw (by rw [← ev]; exact h) _ _ hl
end Go.Proofs.Ytoigbjimhcgolaa

/- core.S.IsZero. -/
set_option linter.unusedSimpArgs false
set_option linter.unusedVariables false
namespace Go.Proofs.Ytoigbjimhcgolaa
open Go.Ev Go.RowKit
theorem toS_inj {x y : Fin Rr} (h : toS x = toS y) : x = y := by
  have e : ∀ z : Fin Rr, toS z = (z * ⟨115792089237316195423570985008687907853269984665640564039457584007913129639936 % Rr, Nat.mod_lt _ (by decide)⟩).val := fun z => by
    unfold toS
    rw [Fin.val_mul]
    show _ = z.val * (115792089237316195423570985008687907853269984665640564039457584007913129639936 % Rr) % Rr
    rw [Nat.mul_mod, Nat.mul_mod z.val (_ % Rr), Nat.mod_mod]
  rw [e, e] at h
  have h1 := Fin.ext h
  have h0 : (⟨115792089237316195423570985008687907853269984665640564039457584007913129639936 % Rr, Nat.mod_lt _ (by decide)⟩ : Fin Rr) ≠ 0 := by decide
  generalize (⟨115792089237316195423570985008687907853269984665640564039457584007913129639936 % Rr, Nat.mod_lt _ (by decide)⟩ : Fin Rr) = c at *
  have hi := mul_invS h0
  generalize pwS c _ = d at hi
  have hx : x = (x * c) * d := by
    have : (x * c) * d = x * (c * d) := by grind
    rw [this, hi]; grind
  have hy : y = (y * c) * d := by
    have : (y * c) * d = y * (c * d) := by grind
    rw [this, hi]; grind
  rw [hx, hy, h1]
theorem flat_s_inj {x y : Fin Rr} (h : flat [.s x] = flat [.s y]) : x = y := by
  have h' : limbs 4 (toS x) ++ [] = limbs 4 (toS y) ++ [] := h
  rw [List.append_nil, List.append_nil] at h'
  exact toS_inj (limbs_inj 4 _ _ (Nat.lt_trans (Nat.mod_lt _ (by decide)) (show Rr < _ by decide)) (Nat.lt_trans (Nat.mod_lt _ (by decide)) (show Rr < _ by decide)) h')
theorem zero_s : flat [.s (0 : Fin Rr)] = flat [.c (.int .u64 0), .c (.int .u64 0), .c (.int .u64 0), .c (.int .u64 0)] := by kernel_rfl
theorem isZeS_0 (a : Fin Rr) (h : a = 0) : Gives Try.prog 36 [.t (.ag [.s a])] (.v (.bool true)) := fn_gives (P := Try.prog) (env := []) trivial Try.func36 0 (oN [] [(4, 0)]) (by kernel_rfl) (And.intro (show flat [.s a] = flat [.c (.int .u64 0), .c (.int .u64 0), .c (.int .u64 0), .c (.int .u64 0)] from by rw [h]; exact zero_s) trivial)
theorem isZeS_1 (a : Fin Rr) (h : a ≠ 0) : Gives Try.prog 36 [.t (.ag [.s a])] (.v (.bool false)) := fn_gives (P := Try.prog) (env := []) trivial Try.func36 0 (oN [] [(4, 1)]) (by kernel_rfl) (And.intro (show ¬ flat [.s a] = flat [.c (.int .u64 0), .c (.int .u64 0), .c (.int .u64 0), .c (.int .u64 0)] from fun e => h (flat_s_inj (e.trans zero_s.symm))) trivial)
def eIsZeS : Entry := entry1 36 parS.x (fun a => [(some (a = 0), .v (.bool true)), (some (a ≠ 0), .v (.bool false))])
theorem eIsZeS_ok : eIsZeS.OK Try.prog := entry1_ok (fun args w => Go.Proofs.enters_of (P := Try.prog) Try.func36 (by kernel_rfl) rfl args w) (fun a c r hm hc => by
  simp only [List.mem_cons, Prod.mk.injEq, List.not_mem_nil, or_false] at hm
  rcases hm with ⟨rfl, rfl⟩ | ⟨rfl, rfl⟩
  · exact isZeS_0 a hc
  · exact isZeS_1 a hc)
end Go.Proofs.Ytoigbjimhcgolaa

/- Rows of elements; fr.each. -/
set_option linter.unusedSimpArgs false
set_option linter.unusedVariables false
namespace Go.Proofs.Ytoigbjimhcgolaa
open Go.Ev Go.RowKit

def sC (x : Fin Rr) : List Value := flat [.s x]
def eC (x : Fin Rr) : List Value := flat [.e x]
theorem sC_len (x : Fin Rr) : (sC x).length = 4 := by simp [sC, flat, Ch.cells, limbs_length]
theorem eC_len (x : Fin Rr) : (eC x).length = 4 := by simp [eC, flat, Ch.cells, limbs_length]
/-- Rows: what f says at the first n places. -/
def tab (g : Fin Rr → List Value) (n : Nat) (f : Nat → Fin Rr) : List Value := ((List.range n).map f).flatMap g
theorem tab_len (g : Fin Rr → List Value) (hg : ∀ x, (g x).length = 4) (n : Nat) (f : Nat → Fin Rr) : (tab g n f).length = n * 4 := by
  unfold tab
  induction n with
  | zero => rfl
  | succ n ih => rw [List.range_succ, List.map_append, List.flatMap_append, List.length_append, ih]; simp [hg]; omega
theorem tab_congr (g : Fin Rr → List Value) (n : Nat) (f f' : Nat → Fin Rr) (h : ∀ j, j < n → f j = f' j) : tab g n f = tab g n f' := by
  unfold tab
  rw [List.map_congr_left (fun j hj => h j (List.mem_range.1 hj))]
theorem tab_split (g : Fin Rr → List Value) (hg : ∀ x, (g x).length = 4) (n : Nat) (f : Nat → Fin Rr) (i : Nat) (hi : i < n) : ∃ a b, tab g n f = a ++ g (f i) ++ b ∧ a.length = i * 4 ∧ a = tab g i f ∧ b = ((List.range' (i + 1) (n - i - 1)).map f).flatMap g := by
  refine ⟨tab g i f, ((List.range' (i + 1) (n - i - 1)).map f).flatMap g, ?_, tab_len g hg i f, rfl, rfl⟩
  unfold tab
  have e : List.range n = List.range i ++ ([i] ++ List.range' (i + 1) (n - i - 1)) := by
    rw [List.range_eq_range', List.range_eq_range']
    have h1 : List.range' 0 n = List.range' 0 i ++ List.range' i (n - i) := by
      have := List.range'_append_1 (s := 0) (m := i) (n := n - i)
      rw [Nat.zero_add] at this
      rw [this]; congr 1; omega
    have h2 : List.range' i (n - i) = [i] ++ List.range' (i + 1) (n - i - 1) := by
      rw [show n - i = (n - i - 1) + 1 by omega, List.range'_succ]
      simp
    rw [h1, h2]
  rw [e]
  simp
/-- Row i. -/
theorem tab_at (g : Fin Rr → List Value) (hg : ∀ x, (g x).length = 4) (n : Nat) (f : Nat → Fin Rr) (i : Nat) (hi : i < n) : ((tab g n f).drop (i * 4)).take 4 = g (f i) := by
  obtain ⟨a, b, e, h, _, _⟩ := tab_split g hg n f i hi
  rw [e, ← h, List.append_assoc, List.drop_left, ← hg (f i), List.take_left]
/-- A row is laid anew. -/
def stOK (B B' : List Value) (i : Nat) (r : List Value) : Prop := i * 4 + 4 ≤ B.length ∧ B' = B.take (i * 4) ++ r ++ B.drop (i * 4 + 4)
theorem tab_set (g : Fin Rr → List Value) (hg : ∀ x, (g x).length = 4) (n : Nat) (f f' : Nat → Fin Rr) (i : Nat) (hi : i < n) (x : Fin Rr) (h1 : f' i = x) (h2 : ∀ j, j ≠ i → f' j = f j) : stOK (tab g n f) (tab g n f') i (g x) := by
  refine ⟨by rw [tab_len g hg]; omega, ?_⟩
  obtain ⟨a, b, e, h, ha, hb⟩ := tab_split g hg n f i hi
  obtain ⟨a', b', e', h', ha', hb'⟩ := tab_split g hg n f' i hi
  have e1 : a' = a := by rw [ha, ha']; exact tab_congr g i _ _ (fun j hj => h2 j (by omega))
  have e2 : b' = b := by
    rw [hb, hb']
    congr 1
    exact List.map_congr_left (fun j hj => h2 j (by have := List.mem_range'_1.1 hj; omega))
  have t1 : (a ++ g (f i) ++ b).take (i * 4) = a := by rw [← h, List.append_assoc, List.take_left]
  have t2 : (a ++ g (f i) ++ b).drop (i * 4 + 4) = b := by rw [show i * 4 + 4 = (a ++ g (f i)).length by rw [List.length_append, hg, h], List.drop_left]
  rw [e, e', e1, e2, h1, t1, t2]
theorem step_ite {f : Nat → Fin Rr} {i : Nat} (j : Nat) (hj : j ≠ i) : (if j < i + 1 then f j else 0) = if j < i then f j else 0 := by
  by_cases h : j < i
  · rw [if_pos h, if_pos (by omega)]
  · rw [if_neg h, if_neg (by omega)]
theorem st_cond {B B' : List Value} {i : Nat} {p : List Ch} (h : stOK B B' i (flat p)) (hp : sizes p = 4) : (0 + i * 4) + sizes p ≤ (flat [.l B]).length ∧ flat [.l B'] = (flat [.l B]).take (0 + i * 4) ++ flat p ++ (flat [.l B]).drop ((0 + i * 4) + sizes p) := by
  rw [flat_l, flat_l, hp, Nat.zero_add]
  exact h
theorem ld_cond {B : List Value} {i : Nat} {p : List Ch} (h : (B.drop (i * 4)).take 4 = flat p) (hp : sizes p = 4) : sizes p = 4 ∧ ((flat [.l B]).drop (0 + i * 4)).take 4 = flat p := by
  rw [flat_l, Nat.zero_add]
  exact ⟨hp, h⟩
theorem tab_zero (g : Fin Rr → List Value) (hg : g 0 = List.replicate 4 (.int .u64 0)) (n : Nat) : tab g n (fun _ => 0) = List.replicate (n * 4) (.int .u64 0) := by
  unfold tab
  induction n with
  | zero => rfl
  | succ n ih => rw [List.range_succ, List.map_append, List.flatMap_append, ih, Nat.add_mul, ← List.replicate_append_replicate]; simp [hg]
theorem sC_zero : sC 0 = List.replicate 4 (.int .u64 0) := by kernel_rfl
theorem eC_zero : eC 0 = List.replicate 4 (.int .u64 0) := by kernel_rfl
theorem mk_cond (g : Fin Rr → List Value) (hg : g 0 = List.replicate 4 (.int .u64 0)) (n : Nat) (hn : n ≤ 1000000) : (n : Int) = ((n : Nat) : Int) ∧ (n : Int) = ((n : Nat) : Int) ∧ 32 * n ≤ 281474976710656 ∧ n ≤ 9223372036854775807 ∧ flat [.l (tab g n (fun _ => 0))] = zerosL [.int .u64 0, .int .u64 0, .int .u64 0, .int .u64 0] (n * 4) := by
  refine ⟨rfl, rfl, by omega, by omega, ?_⟩
  rw [flat_l, tab_zero g hg]
  exact (zerosL_rep (.int .u64 0) 3 (n * 4)).symm
end Go.Proofs.Ytoigbjimhcgolaa
