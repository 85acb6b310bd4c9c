/- chirographlaw23.FormatCircuits: any circuit is written as just those bytes, or refused. -/
import Derived.Test.YtmbllhibdbeplaaFm4
set_option linter.unusedSimpArgs false
set_option linter.unusedVariables false
namespace Go.Proofs.Ytmbllhibdbeplaa
open Go.Ev Go.RowKit
def eFAlive : Entry := entry0 12 [(none, .v (.bool true))]
theorem eFAlive_ok : eFAlive.OK Try.prog := entry0_ok (fun args w => Go.Proofs.enters_of (P := Try.prog) Try.func12 (by kernel_rfl) rfl args w) (only (fn_gives_at (P := Try.prog) (X := rulesY _) (env := [eFCnt]) ⟨eFCnt_ok, trivial⟩ Try.func12 8 (oL [(32, { ch := 0, hi := fun _ => 0, ex := 2, cs := fun _ => [.y [67, 72, 87, 49]] }), (96, wT)]) (by kernel_rfl) ⟨_, rfl⟩ (And.intro (show true = true from rfl) (And.intro (show flat [.y [67, 72, 87, 49]] = (ofL [67, 72, 87, 49]).data.toList.map byteV from flat_y _) trivial))))
def bd (l : List GT) : Int := if (∀ g, g ∈ l → cleanG g) then 0 else 1
theorem bd_succ (gs : List GT) (i : Nat) (g : GT) (hg : gs[i]? = some g) : bd (gs.take (i + 1)) = if cleanG g then bd (gs.take i) else 1 := by
  rw [List.take_add_one, hg]
  unfold bd
  by_cases h : cleanG g
  · rw [if_pos h]
    congr 1
    apply propext
    constructor
    · intro a x hx; exact a x (List.mem_append_left _ hx)
    · intro a x hx
      rcases List.mem_append.1 hx with h1 | h1
      · exact a x h1
      · simp at h1; subst h1; exact h
  · rw [if_neg h, if_neg]
    intro a; exact h (a g (List.mem_append_right _ (by simp)))
theorem want_succ {gs : List GT} {pub vars : Int} {i : Nat} {g : GT} (h : gs[i]? = some g) : (((outC gs pub vars i ++ numB (gN g)) ++ b4 .i64 g.w0) ++ b4 .i64 g.w1) ++ b4 .i64 g.w2 = outC gs pub vars (i + 1) := by
  rw [outC_succ h]
  unfold gB gS gN numB
  simp
theorem want_zero (gs : List GT) (pub vars : Int) : ((mgC ++ b4 .i64 (gs.length : Nat)) ++ b4 .i64 pub) ++ b4 .i64 vars = outC gs pub vars 0 := by
  rw [outC_zero]; unfold hdC; simp
theorem numB5 (g : GT) : (numB (gN g)).length = 160 := by rw [numB_length]; rfl
theorem len20 {g0 gs : List GT} (h : gs = g0.take 20) : gs.length ≤ 20 := by subst h; rw [List.length_take]; omega
theorem cut20 (g0 gs : List GT) (h : gs = g0.take 20) (hb : 20 < g0.length) : (20 : Int) = ((gs.length : Nat) : Int) ∧ gs.length ≤ g0.length ∧ flat [.l (gsC gs)] = (flat [.l (gsC g0)]).take (gs.length * 23) := by
  have hl : gs.length = 20 := by subst h; rw [List.length_take]; omega
  refine ⟨by rw [hl]; rfl, by omega, ?_⟩
  rw [flat_l, flat_l]
  have e : g0 = gs ++ g0.drop 20 := by rw [h, List.take_append_drop]
  have hc : (gsC gs).length = gs.length * 23 := by
    have : ∀ l : List GT, (gsC l).length = l.length * 23 := fun l => by
      induction l with
      | nil => rfl
      | cons g l ih => simp only [gsC, List.flatMap_cons, List.length_append, gC_length, List.length_cons] at ih ⊢; omega
    exact this gs
  have e2 : gsC g0 = gsC gs ++ gsC (g0.drop 20) := by
    conv => lhs; rw [e]
    simp [gsC]
  rw [e2, ← hc, List.take_left]
def lwAI (gs : List GT) (sb : List UInt8) (e bad : Int) (want : List UInt8) (z : Int) : LState := { n := 104, sl := [(3, .v (.string (ofL sb))), (4, .v (.int .i64 e)), (5, .v (.int .i64 bad)), (6, .v (.string (ofL want))), (52, .sz 0 gs.length), (53, .v (.int .i64 ((gs.length : Nat) : Int))), (54, .v (.int .i64 z))], hp := [(0, .rz [.l (gsC gs)])] }
def lwAE (sb : List UInt8) (e bad : Int) (want : List UInt8) : LState := { n := 104, sl := [(3, .v (.string (ofL sb))), (4, .v (.int .i64 e)), (5, .v (.int .i64 bad)), (6, .v (.string (ofL want)))], hp := [] }
theorem lwA_ok (gs : List GT) (pub vars : Int) (hm : gs.length ≤ 4096) (sb : List UInt8) (e bad : Int) (i : Nat) (g : GT) (hg : gs[i]? = some g) (hs : smG g) (hc : cleanG g) : Sound Try.prog 0 false (loopB Try.f3 0) (lwAI gs sb e bad (outC gs pub vars i) (i : Int)).aa .normal (lwAI gs sb e bad (outC gs pub vars (i + 1)) ((i + 1 : Nat) : Int)).aa := by
  have hi := glt hg
  have hs := roundK_sound (P := Try.prog) (X := rulesY _) (env := [eFAlive, eLClean, eLNum, eLCnt]) ⟨eFAlive_ok, eLClean_ok, eLNum_ok, eLCnt_ok, trivial⟩ (n := 0) (os := oL [(50, wT), (51, rO 14 i), (52, { ch := 0, hi := fun _ => 0, ru := 8, cs := fun _ => gP g }), (66, wO 0), (81, rO 6 0), (92, rO 6 0), (102, rO 6 0), (112, rO 6 0)]) (fb := 0) (rd := false) (c := (loopB Try.f3 0)) (k := 50) (I := lwAI gs sb e bad (outC gs pub vars i) (i : Int)) (sk := [3, 4, 5, 6, 52, 53, 54]) (hk := [0]) (lk := []) (ex := .normal)
    (L := lwAI gs sb e bad ((((outC gs pub vars i ++ numB [g.q0, g.q1, g.q2, g.q3, g.q4]) ++ b4 .i64 g.w0) ++ b4 .i64 g.w1) ++ b4 .i64 g.w2) (IntKind.i64.wrap ((i : Int) + 1))) (by kernel_rfl)
    (And.intro (show (ofL (((outC gs pub vars i ++ numB [g.q0, g.q1, g.q2, g.q3, g.q4]) ++ b4 .i64 g.w0) ++ b4 .i64 g.w1)).size + (ofL (b4 .i64 g.w2)).size ≤ 9223372036854775807 from by
        have h1 := outC_length gs pub vars i
        have h2 := numB5 g
        show (((outC gs pub vars i ++ numB [g.q0, g.q1, g.q2, g.q3, g.q4]) ++ b4 .i64 g.w0) ++ b4 .i64 g.w1).length + (b4 .i64 g.w2).length ≤ _
        (try simp only [List.length_append, b4_length])
        (try simp only [gN] at h2)
        omega)
      (And.intro (show (ofL ((outC gs pub vars i ++ numB [g.q0, g.q1, g.q2, g.q3, g.q4]) ++ b4 .i64 g.w0)).size + (ofL (b4 .i64 g.w1)).size ≤ 9223372036854775807 from by
        have h1 := outC_length gs pub vars i
        have h2 := numB5 g
        show ((outC gs pub vars i ++ numB [g.q0, g.q1, g.q2, g.q3, g.q4]) ++ b4 .i64 g.w0).length + (b4 .i64 g.w1).length ≤ _
        (try simp only [List.length_append, b4_length])
        (try simp only [gN] at h2)
        omega)
      (And.intro (show (ofL (outC gs pub vars i ++ numB [g.q0, g.q1, g.q2, g.q3, g.q4])).size + (ofL (b4 .i64 g.w0)).size ≤ 9223372036854775807 from by
        have h1 := outC_length gs pub vars i
        have h2 := numB5 g
        show (outC gs pub vars i ++ numB [g.q0, g.q1, g.q2, g.q3, g.q4]).length + (b4 .i64 g.w0).length ≤ _
        (try simp only [List.length_append, b4_length])
        (try simp only [gN] at h2)
        omega)
      (And.intro (show (ofL (outC gs pub vars i)).size + (ofL (numB [g.q0, g.q1, g.q2, g.q3, g.q4])).size ≤ 9223372036854775807 from by
        have h1 := outC_length gs pub vars i
        have h2 := numB5 g
        show (outC gs pub vars i).length + (numB [g.q0, g.q1, g.q2, g.q3, g.q4]).length ≤ _
        (try simp only [List.length_append, b4_length])
        (try simp only [gN] at h2)
        omega)
      (And.intro (show [g.q0, g.q1, g.q2, g.q3, g.q4].length ≤ 1000000 ∧ sm4 [g.q0, g.q1, g.q2, g.q3, g.q4] from ⟨by simp, hs⟩)
      (And.intro (show [g.q0, g.q1, g.q2, g.q3, g.q4].length ≤ 1000000 ∧ sm4 [g.q0, g.q1, g.q2, g.q3, g.q4] ∧ cleanN [g.q0, g.q1, g.q2, g.q3, g.q4] from ⟨by simp, hs, hc⟩)
      (And.intro (gate_at gs i g hg)
      (And.intro (show (i : Int) = ((i : Nat) : Int) ∧ i < gs.length from ⟨rfl, hi⟩)
      (And.intro (show decide ((i : Int) < ((gs.length : Nat) : Int)) = true from decide_eq_true (by omega)) trivial)))))))))
  have hw := want_succ (pub := pub) (vars := vars) hg
  simp only [gN] at hw
  rw [show IntKind.i64.wrap ((i : Int) + 1) = ((i + 1 : Nat) : Int) by rw [wrap_i64]; omega, hw] at hs
  exact hs
theorem lwA_un (gs : List GT) (pub vars : Int) (hm : gs.length ≤ 4096) (sb : List UInt8) (e bad : Int) (i : Nat) (g : GT) (hg : gs[i]? = some g) (hs : smG g) (hc : ¬ cleanG g) : Sound Try.prog 0 false (loopB Try.f3 0) (lwAI gs sb e bad (outC gs pub vars i) (i : Int)).aa .normal (lwAI gs sb e 1 (outC gs pub vars (i + 1)) ((i + 1 : Nat) : Int)).aa := by
  have hi := glt hg
  have hs := roundK_sound (P := Try.prog) (X := rulesY _) (env := [eFAlive, eLClean, eLNum, eLCnt]) ⟨eFAlive_ok, eLClean_ok, eLNum_ok, eLCnt_ok, trivial⟩ (n := 0) (os := oL [(50, wT), (51, rO 14 i), (52, { ch := 0, hi := fun _ => 0, ru := 8, cs := fun _ => gP g }), (66, wO 1), (82, rO 6 0), (93, rO 6 0), (103, rO 6 0), (113, rO 6 0)]) (fb := 0) (rd := false) (c := (loopB Try.f3 0)) (k := 50) (I := lwAI gs sb e bad (outC gs pub vars i) (i : Int)) (sk := [3, 4, 5, 6, 52, 53, 54]) (hk := [0]) (lk := []) (ex := .normal)
    (L := lwAI gs sb e 1 ((((outC gs pub vars i ++ numB [g.q0, g.q1, g.q2, g.q3, g.q4]) ++ b4 .i64 g.w0) ++ b4 .i64 g.w1) ++ b4 .i64 g.w2) (IntKind.i64.wrap ((i : Int) + 1))) (by kernel_rfl)
    (And.intro (show (ofL (((outC gs pub vars i ++ numB [g.q0, g.q1, g.q2, g.q3, g.q4]) ++ b4 .i64 g.w0) ++ b4 .i64 g.w1)).size + (ofL (b4 .i64 g.w2)).size ≤ 9223372036854775807 from by
        have h1 := outC_length gs pub vars i
        have h2 := numB5 g
        show (((outC gs pub vars i ++ numB [g.q0, g.q1, g.q2, g.q3, g.q4]) ++ b4 .i64 g.w0) ++ b4 .i64 g.w1).length + (b4 .i64 g.w2).length ≤ _
        (try simp only [List.length_append, b4_length])
        (try simp only [gN] at h2)
        omega)
      (And.intro (show (ofL ((outC gs pub vars i ++ numB [g.q0, g.q1, g.q2, g.q3, g.q4]) ++ b4 .i64 g.w0)).size + (ofL (b4 .i64 g.w1)).size ≤ 9223372036854775807 from by
        have h1 := outC_length gs pub vars i
        have h2 := numB5 g
        show ((outC gs pub vars i ++ numB [g.q0, g.q1, g.q2, g.q3, g.q4]) ++ b4 .i64 g.w0).length + (b4 .i64 g.w1).length ≤ _
        (try simp only [List.length_append, b4_length])
        (try simp only [gN] at h2)
        omega)
      (And.intro (show (ofL (outC gs pub vars i ++ numB [g.q0, g.q1, g.q2, g.q3, g.q4])).size + (ofL (b4 .i64 g.w0)).size ≤ 9223372036854775807 from by
        have h1 := outC_length gs pub vars i
        have h2 := numB5 g
        show (outC gs pub vars i ++ numB [g.q0, g.q1, g.q2, g.q3, g.q4]).length + (b4 .i64 g.w0).length ≤ _
        (try simp only [List.length_append, b4_length])
        (try simp only [gN] at h2)
        omega)
      (And.intro (show (ofL (outC gs pub vars i)).size + (ofL (numB [g.q0, g.q1, g.q2, g.q3, g.q4])).size ≤ 9223372036854775807 from by
        have h1 := outC_length gs pub vars i
        have h2 := numB5 g
        show (outC gs pub vars i).length + (numB [g.q0, g.q1, g.q2, g.q3, g.q4]).length ≤ _
        (try simp only [List.length_append, b4_length])
        (try simp only [gN] at h2)
        omega)
      (And.intro (show [g.q0, g.q1, g.q2, g.q3, g.q4].length ≤ 1000000 ∧ sm4 [g.q0, g.q1, g.q2, g.q3, g.q4] from ⟨by simp, hs⟩)
      (And.intro (show [g.q0, g.q1, g.q2, g.q3, g.q4].length ≤ 1000000 ∧ sm4 [g.q0, g.q1, g.q2, g.q3, g.q4] ∧ ¬ cleanN [g.q0, g.q1, g.q2, g.q3, g.q4] from ⟨by simp, hs, hc⟩)
      (And.intro (gate_at gs i g hg)
      (And.intro (show (i : Int) = ((i : Nat) : Int) ∧ i < gs.length from ⟨rfl, hi⟩)
      (And.intro (show decide ((i : Int) < ((gs.length : Nat) : Int)) = true from decide_eq_true (by omega)) trivial)))))))))
  have hw := want_succ (pub := pub) (vars := vars) hg
  simp only [gN] at hw
  rw [show IntKind.i64.wrap ((i : Int) + 1) = ((i + 1 : Nat) : Int) by rw [wrap_i64]; omega, hw] at hs
  exact hs
theorem lwA_end (gs : List GT) (sb : List UInt8) (e bad : Int) (want : List UInt8) : Sound Try.prog 0 false (loopB Try.f3 0) (lwAI gs sb e bad want ((gs.length : Nat) : Int)).aa (.exit 0) (lwAE sb e bad want).aa :=
  roundK_sound (P := Try.prog) (X := rulesY _) (env := []) trivial (n := 0) (os := oL [(50, wF)]) (fb := 0) (rd := false) (c := (loopB Try.f3 0)) (k := 50) (I := lwAI gs sb e bad want ((gs.length : Nat) : Int)) (sk := [3, 4, 5, 6]) (hk := []) (lk := []) (ex := .exit 0)
    (L := lwAE sb e bad want) (by kernel_rfl) (And.intro (show decide (((gs.length : Nat) : Int) < ((gs.length : Nat) : Int)) = false from decide_eq_false (by omega)) trivial)
theorem lwA_all (gs : List GT) (pub vars : Int) (hm : gs.length ≤ 4096) (sb : List UInt8) (e : Int) (hs : ∀ g, g ∈ gs → smG g) : Sound Try.prog 0 false (.loop (loopB Try.f3 0)) (lwAI gs sb e 0 (outC gs pub vars 0) 0).aa (.exit 0) (lwAE sb e (bd gs) (outC gs pub vars gs.length)).aa := by
  have h0 : bd (gs.take 0) = 0 := by unfold bd; rw [if_pos]; intro g hg; simp at hg
  have key := loop_ok (P := Try.prog) (m := fun y : { i : Nat // i ≤ gs.length } => gs.length - y.val) (fun y => lwAI gs sb e (bd (gs.take y.val)) (outC gs pub vars y.val) (y.val : Int)) (fb := 0) (rd := false) (body := (loopB Try.f3 0)) (ex := .exit 0) (E := lwAE sb e (bd gs) (outC gs pub vars gs.length)) (by simp) (fun y => ?_) ⟨0, by omega⟩
  · simp only [h0] at key
    exact key
  · obtain ⟨i, hi⟩ := y
    by_cases el : i < gs.length
    · obtain ⟨g, hg⟩ := gof el
      refine .inl ⟨⟨i + 1, el⟩, by show gs.length - (i + 1) < gs.length - i; omega, ?_⟩
      by_cases hc : cleanG g
      · have h1 := lwA_ok gs pub vars hm sb e (bd (gs.take i)) i g hg (hs g (gmem hg)) hc
        show Sound Try.prog 0 false _ _ .normal (lwAI gs sb e (bd (gs.take (i + 1))) _ _).aa
        rw [bd_succ gs i g hg, if_pos hc]
        exact h1
      · have h1 := lwA_un gs pub vars hm sb e (bd (gs.take i)) i g hg (hs g (gmem hg)) hc
        show Sound Try.prog 0 false _ _ .normal (lwAI gs sb e (bd (gs.take (i + 1))) _ _).aa
        rw [bd_succ gs i g hg, if_neg hc]
        exact h1
    · have el : i = gs.length := by omega
      subst el
      refine .inr ?_
      show Sound Try.prog 0 false _ (lwAI gs sb e (bd (gs.take gs.length)) _ _).aa _ _
      rw [List.take_length]
      exact lwA_end gs sb e _ _
theorem fcA_r (gs : List GT) (pub vars : Int) (h20 : gs.length ≤ 20) (h : ¬ rightC gs pub vars) : Gives Try.prog 3 [.ags [.z [.l (gsC gs)] gs.length, .c (.c (.int .i64 pub)), .c (.c (.int .i64 vars))]] (.v (.bool true)) :=
  fn_gives_at (P := Try.prog) (X := rulesY _) (env := [eFAlive, eLClean, eLNum, eLCnt]) ⟨eFAlive_ok, eLClean_ok, eLNum_ok, eLCnt_ok, trivial⟩ Try.func3 1 (oL [(9, wF), (17, { ch := 0, hi := fun _ => 0, ex := 7, av := fun _ => .tp [.v (.string (ofL [])), .v (.int .i64 1)] }), (28, rO 6 0), (32, rO 6 0), (36, rO 6 0), (39, { ch := 0, hi := fun _ => 0, ex := 7, av := fun _ => .v (.bool false) }), (62, wT)]) (by kernel_rfl) ⟨_, rfl⟩
    (And.intro (show ((ofL []).toList == (ofL []).toList) = true from by simp)
      (And.intro (show GivesE Try.prog 9 [.ags [.z [.l (gsC gs)] gs.length, .c (.c (.int .i64 pub)), .c (.c (.int .i64 vars))]] (.v (.bool false)) from ⟨fun vs w => Go.Proofs.enters_of (P := Try.prog) Try.func9 (by kernel_rfl) rfl vs w, r18_no gs pub vars (by omega) h⟩)
      (And.intro (show (ofL ((mgC ++ (b4 .i64 (gs.length : Nat))) ++ (b4 .i64 pub))).size + (ofL (b4 .i64 vars)).size ≤ 9223372036854775807 from by show 12 + 4 ≤ _; decide)
      (And.intro (show (ofL (mgC ++ (b4 .i64 (gs.length : Nat)))).size + (ofL (b4 .i64 pub)).size ≤ 9223372036854775807 from by show 8 + 4 ≤ _; decide)
      (And.intro (show (ofL mgC).size + (ofL (b4 .i64 (gs.length : Nat))).size ≤ 9223372036854775807 from by show 4 + 4 ≤ _; decide)
      (And.intro (show GivesE Try.prog 7 [.ags [.z [.l (gsC gs)] gs.length, .c (.c (.int .i64 pub)), .c (.c (.int .i64 vars))]] (.tp [.v (.string (ofL [])), .v (.int .i64 1)]) from ⟨fun vs w => Go.Proofs.enters_of (P := Try.prog) Try.func7 (by kernel_rfl) rfl vs w, put_r gs pub vars h⟩)
      (And.intro (show decide (((gs.length : Nat) : Int) > 20) = false from decide_eq_false (by omega)) trivial)))))))
theorem fcA_big (gs : List GT) (pub vars : Int) (hm : gs.length ≤ 9223372036854775807) (hb : 4096 < gs.length) : Gives Try.prog 3 [.ags [.z [.l (gsC gs)] gs.length, .c (.c (.int .i64 pub)), .c (.c (.int .i64 vars))]] (.v (.bool true)) :=
  fn_gives_at (P := Try.prog) (X := rulesY _) (env := [eFAlive, eLClean, eLNum, eLCnt]) ⟨eFAlive_ok, eLClean_ok, eLNum_ok, eLCnt_ok, trivial⟩ Try.func3 1 (oL [(9, wT), (14, wF), (17, { ch := 0, hi := fun _ => 0, ex := 7, av := fun _ => .tp [.v (.string (ofL [])), .v (.int .i64 1)] }), (28, rO 6 0), (32, rO 6 0), (36, rO 6 0), (39, { ch := 0, hi := fun _ => 0, ex := 7, av := fun _ => .v (.bool false) }), (62, wT)]) (by kernel_rfl) ⟨_, rfl⟩
    (And.intro (show ((ofL []).toList == (ofL []).toList) = true from by simp)
      (And.intro (show GivesE Try.prog 9 [.ags [.z [.l (gsC gs)] gs.length, .c (.c (.int .i64 pub)), .c (.c (.int .i64 vars))]] (.v (.bool false)) from ⟨fun vs w => Go.Proofs.enters_of (P := Try.prog) Try.func9 (by kernel_rfl) rfl vs w, r18_no gs pub vars hm (fun h => by have := h.1; omega)⟩)
      (And.intro (show (ofL ((mgC ++ (b4 .i64 (gs.length : Nat))) ++ (b4 .i64 pub))).size + (ofL (b4 .i64 vars)).size ≤ 9223372036854775807 from by show 12 + 4 ≤ _; decide)
      (And.intro (show (ofL (mgC ++ (b4 .i64 (gs.length : Nat)))).size + (ofL (b4 .i64 pub)).size ≤ 9223372036854775807 from by show 8 + 4 ≤ _; decide)
      (And.intro (show (ofL mgC).size + (ofL (b4 .i64 (gs.length : Nat))).size ≤ 9223372036854775807 from by show 4 + 4 ≤ _; decide)
      (And.intro (show GivesE Try.prog 7 [.ags [.z [.l (gsC gs)] gs.length, .c (.c (.int .i64 pub)), .c (.c (.int .i64 vars))]] (.tp [.v (.string (ofL [])), .v (.int .i64 1)]) from ⟨fun vs w => Go.Proofs.enters_of (P := Try.prog) Try.func7 (by kernel_rfl) rfl vs w, put_r gs pub vars (fun h => by have := h.1; omega)⟩)
      (And.intro (show decide (((gs.length : Nat) : Int) ≤ 4096) = false from decide_eq_false (by omega))
      (And.intro (show decide (((gs.length : Nat) : Int) > 20) = true from decide_eq_true (by omega)) trivial))))))))
theorem fcA_v (gs : List GT) (pub vars : Int) (h20 : gs.length ≤ 20) (h : rightC gs pub vars) (hv : vars > 2147483647) : Gives Try.prog 3 [.ags [.z [.l (gsC gs)] gs.length, .c (.c (.int .i64 pub)), .c (.c (.int .i64 vars))]] (.v (.bool true)) :=
  fn_gives_at (P := Try.prog) (X := rulesY _) (env := [eFAlive, eLClean, eLNum, eLCnt]) ⟨eFAlive_ok, eLClean_ok, eLNum_ok, eLCnt_ok, trivial⟩ Try.func3 1 (oL [(9, wF), (17, { ch := 0, hi := fun _ => 0, ex := 7, av := fun _ => .tp [.v (.string (ofL [])), .v (.int .i64 1)] }), (28, rO 6 0), (32, rO 6 0), (36, rO 6 0), (39, { ch := 0, hi := fun _ => 0, ex := 7, av := fun _ => .v (.bool true) }), (44, wT), (62, wT)]) (by kernel_rfl) ⟨_, rfl⟩
    (And.intro (show ((ofL []).toList == (ofL []).toList) = true from by simp)
      (And.intro (show decide (vars > 2147483647) = true from decide_eq_true hv)
      (And.intro (show GivesE Try.prog 9 [.ags [.z [.l (gsC gs)] gs.length, .c (.c (.int .i64 pub)), .c (.c (.int .i64 vars))]] (.v (.bool true)) from ⟨fun vs w => Go.Proofs.enters_of (P := Try.prog) Try.func9 (by kernel_rfl) rfl vs w, r18_yes gs pub vars (by have := h.1; omega) h⟩)
      (And.intro (show (ofL ((mgC ++ (b4 .i64 (gs.length : Nat))) ++ (b4 .i64 pub))).size + (ofL (b4 .i64 vars)).size ≤ 9223372036854775807 from by show 12 + 4 ≤ _; decide)
      (And.intro (show (ofL (mgC ++ (b4 .i64 (gs.length : Nat)))).size + (ofL (b4 .i64 pub)).size ≤ 9223372036854775807 from by show 8 + 4 ≤ _; decide)
      (And.intro (show (ofL mgC).size + (ofL (b4 .i64 (gs.length : Nat))).size ≤ 9223372036854775807 from by show 4 + 4 ≤ _; decide)
      (And.intro (show GivesE Try.prog 7 [.ags [.z [.l (gsC gs)] gs.length, .c (.c (.int .i64 pub)), .c (.c (.int .i64 vars))]] (.tp [.v (.string (ofL [])), .v (.int .i64 1)]) from ⟨fun vs w => Go.Proofs.enters_of (P := Try.prog) Try.func7 (by kernel_rfl) rfl vs w, put_v gs pub vars h hv⟩)
      (And.intro (show decide (((gs.length : Nat) : Int) > 20) = false from decide_eq_false (by omega)) trivial))))))))
theorem fcA_k (gs : List GT) (pub vars : Int) (h20 : gs.length ≤ 20) (h : rightC gs pub vars) (hv : ¬ vars > 2147483647) (hs : ∀ g, g ∈ gs → smG g) (hc : ∀ g, g ∈ gs → cleanG g) : Gives Try.prog 3 [.ags [.z [.l (gsC gs)] gs.length, .c (.c (.int .i64 pub)), .c (.c (.int .i64 vars))]] (.v (.bool true)) :=
  fn_gives_at (P := Try.prog) (X := rulesY _) (env := [eFAlive, eLClean, eLNum, eLCnt]) ⟨eFAlive_ok, eLClean_ok, eLNum_ok, eLCnt_ok, trivial⟩ Try.func3 1 (oL [(9, wF), (17, { ch := 0, hi := fun _ => 0, ex := 7, av := fun _ => .tp [.v (.string (ofL (outC gs pub vars gs.length))), .v (.int .i64 0)] }), (28, rO 6 0), (32, rO 6 0), (36, rO 6 0), (39, { ch := 0, hi := fun _ => 0, ex := 7, av := fun _ => .v (.bool true) }), (44, wF), (50, lpO { I := lwAI gs (outC gs pub vars gs.length) 0 0 (((mgC ++ (b4 .i64 (gs.length : Nat))) ++ (b4 .i64 pub)) ++ (b4 .i64 vars)) 0, ex := .exit 0, E := lwAE (outC gs pub vars gs.length) 0 0 (outC gs pub vars gs.length), fr := 51 }), (66, wT)]) (by kernel_rfl) ⟨_, rfl⟩
    (And.intro (show ((ofL (outC gs pub vars gs.length)).toList == (ofL (outC gs pub vars gs.length)).toList) = true from by simp)
      (And.intro (show some (lwAI gs (outC gs pub vars gs.length) 0 0 (((mgC ++ (b4 .i64 (gs.length : Nat))) ++ (b4 .i64 pub)) ++ (b4 .i64 vars)) 0) = some (lwAI gs (outC gs pub vars gs.length) 0 0 (((mgC ++ (b4 .i64 (gs.length : Nat))) ++ (b4 .i64 pub)) ++ (b4 .i64 vars)) 0) from rfl)
      (And.intro ((by have hl := lwA_all gs pub vars h.1 (outC gs pub vars gs.length) 0 hs; rw [show bd gs = 0 from if_pos hc, ← want_zero] at hl; exact hl))
      (And.intro (show decide (vars > 2147483647) = false from decide_eq_false hv)
      (And.intro (show GivesE Try.prog 9 [.ags [.z [.l (gsC gs)] gs.length, .c (.c (.int .i64 pub)), .c (.c (.int .i64 vars))]] (.v (.bool true)) from ⟨fun vs w => Go.Proofs.enters_of (P := Try.prog) Try.func9 (by kernel_rfl) rfl vs w, r18_yes gs pub vars (by have := h.1; omega) h⟩)
      (And.intro (show (ofL ((mgC ++ (b4 .i64 (gs.length : Nat))) ++ (b4 .i64 pub))).size + (ofL (b4 .i64 vars)).size ≤ 9223372036854775807 from by show 12 + 4 ≤ _; decide)
      (And.intro (show (ofL (mgC ++ (b4 .i64 (gs.length : Nat)))).size + (ofL (b4 .i64 pub)).size ≤ 9223372036854775807 from by show 8 + 4 ≤ _; decide)
      (And.intro (show (ofL mgC).size + (ofL (b4 .i64 (gs.length : Nat))).size ≤ 9223372036854775807 from by show 4 + 4 ≤ _; decide)
      (And.intro (show GivesE Try.prog 7 [.ags [.z [.l (gsC gs)] gs.length, .c (.c (.int .i64 pub)), .c (.c (.int .i64 vars))]] (.tp [.v (.string (ofL (outC gs pub vars gs.length))), .v (.int .i64 0)]) from ⟨fun vs w => Go.Proofs.enters_of (P := Try.prog) Try.func7 (by kernel_rfl) rfl vs w, put_k gs pub vars h hv hs hc⟩)
      (And.intro (show decide (((gs.length : Nat) : Int) > 20) = false from decide_eq_false (by omega)) trivial))))))))))
theorem fcA_u (gs : List GT) (pub vars : Int) (h20 : gs.length ≤ 20) (h : rightC gs pub vars) (hv : ¬ vars > 2147483647) (hs : ∀ g, g ∈ gs → smG g) (hc : ¬ ∀ g, g ∈ gs → cleanG g) : Gives Try.prog 3 [.ags [.z [.l (gsC gs)] gs.length, .c (.c (.int .i64 pub)), .c (.c (.int .i64 vars))]] (.v (.bool true)) :=
  fn_gives_at (P := Try.prog) (X := rulesY _) (env := [eFAlive, eLClean, eLNum, eLCnt]) ⟨eFAlive_ok, eLClean_ok, eLNum_ok, eLCnt_ok, trivial⟩ Try.func3 1 (oL [(9, wF), (17, { ch := 0, hi := fun _ => 0, ex := 7, av := fun _ => .tp [.v (.string (ofL [])), .v (.int .i64 1)] }), (28, rO 6 0), (32, rO 6 0), (36, rO 6 0), (39, { ch := 0, hi := fun _ => 0, ex := 7, av := fun _ => .v (.bool true) }), (44, wF), (50, lpO { I := lwAI gs [] 1 0 (((mgC ++ (b4 .i64 (gs.length : Nat))) ++ (b4 .i64 pub)) ++ (b4 .i64 vars)) 0, ex := .exit 0, E := lwAE [] 1 1 (outC gs pub vars gs.length), fr := 51 }), (66, wT)]) (by kernel_rfl) ⟨_, rfl⟩
    (And.intro (show ((ofL []).toList == (ofL []).toList) = true from by simp)
      (And.intro (show some (lwAI gs [] 1 0 (((mgC ++ (b4 .i64 (gs.length : Nat))) ++ (b4 .i64 pub)) ++ (b4 .i64 vars)) 0) = some (lwAI gs [] 1 0 (((mgC ++ (b4 .i64 (gs.length : Nat))) ++ (b4 .i64 pub)) ++ (b4 .i64 vars)) 0) from rfl)
      (And.intro ((by have hl := lwA_all gs pub vars h.1 [] 1 hs; rw [show bd gs = 1 from if_neg hc, ← want_zero] at hl; exact hl))
      (And.intro (show decide (vars > 2147483647) = false from decide_eq_false hv)
      (And.intro (show GivesE Try.prog 9 [.ags [.z [.l (gsC gs)] gs.length, .c (.c (.int .i64 pub)), .c (.c (.int .i64 vars))]] (.v (.bool true)) from ⟨fun vs w => Go.Proofs.enters_of (P := Try.prog) Try.func9 (by kernel_rfl) rfl vs w, r18_yes gs pub vars (by have := h.1; omega) h⟩)
      (And.intro (show (ofL ((mgC ++ (b4 .i64 (gs.length : Nat))) ++ (b4 .i64 pub))).size + (ofL (b4 .i64 vars)).size ≤ 9223372036854775807 from by show 12 + 4 ≤ _; decide)
      (And.intro (show (ofL (mgC ++ (b4 .i64 (gs.length : Nat)))).size + (ofL (b4 .i64 pub)).size ≤ 9223372036854775807 from by show 8 + 4 ≤ _; decide)
      (And.intro (show (ofL mgC).size + (ofL (b4 .i64 (gs.length : Nat))).size ≤ 9223372036854775807 from by show 4 + 4 ≤ _; decide)
      (And.intro (show GivesE Try.prog 7 [.ags [.z [.l (gsC gs)] gs.length, .c (.c (.int .i64 pub)), .c (.c (.int .i64 vars))]] (.tp [.v (.string (ofL [])), .v (.int .i64 1)]) from ⟨fun vs w => Go.Proofs.enters_of (P := Try.prog) Try.func7 (by kernel_rfl) rfl vs w, (by rcases gate_clean gs with hh | ⟨j, x, e1, e2, e3⟩; exact absurd hh hc; exact put_u gs pub vars h hv hs j x e1 e2 e3)⟩)
      (And.intro (show decide (((gs.length : Nat) : Int) > 20) = false from decide_eq_false (by omega)) trivial))))))))))
def lwBI (gs : List GT) (sb : List UInt8) (e bad : Int) (want : List UInt8) (z : Int) : LState := { n := 104, sl := [(3, .v (.string (ofL sb))), (4, .v (.int .i64 e)), (5, .v (.int .i64 bad)), (6, .v (.string (ofL want))), (52, .sz 18 gs.length), (53, .v (.int .i64 ((gs.length : Nat) : Int))), (54, .v (.int .i64 z))], hp := [(18, .rz [.l (gsC gs)])] }
def lwBE (sb : List UInt8) (e bad : Int) (want : List UInt8) : LState := { n := 104, sl := [(3, .v (.string (ofL sb))), (4, .v (.int .i64 e)), (5, .v (.int .i64 bad)), (6, .v (.string (ofL want)))], hp := [] }
theorem lwB_ok (gs : List GT) (pub vars : Int) (hm : gs.length ≤ 4096) (sb : List UInt8) (e bad : Int) (i : Nat) (g : GT) (hg : gs[i]? = some g) (hs : smG g) (hc : cleanG g) : Sound Try.prog 0 false (loopB Try.f3 0) (lwBI gs sb e bad (outC gs pub vars i) (i : Int)).aa .normal (lwBI gs sb e bad (outC gs pub vars (i + 1)) ((i + 1 : Nat) : Int)).aa := by
  have hi := glt hg
  have hs := roundK_sound (P := Try.prog) (X := rulesY _) (env := [eFAlive, eLClean, eLNum, eLCnt]) ⟨eFAlive_ok, eLClean_ok, eLNum_ok, eLCnt_ok, trivial⟩ (n := 0) (os := oL [(55, wT), (56, rO 14 i), (57, { ch := 0, hi := fun _ => 0, ru := 8, cs := fun _ => gP g }), (71, wO 0), (86, rO 6 0), (97, rO 6 0), (107, rO 6 0), (117, rO 6 0)]) (fb := 0) (rd := false) (c := (loopB Try.f3 0)) (k := 55) (I := lwBI gs sb e bad (outC gs pub vars i) (i : Int)) (sk := [3, 4, 5, 6, 52, 53, 54]) (hk := [18]) (lk := []) (ex := .normal)
    (L := lwBI gs sb e bad ((((outC gs pub vars i ++ numB [g.q0, g.q1, g.q2, g.q3, g.q4]) ++ b4 .i64 g.w0) ++ b4 .i64 g.w1) ++ b4 .i64 g.w2) (IntKind.i64.wrap ((i : Int) + 1))) (by kernel_rfl)
    (And.intro (show (ofL (((outC gs pub vars i ++ numB [g.q0, g.q1, g.q2, g.q3, g.q4]) ++ b4 .i64 g.w0) ++ b4 .i64 g.w1)).size + (ofL (b4 .i64 g.w2)).size ≤ 9223372036854775807 from by
        have h1 := outC_length gs pub vars i
        have h2 := numB5 g
        show (((outC gs pub vars i ++ numB [g.q0, g.q1, g.q2, g.q3, g.q4]) ++ b4 .i64 g.w0) ++ b4 .i64 g.w1).length + (b4 .i64 g.w2).length ≤ _
        (try simp only [List.length_append, b4_length])
        (try simp only [gN] at h2)
        omega)
      (And.intro (show (ofL ((outC gs pub vars i ++ numB [g.q0, g.q1, g.q2, g.q3, g.q4]) ++ b4 .i64 g.w0)).size + (ofL (b4 .i64 g.w1)).size ≤ 9223372036854775807 from by
        have h1 := outC_length gs pub vars i
        have h2 := numB5 g
        show ((outC gs pub vars i ++ numB [g.q0, g.q1, g.q2, g.q3, g.q4]) ++ b4 .i64 g.w0).length + (b4 .i64 g.w1).length ≤ _
        (try simp only [List.length_append, b4_length])
        (try simp only [gN] at h2)
        omega)
      (And.intro (show (ofL (outC gs pub vars i ++ numB [g.q0, g.q1, g.q2, g.q3, g.q4])).size + (ofL (b4 .i64 g.w0)).size ≤ 9223372036854775807 from by
        have h1 := outC_length gs pub vars i
        have h2 := numB5 g
        show (outC gs pub vars i ++ numB [g.q0, g.q1, g.q2, g.q3, g.q4]).length + (b4 .i64 g.w0).length ≤ _
        (try simp only [List.length_append, b4_length])
        (try simp only [gN] at h2)
        omega)
      (And.intro (show (ofL (outC gs pub vars i)).size + (ofL (numB [g.q0, g.q1, g.q2, g.q3, g.q4])).size ≤ 9223372036854775807 from by
        have h1 := outC_length gs pub vars i
        have h2 := numB5 g
        show (outC gs pub vars i).length + (numB [g.q0, g.q1, g.q2, g.q3, g.q4]).length ≤ _
        (try simp only [List.length_append, b4_length])
        (try simp only [gN] at h2)
        omega)
      (And.intro (show [g.q0, g.q1, g.q2, g.q3, g.q4].length ≤ 1000000 ∧ sm4 [g.q0, g.q1, g.q2, g.q3, g.q4] from ⟨by simp, hs⟩)
      (And.intro (show [g.q0, g.q1, g.q2, g.q3, g.q4].length ≤ 1000000 ∧ sm4 [g.q0, g.q1, g.q2, g.q3, g.q4] ∧ cleanN [g.q0, g.q1, g.q2, g.q3, g.q4] from ⟨by simp, hs, hc⟩)
      (And.intro (gate_at gs i g hg)
      (And.intro (show (i : Int) = ((i : Nat) : Int) ∧ i < gs.length from ⟨rfl, hi⟩)
      (And.intro (show decide ((i : Int) < ((gs.length : Nat) : Int)) = true from decide_eq_true (by omega)) trivial)))))))))
  have hw := want_succ (pub := pub) (vars := vars) hg
  simp only [gN] at hw
  rw [show IntKind.i64.wrap ((i : Int) + 1) = ((i + 1 : Nat) : Int) by rw [wrap_i64]; omega, hw] at hs
  exact hs
theorem lwB_un (gs : List GT) (pub vars : Int) (hm : gs.length ≤ 4096) (sb : List UInt8) (e bad : Int) (i : Nat) (g : GT) (hg : gs[i]? = some g) (hs : smG g) (hc : ¬ cleanG g) : Sound Try.prog 0 false (loopB Try.f3 0) (lwBI gs sb e bad (outC gs pub vars i) (i : Int)).aa .normal (lwBI gs sb e 1 (outC gs pub vars (i + 1)) ((i + 1 : Nat) : Int)).aa := by
  have hi := glt hg
  have hs := roundK_sound (P := Try.prog) (X := rulesY _) (env := [eFAlive, eLClean, eLNum, eLCnt]) ⟨eFAlive_ok, eLClean_ok, eLNum_ok, eLCnt_ok, trivial⟩ (n := 0) (os := oL [(55, wT), (56, rO 14 i), (57, { ch := 0, hi := fun _ => 0, ru := 8, cs := fun _ => gP g }), (71, wO 1), (87, rO 6 0), (98, rO 6 0), (108, rO 6 0), (118, rO 6 0)]) (fb := 0) (rd := false) (c := (loopB Try.f3 0)) (k := 55) (I := lwBI gs sb e bad (outC gs pub vars i) (i : Int)) (sk := [3, 4, 5, 6, 52, 53, 54]) (hk := [18]) (lk := []) (ex := .normal)
    (L := lwBI gs sb e 1 ((((outC gs pub vars i ++ numB [g.q0, g.q1, g.q2, g.q3, g.q4]) ++ b4 .i64 g.w0) ++ b4 .i64 g.w1) ++ b4 .i64 g.w2) (IntKind.i64.wrap ((i : Int) + 1))) (by kernel_rfl)
    (And.intro (show (ofL (((outC gs pub vars i ++ numB [g.q0, g.q1, g.q2, g.q3, g.q4]) ++ b4 .i64 g.w0) ++ b4 .i64 g.w1)).size + (ofL (b4 .i64 g.w2)).size ≤ 9223372036854775807 from by
        have h1 := outC_length gs pub vars i
        have h2 := numB5 g
        show (((outC gs pub vars i ++ numB [g.q0, g.q1, g.q2, g.q3, g.q4]) ++ b4 .i64 g.w0) ++ b4 .i64 g.w1).length + (b4 .i64 g.w2).length ≤ _
        (try simp only [List.length_append, b4_length])
        (try simp only [gN] at h2)
        omega)
      (And.intro (show (ofL ((outC gs pub vars i ++ numB [g.q0, g.q1, g.q2, g.q3, g.q4]) ++ b4 .i64 g.w0)).size + (ofL (b4 .i64 g.w1)).size ≤ 9223372036854775807 from by
        have h1 := outC_length gs pub vars i
        have h2 := numB5 g
        show ((outC gs pub vars i ++ numB [g.q0, g.q1, g.q2, g.q3, g.q4]) ++ b4 .i64 g.w0).length + (b4 .i64 g.w1).length ≤ _
        (try simp only [List.length_append, b4_length])
        (try simp only [gN] at h2)
        omega)
      (And.intro (show (ofL (outC gs pub vars i ++ numB [g.q0, g.q1, g.q2, g.q3, g.q4])).size + (ofL (b4 .i64 g.w0)).size ≤ 9223372036854775807 from by
        have h1 := outC_length gs pub vars i
        have h2 := numB5 g
        show (outC gs pub vars i ++ numB [g.q0, g.q1, g.q2, g.q3, g.q4]).length + (b4 .i64 g.w0).length ≤ _
        (try simp only [List.length_append, b4_length])
        (try simp only [gN] at h2)
        omega)
      (And.intro (show (ofL (outC gs pub vars i)).size + (ofL (numB [g.q0, g.q1, g.q2, g.q3, g.q4])).size ≤ 9223372036854775807 from by
        have h1 := outC_length gs pub vars i
        have h2 := numB5 g
        show (outC gs pub vars i).length + (numB [g.q0, g.q1, g.q2, g.q3, g.q4]).length ≤ _
        (try simp only [List.length_append, b4_length])
        (try simp only [gN] at h2)
        omega)
      (And.intro (show [g.q0, g.q1, g.q2, g.q3, g.q4].length ≤ 1000000 ∧ sm4 [g.q0, g.q1, g.q2, g.q3, g.q4] from ⟨by simp, hs⟩)
      (And.intro (show [g.q0, g.q1, g.q2, g.q3, g.q4].length ≤ 1000000 ∧ sm4 [g.q0, g.q1, g.q2, g.q3, g.q4] ∧ ¬ cleanN [g.q0, g.q1, g.q2, g.q3, g.q4] from ⟨by simp, hs, hc⟩)
      (And.intro (gate_at gs i g hg)
      (And.intro (show (i : Int) = ((i : Nat) : Int) ∧ i < gs.length from ⟨rfl, hi⟩)
      (And.intro (show decide ((i : Int) < ((gs.length : Nat) : Int)) = true from decide_eq_true (by omega)) trivial)))))))))
  have hw := want_succ (pub := pub) (vars := vars) hg
  simp only [gN] at hw
  rw [show IntKind.i64.wrap ((i : Int) + 1) = ((i + 1 : Nat) : Int) by rw [wrap_i64]; omega, hw] at hs
  exact hs
theorem lwB_end (gs : List GT) (sb : List UInt8) (e bad : Int) (want : List UInt8) : Sound Try.prog 0 false (loopB Try.f3 0) (lwBI gs sb e bad want ((gs.length : Nat) : Int)).aa (.exit 0) (lwBE sb e bad want).aa :=
  roundK_sound (P := Try.prog) (X := rulesY _) (env := []) trivial (n := 0) (os := oL [(55, wF)]) (fb := 0) (rd := false) (c := (loopB Try.f3 0)) (k := 55) (I := lwBI gs sb e bad want ((gs.length : Nat) : Int)) (sk := [3, 4, 5, 6]) (hk := []) (lk := []) (ex := .exit 0)
    (L := lwBE sb e bad want) (by kernel_rfl) (And.intro (show decide (((gs.length : Nat) : Int) < ((gs.length : Nat) : Int)) = false from decide_eq_false (by omega)) trivial)
theorem lwB_all (gs : List GT) (pub vars : Int) (hm : gs.length ≤ 4096) (sb : List UInt8) (e : Int) (hs : ∀ g, g ∈ gs → smG g) : Sound Try.prog 0 false (.loop (loopB Try.f3 0)) (lwBI gs sb e 0 (outC gs pub vars 0) 0).aa (.exit 0) (lwBE sb e (bd gs) (outC gs pub vars gs.length)).aa := by
  have h0 : bd (gs.take 0) = 0 := by unfold bd; rw [if_pos]; intro g hg; simp at hg
  have key := loop_ok (P := Try.prog) (m := fun y : { i : Nat // i ≤ gs.length } => gs.length - y.val) (fun y => lwBI gs sb e (bd (gs.take y.val)) (outC gs pub vars y.val) (y.val : Int)) (fb := 0) (rd := false) (body := (loopB Try.f3 0)) (ex := .exit 0) (E := lwBE sb e (bd gs) (outC gs pub vars gs.length)) (by simp) (fun y => ?_) ⟨0, by omega⟩
  · simp only [h0] at key
    exact key
  · obtain ⟨i, hi⟩ := y
    by_cases el : i < gs.length
    · obtain ⟨g, hg⟩ := gof el
      refine .inl ⟨⟨i + 1, el⟩, by show gs.length - (i + 1) < gs.length - i; omega, ?_⟩
      by_cases hc : cleanG g
      · have h1 := lwB_ok gs pub vars hm sb e (bd (gs.take i)) i g hg (hs g (gmem hg)) hc
        show Sound Try.prog 0 false _ _ .normal (lwBI gs sb e (bd (gs.take (i + 1))) _ _).aa
        rw [bd_succ gs i g hg, if_pos hc]
        exact h1
      · have h1 := lwB_un gs pub vars hm sb e (bd (gs.take i)) i g hg (hs g (gmem hg)) hc
        show Sound Try.prog 0 false _ _ .normal (lwBI gs sb e (bd (gs.take (i + 1))) _ _).aa
        rw [bd_succ gs i g hg, if_neg hc]
        exact h1
    · have el : i = gs.length := by omega
      subst el
      refine .inr ?_
      show Sound Try.prog 0 false _ (lwBI gs sb e (bd (gs.take gs.length)) _ _).aa _ _
      rw [List.take_length]
      exact lwB_end gs sb e _ _
theorem fcB_r (g0 gs : List GT) (h20 : gs = g0.take 20) (hbig : 20 < g0.length) (hle : g0.length ≤ 4096) (pub vars : Int) (h : ¬ rightC gs pub vars) : Gives Try.prog 3 [.ags [.z [.l (gsC g0)] g0.length, .c (.c (.int .i64 pub)), .c (.c (.int .i64 vars))]] (.v (.bool true)) :=
  fn_gives_at (P := Try.prog) (X := rulesY _) (env := [eFAlive, eLClean, eLNum, eLCnt]) ⟨eFAlive_ok, eLClean_ok, eLNum_ok, eLCnt_ok, trivial⟩ Try.func3 1 (oL [(9, wT), (14, wT), (18, { ch := 0, hi := fun _ => gs.length, ex := 6, cs := fun _ => [.l (gsC gs)] }), (22, { ch := 0, hi := fun _ => 0, ex := 7, av := fun _ => .tp [.v (.string (ofL [])), .v (.int .i64 1)] }), (33, rO 6 0), (37, rO 6 0), (41, rO 6 0), (44, { ch := 0, hi := fun _ => 0, ex := 7, av := fun _ => .v (.bool false) }), (67, wT)]) (by kernel_rfl) ⟨_, rfl⟩
    (And.intro (show ((ofL []).toList == (ofL []).toList) = true from by simp)
      (And.intro (show GivesE Try.prog 9 [.ags [.z [.l (gsC gs)] gs.length, .c (.c (.int .i64 pub)), .c (.c (.int .i64 vars))]] (.v (.bool false)) from ⟨fun vs w => Go.Proofs.enters_of (P := Try.prog) Try.func9 (by kernel_rfl) rfl vs w, r18_no gs pub vars (by have := len20 h20; omega) h⟩)
      (And.intro (show (ofL ((mgC ++ (b4 .i64 (gs.length : Nat))) ++ (b4 .i64 pub))).size + (ofL (b4 .i64 vars)).size ≤ 9223372036854775807 from by show 12 + 4 ≤ _; decide)
      (And.intro (show (ofL (mgC ++ (b4 .i64 (gs.length : Nat)))).size + (ofL (b4 .i64 pub)).size ≤ 9223372036854775807 from by show 8 + 4 ≤ _; decide)
      (And.intro (show (ofL mgC).size + (ofL (b4 .i64 (gs.length : Nat))).size ≤ 9223372036854775807 from by show 4 + 4 ≤ _; decide)
      (And.intro (show GivesE Try.prog 7 [.ags [.z [.l (gsC gs)] gs.length, .c (.c (.int .i64 pub)), .c (.c (.int .i64 vars))]] (.tp [.v (.string (ofL [])), .v (.int .i64 1)]) from ⟨fun vs w => Go.Proofs.enters_of (P := Try.prog) Try.func7 (by kernel_rfl) rfl vs w, put_r gs pub vars h⟩)
      (And.intro (show (20 : Int) = ((gs.length : Nat) : Int) ∧ gs.length ≤ g0.length ∧ flat [.l (gsC gs)] = (flat [.l (gsC g0)]).take (gs.length * 23) from cut20 g0 gs h20 hbig)
      (And.intro (show decide (((g0.length : Nat) : Int) ≤ 4096) = true from decide_eq_true (by omega))
      (And.intro (show decide (((g0.length : Nat) : Int) > 20) = true from decide_eq_true (by omega)) trivial)))))))))
theorem fcB_v (g0 gs : List GT) (h20 : gs = g0.take 20) (hbig : 20 < g0.length) (hle : g0.length ≤ 4096) (pub vars : Int) (h : rightC gs pub vars) (hv : vars > 2147483647) : Gives Try.prog 3 [.ags [.z [.l (gsC g0)] g0.length, .c (.c (.int .i64 pub)), .c (.c (.int .i64 vars))]] (.v (.bool true)) :=
  fn_gives_at (P := Try.prog) (X := rulesY _) (env := [eFAlive, eLClean, eLNum, eLCnt]) ⟨eFAlive_ok, eLClean_ok, eLNum_ok, eLCnt_ok, trivial⟩ Try.func3 1 (oL [(9, wT), (14, wT), (18, { ch := 0, hi := fun _ => gs.length, ex := 6, cs := fun _ => [.l (gsC gs)] }), (22, { ch := 0, hi := fun _ => 0, ex := 7, av := fun _ => .tp [.v (.string (ofL [])), .v (.int .i64 1)] }), (33, rO 6 0), (37, rO 6 0), (41, rO 6 0), (44, { ch := 0, hi := fun _ => 0, ex := 7, av := fun _ => .v (.bool true) }), (49, wT), (67, wT)]) (by kernel_rfl) ⟨_, rfl⟩
    (And.intro (show ((ofL []).toList == (ofL []).toList) = true from by simp)
      (And.intro (show decide (vars > 2147483647) = true from decide_eq_true hv)
      (And.intro (show GivesE Try.prog 9 [.ags [.z [.l (gsC gs)] gs.length, .c (.c (.int .i64 pub)), .c (.c (.int .i64 vars))]] (.v (.bool true)) from ⟨fun vs w => Go.Proofs.enters_of (P := Try.prog) Try.func9 (by kernel_rfl) rfl vs w, r18_yes gs pub vars (by have := h.1; omega) h⟩)
      (And.intro (show (ofL ((mgC ++ (b4 .i64 (gs.length : Nat))) ++ (b4 .i64 pub))).size + (ofL (b4 .i64 vars)).size ≤ 9223372036854775807 from by show 12 + 4 ≤ _; decide)
      (And.intro (show (ofL (mgC ++ (b4 .i64 (gs.length : Nat)))).size + (ofL (b4 .i64 pub)).size ≤ 9223372036854775807 from by show 8 + 4 ≤ _; decide)
      (And.intro (show (ofL mgC).size + (ofL (b4 .i64 (gs.length : Nat))).size ≤ 9223372036854775807 from by show 4 + 4 ≤ _; decide)
      (And.intro (show GivesE Try.prog 7 [.ags [.z [.l (gsC gs)] gs.length, .c (.c (.int .i64 pub)), .c (.c (.int .i64 vars))]] (.tp [.v (.string (ofL [])), .v (.int .i64 1)]) from ⟨fun vs w => Go.Proofs.enters_of (P := Try.prog) Try.func7 (by kernel_rfl) rfl vs w, put_v gs pub vars h hv⟩)
      (And.intro (show (20 : Int) = ((gs.length : Nat) : Int) ∧ gs.length ≤ g0.length ∧ flat [.l (gsC gs)] = (flat [.l (gsC g0)]).take (gs.length * 23) from cut20 g0 gs h20 hbig)
      (And.intro (show decide (((g0.length : Nat) : Int) ≤ 4096) = true from decide_eq_true (by omega))
      (And.intro (show decide (((g0.length : Nat) : Int) > 20) = true from decide_eq_true (by omega)) trivial))))))))))
theorem fcB_k (g0 gs : List GT) (h20 : gs = g0.take 20) (hbig : 20 < g0.length) (hle : g0.length ≤ 4096) (pub vars : Int) (h : rightC gs pub vars) (hv : ¬ vars > 2147483647) (hs : ∀ g, g ∈ gs → smG g) (hc : ∀ g, g ∈ gs → cleanG g) : Gives Try.prog 3 [.ags [.z [.l (gsC g0)] g0.length, .c (.c (.int .i64 pub)), .c (.c (.int .i64 vars))]] (.v (.bool true)) :=
  fn_gives_at (P := Try.prog) (X := rulesY _) (env := [eFAlive, eLClean, eLNum, eLCnt]) ⟨eFAlive_ok, eLClean_ok, eLNum_ok, eLCnt_ok, trivial⟩ Try.func3 1 (oL [(9, wT), (14, wT), (18, { ch := 0, hi := fun _ => gs.length, ex := 6, cs := fun _ => [.l (gsC gs)] }), (22, { ch := 0, hi := fun _ => 0, ex := 7, av := fun _ => .tp [.v (.string (ofL (outC gs pub vars gs.length))), .v (.int .i64 0)] }), (33, rO 6 0), (37, rO 6 0), (41, rO 6 0), (44, { ch := 0, hi := fun _ => 0, ex := 7, av := fun _ => .v (.bool true) }), (49, wF), (55, lpO { I := lwBI gs (outC gs pub vars gs.length) 0 0 (((mgC ++ (b4 .i64 (gs.length : Nat))) ++ (b4 .i64 pub)) ++ (b4 .i64 vars)) 0, ex := .exit 0, E := lwBE (outC gs pub vars gs.length) 0 0 (outC gs pub vars gs.length), fr := 56 }), (71, wT)]) (by kernel_rfl) ⟨_, rfl⟩
    (And.intro (show ((ofL (outC gs pub vars gs.length)).toList == (ofL (outC gs pub vars gs.length)).toList) = true from by simp)
      (And.intro (show some (lwBI gs (outC gs pub vars gs.length) 0 0 (((mgC ++ (b4 .i64 (gs.length : Nat))) ++ (b4 .i64 pub)) ++ (b4 .i64 vars)) 0) = some (lwBI gs (outC gs pub vars gs.length) 0 0 (((mgC ++ (b4 .i64 (gs.length : Nat))) ++ (b4 .i64 pub)) ++ (b4 .i64 vars)) 0) from rfl)
      (And.intro ((by have hl := lwB_all gs pub vars h.1 (outC gs pub vars gs.length) 0 hs; rw [show bd gs = 0 from if_pos hc, ← want_zero] at hl; exact hl))
      (And.intro (show decide (vars > 2147483647) = false from decide_eq_false hv)
      (And.intro (show GivesE Try.prog 9 [.ags [.z [.l (gsC gs)] gs.length, .c (.c (.int .i64 pub)), .c (.c (.int .i64 vars))]] (.v (.bool true)) from ⟨fun vs w => Go.Proofs.enters_of (P := Try.prog) Try.func9 (by kernel_rfl) rfl vs w, r18_yes gs pub vars (by have := h.1; omega) h⟩)
      (And.intro (show (ofL ((mgC ++ (b4 .i64 (gs.length : Nat))) ++ (b4 .i64 pub))).size + (ofL (b4 .i64 vars)).size ≤ 9223372036854775807 from by show 12 + 4 ≤ _; decide)
      (And.intro (show (ofL (mgC ++ (b4 .i64 (gs.length : Nat)))).size + (ofL (b4 .i64 pub)).size ≤ 9223372036854775807 from by show 8 + 4 ≤ _; decide)
      (And.intro (show (ofL mgC).size + (ofL (b4 .i64 (gs.length : Nat))).size ≤ 9223372036854775807 from by show 4 + 4 ≤ _; decide)
      (And.intro (show GivesE Try.prog 7 [.ags [.z [.l (gsC gs)] gs.length, .c (.c (.int .i64 pub)), .c (.c (.int .i64 vars))]] (.tp [.v (.string (ofL (outC gs pub vars gs.length))), .v (.int .i64 0)]) from ⟨fun vs w => Go.Proofs.enters_of (P := Try.prog) Try.func7 (by kernel_rfl) rfl vs w, put_k gs pub vars h hv hs hc⟩)
      (And.intro (show (20 : Int) = ((gs.length : Nat) : Int) ∧ gs.length ≤ g0.length ∧ flat [.l (gsC gs)] = (flat [.l (gsC g0)]).take (gs.length * 23) from cut20 g0 gs h20 hbig)
      (And.intro (show decide (((g0.length : Nat) : Int) ≤ 4096) = true from decide_eq_true (by omega))
      (And.intro (show decide (((g0.length : Nat) : Int) > 20) = true from decide_eq_true (by omega)) trivial))))))))))))
theorem fcB_u (g0 gs : List GT) (h20 : gs = g0.take 20) (hbig : 20 < g0.length) (hle : g0.length ≤ 4096) (pub vars : Int) (h : rightC gs pub vars) (hv : ¬ vars > 2147483647) (hs : ∀ g, g ∈ gs → smG g) (hc : ¬ ∀ g, g ∈ gs → cleanG g) : Gives Try.prog 3 [.ags [.z [.l (gsC g0)] g0.length, .c (.c (.int .i64 pub)), .c (.c (.int .i64 vars))]] (.v (.bool true)) :=
  fn_gives_at (P := Try.prog) (X := rulesY _) (env := [eFAlive, eLClean, eLNum, eLCnt]) ⟨eFAlive_ok, eLClean_ok, eLNum_ok, eLCnt_ok, trivial⟩ Try.func3 1 (oL [(9, wT), (14, wT), (18, { ch := 0, hi := fun _ => gs.length, ex := 6, cs := fun _ => [.l (gsC gs)] }), (22, { ch := 0, hi := fun _ => 0, ex := 7, av := fun _ => .tp [.v (.string (ofL [])), .v (.int .i64 1)] }), (33, rO 6 0), (37, rO 6 0), (41, rO 6 0), (44, { ch := 0, hi := fun _ => 0, ex := 7, av := fun _ => .v (.bool true) }), (49, wF), (55, lpO { I := lwBI gs [] 1 0 (((mgC ++ (b4 .i64 (gs.length : Nat))) ++ (b4 .i64 pub)) ++ (b4 .i64 vars)) 0, ex := .exit 0, E := lwBE [] 1 1 (outC gs pub vars gs.length), fr := 56 }), (71, wT)]) (by kernel_rfl) ⟨_, rfl⟩
    (And.intro (show ((ofL []).toList == (ofL []).toList) = true from by simp)
      (And.intro (show some (lwBI gs [] 1 0 (((mgC ++ (b4 .i64 (gs.length : Nat))) ++ (b4 .i64 pub)) ++ (b4 .i64 vars)) 0) = some (lwBI gs [] 1 0 (((mgC ++ (b4 .i64 (gs.length : Nat))) ++ (b4 .i64 pub)) ++ (b4 .i64 vars)) 0) from rfl)
      (And.intro ((by have hl := lwB_all gs pub vars h.1 [] 1 hs; rw [show bd gs = 1 from if_neg hc, ← want_zero] at hl; exact hl))
      (And.intro (show decide (vars > 2147483647) = false from decide_eq_false hv)
      (And.intro (show GivesE Try.prog 9 [.ags [.z [.l (gsC gs)] gs.length, .c (.c (.int .i64 pub)), .c (.c (.int .i64 vars))]] (.v (.bool true)) from ⟨fun vs w => Go.Proofs.enters_of (P := Try.prog) Try.func9 (by kernel_rfl) rfl vs w, r18_yes gs pub vars (by have := h.1; omega) h⟩)
      (And.intro (show (ofL ((mgC ++ (b4 .i64 (gs.length : Nat))) ++ (b4 .i64 pub))).size + (ofL (b4 .i64 vars)).size ≤ 9223372036854775807 from by show 12 + 4 ≤ _; decide)
      (And.intro (show (ofL (mgC ++ (b4 .i64 (gs.length : Nat)))).size + (ofL (b4 .i64 pub)).size ≤ 9223372036854775807 from by show 8 + 4 ≤ _; decide)
      (And.intro (show (ofL mgC).size + (ofL (b4 .i64 (gs.length : Nat))).size ≤ 9223372036854775807 from by show 4 + 4 ≤ _; decide)
      (And.intro (show GivesE Try.prog 7 [.ags [.z [.l (gsC gs)] gs.length, .c (.c (.int .i64 pub)), .c (.c (.int .i64 vars))]] (.tp [.v (.string (ofL [])), .v (.int .i64 1)]) from ⟨fun vs w => Go.Proofs.enters_of (P := Try.prog) Try.func7 (by kernel_rfl) rfl vs w, (by rcases gate_clean gs with hh | ⟨j, x, e1, e2, e3⟩; exact absurd hh hc; exact put_u gs pub vars h hv hs j x e1 e2 e3)⟩)
      (And.intro (show (20 : Int) = ((gs.length : Nat) : Int) ∧ gs.length ≤ g0.length ∧ flat [.l (gsC gs)] = (flat [.l (gsC g0)]).take (gs.length * 23) from cut20 g0 gs h20 hbig)
      (And.intro (show decide (((g0.length : Nat) : Int) ≤ 4096) = true from decide_eq_true (by omega))
      (And.intro (show decide (((g0.length : Nat) : Int) > 20) = true from decide_eq_true (by omega)) trivial))))))))))))
theorem formatCircuits_gives (gs : List GT) (pub vars : Int) (hm : gs.length ≤ 9223372036854775807) (hs : ∀ g, g ∈ gs → smG g) : Gives Try.prog 3 [.ags [.z [.l (gsC gs)] gs.length, .c (.c (.int .i64 pub)), .c (.c (.int .i64 vars))]] (.v (.bool true)) := by
  by_cases h20 : gs.length ≤ 20
  · by_cases h : rightC gs pub vars
    · by_cases hv : vars > 2147483647
      · exact fcA_v gs pub vars h20 h hv
      · by_cases hc : ∀ g, g ∈ gs → cleanG g
        · exact fcA_k gs pub vars h20 h hv hs hc
        · exact fcA_u gs pub vars h20 h hv hs hc
    · exact fcA_r gs pub vars h20 h
  · by_cases hle : gs.length ≤ 4096
    · have hb : 20 < gs.length := by omega
      have hs' : ∀ g, g ∈ gs.take 20 → smG g := fun g hg => hs g (List.mem_of_mem_take hg)
      by_cases h : rightC (gs.take 20) pub vars
      · by_cases hv : vars > 2147483647
        · exact fcB_v gs _ rfl hb hle pub vars h hv
        · by_cases hc : ∀ g, g ∈ gs.take 20 → cleanG g
          · exact fcB_k gs _ rfl hb hle pub vars h hv hs' hc
          · exact fcB_u gs _ rfl hb hle pub vars h hv hs' hc
      · exact fcB_r gs _ rfl hb hle pub vars h
    · exact fcA_big gs pub vars hm (by omega)
end Go.Proofs.Ytmbllhibdbeplaa
