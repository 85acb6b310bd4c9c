/- Contract of format.PutCircuit. -/
import Derived.Test.YtmbllhibdbeplaaFm3
set_option linter.unusedSimpArgs false
set_option linter.unusedVariables false
namespace Go.Proofs.Ytmbllhibdbeplaa
open Go.Ev Go.RowKit
def gN (g : GT) : List Nat := [g.q0, g.q1, g.q2, g.q3, g.q4]
def smG (g : GT) : Prop := sm4 (gN g)
def cleanG (g : GT) : Prop := cleanN (gN g)
instance (g : GT) : Decidable (cleanG g) := inferInstanceAs (Decidable (cleanN _))
def gS (g : GT) : List UInt8 := (((putN g.q0 ++ putN g.q1) ++ putN g.q2) ++ putN g.q3) ++ putN g.q4
def gB (g : GT) : List UInt8 := gS g ++ (b4 .i64 g.w0 ++ (b4 .i64 g.w1 ++ b4 .i64 g.w2))
theorem gS_length (g : GT) : (gS g).length = 160 := by unfold gS; simp [putN_length]
theorem gB_length (g : GT) : (gB g).length = 172 := by unfold gB; simp [gS_length, b4_length]
def hdC (gs : List GT) (pub vars : Int) : List UInt8 := (b4 .i64 (gs.length : Nat) ++ b4 .i64 pub) ++ b4 .i64 vars
def hdU (gs : List GT) (pub vars : Int) : List UInt8 := (b4 .u32 (IntKind.u32.wrap (gs.length : Nat)) ++ b4 .u32 (IntKind.u32.wrap pub)) ++ b4 .u32 (IntKind.u32.wrap vars)
theorem hdU_eq (gs : List GT) (pub vars : Int) : hdU gs pub vars = hdC gs pub vars := by unfold hdU hdC; rw [b4_u32, b4_u32, b4_u32]
def mgC : List UInt8 := [67, 72, 67, 49]
def outC (gs : List GT) (pub vars : Int) (i : Nat) : List UInt8 := (mgC ++ hdC gs pub vars) ++ (gs.take i).flatMap gB
theorem outC_length (gs : List GT) (pub vars : Int) (i : Nat) : (outC gs pub vars i).length ≤ 16 + 172 * gs.length := by
  have : ∀ l : List GT, (l.flatMap gB).length = 172 * l.length := fun l => by
    induction l with
    | nil => rfl
    | cons g l ih => simp only [List.flatMap_cons, List.length_append, gB_length, ih, List.length_cons]; omega
  unfold outC
  simp only [List.length_append, this, List.length_take]
  have h1 : (hdC gs pub vars).length = 12 := rfl
  have h2 : mgC.length = 4 := rfl
  omega
theorem outC_succ {gs : List GT} {pub vars : Int} {i : Nat} {g : GT} (h : gs[i]? = some g) : outC gs pub vars (i + 1) = outC gs pub vars i ++ gB g := by
  unfold outC
  rw [List.take_add_one, h]
  simp
def pcI (gs : List GT) (pub vars : Int) (out : List UInt8) (z : Int) : LState := { n := 92, sl := [(1, .p 4 0), (4, .p 20 0), (36, .sz 0 gs.length), (37, .v (.int .i64 ((gs.length : Nat) : Int))), (38, .v (.int .i64 z))], hp := [(0, .rz [.l (gsC gs)]), (4, .own [.sz 0 gs.length, .c (.int .i64 pub), .c (.int .i64 vars)] 24), (20, .own [.sx 56 out.length, .c (.int .i64 0)] 128), (56, .gr [.y out] 5 1)] }
def pcJ (gs : List GT) (pub vars : Int) : LState := { n := 92, sl := [(1, .p 4 0), (4, .p 20 0), (36, .sz 0 gs.length), (37, .v (.int .i64 ((gs.length : Nat) : Int))), (38, .v (.int .i64 0))], hp := [(0, .rz [.l (gsC gs)]), (4, .own [.sz 0 gs.length, .c (.int .i64 pub), .c (.int .i64 vars)] 24), (20, .own [.sx 56 (4 + (ofL (hdU gs pub vars)).size), .c (.int .i64 0)] 128), (56, .gr [.y mgC, .y (hdU gs pub vars)] 5 1)] }
def pcE (out : List UInt8) : LState := { n := 92, sl := [(4, .p 20 0)], hp := [(20, .own [.sx 56 out.length, .c (.int .i64 0)] 128), (56, .gr [.y out] 5 1)] }
def pcF : LState := { n := 92, sl := [(2, .v (.string (ofL []))), (3, .v (.int .i64 1))], hp := [] }
theorem outC_zero (gs : List GT) (pub vars : Int) : outC gs pub vars 0 = mgC ++ hdC gs pub vars := by unfold outC; simp
theorem pre_len (gs : List GT) (pub vars : Int) : 4 + (ofL (hdU gs pub vars)).size = (outC gs pub vars 0).length := by rw [outC_zero, hdU_eq]; rfl
theorem flat_y (l : List UInt8) : flat [.y l] = l.map byteV := by simp [flat, Ch.cells]
theorem pre_flat (gs : List GT) (pub vars : Int) : flat [.y mgC, .y (hdU gs pub vars)] = flat [.y (outC gs pub vars 0)] := by
  rw [outC_zero, hdU_eq, flat_y]; simp [flat, Ch.cells]
theorem pc_pre (gs : List GT) (pub vars : Int) : fitsP (pcJ gs pub vars).aa (pcI gs pub vars (outC gs pub vars 0) ((0 : Nat) : Int)) [] := by
  have e : fitsP (pcJ gs pub vars).aa (pcI gs pub vars (outC gs pub vars 0) ((0 : Nat) : Int)) [] = (((true = true ∧ 0 = 0) ∧ (true = true ∧ 0 = 0) ∧ (true = true ∧ gs.length = gs.length) ∧ (Value.int .i64 ((gs.length : Nat) : Int)) = (Value.int .i64 ((gs.length : Nat) : Int)) ∧ (Value.int .i64 0) = (Value.int .i64 ((0 : Nat) : Int)) ∧ True) ∧ (flat [.l (gsC gs)] = flat [.l (gsC gs)] ∧ (24 = 24 ∧ (true = true ∧ gs.length = gs.length) ∧ (true = true ∧ true = true ∧ [Value.int .i64 pub] = [Value.int .i64 pub]) ∧ (true = true ∧ true = true ∧ [Value.int .i64 vars] = [Value.int .i64 vars]) ∧ True) ∧ (128 = 128 ∧ (true = true ∧ 4 + (ofL (hdU gs pub vars)).size = (outC gs pub vars 0).length) ∧ (true = true ∧ true = true ∧ [Value.int .i64 0] = [Value.int .i64 0]) ∧ True) ∧ ((5 = 5 ∧ 1 = 1) ∧ flat [.y mgC, .y (hdU gs pub vars)] = flat [.y (outC gs pub vars 0)]) ∧ True)) := by kernel_rfl
  rw [e]
  exact ⟨⟨⟨rfl, rfl⟩, ⟨rfl, rfl⟩, ⟨rfl, rfl⟩, rfl, rfl, trivial⟩, ⟨rfl, ⟨rfl, ⟨rfl, rfl⟩, ⟨rfl, rfl, rfl⟩, ⟨rfl, rfl, rfl⟩, trivial⟩, ⟨rfl, ⟨rfl, pre_len gs pub vars⟩, ⟨rfl, rfl, rfl⟩, trivial⟩, ⟨⟨rfl, rfl⟩, pre_flat gs pub vars⟩, trivial⟩⟩
theorem sz_S (g : GT) : (ofL (gS g)).size = 160 := gS_length g
theorem sz_w (w : Int) : (ofL (b4 .u32 (IntKind.u32.wrap w))).size = 4 := rfl
theorem len_S (g : GT) : (gS g).length = (ofL (gS g)).size := rfl
theorem len_w (w : Int) : (b4 .u32 (IntKind.u32.wrap w)).length = (ofL (b4 .u32 (IntKind.u32.wrap w))).size := rfl
theorem raw_len (gs : List GT) (pub vars : Int) (i : Nat) (g : GT) (hg : gs[i]? = some g) : (outC gs pub vars i).length + (ofL (gS g)).size + (ofL (b4 .u32 (IntKind.u32.wrap g.w0))).size + (ofL (b4 .u32 (IntKind.u32.wrap g.w1))).size + (ofL (b4 .u32 (IntKind.u32.wrap g.w2))).size = (outC gs pub vars (i + 1)).length := by
  rw [outC_succ hg, List.length_append, gB_length, sz_S, sz_w, sz_w, sz_w]
theorem raw_flat (gs : List GT) (pub vars : Int) (i : Nat) (g : GT) (hg : gs[i]? = some g) : flat [.y (outC gs pub vars i), .y (gS g), .y (b4 .u32 (IntKind.u32.wrap g.w0)), .y (b4 .u32 (IntKind.u32.wrap g.w1)), .y (b4 .u32 (IntKind.u32.wrap g.w2))] = flat [.y (outC gs pub vars (i + 1))] := by
  rw [outC_succ hg, flat_y]
  unfold gB
  rw [← b4_u32 g.w0, ← b4_u32 g.w1, ← b4_u32 g.w2]
  simp [flat, Ch.cells]
theorem pc_round (gs : List GT) (pub vars : Int) (hm : gs.length ≤ 4096) (i : Nat) (g : GT) (hg : gs[i]? = some g) (hs : smG g) (hc : cleanG g) : Sound Try.prog 0 false (loopB Try.f7 0) (pcI gs pub vars (outC gs pub vars i) (i : Int)).aa .normal (pcI gs pub vars (outC gs pub vars (i + 1)) ((i + 1 : Nat) : Int)).aa := by
  have hi := glt hg
  exact roundP_sound (P := Try.prog) (X := rulesY _) (env := [eFClean, eFPutS, eFCnt]) ⟨eFClean_ok, eFPutS_ok, eFCnt_ok, trivial⟩ (n := 1) (os := oL [(64, wT), (65, rO 14 i), (66, { ch := 0, hi := fun _ => 0, ru := 8, cs := fun _ => gP g }), (80, wO 0), (89, rO 6 0), (93, rO 6 0), (97, rO 6 0), (101, rO 6 0), (119, { ch := 0, hi := fun _ => 0, ex := 1 }), (150, { ch := 0, hi := fun _ => 0, ex := 1 }), (180, { ch := 0, hi := fun _ => 0, ex := 1 }), (210, { ch := 0, hi := fun _ => 0, ex := 1 })]) (fb := 0) (rd := false) (c := (loopB Try.f7 0)) (k := 64) (I := pcI gs pub vars (outC gs pub vars i) (i : Int)) (J := pcI gs pub vars (outC gs pub vars (i + 1)) ((i + 1 : Nat) : Int)) (τ := [(56, 210)]) (ex := .normal) (by kernel_rfl)
    (And.intro (show ((true = true ∧ 0 = 0) ∧ (true = true ∧ 0 = 0) ∧ (true = true ∧ gs.length = gs.length) ∧ (Value.int .i64 ((gs.length : Nat) : Int)) = (Value.int .i64 ((gs.length : Nat) : Int)) ∧ (Value.int .i64 (IntKind.i64.wrap ((i : Int) + 1))) = (Value.int .i64 ((i + 1 : Nat) : Int)) ∧ True) ∧ (flat [.l (gsC gs)] = flat [.l (gsC gs)] ∧ (24 = 24 ∧ (true = true ∧ gs.length = gs.length) ∧ (true = true ∧ true = true ∧ [Value.int .i64 pub] = [Value.int .i64 pub]) ∧ (true = true ∧ true = true ∧ [Value.int .i64 vars] = [Value.int .i64 vars]) ∧ True) ∧ (128 = 128 ∧ (true = true ∧ (outC gs pub vars i).length + (ofL (gS g)).size + (ofL (b4 .u32 (IntKind.u32.wrap g.w0))).size + (ofL (b4 .u32 (IntKind.u32.wrap g.w1))).size + (ofL (b4 .u32 (IntKind.u32.wrap g.w2))).size = (outC gs pub vars (i + 1)).length) ∧ (true = true ∧ true = true ∧ [Value.int .i64 0] = [Value.int .i64 0]) ∧ True) ∧ ((5 = 5 ∧ 1 = 1) ∧ flat [.y (outC gs pub vars i), .y (gS g), .y (b4 .u32 (IntKind.u32.wrap g.w0)), .y (b4 .u32 (IntKind.u32.wrap g.w1)), .y (b4 .u32 (IntKind.u32.wrap g.w2))] = flat [.y (outC gs pub vars (i + 1))]) ∧ True) from ⟨⟨⟨rfl, rfl⟩, ⟨rfl, rfl⟩, ⟨rfl, rfl⟩, rfl, by rw [show IntKind.i64.wrap ((i : Int) + 1) = ((i + 1 : Nat) : Int) by rw [wrap_i64]; omega], trivial⟩, ⟨rfl, ⟨rfl, ⟨rfl, rfl⟩, ⟨rfl, rfl, rfl⟩, ⟨rfl, rfl, rfl⟩, trivial⟩, ⟨rfl, ⟨rfl, raw_len gs pub vars i g hg⟩, ⟨rfl, rfl, rfl⟩, trivial⟩, ⟨⟨rfl, rfl⟩, raw_flat gs pub vars i g hg⟩, trivial⟩⟩)
      (And.intro (show sizes [.y (outC gs pub vars i), .y (gS g), .y (b4 .u32 (IntKind.u32.wrap g.w0)), .y (b4 .u32 (IntKind.u32.wrap g.w1))] = ((outC gs pub vars i).length + (ofL (gS g)).size + (ofL (b4 .u32 (IntKind.u32.wrap g.w0))).size + (ofL (b4 .u32 (IntKind.u32.wrap g.w1))).size) * 1 ∧ (outC gs pub vars i).length + (ofL (gS g)).size + (ofL (b4 .u32 (IntKind.u32.wrap g.w0))).size + (ofL (b4 .u32 (IntKind.u32.wrap g.w1))).size + (ofL (b4 .u32 (IntKind.u32.wrap g.w2))).size ≤ 9223372036854775807 ∧ ((outC gs pub vars i).length + (ofL (gS g)).size + (ofL (b4 .u32 (IntKind.u32.wrap g.w0))).size + (ofL (b4 .u32 (IntKind.u32.wrap g.w1))).size + (ofL (b4 .u32 (IntKind.u32.wrap g.w2))).size) * 1 ≤ 140737488355328 ∧ True from by
        have h1 := outC_length gs pub vars i
        have h2 := sz_S g
        have h3 := sz_w g.w0
        have h4 := sz_w g.w1
        have h5 := sz_w g.w2
        refine ⟨?_, ?_, ?_, trivial⟩ <;> (try simp only [sizes, Ch.size, len_S, len_w]) <;> omega)
      (And.intro (show sizes [.y (outC gs pub vars i), .y (gS g), .y (b4 .u32 (IntKind.u32.wrap g.w0))] = ((outC gs pub vars i).length + (ofL (gS g)).size + (ofL (b4 .u32 (IntKind.u32.wrap g.w0))).size) * 1 ∧ (outC gs pub vars i).length + (ofL (gS g)).size + (ofL (b4 .u32 (IntKind.u32.wrap g.w0))).size + (ofL (b4 .u32 (IntKind.u32.wrap g.w1))).size ≤ 9223372036854775807 ∧ ((outC gs pub vars i).length + (ofL (gS g)).size + (ofL (b4 .u32 (IntKind.u32.wrap g.w0))).size + (ofL (b4 .u32 (IntKind.u32.wrap g.w1))).size) * 1 ≤ 140737488355328 ∧ True from by
        have h1 := outC_length gs pub vars i
        have h2 := sz_S g
        have h3 := sz_w g.w0
        have h4 := sz_w g.w1
        have h5 := sz_w g.w2
        refine ⟨?_, ?_, ?_, trivial⟩ <;> (try simp only [sizes, Ch.size, len_S, len_w]) <;> omega)
      (And.intro (show sizes [.y (outC gs pub vars i), .y (gS g)] = ((outC gs pub vars i).length + (ofL (gS g)).size) * 1 ∧ (outC gs pub vars i).length + (ofL (gS g)).size + (ofL (b4 .u32 (IntKind.u32.wrap g.w0))).size ≤ 9223372036854775807 ∧ ((outC gs pub vars i).length + (ofL (gS g)).size + (ofL (b4 .u32 (IntKind.u32.wrap g.w0))).size) * 1 ≤ 140737488355328 ∧ True from by
        have h1 := outC_length gs pub vars i
        have h2 := sz_S g
        have h3 := sz_w g.w0
        have h4 := sz_w g.w1
        have h5 := sz_w g.w2
        refine ⟨?_, ?_, ?_, trivial⟩ <;> (try simp only [sizes, Ch.size, len_S, len_w]) <;> omega)
      (And.intro (show sizes [.y (outC gs pub vars i)] = ((outC gs pub vars i).length) * 1 ∧ (outC gs pub vars i).length + (ofL (gS g)).size ≤ 9223372036854775807 ∧ ((outC gs pub vars i).length + (ofL (gS g)).size) * 1 ≤ 140737488355328 ∧ True from by
        have h1 := outC_length gs pub vars i
        have h2 := sz_S g
        have h3 := sz_w g.w0
        have h4 := sz_w g.w1
        have h5 := sz_w g.w2
        refine ⟨?_, ?_, ?_, trivial⟩ <;> (try simp only [sizes, Ch.size, len_S, len_w]) <;> omega)
      (And.intro (show (ofL ((((putN g.q0 ++ putN g.q1) ++ putN g.q2) ++ putN g.q3))).size + (ofL (putN g.q4)).size ≤ 9223372036854775807 from by show ((((putN g.q0 ++ putN g.q1) ++ putN g.q2) ++ putN g.q3)).length + (putN g.q4).length ≤ _; simp [putN_length])
      (And.intro (show smtS (.inr g.q4) from hs g.q4 (by simp [gN]))
      (And.intro (show (ofL (((putN g.q0 ++ putN g.q1) ++ putN g.q2))).size + (ofL (putN g.q3)).size ≤ 9223372036854775807 from by show (((putN g.q0 ++ putN g.q1) ++ putN g.q2)).length + (putN g.q3).length ≤ _; simp [putN_length])
      (And.intro (show smtS (.inr g.q3) from hs g.q3 (by simp [gN]))
      (And.intro (show (ofL ((putN g.q0 ++ putN g.q1))).size + (ofL (putN g.q2)).size ≤ 9223372036854775807 from by show ((putN g.q0 ++ putN g.q1)).length + (putN g.q2).length ≤ _; simp [putN_length])
      (And.intro (show smtS (.inr g.q2) from hs g.q2 (by simp [gN]))
      (And.intro (show (ofL (putN g.q0)).size + (ofL (putN g.q1)).size ≤ 9223372036854775807 from by show (putN g.q0).length + (putN g.q1).length ≤ _; simp [putN_length])
      (And.intro (show smtS (.inr g.q1) from hs g.q1 (by simp [gN]))
      (And.intro (show smtS (.inr g.q0) from hs g.q0 (by simp [gN]))
      (And.intro (show [g.q0, g.q1, g.q2, g.q3, g.q4].length ≤ 1000000 ∧ sm4 [g.q0, g.q1, g.q2, g.q3, g.q4] ∧ cleanN [g.q0, g.q1, g.q2, g.q3, g.q4] from ⟨by simp, hs, hc⟩)
      (And.intro (gate_at gs i g hg)
      (And.intro (show (i : Int) = ((i : Nat) : Int) ∧ i < gs.length from ⟨rfl, hi⟩)
      (And.intro (show decide ((i : Int) < ((gs.length : Nat) : Int)) = true from decide_eq_true (by omega)) trivial))))))))))))))))))
theorem pc_bad (gs : List GT) (pub vars : Int) (out : List UInt8) (i : Nat) (g : GT) (hg : gs[i]? = some g) (hs : smG g) (hc : ¬ cleanG g) : Sound Try.prog 0 false (loopB Try.f7 0) (pcI gs pub vars out (i : Int)).aa .ret pcF.aa := by
  have hi := glt hg
  exact roundK_sound (P := Try.prog) (X := rulesY _) (env := [eFClean, eFPutS, eFCnt]) ⟨eFClean_ok, eFPutS_ok, eFCnt_ok, trivial⟩ (n := 1) (os := oL [(64, wT), (65, rO 14 i), (66, { ch := 0, hi := fun _ => 0, ru := 8, cs := fun _ => gP g }), (80, wO 1)]) (fb := 0) (rd := false) (c := (loopB Try.f7 0)) (k := 64) (I := pcI gs pub vars out (i : Int)) (sk := [2, 3]) (hk := []) (lk := []) (ex := .ret) (L := pcF) (by kernel_rfl)
    (And.intro (show [g.q0, g.q1, g.q2, g.q3, g.q4].length ≤ 1000000 ∧ sm4 [g.q0, g.q1, g.q2, g.q3, g.q4] ∧ ¬ cleanN [g.q0, g.q1, g.q2, g.q3, g.q4] from ⟨by simp, hs, hc⟩)
      (And.intro (gate_at gs i g hg)
      (And.intro (show (i : Int) = ((i : Nat) : Int) ∧ i < gs.length from ⟨rfl, hi⟩)
      (And.intro (show decide ((i : Int) < ((gs.length : Nat) : Int)) = true from decide_eq_true (by omega)) trivial))))
theorem pc_end (gs : List GT) (pub vars : Int) (out : List UInt8) : Sound Try.prog 0 false (loopB Try.f7 0) (pcI gs pub vars out ((gs.length : Nat) : Int)).aa (.exit 0) (pcE out).aa :=
  roundK_sound (P := Try.prog) (X := rulesY _) (env := []) trivial (n := 0) (os := oL [(64, wF)]) (fb := 0) (rd := false) (c := (loopB Try.f7 0)) (k := 64) (I := pcI gs pub vars out ((gs.length : Nat) : Int)) (sk := [4]) (hk := [20, 56]) (lk := []) (ex := .exit 0)
    (L := pcE out) (by kernel_rfl) (And.intro (show decide (((gs.length : Nat) : Int) < ((gs.length : Nat) : Int)) = false from decide_eq_false (by omega)) trivial)
theorem pc_all (gs : List GT) (pub vars : Int) (hm : gs.length ≤ 4096) (hs : ∀ g, g ∈ gs → smG g) (hc : ∀ g, g ∈ gs → cleanG g) : Sound Try.prog 0 false (.loop (loopB Try.f7 0)) (pcI gs pub vars (outC gs pub vars 0) ((0 : Nat) : Int)).aa (.exit 0) (pcE (outC gs pub vars gs.length)).aa := by
  refine loop_ok (m := fun y : { i : Nat // i ≤ gs.length } => gs.length - y.val) (fun y => pcI gs pub vars (outC gs pub vars y.val) (y.val : Int)) (by simp) (fun y => ?_) ⟨0, by omega⟩
  obtain ⟨i, hi⟩ := y
  by_cases e : i < gs.length
  · obtain ⟨g, hg⟩ := gof e
    exact .inl ⟨⟨i + 1, e⟩, by show gs.length - (i + 1) < gs.length - i; omega, pc_round gs pub vars hm i g hg (hs g (gmem hg)) (hc g (gmem hg))⟩
  · have e : i = gs.length := by omega
    subst e
    exact .inr (pc_end gs pub vars _)
theorem gate_clean : ∀ gs : List GT, (∀ g, g ∈ gs → cleanG g) ∨ ∃ (j : Nat) (g : GT), gs[j]? = some g ∧ ¬ cleanG g ∧ ∀ (i : Nat) (y : GT), i < j → gs[i]? = some y → cleanG y
  | [] => .inl (fun x hx => by cases hx)
  | n :: ns => by
    by_cases h : cleanG n
    · rcases gate_clean ns with h1 | ⟨j, x, h1, h2, h3⟩
      · exact .inl (fun x hx => by rcases List.mem_cons.1 hx with rfl | hx; exact h; exact h1 x hx)
      · refine .inr ⟨j + 1, x, h1, h2, fun i y hi hy => ?_⟩
        match i, hy with
        | 0, hy => simp only [List.getElem?_cons_zero, Option.some.injEq] at hy; subst hy; exact h
        | i + 1, hy => exact h3 i y (by omega) (by simpa using hy)
    · exact .inr ⟨0, n, rfl, h, fun i y hi => by omega⟩
theorem pc_no (gs : List GT) (pub vars : Int) (hm : gs.length ≤ 4096) (hs : ∀ g, g ∈ gs → smG g) (j : Nat) (x : GT) (hj : gs[j]? = some x) (hx : ¬ cleanG x) (hp : ∀ (i : Nat) (y : GT), i < j → gs[i]? = some y → cleanG y) : Sound Try.prog 0 false (.loop (loopB Try.f7 0)) (pcI gs pub vars (outC gs pub vars 0) ((0 : Nat) : Int)).aa .ret pcF.aa := by
  refine loop_ok (m := fun y : { i : Nat // i ≤ j } => j - y.val) (fun y => pcI gs pub vars (outC gs pub vars y.val) (y.val : Int)) (by simp) (fun y => ?_) ⟨0, by omega⟩
  obtain ⟨i, hi⟩ := y
  by_cases e : i < j
  · obtain ⟨g, hg⟩ := gof (show i < gs.length by have := glt hj; omega)
    exact .inl ⟨⟨i + 1, by omega⟩, by show j - (i + 1) < j - i; omega, pc_round gs pub vars hm i g hg (hs g (gmem hg)) (hp i g e hg)⟩
  · have e : i = j := by omega
    subst e
    exact .inr (pc_bad gs pub vars _ i x hj (hs x (gmem hj)) hx)
theorem put_r (gs : List GT) (pub vars : Int) (h : ¬ rightC gs pub vars) : Gives Try.prog 7 [.ags [.z [.l (gsC gs)] gs.length, .c (.c (.int .i64 pub)), .c (.c (.int .i64 vars))]] (.tp [.v (.string (ofL [])), .v (.int .i64 1)]) :=
  fn_gives_at (P := Try.prog) (X := rulesY _) (env := [eFClean, eFPutS, eFCnt]) ⟨eFClean_ok, eFPutS_ok, eFCnt_ok, trivial⟩ Try.func7 1 (oL [(8, { ch := 0, hi := fun _ => 0, ex := 7, av := fun _ => .v (.bool false) })]) (by kernel_rfl) ⟨_, rfl⟩
    (And.intro (show GivesE Try.prog 26 [.ags [.z [.l (gsC gs)] gs.length, .c (.c (.int .i64 pub)), .c (.c (.int .i64 vars))]] (.v (.bool false)) from ⟨fun vs w => Go.Proofs.enters_of (P := Try.prog) Try.func26 (by kernel_rfl) rfl vs w, cr_no gs pub vars h⟩) trivial)
theorem put_v (gs : List GT) (pub vars : Int) (h : rightC gs pub vars) (hv : vars > 2147483647) : Gives Try.prog 7 [.ags [.z [.l (gsC gs)] gs.length, .c (.c (.int .i64 pub)), .c (.c (.int .i64 vars))]] (.tp [.v (.string (ofL [])), .v (.int .i64 1)]) :=
  fn_gives_at (P := Try.prog) (X := rulesY _) (env := [eFClean, eFPutS, eFCnt]) ⟨eFClean_ok, eFPutS_ok, eFCnt_ok, trivial⟩ Try.func7 1 (oL [(8, { ch := 0, hi := fun _ => 0, ex := 7, av := fun _ => .v (.bool true) }), (13, wT)]) (by kernel_rfl) ⟨_, rfl⟩
    (And.intro (show decide (vars > 2147483647) = true from decide_eq_true hv)
      (And.intro (show GivesE Try.prog 26 [.ags [.z [.l (gsC gs)] gs.length, .c (.c (.int .i64 pub)), .c (.c (.int .i64 vars))]] (.v (.bool true)) from ⟨fun vs w => Go.Proofs.enters_of (P := Try.prog) Try.func26 (by kernel_rfl) rfl vs w, cr_yes gs pub vars h⟩) trivial))
theorem put_u (gs : List GT) (pub vars : Int) (h : rightC gs pub vars) (hv : ¬ vars > 2147483647) (hs : ∀ g, g ∈ gs → smG g) (j : Nat) (x : GT) (hj : gs[j]? = some x) (hx : ¬ cleanG x) (hp : ∀ (i : Nat) (y : GT), i < j → gs[i]? = some y → cleanG y) : Gives Try.prog 7 [.ags [.z [.l (gsC gs)] gs.length, .c (.c (.int .i64 pub)), .c (.c (.int .i64 vars))]] (.tp [.v (.string (ofL [])), .v (.int .i64 1)]) :=
  fn_gives_at (P := Try.prog) (X := rulesY _) (env := [eFClean, eFPutS, eFCnt]) ⟨eFClean_ok, eFPutS_ok, eFCnt_ok, trivial⟩ Try.func7 1 (oL [(8, { ch := 0, hi := fun _ => 0, ex := 7, av := fun _ => .v (.bool true) }), (13, wF), (18, { ch := 0, hi := fun _ => 0, ex := 2, cs := fun _ => [.y mgC] }), (33, rO 6 0), (38, rO 6 0), (64, lpO { I := pcJ gs pub vars, ex := .ret, E := pcF, fr := 65 })]) (by kernel_rfl) ⟨_, rfl⟩
    (And.intro (show some (pcJ gs pub vars) = some (pcJ gs pub vars) from rfl)
      (And.intro ((pc_no gs pub vars h.1 hs j x hj hx hp).pre [] (by kernel_rfl) (pc_pre gs pub vars))
      (And.intro (show (ofL (b4 .u32 (IntKind.u32.wrap (gs.length : Nat)) ++ b4 .u32 (IntKind.u32.wrap pub))).size + (ofL (b4 .u32 (IntKind.u32.wrap vars))).size ≤ 9223372036854775807 from by rw [sz_w]; show 8 + 4 ≤ _; decide)
      (And.intro (show (ofL (b4 .u32 (IntKind.u32.wrap (gs.length : Nat)))).size + (ofL (b4 .u32 (IntKind.u32.wrap pub))).size ≤ 9223372036854775807 from by rw [sz_w, sz_w]; decide)
      (And.intro (show flat [.y mgC] = (ofL mgC).data.toList.map byteV from flat_y mgC)
      (And.intro (show decide (vars > 2147483647) = false from decide_eq_false hv)
      (And.intro (show GivesE Try.prog 26 [.ags [.z [.l (gsC gs)] gs.length, .c (.c (.int .i64 pub)), .c (.c (.int .i64 vars))]] (.v (.bool true)) from ⟨fun vs w => Go.Proofs.enters_of (P := Try.prog) Try.func26 (by kernel_rfl) rfl vs w, cr_yes gs pub vars h⟩) trivial)))))))
theorem put_k (gs : List GT) (pub vars : Int) (h : rightC gs pub vars) (hv : ¬ vars > 2147483647) (hs : ∀ g, g ∈ gs → smG g) (hc : ∀ g, g ∈ gs → cleanG g) : Gives Try.prog 7 [.ags [.z [.l (gsC gs)] gs.length, .c (.c (.int .i64 pub)), .c (.c (.int .i64 vars))]] (.tp [.v (.string (ofL (outC gs pub vars gs.length))), .v (.int .i64 0)]) :=
  fn_gives_at (P := Try.prog) (X := rulesY _) (env := [eFClean, eFPutS, eFCnt]) ⟨eFClean_ok, eFPutS_ok, eFCnt_ok, trivial⟩ Try.func7 1 (oL [(8, { ch := 0, hi := fun _ => 0, ex := 7, av := fun _ => .v (.bool true) }), (13, wF), (18, { ch := 0, hi := fun _ => 0, ex := 2, cs := fun _ => [.y mgC] }), (33, rO 6 0), (38, rO 6 0), (64, lpO { I := pcJ gs pub vars, ex := .exit 0, E := pcE (outC gs pub vars gs.length), fr := 65 }), (78, { ch := 0, hi := fun _ => 0, ru := 10, av := fun _ => .v (.string (ofL (outC gs pub vars gs.length))) })]) (by kernel_rfl) ⟨_, rfl⟩
    (And.intro (show (flat [.y (outC gs pub vars gs.length)]).take (outC gs pub vars gs.length).length = (ofL (outC gs pub vars gs.length)).data.toList.map byteV ∧ (outC gs pub vars gs.length).length = (ofL (outC gs pub vars gs.length)).size from ⟨by rw [flat_y, List.take_of_length_le (by simp)]; rfl, rfl⟩)
      (And.intro (show some (pcJ gs pub vars) = some (pcJ gs pub vars) from rfl)
      (And.intro ((pc_all gs pub vars h.1 hs hc).pre [] (by kernel_rfl) (pc_pre gs pub vars))
      (And.intro (show (ofL (b4 .u32 (IntKind.u32.wrap (gs.length : Nat)) ++ b4 .u32 (IntKind.u32.wrap pub))).size + (ofL (b4 .u32 (IntKind.u32.wrap vars))).size ≤ 9223372036854775807 from by rw [sz_w]; show 8 + 4 ≤ _; decide)
      (And.intro (show (ofL (b4 .u32 (IntKind.u32.wrap (gs.length : Nat)))).size + (ofL (b4 .u32 (IntKind.u32.wrap pub))).size ≤ 9223372036854775807 from by rw [sz_w, sz_w]; decide)
      (And.intro (show flat [.y mgC] = (ofL mgC).data.toList.map byteV from flat_y mgC)
      (And.intro (show decide (vars > 2147483647) = false from decide_eq_false hv)
      (And.intro (show GivesE Try.prog 26 [.ags [.z [.l (gsC gs)] gs.length, .c (.c (.int .i64 pub)), .c (.c (.int .i64 vars))]] (.v (.bool true)) from ⟨fun vs w => Go.Proofs.enters_of (P := Try.prog) Try.func26 (by kernel_rfl) rfl vs w, cr_yes gs pub vars h⟩) trivial))))))))
end Go.Proofs.Ytmbllhibdbeplaa
