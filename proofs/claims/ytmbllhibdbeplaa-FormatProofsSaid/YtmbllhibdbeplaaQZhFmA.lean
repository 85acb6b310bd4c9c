/- Pruned: ZhFmA. -/
import Derived.Test.YtmbllhibdbeplaaQGg
set_option linter.unusedSimpArgs false
set_option linter.unusedVariables false
namespace Go.Proofs.Ytmbllhibdbeplaa
open Go.Ev Go.RowKit
def mgV : List UInt8 := [67, 72, 86, 49]
def mgP : List UInt8 := [67, 72, 80, 49]
theorem spS_le (v : VT) : (spS v).length ≤ 500 := by
  unfold spS
  split
  · have h1 := ptsB_length v.pts
    have h2 := p2S_le v.b
    have h3 : v.pts.length = 8 := rfl
    have h4 : (spO v).length = 2 := rfl
    simp only [List.length_append]
    omega
  · exact Nat.zero_le _
theorem ck_bad (v : VT) (hs : v.sm) (h : spEr v ≠ 0) : Gives Try.prog 19 [.t (.ag v.ch)] (.tp [.v (.string (ofL [])), .v (.int .i64 (spEr v))]) :=
  fn_gives_at (P := Try.prog) (X := rulesY _) (env := []) trivial Try.func19 1 (oL [(6, { ch := 0, hi := fun _ => 0, ex := 2, cs := fun _ => [.y mgV] }), (13, { ch := 0, hi := fun _ => 0, ex := 7, av := fun _ => .tp [.v (.string (ofL (spS v))), .v (.int .i64 (spEr v))] }), (33, { ch := 0, hi := fun _ => 0, ex := 1 }), (45, wT)]) (by kernel_rfl) ⟨_, rfl⟩
    (And.intro (show (spEr v != 0) = true from by simpa using h)
      (And.intro (show sizes [.y mgV] = (4) * 1 ∧ 4 + (ofL (spS v)).size ≤ 9223372036854775807 ∧ (4 + (ofL (spS v)).size) * 1 ≤ 140737488355328 ∧ True from by
        have h1 : mgV.length = 4 := rfl
        have h2 : (ofL (spS v)).size ≤ 500 := spS_le v
        refine ⟨?_, ?_, ?_, trivial⟩ <;> (try simp only [sizes, Ch.size]) <;> omega)
      (And.intro (show GivesE Try.prog 20 [.t (.ag v.ch)] (.tp [.v (.string (ofL (spS v))), .v (.int .i64 (spEr v))]) from ⟨fun vs w => Go.Proofs.enters_of (P := Try.prog) Try.func20 (by kernel_rfl) rfl vs w, sp_gives v hs⟩)
      (And.intro (show flat [.y mgV] = (ofL mgV).data.toList.map byteV from flat_y mgV) trivial))))
theorem ck_good (v : VT) (hs : v.sm) (h : spEr v = 0) : Gives Try.prog 19 [.t (.ag v.ch)] (.tp [.v (.string (ofL (mgV ++ spS v))), .v (.int .i64 0)]) :=
  fn_gives_at (P := Try.prog) (X := rulesY _) (env := []) trivial Try.func19 1 (oL [(6, { ch := 0, hi := fun _ => 0, ex := 2, cs := fun _ => [.y mgV] }), (13, { ch := 0, hi := fun _ => 0, ex := 7, av := fun _ => .tp [.v (.string (ofL (spS v))), .v (.int .i64 (spEr v))] }), (33, { ch := 0, hi := fun _ => 0, ex := 1 }), (45, wF), (50, { ch := 0, hi := fun _ => 0, ru := 10, av := fun _ => .v (.string (ofL (mgV ++ spS v))) })]) (by kernel_rfl) ⟨_, rfl⟩
    (And.intro (show (flat [.y mgV, .y (spS v)]).take (4 + (ofL (spS v)).size) = (ofL (mgV ++ spS v)).data.toList.map byteV ∧ 4 + (ofL (spS v)).size = (ofL (mgV ++ spS v)).size from two_y mgV (spS v))
      (And.intro (show (spEr v != 0) = false from by rw [h]; rfl)
      (And.intro (show sizes [.y mgV] = (4) * 1 ∧ 4 + (ofL (spS v)).size ≤ 9223372036854775807 ∧ (4 + (ofL (spS v)).size) * 1 ≤ 140737488355328 ∧ True from by
        have h1 : mgV.length = 4 := rfl
        have h2 : (ofL (spS v)).size ≤ 500 := spS_le v
        refine ⟨?_, ?_, ?_, trivial⟩ <;> (try simp only [sizes, Ch.size]) <;> omega)
      (And.intro (show GivesE Try.prog 20 [.t (.ag v.ch)] (.tp [.v (.string (ofL (spS v))), .v (.int .i64 (spEr v))]) from ⟨fun vs w => Go.Proofs.enters_of (P := Try.prog) Try.func20 (by kernel_rfl) rfl vs w, sp_gives v hs⟩)
      (And.intro (show flat [.y mgV] = (ofL mgV).data.toList.map byteV from flat_y mgV) trivial)))))
structure PF where
  a0 : A1
  a1 : A1
  a2 : A1
  a3 : A1
  a4 : A1
  a5 : A1
  a6 : A1
  a7 : A1
  a8 : A1
  f0 : Nat
  f1 : Nat
  f2 : Nat
  f3 : Nat
  f4 : Nat
  f5 : Nat
def PF.pts (p : PF) : List A1 := [p.a0, p.a1, p.a2, p.a3, p.a4, p.a5, p.a6, p.a7, p.a8]
def PF.nums (p : PF) : List Nat := [p.f0, p.f1, p.f2, p.f3, p.f4, p.f5]
def PF.pc (p : PF) : List Ch := [.n 6 p.a0.1, .n 6 p.a0.2.1, .c (.bool p.a0.2.2), .n 6 p.a1.1, .n 6 p.a1.2.1, .c (.bool p.a1.2.2), .n 6 p.a2.1, .n 6 p.a2.2.1, .c (.bool p.a2.2.2), .n 6 p.a3.1, .n 6 p.a3.2.1, .c (.bool p.a3.2.2), .n 6 p.a4.1, .n 6 p.a4.2.1, .c (.bool p.a4.2.2), .n 6 p.a5.1, .n 6 p.a5.2.1, .c (.bool p.a5.2.2), .n 6 p.a6.1, .n 6 p.a6.2.1, .c (.bool p.a6.2.2), .n 6 p.a7.1, .n 6 p.a7.2.1, .c (.bool p.a7.2.2), .n 6 p.a8.1, .n 6 p.a8.2.1, .c (.bool p.a8.2.2)]
def PF.nc (p : PF) : List Ch := [.n 4 p.f0, .n 4 p.f1, .n 4 p.f2, .n 4 p.f3, .n 4 p.f4, .n 4 p.f5]
def PF.ch (p : PF) : List Ch := [.n 6 p.a0.1, .n 6 p.a0.2.1, .c (.bool p.a0.2.2), .n 6 p.a1.1, .n 6 p.a1.2.1, .c (.bool p.a1.2.2), .n 6 p.a2.1, .n 6 p.a2.2.1, .c (.bool p.a2.2.2), .n 6 p.a3.1, .n 6 p.a3.2.1, .c (.bool p.a3.2.2), .n 6 p.a4.1, .n 6 p.a4.2.1, .c (.bool p.a4.2.2), .n 6 p.a5.1, .n 6 p.a5.2.1, .c (.bool p.a5.2.2), .n 6 p.a6.1, .n 6 p.a6.2.1, .c (.bool p.a6.2.2), .n 6 p.a7.1, .n 6 p.a7.2.1, .c (.bool p.a7.2.2), .n 6 p.a8.1, .n 6 p.a8.2.1, .c (.bool p.a8.2.2), .n 4 p.f0, .n 4 p.f1, .n 4 p.f2, .n 4 p.f3, .n 4 p.f4, .n 4 p.f5]
def PF.sm (p : PF) : Prop := smP1 p.pts ∧ sm4 p.nums
theorem PF.pc_flat (p : PF) : flat p.pc = flat [.l (ptsC p.pts)] := by
  simp [PF.pc, PF.pts, ptsC, ptC, ptP, flat, Ch.cells]
theorem PF.nc_flat (p : PF) : flat p.nc = flat [.l (numC 4 p.nums)] := by
  simp [PF.nc, PF.nums, numC, flat, Ch.cells]
def prfB (ps : List A1) (i : Nat) : List UInt8 := mgP ++ ptsB (ps.take i)
def prfN (a : List UInt8) (ns : List Nat) (i : Nat) : List UInt8 := a ++ numB (ns.take i)
theorem prfB_length (ps : List A1) (i : Nat) : (prfB ps i).length ≤ 4 + 48 * ps.length := by
  unfold prfB
  have h1 : mgP.length = 4 := rfl
  have h2 := ptsB_length (ps.take i)
  have h4 : (ps.take i).length ≤ ps.length := by rw [List.length_take]; omega
  simp only [List.length_append]
  omega
theorem prfN_length (a : List UInt8) (ns : List Nat) (i : Nat) : (prfN a ns i).length ≤ a.length + 32 * ns.length := by
  unfold prfN
  have h2 := numB_length (ns.take i)
  have h4 : (ns.take i).length ≤ ns.length := by rw [List.length_take]; omega
  simp only [List.length_append]
  omega
theorem prfB_succ {ps : List A1} {i : Nat} {x : A1} (h : ps[i]? = some x) : prfB ps (i + 1) = prfB ps i ++ p1S x := by
  unfold prfB; rw [ptsB_succ h]; simp
theorem prfN_succ {a : List UInt8} {ns : List Nat} {i x : Nat} (h : ns[i]? = some x) : prfN a ns (i + 1) = prfN a ns i ++ putN x := by
  unfold prfN; rw [numB_succ h]; simp
def pfI (p : PF) (ps : List A1) (out : List UInt8) (bd z : Int) : LState := { n := 79, sl := [(1, .p 0 0), (4, .p 23 0), (43, .ag [.l (ptsC ps)]), (44, .v (.int .i64 z))], hp := [(0, .own p.ch 58), (23, .own [.sx 21 out.length, .c (.int .i64 bd)] 128), (21, .gr [.y out] 5 1)] }
def pfJ (p : PF) : LState := { n := 79, sl := [(1, .p 0 0), (4, .p 23 0), (43, .ag p.pc), (44, .v (.int .i64 0))], hp := [(0, .own p.ch 58), (23, .own [.sx 21 4, .c (.int .i64 0)] 128), (21, .gr [.y mgP] 5 1)] }
def pfE (p : PF) (out : List UInt8) (bd : Int) : LState := { n := 79, sl := [(1, .p 0 0), (4, .p 23 0)], hp := [(0, .own p.ch 58), (23, .own [.sx 21 out.length, .c (.int .i64 bd)] 128), (21, .gr [.y out] 5 1)] }
def pnI (ns : List Nat) (out : List UInt8) (bd z : Int) : LState := { n := 79, sl := [(4, .p 23 0), (66, .ag [.l (numC 4 ns)]), (67, .v (.int .i64 z))], hp := [(23, .own [.sx 21 out.length, .c (.int .i64 bd)] 128), (21, .gr [.y out] 5 1)] }
def pnJ (p : PF) (out : List UInt8) (bd : Int) : LState := { n := 79, sl := [(4, .p 23 0), (66, .ag p.nc), (67, .v (.int .i64 0))], hp := [(23, .own [.sx 21 out.length, .c (.int .i64 bd)] 128), (21, .gr [.y out] 5 1)] }
def pnE (out : List UInt8) (bd : Int) : LState := { n := 79, sl := [(4, .p 23 0)], hp := [(23, .own [.sx 21 out.length, .c (.int .i64 bd)] 128), (21, .gr [.y out] 5 1)] }
theorem pf_pre (p : PF) : fitsP (pfJ p).aa (pfI p p.pts (prfB p.pts 0) (ptE (p.pts.take 0)) ((0 : Nat) : Int)) [] := by
  have e : fitsP (pfJ p).aa (pfI p p.pts (prfB p.pts 0) (ptE (p.pts.take 0)) ((0 : Nat) : Int)) [] = (((true = true ∧ 0 = 0) ∧ (true = true ∧ 0 = 0) ∧ flat p.pc = flat [.l (ptsC p.pts)] ∧ (Value.int .i64 0) = (Value.int .i64 ((0 : Nat) : Int)) ∧ True) ∧ ((58 = 58 ∧ flat p.ch = flat p.ch) ∧ (128 = 128 ∧ (true = true ∧ 4 = (prfB p.pts 0).length) ∧ (true = true ∧ true = true ∧ [Value.int .i64 0] = [Value.int .i64 (ptE (p.pts.take 0))]) ∧ True) ∧ ((5 = 5 ∧ 1 = 1) ∧ flat [.y mgP] = flat [.y (prfB p.pts 0)]) ∧ True)) := by kernel_rfl
  rw [e]
  exact ⟨⟨⟨rfl, rfl⟩, ⟨rfl, rfl⟩, p.pc_flat, rfl, trivial⟩, ⟨⟨rfl, rfl⟩, ⟨rfl, ⟨rfl, by simp [prfB, ptsB, mgP]⟩, ⟨rfl, rfl, by simp [ptE]⟩, trivial⟩, ⟨⟨rfl, rfl⟩, by simp [prfB, ptsB]⟩, trivial⟩⟩
theorem pn_pre (p : PF) (a : List UInt8) (bd : Int) : fitsP (pnJ p a bd).aa (pnI p.nums (prfN a p.nums 0) bd ((0 : Nat) : Int)) [] := by
  have e : fitsP (pnJ p a bd).aa (pnI p.nums (prfN a p.nums 0) bd ((0 : Nat) : Int)) [] = (((true = true ∧ 0 = 0) ∧ flat p.nc = flat [.l (numC 4 p.nums)] ∧ (Value.int .i64 0) = (Value.int .i64 ((0 : Nat) : Int)) ∧ True) ∧ ((128 = 128 ∧ (true = true ∧ a.length = (prfN a p.nums 0).length) ∧ (true = true ∧ true = true ∧ [Value.int .i64 bd] = [Value.int .i64 bd]) ∧ True) ∧ ((5 = 5 ∧ 1 = 1) ∧ flat [.y a] = flat [.y (prfN a p.nums 0)]) ∧ True)) := by kernel_rfl
  rw [e]
  exact ⟨⟨⟨rfl, rfl⟩, p.nc_flat, rfl, trivial⟩, ⟨⟨rfl, ⟨rfl, by simp [prfN, numB]⟩, ⟨rfl, rfl, rfl⟩, trivial⟩, ⟨⟨rfl, rfl⟩, by simp [prfN, numB]⟩, trivial⟩⟩
theorem pf_round0 (p : PF) (ps : List A1) (hm : ps.length = 9) (i : Nat) (a : A1) (ha : ps[i]? = some a) (hs : smP1 ps) (h0 : ptE (ps.take i) = 0) : Sound Try.prog 0 false (loopB Try.f18 0) (pfI p ps (prfB ps i) (ptE (ps.take i)) (i : Int)).aa .normal (pfI p ps (prfB ps (i + 1)) (ptE (ps.take (i + 1))) ((i + 1 : Nat) : Int)).aa := by
  have hi := plt ha
  rw [hm] at hi
  exact roundP_sound (P := Try.prog) (X := rulesY _) (env := [eFClean, ePut1T, eFPutS]) ⟨eFClean_ok, ePut1T_ok, eFPutS_ok, trivial⟩ (n := 1) (os := oL [(46, wT), (47, { ch := 0, hi := fun _ => i, ru := 13, cs := fun _ => ptP a }), (52, wO 0), (60, wT), (72, { ch := 0, hi := fun _ => 0, ex := 1 })]) (fb := 0) (rd := false) (c := (loopB Try.f18 0)) (k := 46) (I := pfI p ps (prfB ps i) (ptE (ps.take i)) (i : Int)) (J := pfI p ps (prfB ps (i + 1)) (ptE (ps.take (i + 1))) ((i + 1 : Nat) : Int)) (τ := [(21, 72)]) (ex := .normal) (by kernel_rfl)
    (And.intro (show ((true = true ∧ 0 = 0) ∧ (true = true ∧ 0 = 0) ∧ flat [.l (ptsC ps)] = flat [.l (ptsC ps)] ∧ (Value.int .i64 (IntKind.i64.wrap ((i : Int) + 1))) = (Value.int .i64 ((i + 1 : Nat) : Int)) ∧ True) ∧ ((58 = 58 ∧ flat p.ch = flat p.ch) ∧ (128 = 128 ∧ (true = true ∧ (prfB ps i).length + (ofL (p1S a)).size = (prfB ps (i + 1)).length) ∧ (true = true ∧ true = true ∧ [Value.int .i64 (p1E a)] = [Value.int .i64 (ptE (ps.take (i + 1)))]) ∧ True) ∧ ((5 = 5 ∧ 1 = 1) ∧ flat [.y (prfB ps i), .y (p1S a)] = flat [.y (prfB ps (i + 1))]) ∧ True) from ⟨⟨⟨rfl, rfl⟩, ⟨rfl, rfl⟩, rfl, by rw [show IntKind.i64.wrap ((i : Int) + 1) = ((i + 1 : Nat) : Int) by rw [wrap_i64]; omega], trivial⟩, ⟨⟨rfl, rfl⟩, ⟨rfl, ⟨rfl, by rw [prfB_succ ha, List.length_append]; rfl⟩, ⟨rfl, rfl, by rw [ptE_succ ha, if_pos h0]⟩, trivial⟩, ⟨⟨rfl, rfl⟩, by rw [prfB_succ ha, flat_y]; simp [flat, Ch.cells]⟩, trivial⟩⟩)
      (And.intro (show sizes [.y (prfB ps i)] = ((prfB ps i).length) * 1 ∧ (prfB ps i).length + (ofL (p1S a)).size ≤ 9223372036854775807 ∧ ((prfB ps i).length + (ofL (p1S a)).size) * 1 ≤ 140737488355328 ∧ True from by
        have h1 := prfB_length ps i
        have h2 : (ofL (p1S a)).size ≤ 48 := p1S_le a
        refine ⟨?_, ?_, ?_, trivial⟩ <;> (try simp only [sizes, Ch.size]) <;> omega)
      (And.intro (show (ptE (ps.take i) == 0) = true from by simpa using h0)
      (And.intro (show sml1 a from hs a (pmem ha))
      (And.intro (show (i : Int) = ((i : Nat) : Int) ∧ i < 9 ∧ sizes (ptP a) = 13 ∧ ((flat [.l (ptsC ps)]).drop (i * 13)).take 13 = flat (ptP a) from ⟨rfl, hi, pt_at ps i a ha⟩)
      (And.intro (show decide ((i : Int) < 9) = true from decide_eq_true (by omega)) trivial))))))
theorem pf_round1 (p : PF) (ps : List A1) (hm : ps.length = 9) (i : Nat) (a : A1) (ha : ps[i]? = some a) (hs : smP1 ps) (h0 : ptE (ps.take i) ≠ 0) : Sound Try.prog 0 false (loopB Try.f18 0) (pfI p ps (prfB ps i) (ptE (ps.take i)) (i : Int)).aa .normal (pfI p ps (prfB ps (i + 1)) (ptE (ps.take (i + 1))) ((i + 1 : Nat) : Int)).aa := by
  have hi := plt ha
  rw [hm] at hi
  exact roundP_sound (P := Try.prog) (X := rulesY _) (env := [eFClean, ePut1T, eFPutS]) ⟨eFClean_ok, ePut1T_ok, eFPutS_ok, trivial⟩ (n := 1) (os := oL [(46, wT), (47, { ch := 0, hi := fun _ => i, ru := 13, cs := fun _ => ptP a }), (52, wO 0), (60, wF), (67, { ch := 0, hi := fun _ => 0, ex := 1 })]) (fb := 0) (rd := false) (c := (loopB Try.f18 0)) (k := 46) (I := pfI p ps (prfB ps i) (ptE (ps.take i)) (i : Int)) (J := pfI p ps (prfB ps (i + 1)) (ptE (ps.take (i + 1))) ((i + 1 : Nat) : Int)) (τ := [(21, 67)]) (ex := .normal) (by kernel_rfl)
    (And.intro (show ((true = true ∧ 0 = 0) ∧ (true = true ∧ 0 = 0) ∧ flat [.l (ptsC ps)] = flat [.l (ptsC ps)] ∧ (Value.int .i64 (IntKind.i64.wrap ((i : Int) + 1))) = (Value.int .i64 ((i + 1 : Nat) : Int)) ∧ True) ∧ ((58 = 58 ∧ flat p.ch = flat p.ch) ∧ (128 = 128 ∧ (true = true ∧ (prfB ps i).length + (ofL (p1S a)).size = (prfB ps (i + 1)).length) ∧ (true = true ∧ true = true ∧ [Value.int .i64 (ptE (ps.take i))] = [Value.int .i64 (ptE (ps.take (i + 1)))]) ∧ True) ∧ ((5 = 5 ∧ 1 = 1) ∧ flat [.y (prfB ps i), .y (p1S a)] = flat [.y (prfB ps (i + 1))]) ∧ True) from ⟨⟨⟨rfl, rfl⟩, ⟨rfl, rfl⟩, rfl, by rw [show IntKind.i64.wrap ((i : Int) + 1) = ((i + 1 : Nat) : Int) by rw [wrap_i64]; omega], trivial⟩, ⟨⟨rfl, rfl⟩, ⟨rfl, ⟨rfl, by rw [prfB_succ ha, List.length_append]; rfl⟩, ⟨rfl, rfl, by rw [ptE_succ ha, if_neg h0]⟩, trivial⟩, ⟨⟨rfl, rfl⟩, by rw [prfB_succ ha, flat_y]; simp [flat, Ch.cells]⟩, trivial⟩⟩)
      (And.intro (show sizes [.y (prfB ps i)] = ((prfB ps i).length) * 1 ∧ (prfB ps i).length + (ofL (p1S a)).size ≤ 9223372036854775807 ∧ ((prfB ps i).length + (ofL (p1S a)).size) * 1 ≤ 140737488355328 ∧ True from by
        have h1 := prfB_length ps i
        have h2 : (ofL (p1S a)).size ≤ 48 := p1S_le a
        refine ⟨?_, ?_, ?_, trivial⟩ <;> (try simp only [sizes, Ch.size]) <;> omega)
      (And.intro (show (ptE (ps.take i) == 0) = false from by simpa using h0)
      (And.intro (show sml1 a from hs a (pmem ha))
      (And.intro (show (i : Int) = ((i : Nat) : Int) ∧ i < 9 ∧ sizes (ptP a) = 13 ∧ ((flat [.l (ptsC ps)]).drop (i * 13)).take 13 = flat (ptP a) from ⟨rfl, hi, pt_at ps i a ha⟩)
      (And.intro (show decide ((i : Int) < 9) = true from decide_eq_true (by omega)) trivial))))))
theorem pf_end (p : PF) (ps : List A1) (out : List UInt8) (bd : Int) : Sound Try.prog 0 false (loopB Try.f18 0) (pfI p ps out bd 9).aa (.exit 0) (pfE p out bd).aa :=
  roundK_sound (P := Try.prog) (X := rulesY _) (env := []) trivial (n := 0) (os := oL []) (fb := 0) (rd := false) (c := (loopB Try.f18 0)) (k := 46) (I := pfI p ps out bd 9) (sk := [1, 4]) (hk := [0, 23, 21]) (lk := []) (ex := .exit 0)
    (L := pfE p out bd) (by kernel_rfl) trivial
theorem pf_all (p : PF) (ps : List A1) (hm : ps.length = 9) (hs : smP1 ps) : Sound Try.prog 0 false (.loop (loopB Try.f18 0)) (pfI p ps (prfB ps 0) (ptE (ps.take 0)) ((0 : Nat) : Int)).aa (.exit 0) (pfE p (prfB ps 9) (ptE ps)).aa := by
  refine loop_ok (m := fun y : { i : Nat // i ≤ 9 } => 9 - y.val) (fun y => pfI p ps (prfB ps y.val) (ptE (ps.take y.val)) (y.val : Int)) (by simp) (fun y => ?_) ⟨0, by omega⟩
  obtain ⟨i, hi⟩ := y
  by_cases e : i < 9
  · obtain ⟨x, hx⟩ := pof (show i < ps.length by omega)
    refine .inl ⟨⟨i + 1, e⟩, by show 9 - (i + 1) < 9 - i; omega, ?_⟩
    by_cases h0 : ptE (ps.take i) = 0
    · exact pf_round0 p ps hm i x hx hs h0
    · exact pf_round1 p ps hm i x hx hs h0
  · have e : i = 9 := by omega
    subst e
    refine .inr ?_
    show Sound Try.prog 0 false _ (pfI p ps (prfB ps 9) (ptE (ps.take 9)) _).aa _ _
    rw [show ps.take 9 = ps from List.take_of_length_le (by omega)]
    exact pf_end p ps _ _
theorem pn_round0 (ns : List Nat) (hm : ns.length = 6) (a : List UInt8) (hl : a.length ≤ 1000) (bd : Int) (i x : Nat) (hx : ns[i]? = some x) (hb : sm4 ns) (h0 : bd = 0) : Sound Try.prog 0 false (loopB Try.f18 1) (pnI ns (prfN a ns i) bd (i : Int)).aa .normal (pnI ns (prfN a ns (i + 1)) bd ((i + 1 : Nat) : Int)).aa := by
  have hi := get_lt hx
  rw [hm] at hi
  exact roundP_sound (P := Try.prog) (X := rulesY _) (env := [eFClean, ePut1T, eFPutS]) ⟨eFClean_ok, ePut1T_ok, eFPutS_ok, trivial⟩ (n := 1) (os := oL [(61, wT), (62, { ch := 0, hi := fun _ => i, ru := 13, cs := fun _ => [.n 4 x] }), (73, wT), (85, { ch := 0, hi := fun _ => 0, ex := 1 })]) (fb := 0) (rd := false) (c := (loopB Try.f18 1)) (k := 61) (I := pnI ns (prfN a ns i) bd (i : Int)) (J := pnI ns (prfN a ns (i + 1)) bd ((i + 1 : Nat) : Int)) (τ := [(21, 85)]) (ex := .normal) (by kernel_rfl)
    (And.intro (show ((true = true ∧ 0 = 0) ∧ flat [.l (numC 4 ns)] = flat [.l (numC 4 ns)] ∧ (Value.int .i64 (IntKind.i64.wrap ((i : Int) + 1))) = (Value.int .i64 ((i + 1 : Nat) : Int)) ∧ True) ∧ ((128 = 128 ∧ (true = true ∧ (prfN a ns i).length + (ofL (putN x)).size = (prfN a ns (i + 1)).length) ∧ (true = true ∧ true = true ∧ [Value.int .i64 0] = [Value.int .i64 bd]) ∧ True) ∧ ((5 = 5 ∧ 1 = 1) ∧ flat [.y (prfN a ns i), .y (putN x)] = flat [.y (prfN a ns (i + 1))]) ∧ True) from ⟨⟨⟨rfl, rfl⟩, rfl, by rw [show IntKind.i64.wrap ((i : Int) + 1) = ((i + 1 : Nat) : Int) by rw [wrap_i64]; omega], trivial⟩, ⟨⟨rfl, ⟨rfl, by rw [prfN_succ hx, List.length_append]; rfl⟩, ⟨rfl, rfl, by rw [h0]⟩, trivial⟩, ⟨⟨rfl, rfl⟩, by rw [prfN_succ hx, flat_y]; simp [flat, Ch.cells]⟩, trivial⟩⟩)
      (And.intro (show sizes [.y (prfN a ns i)] = ((prfN a ns i).length) * 1 ∧ (prfN a ns i).length + (ofL (putN x)).size ≤ 9223372036854775807 ∧ ((prfN a ns i).length + (ofL (putN x)).size) * 1 ≤ 140737488355328 ∧ True from by
        have h1 := prfN_length a ns i
        have h2 : (ofL (putN x)).size = 32 := putN_length x
        refine ⟨?_, ?_, ?_, trivial⟩ <;> (try simp only [sizes, Ch.size]) <;> omega)
      (And.intro (show (bd == 0) = true from by simpa using h0)
      (And.intro (show smtS (.inr x) from hb x (get_mem hx))
      (And.intro (show (i : Int) = ((i : Nat) : Int) ∧ i < 6 ∧ sizes [.n 4 x] = 4 ∧ ((flat [.l (numC 4 ns)]).drop (i * 4)).take 4 = flat [.n 4 x] from ⟨rfl, hi, num_at ns i x hx⟩)
      (And.intro (show decide ((i : Int) < 6) = true from decide_eq_true (by omega)) trivial))))))
theorem pn_round1 (ns : List Nat) (hm : ns.length = 6) (a : List UInt8) (hl : a.length ≤ 1000) (bd : Int) (i x : Nat) (hx : ns[i]? = some x) (hb : sm4 ns) (h0 : bd ≠ 0) : Sound Try.prog 0 false (loopB Try.f18 1) (pnI ns (prfN a ns i) bd (i : Int)).aa .normal (pnI ns (prfN a ns (i + 1)) bd ((i + 1 : Nat) : Int)).aa := by
  have hi := get_lt hx
  rw [hm] at hi
  exact roundP_sound (P := Try.prog) (X := rulesY _) (env := [eFClean, ePut1T, eFPutS]) ⟨eFClean_ok, ePut1T_ok, eFPutS_ok, trivial⟩ (n := 1) (os := oL [(61, wT), (62, { ch := 0, hi := fun _ => i, ru := 13, cs := fun _ => [.n 4 x] }), (73, wF), (80, { ch := 0, hi := fun _ => 0, ex := 1 })]) (fb := 0) (rd := false) (c := (loopB Try.f18 1)) (k := 61) (I := pnI ns (prfN a ns i) bd (i : Int)) (J := pnI ns (prfN a ns (i + 1)) bd ((i + 1 : Nat) : Int)) (τ := [(21, 80)]) (ex := .normal) (by kernel_rfl)
    (And.intro (show ((true = true ∧ 0 = 0) ∧ flat [.l (numC 4 ns)] = flat [.l (numC 4 ns)] ∧ (Value.int .i64 (IntKind.i64.wrap ((i : Int) + 1))) = (Value.int .i64 ((i + 1 : Nat) : Int)) ∧ True) ∧ ((128 = 128 ∧ (true = true ∧ (prfN a ns i).length + (ofL (putN x)).size = (prfN a ns (i + 1)).length) ∧ (true = true ∧ true = true ∧ [Value.int .i64 bd] = [Value.int .i64 bd]) ∧ True) ∧ ((5 = 5 ∧ 1 = 1) ∧ flat [.y (prfN a ns i), .y (putN x)] = flat [.y (prfN a ns (i + 1))]) ∧ True) from ⟨⟨⟨rfl, rfl⟩, rfl, by rw [show IntKind.i64.wrap ((i : Int) + 1) = ((i + 1 : Nat) : Int) by rw [wrap_i64]; omega], trivial⟩, ⟨⟨rfl, ⟨rfl, by rw [prfN_succ hx, List.length_append]; rfl⟩, ⟨rfl, rfl, rfl⟩, trivial⟩, ⟨⟨rfl, rfl⟩, by rw [prfN_succ hx, flat_y]; simp [flat, Ch.cells]⟩, trivial⟩⟩)
      (And.intro (show sizes [.y (prfN a ns i)] = ((prfN a ns i).length) * 1 ∧ (prfN a ns i).length + (ofL (putN x)).size ≤ 9223372036854775807 ∧ ((prfN a ns i).length + (ofL (putN x)).size) * 1 ≤ 140737488355328 ∧ True from by
        have h1 := prfN_length a ns i
        have h2 : (ofL (putN x)).size = 32 := putN_length x
        refine ⟨?_, ?_, ?_, trivial⟩ <;> (try simp only [sizes, Ch.size]) <;> omega)
      (And.intro (show (bd == 0) = false from by simpa using h0)
      (And.intro (show smtS (.inr x) from hb x (get_mem hx))
      (And.intro (show (i : Int) = ((i : Nat) : Int) ∧ i < 6 ∧ sizes [.n 4 x] = 4 ∧ ((flat [.l (numC 4 ns)]).drop (i * 4)).take 4 = flat [.n 4 x] from ⟨rfl, hi, num_at ns i x hx⟩)
      (And.intro (show decide ((i : Int) < 6) = true from decide_eq_true (by omega)) trivial))))))
theorem pn_end (ns : List Nat) (out : List UInt8) (bd : Int) : Sound Try.prog 0 false (loopB Try.f18 1) (pnI ns out bd 6).aa (.exit 2) (pnE out bd).aa :=
  roundK_sound (P := Try.prog) (X := rulesY _) (env := []) trivial (n := 0) (os := oL []) (fb := 0) (rd := false) (c := (loopB Try.f18 1)) (k := 61) (I := pnI ns out bd 6) (sk := [4]) (hk := [23, 21]) (lk := []) (ex := .exit 2)
    (L := pnE out bd) (by kernel_rfl) trivial
theorem pn_all (ns : List Nat) (hm : ns.length = 6) (a : List UInt8) (hl : a.length ≤ 1000) (bd : Int) (hb : sm4 ns) : Sound Try.prog 0 false (.loop (loopB Try.f18 1)) (pnI ns (prfN a ns 0) bd ((0 : Nat) : Int)).aa (.exit 2) (pnE (prfN a ns 6) bd).aa := by
  refine loop_ok (m := fun y : { i : Nat // i ≤ 6 } => 6 - y.val) (fun y => pnI ns (prfN a ns y.val) bd (y.val : Int)) (by simp) (fun y => ?_) ⟨0, by omega⟩
  obtain ⟨i, hi⟩ := y
  by_cases e : i < 6
  · obtain ⟨x, hx⟩ := get_of (show i < ns.length by omega)
    refine .inl ⟨⟨i + 1, e⟩, by show 6 - (i + 1) < 6 - i; omega, ?_⟩
    by_cases h0 : bd = 0
    · exact pn_round0 ns hm a hl bd i x hx hb h0
    · exact pn_round1 ns hm a hl bd i x hx hb h0
  · have e : i = 6 := by omega
    subst e
    exact .inr (pn_end ns _ _)
theorem pf_un (p : PF) (hs : p.sm) (hc : ¬ cleanN p.nums) : Gives Try.prog 18 [.t (.ag p.ch)] (.tp [.v (.string (ofL [])), .v (.int .i64 1)]) :=
  fn_gives_at (P := Try.prog) (X := rulesY _) (env := [eFClean, ePut1T, eFPutS]) ⟨eFClean_ok, ePut1T_ok, eFPutS_ok, trivial⟩ Try.func18 1 (oL [(16, wO 1)]) (by kernel_rfl) ⟨_, rfl⟩
    (And.intro (show p.nums.length ≤ 1000000 ∧ sm4 p.nums ∧ ¬ cleanN p.nums from ⟨by show 6 ≤ 1000000; decide, hs.2, hc⟩) trivial)
theorem pf_bad (p : PF) (hs : p.sm) (hc : cleanN p.nums) (h : ptE p.pts ≠ 0) : Gives Try.prog 18 [.t (.ag p.ch)] (.tp [.v (.string (ofL [])), .v (.int .i64 (ptE p.pts))]) :=
  fn_gives_at (P := Try.prog) (X := rulesY _) (env := [eFClean, ePut1T, eFPutS]) ⟨eFClean_ok, ePut1T_ok, eFPutS_ok, trivial⟩ Try.func18 1 (oL [(16, wO 0), (21, { ch := 0, hi := fun _ => 0, ex := 2, cs := fun _ => [.y mgP] }), (46, lpO { I := pfJ p, ex := .exit 0, E := pfE p (prfB p.pts 9) (ptE p.pts), fr := 47 }), (61, lpO { I := pnJ p (prfB p.pts 9) (ptE p.pts), ex := .exit 2, E := pnE (prfN (prfB p.pts 9) p.nums 6) (ptE p.pts), fr := 62 }), (70, wT)]) (by kernel_rfl) ⟨_, rfl⟩
    (And.intro (show (ptE p.pts != 0) = true from by simpa using h)
      (And.intro (show some (pnJ p (prfB p.pts 9) (ptE p.pts)) = some (pnJ p (prfB p.pts 9) (ptE p.pts)) from rfl)
      (And.intro ((pn_all p.nums rfl (prfB p.pts 9) (by have h1 := prfB_length p.pts 9; have h2 : p.pts.length = 9 := rfl; omega) (ptE p.pts) hs.2).pre [] (by kernel_rfl) (pn_pre p _ _))
      (And.intro (show some (pfJ p) = some (pfJ p) from rfl)
      (And.intro ((pf_all p p.pts rfl hs.1).pre [] (by kernel_rfl) (pf_pre p))
      (And.intro (show flat [.y mgP] = (ofL mgP).data.toList.map byteV from flat_y mgP)
      (And.intro (show p.nums.length ≤ 1000000 ∧ sm4 p.nums ∧ cleanN p.nums from ⟨by show 6 ≤ 1000000; decide, hs.2, hc⟩) trivial)))))))
theorem pf_good (p : PF) (hs : p.sm) (hc : cleanN p.nums) (h : ptE p.pts = 0) : Gives Try.prog 18 [.t (.ag p.ch)] (.tp [.v (.string (ofL (prfN (prfB p.pts 9) p.nums 6))), .v (.int .i64 0)]) :=
  fn_gives_at (P := Try.prog) (X := rulesY _) (env := [eFClean, ePut1T, eFPutS]) ⟨eFClean_ok, ePut1T_ok, eFPutS_ok, trivial⟩ Try.func18 1 (oL [(16, wO 0), (21, { ch := 0, hi := fun _ => 0, ex := 2, cs := fun _ => [.y mgP] }), (46, lpO { I := pfJ p, ex := .exit 0, E := pfE p (prfB p.pts 9) (ptE p.pts), fr := 47 }), (61, lpO { I := pnJ p (prfB p.pts 9) (ptE p.pts), ex := .exit 2, E := pnE (prfN (prfB p.pts 9) p.nums 6) (ptE p.pts), fr := 62 }), (70, wF), (75, { ch := 0, hi := fun _ => 0, ru := 10, av := fun _ => .v (.string (ofL (prfN (prfB p.pts 9) p.nums 6))) })]) (by kernel_rfl) ⟨_, rfl⟩
    (And.intro (show (flat [.y (prfN (prfB p.pts 9) p.nums 6)]).take (prfN (prfB p.pts 9) p.nums 6).length = (ofL (prfN (prfB p.pts 9) p.nums 6)).data.toList.map byteV ∧ (prfN (prfB p.pts 9) p.nums 6).length = (ofL (prfN (prfB p.pts 9) p.nums 6)).size from ⟨by rw [flat_y, List.take_of_length_le (by simp)]; rfl, rfl⟩)
      (And.intro (show (ptE p.pts != 0) = false from by rw [h]; rfl)
      (And.intro (show some (pnJ p (prfB p.pts 9) (ptE p.pts)) = some (pnJ p (prfB p.pts 9) (ptE p.pts)) from rfl)
      (And.intro ((pn_all p.nums rfl (prfB p.pts 9) (by have h1 := prfB_length p.pts 9; have h2 : p.pts.length = 9 := rfl; omega) (ptE p.pts) hs.2).pre [] (by kernel_rfl) (pn_pre p _ _))
      (And.intro (show some (pfJ p) = some (pfJ p) from rfl)
      (And.intro ((pf_all p p.pts rfl hs.1).pre [] (by kernel_rfl) (pf_pre p))
      (And.intro (show flat [.y mgP] = (ofL mgP).data.toList.map byteV from flat_y mgP)
      (And.intro (show p.nums.length ≤ 1000000 ∧ sm4 p.nums ∧ cleanN p.nums from ⟨by show 6 ≤ 1000000; decide, hs.2, hc⟩) trivial))))))))
instance (ns : List Nat) : Decidable (cleanN ns) := by unfold cleanN; infer_instance
theorem pf_out (p : PF) : (prfN (prfB p.pts 9) p.nums 6) = (mgP ++ ptsB p.pts) ++ numB p.nums := rfl
end Go.Proofs.Ytmbllhibdbeplaa
