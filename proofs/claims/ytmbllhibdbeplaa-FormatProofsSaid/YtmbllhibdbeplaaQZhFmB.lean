/- Pruned: ZhFmB. -/
import Derived.Test.YtmbllhibdbeplaaQGg
import Derived.Test.YtmbllhibdbeplaaQZhFmA
set_option linter.unusedSimpArgs false
set_option linter.unusedVariables false
namespace Go.Proofs.Ytmbllhibdbeplaa
open Go.Ev Go.RowKit
def ptS (ps : List A1) : List UInt8 := if ptE ps = 0 then ptsB ps else []
theorem pts_any (ps : List A1) (hn : ps.length ≤ 1000000) (hs : smP1 ps) : Gives Try.prog 16 [.rz [.l (ptsC ps)] ps.length] (.tp [.v (.string (ofL (ptS ps))), .v (.int .i64 (ptE ps))]) := by
  unfold ptS
  by_cases h : ptE ps = 0
  · rw [if_pos h, h]; exact pts_yes ps hn hs h
  · rw [if_neg h]; exact pts_no ps hn hs h
theorem pts_nine (p : PF) (hs : p.sm) : Gives Try.prog 16 [.rd p.pc 9 9] (.tp [.v (.string (ofL (ptS p.pts))), .v (.int .i64 (ptE p.pts))]) :=
  Gives.rd_rz (cs' := [.l (ptsC p.pts)]) (pts_any p.pts (by show 9 ≤ 1000000; decide) hs.1) rfl ⟨[], by rw [p.pc_flat, List.append_nil]⟩ (by decide)
theorem ptS_le (ps : List A1) : (ptS ps).length ≤ 48 * ps.length := by
  unfold ptS
  split
  · exact ptsB_length ps
  · exact Nat.zero_le _
theorem fp_U0 (p : PF) (v : VT) (hp : p.sm) (hv : v.sm) (hc : ¬ cleanN p.nums) (h2 : spEr v = 0) : Gives Try.prog 5 [.t (.ag p.ch), .t (.ag v.ch)] (.v (.bool true)) :=
  fn_gives_at (P := Try.prog) (X := rulesY _) (env := [eFAlive, eLClean, eLNum]) ⟨eFAlive_ok, eLClean_ok, eLNum_ok, trivial⟩ Try.func5 1 (oL [(48, wO 1), (4, { ch := 0, hi := fun _ => 0, ex := 7, av := fun _ => .tp [.v (.string (ofL [])), .v (.int .i64 1)] }), (29, { ch := 0, hi := fun _ => 0, ex := 7, av := fun _ => .tp [.v (.string (ofL (ptS p.pts))), .v (.int .i64 (ptE p.pts))] }), (52, { ch := 0, hi := fun _ => 0, ex := 7, av := fun _ => .tp [.v (.string (ofL (mgV ++ spS v))), .v (.int .i64 0)] }), (59, { ch := 0, hi := fun _ => 0, ex := 7, av := fun _ => .tp [.v (.string (ofL (spS v))), .v (.int .i64 (spEr v))] }), (70, rO 6 0), (85, rO 6 0), (96, wT), (104, rO 6 0), (109, wF), (115, wT)]) (by kernel_rfl) ⟨_, rfl⟩
    (And.intro (show ((ofL (mgV ++ spS v)).toList == (ofL (mgV ++ spS v)).toList) = true from by simp)
      (And.intro (show (spEr v != 0) = false from by rw [h2]; rfl)
      (And.intro (show (ofL mgV).size + (ofL (spS v)).size ≤ 9223372036854775807 from by
        have h1 := spS_le v
        have h2 : mgV.length = 4 := rfl
        show (mgV).length + ((spS v)).length ≤ _
        (try simp only [List.length_append])
        omega)
      (And.intro (show ((ofL []).toList == (ofL []).toList) = true from by simp)
      (And.intro (show (ofL (mgP ++ ptS p.pts)).size + (ofL (numB p.nums)).size ≤ 9223372036854775807 from by
        have h1 : (ptS p.pts).length ≤ 48 * 9 := ptS_le p.pts
        have h2 : mgP.length = 4 := rfl
        have h3 : (numB p.nums).length = 32 * 6 := numB_length p.nums
        show ((mgP ++ ptS p.pts)).length + ((numB p.nums)).length ≤ _
        (try simp only [List.length_append])
        omega)
      (And.intro (show p.nums.length ≤ 1000000 ∧ sm4 p.nums from ⟨by show 6 ≤ 1000000; decide, hp.2⟩)
      (And.intro (show (ofL mgP).size + (ofL (ptS p.pts)).size ≤ 9223372036854775807 from by
        have h1 : (ptS p.pts).length ≤ 48 * 9 := ptS_le p.pts
        have h2 : mgP.length = 4 := rfl
        show (mgP).length + ((ptS p.pts)).length ≤ _
        (try simp only [List.length_append])
        omega)
      (And.intro (show GivesE Try.prog 20 [.t (.ag v.ch)] (.tp [.v (.string (ofL (spS v))), .v (.int .i64 (spEr v))]) from ⟨fun vs w => Go.Proofs.enters_of (P := Try.prog) Try.func20 (by kernel_rfl) rfl vs w, sp_gives v hv⟩)
      (And.intro (show GivesE Try.prog 19 [.t (.ag v.ch)] (.tp [.v (.string (ofL (mgV ++ spS v))), .v (.int .i64 0)]) from ⟨fun vs w => Go.Proofs.enters_of (P := Try.prog) Try.func19 (by kernel_rfl) rfl vs w, ck_good v hv h2⟩)
      (And.intro (show p.nums.length ≤ 1000000 ∧ sm4 p.nums ∧ ¬ cleanN p.nums from ⟨by show 6 ≤ 1000000; decide, hp.2, hc⟩)
      (And.intro (show GivesE Try.prog 16 [.rd p.pc 9 9] (.tp [.v (.string (ofL (ptS p.pts))), .v (.int .i64 (ptE p.pts))]) from ⟨fun vs w => Go.Proofs.enters_of (P := Try.prog) Try.func16 (by kernel_rfl) rfl vs w, pts_nine p hp⟩)
      (And.intro (show GivesE Try.prog 18 [.t (.ag p.ch)] (.tp [.v (.string (ofL [])), .v (.int .i64 1)]) from ⟨fun vs w => Go.Proofs.enters_of (P := Try.prog) Try.func18 (by kernel_rfl) rfl vs w, pf_un p hp hc⟩) trivial))))))))))))
theorem fp_U1 (p : PF) (v : VT) (hp : p.sm) (hv : v.sm) (hc : ¬ cleanN p.nums) (h2 : spEr v ≠ 0) : Gives Try.prog 5 [.t (.ag p.ch), .t (.ag v.ch)] (.v (.bool true)) :=
  fn_gives_at (P := Try.prog) (X := rulesY _) (env := [eFAlive, eLClean, eLNum]) ⟨eFAlive_ok, eLClean_ok, eLNum_ok, trivial⟩ Try.func5 1 (oL [(48, wO 1), (4, { ch := 0, hi := fun _ => 0, ex := 7, av := fun _ => .tp [.v (.string (ofL [])), .v (.int .i64 1)] }), (29, { ch := 0, hi := fun _ => 0, ex := 7, av := fun _ => .tp [.v (.string (ofL (ptS p.pts))), .v (.int .i64 (ptE p.pts))] }), (52, { ch := 0, hi := fun _ => 0, ex := 7, av := fun _ => .tp [.v (.string (ofL [])), .v (.int .i64 (spEr v))] }), (59, { ch := 0, hi := fun _ => 0, ex := 7, av := fun _ => .tp [.v (.string (ofL (spS v))), .v (.int .i64 (spEr v))] }), (70, rO 6 0), (85, rO 6 0), (96, wT), (104, rO 6 0), (109, wT), (112, wT), (115, wT)]) (by kernel_rfl) ⟨_, rfl⟩
    (And.intro (show ((ofL []).toList == (ofL []).toList) = true from by simp)
      (And.intro (show (spEr v == spEr v) = true from by simp)
      (And.intro (show (spEr v != 0) = true from by simpa using h2)
      (And.intro (show (ofL mgV).size + (ofL (spS v)).size ≤ 9223372036854775807 from by
        have h1 := spS_le v
        have h2 : mgV.length = 4 := rfl
        show (mgV).length + ((spS v)).length ≤ _
        (try simp only [List.length_append])
        omega)
      (And.intro (show ((ofL []).toList == (ofL []).toList) = true from by simp)
      (And.intro (show (ofL (mgP ++ ptS p.pts)).size + (ofL (numB p.nums)).size ≤ 9223372036854775807 from by
        have h1 : (ptS p.pts).length ≤ 48 * 9 := ptS_le p.pts
        have h2 : mgP.length = 4 := rfl
        have h3 : (numB p.nums).length = 32 * 6 := numB_length p.nums
        show ((mgP ++ ptS p.pts)).length + ((numB p.nums)).length ≤ _
        (try simp only [List.length_append])
        omega)
      (And.intro (show p.nums.length ≤ 1000000 ∧ sm4 p.nums from ⟨by show 6 ≤ 1000000; decide, hp.2⟩)
      (And.intro (show (ofL mgP).size + (ofL (ptS p.pts)).size ≤ 9223372036854775807 from by
        have h1 : (ptS p.pts).length ≤ 48 * 9 := ptS_le p.pts
        have h2 : mgP.length = 4 := rfl
        show (mgP).length + ((ptS p.pts)).length ≤ _
        (try simp only [List.length_append])
        omega)
      (And.intro (show GivesE Try.prog 20 [.t (.ag v.ch)] (.tp [.v (.string (ofL (spS v))), .v (.int .i64 (spEr v))]) from ⟨fun vs w => Go.Proofs.enters_of (P := Try.prog) Try.func20 (by kernel_rfl) rfl vs w, sp_gives v hv⟩)
      (And.intro (show GivesE Try.prog 19 [.t (.ag v.ch)] (.tp [.v (.string (ofL [])), .v (.int .i64 (spEr v))]) from ⟨fun vs w => Go.Proofs.enters_of (P := Try.prog) Try.func19 (by kernel_rfl) rfl vs w, ck_bad v hv h2⟩)
      (And.intro (show p.nums.length ≤ 1000000 ∧ sm4 p.nums ∧ ¬ cleanN p.nums from ⟨by show 6 ≤ 1000000; decide, hp.2, hc⟩)
      (And.intro (show GivesE Try.prog 16 [.rd p.pc 9 9] (.tp [.v (.string (ofL (ptS p.pts))), .v (.int .i64 (ptE p.pts))]) from ⟨fun vs w => Go.Proofs.enters_of (P := Try.prog) Try.func16 (by kernel_rfl) rfl vs w, pts_nine p hp⟩)
      (And.intro (show GivesE Try.prog 18 [.t (.ag p.ch)] (.tp [.v (.string (ofL [])), .v (.int .i64 1)]) from ⟨fun vs w => Go.Proofs.enters_of (P := Try.prog) Try.func18 (by kernel_rfl) rfl vs w, pf_un p hp hc⟩) trivial)))))))))))))
theorem fp_G0 (p : PF) (v : VT) (hp : p.sm) (hv : v.sm) (hc : cleanN p.nums) (h : ptE p.pts = 0) (h2 : spEr v = 0) : Gives Try.prog 5 [.t (.ag p.ch), .t (.ag v.ch)] (.v (.bool true)) :=
  fn_gives_at (P := Try.prog) (X := rulesY _) (env := [eFAlive, eLClean, eLNum]) ⟨eFAlive_ok, eLClean_ok, eLNum_ok, trivial⟩ Try.func5 1 (oL [(48, wO 0), (4, { ch := 0, hi := fun _ => 0, ex := 7, av := fun _ => .tp [.v (.string (ofL (prfN (prfB p.pts 9) p.nums 6))), .v (.int .i64 0)] }), (29, { ch := 0, hi := fun _ => 0, ex := 7, av := fun _ => .tp [.v (.string (ofL (ptS p.pts))), .v (.int .i64 (ptE p.pts))] }), (51, { ch := 0, hi := fun _ => 0, ex := 7, av := fun _ => .tp [.v (.string (ofL (mgV ++ spS v))), .v (.int .i64 0)] }), (58, { ch := 0, hi := fun _ => 0, ex := 7, av := fun _ => .tp [.v (.string (ofL (spS v))), .v (.int .i64 (spEr v))] }), (69, rO 6 0), (84, rO 6 0), (89, wF), (95, wT), (103, rO 6 0), (108, wF), (114, wT)]) (by kernel_rfl) ⟨_, rfl⟩
    (And.intro (show ((ofL (mgV ++ spS v)).toList == (ofL (mgV ++ spS v)).toList) = true from by simp)
      (And.intro (show (spEr v != 0) = false from by rw [h2]; rfl)
      (And.intro (show (ofL mgV).size + (ofL (spS v)).size ≤ 9223372036854775807 from by
        have h1 := spS_le v
        have h2 : mgV.length = 4 := rfl
        show (mgV).length + ((spS v)).length ≤ _
        (try simp only [List.length_append])
        omega)
      (And.intro (show ((ofL (prfN (prfB p.pts 9) p.nums 6)).toList == (ofL ((mgP ++ ptS p.pts) ++ numB p.nums)).toList) = true from by rw [pf_out]; unfold ptS; rw [if_pos h]; simp)
      (And.intro (show (ptE p.pts != 0) = false from by rw [h]; rfl)
      (And.intro (show (ofL (mgP ++ ptS p.pts)).size + (ofL (numB p.nums)).size ≤ 9223372036854775807 from by
        have h1 : (ptS p.pts).length ≤ 48 * 9 := ptS_le p.pts
        have h2 : mgP.length = 4 := rfl
        have h3 : (numB p.nums).length = 32 * 6 := numB_length p.nums
        show ((mgP ++ ptS p.pts)).length + ((numB p.nums)).length ≤ _
        (try simp only [List.length_append])
        omega)
      (And.intro (show p.nums.length ≤ 1000000 ∧ sm4 p.nums from ⟨by show 6 ≤ 1000000; decide, hp.2⟩)
      (And.intro (show (ofL mgP).size + (ofL (ptS p.pts)).size ≤ 9223372036854775807 from by
        have h1 : (ptS p.pts).length ≤ 48 * 9 := ptS_le p.pts
        have h2 : mgP.length = 4 := rfl
        show (mgP).length + ((ptS p.pts)).length ≤ _
        (try simp only [List.length_append])
        omega)
      (And.intro (show GivesE Try.prog 20 [.t (.ag v.ch)] (.tp [.v (.string (ofL (spS v))), .v (.int .i64 (spEr v))]) from ⟨fun vs w => Go.Proofs.enters_of (P := Try.prog) Try.func20 (by kernel_rfl) rfl vs w, sp_gives v hv⟩)
      (And.intro (show GivesE Try.prog 19 [.t (.ag v.ch)] (.tp [.v (.string (ofL (mgV ++ spS v))), .v (.int .i64 0)]) from ⟨fun vs w => Go.Proofs.enters_of (P := Try.prog) Try.func19 (by kernel_rfl) rfl vs w, ck_good v hv h2⟩)
      (And.intro (show p.nums.length ≤ 1000000 ∧ sm4 p.nums ∧ cleanN p.nums from ⟨by show 6 ≤ 1000000; decide, hp.2, hc⟩)
      (And.intro (show GivesE Try.prog 16 [.rd p.pc 9 9] (.tp [.v (.string (ofL (ptS p.pts))), .v (.int .i64 (ptE p.pts))]) from ⟨fun vs w => Go.Proofs.enters_of (P := Try.prog) Try.func16 (by kernel_rfl) rfl vs w, pts_nine p hp⟩)
      (And.intro (show GivesE Try.prog 18 [.t (.ag p.ch)] (.tp [.v (.string (ofL (prfN (prfB p.pts 9) p.nums 6))), .v (.int .i64 0)]) from ⟨fun vs w => Go.Proofs.enters_of (P := Try.prog) Try.func18 (by kernel_rfl) rfl vs w, pf_good p hp hc h⟩) trivial)))))))))))))
theorem fp_G1 (p : PF) (v : VT) (hp : p.sm) (hv : v.sm) (hc : cleanN p.nums) (h : ptE p.pts = 0) (h2 : spEr v ≠ 0) : Gives Try.prog 5 [.t (.ag p.ch), .t (.ag v.ch)] (.v (.bool true)) :=
  fn_gives_at (P := Try.prog) (X := rulesY _) (env := [eFAlive, eLClean, eLNum]) ⟨eFAlive_ok, eLClean_ok, eLNum_ok, trivial⟩ Try.func5 1 (oL [(48, wO 0), (4, { ch := 0, hi := fun _ => 0, ex := 7, av := fun _ => .tp [.v (.string (ofL (prfN (prfB p.pts 9) p.nums 6))), .v (.int .i64 0)] }), (29, { ch := 0, hi := fun _ => 0, ex := 7, av := fun _ => .tp [.v (.string (ofL (ptS p.pts))), .v (.int .i64 (ptE p.pts))] }), (51, { ch := 0, hi := fun _ => 0, ex := 7, av := fun _ => .tp [.v (.string (ofL [])), .v (.int .i64 (spEr v))] }), (58, { ch := 0, hi := fun _ => 0, ex := 7, av := fun _ => .tp [.v (.string (ofL (spS v))), .v (.int .i64 (spEr v))] }), (69, rO 6 0), (84, rO 6 0), (89, wF), (95, wT), (103, rO 6 0), (108, wT), (111, wT), (114, wT)]) (by kernel_rfl) ⟨_, rfl⟩
    (And.intro (show ((ofL []).toList == (ofL []).toList) = true from by simp)
      (And.intro (show (spEr v == spEr v) = true from by simp)
      (And.intro (show (spEr v != 0) = true from by simpa using h2)
      (And.intro (show (ofL mgV).size + (ofL (spS v)).size ≤ 9223372036854775807 from by
        have h1 := spS_le v
        have h2 : mgV.length = 4 := rfl
        show (mgV).length + ((spS v)).length ≤ _
        (try simp only [List.length_append])
        omega)
      (And.intro (show ((ofL (prfN (prfB p.pts 9) p.nums 6)).toList == (ofL ((mgP ++ ptS p.pts) ++ numB p.nums)).toList) = true from by rw [pf_out]; unfold ptS; rw [if_pos h]; simp)
      (And.intro (show (ptE p.pts != 0) = false from by rw [h]; rfl)
      (And.intro (show (ofL (mgP ++ ptS p.pts)).size + (ofL (numB p.nums)).size ≤ 9223372036854775807 from by
        have h1 : (ptS p.pts).length ≤ 48 * 9 := ptS_le p.pts
        have h2 : mgP.length = 4 := rfl
        have h3 : (numB p.nums).length = 32 * 6 := numB_length p.nums
        show ((mgP ++ ptS p.pts)).length + ((numB p.nums)).length ≤ _
        (try simp only [List.length_append])
        omega)
      (And.intro (show p.nums.length ≤ 1000000 ∧ sm4 p.nums from ⟨by show 6 ≤ 1000000; decide, hp.2⟩)
      (And.intro (show (ofL mgP).size + (ofL (ptS p.pts)).size ≤ 9223372036854775807 from by
        have h1 : (ptS p.pts).length ≤ 48 * 9 := ptS_le p.pts
        have h2 : mgP.length = 4 := rfl
        show (mgP).length + ((ptS p.pts)).length ≤ _
        (try simp only [List.length_append])
        omega)
      (And.intro (show GivesE Try.prog 20 [.t (.ag v.ch)] (.tp [.v (.string (ofL (spS v))), .v (.int .i64 (spEr v))]) from ⟨fun vs w => Go.Proofs.enters_of (P := Try.prog) Try.func20 (by kernel_rfl) rfl vs w, sp_gives v hv⟩)
      (And.intro (show GivesE Try.prog 19 [.t (.ag v.ch)] (.tp [.v (.string (ofL [])), .v (.int .i64 (spEr v))]) from ⟨fun vs w => Go.Proofs.enters_of (P := Try.prog) Try.func19 (by kernel_rfl) rfl vs w, ck_bad v hv h2⟩)
      (And.intro (show p.nums.length ≤ 1000000 ∧ sm4 p.nums ∧ cleanN p.nums from ⟨by show 6 ≤ 1000000; decide, hp.2, hc⟩)
      (And.intro (show GivesE Try.prog 16 [.rd p.pc 9 9] (.tp [.v (.string (ofL (ptS p.pts))), .v (.int .i64 (ptE p.pts))]) from ⟨fun vs w => Go.Proofs.enters_of (P := Try.prog) Try.func16 (by kernel_rfl) rfl vs w, pts_nine p hp⟩)
      (And.intro (show GivesE Try.prog 18 [.t (.ag p.ch)] (.tp [.v (.string (ofL (prfN (prfB p.pts 9) p.nums 6))), .v (.int .i64 0)]) from ⟨fun vs w => Go.Proofs.enters_of (P := Try.prog) Try.func18 (by kernel_rfl) rfl vs w, pf_good p hp hc h⟩) trivial))))))))))))))
theorem fp_B0 (p : PF) (v : VT) (hp : p.sm) (hv : v.sm) (hc : cleanN p.nums) (h : ptE p.pts ≠ 0) (h2 : spEr v = 0) : Gives Try.prog 5 [.t (.ag p.ch), .t (.ag v.ch)] (.v (.bool true)) :=
  fn_gives_at (P := Try.prog) (X := rulesY _) (env := [eFAlive, eLClean, eLNum]) ⟨eFAlive_ok, eLClean_ok, eLNum_ok, trivial⟩ Try.func5 1 (oL [(48, wO 0), (4, { ch := 0, hi := fun _ => 0, ex := 7, av := fun _ => .tp [.v (.string (ofL [])), .v (.int .i64 (ptE p.pts))] }), (29, { ch := 0, hi := fun _ => 0, ex := 7, av := fun _ => .tp [.v (.string (ofL (ptS p.pts))), .v (.int .i64 (ptE p.pts))] }), (51, { ch := 0, hi := fun _ => 0, ex := 7, av := fun _ => .tp [.v (.string (ofL (mgV ++ spS v))), .v (.int .i64 0)] }), (58, { ch := 0, hi := fun _ => 0, ex := 7, av := fun _ => .tp [.v (.string (ofL (spS v))), .v (.int .i64 (spEr v))] }), (69, rO 6 0), (84, rO 6 0), (89, wT), (92, wT), (95, wT), (103, rO 6 0), (108, wF), (114, wT)]) (by kernel_rfl) ⟨_, rfl⟩
    (And.intro (show ((ofL (mgV ++ spS v)).toList == (ofL (mgV ++ spS v)).toList) = true from by simp)
      (And.intro (show (spEr v != 0) = false from by rw [h2]; rfl)
      (And.intro (show (ofL mgV).size + (ofL (spS v)).size ≤ 9223372036854775807 from by
        have h1 := spS_le v
        have h2 : mgV.length = 4 := rfl
        show (mgV).length + ((spS v)).length ≤ _
        (try simp only [List.length_append])
        omega)
      (And.intro (show ((ofL []).toList == (ofL []).toList) = true from by simp)
      (And.intro (show (ptE p.pts == ptE p.pts) = true from by simp)
      (And.intro (show (ptE p.pts != 0) = true from by simpa using h)
      (And.intro (show (ofL (mgP ++ ptS p.pts)).size + (ofL (numB p.nums)).size ≤ 9223372036854775807 from by
        have h1 : (ptS p.pts).length ≤ 48 * 9 := ptS_le p.pts
        have h2 : mgP.length = 4 := rfl
        have h3 : (numB p.nums).length = 32 * 6 := numB_length p.nums
        show ((mgP ++ ptS p.pts)).length + ((numB p.nums)).length ≤ _
        (try simp only [List.length_append])
        omega)
      (And.intro (show p.nums.length ≤ 1000000 ∧ sm4 p.nums from ⟨by show 6 ≤ 1000000; decide, hp.2⟩)
      (And.intro (show (ofL mgP).size + (ofL (ptS p.pts)).size ≤ 9223372036854775807 from by
        have h1 : (ptS p.pts).length ≤ 48 * 9 := ptS_le p.pts
        have h2 : mgP.length = 4 := rfl
        show (mgP).length + ((ptS p.pts)).length ≤ _
        (try simp only [List.length_append])
        omega)
      (And.intro (show GivesE Try.prog 20 [.t (.ag v.ch)] (.tp [.v (.string (ofL (spS v))), .v (.int .i64 (spEr v))]) from ⟨fun vs w => Go.Proofs.enters_of (P := Try.prog) Try.func20 (by kernel_rfl) rfl vs w, sp_gives v hv⟩)
      (And.intro (show GivesE Try.prog 19 [.t (.ag v.ch)] (.tp [.v (.string (ofL (mgV ++ spS v))), .v (.int .i64 0)]) from ⟨fun vs w => Go.Proofs.enters_of (P := Try.prog) Try.func19 (by kernel_rfl) rfl vs w, ck_good v hv h2⟩)
      (And.intro (show p.nums.length ≤ 1000000 ∧ sm4 p.nums ∧ cleanN p.nums from ⟨by show 6 ≤ 1000000; decide, hp.2, hc⟩)
      (And.intro (show GivesE Try.prog 16 [.rd p.pc 9 9] (.tp [.v (.string (ofL (ptS p.pts))), .v (.int .i64 (ptE p.pts))]) from ⟨fun vs w => Go.Proofs.enters_of (P := Try.prog) Try.func16 (by kernel_rfl) rfl vs w, pts_nine p hp⟩)
      (And.intro (show GivesE Try.prog 18 [.t (.ag p.ch)] (.tp [.v (.string (ofL [])), .v (.int .i64 (ptE p.pts))]) from ⟨fun vs w => Go.Proofs.enters_of (P := Try.prog) Try.func18 (by kernel_rfl) rfl vs w, pf_bad p hp hc h⟩) trivial))))))))))))))
theorem fp_B1 (p : PF) (v : VT) (hp : p.sm) (hv : v.sm) (hc : cleanN p.nums) (h : ptE p.pts ≠ 0) (h2 : spEr v ≠ 0) : Gives Try.prog 5 [.t (.ag p.ch), .t (.ag v.ch)] (.v (.bool true)) :=
  fn_gives_at (P := Try.prog) (X := rulesY _) (env := [eFAlive, eLClean, eLNum]) ⟨eFAlive_ok, eLClean_ok, eLNum_ok, trivial⟩ Try.func5 1 (oL [(48, wO 0), (4, { ch := 0, hi := fun _ => 0, ex := 7, av := fun _ => .tp [.v (.string (ofL [])), .v (.int .i64 (ptE p.pts))] }), (29, { ch := 0, hi := fun _ => 0, ex := 7, av := fun _ => .tp [.v (.string (ofL (ptS p.pts))), .v (.int .i64 (ptE p.pts))] }), (51, { ch := 0, hi := fun _ => 0, ex := 7, av := fun _ => .tp [.v (.string (ofL [])), .v (.int .i64 (spEr v))] }), (58, { ch := 0, hi := fun _ => 0, ex := 7, av := fun _ => .tp [.v (.string (ofL (spS v))), .v (.int .i64 (spEr v))] }), (69, rO 6 0), (84, rO 6 0), (89, wT), (92, wT), (95, wT), (103, rO 6 0), (108, wT), (111, wT), (114, wT)]) (by kernel_rfl) ⟨_, rfl⟩
    (And.intro (show ((ofL []).toList == (ofL []).toList) = true from by simp)
      (And.intro (show (spEr v == spEr v) = true from by simp)
      (And.intro (show (spEr v != 0) = true from by simpa using h2)
      (And.intro (show (ofL mgV).size + (ofL (spS v)).size ≤ 9223372036854775807 from by
        have h1 := spS_le v
        have h2 : mgV.length = 4 := rfl
        show (mgV).length + ((spS v)).length ≤ _
        (try simp only [List.length_append])
        omega)
      (And.intro (show ((ofL []).toList == (ofL []).toList) = true from by simp)
      (And.intro (show (ptE p.pts == ptE p.pts) = true from by simp)
      (And.intro (show (ptE p.pts != 0) = true from by simpa using h)
      (And.intro (show (ofL (mgP ++ ptS p.pts)).size + (ofL (numB p.nums)).size ≤ 9223372036854775807 from by
        have h1 : (ptS p.pts).length ≤ 48 * 9 := ptS_le p.pts
        have h2 : mgP.length = 4 := rfl
        have h3 : (numB p.nums).length = 32 * 6 := numB_length p.nums
        show ((mgP ++ ptS p.pts)).length + ((numB p.nums)).length ≤ _
        (try simp only [List.length_append])
        omega)
      (And.intro (show p.nums.length ≤ 1000000 ∧ sm4 p.nums from ⟨by show 6 ≤ 1000000; decide, hp.2⟩)
      (And.intro (show (ofL mgP).size + (ofL (ptS p.pts)).size ≤ 9223372036854775807 from by
        have h1 : (ptS p.pts).length ≤ 48 * 9 := ptS_le p.pts
        have h2 : mgP.length = 4 := rfl
        show (mgP).length + ((ptS p.pts)).length ≤ _
        (try simp only [List.length_append])
        omega)
      (And.intro (show GivesE Try.prog 20 [.t (.ag v.ch)] (.tp [.v (.string (ofL (spS v))), .v (.int .i64 (spEr v))]) from ⟨fun vs w => Go.Proofs.enters_of (P := Try.prog) Try.func20 (by kernel_rfl) rfl vs w, sp_gives v hv⟩)
      (And.intro (show GivesE Try.prog 19 [.t (.ag v.ch)] (.tp [.v (.string (ofL [])), .v (.int .i64 (spEr v))]) from ⟨fun vs w => Go.Proofs.enters_of (P := Try.prog) Try.func19 (by kernel_rfl) rfl vs w, ck_bad v hv h2⟩)
      (And.intro (show p.nums.length ≤ 1000000 ∧ sm4 p.nums ∧ cleanN p.nums from ⟨by show 6 ≤ 1000000; decide, hp.2, hc⟩)
      (And.intro (show GivesE Try.prog 16 [.rd p.pc 9 9] (.tp [.v (.string (ofL (ptS p.pts))), .v (.int .i64 (ptE p.pts))]) from ⟨fun vs w => Go.Proofs.enters_of (P := Try.prog) Try.func16 (by kernel_rfl) rfl vs w, pts_nine p hp⟩)
      (And.intro (show GivesE Try.prog 18 [.t (.ag p.ch)] (.tp [.v (.string (ofL [])), .v (.int .i64 (ptE p.pts))]) from ⟨fun vs w => Go.Proofs.enters_of (P := Try.prog) Try.func18 (by kernel_rfl) rfl vs w, pf_bad p hp hc h⟩) trivial)))))))))))))))
theorem formatProofs_gives (p : PF) (v : VT) (hp : p.sm) (hv : v.sm) : Gives Try.prog 5 [.t (.ag p.ch), .t (.ag v.ch)] (.v (.bool true)) := by
  by_cases hc : cleanN p.nums
  · by_cases h : ptE p.pts = 0
    · by_cases h2 : spEr v = 0
      · exact fp_G0 p v hp hv hc h h2
      · exact fp_G1 p v hp hv hc h h2
    · by_cases h2 : spEr v = 0
      · exact fp_B0 p v hp hv hc h h2
      · exact fp_B1 p v hp hv hc h h2
  · by_cases h2 : spEr v = 0
    · exact fp_U0 p v hp hv hc h2
    · exact fp_U1 p v hp hv hc h2
end Go.Proofs.Ytmbllhibdbeplaa
