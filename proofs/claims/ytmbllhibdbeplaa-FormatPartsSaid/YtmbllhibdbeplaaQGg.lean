/- Pruned: Gg. -/
import Derived.Test.YtmbllhibdbeplaaQGf
import Derived.Test.YtmbllhibdbeplaaQGc
import Derived.Test.YtmbllhibdbeplaaQGb
import Derived.Test.YtmbllhibdbeplaaQGa
/- chirographlaw23.FormatCircuits: any circuit is written as just those bytes, or refused. -/
set_option linter.unusedSimpArgs false
set_option linter.unusedVariables false
namespace Go.Proofs.Ytmbllhibdbeplaa
open Go.Ev Go.RowKit
def eFAlive : Entry := entry0 12 [(none, .v (.bool true))]
theorem eFAlive_ok : eFAlive.OK Try.prog := entry0_ok (fun args w => Go.Proofs.enters_of (P := Try.prog) Try.func12 (by kernel_rfl) rfl args w) (only (fn_gives_at (P := Try.prog) (X := rulesY _) (env := [eFCnt]) ⟨eFCnt_ok, trivial⟩ Try.func12 8 (oL [(32, { ch := 0, hi := fun _ => 0, ex := 2, cs := fun _ => [.y [67, 72, 87, 49]] }), (96, wT)]) (by kernel_rfl) ⟨_, rfl⟩ (And.intro (show true = true from rfl) (And.intro (show flat [.y [67, 72, 87, 49]] = (ofL [67, 72, 87, 49]).data.toList.map byteV from flat_y _) trivial))))
end Go.Proofs.Ytmbllhibdbeplaa

/- Contracts of Put1 and Put2 in one alternative; of format.PutPublics, PutKey and chirographlaw23.points. -/
set_option linter.unusedSimpArgs false
set_option linter.unusedVariables false
namespace Go.Proofs.Ytmbllhibdbeplaa
open Go.Ev Go.RowKit
instance (a : A1) : Decidable (may1 a) := by unfold may1 is1; infer_instance
instance (a : A2) : Decidable (may2 a) := by unfold may2 is2; infer_instance
instance (a : A1) : Decidable (grp1 a) := by unfold grp1; infer_instance
instance (a : A2) : Decidable (grp2 a) := by unfold grp2; infer_instance
/-! format.PutPublics -/
def mgW : List UInt8 := [67, 72, 87, 49]
/-! points -/
def ptP (a : A1) : List Ch := [.n 6 a.1, .n 6 a.2.1, .c (.bool a.2.2)]
def ptC (a : A1) : List Value := flat (ptP a)
theorem ptC_length (a : A1) : (ptC a).length = 13 := by unfold ptC ptP; simp [flat, Ch.cells, limbs_length]
def ptsC (ps : List A1) : List Value := ps.flatMap ptC
theorem pt_at (ps : List A1) (i : Nat) (a : A1) (h : ps[i]? = some a) : sizes (ptP a) = 13 ∧ ((flat [.l (ptsC ps)]).drop (i * 13)).take 13 = flat (ptP a) := by
  refine ⟨rfl, ?_⟩
  rw [flat_l]
  exact rows_at ptC ptC_length ps i a h
end Go.Proofs.Ytmbllhibdbeplaa

/- Contract of format.PutKey. -/
set_option linter.unusedSimpArgs false
set_option linter.unusedVariables false
namespace Go.Proofs.Ytmbllhibdbeplaa
open Go.Ev Go.RowKit
end Go.Proofs.Ytmbllhibdbeplaa

/- Contract of setup.Put. -/
set_option linter.unusedSimpArgs false
set_option linter.unusedVariables false
namespace Go.Proofs.Ytmbllhibdbeplaa
open Go.Ev Go.RowKit
structure VT where
  l : Int
  p : Int
  q0 : A1
  q1 : A1
  q2 : A1
  q3 : A1
  q4 : A1
  s0 : A1
  s1 : A1
  s2 : A1
  b : A2
def VT.pts (v : VT) : List A1 := [v.q0, v.q1, v.q2, v.q3, v.q4, v.s0, v.s1, v.s2]
def VT.ch (v : VT) : List Ch := [.c (.int .i64 v.l), .c (.int .i64 v.p), .n 6 v.q0.1, .n 6 v.q0.2.1, .c (.bool v.q0.2.2), .n 6 v.q1.1, .n 6 v.q1.2.1, .c (.bool v.q1.2.2), .n 6 v.q2.1, .n 6 v.q2.2.1, .c (.bool v.q2.2.2), .n 6 v.q3.1, .n 6 v.q3.2.1, .c (.bool v.q3.2.2), .n 6 v.q4.1, .n 6 v.q4.2.1, .c (.bool v.q4.2.2), .n 6 v.s0.1, .n 6 v.s0.2.1, .c (.bool v.s0.2.2), .n 6 v.s1.1, .n 6 v.s1.2.1, .c (.bool v.s1.2.2), .n 6 v.s2.1, .n 6 v.s2.2.1, .c (.bool v.s2.2.2), .n 6 v.b.1.1, .n 6 v.b.1.2, .n 6 v.b.2.1.1, .n 6 v.b.2.1.2, .c (.bool v.b.2.2)]
def VT.pc (v : VT) : List Ch := [.n 6 v.q0.1, .n 6 v.q0.2.1, .c (.bool v.q0.2.2), .n 6 v.q1.1, .n 6 v.q1.2.1, .c (.bool v.q1.2.2), .n 6 v.q2.1, .n 6 v.q2.2.1, .c (.bool v.q2.2.2), .n 6 v.q3.1, .n 6 v.q3.2.1, .c (.bool v.q3.2.2), .n 6 v.q4.1, .n 6 v.q4.2.1, .c (.bool v.q4.2.2), .n 6 v.s0.1, .n 6 v.s0.2.1, .c (.bool v.s0.2.2), .n 6 v.s1.1, .n 6 v.s1.2.1, .c (.bool v.s1.2.2), .n 6 v.s2.1, .n 6 v.s2.2.1, .c (.bool v.s2.2.2)]
theorem VT.pc_flat (v : VT) : flat v.pc = flat [.l (ptsC v.pts)] := by
  simp [VT.pc, VT.pts, ptsC, ptC, ptP, flat, Ch.cells]
def spOK (v : VT) : Prop := 0 ≤ v.l ∧ v.l ≤ 255 ∧ 0 ≤ v.p ∧ v.p ≤ 255
instance (v : VT) : Decidable (spOK v) := by unfold spOK; infer_instance
end Go.Proofs.Ytmbllhibdbeplaa

/- Contracts of format.PutCheck and format.PutProof. -/
set_option linter.unusedSimpArgs false
set_option linter.unusedVariables false
namespace Go.Proofs.Ytmbllhibdbeplaa
open Go.Ev Go.RowKit
def mgV : List UInt8 := [67, 72, 86, 49]
def mgP : List UInt8 := [67, 72, 80, 49]
structure PF where
  a0 : A1
  a1 : A1
  a2 : A1
  a3 : A1
  a4 : A1
  a5 : A1
  a6 : A1
  a7 : A1
  a8 : A1
  f0 : Nat
  f1 : Nat
  f2 : Nat
  f3 : Nat
  f4 : Nat
  f5 : Nat
def PF.pts (p : PF) : List A1 := [p.a0, p.a1, p.a2, p.a3, p.a4, p.a5, p.a6, p.a7, p.a8]
def PF.nums (p : PF) : List Nat := [p.f0, p.f1, p.f2, p.f3, p.f4, p.f5]
def PF.pc (p : PF) : List Ch := [.n 6 p.a0.1, .n 6 p.a0.2.1, .c (.bool p.a0.2.2), .n 6 p.a1.1, .n 6 p.a1.2.1, .c (.bool p.a1.2.2), .n 6 p.a2.1, .n 6 p.a2.2.1, .c (.bool p.a2.2.2), .n 6 p.a3.1, .n 6 p.a3.2.1, .c (.bool p.a3.2.2), .n 6 p.a4.1, .n 6 p.a4.2.1, .c (.bool p.a4.2.2), .n 6 p.a5.1, .n 6 p.a5.2.1, .c (.bool p.a5.2.2), .n 6 p.a6.1, .n 6 p.a6.2.1, .c (.bool p.a6.2.2), .n 6 p.a7.1, .n 6 p.a7.2.1, .c (.bool p.a7.2.2), .n 6 p.a8.1, .n 6 p.a8.2.1, .c (.bool p.a8.2.2)]
def PF.nc (p : PF) : List Ch := [.n 4 p.f0, .n 4 p.f1, .n 4 p.f2, .n 4 p.f3, .n 4 p.f4, .n 4 p.f5]
def PF.ch (p : PF) : List Ch := [.n 6 p.a0.1, .n 6 p.a0.2.1, .c (.bool p.a0.2.2), .n 6 p.a1.1, .n 6 p.a1.2.1, .c (.bool p.a1.2.2), .n 6 p.a2.1, .n 6 p.a2.2.1, .c (.bool p.a2.2.2), .n 6 p.a3.1, .n 6 p.a3.2.1, .c (.bool p.a3.2.2), .n 6 p.a4.1, .n 6 p.a4.2.1, .c (.bool p.a4.2.2), .n 6 p.a5.1, .n 6 p.a5.2.1, .c (.bool p.a5.2.2), .n 6 p.a6.1, .n 6 p.a6.2.1, .c (.bool p.a6.2.2), .n 6 p.a7.1, .n 6 p.a7.2.1, .c (.bool p.a7.2.2), .n 6 p.a8.1, .n 6 p.a8.2.1, .c (.bool p.a8.2.2), .n 4 p.f0, .n 4 p.f1, .n 4 p.f2, .n 4 p.f3, .n 4 p.f4, .n 4 p.f5]
theorem PF.pc_flat (p : PF) : flat p.pc = flat [.l (ptsC p.pts)] := by
  simp [PF.pc, PF.pts, ptsC, ptC, ptP, flat, Ch.cells]
theorem PF.nc_flat (p : PF) : flat p.nc = flat [.l (numC 4 p.nums)] := by
  simp [PF.nc, PF.nums, numC, flat, Ch.cells]
instance (ns : List Nat) : Decidable (cleanN ns) := by unfold cleanN; infer_instance
end Go.Proofs.Ytmbllhibdbeplaa
