/- Pruned: Rt. -/
import Derived.Test.YtbejkhmdmojojaaGreatQTo2
import Derived.Test.YtbejkhmdmojojaaGreatQRmP
import Derived.Test.YtbejkhmdmojojaaGreatQAl3
set_option linter.unusedSimpArgs false
set_option linter.unusedVariables false
namespace Go.Proofs.YtbejkhmdmojojaaGreat
open Go.Ev Go.RowKit

theorem mul2_r (a b : F2) : mul2 a b = (a.1 * b.1 - a.2 * b.2, a.1 * b.2 + a.2 * b.1) := by
  refine ext2 ?_ ?_ <;> simp only [mul2] <;> grind
theorem flat_q_list : ∀ l m : List (Fin Pp), l.length = m.length → flat (l.map .q) = flat (m.map .q) → l = m
  | [], [], _, _ => rfl
  | [], _ :: _, h, _ => by simp at h
  | _ :: _, [], h, _ => by simp at h
  | x :: l, y :: m, h, e => by
    have e' : limbs 6 x.val ++ flat (l.map .q) = limbs 6 y.val ++ flat (m.map .q) := e
    have hl : (limbs 6 x.val).length = (limbs 6 y.val).length := by simp only [limbs, List.length_cons, List.length_nil]
    have h1 := List.append_inj e' hl
    have h2 := limbs_inj 6 x.val y.val (Nat.lt_trans x.isLt (by decide)) (Nat.lt_trans y.isLt (by decide)) h1.1
    rw [Fin.ext h2, flat_q_list l m (by simpa using h) h1.2]
def eMul2r : Entry := entry2 32 parL2.x parL2.x (fun a b => [(none, .ag (q2 (mul2 a b)))])
theorem eMul2r_ok : eMul2r.OK Tryz.prog := entry2_ok (fun args w => Go.Proofs.enters_of (P := Tryz.prog) Tryz.func32 (by kernel_rfl) rfl args w) (fun a b => only (by rw [mul2_r]; exact fn_gives (P := Tryz.prog) (env := [eMulPr, eSubPr, eAddP]) ⟨eMulPr_ok, eSubPr_ok, eAddP_ok, trivial⟩ Tryz.func32 0 o0 (by kernel_rfl) trivial))
end Go.Proofs.YtbejkhmdmojojaaGreat
