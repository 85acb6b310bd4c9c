/- Pruned: Hf. -/
import Derived.Test.YtokjhbmmdmeafaaGreatQHc
import Derived.Test.YtokjhbmmdmeafaaGreatQHa
import Derived.Test.YtokjhbmmdmeafaaGreatQHd
set_option linter.unusedSimpArgs false
set_option linter.unusedVariables false
namespace Go.Proofs.YtokjhbmmdmeafaaGreat
open Go.Ev Go.RowKit
open Tryz
def tc : Entry := sW 72 uI.x uI.x (fun a b => [(none, .ag (m2 (q6 a b)))])
theorem rk : tc.OK prog := q9 (fun args w => Go.Proofs.enters_of (P := prog) func72 (by kernel_rfl) rfl args w)
 (fun a b => only (pX (P := prog) (env := [rA]) ⟨qx, tt0⟩ func72 0 o0 (by kernel_rfl) tt0))
def vt : Entry := sW 146 uI.x uI.x (fun a b => [(none, .ag (m2 (tH a b)))])
theorem tu : vt.OK prog := q9 (fun args w => Go.Proofs.enters_of (P := prog) func146 (by kernel_rfl) rfl args w)
 (fun a b => only (pX (P := prog) (env := [sa]) ⟨qT, tt0⟩ func146 0 o0 (by kernel_rfl) tt0))
def r8 : Entry := sW 71 uI.x uI.x (fun a b => [(none, .ag (m2 (qh a b)))])
theorem qX : r8.OK prog := q9 (fun args w => Go.Proofs.enters_of (P := prog) func71 (by kernel_rfl) rfl args w)
 (fun a b => only (pX (P := prog) (env := [rA, sa, qE]) ⟨qx, qT, qp, tt0⟩ func71 0 o0 (by kernel_rfl) tt0))
def zU : Entry := ql 75 uI.x (fun a => [(none, .ag (q2 a))])
theorem uZ : zU.OK prog := qb (fun args w => Go.Proofs.enters_of (P := prog) func75 (by kernel_rfl) rfl args w)
 (fun a => only (pX (P := prog) (env := [vc]) ⟨sc, tt0⟩ func75 0 o0 (by kernel_rfl) tt0))
def A5 : Entry := xE 70 aaI.x KA.x (fun a => [(none, .ag (m2 a))]) (fun a => [(some (qu a), .ag (m2 (of2 a)))])
theorem uo : A5.OK prog := xr
 (qb (fun args w => Go.Proofs.enters_of (P := prog) func70 (by kernel_rfl) rfl args w)
  (fun a => only (pX (P := prog) (env := [Br]) ⟨wk, tt0⟩ func70 0 o0 (by kernel_rfl) tt0)))
 (qb (fun args w => Go.Proofs.enters_of (P := prog) func70 (by kernel_rfl) rfl args w)
  (fun a => sd (fun h => pX (P := prog) (env := [Br]) ⟨wk, tt0⟩ func70 0 o0 (by kernel_rfl) (And.intro h.2 (And.intro h.1 tt0)))))
end Go.Proofs.YtokjhbmmdmeafaaGreat
set_option linter.unusedSimpArgs false
set_option linter.unusedVariables false
namespace Go.Proofs.YtokjhbmmdmeafaaGreat
open Go.Ev Go.RowKit
open Tryz
end Go.Proofs.YtokjhbmmdmeafaaGreat
set_option linter.unusedSimpArgs false
set_option linter.unusedVariables false
namespace Go.Proofs.YtokjhbmmdmeafaaGreat
open Go.Ev Go.RowKit
open Tryz
def Em : Entry := ql 74 uI.x (fun a => [(none, .ag (m2 (sj a)))])
theorem zW : Em.OK prog := qb (fun args w => Go.Proofs.enters_of (P := prog) func74 (by kernel_rfl) rfl args w) (fun a => only (pX (P := prog) (env := [vI]) ⟨sF, tt0⟩ func74 0 o0 (by kernel_rfl) tt0))
end Go.Proofs.YtokjhbmmdmeafaaGreat
set_option linter.unusedSimpArgs false
set_option linter.unusedVariables false
namespace Go.Proofs.YtokjhbmmdmeafaaGreat
open Go.Ev Go.RowKit
open Tryz
def AO : Entry := ql 123 uI.x (fun a => [(none, .ag [.m (norm2 a)])])
theorem wq : AO.OK prog := qb (fun args w => Go.Proofs.enters_of (P := prog) func123 (by kernel_rfl) rfl args w) (fun a => only (pX (P := prog) (env := [rA, qE]) ⟨qx, qp, tt0⟩ func123 0 o0 (by kernel_rfl) tt0))
end Go.Proofs.YtokjhbmmdmeafaaGreat
