/- Pruned: Hf. -/
import Derived.Test.YtokjhbmmdmeafaaGreatQHc
import Derived.Test.YtokjhbmmdmeafaaGreatQHa
import Derived.Test.YtokjhbmmdmeafaaGreatQHd
set_option linter.unusedSimpArgs false
set_option linter.unusedVariables false
namespace Go.Proofs.YtokjhbmmdmeafaaGreat
open Go.Ev Go.RowKit
open Tryz
def rZ : Entry := r6 72 ti.x ti.x (fun a b => [(none, .ag (m2 (qt a b)))])
theorem qu : rZ.OK prog := qw (fun args w => Go.Proofs.enters_of (P := prog) func72 (by kernel_rfl) rfl args w)
 (fun a b => only (pq (P := prog) (env := [qE]) ⟨pW, tt0⟩ func72 0 o0 (by kernel_rfl) tt0))
def ub : Entry := r6 146 ti.x ti.x (fun a b => [(none, .ag (m2 (tb a b)))])
theorem sj : ub.OK prog := qw (fun args w => Go.Proofs.enters_of (P := prog) func146 (by kernel_rfl) rfl args w)
 (fun a b => only (pq (P := prog) (env := [qU]) ⟨ql, tt0⟩ func146 0 o0 (by kernel_rfl) tt0))
def qZ : Entry := r6 71 ti.x ti.x (fun a b => [(none, .ag (m2 (pM a b)))])
theorem qn : qZ.OK prog := qw (fun args w => Go.Proofs.enters_of (P := prog) func71 (by kernel_rfl) rfl args w)
 (fun a b => only (pq (P := prog) (env := [qE, qU, qa]) ⟨pW, ql, pR, tt0⟩ func71 0 o0 (by kernel_rfl) tt0))
def yx : Entry := pS 75 ti.x (fun a => [(none, .ag (q2 a))])
theorem tO : yx.OK prog := pE (fun args w => Go.Proofs.enters_of (P := prog) func75 (by kernel_rfl) rfl args w)
 (fun a => only (pq (P := prog) (env := [tJ]) ⟨q9, tt0⟩ func75 0 o0 (by kernel_rfl) tt0))
def AH : Entry := yv 70 Ye.x Nh.x (fun a => [(none, .ag (m2 a))]) (fun a => [(some (qG a), .ag (m2 (of2 a)))])
theorem tq : AH.OK prog := zO
 (pE (fun args w => Go.Proofs.enters_of (P := prog) func70 (by kernel_rfl) rfl args w)
  (fun a => only (pq (P := prog) (env := [zZ]) ⟨u9, tt0⟩ func70 0 o0 (by kernel_rfl) tt0)))
 (pE (fun args w => Go.Proofs.enters_of (P := prog) func70 (by kernel_rfl) rfl args w)
  (fun a => ur (fun h => pq (P := prog) (env := [zZ]) ⟨u9, tt0⟩ func70 0 o0 (by kernel_rfl) (And.intro h.2 (And.intro h.1 tt0)))))
end Go.Proofs.YtokjhbmmdmeafaaGreat
set_option linter.unusedSimpArgs false
set_option linter.unusedVariables false
namespace Go.Proofs.YtokjhbmmdmeafaaGreat
open Go.Ev Go.RowKit
open Tryz
end Go.Proofs.YtokjhbmmdmeafaaGreat
set_option linter.unusedSimpArgs false
set_option linter.unusedVariables false
namespace Go.Proofs.YtokjhbmmdmeafaaGreat
open Go.Ev Go.RowKit
open Tryz
def Cf : Entry := pS 74 ti.x (fun a => [(none, .ag (m2 (r9 a)))])
theorem yE : Cf.OK prog := pE (fun args w => Go.Proofs.enters_of (P := prog) func74 (by kernel_rfl) rfl args w) (fun a => only (pq (P := prog) (env := [uk]) ⟨rt, tt0⟩ func74 0 o0 (by kernel_rfl) tt0))
end Go.Proofs.YtokjhbmmdmeafaaGreat
set_option linter.unusedSimpArgs false
set_option linter.unusedVariables false
namespace Go.Proofs.YtokjhbmmdmeafaaGreat
open Go.Ev Go.RowKit
open Tryz
def yS : Entry := pS 123 ti.x (fun a => [(none, .ag [.m (Aw a)])])
theorem uZ : yS.OK prog := pE (fun args w => Go.Proofs.enters_of (P := prog) func123 (by kernel_rfl) rfl args w) (fun a => only (pq (P := prog) (env := [qE, qa]) ⟨pW, pR, tt0⟩ func123 0 o0 (by kernel_rfl) tt0))
end Go.Proofs.YtokjhbmmdmeafaaGreat
