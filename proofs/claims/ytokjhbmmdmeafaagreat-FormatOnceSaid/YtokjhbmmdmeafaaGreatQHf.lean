/- Pruned: Hf. -/
import Derived.Test.YtokjhbmmdmeafaaGreatQHc
import Derived.Test.YtokjhbmmdmeafaaGreatQHa
import Derived.Test.YtokjhbmmdmeafaaGreatQHd
set_option linter.unusedSimpArgs false
set_option linter.unusedVariables false
namespace Go.Proofs.YtokjhbmmdmeafaaGreat
open Go.Ev Go.RowKit
open Tryz
def sN : Entry := sH 72 uj.x uj.x (fun a b => [(none, .ag (m2 (qV a b)))])
theorem qZ : sN.OK prog := qS (fun args w => Go.Proofs.enters_of (P := prog) func72 (by kernel_rfl) rfl args w)
 (fun a b => only (pI (P := prog) (env := [re]) ⟨qj, tt0⟩ func72 0 o0 (by kernel_rfl) tt0))
def vd : Entry := sH 146 uj.x uj.x (fun a b => [(none, .ag (m2 (tY a b)))])
theorem sY : vd.OK prog := qS (fun args w => Go.Proofs.enters_of (P := prog) func146 (by kernel_rfl) rfl args w)
 (fun a b => only (pI (P := prog) (env := [rL]) ⟨qH, tt0⟩ func146 0 o0 (by kernel_rfl) tt0))
def rM : Entry := sH 71 uj.x uj.x (fun a b => [(none, .ag (m2 (pZ a b)))])
theorem qM : rM.OK prog := qS (fun args w => Go.Proofs.enters_of (P := prog) func71 (by kernel_rfl) rfl args w)
 (fun a b => only (pI (P := prog) (env := [re, rL, qt]) ⟨qj, qH, qb, tt0⟩ func71 0 o0 (by kernel_rfl) tt0))
def zy : Entry := p7 75 uj.x (fun a => [(none, .ag (q2 a))])
theorem uL : zy.OK prog := pQ (fun args w => Go.Proofs.enters_of (P := prog) func75 (by kernel_rfl) rfl args w)
 (fun a => only (pI (P := prog) (env := [uS]) ⟨rS, tt0⟩ func75 0 o0 (by kernel_rfl) tt0))
def AD : Entry := w8 70 aeL.x Ly.x (fun a => [(none, .ag (m2 a))]) (fun a => [(some (qe a), .ag (m2 (of2 a)))])
theorem tV : AD.OK prog := xw
 (pQ (fun args w => Go.Proofs.enters_of (P := prog) func70 (by kernel_rfl) rfl args w)
  (fun a => only (pI (P := prog) (env := [BN]) ⟨vY, tt0⟩ func70 0 o0 (by kernel_rfl) tt0)))
 (pQ (fun args w => Go.Proofs.enters_of (P := prog) func70 (by kernel_rfl) rfl args w)
  (fun a => rT (fun h => pI (P := prog) (env := [BN]) ⟨vY, tt0⟩ func70 0 o0 (by kernel_rfl) (And.intro h.2 (And.intro h.1 tt0)))))
end Go.Proofs.YtokjhbmmdmeafaaGreat
set_option linter.unusedSimpArgs false
set_option linter.unusedVariables false
namespace Go.Proofs.YtokjhbmmdmeafaaGreat
open Go.Ev Go.RowKit
open Tryz
end Go.Proofs.YtokjhbmmdmeafaaGreat
set_option linter.unusedSimpArgs false
set_option linter.unusedVariables false
namespace Go.Proofs.YtokjhbmmdmeafaaGreat
open Go.Ev Go.RowKit
open Tryz
def EB : Entry := p7 74 uj.x (fun a => [(none, .ag (m2 (r6 a)))])
theorem zW : EB.OK prog := pQ (fun args w => Go.Proofs.enters_of (P := prog) func74 (by kernel_rfl) rfl args w) (fun a => only (pI (P := prog) (env := [vn]) ⟨sf, tt0⟩ func74 0 o0 (by kernel_rfl) tt0))
end Go.Proofs.YtokjhbmmdmeafaaGreat
set_option linter.unusedSimpArgs false
set_option linter.unusedVariables false
namespace Go.Proofs.YtokjhbmmdmeafaaGreat
open Go.Ev Go.RowKit
open Tryz
def Bj : Entry := p7 123 uj.x (fun a => [(none, .ag [.m (tu a)])])
theorem wh : Bj.OK prog := pQ (fun args w => Go.Proofs.enters_of (P := prog) func123 (by kernel_rfl) rfl args w) (fun a => only (pI (P := prog) (env := [re, qt]) ⟨qj, qb, tt0⟩ func123 0 o0 (by kernel_rfl) tt0))
end Go.Proofs.YtokjhbmmdmeafaaGreat
