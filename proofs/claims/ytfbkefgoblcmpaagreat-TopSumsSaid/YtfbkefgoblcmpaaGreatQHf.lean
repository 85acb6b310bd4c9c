/- Pruned: Hf. -/
import Derived.Test.YtfbkefgoblcmpaaGreatQHc
import Derived.Test.YtfbkefgoblcmpaaGreatQHa
import Derived.Test.YtfbkefgoblcmpaaGreatQHd
set_option linter.unusedSimpArgs false
set_option linter.unusedVariables false
namespace Go.Proofs.YtfbkefgoblcmpaaGreat
open Go.Ev Go.RowKit
open Tryz
def sv : Entry := sq 66 tn.x tn.x (fun a b => [(none, .ag (m2 (qR a b)))])
theorem qU : sv.OK prog := q6 (fun args w => Go.Proofs.enters_of (P := prog) func66 (by kernel_rfl) rfl args w)
 (fun a b => only (qa (P := prog) (env := [sE]) ⟨q7, tt0⟩ func66 0 o0 (by kernel_rfl) tt0))
def sV : Entry := sq 76 tn.x tn.x (fun a b => [(none, .ag (m2 (sI a b)))])
theorem rC : sV.OK prog := q6 (fun args w => Go.Proofs.enters_of (P := prog) func76 (by kernel_rfl) rfl args w)
 (fun a b => only (qa (P := prog) (env := [tg]) ⟨rI, tt0⟩ func76 0 o0 (by kernel_rfl) tt0))
def rD : Entry := sq 65 tn.x tn.x (fun a b => [(none, .ag (m2 (mul2 a b)))])
theorem qG : rD.OK prog := q6 (fun args w => Go.Proofs.enters_of (P := prog) func65 (by kernel_rfl) rfl args w)
 (fun a b => only (qa (P := prog) (env := [sE, tg, rf]) ⟨q7, rI, qB, tt0⟩ func65 0 o0 (by kernel_rfl) tt0))
def JZ : Entry := qA 77 tn.x (fun a => [(none, .ag (m2 (Fl a)))])
theorem BN : JZ.OK prog := qj (fun args w => Go.Proofs.enters_of (P := prog) func77 (by kernel_rfl) rfl args w)
 (fun a => only (qa (P := prog) (env := [sE, tg]) ⟨q7, rI, tt0⟩ func77 0 o0 (by kernel_rfl) tt0))
def MZ : Entry := sq 54 xd.x xd.x (fun a b => [(none, .ag (m6 (sR a b)))])
theorem Kv : MZ.OK prog := q6 (fun args w => Go.Proofs.enters_of (P := prog) func54 (by kernel_rfl) rfl args w)
 (fun a b => only (qa (P := prog) (env := [sv]) ⟨qU, tt0⟩ func54 0 o0 (by kernel_rfl) tt0))
def EM : Entry := sq 53 xd.x xd.x (fun a b => [(none, .ag (m6 (mul6 a b)))])
theorem By : EM.OK prog := q6 (fun args w => Go.Proofs.enters_of (P := prog) func53 (by kernel_rfl) rfl args w)
 (fun a b => only (qa (P := prog) (env := [sv, sV, rD, JZ]) ⟨qU, rC, qG, BN, tt0⟩ func53 0 o0 (by kernel_rfl) tt0))
def Md : Entry := qA 55 xd.x (fun a => [(none, .ag (m6 (shf6 a)))])
theorem F7 : Md.OK prog := qj (fun args w => Go.Proofs.enters_of (P := prog) func55 (by kernel_rfl) rfl args w)
 (fun a => only (qa (P := prog) (env := [JZ]) ⟨BN, tt0⟩ func55 0 o0 (by kernel_rfl) tt0))
def AN : Entry := qA 35 tn.x (fun a => [(none, .ag (q2 a))])
theorem uW : AN.OK prog := qj (fun args w => Go.Proofs.enters_of (P := prog) func35 (by kernel_rfl) rfl args w)
 (fun a => only (qa (P := prog) (env := [yQ]) ⟨tG, tt0⟩ func35 0 o0 (by kernel_rfl) tt0))
def zU : Entry := xS 37 Wh.x OV.x (fun a => [(none, .ag (m2 a))]) (fun a => [(some (qP a), .ag (m2 (of2 a)))])
theorem sU : zU.OK prog := xk
 (qj (fun args w => Go.Proofs.enters_of (P := prog) func37 (by kernel_rfl) rfl args w)
  (fun a => only (qa (P := prog) (env := [Dl]) ⟨xw, tt0⟩ func37 0 o0 (by kernel_rfl) tt0)))
 (qj (fun args w => Go.Proofs.enters_of (P := prog) func37 (by kernel_rfl) rfl args w)
  (fun a => sZ (fun h => qa (P := prog) (env := [Dl]) ⟨xw, tt0⟩ func37 0 o0 (by kernel_rfl) (And.intro h.2 (And.intro h.1 tt0)))))
end Go.Proofs.YtfbkefgoblcmpaaGreat
set_option linter.unusedSimpArgs false
set_option linter.unusedVariables false
namespace Go.Proofs.YtfbkefgoblcmpaaGreat
open Go.Ev Go.RowKit
open Tryz
end Go.Proofs.YtfbkefgoblcmpaaGreat
set_option linter.unusedSimpArgs false
set_option linter.unusedVariables false
namespace Go.Proofs.YtfbkefgoblcmpaaGreat
open Go.Ev Go.RowKit
open Tryz
def Iy : Entry := qA 96 tn.x (fun a => [(none, .ag (m2 (uq a)))])
theorem Bw : Iy.OK prog := qj (fun args w => Go.Proofs.enters_of (P := prog) func96 (by kernel_rfl) rfl args w) (fun a => only (qa (P := prog) (env := [Gp]) ⟨zK, tt0⟩ func96 0 o0 (by kernel_rfl) tt0))
def Lj : Entry := qA 83 tn.x (fun a => [(none, .ag (m2 (conj2 a)))])
theorem K2 : Lj.OK prog := qj (fun args w => Go.Proofs.enters_of (P := prog) func83 (by kernel_rfl) rfl args w) (fun a => only (qa (P := prog) (env := [Gp]) ⟨zK, tt0⟩ func83 0 o0 (by kernel_rfl) tt0))
def ED : Entry := sq 56 xd.x xd.x (fun a b => [(none, .ag (m6 (H2 a b)))])
theorem CF : ED.OK prog := q6 (fun args w => Go.Proofs.enters_of (P := prog) func56 (by kernel_rfl) rfl args w) (fun a b => only (qa (P := prog) (env := [sV]) ⟨rC, tt0⟩ func56 0 o0 (by kernel_rfl) tt0))
def MH : Entry := qA 81 xd.x (fun a => [(none, .ag (m6 (tW a)))])
theorem G9 : MH.OK prog := qj (fun args w => Go.Proofs.enters_of (P := prog) func81 (by kernel_rfl) rfl args w) (fun a => only (qa (P := prog) (env := [Iy]) ⟨Bw, tt0⟩ func81 0 o0 (by kernel_rfl) tt0))
def QD : Entry := qA 58 zb.x (fun a => [(none, .ag (m12 (conj12 a)))])
theorem Cs : QD.OK prog := qj (fun args w => Go.Proofs.enters_of (P := prog) func58 (by kernel_rfl) rfl args w) (fun a => only (qa (P := prog) (env := [MH]) ⟨G9, tt0⟩ func58 0 o0 (by kernel_rfl) tt0))
def Bz : Entry := sq 29 zb.x zb.x (fun a b => [(none, .ag (m12 (mul12 a b)))])
theorem vM : Bz.OK prog := q6 (fun args w => Go.Proofs.enters_of (P := prog) func29 (by kernel_rfl) rfl args w) (fun a b => only (qa (P := prog) (env := [MZ, ED, EM, Md]) ⟨Kv, CF, By, F7, tt0⟩ func29 0 o0 (by kernel_rfl) tt0))
def z4 : Entry := wL 28 [(none, .ag (m12 one12))]
theorem sD : z4.OK prog := ud (fun args w => Go.Proofs.enters_of (P := prog) func28 (by kernel_rfl) rfl args w) (only ((qa (P := prog) (env := [Dl]) ⟨xw, tt0⟩ func28 1 o0 (r := .ag (.m (ofP 1) :: List.replicate 66 (.c (.int .u64 0)))) (by kernel_rfl) (And.intro (show smP 1 from by unfold smP; decide) tt0)).same (by kernel_rfl)))
end Go.Proofs.YtfbkefgoblcmpaaGreat
set_option linter.unusedSimpArgs false
set_option linter.unusedVariables false
namespace Go.Proofs.YtfbkefgoblcmpaaGreat
open Go.Ev Go.RowKit
open Tryz
def OC : Entry := qA 102 tn.x (fun a => [(none, .ag [.m (norm2 a)])])
theorem K6 : OC.OK prog := qj (fun args w => Go.Proofs.enters_of (P := prog) func102 (by kernel_rfl) rfl args w) (fun a => only (qa (P := prog) (env := [sE, rf]) ⟨q7, qB, tt0⟩ func102 0 o0 (by kernel_rfl) tt0))
def SF : Entry := qA 97 tn.x (fun a => [(none, .ag (m2 (inv2 a)))])
theorem F0 : SF.OK prog := qj (fun args w => Go.Proofs.enters_of (P := prog) func97 (by kernel_rfl) rfl args w) (fun a => only (qa (P := prog) (env := [OC, Js, rf, Gp]) ⟨K6, BA, qB, zK, tt0⟩ func97 0 o0 (by kernel_rfl) tt0))
def Sd : Entry := qA 82 xd.x (fun a => [(none, .ag (m6 (inv6 a)))])
theorem Nr : Sd.OK prog := qj (fun args w => Go.Proofs.enters_of (P := prog) func82 (by kernel_rfl) rfl args w) (fun a => only (qa (P := prog) (env := [rD, sV, sv, JZ, SF]) ⟨qG, rC, qU, BN, F0, tt0⟩ func82 0 o0 (by kernel_rfl) tt0))
def VE : Entry := qA 59 zb.x (fun a => [(none, .ag (m12 (inv12 a)))])
theorem KT : VE.OK prog := qj (fun args w => Go.Proofs.enters_of (P := prog) func59 (by kernel_rfl) rfl args w) (fun a => only (qa (P := prog) (env := [EM, ED, Md, Sd, MH]) ⟨By, CF, F7, Nr, G9, tt0⟩ func59 0 o0 (by kernel_rfl) tt0))
end Go.Proofs.YtfbkefgoblcmpaaGreat
