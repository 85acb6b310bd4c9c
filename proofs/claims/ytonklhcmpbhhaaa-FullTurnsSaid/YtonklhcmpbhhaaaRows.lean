/-
  No cell of these rows narrows 'for every input' (looked for: loops, veiled, ifaces, maps, wideKeys, modest, calm, conditions, laid).
  DERIVED. THE GIVEN ROWS OF THIS SEAT. 10 by the template 'for every input the law returns true; each argument reads behind the call as it read before'; 0 by the template 'total and deterministic' (their statements: YtonklhcmpbhhaaaTotals.lean).
  GIVEN WITH THE SEED: the statements are not yours to turn. If you find one false, say at which input.
  Laid BY PROGRAM, IN A SANDBOX (cutbox-rows.mjs): the forced cells as the released guide's own fill.sh prints them over the translation db973dc2f3f431fa… (all of the seat's roots in one cut). By AI agents, Wed Nov 11 2026. No macro, syntax, notation, axiom, sorry.
-/
import Derived.Test.YtonklhcmpbhhaaaChecked
import GoSem.Claim
import GoSem.ClaimJoined
import GoSem.ClaimMapViews
import Derived.JoinedTies
import Derived.KernelRfl
namespace Go.Proofs.Ytonklhcmpbhhaaa
/- THE CELL 'sum', in the pinned program and in every row, IS THE sha256 OF THE DUMP (.gsa) THAT YtonklhcmpbhhaaaProg.lean LOADS. Nothing in Lean hashes anything: it is a label: what it is worth is what the hold of that sum in a sandbox is worth. -/
noncomputable def Try.pinned : Pinned := { name := "ytonklhcmpbhhaaa", sum := "db973dc2f3f431fa1e00826cb916587c8c35454d1e8ea6b3e5bebb7dd89e80b4", checked := Try.checked }
namespace Rows
def none {H : Type} : Left H := { results := [], args := [] }

/-- 'chirographlaw04.FpAdds': WHATEVER THE INPUT: true; the input reads as it did. -/
def fpAddsSpec : ChangeSpec := { name := "fpAdds", fn := fun _ => fun
  | [d1, d2] => { results := [.lit (.bool true)], args := [d1, d2] }
  | _ => none }
def fpAddsRow : OpenClaim := { program := "ytonklhcmpbhhaaa", sum := "db973dc2f3f431fa1e00826cb916587c8c35454d1e8ea6b3e5bebb7dd89e80b4", func := "chirograph/chirographlaw04.FpAdds", spec := "fpAdds", inPlace := ["math/bits.Add64", "math/bits.Sub64"], apart := false }
def FpAddsSaid : Prop := fpAddsRow.holds Try.pinned (OpenSpec.ofChange fpAddsSpec)

/-- ITS FALSE NEIGHBOUR: 'it returns false'. Refute it at one input. -/
def fpAddsWrong : ChangeSpec := { name := "fpAdds", fn := fun _ => fun
  | [d1, d2] => { results := [.lit (.bool false)], args := [d1, d2] }
  | _ => none }
def FpAddsWrongFalsely : Prop := fpAddsRow.holds Try.pinned (OpenSpec.ofChange fpAddsWrong)

/-- 'chirographlaw04.FpRights': WHATEVER THE INPUT: true; the input reads as it did. -/
def fpRightsSpec : ChangeSpec := { name := "fpRights", fn := fun _ => fun
  | [d1, d2] => { results := [.lit (.bool true)], args := [d1, d2] }
  | _ => none }
def fpRightsRow : OpenClaim := { program := "ytonklhcmpbhhaaa", sum := "db973dc2f3f431fa1e00826cb916587c8c35454d1e8ea6b3e5bebb7dd89e80b4", func := "chirograph/chirographlaw04.FpRights", spec := "fpRights", inPlace := ["math/bits.Add64", "math/bits.Sub64"], apart := false }
def FpRightsSaid : Prop := fpRightsRow.holds Try.pinned (OpenSpec.ofChange fpRightsSpec)

/-- ITS FALSE NEIGHBOUR: 'it returns false'. Refute it at one input. -/
def fpRightsWrong : ChangeSpec := { name := "fpRights", fn := fun _ => fun
  | [d1, d2] => { results := [.lit (.bool false)], args := [d1, d2] }
  | _ => none }
def FpRightsWrongFalsely : Prop := fpRightsRow.holds Try.pinned (OpenSpec.ofChange fpRightsWrong)

/-- 'chirographlaw07.FullAdds': WHATEVER THE INPUT: true; the input reads as it did. -/
def fullAddsSpec : ChangeSpec := { name := "fullAdds", fn := fun _ => fun
  | [d1, d2] => { results := [.lit (.bool true)], args := [d1, d2] }
  | _ => none }
def fullAddsRow : OpenClaim := { program := "ytonklhcmpbhhaaa", sum := "db973dc2f3f431fa1e00826cb916587c8c35454d1e8ea6b3e5bebb7dd89e80b4", func := "chirograph/chirographlaw07.FullAdds", spec := "fullAdds", inPlace := ["math/bits.Add64", "math/bits.Sub64"], apart := false }
def FullAddsSaid : Prop := fullAddsRow.holds Try.pinned (OpenSpec.ofChange fullAddsSpec)

/-- ITS FALSE NEIGHBOUR: 'it returns false'. Refute it at one input. -/
def fullAddsWrong : ChangeSpec := { name := "fullAdds", fn := fun _ => fun
  | [d1, d2] => { results := [.lit (.bool false)], args := [d1, d2] }
  | _ => none }
def FullAddsWrongFalsely : Prop := fullAddsRow.holds Try.pinned (OpenSpec.ofChange fullAddsWrong)

/-- 'chirographlaw04.FpBytes': WHATEVER THE INPUT: true; the input reads as it did. -/
def fpBytesSpec : ChangeSpec := { name := "fpBytes", fn := fun _ => fun
  | [d1, d2] => { results := [.lit (.bool true)], args := [d1, d2] }
  | _ => none }
def fpBytesRow : OpenClaim := { program := "ytonklhcmpbhhaaa", sum := "db973dc2f3f431fa1e00826cb916587c8c35454d1e8ea6b3e5bebb7dd89e80b4", func := "chirograph/chirographlaw04.FpBytes", spec := "fpBytes", inPlace := ["math/bits.Add64", "math/bits.Sub64"], unfollowed := true, recurses := true, apart := false }
def FpBytesSaid : Prop := fpBytesRow.holds Try.pinned (OpenSpec.ofChange fpBytesSpec)

/-- ITS FALSE NEIGHBOUR: 'it returns false'. Refute it at one input. -/
def fpBytesWrong : ChangeSpec := { name := "fpBytes", fn := fun _ => fun
  | [d1, d2] => { results := [.lit (.bool false)], args := [d1, d2] }
  | _ => none }
def FpBytesWrongFalsely : Prop := fpBytesRow.holds Try.pinned (OpenSpec.ofChange fpBytesWrong)

/-- 'chirographlaw04.FpBack': WHATEVER THE INPUT: true; the input reads as it did. -/
def fpBackSpec : ChangeSpec := { name := "fpBack", fn := fun _ => fun
  | [d1, d2] => { results := [.lit (.bool true)], args := [d1, d2] }
  | _ => none }
def fpBackRow : OpenClaim := { program := "ytonklhcmpbhhaaa", sum := "db973dc2f3f431fa1e00826cb916587c8c35454d1e8ea6b3e5bebb7dd89e80b4", func := "chirograph/chirographlaw04.FpBack", spec := "fpBack", inPlace := ["math/bits.Add64", "math/bits.Sub64"], unfollowed := true, recurses := true, apart := false }
def FpBackSaid : Prop := fpBackRow.holds Try.pinned (OpenSpec.ofChange fpBackSpec)

/-- ITS FALSE NEIGHBOUR: 'it returns false'. Refute it at one input. -/
def fpBackWrong : ChangeSpec := { name := "fpBack", fn := fun _ => fun
  | [d1, d2] => { results := [.lit (.bool false)], args := [d1, d2] }
  | _ => none }
def FpBackWrongFalsely : Prop := fpBackRow.holds Try.pinned (OpenSpec.ofChange fpBackWrong)

/-- 'chirographlaw05.DuoTurns': WHATEVER THE INPUT: true; the input reads as it did. -/
def duoTurnsSpec : ChangeSpec := { name := "duoTurns", fn := fun _ => fun
  | [d1, d2] => { results := [.lit (.bool true)], args := [d1, d2] }
  | _ => none }
def duoTurnsRow : OpenClaim := { program := "ytonklhcmpbhhaaa", sum := "db973dc2f3f431fa1e00826cb916587c8c35454d1e8ea6b3e5bebb7dd89e80b4", func := "chirograph/chirographlaw05.DuoTurns", spec := "duoTurns", inPlace := ["math/bits.Add64", "math/bits.Sub64"], unfollowed := true, recurses := true, apart := false }
def DuoTurnsSaid : Prop := duoTurnsRow.holds Try.pinned (OpenSpec.ofChange duoTurnsSpec)

/-- ITS FALSE NEIGHBOUR: 'it returns false'. Refute it at one input. -/
def duoTurnsWrong : ChangeSpec := { name := "duoTurns", fn := fun _ => fun
  | [d1, d2] => { results := [.lit (.bool false)], args := [d1, d2] }
  | _ => none }
def DuoTurnsWrongFalsely : Prop := duoTurnsRow.holds Try.pinned (OpenSpec.ofChange duoTurnsWrong)

/-- 'chirographlaw05.DuoAdds': WHATEVER THE INPUT: true; the input reads as it did. -/
def duoAddsSpec : ChangeSpec := { name := "duoAdds", fn := fun _ => fun
  | [d1, d2] => { results := [.lit (.bool true)], args := [d1, d2] }
  | _ => none }
def duoAddsRow : OpenClaim := { program := "ytonklhcmpbhhaaa", sum := "db973dc2f3f431fa1e00826cb916587c8c35454d1e8ea6b3e5bebb7dd89e80b4", func := "chirograph/chirographlaw05.DuoAdds", spec := "duoAdds", inPlace := ["math/bits.Add64", "math/bits.Sub64"], unfollowed := true, recurses := true, apart := false }
def DuoAddsSaid : Prop := duoAddsRow.holds Try.pinned (OpenSpec.ofChange duoAddsSpec)

/-- ITS FALSE NEIGHBOUR: 'it returns false'. Refute it at one input. -/
def duoAddsWrong : ChangeSpec := { name := "duoAdds", fn := fun _ => fun
  | [d1, d2] => { results := [.lit (.bool false)], args := [d1, d2] }
  | _ => none }
def DuoAddsWrongFalsely : Prop := duoAddsRow.holds Try.pinned (OpenSpec.ofChange duoAddsWrong)

/-- 'chirographlaw06.SextShifts': WHATEVER THE INPUT: true; the input reads as it did. -/
def sextShiftsSpec : ChangeSpec := { name := "sextShifts", fn := fun _ => fun
  | [d1, d2] => { results := [.lit (.bool true)], args := [d1, d2] }
  | _ => none }
def sextShiftsRow : OpenClaim := { program := "ytonklhcmpbhhaaa", sum := "db973dc2f3f431fa1e00826cb916587c8c35454d1e8ea6b3e5bebb7dd89e80b4", func := "chirograph/chirographlaw06.SextShifts", spec := "sextShifts", inPlace := ["math/bits.Add64", "math/bits.Sub64"], unfollowed := true, recurses := true, apart := false }
def SextShiftsSaid : Prop := sextShiftsRow.holds Try.pinned (OpenSpec.ofChange sextShiftsSpec)

/-- ITS FALSE NEIGHBOUR: 'it returns false'. Refute it at one input. -/
def sextShiftsWrong : ChangeSpec := { name := "sextShifts", fn := fun _ => fun
  | [d1, d2] => { results := [.lit (.bool false)], args := [d1, d2] }
  | _ => none }
def SextShiftsWrongFalsely : Prop := sextShiftsRow.holds Try.pinned (OpenSpec.ofChange sextShiftsWrong)

/-- 'chirographlaw06.SextAdds': WHATEVER THE INPUT: true; the input reads as it did. -/
def sextAddsSpec : ChangeSpec := { name := "sextAdds", fn := fun _ => fun
  | [d1, d2] => { results := [.lit (.bool true)], args := [d1, d2] }
  | _ => none }
def sextAddsRow : OpenClaim := { program := "ytonklhcmpbhhaaa", sum := "db973dc2f3f431fa1e00826cb916587c8c35454d1e8ea6b3e5bebb7dd89e80b4", func := "chirograph/chirographlaw06.SextAdds", spec := "sextAdds", inPlace := ["math/bits.Add64", "math/bits.Sub64"], unfollowed := true, recurses := true, apart := false }
def SextAddsSaid : Prop := sextAddsRow.holds Try.pinned (OpenSpec.ofChange sextAddsSpec)

/-- ITS FALSE NEIGHBOUR: 'it returns false'. Refute it at one input. -/
def sextAddsWrong : ChangeSpec := { name := "sextAdds", fn := fun _ => fun
  | [d1, d2] => { results := [.lit (.bool false)], args := [d1, d2] }
  | _ => none }
def SextAddsWrongFalsely : Prop := sextAddsRow.holds Try.pinned (OpenSpec.ofChange sextAddsWrong)

/-- 'chirographlaw07.FullTurns': WHATEVER THE INPUT: true; the input reads as it did. -/
def fullTurnsSpec : ChangeSpec := { name := "fullTurns", fn := fun _ => fun
  | [d1, d2] => { results := [.lit (.bool true)], args := [d1, d2] }
  | _ => none }
def fullTurnsRow : OpenClaim := { program := "ytonklhcmpbhhaaa", sum := "db973dc2f3f431fa1e00826cb916587c8c35454d1e8ea6b3e5bebb7dd89e80b4", func := "chirograph/chirographlaw07.FullTurns", spec := "fullTurns", inPlace := ["math/bits.Add64", "math/bits.Sub64"], unfollowed := true, recurses := true, apart := false }
def FullTurnsSaid : Prop := fullTurnsRow.holds Try.pinned (OpenSpec.ofChange fullTurnsSpec)

/-- ITS FALSE NEIGHBOUR: 'it returns false'. Refute it at one input. -/
def fullTurnsWrong : ChangeSpec := { name := "fullTurns", fn := fun _ => fun
  | [d1, d2] => { results := [.lit (.bool false)], args := [d1, d2] }
  | _ => none }
def FullTurnsWrongFalsely : Prop := fullTurnsRow.holds Try.pinned (OpenSpec.ofChange fullTurnsWrong)

/- THE SECOND FORM. 'bulk': how many values and letters a reading holds, each counted each time it is reached (what is shared counts as often as it is met; a slice's spare places count too). A statement '..UptoSaid' is the law's where the arguments, and the package variables that the reading takes, are together of bulk at most 1048576: NARROWER than '..Said'. Prove '..Said' where nothing that the law and all that it calls make is longer than what came in: it says more and counts as full. Else prove '..UptoSaid'. A law counts once. -/
mutual
def uptoBulk {H : Type} : DataW H → Nat
  | .lit (.string bytes) => bytes.length + 1
  | .lit _ => 1
  | .nil => 1
  | .ptr d => uptoBulk d + 1
  | .slice elems spare => uptoBulkAll elems + uptoBulkAll spare + 1
  | .agg parts => uptoBulkAll parts + 1
  | .iface _ d => uptoBulk d + 1
  | .map entries => uptoBulkEntries entries + 1
  | .held _ => 1
def uptoBulkAll {H : Type} : List (DataW H) → Nat
  | [] => 0
  | d :: r => uptoBulk d + uptoBulkAll r
def uptoBulkEntries {H : Type} : List (Lit × DataW H) → Nat
  | [] => 0
  | x :: r => uptoBulkEntry x + uptoBulkEntries r
def uptoBulkEntry {H : Type} : Lit × DataW H → Nat
  | (.string bytes, d) => bytes.length + uptoBulk d + 1
  | (_, d) => uptoBulk d + 1
 end
def uptoSmall : (H : Type) → List (DataW H) → Bool := fun _ ds => decide (uptoBulkAll ds ≤ 1048576)
def OpenSpec.upto (s : _root_.Go.ChangeSpec) : _root_.Go.OpenSpec := { _root_.Go.OpenSpec.ofChange s with cond := some uptoSmall }

/-- 'chirographlaw04.FpAdds', WHERE WHAT IT READS IS OF BULK AT MOST 1048576: true; the input reads as it did. -/
def fpAddsUptoRow : OpenClaim := { program := "ytonklhcmpbhhaaa", sum := "db973dc2f3f431fa1e00826cb916587c8c35454d1e8ea6b3e5bebb7dd89e80b4", func := "chirograph/chirographlaw04.FpAdds", spec := "fpAdds", inPlace := ["math/bits.Add64", "math/bits.Sub64"], apart := false, narrowed := true }
def FpAddsUptoSaid : Prop := fpAddsUptoRow.holds Try.pinned (OpenSpec.upto fpAddsSpec)

/-- 'chirographlaw04.FpRights', WHERE WHAT IT READS IS OF BULK AT MOST 1048576: true; the input reads as it did. -/
def fpRightsUptoRow : OpenClaim := { program := "ytonklhcmpbhhaaa", sum := "db973dc2f3f431fa1e00826cb916587c8c35454d1e8ea6b3e5bebb7dd89e80b4", func := "chirograph/chirographlaw04.FpRights", spec := "fpRights", inPlace := ["math/bits.Add64", "math/bits.Sub64"], apart := false, narrowed := true }
def FpRightsUptoSaid : Prop := fpRightsUptoRow.holds Try.pinned (OpenSpec.upto fpRightsSpec)

/-- 'chirographlaw07.FullAdds', WHERE WHAT IT READS IS OF BULK AT MOST 1048576: true; the input reads as it did. -/
def fullAddsUptoRow : OpenClaim := { program := "ytonklhcmpbhhaaa", sum := "db973dc2f3f431fa1e00826cb916587c8c35454d1e8ea6b3e5bebb7dd89e80b4", func := "chirograph/chirographlaw07.FullAdds", spec := "fullAdds", inPlace := ["math/bits.Add64", "math/bits.Sub64"], apart := false, narrowed := true }
def FullAddsUptoSaid : Prop := fullAddsUptoRow.holds Try.pinned (OpenSpec.upto fullAddsSpec)

/-- 'chirographlaw04.FpBytes', WHERE WHAT IT READS IS OF BULK AT MOST 1048576: true; the input reads as it did. -/
def fpBytesUptoRow : OpenClaim := { program := "ytonklhcmpbhhaaa", sum := "db973dc2f3f431fa1e00826cb916587c8c35454d1e8ea6b3e5bebb7dd89e80b4", func := "chirograph/chirographlaw04.FpBytes", spec := "fpBytes", inPlace := ["math/bits.Add64", "math/bits.Sub64"], unfollowed := true, recurses := true, apart := false, narrowed := true }
def FpBytesUptoSaid : Prop := fpBytesUptoRow.holds Try.pinned (OpenSpec.upto fpBytesSpec)

/-- 'chirographlaw04.FpBack', WHERE WHAT IT READS IS OF BULK AT MOST 1048576: true; the input reads as it did. -/
def fpBackUptoRow : OpenClaim := { program := "ytonklhcmpbhhaaa", sum := "db973dc2f3f431fa1e00826cb916587c8c35454d1e8ea6b3e5bebb7dd89e80b4", func := "chirograph/chirographlaw04.FpBack", spec := "fpBack", inPlace := ["math/bits.Add64", "math/bits.Sub64"], unfollowed := true, recurses := true, apart := false, narrowed := true }
def FpBackUptoSaid : Prop := fpBackUptoRow.holds Try.pinned (OpenSpec.upto fpBackSpec)

/-- 'chirographlaw05.DuoTurns', WHERE WHAT IT READS IS OF BULK AT MOST 1048576: true; the input reads as it did. -/
def duoTurnsUptoRow : OpenClaim := { program := "ytonklhcmpbhhaaa", sum := "db973dc2f3f431fa1e00826cb916587c8c35454d1e8ea6b3e5bebb7dd89e80b4", func := "chirograph/chirographlaw05.DuoTurns", spec := "duoTurns", inPlace := ["math/bits.Add64", "math/bits.Sub64"], unfollowed := true, recurses := true, apart := false, narrowed := true }
def DuoTurnsUptoSaid : Prop := duoTurnsUptoRow.holds Try.pinned (OpenSpec.upto duoTurnsSpec)

/-- 'chirographlaw05.DuoAdds', WHERE WHAT IT READS IS OF BULK AT MOST 1048576: true; the input reads as it did. -/
def duoAddsUptoRow : OpenClaim := { program := "ytonklhcmpbhhaaa", sum := "db973dc2f3f431fa1e00826cb916587c8c35454d1e8ea6b3e5bebb7dd89e80b4", func := "chirograph/chirographlaw05.DuoAdds", spec := "duoAdds", inPlace := ["math/bits.Add64", "math/bits.Sub64"], unfollowed := true, recurses := true, apart := false, narrowed := true }
def DuoAddsUptoSaid : Prop := duoAddsUptoRow.holds Try.pinned (OpenSpec.upto duoAddsSpec)

/-- 'chirographlaw06.SextShifts', WHERE WHAT IT READS IS OF BULK AT MOST 1048576: true; the input reads as it did. -/
def sextShiftsUptoRow : OpenClaim := { program := "ytonklhcmpbhhaaa", sum := "db973dc2f3f431fa1e00826cb916587c8c35454d1e8ea6b3e5bebb7dd89e80b4", func := "chirograph/chirographlaw06.SextShifts", spec := "sextShifts", inPlace := ["math/bits.Add64", "math/bits.Sub64"], unfollowed := true, recurses := true, apart := false, narrowed := true }
def SextShiftsUptoSaid : Prop := sextShiftsUptoRow.holds Try.pinned (OpenSpec.upto sextShiftsSpec)

/-- 'chirographlaw06.SextAdds', WHERE WHAT IT READS IS OF BULK AT MOST 1048576: true; the input reads as it did. -/
def sextAddsUptoRow : OpenClaim := { program := "ytonklhcmpbhhaaa", sum := "db973dc2f3f431fa1e00826cb916587c8c35454d1e8ea6b3e5bebb7dd89e80b4", func := "chirograph/chirographlaw06.SextAdds", spec := "sextAdds", inPlace := ["math/bits.Add64", "math/bits.Sub64"], unfollowed := true, recurses := true, apart := false, narrowed := true }
def SextAddsUptoSaid : Prop := sextAddsUptoRow.holds Try.pinned (OpenSpec.upto sextAddsSpec)

/-- 'chirographlaw07.FullTurns', WHERE WHAT IT READS IS OF BULK AT MOST 1048576: true; the input reads as it did. -/
def fullTurnsUptoRow : OpenClaim := { program := "ytonklhcmpbhhaaa", sum := "db973dc2f3f431fa1e00826cb916587c8c35454d1e8ea6b3e5bebb7dd89e80b4", func := "chirograph/chirographlaw07.FullTurns", spec := "fullTurns", inPlace := ["math/bits.Add64", "math/bits.Sub64"], unfollowed := true, recurses := true, apart := false, narrowed := true }
def FullTurnsUptoSaid : Prop := fullTurnsUptoRow.holds Try.pinned (OpenSpec.upto fullTurnsSpec)

end Rows
end Go.Proofs.Ytonklhcmpbhhaaa
