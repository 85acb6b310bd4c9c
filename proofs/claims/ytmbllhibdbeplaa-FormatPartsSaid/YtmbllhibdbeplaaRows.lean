/-
  No cell of these rows narrows 'for every input' (looked for: loops, veiled, ifaces, maps, wideKeys, modest, calm, conditions, laid).
  DERIVED. THE GIVEN ROWS OF THIS SEAT. 4 by the template 'for every input the law returns true; each argument reads behind the call as it read before'; 0 by the template 'total and deterministic' (their statements: YtmbllhibdbeplaaTotals.lean).
  GIVEN WITH THE SEED: the statements are not yours to turn. If you find one false, say at which input.
  Laid BY PROGRAM, IN A SANDBOX (cutbox-rows.mjs): the forced cells as the released guide's own fill.sh prints them over the translation dc07bcd212de1d2e… (all of the seat's roots in one cut). By AI agents, Wed Nov 11 2026. No macro, syntax, notation, axiom, sorry.
-/
import Derived.Test.YtmbllhibdbeplaaChecked
import GoSem.Claim
import GoSem.ClaimJoined
import GoSem.ClaimMapViews
import Derived.JoinedTies
import Derived.KernelRfl
namespace Go.Proofs.Ytmbllhibdbeplaa
/- THE CELL 'sum', in the pinned program and in every row, IS THE sha256 OF THE DUMP (.gsa) THAT YtmbllhibdbeplaaProg.lean LOADS. Nothing in Lean hashes anything: it is a label: what it is worth is what the hold of that sum in a sandbox is worth. -/
noncomputable def Try.pinned : Pinned := { name := "ytmbllhibdbeplaa", sum := "dc07bcd212de1d2e7b8c8aeb7500a20e4fe8542fd838da42336a1631523d7e99", checked := Try.checked }
namespace Rows
def none {H : Type} : Left H := { results := [], args := [] }

/-- 'chirographlaw23.FormatCircuits': WHATEVER THE INPUT: true; the input reads as it did. -/
def formatCircuitsSpec : ChangeSpec := { name := "formatCircuits", fn := fun _ => fun
  | [d] => { results := [.lit (.bool true)], args := [d] }
  | _ => none }
def formatCircuitsRow : OpenClaim := { program := "ytmbllhibdbeplaa", sum := "dc07bcd212de1d2e7b8c8aeb7500a20e4fe8542fd838da42336a1631523d7e99", func := "chirograph/chirographlaw23.FormatCircuits", spec := "formatCircuits", inPlace := ["math/bits.Add64", "math/bits.Sub64"], unfollowed := true, recurses := true, apart := false }
def FormatCircuitsSaid : Prop := formatCircuitsRow.holds Try.pinned (OpenSpec.ofChange formatCircuitsSpec)

/-- ITS FALSE NEIGHBOUR: 'it returns false'. Refute it at one input. -/
def formatCircuitsWrong : ChangeSpec := { name := "formatCircuits", fn := fun _ => fun
  | [d] => { results := [.lit (.bool false)], args := [d] }
  | _ => none }
def FormatCircuitsWrongFalsely : Prop := formatCircuitsRow.holds Try.pinned (OpenSpec.ofChange formatCircuitsWrong)

/-- 'chirographlaw23.FormatRest': WHATEVER THE INPUT: true; the input reads as it did. -/
def formatRestSpec : ChangeSpec := { name := "formatRest", fn := fun _ => fun
  | [d1, d2] => { results := [.lit (.bool true)], args := [d1, d2] }
  | _ => none }
def formatRestRow : OpenClaim := { program := "ytmbllhibdbeplaa", sum := "dc07bcd212de1d2e7b8c8aeb7500a20e4fe8542fd838da42336a1631523d7e99", func := "chirograph/chirographlaw23.FormatRest", spec := "formatRest", inPlace := ["math/bits.Add64", "math/bits.Sub64"], unfollowed := true, recurses := true, apart := false }
def FormatRestSaid : Prop := formatRestRow.holds Try.pinned (OpenSpec.ofChange formatRestSpec)

/-- ITS FALSE NEIGHBOUR: 'it returns false'. Refute it at one input. -/
def formatRestWrong : ChangeSpec := { name := "formatRest", fn := fun _ => fun
  | [d1, d2] => { results := [.lit (.bool false)], args := [d1, d2] }
  | _ => none }
def FormatRestWrongFalsely : Prop := formatRestRow.holds Try.pinned (OpenSpec.ofChange formatRestWrong)

/-- 'chirographlaw23.FormatProofs': WHATEVER THE INPUT: true; the input reads as it did. -/
def formatProofsSpec : ChangeSpec := { name := "formatProofs", fn := fun _ => fun
  | [d1, d2] => { results := [.lit (.bool true)], args := [d1, d2] }
  | _ => none }
def formatProofsRow : OpenClaim := { program := "ytmbllhibdbeplaa", sum := "dc07bcd212de1d2e7b8c8aeb7500a20e4fe8542fd838da42336a1631523d7e99", func := "chirograph/chirographlaw23.FormatProofs", spec := "formatProofs", inPlace := ["math/bits.Add64", "math/bits.Sub64"], unfollowed := true, recurses := true, apart := false }
def FormatProofsSaid : Prop := formatProofsRow.holds Try.pinned (OpenSpec.ofChange formatProofsSpec)

/-- ITS FALSE NEIGHBOUR: 'it returns false'. Refute it at one input. -/
def formatProofsWrong : ChangeSpec := { name := "formatProofs", fn := fun _ => fun
  | [d1, d2] => { results := [.lit (.bool false)], args := [d1, d2] }
  | _ => none }
def FormatProofsWrongFalsely : Prop := formatProofsRow.holds Try.pinned (OpenSpec.ofChange formatProofsWrong)

/-- 'chirographlaw23.FormatParts': WHATEVER THE INPUT: true; the input reads as it did. -/
def formatPartsSpec : ChangeSpec := { name := "formatParts", fn := fun _ => fun
  | [d] => { results := [.lit (.bool true)], args := [d] }
  | _ => none }
def formatPartsRow : OpenClaim := { program := "ytmbllhibdbeplaa", sum := "dc07bcd212de1d2e7b8c8aeb7500a20e4fe8542fd838da42336a1631523d7e99", func := "chirograph/chirographlaw23.FormatParts", spec := "formatParts", inPlace := ["math/bits.Add64", "math/bits.Sub64"], unfollowed := true, recurses := true, apart := false }
def FormatPartsSaid : Prop := formatPartsRow.holds Try.pinned (OpenSpec.ofChange formatPartsSpec)

/-- ITS FALSE NEIGHBOUR: 'it returns false'. Refute it at one input. -/
def formatPartsWrong : ChangeSpec := { name := "formatParts", fn := fun _ => fun
  | [d] => { results := [.lit (.bool false)], args := [d] }
  | _ => none }
def FormatPartsWrongFalsely : Prop := formatPartsRow.holds Try.pinned (OpenSpec.ofChange formatPartsWrong)

/- THE SECOND FORM. 'bulk': how many values and letters a reading holds, each counted each time it is reached (what is shared counts as often as it is met; a slice's spare places count too). A statement '..UptoSaid' is the law's where the arguments, and the package variables that the reading takes, are together of bulk at most 1048576: NARROWER than '..Said'. Prove '..Said' where nothing that the law and all that it calls make is longer than what came in: it says more and counts as full. Else prove '..UptoSaid'. A law counts once. -/
mutual
def uptoBulk {H : Type} : DataW H → Nat
  | .lit (.string bytes) => bytes.length + 1
  | .lit _ => 1
  | .nil => 1
  | .ptr d => uptoBulk d + 1
  | .slice elems spare => uptoBulkAll elems + uptoBulkAll spare + 1
  | .agg parts => uptoBulkAll parts + 1
  | .iface _ d => uptoBulk d + 1
  | .map entries => uptoBulkEntries entries + 1
  | .held _ => 1
def uptoBulkAll {H : Type} : List (DataW H) → Nat
  | [] => 0
  | d :: r => uptoBulk d + uptoBulkAll r
def uptoBulkEntries {H : Type} : List (Lit × DataW H) → Nat
  | [] => 0
  | x :: r => uptoBulkEntry x + uptoBulkEntries r
def uptoBulkEntry {H : Type} : Lit × DataW H → Nat
  | (.string bytes, d) => bytes.length + uptoBulk d + 1
  | (_, d) => uptoBulk d + 1
 end
def uptoSmall : (H : Type) → List (DataW H) → Bool := fun _ ds => decide (uptoBulkAll ds ≤ 1048576)
def OpenSpec.upto (s : _root_.Go.ChangeSpec) : _root_.Go.OpenSpec := { _root_.Go.OpenSpec.ofChange s with cond := some uptoSmall }

/-- 'chirographlaw23.FormatCircuits', WHERE WHAT IT READS IS OF BULK AT MOST 1048576: true; the input reads as it did. -/
def formatCircuitsUptoRow : OpenClaim := { program := "ytmbllhibdbeplaa", sum := "dc07bcd212de1d2e7b8c8aeb7500a20e4fe8542fd838da42336a1631523d7e99", func := "chirograph/chirographlaw23.FormatCircuits", spec := "formatCircuits", inPlace := ["math/bits.Add64", "math/bits.Sub64"], unfollowed := true, recurses := true, apart := false, narrowed := true }
def FormatCircuitsUptoSaid : Prop := formatCircuitsUptoRow.holds Try.pinned (OpenSpec.upto formatCircuitsSpec)

/-- 'chirographlaw23.FormatRest', WHERE WHAT IT READS IS OF BULK AT MOST 1048576: true; the input reads as it did. -/
def formatRestUptoRow : OpenClaim := { program := "ytmbllhibdbeplaa", sum := "dc07bcd212de1d2e7b8c8aeb7500a20e4fe8542fd838da42336a1631523d7e99", func := "chirograph/chirographlaw23.FormatRest", spec := "formatRest", inPlace := ["math/bits.Add64", "math/bits.Sub64"], unfollowed := true, recurses := true, apart := false, narrowed := true }
def FormatRestUptoSaid : Prop := formatRestUptoRow.holds Try.pinned (OpenSpec.upto formatRestSpec)

/-- 'chirographlaw23.FormatProofs', WHERE WHAT IT READS IS OF BULK AT MOST 1048576: true; the input reads as it did. -/
def formatProofsUptoRow : OpenClaim := { program := "ytmbllhibdbeplaa", sum := "dc07bcd212de1d2e7b8c8aeb7500a20e4fe8542fd838da42336a1631523d7e99", func := "chirograph/chirographlaw23.FormatProofs", spec := "formatProofs", inPlace := ["math/bits.Add64", "math/bits.Sub64"], unfollowed := true, recurses := true, apart := false, narrowed := true }
def FormatProofsUptoSaid : Prop := formatProofsUptoRow.holds Try.pinned (OpenSpec.upto formatProofsSpec)

/-- 'chirographlaw23.FormatParts', WHERE WHAT IT READS IS OF BULK AT MOST 1048576: true; the input reads as it did. -/
def formatPartsUptoRow : OpenClaim := { program := "ytmbllhibdbeplaa", sum := "dc07bcd212de1d2e7b8c8aeb7500a20e4fe8542fd838da42336a1631523d7e99", func := "chirograph/chirographlaw23.FormatParts", spec := "formatParts", inPlace := ["math/bits.Add64", "math/bits.Sub64"], unfollowed := true, recurses := true, apart := false, narrowed := true }
def FormatPartsUptoSaid : Prop := formatPartsUptoRow.holds Try.pinned (OpenSpec.upto formatPartsSpec)

end Rows
end Go.Proofs.Ytmbllhibdbeplaa
