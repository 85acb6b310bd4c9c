/-
  No cell of these rows narrows 'for every input' (looked for: loops, veiled, ifaces, maps, wideKeys, modest, calm, conditions, laid).
  DERIVED. THE GIVEN ROWS OF THIS SEAT. 3 by the template 'for every input the law returns true; each argument reads behind the call as it read before'; 0 by the template 'total and deterministic' (their statements: YtokjhbmmdmeafaaGreatTotals.lean).
  GIVEN WITH THE SEED: the statements are not yours to turn. If you find one false, say at which input.
  Laid BY PROGRAM, IN A SANDBOX (cutbox-rows.mjs): the forced cells as the released guide's own fill.sh prints them over the translation b644fc025acc8b51… (all of the seat's roots in one cut). By AI agents, Wed Nov 11 2026. No macro, syntax, notation, axiom, sorry.
-/
import Derived.Test.YtokjhbmmdmeafaaGreatChecked
import GoSem.Claim
import GoSem.ClaimJoined
import GoSem.ClaimMapViews
import Derived.JoinedTies
import Derived.KernelRfl
namespace Go.Proofs.YtokjhbmmdmeafaaGreat
/- THE CELL 'sum', in the pinned program and in every row, IS THE sha256 OF THE DUMP (.gsa) THAT YtokjhbmmdmeafaaGreatProg.lean LOADS. Nothing in Lean hashes anything: it is a label: what it is worth is what the hold of that sum in a sandbox is worth. -/
noncomputable def Tryz.pinned : Pinned := { name := "ytokjhbmmdmeafaagreat", sum := "b644fc025acc8b517382befccf567285edb3d1d33c13162cb627599b00716476", checked := Tryz.checked }
namespace Rows
def none {H : Type} : Left H := { results := [], args := [] }

/-- 'chirographlaw23.FormatShapes': WHATEVER THE INPUT: true; the input reads as it did. -/
def formatShapesSpec : ChangeSpec := { name := "formatShapes", fn := fun _ => fun
  | [d] => { results := [.lit (.bool true)], args := [d] }
  | _ => none }
def formatShapesRow : OpenClaim := { program := "ytokjhbmmdmeafaagreat", sum := "b644fc025acc8b517382befccf567285edb3d1d33c13162cb627599b00716476", func := "chirograph/chirographlaw23.FormatShapes", spec := "formatShapes", inPlace := ["math/bits.Add64", "math/bits.Sub64"], unfollowed := true, recurses := true, apart := false }
def FormatShapesSaid : Prop := formatShapesRow.holds Tryz.pinned (OpenSpec.ofChange formatShapesSpec)

/-- ITS FALSE NEIGHBOUR: 'it returns false'. Refute it at one input. -/
def formatShapesWrong : ChangeSpec := { name := "formatShapes", fn := fun _ => fun
  | [d] => { results := [.lit (.bool false)], args := [d] }
  | _ => none }
def FormatShapesWrongFalsely : Prop := formatShapesRow.holds Tryz.pinned (OpenSpec.ofChange formatShapesWrong)

/-- 'chirographlaw23.FormatBack': WHATEVER THE INPUT: true; the input reads as it did. -/
def formatBackSpec : ChangeSpec := { name := "formatBack", fn := fun _ => fun
  | [d1, d2, d3, d4, d5] => { results := [.lit (.bool true)], args := [d1, d2, d3, d4, d5] }
  | _ => none }
def formatBackRow : OpenClaim := { program := "ytokjhbmmdmeafaagreat", sum := "b644fc025acc8b517382befccf567285edb3d1d33c13162cb627599b00716476", func := "chirograph/chirographlaw23.FormatBack", spec := "formatBack", inPlace := ["math/bits.Add64", "math/bits.Sub64"], unfollowed := true, recurses := true, apart := false }
def FormatBackSaid : Prop := formatBackRow.holds Tryz.pinned (OpenSpec.ofChange formatBackSpec)

/-- ITS FALSE NEIGHBOUR: 'it returns false'. Refute it at one input. -/
def formatBackWrong : ChangeSpec := { name := "formatBack", fn := fun _ => fun
  | [d1, d2, d3, d4, d5] => { results := [.lit (.bool false)], args := [d1, d2, d3, d4, d5] }
  | _ => none }
def FormatBackWrongFalsely : Prop := formatBackRow.holds Tryz.pinned (OpenSpec.ofChange formatBackWrong)

/-- 'chirographlaw23.FormatOnce': WHATEVER THE INPUT: true; the input reads as it did. -/
def formatOnceSpec : ChangeSpec := { name := "formatOnce", fn := fun _ => fun
  | [d] => { results := [.lit (.bool true)], args := [d] }
  | _ => none }
def formatOnceRow : OpenClaim := { program := "ytokjhbmmdmeafaagreat", sum := "b644fc025acc8b517382befccf567285edb3d1d33c13162cb627599b00716476", func := "chirograph/chirographlaw23.FormatOnce", spec := "formatOnce", inPlace := ["math/bits.Add64", "math/bits.Sub64"], unfollowed := true, recurses := true, apart := false }
def FormatOnceSaid : Prop := formatOnceRow.holds Tryz.pinned (OpenSpec.ofChange formatOnceSpec)

/-- ITS FALSE NEIGHBOUR: 'it returns false'. Refute it at one input. -/
def formatOnceWrong : ChangeSpec := { name := "formatOnce", fn := fun _ => fun
  | [d] => { results := [.lit (.bool false)], args := [d] }
  | _ => none }
def FormatOnceWrongFalsely : Prop := formatOnceRow.holds Tryz.pinned (OpenSpec.ofChange formatOnceWrong)

/- THE SECOND FORM. 'bulk': how many values and letters a reading holds, each counted each time it is reached (what is shared counts as often as it is met; a slice's spare places count too). A statement '..UptoSaid' is the law's where the arguments, and the package variables that the reading takes, are together of bulk at most 1048576: NARROWER than '..Said'. Prove '..Said' where nothing that the law and all that it calls make is longer than what came in: it says more and counts as full. Else prove '..UptoSaid'. A law counts once. -/
mutual
def uptoBulk {H : Type} : DataW H → Nat
  | .lit (.string bytes) => bytes.length + 1
  | .lit _ => 1
  | .nil => 1
  | .ptr d => uptoBulk d + 1
  | .slice elems spare => uptoBulkAll elems + uptoBulkAll spare + 1
  | .agg parts => uptoBulkAll parts + 1
  | .iface _ d => uptoBulk d + 1
  | .map entries => uptoBulkEntries entries + 1
  | .held _ => 1
def uptoBulkAll {H : Type} : List (DataW H) → Nat
  | [] => 0
  | d :: r => uptoBulk d + uptoBulkAll r
def uptoBulkEntries {H : Type} : List (Lit × DataW H) → Nat
  | [] => 0
  | x :: r => uptoBulkEntry x + uptoBulkEntries r
def uptoBulkEntry {H : Type} : Lit × DataW H → Nat
  | (.string bytes, d) => bytes.length + uptoBulk d + 1
  | (_, d) => uptoBulk d + 1
 end
def uptoSmall : (H : Type) → List (DataW H) → Bool := fun _ ds => decide (uptoBulkAll ds ≤ 1048576)
def OpenSpec.upto (s : _root_.Go.ChangeSpec) : _root_.Go.OpenSpec := { _root_.Go.OpenSpec.ofChange s with cond := some uptoSmall }

/-- 'chirographlaw23.FormatShapes', WHERE WHAT IT READS IS OF BULK AT MOST 1048576: true; the input reads as it did. -/
def formatShapesUptoRow : OpenClaim := { program := "ytokjhbmmdmeafaagreat", sum := "b644fc025acc8b517382befccf567285edb3d1d33c13162cb627599b00716476", func := "chirograph/chirographlaw23.FormatShapes", spec := "formatShapes", inPlace := ["math/bits.Add64", "math/bits.Sub64"], unfollowed := true, recurses := true, apart := false, narrowed := true }
def FormatShapesUptoSaid : Prop := formatShapesUptoRow.holds Tryz.pinned (OpenSpec.upto formatShapesSpec)

/-- 'chirographlaw23.FormatBack', WHERE WHAT IT READS IS OF BULK AT MOST 1048576: true; the input reads as it did. -/
def formatBackUptoRow : OpenClaim := { program := "ytokjhbmmdmeafaagreat", sum := "b644fc025acc8b517382befccf567285edb3d1d33c13162cb627599b00716476", func := "chirograph/chirographlaw23.FormatBack", spec := "formatBack", inPlace := ["math/bits.Add64", "math/bits.Sub64"], unfollowed := true, recurses := true, apart := false, narrowed := true }
def FormatBackUptoSaid : Prop := formatBackUptoRow.holds Tryz.pinned (OpenSpec.upto formatBackSpec)

/-- 'chirographlaw23.FormatOnce', WHERE WHAT IT READS IS OF BULK AT MOST 1048576: true; the input reads as it did. -/
def formatOnceUptoRow : OpenClaim := { program := "ytokjhbmmdmeafaagreat", sum := "b644fc025acc8b517382befccf567285edb3d1d33c13162cb627599b00716476", func := "chirograph/chirographlaw23.FormatOnce", spec := "formatOnce", inPlace := ["math/bits.Add64", "math/bits.Sub64"], unfollowed := true, recurses := true, apart := false, narrowed := true }
def FormatOnceUptoSaid : Prop := formatOnceUptoRow.holds Tryz.pinned (OpenSpec.upto formatOnceSpec)

end Rows
end Go.Proofs.YtokjhbmmdmeafaaGreat
