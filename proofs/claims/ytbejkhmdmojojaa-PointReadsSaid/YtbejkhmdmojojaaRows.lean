/-
  No cell of these rows narrows 'for every input' (looked for: loops, veiled, ifaces, maps, wideKeys, modest, calm, conditions, laid).
  DERIVED. THE GIVEN ROWS OF THIS SEAT. 5 by the template 'for every input the law returns true; each argument reads behind the call as it read before'; 0 by the template 'total and deterministic' (their statements: YtbejkhmdmojojaaTotals.lean).
  GIVEN WITH THE SEED: the statements are not yours to turn. If you find one false, say at which input.
  Laid BY PROGRAM, IN A SANDBOX (cutbox-rows.mjs): the forced cells as the released guide's own fill.sh prints them over the translation f6d8853f78453c2d… (all of the seat's roots in one cut). By AI agents, Wed Nov 11 2026. No macro, syntax, notation, axiom, sorry.
-/
import Derived.Test.YtbejkhmdmojojaaChecked
import GoSem.Claim
import GoSem.ClaimJoined
import GoSem.ClaimMapViews
import Derived.JoinedTies
import Derived.KernelRfl
namespace Go.Proofs.Ytbejkhmdmojojaa
/- THE CELL 'sum', in the pinned program and in every row, IS THE sha256 OF THE DUMP (.gsa) THAT YtbejkhmdmojojaaProg.lean LOADS. Nothing in Lean hashes anything: it is a label: what it is worth is what the hold of that sum in a sandbox is worth. -/
noncomputable def Try.pinned : Pinned := { name := "ytbejkhmdmojojaa", sum := "f6d8853f78453c2d3a335418e0a789458e8e01df5ea6961f503236f721eaa495", checked := Try.checked }
namespace Rows
def none {H : Type} : Left H := { results := [], args := [] }

/-- 'chirographlaw10.PointWrites': WHATEVER THE INPUT: true; the input reads as it did. -/
def pointWritesSpec : ChangeSpec := { name := "pointWrites", fn := fun _ => fun
  | [d1, d2] => { results := [.lit (.bool true)], args := [d1, d2] }
  | _ => none }
def pointWritesRow : OpenClaim := { program := "ytbejkhmdmojojaa", sum := "f6d8853f78453c2d3a335418e0a789458e8e01df5ea6961f503236f721eaa495", func := "chirograph/chirographlaw10.PointWrites", spec := "pointWrites", inPlace := ["math/bits.Add64", "math/bits.Sub64"], unfollowed := true, recurses := true, apart := false }
def PointWritesSaid : Prop := pointWritesRow.holds Try.pinned (OpenSpec.ofChange pointWritesSpec)

/-- ITS FALSE NEIGHBOUR: 'it returns false'. Refute it at one input. -/
def pointWritesWrong : ChangeSpec := { name := "pointWrites", fn := fun _ => fun
  | [d1, d2] => { results := [.lit (.bool false)], args := [d1, d2] }
  | _ => none }
def PointWritesWrongFalsely : Prop := pointWritesRow.holds Try.pinned (OpenSpec.ofChange pointWritesWrong)

/-- 'chirographlaw10.PointReads': WHATEVER THE INPUT: true; the input reads as it did. -/
def pointReadsSpec : ChangeSpec := { name := "pointReads", fn := fun _ => fun
  | [d] => { results := [.lit (.bool true)], args := [d] }
  | _ => none }
def pointReadsRow : OpenClaim := { program := "ytbejkhmdmojojaa", sum := "f6d8853f78453c2d3a335418e0a789458e8e01df5ea6961f503236f721eaa495", func := "chirograph/chirographlaw10.PointReads", spec := "pointReads", inPlace := ["math/bits.Add64", "math/bits.Sub64"], unfollowed := true, recurses := true, apart := false }
def PointReadsSaid : Prop := pointReadsRow.holds Try.pinned (OpenSpec.ofChange pointReadsSpec)

/-- ITS FALSE NEIGHBOUR: 'it returns false'. Refute it at one input. -/
def pointReadsWrong : ChangeSpec := { name := "pointReads", fn := fun _ => fun
  | [d] => { results := [.lit (.bool false)], args := [d] }
  | _ => none }
def PointReadsWrongFalsely : Prop := pointReadsRow.holds Try.pinned (OpenSpec.ofChange pointReadsWrong)

/-- 'chirographlaw10.PointBack': WHATEVER THE INPUT: true; the input reads as it did. -/
def pointBackSpec : ChangeSpec := { name := "pointBack", fn := fun _ => fun
  | [d1, d2] => { results := [.lit (.bool true)], args := [d1, d2] }
  | _ => none }
def pointBackRow : OpenClaim := { program := "ytbejkhmdmojojaa", sum := "f6d8853f78453c2d3a335418e0a789458e8e01df5ea6961f503236f721eaa495", func := "chirograph/chirographlaw10.PointBack", spec := "pointBack", inPlace := ["math/bits.Add64", "math/bits.Sub64"], unfollowed := true, recurses := true, apart := false }
def PointBackSaid : Prop := pointBackRow.holds Try.pinned (OpenSpec.ofChange pointBackSpec)

/-- ITS FALSE NEIGHBOUR: 'it returns false'. Refute it at one input. -/
def pointBackWrong : ChangeSpec := { name := "pointBack", fn := fun _ => fun
  | [d1, d2] => { results := [.lit (.bool false)], args := [d1, d2] }
  | _ => none }
def PointBackWrongFalsely : Prop := pointBackRow.holds Try.pinned (OpenSpec.ofChange pointBackWrong)

/-- 'chirographlaw10.PointOnce': WHATEVER THE INPUT: true; the input reads as it did. -/
def pointOnceSpec : ChangeSpec := { name := "pointOnce", fn := fun _ => fun
  | [d] => { results := [.lit (.bool true)], args := [d] }
  | _ => none }
def pointOnceRow : OpenClaim := { program := "ytbejkhmdmojojaa", sum := "f6d8853f78453c2d3a335418e0a789458e8e01df5ea6961f503236f721eaa495", func := "chirograph/chirographlaw10.PointOnce", spec := "pointOnce", inPlace := ["math/bits.Add64", "math/bits.Sub64"], unfollowed := true, recurses := true, apart := false }
def PointOnceSaid : Prop := pointOnceRow.holds Try.pinned (OpenSpec.ofChange pointOnceSpec)

/-- ITS FALSE NEIGHBOUR: 'it returns false'. Refute it at one input. -/
def pointOnceWrong : ChangeSpec := { name := "pointOnce", fn := fun _ => fun
  | [d] => { results := [.lit (.bool false)], args := [d] }
  | _ => none }
def PointOnceWrongFalsely : Prop := pointOnceRow.holds Try.pinned (OpenSpec.ofChange pointOnceWrong)

/-- 'chirographtop.TopBytes': WHATEVER THE INPUT: true; the input reads as it did. -/
def topBytesSpec : ChangeSpec := { name := "topBytes", fn := fun _ => fun
  | [d] => { results := [.lit (.bool true)], args := [d] }
  | _ => none }
def topBytesRow : OpenClaim := { program := "ytbejkhmdmojojaa", sum := "f6d8853f78453c2d3a335418e0a789458e8e01df5ea6961f503236f721eaa495", func := "chirograph/chirographtop.TopBytes", spec := "topBytes", inPlace := ["math/bits.Add64", "math/bits.Sub64"], unfollowed := true, recurses := true, apart := false }
def TopBytesSaid : Prop := topBytesRow.holds Try.pinned (OpenSpec.ofChange topBytesSpec)

/-- ITS FALSE NEIGHBOUR: 'it returns false'. Refute it at one input. -/
def topBytesWrong : ChangeSpec := { name := "topBytes", fn := fun _ => fun
  | [d] => { results := [.lit (.bool false)], args := [d] }
  | _ => none }
def TopBytesWrongFalsely : Prop := topBytesRow.holds Try.pinned (OpenSpec.ofChange topBytesWrong)

/- THE SECOND FORM. 'bulk': how many values and letters a reading holds, each counted each time it is reached (what is shared counts as often as it is met; a slice's spare places count too). A statement '..UptoSaid' is the law's where the arguments, and the package variables that the reading takes, are together of bulk at most 1048576: NARROWER than '..Said'. Prove '..Said' where nothing that the law and all that it calls make is longer than what came in: it says more and counts as full. Else prove '..UptoSaid'. A law counts once. -/
mutual
def uptoBulk {H : Type} : DataW H → Nat
  | .lit (.string bytes) => bytes.length + 1
  | .lit _ => 1
  | .nil => 1
  | .ptr d => uptoBulk d + 1
  | .slice elems spare => uptoBulkAll elems + uptoBulkAll spare + 1
  | .agg parts => uptoBulkAll parts + 1
  | .iface _ d => uptoBulk d + 1
  | .map entries => uptoBulkEntries entries + 1
  | .held _ => 1
def uptoBulkAll {H : Type} : List (DataW H) → Nat
  | [] => 0
  | d :: r => uptoBulk d + uptoBulkAll r
def uptoBulkEntries {H : Type} : List (Lit × DataW H) → Nat
  | [] => 0
  | x :: r => uptoBulkEntry x + uptoBulkEntries r
def uptoBulkEntry {H : Type} : Lit × DataW H → Nat
  | (.string bytes, d) => bytes.length + uptoBulk d + 1
  | (_, d) => uptoBulk d + 1
 end
def uptoSmall : (H : Type) → List (DataW H) → Bool := fun _ ds => decide (uptoBulkAll ds ≤ 1048576)
def OpenSpec.upto (s : _root_.Go.ChangeSpec) : _root_.Go.OpenSpec := { _root_.Go.OpenSpec.ofChange s with cond := some uptoSmall }

/-- 'chirographlaw10.PointWrites', WHERE WHAT IT READS IS OF BULK AT MOST 1048576: true; the input reads as it did. -/
def pointWritesUptoRow : OpenClaim := { program := "ytbejkhmdmojojaa", sum := "f6d8853f78453c2d3a335418e0a789458e8e01df5ea6961f503236f721eaa495", func := "chirograph/chirographlaw10.PointWrites", spec := "pointWrites", inPlace := ["math/bits.Add64", "math/bits.Sub64"], unfollowed := true, recurses := true, apart := false, narrowed := true }
def PointWritesUptoSaid : Prop := pointWritesUptoRow.holds Try.pinned (OpenSpec.upto pointWritesSpec)

/-- 'chirographlaw10.PointReads', WHERE WHAT IT READS IS OF BULK AT MOST 1048576: true; the input reads as it did. -/
def pointReadsUptoRow : OpenClaim := { program := "ytbejkhmdmojojaa", sum := "f6d8853f78453c2d3a335418e0a789458e8e01df5ea6961f503236f721eaa495", func := "chirograph/chirographlaw10.PointReads", spec := "pointReads", inPlace := ["math/bits.Add64", "math/bits.Sub64"], unfollowed := true, recurses := true, apart := false, narrowed := true }
def PointReadsUptoSaid : Prop := pointReadsUptoRow.holds Try.pinned (OpenSpec.upto pointReadsSpec)

/-- 'chirographlaw10.PointBack', WHERE WHAT IT READS IS OF BULK AT MOST 1048576: true; the input reads as it did. -/
def pointBackUptoRow : OpenClaim := { program := "ytbejkhmdmojojaa", sum := "f6d8853f78453c2d3a335418e0a789458e8e01df5ea6961f503236f721eaa495", func := "chirograph/chirographlaw10.PointBack", spec := "pointBack", inPlace := ["math/bits.Add64", "math/bits.Sub64"], unfollowed := true, recurses := true, apart := false, narrowed := true }
def PointBackUptoSaid : Prop := pointBackUptoRow.holds Try.pinned (OpenSpec.upto pointBackSpec)

/-- 'chirographlaw10.PointOnce', WHERE WHAT IT READS IS OF BULK AT MOST 1048576: true; the input reads as it did. -/
def pointOnceUptoRow : OpenClaim := { program := "ytbejkhmdmojojaa", sum := "f6d8853f78453c2d3a335418e0a789458e8e01df5ea6961f503236f721eaa495", func := "chirograph/chirographlaw10.PointOnce", spec := "pointOnce", inPlace := ["math/bits.Add64", "math/bits.Sub64"], unfollowed := true, recurses := true, apart := false, narrowed := true }
def PointOnceUptoSaid : Prop := pointOnceUptoRow.holds Try.pinned (OpenSpec.upto pointOnceSpec)

/-- 'chirographtop.TopBytes', WHERE WHAT IT READS IS OF BULK AT MOST 1048576: true; the input reads as it did. -/
def topBytesUptoRow : OpenClaim := { program := "ytbejkhmdmojojaa", sum := "f6d8853f78453c2d3a335418e0a789458e8e01df5ea6961f503236f721eaa495", func := "chirograph/chirographtop.TopBytes", spec := "topBytes", inPlace := ["math/bits.Add64", "math/bits.Sub64"], unfollowed := true, recurses := true, apart := false, narrowed := true }
def TopBytesUptoSaid : Prop := topBytesUptoRow.holds Try.pinned (OpenSpec.upto topBytesSpec)

end Rows
end Go.Proofs.Ytbejkhmdmojojaa
