/-
  No cell of these rows narrows 'for every input' (looked for: loops, veiled, ifaces, maps, wideKeys, modest, calm, conditions, laid).
  DERIVED. THE GIVEN ROWS OF THIS SEAT. 4 by the template 'for every input the law returns true; each argument reads behind the call as it read before'; 0 by the template 'total and deterministic' (their statements: YtapapelfjjnhmaaTotals.lean).
  GIVEN WITH THE SEED: the statements are not yours to turn. If you find one false, say at which input.
  Laid BY PROGRAM, IN A SANDBOX (cutbox-rows.mjs): the forced cells as the released guide's own fill.sh prints them over the translation 1d363a3e7591e022… (all of the seat's roots in one cut). By AI agents, Wed Nov 11 2026. No macro, syntax, notation, axiom, sorry.
-/
import Derived.Test.YtapapelfjjnhmaaChecked
import GoSem.Claim
import GoSem.ClaimJoined
import GoSem.ClaimMapViews
import Derived.JoinedTies
import Derived.KernelRfl
namespace Go.Proofs.Ytapapelfjjnhmaa
/- THE CELL 'sum', in the pinned program and in every row, IS THE sha256 OF THE DUMP (.gsa) THAT YtapapelfjjnhmaaProg.lean LOADS. Nothing in Lean hashes anything: it is a label: what it is worth is what the hold of that sum in a sandbox is worth. -/
noncomputable def Try.pinned : Pinned := { name := "ytapapelfjjnhmaa", sum := "1d363a3e7591e022750b316ee9742da73b62dc1db2f55c66a8926a997b2ec9e1", checked := Try.checked }
namespace Rows
def none {H : Type} : Left H := { results := [], args := [] }

/-- 'chirographlaw07.FullPows': WHATEVER THE INPUT: true; the input reads as it did. -/
def fullPowsSpec : ChangeSpec := { name := "fullPows", fn := fun _ => fun
  | [d1, d2, d3, d4, d5] => { results := [.lit (.bool true)], args := [d1, d2, d3, d4, d5] }
  | _ => none }
def fullPowsRow : OpenClaim := { program := "ytapapelfjjnhmaa", sum := "1d363a3e7591e022750b316ee9742da73b62dc1db2f55c66a8926a997b2ec9e1", func := "chirograph/chirographlaw07.FullPows", spec := "fullPows", inPlace := ["math/bits.Add64", "math/bits.Sub64"], unfollowed := true, recurses := true, apart := false }
def FullPowsSaid : Prop := fullPowsRow.holds Try.pinned (OpenSpec.ofChange fullPowsSpec)

/-- ITS FALSE NEIGHBOUR: 'it returns false'. Refute it at one input. -/
def fullPowsWrong : ChangeSpec := { name := "fullPows", fn := fun _ => fun
  | [d1, d2, d3, d4, d5] => { results := [.lit (.bool false)], args := [d1, d2, d3, d4, d5] }
  | _ => none }
def FullPowsWrongFalsely : Prop := fullPowsRow.holds Try.pinned (OpenSpec.ofChange fullPowsWrong)

/-- 'chirographlaw07.FullFrobs': WHATEVER THE INPUT: true; the input reads as it did. -/
def fullFrobsSpec : ChangeSpec := { name := "fullFrobs", fn := fun _ => fun
  | [d1, d2] => { results := [.lit (.bool true)], args := [d1, d2] }
  | _ => none }
def fullFrobsRow : OpenClaim := { program := "ytapapelfjjnhmaa", sum := "1d363a3e7591e022750b316ee9742da73b62dc1db2f55c66a8926a997b2ec9e1", func := "chirograph/chirographlaw07.FullFrobs", spec := "fullFrobs", inPlace := ["math/bits.Add64", "math/bits.Sub64"], unfollowed := true, recurses := true, apart := false }
def FullFrobsSaid : Prop := fullFrobsRow.holds Try.pinned (OpenSpec.ofChange fullFrobsSpec)

/-- ITS FALSE NEIGHBOUR: 'it returns false'. Refute it at one input. -/
def fullFrobsWrong : ChangeSpec := { name := "fullFrobs", fn := fun _ => fun
  | [d1, d2] => { results := [.lit (.bool false)], args := [d1, d2] }
  | _ => none }
def FullFrobsWrongFalsely : Prop := fullFrobsRow.holds Try.pinned (OpenSpec.ofChange fullFrobsWrong)

/-- 'chirographlaw05.DuoRoots': WHATEVER THE INPUT: true; the input reads as it did. -/
def duoRootsSpec : ChangeSpec := { name := "duoRoots", fn := fun _ => fun
  | [d] => { results := [.lit (.bool true)], args := [d] }
  | _ => none }
def duoRootsRow : OpenClaim := { program := "ytapapelfjjnhmaa", sum := "1d363a3e7591e022750b316ee9742da73b62dc1db2f55c66a8926a997b2ec9e1", func := "chirograph/chirographlaw05.DuoRoots", spec := "duoRoots", inPlace := ["math/bits.Add64", "math/bits.Sub64"], unfollowed := true, recurses := true, apart := false }
def DuoRootsSaid : Prop := duoRootsRow.holds Try.pinned (OpenSpec.ofChange duoRootsSpec)

/-- ITS FALSE NEIGHBOUR: 'it returns false'. Refute it at one input. -/
def duoRootsWrong : ChangeSpec := { name := "duoRoots", fn := fun _ => fun
  | [d] => { results := [.lit (.bool false)], args := [d] }
  | _ => none }
def DuoRootsWrongFalsely : Prop := duoRootsRow.holds Try.pinned (OpenSpec.ofChange duoRootsWrong)

/-- 'chirographlaw05.DuoSquares': WHATEVER THE INPUT: true; the input reads as it did. -/
def duoSquaresSpec : ChangeSpec := { name := "duoSquares", fn := fun _ => fun
  | [d] => { results := [.lit (.bool true)], args := [d] }
  | _ => none }
def duoSquaresRow : OpenClaim := { program := "ytapapelfjjnhmaa", sum := "1d363a3e7591e022750b316ee9742da73b62dc1db2f55c66a8926a997b2ec9e1", func := "chirograph/chirographlaw05.DuoSquares", spec := "duoSquares", inPlace := ["math/bits.Add64", "math/bits.Sub64"], unfollowed := true, recurses := true, apart := false }
def DuoSquaresSaid : Prop := duoSquaresRow.holds Try.pinned (OpenSpec.ofChange duoSquaresSpec)

/-- ITS FALSE NEIGHBOUR: 'it returns false'. Refute it at one input. -/
def duoSquaresWrong : ChangeSpec := { name := "duoSquares", fn := fun _ => fun
  | [d] => { results := [.lit (.bool false)], args := [d] }
  | _ => none }
def DuoSquaresWrongFalsely : Prop := duoSquaresRow.holds Try.pinned (OpenSpec.ofChange duoSquaresWrong)

/- THE SECOND FORM. 'bulk': how many values and letters a reading holds, each counted each time it is reached (what is shared counts as often as it is met; a slice's spare places count too). A statement '..UptoSaid' is the law's where the arguments, and the package variables that the reading takes, are together of bulk at most 1048576: NARROWER than '..Said'. Prove '..Said' where nothing that the law and all that it calls make is longer than what came in: it says more and counts as full. Else prove '..UptoSaid'. A law counts once. -/
mutual
def uptoBulk {H : Type} : DataW H → Nat
  | .lit (.string bytes) => bytes.length + 1
  | .lit _ => 1
  | .nil => 1
  | .ptr d => uptoBulk d + 1
  | .slice elems spare => uptoBulkAll elems + uptoBulkAll spare + 1
  | .agg parts => uptoBulkAll parts + 1
  | .iface _ d => uptoBulk d + 1
  | .map entries => uptoBulkEntries entries + 1
  | .held _ => 1
def uptoBulkAll {H : Type} : List (DataW H) → Nat
  | [] => 0
  | d :: r => uptoBulk d + uptoBulkAll r
def uptoBulkEntries {H : Type} : List (Lit × DataW H) → Nat
  | [] => 0
  | x :: r => uptoBulkEntry x + uptoBulkEntries r
def uptoBulkEntry {H : Type} : Lit × DataW H → Nat
  | (.string bytes, d) => bytes.length + uptoBulk d + 1
  | (_, d) => uptoBulk d + 1
 end
def uptoSmall : (H : Type) → List (DataW H) → Bool := fun _ ds => decide (uptoBulkAll ds ≤ 1048576)
def OpenSpec.upto (s : _root_.Go.ChangeSpec) : _root_.Go.OpenSpec := { _root_.Go.OpenSpec.ofChange s with cond := some uptoSmall }

/-- 'chirographlaw07.FullPows', WHERE WHAT IT READS IS OF BULK AT MOST 1048576: true; the input reads as it did. -/
def fullPowsUptoRow : OpenClaim := { program := "ytapapelfjjnhmaa", sum := "1d363a3e7591e022750b316ee9742da73b62dc1db2f55c66a8926a997b2ec9e1", func := "chirograph/chirographlaw07.FullPows", spec := "fullPows", inPlace := ["math/bits.Add64", "math/bits.Sub64"], unfollowed := true, recurses := true, apart := false, narrowed := true }
def FullPowsUptoSaid : Prop := fullPowsUptoRow.holds Try.pinned (OpenSpec.upto fullPowsSpec)

/-- 'chirographlaw07.FullFrobs', WHERE WHAT IT READS IS OF BULK AT MOST 1048576: true; the input reads as it did. -/
def fullFrobsUptoRow : OpenClaim := { program := "ytapapelfjjnhmaa", sum := "1d363a3e7591e022750b316ee9742da73b62dc1db2f55c66a8926a997b2ec9e1", func := "chirograph/chirographlaw07.FullFrobs", spec := "fullFrobs", inPlace := ["math/bits.Add64", "math/bits.Sub64"], unfollowed := true, recurses := true, apart := false, narrowed := true }
def FullFrobsUptoSaid : Prop := fullFrobsUptoRow.holds Try.pinned (OpenSpec.upto fullFrobsSpec)

/-- 'chirographlaw05.DuoRoots', WHERE WHAT IT READS IS OF BULK AT MOST 1048576: true; the input reads as it did. -/
def duoRootsUptoRow : OpenClaim := { program := "ytapapelfjjnhmaa", sum := "1d363a3e7591e022750b316ee9742da73b62dc1db2f55c66a8926a997b2ec9e1", func := "chirograph/chirographlaw05.DuoRoots", spec := "duoRoots", inPlace := ["math/bits.Add64", "math/bits.Sub64"], unfollowed := true, recurses := true, apart := false, narrowed := true }
def DuoRootsUptoSaid : Prop := duoRootsUptoRow.holds Try.pinned (OpenSpec.upto duoRootsSpec)

/-- 'chirographlaw05.DuoSquares', WHERE WHAT IT READS IS OF BULK AT MOST 1048576: true; the input reads as it did. -/
def duoSquaresUptoRow : OpenClaim := { program := "ytapapelfjjnhmaa", sum := "1d363a3e7591e022750b316ee9742da73b62dc1db2f55c66a8926a997b2ec9e1", func := "chirograph/chirographlaw05.DuoSquares", spec := "duoSquares", inPlace := ["math/bits.Add64", "math/bits.Sub64"], unfollowed := true, recurses := true, apart := false, narrowed := true }
def DuoSquaresUptoSaid : Prop := duoSquaresUptoRow.holds Try.pinned (OpenSpec.upto duoSquaresSpec)

end Rows
end Go.Proofs.Ytapapelfjjnhmaa
