/-
  No cell of these rows narrows 'for every input' (looked for: loops, veiled, ifaces, maps, wideKeys, modest, calm, conditions, laid).
  DERIVED. THE GIVEN ROWS OF THIS SEAT. 11 by the template 'for every input the law returns true; each argument reads behind the call as it read before'; 0 by the template 'total and deterministic' (their statements: YtncnnngfemhaeaaTotals.lean).
  GIVEN WITH THE SEED: the statements are not yours to turn. If you find one false, say at which input.
  Laid BY PROGRAM, IN A SANDBOX (cutbox-rows.mjs): the forced cells as the released guide's own fill.sh prints them over the translation 1e4ac62ea7f620b0… (all of the seat's roots in one cut). By AI agents, Wed Nov 11 2026. No macro, syntax, notation, axiom, sorry.
-/
import Derived.Test.YtncnnngfemhaeaaChecked
import GoSem.Claim
import GoSem.ClaimJoined
import GoSem.ClaimMapViews
import Derived.JoinedTies
import Derived.KernelRfl
namespace Go.Proofs.Ytncnnngfemhaeaa
/- THE CELL 'sum', in the pinned program and in every row, IS THE sha256 OF THE DUMP (.gsa) THAT YtncnnngfemhaeaaProg.lean LOADS. Nothing in Lean hashes anything: it is a label: what it is worth is what the hold of that sum in a sandbox is worth. -/
noncomputable def Try.pinned : Pinned := { name := "ytncnnngfemhaeaa", sum := "1e4ac62ea7f620b0cb408d9ccf83c1c635c01403518de30304f485d77071684a", checked := Try.checked }
namespace Rows
def none {H : Type} : Left H := { results := [], args := [] }

/-- 'chirographlaw04.FpPows': WHATEVER THE INPUT: true; the input reads as it did. -/
def fpPowsSpec : ChangeSpec := { name := "fpPows", fn := fun _ => fun
  | [d1, d2] => { results := [.lit (.bool true)], args := [d1, d2] }
  | _ => none }
def fpPowsRow : OpenClaim := { program := "ytncnnngfemhaeaa", sum := "1e4ac62ea7f620b0cb408d9ccf83c1c635c01403518de30304f485d77071684a", func := "chirograph/chirographlaw04.FpPows", spec := "fpPows", inPlace := ["math/bits.Add64", "math/bits.Sub64"], unfollowed := true, recurses := true, apart := false }
def FpPowsSaid : Prop := fpPowsRow.holds Try.pinned (OpenSpec.ofChange fpPowsSpec)

/-- ITS FALSE NEIGHBOUR: 'it returns false'. Refute it at one input. -/
def fpPowsWrong : ChangeSpec := { name := "fpPows", fn := fun _ => fun
  | [d1, d2] => { results := [.lit (.bool false)], args := [d1, d2] }
  | _ => none }
def FpPowsWrongFalsely : Prop := fpPowsRow.holds Try.pinned (OpenSpec.ofChange fpPowsWrong)

/-- 'chirographlaw04.FpMuls': WHATEVER THE INPUT: true; the input reads as it did. -/
def fpMulsSpec : ChangeSpec := { name := "fpMuls", fn := fun _ => fun
  | [d1, d2] => { results := [.lit (.bool true)], args := [d1, d2] }
  | _ => none }
def fpMulsRow : OpenClaim := { program := "ytncnnngfemhaeaa", sum := "1e4ac62ea7f620b0cb408d9ccf83c1c635c01403518de30304f485d77071684a", func := "chirograph/chirographlaw04.FpMuls", spec := "fpMuls", inPlace := ["math/bits.Add64", "math/bits.Sub64"], unfollowed := true, recurses := true, apart := false }
def FpMulsSaid : Prop := fpMulsRow.holds Try.pinned (OpenSpec.ofChange fpMulsSpec)

/-- ITS FALSE NEIGHBOUR: 'it returns false'. Refute it at one input. -/
def fpMulsWrong : ChangeSpec := { name := "fpMuls", fn := fun _ => fun
  | [d1, d2] => { results := [.lit (.bool false)], args := [d1, d2] }
  | _ => none }
def FpMulsWrongFalsely : Prop := fpMulsRow.holds Try.pinned (OpenSpec.ofChange fpMulsWrong)

/-- 'chirographlaw04.FpField': WHATEVER THE INPUT: true; the input reads as it did. -/
def fpFieldSpec : ChangeSpec := { name := "fpField", fn := fun _ => fun
  | [d1, d2, d3] => { results := [.lit (.bool true)], args := [d1, d2, d3] }
  | _ => none }
def fpFieldRow : OpenClaim := { program := "ytncnnngfemhaeaa", sum := "1e4ac62ea7f620b0cb408d9ccf83c1c635c01403518de30304f485d77071684a", func := "chirograph/chirographlaw04.FpField", spec := "fpField", inPlace := ["math/bits.Add64", "math/bits.Sub64"], unfollowed := true, recurses := true, apart := false }
def FpFieldSaid : Prop := fpFieldRow.holds Try.pinned (OpenSpec.ofChange fpFieldSpec)

/-- ITS FALSE NEIGHBOUR: 'it returns false'. Refute it at one input. -/
def fpFieldWrong : ChangeSpec := { name := "fpField", fn := fun _ => fun
  | [d1, d2, d3] => { results := [.lit (.bool false)], args := [d1, d2, d3] }
  | _ => none }
def FpFieldWrongFalsely : Prop := fpFieldRow.holds Try.pinned (OpenSpec.ofChange fpFieldWrong)

/-- 'chirographlaw05.DuoMuls': WHATEVER THE INPUT: true; the input reads as it did. -/
def duoMulsSpec : ChangeSpec := { name := "duoMuls", fn := fun _ => fun
  | [d1, d2] => { results := [.lit (.bool true)], args := [d1, d2] }
  | _ => none }
def duoMulsRow : OpenClaim := { program := "ytncnnngfemhaeaa", sum := "1e4ac62ea7f620b0cb408d9ccf83c1c635c01403518de30304f485d77071684a", func := "chirograph/chirographlaw05.DuoMuls", spec := "duoMuls", inPlace := ["math/bits.Add64", "math/bits.Sub64"], unfollowed := true, recurses := true, apart := false }
def DuoMulsSaid : Prop := duoMulsRow.holds Try.pinned (OpenSpec.ofChange duoMulsSpec)

/-- ITS FALSE NEIGHBOUR: 'it returns false'. Refute it at one input. -/
def duoMulsWrong : ChangeSpec := { name := "duoMuls", fn := fun _ => fun
  | [d1, d2] => { results := [.lit (.bool false)], args := [d1, d2] }
  | _ => none }
def DuoMulsWrongFalsely : Prop := duoMulsRow.holds Try.pinned (OpenSpec.ofChange duoMulsWrong)

/-- 'chirographlaw05.DuoField': WHATEVER THE INPUT: true; the input reads as it did. -/
def duoFieldSpec : ChangeSpec := { name := "duoField", fn := fun _ => fun
  | [d1, d2, d3] => { results := [.lit (.bool true)], args := [d1, d2, d3] }
  | _ => none }
def duoFieldRow : OpenClaim := { program := "ytncnnngfemhaeaa", sum := "1e4ac62ea7f620b0cb408d9ccf83c1c635c01403518de30304f485d77071684a", func := "chirograph/chirographlaw05.DuoField", spec := "duoField", inPlace := ["math/bits.Add64", "math/bits.Sub64"], unfollowed := true, recurses := true, apart := false }
def DuoFieldSaid : Prop := duoFieldRow.holds Try.pinned (OpenSpec.ofChange duoFieldSpec)

/-- ITS FALSE NEIGHBOUR: 'it returns false'. Refute it at one input. -/
def duoFieldWrong : ChangeSpec := { name := "duoField", fn := fun _ => fun
  | [d1, d2, d3] => { results := [.lit (.bool false)], args := [d1, d2, d3] }
  | _ => none }
def DuoFieldWrongFalsely : Prop := duoFieldRow.holds Try.pinned (OpenSpec.ofChange duoFieldWrong)

/-- 'chirographlaw06.SextMuls': WHATEVER THE INPUT: true; the input reads as it did. -/
def sextMulsSpec : ChangeSpec := { name := "sextMuls", fn := fun _ => fun
  | [d1, d2] => { results := [.lit (.bool true)], args := [d1, d2] }
  | _ => none }
def sextMulsRow : OpenClaim := { program := "ytncnnngfemhaeaa", sum := "1e4ac62ea7f620b0cb408d9ccf83c1c635c01403518de30304f485d77071684a", func := "chirograph/chirographlaw06.SextMuls", spec := "sextMuls", inPlace := ["math/bits.Add64", "math/bits.Sub64"], unfollowed := true, recurses := true, apart := false }
def SextMulsSaid : Prop := sextMulsRow.holds Try.pinned (OpenSpec.ofChange sextMulsSpec)

/-- ITS FALSE NEIGHBOUR: 'it returns false'. Refute it at one input. -/
def sextMulsWrong : ChangeSpec := { name := "sextMuls", fn := fun _ => fun
  | [d1, d2] => { results := [.lit (.bool false)], args := [d1, d2] }
  | _ => none }
def SextMulsWrongFalsely : Prop := sextMulsRow.holds Try.pinned (OpenSpec.ofChange sextMulsWrong)

/-- 'chirographlaw06.SextField': WHATEVER THE INPUT: true; the input reads as it did. -/
def sextFieldSpec : ChangeSpec := { name := "sextField", fn := fun _ => fun
  | [d1, d2, d3] => { results := [.lit (.bool true)], args := [d1, d2, d3] }
  | _ => none }
def sextFieldRow : OpenClaim := { program := "ytncnnngfemhaeaa", sum := "1e4ac62ea7f620b0cb408d9ccf83c1c635c01403518de30304f485d77071684a", func := "chirograph/chirographlaw06.SextField", spec := "sextField", inPlace := ["math/bits.Add64", "math/bits.Sub64"], unfollowed := true, recurses := true, apart := false }
def SextFieldSaid : Prop := sextFieldRow.holds Try.pinned (OpenSpec.ofChange sextFieldSpec)

/-- ITS FALSE NEIGHBOUR: 'it returns false'. Refute it at one input. -/
def sextFieldWrong : ChangeSpec := { name := "sextField", fn := fun _ => fun
  | [d1, d2, d3] => { results := [.lit (.bool false)], args := [d1, d2, d3] }
  | _ => none }
def SextFieldWrongFalsely : Prop := sextFieldRow.holds Try.pinned (OpenSpec.ofChange sextFieldWrong)

/-- 'chirographlaw07.FullMuls': WHATEVER THE INPUT: true; the input reads as it did. -/
def fullMulsSpec : ChangeSpec := { name := "fullMuls", fn := fun _ => fun
  | [d1, d2] => { results := [.lit (.bool true)], args := [d1, d2] }
  | _ => none }
def fullMulsRow : OpenClaim := { program := "ytncnnngfemhaeaa", sum := "1e4ac62ea7f620b0cb408d9ccf83c1c635c01403518de30304f485d77071684a", func := "chirograph/chirographlaw07.FullMuls", spec := "fullMuls", inPlace := ["math/bits.Add64", "math/bits.Sub64"], unfollowed := true, recurses := true, apart := false }
def FullMulsSaid : Prop := fullMulsRow.holds Try.pinned (OpenSpec.ofChange fullMulsSpec)

/-- ITS FALSE NEIGHBOUR: 'it returns false'. Refute it at one input. -/
def fullMulsWrong : ChangeSpec := { name := "fullMuls", fn := fun _ => fun
  | [d1, d2] => { results := [.lit (.bool false)], args := [d1, d2] }
  | _ => none }
def FullMulsWrongFalsely : Prop := fullMulsRow.holds Try.pinned (OpenSpec.ofChange fullMulsWrong)

/-- 'chirographlaw07.FullField': WHATEVER THE INPUT: true; the input reads as it did. -/
def fullFieldSpec : ChangeSpec := { name := "fullField", fn := fun _ => fun
  | [d1, d2, d3] => { results := [.lit (.bool true)], args := [d1, d2, d3] }
  | _ => none }
def fullFieldRow : OpenClaim := { program := "ytncnnngfemhaeaa", sum := "1e4ac62ea7f620b0cb408d9ccf83c1c635c01403518de30304f485d77071684a", func := "chirograph/chirographlaw07.FullField", spec := "fullField", inPlace := ["math/bits.Add64", "math/bits.Sub64"], unfollowed := true, recurses := true, apart := false }
def FullFieldSaid : Prop := fullFieldRow.holds Try.pinned (OpenSpec.ofChange fullFieldSpec)

/-- ITS FALSE NEIGHBOUR: 'it returns false'. Refute it at one input. -/
def fullFieldWrong : ChangeSpec := { name := "fullField", fn := fun _ => fun
  | [d1, d2, d3] => { results := [.lit (.bool false)], args := [d1, d2, d3] }
  | _ => none }
def FullFieldWrongFalsely : Prop := fullFieldRow.holds Try.pinned (OpenSpec.ofChange fullFieldWrong)

/-- 'chirographlaw04.FpRoots': WHATEVER THE INPUT: true; the input reads as it did. -/
def fpRootsSpec : ChangeSpec := { name := "fpRoots", fn := fun _ => fun
  | [d] => { results := [.lit (.bool true)], args := [d] }
  | _ => none }
def fpRootsRow : OpenClaim := { program := "ytncnnngfemhaeaa", sum := "1e4ac62ea7f620b0cb408d9ccf83c1c635c01403518de30304f485d77071684a", func := "chirograph/chirographlaw04.FpRoots", spec := "fpRoots", inPlace := ["math/bits.Add64", "math/bits.Sub64"], unfollowed := true, recurses := true, apart := false }
def FpRootsSaid : Prop := fpRootsRow.holds Try.pinned (OpenSpec.ofChange fpRootsSpec)

/-- ITS FALSE NEIGHBOUR: 'it returns false'. Refute it at one input. -/
def fpRootsWrong : ChangeSpec := { name := "fpRoots", fn := fun _ => fun
  | [d] => { results := [.lit (.bool false)], args := [d] }
  | _ => none }
def FpRootsWrongFalsely : Prop := fpRootsRow.holds Try.pinned (OpenSpec.ofChange fpRootsWrong)

/-- 'chirographlaw04.FpSquares': WHATEVER THE INPUT: true; the input reads as it did. -/
def fpSquaresSpec : ChangeSpec := { name := "fpSquares", fn := fun _ => fun
  | [d1, d2] => { results := [.lit (.bool true)], args := [d1, d2] }
  | _ => none }
def fpSquaresRow : OpenClaim := { program := "ytncnnngfemhaeaa", sum := "1e4ac62ea7f620b0cb408d9ccf83c1c635c01403518de30304f485d77071684a", func := "chirograph/chirographlaw04.FpSquares", spec := "fpSquares", inPlace := ["math/bits.Add64", "math/bits.Sub64"], unfollowed := true, recurses := true, apart := false }
def FpSquaresSaid : Prop := fpSquaresRow.holds Try.pinned (OpenSpec.ofChange fpSquaresSpec)

/-- ITS FALSE NEIGHBOUR: 'it returns false'. Refute it at one input. -/
def fpSquaresWrong : ChangeSpec := { name := "fpSquares", fn := fun _ => fun
  | [d1, d2] => { results := [.lit (.bool false)], args := [d1, d2] }
  | _ => none }
def FpSquaresWrongFalsely : Prop := fpSquaresRow.holds Try.pinned (OpenSpec.ofChange fpSquaresWrong)

/- THE SECOND FORM. 'bulk': how many values and letters a reading holds, each counted each time it is reached (what is shared counts as often as it is met; a slice's spare places count too). A statement '..UptoSaid' is the law's where the arguments, and the package variables that the reading takes, are together of bulk at most 1048576: NARROWER than '..Said'. Prove '..Said' where nothing that the law and all that it calls make is longer than what came in: it says more and counts as full. Else prove '..UptoSaid'. A law counts once. -/
mutual
def uptoBulk {H : Type} : DataW H → Nat
  | .lit (.string bytes) => bytes.length + 1
  | .lit _ => 1
  | .nil => 1
  | .ptr d => uptoBulk d + 1
  | .slice elems spare => uptoBulkAll elems + uptoBulkAll spare + 1
  | .agg parts => uptoBulkAll parts + 1
  | .iface _ d => uptoBulk d + 1
  | .map entries => uptoBulkEntries entries + 1
  | .held _ => 1
def uptoBulkAll {H : Type} : List (DataW H) → Nat
  | [] => 0
  | d :: r => uptoBulk d + uptoBulkAll r
def uptoBulkEntries {H : Type} : List (Lit × DataW H) → Nat
  | [] => 0
  | x :: r => uptoBulkEntry x + uptoBulkEntries r
def uptoBulkEntry {H : Type} : Lit × DataW H → Nat
  | (.string bytes, d) => bytes.length + uptoBulk d + 1
  | (_, d) => uptoBulk d + 1
 end
def uptoSmall : (H : Type) → List (DataW H) → Bool := fun _ ds => decide (uptoBulkAll ds ≤ 1048576)
def OpenSpec.upto (s : _root_.Go.ChangeSpec) : _root_.Go.OpenSpec := { _root_.Go.OpenSpec.ofChange s with cond := some uptoSmall }

/-- 'chirographlaw04.FpPows', WHERE WHAT IT READS IS OF BULK AT MOST 1048576: true; the input reads as it did. -/
def fpPowsUptoRow : OpenClaim := { program := "ytncnnngfemhaeaa", sum := "1e4ac62ea7f620b0cb408d9ccf83c1c635c01403518de30304f485d77071684a", func := "chirograph/chirographlaw04.FpPows", spec := "fpPows", inPlace := ["math/bits.Add64", "math/bits.Sub64"], unfollowed := true, recurses := true, apart := false, narrowed := true }
def FpPowsUptoSaid : Prop := fpPowsUptoRow.holds Try.pinned (OpenSpec.upto fpPowsSpec)

/-- 'chirographlaw04.FpMuls', WHERE WHAT IT READS IS OF BULK AT MOST 1048576: true; the input reads as it did. -/
def fpMulsUptoRow : OpenClaim := { program := "ytncnnngfemhaeaa", sum := "1e4ac62ea7f620b0cb408d9ccf83c1c635c01403518de30304f485d77071684a", func := "chirograph/chirographlaw04.FpMuls", spec := "fpMuls", inPlace := ["math/bits.Add64", "math/bits.Sub64"], unfollowed := true, recurses := true, apart := false, narrowed := true }
def FpMulsUptoSaid : Prop := fpMulsUptoRow.holds Try.pinned (OpenSpec.upto fpMulsSpec)

/-- 'chirographlaw04.FpField', WHERE WHAT IT READS IS OF BULK AT MOST 1048576: true; the input reads as it did. -/
def fpFieldUptoRow : OpenClaim := { program := "ytncnnngfemhaeaa", sum := "1e4ac62ea7f620b0cb408d9ccf83c1c635c01403518de30304f485d77071684a", func := "chirograph/chirographlaw04.FpField", spec := "fpField", inPlace := ["math/bits.Add64", "math/bits.Sub64"], unfollowed := true, recurses := true, apart := false, narrowed := true }
def FpFieldUptoSaid : Prop := fpFieldUptoRow.holds Try.pinned (OpenSpec.upto fpFieldSpec)

/-- 'chirographlaw05.DuoMuls', WHERE WHAT IT READS IS OF BULK AT MOST 1048576: true; the input reads as it did. -/
def duoMulsUptoRow : OpenClaim := { program := "ytncnnngfemhaeaa", sum := "1e4ac62ea7f620b0cb408d9ccf83c1c635c01403518de30304f485d77071684a", func := "chirograph/chirographlaw05.DuoMuls", spec := "duoMuls", inPlace := ["math/bits.Add64", "math/bits.Sub64"], unfollowed := true, recurses := true, apart := false, narrowed := true }
def DuoMulsUptoSaid : Prop := duoMulsUptoRow.holds Try.pinned (OpenSpec.upto duoMulsSpec)

/-- 'chirographlaw05.DuoField', WHERE WHAT IT READS IS OF BULK AT MOST 1048576: true; the input reads as it did. -/
def duoFieldUptoRow : OpenClaim := { program := "ytncnnngfemhaeaa", sum := "1e4ac62ea7f620b0cb408d9ccf83c1c635c01403518de30304f485d77071684a", func := "chirograph/chirographlaw05.DuoField", spec := "duoField", inPlace := ["math/bits.Add64", "math/bits.Sub64"], unfollowed := true, recurses := true, apart := false, narrowed := true }
def DuoFieldUptoSaid : Prop := duoFieldUptoRow.holds Try.pinned (OpenSpec.upto duoFieldSpec)

/-- 'chirographlaw06.SextMuls', WHERE WHAT IT READS IS OF BULK AT MOST 1048576: true; the input reads as it did. -/
def sextMulsUptoRow : OpenClaim := { program := "ytncnnngfemhaeaa", sum := "1e4ac62ea7f620b0cb408d9ccf83c1c635c01403518de30304f485d77071684a", func := "chirograph/chirographlaw06.SextMuls", spec := "sextMuls", inPlace := ["math/bits.Add64", "math/bits.Sub64"], unfollowed := true, recurses := true, apart := false, narrowed := true }
def SextMulsUptoSaid : Prop := sextMulsUptoRow.holds Try.pinned (OpenSpec.upto sextMulsSpec)

/-- 'chirographlaw06.SextField', WHERE WHAT IT READS IS OF BULK AT MOST 1048576: true; the input reads as it did. -/
def sextFieldUptoRow : OpenClaim := { program := "ytncnnngfemhaeaa", sum := "1e4ac62ea7f620b0cb408d9ccf83c1c635c01403518de30304f485d77071684a", func := "chirograph/chirographlaw06.SextField", spec := "sextField", inPlace := ["math/bits.Add64", "math/bits.Sub64"], unfollowed := true, recurses := true, apart := false, narrowed := true }
def SextFieldUptoSaid : Prop := sextFieldUptoRow.holds Try.pinned (OpenSpec.upto sextFieldSpec)

/-- 'chirographlaw07.FullMuls', WHERE WHAT IT READS IS OF BULK AT MOST 1048576: true; the input reads as it did. -/
def fullMulsUptoRow : OpenClaim := { program := "ytncnnngfemhaeaa", sum := "1e4ac62ea7f620b0cb408d9ccf83c1c635c01403518de30304f485d77071684a", func := "chirograph/chirographlaw07.FullMuls", spec := "fullMuls", inPlace := ["math/bits.Add64", "math/bits.Sub64"], unfollowed := true, recurses := true, apart := false, narrowed := true }
def FullMulsUptoSaid : Prop := fullMulsUptoRow.holds Try.pinned (OpenSpec.upto fullMulsSpec)

/-- 'chirographlaw07.FullField', WHERE WHAT IT READS IS OF BULK AT MOST 1048576: true; the input reads as it did. -/
def fullFieldUptoRow : OpenClaim := { program := "ytncnnngfemhaeaa", sum := "1e4ac62ea7f620b0cb408d9ccf83c1c635c01403518de30304f485d77071684a", func := "chirograph/chirographlaw07.FullField", spec := "fullField", inPlace := ["math/bits.Add64", "math/bits.Sub64"], unfollowed := true, recurses := true, apart := false, narrowed := true }
def FullFieldUptoSaid : Prop := fullFieldUptoRow.holds Try.pinned (OpenSpec.upto fullFieldSpec)

/-- 'chirographlaw04.FpRoots', WHERE WHAT IT READS IS OF BULK AT MOST 1048576: true; the input reads as it did. -/
def fpRootsUptoRow : OpenClaim := { program := "ytncnnngfemhaeaa", sum := "1e4ac62ea7f620b0cb408d9ccf83c1c635c01403518de30304f485d77071684a", func := "chirograph/chirographlaw04.FpRoots", spec := "fpRoots", inPlace := ["math/bits.Add64", "math/bits.Sub64"], unfollowed := true, recurses := true, apart := false, narrowed := true }
def FpRootsUptoSaid : Prop := fpRootsUptoRow.holds Try.pinned (OpenSpec.upto fpRootsSpec)

/-- 'chirographlaw04.FpSquares', WHERE WHAT IT READS IS OF BULK AT MOST 1048576: true; the input reads as it did. -/
def fpSquaresUptoRow : OpenClaim := { program := "ytncnnngfemhaeaa", sum := "1e4ac62ea7f620b0cb408d9ccf83c1c635c01403518de30304f485d77071684a", func := "chirograph/chirographlaw04.FpSquares", spec := "fpSquares", inPlace := ["math/bits.Add64", "math/bits.Sub64"], unfollowed := true, recurses := true, apart := false, narrowed := true }
def FpSquaresUptoSaid : Prop := fpSquaresUptoRow.holds Try.pinned (OpenSpec.upto fpSquaresSpec)

end Rows
end Go.Proofs.Ytncnnngfemhaeaa
