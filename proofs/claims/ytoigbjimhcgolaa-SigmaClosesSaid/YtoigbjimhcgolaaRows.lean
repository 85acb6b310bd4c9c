/-
  No cell of these rows narrows 'for every input' (looked for: loops, veiled, ifaces, maps, wideKeys, modest, calm, conditions, laid).
  DERIVED. THE GIVEN ROWS OF THIS SEAT. 4 by the template 'for every input the law returns true; each argument reads behind the call as it read before'; 0 by the template 'total and deterministic' (their statements: YtoigbjimhcgolaaTotals.lean).
  GIVEN WITH THE SEED: the statements are not yours to turn. If you find one false, say at which input.
  Laid BY PROGRAM, IN A SANDBOX (cutbox-rows.mjs): the forced cells as the released guide's own fill.sh prints them over the translation d08464da85667b2e… (all of the seat's roots in one cut). By AI agents, Wed Nov 11 2026. No macro, syntax, notation, axiom, sorry.
-/
import Derived.Test.YtoigbjimhcgolaaChecked
import GoSem.Claim
import GoSem.ClaimJoined
import GoSem.ClaimMapViews
import Derived.JoinedTies
import Derived.KernelRfl
namespace Go.Proofs.Ytoigbjimhcgolaa
/- THE CELL 'sum', in the pinned program and in every row, IS THE sha256 OF THE DUMP (.gsa) THAT YtoigbjimhcgolaaProg.lean LOADS. Nothing in Lean hashes anything: it is a label: what it is worth is what the hold of that sum in a sandbox is worth. -/
noncomputable def Try.pinned : Pinned := { name := "ytoigbjimhcgolaa", sum := "d08464da85667b2efd39ab3e95cbac5ca7ff16937c952ada97dbba81a2a67876", checked := Try.checked }
namespace Rows
def none {H : Type} : Left H := { results := [], args := [] }

/-- 'chirographlaw19.SigmaNext': WHATEVER THE INPUT: true; the input reads as it did. -/
def sigmaNextSpec : ChangeSpec := { name := "sigmaNext", fn := fun _ => fun
  | [d1, d2] => { results := [.lit (.bool true)], args := [d1, d2] }
  | _ => none }
def sigmaNextRow : OpenClaim := { program := "ytoigbjimhcgolaa", sum := "d08464da85667b2efd39ab3e95cbac5ca7ff16937c952ada97dbba81a2a67876", func := "chirograph/chirographlaw19.SigmaNext", spec := "sigmaNext", inPlace := ["math/bits.Add64", "math/bits.Sub64"], unfollowed := true, recurses := true, plainKeys := false, apart := false }
def SigmaNextSaid : Prop := sigmaNextRow.holds Try.pinned (OpenSpec.ofChange sigmaNextSpec)

/-- ITS FALSE NEIGHBOUR: 'it returns false'. Refute it at one input. -/
def sigmaNextWrong : ChangeSpec := { name := "sigmaNext", fn := fun _ => fun
  | [d1, d2] => { results := [.lit (.bool false)], args := [d1, d2] }
  | _ => none }
def SigmaNextWrongFalsely : Prop := sigmaNextRow.holds Try.pinned (OpenSpec.ofChange sigmaNextWrong)

/-- 'chirographlaw19.SigmaTurns': WHATEVER THE INPUT: true; the input reads as it did. -/
def sigmaTurnsSpec : ChangeSpec := { name := "sigmaTurns", fn := fun _ => fun
  | [d1, d2] => { results := [.lit (.bool true)], args := [d1, d2] }
  | _ => none }
def sigmaTurnsRow : OpenClaim := { program := "ytoigbjimhcgolaa", sum := "d08464da85667b2efd39ab3e95cbac5ca7ff16937c952ada97dbba81a2a67876", func := "chirograph/chirographlaw19.SigmaTurns", spec := "sigmaTurns", inPlace := ["math/bits.Add64", "math/bits.Sub64"], unfollowed := true, recurses := true, plainKeys := false, apart := false }
def SigmaTurnsSaid : Prop := sigmaTurnsRow.holds Try.pinned (OpenSpec.ofChange sigmaTurnsSpec)

/-- ITS FALSE NEIGHBOUR: 'it returns false'. Refute it at one input. -/
def sigmaTurnsWrong : ChangeSpec := { name := "sigmaTurns", fn := fun _ => fun
  | [d1, d2] => { results := [.lit (.bool false)], args := [d1, d2] }
  | _ => none }
def SigmaTurnsWrongFalsely : Prop := sigmaTurnsRow.holds Try.pinned (OpenSpec.ofChange sigmaTurnsWrong)

/-- 'chirographlaw19.SigmaGrand': WHATEVER THE INPUT: true; the input reads as it did. -/
def sigmaGrandSpec : ChangeSpec := { name := "sigmaGrand", fn := fun _ => fun
  | [d1, d2, d3, d4, d5] => { results := [.lit (.bool true)], args := [d1, d2, d3, d4, d5] }
  | _ => none }
def sigmaGrandRow : OpenClaim := { program := "ytoigbjimhcgolaa", sum := "d08464da85667b2efd39ab3e95cbac5ca7ff16937c952ada97dbba81a2a67876", func := "chirograph/chirographlaw19.SigmaGrand", spec := "sigmaGrand", inPlace := ["math/bits.Add64", "math/bits.Sub64"], unfollowed := true, recurses := true, plainKeys := false, apart := false }
def SigmaGrandSaid : Prop := sigmaGrandRow.holds Try.pinned (OpenSpec.ofChange sigmaGrandSpec)

/-- ITS FALSE NEIGHBOUR: 'it returns false'. Refute it at one input. -/
def sigmaGrandWrong : ChangeSpec := { name := "sigmaGrand", fn := fun _ => fun
  | [d1, d2, d3, d4, d5] => { results := [.lit (.bool false)], args := [d1, d2, d3, d4, d5] }
  | _ => none }
def SigmaGrandWrongFalsely : Prop := sigmaGrandRow.holds Try.pinned (OpenSpec.ofChange sigmaGrandWrong)

/-- 'chirographlaw19.SigmaCloses': WHATEVER THE INPUT: true; the input reads as it did. -/
def sigmaClosesSpec : ChangeSpec := { name := "sigmaCloses", fn := fun _ => fun
  | [d1, d2, d3, d4, d5] => { results := [.lit (.bool true)], args := [d1, d2, d3, d4, d5] }
  | _ => none }
def sigmaClosesRow : OpenClaim := { program := "ytoigbjimhcgolaa", sum := "d08464da85667b2efd39ab3e95cbac5ca7ff16937c952ada97dbba81a2a67876", func := "chirograph/chirographlaw19.SigmaCloses", spec := "sigmaCloses", inPlace := ["math/bits.Add64", "math/bits.Sub64"], unfollowed := true, recurses := true, plainKeys := false, apart := false }
def SigmaClosesSaid : Prop := sigmaClosesRow.holds Try.pinned (OpenSpec.ofChange sigmaClosesSpec)

/-- ITS FALSE NEIGHBOUR: 'it returns false'. Refute it at one input. -/
def sigmaClosesWrong : ChangeSpec := { name := "sigmaCloses", fn := fun _ => fun
  | [d1, d2, d3, d4, d5] => { results := [.lit (.bool false)], args := [d1, d2, d3, d4, d5] }
  | _ => none }
def SigmaClosesWrongFalsely : Prop := sigmaClosesRow.holds Try.pinned (OpenSpec.ofChange sigmaClosesWrong)

/- THE SECOND FORM. 'bulk': how many values and letters a reading holds, each counted each time it is reached (what is shared counts as often as it is met; a slice's spare places count too). A statement '..UptoSaid' is the law's where the arguments, and the package variables that the reading takes, are together of bulk at most 1048576: NARROWER than '..Said'. Prove '..Said' where nothing that the law and all that it calls make is longer than what came in: it says more and counts as full. Else prove '..UptoSaid'. A law counts once. -/
mutual
def uptoBulk {H : Type} : DataW H → Nat
  | .lit (.string bytes) => bytes.length + 1
  | .lit _ => 1
  | .nil => 1
  | .ptr d => uptoBulk d + 1
  | .slice elems spare => uptoBulkAll elems + uptoBulkAll spare + 1
  | .agg parts => uptoBulkAll parts + 1
  | .iface _ d => uptoBulk d + 1
  | .map entries => uptoBulkEntries entries + 1
  | .held _ => 1
def uptoBulkAll {H : Type} : List (DataW H) → Nat
  | [] => 0
  | d :: r => uptoBulk d + uptoBulkAll r
def uptoBulkEntries {H : Type} : List (Lit × DataW H) → Nat
  | [] => 0
  | x :: r => uptoBulkEntry x + uptoBulkEntries r
def uptoBulkEntry {H : Type} : Lit × DataW H → Nat
  | (.string bytes, d) => bytes.length + uptoBulk d + 1
  | (_, d) => uptoBulk d + 1
 end
def uptoSmall : (H : Type) → List (DataW H) → Bool := fun _ ds => decide (uptoBulkAll ds ≤ 1048576)
def OpenSpec.upto (s : _root_.Go.ChangeSpec) : _root_.Go.OpenSpec := { _root_.Go.OpenSpec.ofChange s with cond := some uptoSmall }

/-- 'chirographlaw19.SigmaNext', WHERE WHAT IT READS IS OF BULK AT MOST 1048576: true; the input reads as it did. -/
def sigmaNextUptoRow : OpenClaim := { program := "ytoigbjimhcgolaa", sum := "d08464da85667b2efd39ab3e95cbac5ca7ff16937c952ada97dbba81a2a67876", func := "chirograph/chirographlaw19.SigmaNext", spec := "sigmaNext", inPlace := ["math/bits.Add64", "math/bits.Sub64"], unfollowed := true, recurses := true, plainKeys := false, apart := false, narrowed := true }
def SigmaNextUptoSaid : Prop := sigmaNextUptoRow.holds Try.pinned (OpenSpec.upto sigmaNextSpec)

/-- 'chirographlaw19.SigmaTurns', WHERE WHAT IT READS IS OF BULK AT MOST 1048576: true; the input reads as it did. -/
def sigmaTurnsUptoRow : OpenClaim := { program := "ytoigbjimhcgolaa", sum := "d08464da85667b2efd39ab3e95cbac5ca7ff16937c952ada97dbba81a2a67876", func := "chirograph/chirographlaw19.SigmaTurns", spec := "sigmaTurns", inPlace := ["math/bits.Add64", "math/bits.Sub64"], unfollowed := true, recurses := true, plainKeys := false, apart := false, narrowed := true }
def SigmaTurnsUptoSaid : Prop := sigmaTurnsUptoRow.holds Try.pinned (OpenSpec.upto sigmaTurnsSpec)

/-- 'chirographlaw19.SigmaGrand', WHERE WHAT IT READS IS OF BULK AT MOST 1048576: true; the input reads as it did. -/
def sigmaGrandUptoRow : OpenClaim := { program := "ytoigbjimhcgolaa", sum := "d08464da85667b2efd39ab3e95cbac5ca7ff16937c952ada97dbba81a2a67876", func := "chirograph/chirographlaw19.SigmaGrand", spec := "sigmaGrand", inPlace := ["math/bits.Add64", "math/bits.Sub64"], unfollowed := true, recurses := true, plainKeys := false, apart := false, narrowed := true }
def SigmaGrandUptoSaid : Prop := sigmaGrandUptoRow.holds Try.pinned (OpenSpec.upto sigmaGrandSpec)

/-- 'chirographlaw19.SigmaCloses', WHERE WHAT IT READS IS OF BULK AT MOST 1048576: true; the input reads as it did. -/
def sigmaClosesUptoRow : OpenClaim := { program := "ytoigbjimhcgolaa", sum := "d08464da85667b2efd39ab3e95cbac5ca7ff16937c952ada97dbba81a2a67876", func := "chirograph/chirographlaw19.SigmaCloses", spec := "sigmaCloses", inPlace := ["math/bits.Add64", "math/bits.Sub64"], unfollowed := true, recurses := true, plainKeys := false, apart := false, narrowed := true }
def SigmaClosesUptoSaid : Prop := sigmaClosesUptoRow.holds Try.pinned (OpenSpec.upto sigmaClosesSpec)

end Rows
end Go.Proofs.Ytoigbjimhcgolaa
