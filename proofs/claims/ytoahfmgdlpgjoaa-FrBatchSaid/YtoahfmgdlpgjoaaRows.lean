/-
  No cell of these rows narrows 'for every input' (looked for: loops, veiled, ifaces, maps, wideKeys, modest, calm, conditions, laid).
  DERIVED. THE GIVEN ROWS OF THIS SEAT. 6 by the template 'for every input the law returns true; each argument reads behind the call as it read before'; 0 by the template 'total and deterministic' (their statements: YtoahfmgdlpgjoaaTotals.lean).
  GIVEN WITH THE SEED: the statements are not yours to turn. If you find one false, say at which input.
  Laid BY PROGRAM, IN A SANDBOX (cutbox-rows.mjs): the forced cells as the released guide's own fill.sh prints them over the translation ef660a405f4b7113… (all of the seat's roots in one cut). By AI agents, Wed Nov 11 2026. No macro, syntax, notation, axiom, sorry.
-/
import Derived.Test.YtoahfmgdlpgjoaaChecked
import GoSem.Claim
import GoSem.ClaimJoined
import GoSem.ClaimMapViews
import Derived.JoinedTies
import Derived.KernelRfl
namespace Go.Proofs.Ytoahfmgdlpgjoaa
/- THE CELL 'sum', in the pinned program and in every row, IS THE sha256 OF THE DUMP (.gsa) THAT YtoahfmgdlpgjoaaProg.lean LOADS. Nothing in Lean hashes anything: it is a label: what it is worth is what the hold of that sum in a sandbox is worth. -/
noncomputable def Try.pinned : Pinned := { name := "ytoahfmgdlpgjoaa", sum := "ef660a405f4b7113959835ebc8ee766d7ba4384fc28614d965a239bde26884dd", checked := Try.checked }
namespace Rows
def none {H : Type} : Left H := { results := [], args := [] }

/-- 'chirographlaw04.FpBytes': WHATEVER THE INPUT: true; the input reads as it did. -/
def fpBytesSpec : ChangeSpec := { name := "fpBytes", fn := fun _ => fun
  | [d1, d2] => { results := [.lit (.bool true)], args := [d1, d2] }
  | _ => none }
def fpBytesRow : OpenClaim := { program := "ytoahfmgdlpgjoaa", sum := "ef660a405f4b7113959835ebc8ee766d7ba4384fc28614d965a239bde26884dd", func := "chirograph/chirographlaw04.FpBytes", spec := "fpBytes", inPlace := ["math/bits.Add64", "math/bits.Sub64"], unfollowed := true, recurses := true, apart := false }
def FpBytesSaid : Prop := fpBytesRow.holds Try.pinned (OpenSpec.ofChange fpBytesSpec)

/-- ITS FALSE NEIGHBOUR: 'it returns false'. Refute it at one input. -/
def fpBytesWrong : ChangeSpec := { name := "fpBytes", fn := fun _ => fun
  | [d1, d2] => { results := [.lit (.bool false)], args := [d1, d2] }
  | _ => none }
def FpBytesWrongFalsely : Prop := fpBytesRow.holds Try.pinned (OpenSpec.ofChange fpBytesWrong)

/-- 'chirographlaw04.FpBack': WHATEVER THE INPUT: true; the input reads as it did. -/
def fpBackSpec : ChangeSpec := { name := "fpBack", fn := fun _ => fun
  | [d1, d2] => { results := [.lit (.bool true)], args := [d1, d2] }
  | _ => none }
def fpBackRow : OpenClaim := { program := "ytoahfmgdlpgjoaa", sum := "ef660a405f4b7113959835ebc8ee766d7ba4384fc28614d965a239bde26884dd", func := "chirograph/chirographlaw04.FpBack", spec := "fpBack", inPlace := ["math/bits.Add64", "math/bits.Sub64"], unfollowed := true, recurses := true, apart := false }
def FpBackSaid : Prop := fpBackRow.holds Try.pinned (OpenSpec.ofChange fpBackSpec)

/-- ITS FALSE NEIGHBOUR: 'it returns false'. Refute it at one input. -/
def fpBackWrong : ChangeSpec := { name := "fpBack", fn := fun _ => fun
  | [d1, d2] => { results := [.lit (.bool false)], args := [d1, d2] }
  | _ => none }
def FpBackWrongFalsely : Prop := fpBackRow.holds Try.pinned (OpenSpec.ofChange fpBackWrong)

/-- 'chirographlaw03.FrBytes': WHATEVER THE INPUT: true; the input reads as it did. -/
def frBytesSpec : ChangeSpec := { name := "frBytes", fn := fun _ => fun
  | [d1, d2] => { results := [.lit (.bool true)], args := [d1, d2] }
  | _ => none }
def frBytesRow : OpenClaim := { program := "ytoahfmgdlpgjoaa", sum := "ef660a405f4b7113959835ebc8ee766d7ba4384fc28614d965a239bde26884dd", func := "chirograph/chirographlaw03.FrBytes", spec := "frBytes", inPlace := ["math/bits.Add64", "math/bits.Sub64"], unfollowed := true, recurses := true, apart := false }
def FrBytesSaid : Prop := frBytesRow.holds Try.pinned (OpenSpec.ofChange frBytesSpec)

/-- ITS FALSE NEIGHBOUR: 'it returns false'. Refute it at one input. -/
def frBytesWrong : ChangeSpec := { name := "frBytes", fn := fun _ => fun
  | [d1, d2] => { results := [.lit (.bool false)], args := [d1, d2] }
  | _ => none }
def FrBytesWrongFalsely : Prop := frBytesRow.holds Try.pinned (OpenSpec.ofChange frBytesWrong)

/-- 'chirographlaw03.FrBack': WHATEVER THE INPUT: true; the input reads as it did. -/
def frBackSpec : ChangeSpec := { name := "frBack", fn := fun _ => fun
  | [d1, d2] => { results := [.lit (.bool true)], args := [d1, d2] }
  | _ => none }
def frBackRow : OpenClaim := { program := "ytoahfmgdlpgjoaa", sum := "ef660a405f4b7113959835ebc8ee766d7ba4384fc28614d965a239bde26884dd", func := "chirograph/chirographlaw03.FrBack", spec := "frBack", inPlace := ["math/bits.Add64", "math/bits.Sub64"], unfollowed := true, recurses := true, apart := false }
def FrBackSaid : Prop := frBackRow.holds Try.pinned (OpenSpec.ofChange frBackSpec)

/-- ITS FALSE NEIGHBOUR: 'it returns false'. Refute it at one input. -/
def frBackWrong : ChangeSpec := { name := "frBack", fn := fun _ => fun
  | [d1, d2] => { results := [.lit (.bool false)], args := [d1, d2] }
  | _ => none }
def FrBackWrongFalsely : Prop := frBackRow.holds Try.pinned (OpenSpec.ofChange frBackWrong)

/-- 'chirographlaw03.FrBatch': WHATEVER THE INPUT: true; the input reads as it did. -/
def frBatchSpec : ChangeSpec := { name := "frBatch", fn := fun _ => fun
  | [d] => { results := [.lit (.bool true)], args := [d] }
  | _ => none }
def frBatchRow : OpenClaim := { program := "ytoahfmgdlpgjoaa", sum := "ef660a405f4b7113959835ebc8ee766d7ba4384fc28614d965a239bde26884dd", func := "chirograph/chirographlaw03.FrBatch", spec := "frBatch", inPlace := ["math/bits.Add64", "math/bits.Sub64"], unfollowed := true, recurses := true, apart := false }
def FrBatchSaid : Prop := frBatchRow.holds Try.pinned (OpenSpec.ofChange frBatchSpec)

/-- ITS FALSE NEIGHBOUR: 'it returns false'. Refute it at one input. -/
def frBatchWrong : ChangeSpec := { name := "frBatch", fn := fun _ => fun
  | [d] => { results := [.lit (.bool false)], args := [d] }
  | _ => none }
def FrBatchWrongFalsely : Prop := frBatchRow.holds Try.pinned (OpenSpec.ofChange frBatchWrong)

/-- 'chirographlaw19.SigmaSame': WHATEVER THE INPUT: true; the input reads as it did. -/
def sigmaSameSpec : ChangeSpec := { name := "sigmaSame", fn := fun _ => fun
  | [d1, d2] => { results := [.lit (.bool true)], args := [d1, d2] }
  | _ => none }
def sigmaSameRow : OpenClaim := { program := "ytoahfmgdlpgjoaa", sum := "ef660a405f4b7113959835ebc8ee766d7ba4384fc28614d965a239bde26884dd", func := "chirograph/chirographlaw19.SigmaSame", spec := "sigmaSame", inPlace := ["math/bits.Add64", "math/bits.Sub64"], apart := false }
def SigmaSameSaid : Prop := sigmaSameRow.holds Try.pinned (OpenSpec.ofChange sigmaSameSpec)

/-- ITS FALSE NEIGHBOUR: 'it returns false'. Refute it at one input. -/
def sigmaSameWrong : ChangeSpec := { name := "sigmaSame", fn := fun _ => fun
  | [d1, d2] => { results := [.lit (.bool false)], args := [d1, d2] }
  | _ => none }
def SigmaSameWrongFalsely : Prop := sigmaSameRow.holds Try.pinned (OpenSpec.ofChange sigmaSameWrong)

/- THE SECOND FORM. 'bulk': how many values and letters a reading holds, each counted each time it is reached (what is shared counts as often as it is met; a slice's spare places count too). A statement '..UptoSaid' is the law's where the arguments, and the package variables that the reading takes, are together of bulk at most 1048576: NARROWER than '..Said'. Prove '..Said' where nothing that the law and all that it calls make is longer than what came in: it says more and counts as full. Else prove '..UptoSaid'. A law counts once. -/
mutual
def uptoBulk {H : Type} : DataW H → Nat
  | .lit (.string bytes) => bytes.length + 1
  | .lit _ => 1
  | .nil => 1
  | .ptr d => uptoBulk d + 1
  | .slice elems spare => uptoBulkAll elems + uptoBulkAll spare + 1
  | .agg parts => uptoBulkAll parts + 1
  | .iface _ d => uptoBulk d + 1
  | .map entries => uptoBulkEntries entries + 1
  | .held _ => 1
def uptoBulkAll {H : Type} : List (DataW H) → Nat
  | [] => 0
  | d :: r => uptoBulk d + uptoBulkAll r
def uptoBulkEntries {H : Type} : List (Lit × DataW H) → Nat
  | [] => 0
  | x :: r => uptoBulkEntry x + uptoBulkEntries r
def uptoBulkEntry {H : Type} : Lit × DataW H → Nat
  | (.string bytes, d) => bytes.length + uptoBulk d + 1
  | (_, d) => uptoBulk d + 1
 end
def uptoSmall : (H : Type) → List (DataW H) → Bool := fun _ ds => decide (uptoBulkAll ds ≤ 1048576)
def OpenSpec.upto (s : _root_.Go.ChangeSpec) : _root_.Go.OpenSpec := { _root_.Go.OpenSpec.ofChange s with cond := some uptoSmall }

/-- 'chirographlaw04.FpBytes', WHERE WHAT IT READS IS OF BULK AT MOST 1048576: true; the input reads as it did. -/
def fpBytesUptoRow : OpenClaim := { program := "ytoahfmgdlpgjoaa", sum := "ef660a405f4b7113959835ebc8ee766d7ba4384fc28614d965a239bde26884dd", func := "chirograph/chirographlaw04.FpBytes", spec := "fpBytes", inPlace := ["math/bits.Add64", "math/bits.Sub64"], unfollowed := true, recurses := true, apart := false, narrowed := true }
def FpBytesUptoSaid : Prop := fpBytesUptoRow.holds Try.pinned (OpenSpec.upto fpBytesSpec)

/-- 'chirographlaw04.FpBack', WHERE WHAT IT READS IS OF BULK AT MOST 1048576: true; the input reads as it did. -/
def fpBackUptoRow : OpenClaim := { program := "ytoahfmgdlpgjoaa", sum := "ef660a405f4b7113959835ebc8ee766d7ba4384fc28614d965a239bde26884dd", func := "chirograph/chirographlaw04.FpBack", spec := "fpBack", inPlace := ["math/bits.Add64", "math/bits.Sub64"], unfollowed := true, recurses := true, apart := false, narrowed := true }
def FpBackUptoSaid : Prop := fpBackUptoRow.holds Try.pinned (OpenSpec.upto fpBackSpec)

/-- 'chirographlaw03.FrBytes', WHERE WHAT IT READS IS OF BULK AT MOST 1048576: true; the input reads as it did. -/
def frBytesUptoRow : OpenClaim := { program := "ytoahfmgdlpgjoaa", sum := "ef660a405f4b7113959835ebc8ee766d7ba4384fc28614d965a239bde26884dd", func := "chirograph/chirographlaw03.FrBytes", spec := "frBytes", inPlace := ["math/bits.Add64", "math/bits.Sub64"], unfollowed := true, recurses := true, apart := false, narrowed := true }
def FrBytesUptoSaid : Prop := frBytesUptoRow.holds Try.pinned (OpenSpec.upto frBytesSpec)

/-- 'chirographlaw03.FrBack', WHERE WHAT IT READS IS OF BULK AT MOST 1048576: true; the input reads as it did. -/
def frBackUptoRow : OpenClaim := { program := "ytoahfmgdlpgjoaa", sum := "ef660a405f4b7113959835ebc8ee766d7ba4384fc28614d965a239bde26884dd", func := "chirograph/chirographlaw03.FrBack", spec := "frBack", inPlace := ["math/bits.Add64", "math/bits.Sub64"], unfollowed := true, recurses := true, apart := false, narrowed := true }
def FrBackUptoSaid : Prop := frBackUptoRow.holds Try.pinned (OpenSpec.upto frBackSpec)

/-- 'chirographlaw03.FrBatch', WHERE WHAT IT READS IS OF BULK AT MOST 1048576: true; the input reads as it did. -/
def frBatchUptoRow : OpenClaim := { program := "ytoahfmgdlpgjoaa", sum := "ef660a405f4b7113959835ebc8ee766d7ba4384fc28614d965a239bde26884dd", func := "chirograph/chirographlaw03.FrBatch", spec := "frBatch", inPlace := ["math/bits.Add64", "math/bits.Sub64"], unfollowed := true, recurses := true, apart := false, narrowed := true }
def FrBatchUptoSaid : Prop := frBatchUptoRow.holds Try.pinned (OpenSpec.upto frBatchSpec)

/-- 'chirographlaw19.SigmaSame', WHERE WHAT IT READS IS OF BULK AT MOST 1048576: true; the input reads as it did. -/
def sigmaSameUptoRow : OpenClaim := { program := "ytoahfmgdlpgjoaa", sum := "ef660a405f4b7113959835ebc8ee766d7ba4384fc28614d965a239bde26884dd", func := "chirograph/chirographlaw19.SigmaSame", spec := "sigmaSame", inPlace := ["math/bits.Add64", "math/bits.Sub64"], apart := false, narrowed := true }
def SigmaSameUptoSaid : Prop := sigmaSameUptoRow.holds Try.pinned (OpenSpec.upto sigmaSameSpec)

end Rows
end Go.Proofs.Ytoahfmgdlpgjoaa
