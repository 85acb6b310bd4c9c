/-
  No cell of these rows narrows 'for every input' (looked for: loops, veiled, ifaces, maps, wideKeys, modest, calm, conditions, laid).
  DERIVED. THE GIVEN ROWS OF THIS SEAT. 11 by the template 'for every input the law returns true; each argument reads behind the call as it read before'; 0 by the template 'total and deterministic' (their statements: YtjhnoekljlldmaaTotals.lean).
  GIVEN WITH THE SEED: the statements are not yours to turn. If you find one false, say at which input.
  Laid BY PROGRAM, IN A SANDBOX (cutbox-rows.mjs): the forced cells as the released guide's own fill.sh prints them over the translation 19fae0e9555dfb28… (all of the seat's roots in one cut). By AI agents, Wed Nov 11 2026. No macro, syntax, notation, axiom, sorry.
-/
import Derived.Test.YtjhnoekljlldmaaChecked
import GoSem.Claim
import GoSem.ClaimJoined
import GoSem.ClaimMapViews
import Derived.JoinedTies
import Derived.KernelRfl
namespace Go.Proofs.Ytjhnoekljlldmaa
/- THE CELL 'sum', in the pinned program and in every row, IS THE sha256 OF THE DUMP (.gsa) THAT YtjhnoekljlldmaaProg.lean LOADS. Nothing in Lean hashes anything: it is a label: what it is worth is what the hold of that sum in a sandbox is worth. -/
noncomputable def Try.pinned : Pinned := { name := "ytjhnoekljlldmaa", sum := "19fae0e9555dfb2866919ded692fbe1d553d54a3e14b268254454343ca5932aa", checked := Try.checked }
namespace Rows
def none {H : Type} : Left H := { results := [], args := [] }

/-- 'chirographlaw19.SigmaShifts': WHATEVER THE INPUT: true; the input reads as it did. -/
def sigmaShiftsSpec : ChangeSpec := { name := "sigmaShifts", fn := fun _ => fun
  | [d] => { results := [.lit (.bool true)], args := [d] }
  | _ => none }
def sigmaShiftsRow : OpenClaim := { program := "ytjhnoekljlldmaa", sum := "19fae0e9555dfb2866919ded692fbe1d553d54a3e14b268254454343ca5932aa", func := "chirograph/chirographlaw19.SigmaShifts", spec := "sigmaShifts", inPlace := ["math/bits.Add64", "math/bits.Sub64"], apart := false }
def SigmaShiftsSaid : Prop := sigmaShiftsRow.holds Try.pinned (OpenSpec.ofChange sigmaShiftsSpec)

/-- ITS FALSE NEIGHBOUR: 'it returns false'. Refute it at one input. -/
def sigmaShiftsWrong : ChangeSpec := { name := "sigmaShifts", fn := fun _ => fun
  | [d] => { results := [.lit (.bool false)], args := [d] }
  | _ => none }
def SigmaShiftsWrongFalsely : Prop := sigmaShiftsRow.holds Try.pinned (OpenSpec.ofChange sigmaShiftsWrong)

/-- 'chirographlaw03.FrAdds': WHATEVER THE INPUT: true; the input reads as it did. -/
def frAddsSpec : ChangeSpec := { name := "frAdds", fn := fun _ => fun
  | [d1, d2] => { results := [.lit (.bool true)], args := [d1, d2] }
  | _ => none }
def frAddsRow : OpenClaim := { program := "ytjhnoekljlldmaa", sum := "19fae0e9555dfb2866919ded692fbe1d553d54a3e14b268254454343ca5932aa", func := "chirograph/chirographlaw03.FrAdds", spec := "frAdds", inPlace := ["math/bits.Add64", "math/bits.Sub64"], apart := false }
def FrAddsSaid : Prop := frAddsRow.holds Try.pinned (OpenSpec.ofChange frAddsSpec)

/-- ITS FALSE NEIGHBOUR: 'it returns false'. Refute it at one input. -/
def frAddsWrong : ChangeSpec := { name := "frAdds", fn := fun _ => fun
  | [d1, d2] => { results := [.lit (.bool false)], args := [d1, d2] }
  | _ => none }
def FrAddsWrongFalsely : Prop := frAddsRow.holds Try.pinned (OpenSpec.ofChange frAddsWrong)

/-- 'chirographlaw19.SigmaSame': WHATEVER THE INPUT: true; the input reads as it did. -/
def sigmaSameSpec : ChangeSpec := { name := "sigmaSame", fn := fun _ => fun
  | [d1, d2] => { results := [.lit (.bool true)], args := [d1, d2] }
  | _ => none }
def sigmaSameRow : OpenClaim := { program := "ytjhnoekljlldmaa", sum := "19fae0e9555dfb2866919ded692fbe1d553d54a3e14b268254454343ca5932aa", func := "chirograph/chirographlaw19.SigmaSame", spec := "sigmaSame", inPlace := ["math/bits.Add64", "math/bits.Sub64"], apart := false }
def SigmaSameSaid : Prop := sigmaSameRow.holds Try.pinned (OpenSpec.ofChange sigmaSameSpec)

/-- ITS FALSE NEIGHBOUR: 'it returns false'. Refute it at one input. -/
def sigmaSameWrong : ChangeSpec := { name := "sigmaSame", fn := fun _ => fun
  | [d1, d2] => { results := [.lit (.bool false)], args := [d1, d2] }
  | _ => none }
def SigmaSameWrongFalsely : Prop := sigmaSameRow.holds Try.pinned (OpenSpec.ofChange sigmaSameWrong)

/-- 'chirographlaw03.FrRights': WHATEVER THE INPUT: true; the input reads as it did. -/
def frRightsSpec : ChangeSpec := { name := "frRights", fn := fun _ => fun
  | [d1, d2] => { results := [.lit (.bool true)], args := [d1, d2] }
  | _ => none }
def frRightsRow : OpenClaim := { program := "ytjhnoekljlldmaa", sum := "19fae0e9555dfb2866919ded692fbe1d553d54a3e14b268254454343ca5932aa", func := "chirograph/chirographlaw03.FrRights", spec := "frRights", inPlace := ["math/bits.Add64", "math/bits.Sub64"], apart := false }
def FrRightsSaid : Prop := frRightsRow.holds Try.pinned (OpenSpec.ofChange frRightsSpec)

/-- ITS FALSE NEIGHBOUR: 'it returns false'. Refute it at one input. -/
def frRightsWrong : ChangeSpec := { name := "frRights", fn := fun _ => fun
  | [d1, d2] => { results := [.lit (.bool false)], args := [d1, d2] }
  | _ => none }
def FrRightsWrongFalsely : Prop := frRightsRow.holds Try.pinned (OpenSpec.ofChange frRightsWrong)

/-- 'chirographlaw03.FrBytes': WHATEVER THE INPUT: true; the input reads as it did. -/
def frBytesSpec : ChangeSpec := { name := "frBytes", fn := fun _ => fun
  | [d1, d2] => { results := [.lit (.bool true)], args := [d1, d2] }
  | _ => none }
def frBytesRow : OpenClaim := { program := "ytjhnoekljlldmaa", sum := "19fae0e9555dfb2866919ded692fbe1d553d54a3e14b268254454343ca5932aa", func := "chirograph/chirographlaw03.FrBytes", spec := "frBytes", inPlace := ["math/bits.Add64", "math/bits.Sub64"], unfollowed := true, recurses := true, apart := false }
def FrBytesSaid : Prop := frBytesRow.holds Try.pinned (OpenSpec.ofChange frBytesSpec)

/-- ITS FALSE NEIGHBOUR: 'it returns false'. Refute it at one input. -/
def frBytesWrong : ChangeSpec := { name := "frBytes", fn := fun _ => fun
  | [d1, d2] => { results := [.lit (.bool false)], args := [d1, d2] }
  | _ => none }
def FrBytesWrongFalsely : Prop := frBytesRow.holds Try.pinned (OpenSpec.ofChange frBytesWrong)

/-- 'chirographlaw03.FrBack': WHATEVER THE INPUT: true; the input reads as it did. -/
def frBackSpec : ChangeSpec := { name := "frBack", fn := fun _ => fun
  | [d1, d2] => { results := [.lit (.bool true)], args := [d1, d2] }
  | _ => none }
def frBackRow : OpenClaim := { program := "ytjhnoekljlldmaa", sum := "19fae0e9555dfb2866919ded692fbe1d553d54a3e14b268254454343ca5932aa", func := "chirograph/chirographlaw03.FrBack", spec := "frBack", inPlace := ["math/bits.Add64", "math/bits.Sub64"], unfollowed := true, recurses := true, apart := false }
def FrBackSaid : Prop := frBackRow.holds Try.pinned (OpenSpec.ofChange frBackSpec)

/-- ITS FALSE NEIGHBOUR: 'it returns false'. Refute it at one input. -/
def frBackWrong : ChangeSpec := { name := "frBack", fn := fun _ => fun
  | [d1, d2] => { results := [.lit (.bool false)], args := [d1, d2] }
  | _ => none }
def FrBackWrongFalsely : Prop := frBackRow.holds Try.pinned (OpenSpec.ofChange frBackWrong)

/-- 'chirographlaw03.FrPows': WHATEVER THE INPUT: true; the input reads as it did. -/
def frPowsSpec : ChangeSpec := { name := "frPows", fn := fun _ => fun
  | [d1, d2] => { results := [.lit (.bool true)], args := [d1, d2] }
  | _ => none }
def frPowsRow : OpenClaim := { program := "ytjhnoekljlldmaa", sum := "19fae0e9555dfb2866919ded692fbe1d553d54a3e14b268254454343ca5932aa", func := "chirograph/chirographlaw03.FrPows", spec := "frPows", inPlace := ["math/bits.Add64", "math/bits.Sub64"], unfollowed := true, recurses := true, apart := false }
def FrPowsSaid : Prop := frPowsRow.holds Try.pinned (OpenSpec.ofChange frPowsSpec)

/-- ITS FALSE NEIGHBOUR: 'it returns false'. Refute it at one input. -/
def frPowsWrong : ChangeSpec := { name := "frPows", fn := fun _ => fun
  | [d1, d2] => { results := [.lit (.bool false)], args := [d1, d2] }
  | _ => none }
def FrPowsWrongFalsely : Prop := frPowsRow.holds Try.pinned (OpenSpec.ofChange frPowsWrong)

/-- 'chirographlaw03.FrPowers': WHATEVER THE INPUT: true; the input reads as it did. -/
def frPowersSpec : ChangeSpec := { name := "frPowers", fn := fun _ => fun
  | [d1, d2, d3] => { results := [.lit (.bool true)], args := [d1, d2, d3] }
  | _ => none }
def frPowersRow : OpenClaim := { program := "ytjhnoekljlldmaa", sum := "19fae0e9555dfb2866919ded692fbe1d553d54a3e14b268254454343ca5932aa", func := "chirograph/chirographlaw03.FrPowers", spec := "frPowers", inPlace := ["math/bits.Add64", "math/bits.Sub64"], unfollowed := true, recurses := true, apart := false }
def FrPowersSaid : Prop := frPowersRow.holds Try.pinned (OpenSpec.ofChange frPowersSpec)

/-- ITS FALSE NEIGHBOUR: 'it returns false'. Refute it at one input. -/
def frPowersWrong : ChangeSpec := { name := "frPowers", fn := fun _ => fun
  | [d1, d2, d3] => { results := [.lit (.bool false)], args := [d1, d2, d3] }
  | _ => none }
def FrPowersWrongFalsely : Prop := frPowersRow.holds Try.pinned (OpenSpec.ofChange frPowersWrong)

/-- 'chirographlaw03.FrMuls': WHATEVER THE INPUT: true; the input reads as it did. -/
def frMulsSpec : ChangeSpec := { name := "frMuls", fn := fun _ => fun
  | [d1, d2] => { results := [.lit (.bool true)], args := [d1, d2] }
  | _ => none }
def frMulsRow : OpenClaim := { program := "ytjhnoekljlldmaa", sum := "19fae0e9555dfb2866919ded692fbe1d553d54a3e14b268254454343ca5932aa", func := "chirograph/chirographlaw03.FrMuls", spec := "frMuls", inPlace := ["math/bits.Add64", "math/bits.Sub64"], unfollowed := true, recurses := true, apart := false }
def FrMulsSaid : Prop := frMulsRow.holds Try.pinned (OpenSpec.ofChange frMulsSpec)

/-- ITS FALSE NEIGHBOUR: 'it returns false'. Refute it at one input. -/
def frMulsWrong : ChangeSpec := { name := "frMuls", fn := fun _ => fun
  | [d1, d2] => { results := [.lit (.bool false)], args := [d1, d2] }
  | _ => none }
def FrMulsWrongFalsely : Prop := frMulsRow.holds Try.pinned (OpenSpec.ofChange frMulsWrong)

/-- 'chirographlaw03.FrField': WHATEVER THE INPUT: true; the input reads as it did. -/
def frFieldSpec : ChangeSpec := { name := "frField", fn := fun _ => fun
  | [d1, d2, d3] => { results := [.lit (.bool true)], args := [d1, d2, d3] }
  | _ => none }
def frFieldRow : OpenClaim := { program := "ytjhnoekljlldmaa", sum := "19fae0e9555dfb2866919ded692fbe1d553d54a3e14b268254454343ca5932aa", func := "chirograph/chirographlaw03.FrField", spec := "frField", inPlace := ["math/bits.Add64", "math/bits.Sub64"], unfollowed := true, recurses := true, apart := false }
def FrFieldSaid : Prop := frFieldRow.holds Try.pinned (OpenSpec.ofChange frFieldSpec)

/-- ITS FALSE NEIGHBOUR: 'it returns false'. Refute it at one input. -/
def frFieldWrong : ChangeSpec := { name := "frField", fn := fun _ => fun
  | [d1, d2, d3] => { results := [.lit (.bool false)], args := [d1, d2, d3] }
  | _ => none }
def FrFieldWrongFalsely : Prop := frFieldRow.holds Try.pinned (OpenSpec.ofChange frFieldWrong)

/-- 'chirographlaw03.FrBatch': WHATEVER THE INPUT: true; the input reads as it did. -/
def frBatchSpec : ChangeSpec := { name := "frBatch", fn := fun _ => fun
  | [d] => { results := [.lit (.bool true)], args := [d] }
  | _ => none }
def frBatchRow : OpenClaim := { program := "ytjhnoekljlldmaa", sum := "19fae0e9555dfb2866919ded692fbe1d553d54a3e14b268254454343ca5932aa", func := "chirograph/chirographlaw03.FrBatch", spec := "frBatch", inPlace := ["math/bits.Add64", "math/bits.Sub64"], unfollowed := true, recurses := true, apart := false }
def FrBatchSaid : Prop := frBatchRow.holds Try.pinned (OpenSpec.ofChange frBatchSpec)

/-- ITS FALSE NEIGHBOUR: 'it returns false'. Refute it at one input. -/
def frBatchWrong : ChangeSpec := { name := "frBatch", fn := fun _ => fun
  | [d] => { results := [.lit (.bool false)], args := [d] }
  | _ => none }
def FrBatchWrongFalsely : Prop := frBatchRow.holds Try.pinned (OpenSpec.ofChange frBatchWrong)

/- THE SECOND FORM. 'bulk': how many values and letters a reading holds, each counted each time it is reached (what is shared counts as often as it is met; a slice's spare places count too). A statement '..UptoSaid' is the law's where the arguments, and the package variables that the reading takes, are together of bulk at most 1048576: NARROWER than '..Said'. Prove '..Said' where nothing that the law and all that it calls make is longer than what came in: it says more and counts as full. Else prove '..UptoSaid'. A law counts once. -/
mutual
def uptoBulk {H : Type} : DataW H → Nat
  | .lit (.string bytes) => bytes.length + 1
  | .lit _ => 1
  | .nil => 1
  | .ptr d => uptoBulk d + 1
  | .slice elems spare => uptoBulkAll elems + uptoBulkAll spare + 1
  | .agg parts => uptoBulkAll parts + 1
  | .iface _ d => uptoBulk d + 1
  | .map entries => uptoBulkEntries entries + 1
  | .held _ => 1
def uptoBulkAll {H : Type} : List (DataW H) → Nat
  | [] => 0
  | d :: r => uptoBulk d + uptoBulkAll r
def uptoBulkEntries {H : Type} : List (Lit × DataW H) → Nat
  | [] => 0
  | x :: r => uptoBulkEntry x + uptoBulkEntries r
def uptoBulkEntry {H : Type} : Lit × DataW H → Nat
  | (.string bytes, d) => bytes.length + uptoBulk d + 1
  | (_, d) => uptoBulk d + 1
 end
def uptoSmall : (H : Type) → List (DataW H) → Bool := fun _ ds => decide (uptoBulkAll ds ≤ 1048576)
def OpenSpec.upto (s : _root_.Go.ChangeSpec) : _root_.Go.OpenSpec := { _root_.Go.OpenSpec.ofChange s with cond := some uptoSmall }

/-- 'chirographlaw19.SigmaShifts', WHERE WHAT IT READS IS OF BULK AT MOST 1048576: true; the input reads as it did. -/
def sigmaShiftsUptoRow : OpenClaim := { program := "ytjhnoekljlldmaa", sum := "19fae0e9555dfb2866919ded692fbe1d553d54a3e14b268254454343ca5932aa", func := "chirograph/chirographlaw19.SigmaShifts", spec := "sigmaShifts", inPlace := ["math/bits.Add64", "math/bits.Sub64"], apart := false, narrowed := true }
def SigmaShiftsUptoSaid : Prop := sigmaShiftsUptoRow.holds Try.pinned (OpenSpec.upto sigmaShiftsSpec)

/-- 'chirographlaw03.FrAdds', WHERE WHAT IT READS IS OF BULK AT MOST 1048576: true; the input reads as it did. -/
def frAddsUptoRow : OpenClaim := { program := "ytjhnoekljlldmaa", sum := "19fae0e9555dfb2866919ded692fbe1d553d54a3e14b268254454343ca5932aa", func := "chirograph/chirographlaw03.FrAdds", spec := "frAdds", inPlace := ["math/bits.Add64", "math/bits.Sub64"], apart := false, narrowed := true }
def FrAddsUptoSaid : Prop := frAddsUptoRow.holds Try.pinned (OpenSpec.upto frAddsSpec)

/-- 'chirographlaw19.SigmaSame', WHERE WHAT IT READS IS OF BULK AT MOST 1048576: true; the input reads as it did. -/
def sigmaSameUptoRow : OpenClaim := { program := "ytjhnoekljlldmaa", sum := "19fae0e9555dfb2866919ded692fbe1d553d54a3e14b268254454343ca5932aa", func := "chirograph/chirographlaw19.SigmaSame", spec := "sigmaSame", inPlace := ["math/bits.Add64", "math/bits.Sub64"], apart := false, narrowed := true }
def SigmaSameUptoSaid : Prop := sigmaSameUptoRow.holds Try.pinned (OpenSpec.upto sigmaSameSpec)

/-- 'chirographlaw03.FrRights', WHERE WHAT IT READS IS OF BULK AT MOST 1048576: true; the input reads as it did. -/
def frRightsUptoRow : OpenClaim := { program := "ytjhnoekljlldmaa", sum := "19fae0e9555dfb2866919ded692fbe1d553d54a3e14b268254454343ca5932aa", func := "chirograph/chirographlaw03.FrRights", spec := "frRights", inPlace := ["math/bits.Add64", "math/bits.Sub64"], apart := false, narrowed := true }
def FrRightsUptoSaid : Prop := frRightsUptoRow.holds Try.pinned (OpenSpec.upto frRightsSpec)

/-- 'chirographlaw03.FrBytes', WHERE WHAT IT READS IS OF BULK AT MOST 1048576: true; the input reads as it did. -/
def frBytesUptoRow : OpenClaim := { program := "ytjhnoekljlldmaa", sum := "19fae0e9555dfb2866919ded692fbe1d553d54a3e14b268254454343ca5932aa", func := "chirograph/chirographlaw03.FrBytes", spec := "frBytes", inPlace := ["math/bits.Add64", "math/bits.Sub64"], unfollowed := true, recurses := true, apart := false, narrowed := true }
def FrBytesUptoSaid : Prop := frBytesUptoRow.holds Try.pinned (OpenSpec.upto frBytesSpec)

/-- 'chirographlaw03.FrBack', WHERE WHAT IT READS IS OF BULK AT MOST 1048576: true; the input reads as it did. -/
def frBackUptoRow : OpenClaim := { program := "ytjhnoekljlldmaa", sum := "19fae0e9555dfb2866919ded692fbe1d553d54a3e14b268254454343ca5932aa", func := "chirograph/chirographlaw03.FrBack", spec := "frBack", inPlace := ["math/bits.Add64", "math/bits.Sub64"], unfollowed := true, recurses := true, apart := false, narrowed := true }
def FrBackUptoSaid : Prop := frBackUptoRow.holds Try.pinned (OpenSpec.upto frBackSpec)

/-- 'chirographlaw03.FrPows', WHERE WHAT IT READS IS OF BULK AT MOST 1048576: true; the input reads as it did. -/
def frPowsUptoRow : OpenClaim := { program := "ytjhnoekljlldmaa", sum := "19fae0e9555dfb2866919ded692fbe1d553d54a3e14b268254454343ca5932aa", func := "chirograph/chirographlaw03.FrPows", spec := "frPows", inPlace := ["math/bits.Add64", "math/bits.Sub64"], unfollowed := true, recurses := true, apart := false, narrowed := true }
def FrPowsUptoSaid : Prop := frPowsUptoRow.holds Try.pinned (OpenSpec.upto frPowsSpec)

/-- 'chirographlaw03.FrPowers', WHERE WHAT IT READS IS OF BULK AT MOST 1048576: true; the input reads as it did. -/
def frPowersUptoRow : OpenClaim := { program := "ytjhnoekljlldmaa", sum := "19fae0e9555dfb2866919ded692fbe1d553d54a3e14b268254454343ca5932aa", func := "chirograph/chirographlaw03.FrPowers", spec := "frPowers", inPlace := ["math/bits.Add64", "math/bits.Sub64"], unfollowed := true, recurses := true, apart := false, narrowed := true }
def FrPowersUptoSaid : Prop := frPowersUptoRow.holds Try.pinned (OpenSpec.upto frPowersSpec)

/-- 'chirographlaw03.FrMuls', WHERE WHAT IT READS IS OF BULK AT MOST 1048576: true; the input reads as it did. -/
def frMulsUptoRow : OpenClaim := { program := "ytjhnoekljlldmaa", sum := "19fae0e9555dfb2866919ded692fbe1d553d54a3e14b268254454343ca5932aa", func := "chirograph/chirographlaw03.FrMuls", spec := "frMuls", inPlace := ["math/bits.Add64", "math/bits.Sub64"], unfollowed := true, recurses := true, apart := false, narrowed := true }
def FrMulsUptoSaid : Prop := frMulsUptoRow.holds Try.pinned (OpenSpec.upto frMulsSpec)

/-- 'chirographlaw03.FrField', WHERE WHAT IT READS IS OF BULK AT MOST 1048576: true; the input reads as it did. -/
def frFieldUptoRow : OpenClaim := { program := "ytjhnoekljlldmaa", sum := "19fae0e9555dfb2866919ded692fbe1d553d54a3e14b268254454343ca5932aa", func := "chirograph/chirographlaw03.FrField", spec := "frField", inPlace := ["math/bits.Add64", "math/bits.Sub64"], unfollowed := true, recurses := true, apart := false, narrowed := true }
def FrFieldUptoSaid : Prop := frFieldUptoRow.holds Try.pinned (OpenSpec.upto frFieldSpec)

/-- 'chirographlaw03.FrBatch', WHERE WHAT IT READS IS OF BULK AT MOST 1048576: true; the input reads as it did. -/
def frBatchUptoRow : OpenClaim := { program := "ytjhnoekljlldmaa", sum := "19fae0e9555dfb2866919ded692fbe1d553d54a3e14b268254454343ca5932aa", func := "chirograph/chirographlaw03.FrBatch", spec := "frBatch", inPlace := ["math/bits.Add64", "math/bits.Sub64"], unfollowed := true, recurses := true, apart := false, narrowed := true }
def FrBatchUptoSaid : Prop := frBatchUptoRow.holds Try.pinned (OpenSpec.upto frBatchSpec)

end Rows
end Go.Proofs.Ytjhnoekljlldmaa
