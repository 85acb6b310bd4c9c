/- Contracts of core.turn, of core.Frob and of full.Frob. -/
import Derived.Test.YtapapelfjjnhmaaTo2
import Derived.Test.YtapapelfjjnhmaaFrt
set_option linter.unusedSimpArgs false
set_option linter.unusedVariables false
namespace Go.Proofs.Ytapapelfjjnhmaa
open Go.Ev Go.RowKit

def tc1 : F2 := (3850754370037169011952147076051364057158807420970682438676050522613628423219637725072182697113062777891589506424760, 151655185184498381465642749684540099398075398968325446656007613510403227271200139370504932015952886146304766135027)
theorem turn1_tc : turn1 = tc1 := by decide +kernel
theorem turn_1 : Gives Try.prog 77 [.t (.v (.int .i64 1))] (.ag (m2 turn1)) := by
  rw [turn1_tc]
  exact fn_gives (P := Try.prog) (env := [eIn2]) ⟨eIn2_ok, trivial⟩ Try.func77 0 o0 (by kernel_rfl) (And.intro (show small2 (3850754370037169011952147076051364057158807420970682438676050522613628423219637725072182697113062777891589506424760, 151655185184498381465642749684540099398075398968325446656007613510403227271200139370504932015952886146304766135027) from (by unfold small2 small; decide +kernel)) trivial)
def tc2 : F2 := (0, 4002409555221667392624310435006688643935503118305586438271171395842971157480381377015405980053539358417135540939436)
theorem turn2_tc : turn2 = tc2 := by decide +kernel
theorem turn_2 : Gives Try.prog 77 [.t (.v (.int .i64 2))] (.ag (m2 turn2)) := by
  rw [turn2_tc]
  exact fn_gives (P := Try.prog) (env := [eIn2]) ⟨eIn2_ok, trivial⟩ Try.func77 0 o0 (by kernel_rfl) (And.intro (show small2 (0, 4002409555221667392624310435006688643935503118305586438271171395842971157480381377015405980053539358417135540939436) from (by unfold small2 small; decide +kernel)) trivial)
def tc3 : F2 := (1028732146235106349975324479215795277384839936929757896155643118032610843298655225875571310552543014690878354869257, 1028732146235106349975324479215795277384839936929757896155643118032610843298655225875571310552543014690878354869257)
theorem turn3_tc : turn3 = tc3 := by decide +kernel
theorem turn_3 : Gives Try.prog 77 [.t (.v (.int .i64 3))] (.ag (m2 turn3)) := by
  rw [turn3_tc]
  exact fn_gives (P := Try.prog) (env := [eIn2]) ⟨eIn2_ok, trivial⟩ Try.func77 0 o0 (by kernel_rfl) (And.intro (show small2 (1028732146235106349975324479215795277384839936929757896155643118032610843298655225875571310552543014690878354869257, 1028732146235106349975324479215795277384839936929757896155643118032610843298655225875571310552543014690878354869257) from (by unfold small2 small; decide +kernel)) trivial)
def tc4 : F2 := (4002409555221667392624310435006688643935503118305586438271171395842971157480381377015405980053539358417135540939437, 0)
theorem turn4_tc : turn4 = tc4 := by decide +kernel
theorem turn_4 : Gives Try.prog 77 [.t (.v (.int .i64 4))] (.ag (m2 turn4)) := by
  rw [turn4_tc]
  exact fn_gives (P := Try.prog) (env := [eIn2]) ⟨eIn2_ok, trivial⟩ Try.func77 0 o0 (by kernel_rfl) (And.intro (show small2 (4002409555221667392624310435006688643935503118305586438271171395842971157480381377015405980053539358417135540939437, 0) from (by unfold small2 small; decide +kernel)) trivial)
def tc5 : F2 := (877076961050607968509681729531255177986764537961432449499635504522207616027455086505066378536590128544573588734230, 3125332594171059424908108096204648978570118281977575435832422631601824034463382777937621250592425535493320683825557)
theorem turn5_tc : turn5 = tc5 := by decide +kernel
theorem turn_5 : Gives Try.prog 77 [.t (.v (.int .i64 5))] (.ag (m2 turn5)) := by
  rw [turn5_tc]
  exact fn_gives (P := Try.prog) (env := [eIn2]) ⟨eIn2_ok, trivial⟩ Try.func77 0 o0 (by kernel_rfl) (And.intro (show small2 (877076961050607968509681729531255177986764537961432449499635504522207616027455086505066378536590128544573588734230, 3125332594171059424908108096204648978570118281977575435832422631601824034463382777937621250592425535493320683825557) from (by unfold small2 small; decide +kernel)) trivial)
def turns : Nat → F2
  | 1 => turn1
  | 2 => turn2
  | 3 => turn3
  | 4 => turn4
  | _ => turn5
theorem turn_at (z : Int) (h : 1 ≤ z ∧ z ≤ 5) : Gives Try.prog 77 [.t (.v (.int .i64 z))] (.ag (m2 (turns z.toNat))) := by
  obtain h | h | h | h | h : z = 1 ∨ z = 2 ∨ z = 3 ∨ z = 4 ∨ z = 5 := by omega
  · subst h; exact turn_1
  · subst h; exact turn_2
  · subst h; exact turn_3
  · subst h; exact turn_4
  · subst h; exact turn_5
def eTurn : Entry := entry1 77 (XPar.int .i64) (fun z => [(some (1 ≤ z ∧ z ≤ 5), .ag (m2 (turns z.toNat)))])
theorem eTurn_ok : eTurn.OK Try.prog := entry1_ok (fun args w => Go.Proofs.enters_of (P := Try.prog) Try.func77 (by kernel_rfl) rfl args w) (fun z => onlyIf (fun h => turn_at z h))
def t15 (z : Int) : Prop := 1 ≤ z ∧ z ≤ 5
def eFrobC : Entry := entry1 41 parM12.x (fun a => [(none, .ag (m12 (frobT a)))])
theorem eFrobC_ok : eFrobC.OK Try.prog := entry1_ok (fun args w => Go.Proofs.enters_of (P := Try.prog) Try.func41 (by kernel_rfl) rfl args w) (fun a => only (fn_gives (P := Try.prog) (env := [eConj2, eTimes2, eTurn]) ⟨eConj2_ok, eTimes2_ok, eTurn_ok, trivial⟩ Try.func41 0 o0 (by kernel_rfl)
  (And.intro (show (1 : Int) ≤ 5 ∧ (5 : Int) ≤ 5 by decide) (And.intro (show (1 : Int) ≤ 3 ∧ (3 : Int) ≤ 5 by decide) (And.intro (show (1 : Int) ≤ 1 ∧ (1 : Int) ≤ 5 by decide) (And.intro (show (1 : Int) ≤ 4 ∧ (4 : Int) ≤ 5 by decide) (And.intro (show (1 : Int) ≤ 2 ∧ (2 : Int) ≤ 5 by decide) trivial)))))))
def eUFrob : Entry := entry1 13 par12 (fun a => [(some (sm12 a), .ag (q12 (frobT (el12 a))))])
theorem eUFrob_ok : eUFrob.OK Try.prog := entry1_ok (fun args w => Go.Proofs.enters_of (P := Try.prog) Try.func13 (by kernel_rfl) rfl args w) (fun a => match a with
  | .inl a => onlyIf (fun h => fn_gives (P := Try.prog) (env := [eIn12, eOut12, eFrobC]) ⟨eIn12_ok, eOut12_ok, eFrobC_ok, trivial⟩ Try.func13 2 o0 (by kernel_rfl) trivial)
  | .inr a => onlyIf (fun h => fn_gives (P := Try.prog) (env := [eIn12, eOut12, eFrobC]) ⟨eIn12_ok, eOut12_ok, eFrobC_ok, trivial⟩ Try.func13 2 o0 (by kernel_rfl) (And.intro h trivial)))
end Go.Proofs.Ytapapelfjjnhmaa
