/- Pruned: Gd. -/
import Derived.Test.YtfbkefgoblcmpaaGreatQGe
import Derived.Test.YtfbkefgoblcmpaaGreatQGc
import Derived.Test.YtfbkefgoblcmpaaGreatQGb
import Derived.Test.YtfbkefgoblcmpaaGreatQHa
set_option linter.unusedSimpArgs false
set_option linter.unusedVariables false
namespace Go.Proofs.YtfbkefgoblcmpaaGreat
open Go.Ev Go.RowKit
def c2 (l : LU0) (i : Nat) : Nat := match i with
 | 0 => deN 48 ((BR l).take 48)
 | 1 => deN 48 (((BR l).drop 48).take 48)
 | 2 => deN 48 ((((BR l).drop 48).drop 48).take 48)
 | _ => deN 48 (((((BR l).drop 48).drop 48).drop 48).take 48)
end Go.Proofs.YtfbkefgoblcmpaaGreat
set_option linter.unusedSimpArgs false
set_option linter.unusedVariables false
namespace Go.Proofs.YtfbkefgoblcmpaaGreat
open Go.Ev Go.RowKit
theorem Gives.same {P : Program} {f : FuncId} {xs : List XV} {a b : List Ch} {r : AV} (h : Gives P f xs (.tp [.ag a, r])) (e : AV.val? (.tp [.ag a, r]) = AV.val? (.tp [.ag b, r])) : Gives P f xs (.tp [.ag b, r]) := by
 obtain ⟨v, h1, h2⟩ := h
 exact ⟨v, e ▸ h1, h2⟩
def Zj (l : LU0) : Prop := (l.length = 48 /\ FT l = 6) ∨ (l.length = 96 /\ FT l = 2)
instance (l : LU0) : Decidable (Zj l) := inferInstanceAs (Decidable (_ ∨ _))
def ok1 (l : LU0) : Prop :=
 (Zj l /\ aad (BR l)) ∨ (sh1 l /\ nX l < Pp /\ sqP (C0 (ofP (nX l))) /\ AZ ((ofP (nX l)).val, (sy1 (C0 (ofP (nX l))) (decide (FT l = 5))).val, false)) ∨
  (lo1 l /\ (nX l < Pp /\ nY l < Pp) /\ may1 ((ofP (nX l)).val, (ofP (nY l)).val, false) /\ AZ ((ofP (nX l)).val, (ofP (nY l)).val, false))
end Go.Proofs.YtfbkefgoblcmpaaGreat
set_option linter.unusedSimpArgs false
set_option linter.unusedVariables false
namespace Go.Proofs.YtfbkefgoblcmpaaGreat
open Go.Ev Go.RowKit
def aaC (l : LU0) : Prop := (l.length = 96 /\ FT l = 6) ∨ (l.length = 192 /\ FT l = 2)
instance (l : LU0) : Decidable (aaC l) := inferInstanceAs (Decidable (_ ∨ _))
end Go.Proofs.YtfbkefgoblcmpaaGreat
