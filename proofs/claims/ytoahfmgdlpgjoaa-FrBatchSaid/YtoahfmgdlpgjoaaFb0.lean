/- core.S.IsZero. -/
import Derived.Test.YtoahfmgdlpgjoaaPwS
import Derived.Test.YtoahfmgdlpgjoaaRcS
import Derived.Test.YtoahfmgdlpgjoaaInS
import Derived.Test.YtoahfmgdlpgjoaaRum
import Derived.Test.YtoahfmgdlpgjoaaSm0
import Derived.Test.YtoahfmgdlpgjoaaPri
set_option linter.unusedSimpArgs false
set_option linter.unusedVariables false
namespace Go.Proofs.Ytoahfmgdlpgjoaa
open Go.Ev Go.RowKit
theorem toS_inj {x y : Fin Rr} (h : toS x = toS y) : x = y := by
  have e : ∀ z : Fin Rr, toS z = (z * ⟨115792089237316195423570985008687907853269984665640564039457584007913129639936 % Rr, Nat.mod_lt _ (by decide)⟩).val := fun z => by
    unfold toS
    rw [Fin.val_mul]
    show _ = z.val * (115792089237316195423570985008687907853269984665640564039457584007913129639936 % Rr) % Rr
    rw [Nat.mul_mod, Nat.mul_mod z.val (_ % Rr), Nat.mod_mod]
  rw [e, e] at h
  have h1 := Fin.ext h
  have h0 : (⟨115792089237316195423570985008687907853269984665640564039457584007913129639936 % Rr, Nat.mod_lt _ (by decide)⟩ : Fin Rr) ≠ 0 := by decide
  generalize (⟨115792089237316195423570985008687907853269984665640564039457584007913129639936 % Rr, Nat.mod_lt _ (by decide)⟩ : Fin Rr) = c at *
  have hi := mul_invS h0
  generalize pwS c _ = d at hi
  have hx : x = (x * c) * d := by
    have : (x * c) * d = x * (c * d) := by grind
    rw [this, hi]; grind
  have hy : y = (y * c) * d := by
    have : (y * c) * d = y * (c * d) := by grind
    rw [this, hi]; grind
  rw [hx, hy, h1]
theorem flat_s_inj {x y : Fin Rr} (h : flat [.s x] = flat [.s y]) : x = y := by
  have h' : limbs 4 (toS x) ++ [] = limbs 4 (toS y) ++ [] := h
  rw [List.append_nil, List.append_nil] at h'
  exact toS_inj (limbs_inj 4 _ _ (Nat.lt_trans (Nat.mod_lt _ (by decide)) (show Rr < _ by decide)) (Nat.lt_trans (Nat.mod_lt _ (by decide)) (show Rr < _ by decide)) h')
theorem zero_s : flat [.s (0 : Fin Rr)] = flat [.c (.int .u64 0), .c (.int .u64 0), .c (.int .u64 0), .c (.int .u64 0)] := by kernel_rfl
theorem isZeS_0 (a : Fin Rr) (h : a = 0) : Gives Try.prog 99 [.t (.ag [.s a])] (.v (.bool true)) := fn_gives (P := Try.prog) (env := []) trivial Try.func99 0 (oN [] [(4, 0)]) (by kernel_rfl) (And.intro (show flat [.s a] = flat [.c (.int .u64 0), .c (.int .u64 0), .c (.int .u64 0), .c (.int .u64 0)] from by rw [h]; exact zero_s) trivial)
theorem isZeS_1 (a : Fin Rr) (h : a ≠ 0) : Gives Try.prog 99 [.t (.ag [.s a])] (.v (.bool false)) := fn_gives (P := Try.prog) (env := []) trivial Try.func99 0 (oN [] [(4, 1)]) (by kernel_rfl) (And.intro (show ¬ flat [.s a] = flat [.c (.int .u64 0), .c (.int .u64 0), .c (.int .u64 0), .c (.int .u64 0)] from fun e => h (flat_s_inj (e.trans zero_s.symm))) trivial)
def eIsZeS : Entry := entry1 99 parS.x (fun a => [(some (a = 0), .v (.bool true)), (some (a ≠ 0), .v (.bool false))])
theorem eIsZeS_ok : eIsZeS.OK Try.prog := entry1_ok (fun args w => Go.Proofs.enters_of (P := Try.prog) Try.func99 (by kernel_rfl) rfl args w) (fun a c r hm hc => by
  simp only [List.mem_cons, Prod.mk.injEq, List.not_mem_nil, or_false] at hm
  rcases hm with ⟨rfl, rfl⟩ | ⟨rfl, rfl⟩
  · exact isZeS_0 a hc
  · exact isZeS_1 a hc)
end Go.Proofs.Ytoahfmgdlpgjoaa
