/- Whatever two numbers are given, chirographlaw04.FpSquares says true: roots of squares and of products. -/
import Derived.Test.YtncnnngfemhaeaaRo
import Derived.Test.YtncnnngfemhaeaaOpn
import Derived.Test.YtncnnngfemhaeaaRows
set_option linter.unusedSimpArgs false
set_option linter.unusedVariables false
namespace Go.Proofs.Ytncnnngfemhaeaa
open Go.Ev Go.ChangeShapes Go.WideShapes Go.ChangeAt Go.RowKit

theorem fpSquares_z_z (a b : Nat) (ha : a < 39402006196394479212279040100143613805079739270465446667948293404245721771497210611414266254884915640806627990306816) (hb : b < 39402006196394479212279040100143613805079739270465446667948293404245721771497210611414266254884915640806627990306816) (h0 : (ofP a) = 0) (g0 : (ofP b) = 0) : Gives Try.prog 13 [.t (.ag [.n 6 a]), .t (.ag [.n 6 b])] (.v (.bool true)) :=
  fn_gives (P := Try.prog) (env := [eAlP, eFCleanP, eFHighP, eFNegP, eFMulP, eFRootP]) ⟨eAlP_ok, eFCleanP_ok, eFHighP_ok, eFNegP_ok, eFMulP_ok, eFRootP_ok, trivial⟩ Try.func13 0 (oL [(8, wO 1), (54, wO 1), (86, wO 1), (89, wO 1)]) (by kernel_rfl)
      (And.intro (show smtP (.inl (-(ofP a))) ∧ ¬ hiP (-(ofP a)) from ⟨trivial, (by rw [h0, neg_zeroP]; exact not_hi_zero)⟩) 
      (And.intro (show smtP (.inr a) from ha) 
      (And.intro (show smtP (.inr a) ∧ ¬ hiP (ofP a) from ⟨ha, (by rw [h0]; exact not_hi_zero)⟩) 
      (And.intro (show flat [.q (ofP a)] = flat [.c (.int .u64 0), .c (.int .u64 0), .c (.int .u64 0), .c (.int .u64 0), .c (.int .u64 0), .c (.int .u64 0)] from by rw [h0]; kernel_rfl) 
      (And.intro (show smtP (.inr a) from ha) 
      (And.intro (show flat [.q (ofP a)] = flat [.c (.int .u64 0), .c (.int .u64 0), .c (.int .u64 0), .c (.int .u64 0), .c (.int .u64 0), .c (.int .u64 0)] from by rw [h0]; kernel_rfl) 
      (And.intro (show smtP (.inr a) from ha) 
      (And.intro (show smtP (.inl (lowP (rtP ((ofP a) * (ofP a))))) ∧ ¬ hiP (lowP (rtP ((ofP a) * (ofP a)))) from ⟨trivial, not_hi_low _⟩) 
      (And.intro (show flat [.q (lowP (rtP ((ofP a) * (ofP a))))] = flat [.q (ofP a)] from by rw [low_rt, show lowP (ofP a) = (ofP a) from if_neg (by rw [h0]; exact not_hi_zero)]) 
      (And.intro (show smtP (.inl ((ofP a) * (ofP b))) ∧ sqP ((ofP a) * (ofP b)) from ⟨trivial, (by rw [h0, show 0 * (ofP b) = 0 from by grind]; exact sq_zero)⟩) 
      (And.intro (show smtP (.inr a) ∧ smtP (.inr b) from ⟨ha, hb⟩) 
      (And.intro (show smtP (.inr b) ∧ sqP (ofP b) from ⟨hb, (by rw [g0]; exact sq_zero)⟩) 
      (And.intro (show smtP (.inr a) ∧ sqP (ofP a) from ⟨ha, (by rw [h0]; exact sq_zero)⟩) 
      (And.intro (show smtP (.inl ((ofP a) * (ofP a))) ∧ sqP ((ofP a) * (ofP a)) from ⟨trivial, sq_sq _⟩) 
      (And.intro (show smtP (.inr a) ∧ smtP (.inr a) from ⟨ha, ha⟩) 
      (And.intro (show smtP (.inr a) ∧ ¬ hiP (ofP a) from ⟨ha, (by rw [h0]; exact not_hi_zero)⟩) 
      (And.intro (show smtP (.inr a) from ha) trivial)))))))))))))))))

theorem fpSquares_z_y (a b : Nat) (ha : a < 39402006196394479212279040100143613805079739270465446667948293404245721771497210611414266254884915640806627990306816) (hb : b < 39402006196394479212279040100143613805079739270465446667948293404245721771497210611414266254884915640806627990306816) (h0 : (ofP a) = 0) (g0 : (ofP b) ≠ 0) (gs : sqP (ofP b)) : Gives Try.prog 13 [.t (.ag [.n 6 a]), .t (.ag [.n 6 b])] (.v (.bool true)) :=
  fn_gives (P := Try.prog) (env := [eAlP, eFCleanP, eFHighP, eFNegP, eFMulP, eFRootP]) ⟨eAlP_ok, eFCleanP_ok, eFHighP_ok, eFNegP_ok, eFMulP_ok, eFRootP_ok, trivial⟩ Try.func13 0 (oL [(8, wO 1), (54, wO 1), (86, wO 1), (89, wO 1)]) (by kernel_rfl)
      (And.intro (show smtP (.inl (-(ofP a))) ∧ ¬ hiP (-(ofP a)) from ⟨trivial, (by rw [h0, neg_zeroP]; exact not_hi_zero)⟩) 
      (And.intro (show smtP (.inr a) from ha) 
      (And.intro (show smtP (.inr a) ∧ ¬ hiP (ofP a) from ⟨ha, (by rw [h0]; exact not_hi_zero)⟩) 
      (And.intro (show flat [.q (ofP a)] = flat [.c (.int .u64 0), .c (.int .u64 0), .c (.int .u64 0), .c (.int .u64 0), .c (.int .u64 0), .c (.int .u64 0)] from by rw [h0]; kernel_rfl) 
      (And.intro (show smtP (.inr a) from ha) 
      (And.intro (show flat [.q (ofP a)] = flat [.c (.int .u64 0), .c (.int .u64 0), .c (.int .u64 0), .c (.int .u64 0), .c (.int .u64 0), .c (.int .u64 0)] from by rw [h0]; kernel_rfl) 
      (And.intro (show smtP (.inr a) from ha) 
      (And.intro (show smtP (.inl (lowP (rtP ((ofP a) * (ofP a))))) ∧ ¬ hiP (lowP (rtP ((ofP a) * (ofP a)))) from ⟨trivial, not_hi_low _⟩) 
      (And.intro (show flat [.q (lowP (rtP ((ofP a) * (ofP a))))] = flat [.q (ofP a)] from by rw [low_rt, show lowP (ofP a) = (ofP a) from if_neg (by rw [h0]; exact not_hi_zero)]) 
      (And.intro (show smtP (.inl ((ofP a) * (ofP b))) ∧ sqP ((ofP a) * (ofP b)) from ⟨trivial, (by rw [h0, show 0 * (ofP b) = 0 from by grind]; exact sq_zero)⟩) 
      (And.intro (show smtP (.inr a) ∧ smtP (.inr b) from ⟨ha, hb⟩) 
      (And.intro (show smtP (.inr b) ∧ sqP (ofP b) from ⟨hb, gs⟩) 
      (And.intro (show smtP (.inr a) ∧ sqP (ofP a) from ⟨ha, (by rw [h0]; exact sq_zero)⟩) 
      (And.intro (show smtP (.inl ((ofP a) * (ofP a))) ∧ sqP ((ofP a) * (ofP a)) from ⟨trivial, sq_sq _⟩) 
      (And.intro (show smtP (.inr a) ∧ smtP (.inr a) from ⟨ha, ha⟩) 
      (And.intro (show smtP (.inr a) ∧ ¬ hiP (ofP a) from ⟨ha, (by rw [h0]; exact not_hi_zero)⟩) 
      (And.intro (show smtP (.inr a) from ha) trivial)))))))))))))))))

theorem fpSquares_z_n (a b : Nat) (ha : a < 39402006196394479212279040100143613805079739270465446667948293404245721771497210611414266254884915640806627990306816) (hb : b < 39402006196394479212279040100143613805079739270465446667948293404245721771497210611414266254884915640806627990306816) (h0 : (ofP a) = 0) (g0 : (ofP b) ≠ 0) (gs : ¬ sqP (ofP b)) : Gives Try.prog 13 [.t (.ag [.n 6 a]), .t (.ag [.n 6 b])] (.v (.bool true)) :=
  fn_gives (P := Try.prog) (env := [eAlP, eFCleanP, eFHighP, eFNegP, eFMulP, eFRootP]) ⟨eAlP_ok, eFCleanP_ok, eFHighP_ok, eFNegP_ok, eFMulP_ok, eFRootP_ok, trivial⟩ Try.func13 0 (oL [(8, wO 1), (28, wO 1), (54, wO 1), (86, wO 1), (89, wO 1)]) (by kernel_rfl)
      (And.intro (show smtP (.inl (-(ofP a))) ∧ ¬ hiP (-(ofP a)) from ⟨trivial, (by rw [h0, neg_zeroP]; exact not_hi_zero)⟩) 
      (And.intro (show smtP (.inr a) from ha) 
      (And.intro (show smtP (.inr a) ∧ ¬ hiP (ofP a) from ⟨ha, (by rw [h0]; exact not_hi_zero)⟩) 
      (And.intro (show flat [.q (ofP a)] = flat [.c (.int .u64 0), .c (.int .u64 0), .c (.int .u64 0), .c (.int .u64 0), .c (.int .u64 0), .c (.int .u64 0)] from by rw [h0]; kernel_rfl) 
      (And.intro (show smtP (.inr a) from ha) 
      (And.intro (show flat [.q (ofP a)] = flat [.c (.int .u64 0), .c (.int .u64 0), .c (.int .u64 0), .c (.int .u64 0), .c (.int .u64 0), .c (.int .u64 0)] from by rw [h0]; kernel_rfl) 
      (And.intro (show smtP (.inr a) from ha) 
      (And.intro (show smtP (.inl (lowP (rtP ((ofP a) * (ofP a))))) ∧ ¬ hiP (lowP (rtP ((ofP a) * (ofP a)))) from ⟨trivial, not_hi_low _⟩) 
      (And.intro (show flat [.q (lowP (rtP ((ofP a) * (ofP a))))] = flat [.q (ofP a)] from by rw [low_rt, show lowP (ofP a) = (ofP a) from if_neg (by rw [h0]; exact not_hi_zero)]) 
      (And.intro (show smtP (.inl ((ofP a) * (ofP b))) ∧ sqP ((ofP a) * (ofP b)) from ⟨trivial, (by rw [h0, show 0 * (ofP b) = 0 from by grind]; exact sq_zero)⟩) 
      (And.intro (show smtP (.inr a) ∧ smtP (.inr b) from ⟨ha, hb⟩) 
      (And.intro (show smtP (.inr b) ∧ ¬ sqP (ofP b) from ⟨hb, gs⟩) 
      (And.intro (show smtP (.inr a) ∧ sqP (ofP a) from ⟨ha, (by rw [h0]; exact sq_zero)⟩) 
      (And.intro (show smtP (.inl ((ofP a) * (ofP a))) ∧ sqP ((ofP a) * (ofP a)) from ⟨trivial, sq_sq _⟩) 
      (And.intro (show smtP (.inr a) ∧ smtP (.inr a) from ⟨ha, ha⟩) 
      (And.intro (show smtP (.inr a) ∧ ¬ hiP (ofP a) from ⟨ha, (by rw [h0]; exact not_hi_zero)⟩) 
      (And.intro (show smtP (.inr a) from ha) trivial)))))))))))))))))

theorem fpSquares_hy_z (a b : Nat) (ha : a < 39402006196394479212279040100143613805079739270465446667948293404245721771497210611414266254884915640806627990306816) (hb : b < 39402006196394479212279040100143613805079739270465446667948293404245721771497210611414266254884915640806627990306816) (h0 : (ofP a) ≠ 0) (hh : hiP (ofP a)) (hs : sqP (ofP a)) (g0 : (ofP b) = 0) : Gives Try.prog 13 [.t (.ag [.n 6 a]), .t (.ag [.n 6 b])] (.v (.bool true)) :=
  fn_gives (P := Try.prog) (env := [eAlP, eFCleanP, eFHighP, eFNegP, eFMulP, eFRootP]) ⟨eAlP_ok, eFCleanP_ok, eFHighP_ok, eFNegP_ok, eFMulP_ok, eFRootP_ok, trivial⟩ Try.func13 0 (oL [(57, wO 1), (66, wO 1), (87, wO 1), (92, wO 1)]) (by kernel_rfl)
      (And.intro (show smtP (.inl (-(ofP a))) ∧ ¬ hiP (-(ofP a)) from ⟨trivial, (fun h => (hi_neg h0).1 h hh)⟩) 
      (And.intro (show smtP (.inr a) from ha) 
      (And.intro (show smtP (.inr a) ∧ hiP (ofP a) from ⟨ha, hh⟩) 
      (And.intro (show ¬ flat [.q (ofP a)] = flat [.c (.int .u64 0), .c (.int .u64 0), .c (.int .u64 0), .c (.int .u64 0), .c (.int .u64 0), .c (.int .u64 0)] from ne_zerosP h0) 
      (And.intro (show smtP (.inr a) from ha) 
      (And.intro (show flat [.q (ofP b)] = flat [.c (.int .u64 0), .c (.int .u64 0), .c (.int .u64 0), .c (.int .u64 0), .c (.int .u64 0), .c (.int .u64 0)] from by rw [g0]; kernel_rfl) 
      (And.intro (show smtP (.inr b) from hb) 
      (And.intro (show ¬ flat [.q (ofP a)] = flat [.c (.int .u64 0), .c (.int .u64 0), .c (.int .u64 0), .c (.int .u64 0), .c (.int .u64 0), .c (.int .u64 0)] from ne_zerosP h0) 
      (And.intro (show smtP (.inr a) from ha) 
      (And.intro (show smtP (.inl (lowP (rtP ((ofP a) * (ofP a))))) ∧ ¬ hiP (lowP (rtP ((ofP a) * (ofP a)))) from ⟨trivial, not_hi_low _⟩) 
      (And.intro (show flat [.q (lowP (rtP ((ofP a) * (ofP a))))] = flat [.q (-(ofP a))] from by rw [low_rt, show lowP (ofP a) = (-(ofP a)) from if_pos hh]) 
      (And.intro (show smtP (.inl ((ofP a) * (ofP b))) ∧ sqP ((ofP a) * (ofP b)) from ⟨trivial, (by rw [g0, show (ofP a) * 0 = 0 from by grind]; exact sq_zero)⟩) 
      (And.intro (show smtP (.inr a) ∧ smtP (.inr b) from ⟨ha, hb⟩) 
      (And.intro (show smtP (.inr b) ∧ sqP (ofP b) from ⟨hb, (by rw [g0]; exact sq_zero)⟩) 
      (And.intro (show smtP (.inr a) ∧ sqP (ofP a) from ⟨ha, hs⟩) 
      (And.intro (show smtP (.inl ((ofP a) * (ofP a))) ∧ sqP ((ofP a) * (ofP a)) from ⟨trivial, sq_sq _⟩) 
      (And.intro (show smtP (.inr a) ∧ smtP (.inr a) from ⟨ha, ha⟩) 
      (And.intro (show smtP (.inr a) from ha) 
      (And.intro (show smtP (.inr a) ∧ hiP (ofP a) from ⟨ha, hh⟩) 
      (And.intro (show smtP (.inr a) from ha) trivial))))))))))))))))))))

theorem fpSquares_hy_y (a b : Nat) (ha : a < 39402006196394479212279040100143613805079739270465446667948293404245721771497210611414266254884915640806627990306816) (hb : b < 39402006196394479212279040100143613805079739270465446667948293404245721771497210611414266254884915640806627990306816) (h0 : (ofP a) ≠ 0) (hh : hiP (ofP a)) (hs : sqP (ofP a)) (g0 : (ofP b) ≠ 0) (gs : sqP (ofP b)) : Gives Try.prog 13 [.t (.ag [.n 6 a]), .t (.ag [.n 6 b])] (.v (.bool true)) :=
  fn_gives (P := Try.prog) (env := [eAlP, eFCleanP, eFHighP, eFNegP, eFMulP, eFRootP]) ⟨eAlP_ok, eFCleanP_ok, eFHighP_ok, eFNegP_ok, eFMulP_ok, eFRootP_ok, trivial⟩ Try.func13 0 (oL [(57, wO 1), (66, wO 1), (71, wO 1), (87, wO 1), (92, wO 1)]) (by kernel_rfl)
      (And.intro (show smtP (.inl (-(ofP a))) ∧ ¬ hiP (-(ofP a)) from ⟨trivial, (fun h => (hi_neg h0).1 h hh)⟩) 
      (And.intro (show smtP (.inr a) from ha) 
      (And.intro (show smtP (.inr a) ∧ hiP (ofP a) from ⟨ha, hh⟩) 
      (And.intro (show ¬ flat [.q (ofP a)] = flat [.c (.int .u64 0), .c (.int .u64 0), .c (.int .u64 0), .c (.int .u64 0), .c (.int .u64 0), .c (.int .u64 0)] from ne_zerosP h0) 
      (And.intro (show smtP (.inr a) from ha) 
      (And.intro (show ¬ flat [.q (ofP b)] = flat [.c (.int .u64 0), .c (.int .u64 0), .c (.int .u64 0), .c (.int .u64 0), .c (.int .u64 0), .c (.int .u64 0)] from ne_zerosP g0) 
      (And.intro (show smtP (.inr b) from hb) 
      (And.intro (show ¬ flat [.q (ofP a)] = flat [.c (.int .u64 0), .c (.int .u64 0), .c (.int .u64 0), .c (.int .u64 0), .c (.int .u64 0), .c (.int .u64 0)] from ne_zerosP h0) 
      (And.intro (show smtP (.inr a) from ha) 
      (And.intro (show smtP (.inl (lowP (rtP ((ofP a) * (ofP a))))) ∧ ¬ hiP (lowP (rtP ((ofP a) * (ofP a)))) from ⟨trivial, not_hi_low _⟩) 
      (And.intro (show flat [.q (lowP (rtP ((ofP a) * (ofP a))))] = flat [.q (-(ofP a))] from by rw [low_rt, show lowP (ofP a) = (-(ofP a)) from if_pos hh]) 
      (And.intro (show smtP (.inl ((ofP a) * (ofP b))) ∧ sqP ((ofP a) * (ofP b)) from ⟨trivial, (by rw [sq_mul h0 g0]; simp [hs, gs])⟩) 
      (And.intro (show smtP (.inr a) ∧ smtP (.inr b) from ⟨ha, hb⟩) 
      (And.intro (show smtP (.inr b) ∧ sqP (ofP b) from ⟨hb, gs⟩) 
      (And.intro (show smtP (.inr a) ∧ sqP (ofP a) from ⟨ha, hs⟩) 
      (And.intro (show smtP (.inl ((ofP a) * (ofP a))) ∧ sqP ((ofP a) * (ofP a)) from ⟨trivial, sq_sq _⟩) 
      (And.intro (show smtP (.inr a) ∧ smtP (.inr a) from ⟨ha, ha⟩) 
      (And.intro (show smtP (.inr a) from ha) 
      (And.intro (show smtP (.inr a) ∧ hiP (ofP a) from ⟨ha, hh⟩) 
      (And.intro (show smtP (.inr a) from ha) trivial))))))))))))))))))))

theorem fpSquares_hy_n (a b : Nat) (ha : a < 39402006196394479212279040100143613805079739270465446667948293404245721771497210611414266254884915640806627990306816) (hb : b < 39402006196394479212279040100143613805079739270465446667948293404245721771497210611414266254884915640806627990306816) (h0 : (ofP a) ≠ 0) (hh : hiP (ofP a)) (hs : sqP (ofP a)) (g0 : (ofP b) ≠ 0) (gs : ¬ sqP (ofP b)) : Gives Try.prog 13 [.t (.ag [.n 6 a]), .t (.ag [.n 6 b])] (.v (.bool true)) :=
  fn_gives (P := Try.prog) (env := [eAlP, eFCleanP, eFHighP, eFNegP, eFMulP, eFRootP]) ⟨eAlP_ok, eFCleanP_ok, eFHighP_ok, eFNegP_ok, eFMulP_ok, eFRootP_ok, trivial⟩ Try.func13 0 (oL [(31, wO 1), (41, wO 1), (57, wO 1), (66, wO 1), (71, wO 1), (87, wO 1), (92, wO 1)]) (by kernel_rfl)
      (And.intro (show smtP (.inl (-(ofP a))) ∧ ¬ hiP (-(ofP a)) from ⟨trivial, (fun h => (hi_neg h0).1 h hh)⟩) 
      (And.intro (show smtP (.inr a) from ha) 
      (And.intro (show smtP (.inr a) ∧ hiP (ofP a) from ⟨ha, hh⟩) 
      (And.intro (show ¬ flat [.q (ofP a)] = flat [.c (.int .u64 0), .c (.int .u64 0), .c (.int .u64 0), .c (.int .u64 0), .c (.int .u64 0), .c (.int .u64 0)] from ne_zerosP h0) 
      (And.intro (show smtP (.inr a) from ha) 
      (And.intro (show ¬ flat [.q (ofP b)] = flat [.c (.int .u64 0), .c (.int .u64 0), .c (.int .u64 0), .c (.int .u64 0), .c (.int .u64 0), .c (.int .u64 0)] from ne_zerosP g0) 
      (And.intro (show smtP (.inr b) from hb) 
      (And.intro (show ¬ flat [.q (ofP a)] = flat [.c (.int .u64 0), .c (.int .u64 0), .c (.int .u64 0), .c (.int .u64 0), .c (.int .u64 0), .c (.int .u64 0)] from ne_zerosP h0) 
      (And.intro (show smtP (.inr a) from ha) 
      (And.intro (show smtP (.inl (lowP (rtP ((ofP a) * (ofP a))))) ∧ ¬ hiP (lowP (rtP ((ofP a) * (ofP a)))) from ⟨trivial, not_hi_low _⟩) 
      (And.intro (show flat [.q (lowP (rtP ((ofP a) * (ofP a))))] = flat [.q (-(ofP a))] from by rw [low_rt, show lowP (ofP a) = (-(ofP a)) from if_pos hh]) 
      (And.intro (show smtP (.inl ((ofP a) * (ofP b))) ∧ ¬ sqP ((ofP a) * (ofP b)) from ⟨trivial, (by rw [sq_mul h0 g0]; simp [hs, gs])⟩) 
      (And.intro (show smtP (.inr a) ∧ smtP (.inr b) from ⟨ha, hb⟩) 
      (And.intro (show smtP (.inr b) ∧ ¬ sqP (ofP b) from ⟨hb, gs⟩) 
      (And.intro (show smtP (.inr a) ∧ sqP (ofP a) from ⟨ha, hs⟩) 
      (And.intro (show smtP (.inl ((ofP a) * (ofP a))) ∧ sqP ((ofP a) * (ofP a)) from ⟨trivial, sq_sq _⟩) 
      (And.intro (show smtP (.inr a) ∧ smtP (.inr a) from ⟨ha, ha⟩) 
      (And.intro (show smtP (.inr a) from ha) 
      (And.intro (show smtP (.inr a) ∧ hiP (ofP a) from ⟨ha, hh⟩) 
      (And.intro (show smtP (.inr a) from ha) trivial))))))))))))))))))))

theorem fpSquares_hn_z (a b : Nat) (ha : a < 39402006196394479212279040100143613805079739270465446667948293404245721771497210611414266254884915640806627990306816) (hb : b < 39402006196394479212279040100143613805079739270465446667948293404245721771497210611414266254884915640806627990306816) (h0 : (ofP a) ≠ 0) (hh : hiP (ofP a)) (hs : ¬ sqP (ofP a)) (g0 : (ofP b) = 0) : Gives Try.prog 13 [.t (.ag [.n 6 a]), .t (.ag [.n 6 b])] (.v (.bool true)) :=
  fn_gives (P := Try.prog) (env := [eAlP, eFCleanP, eFHighP, eFNegP, eFMulP, eFRootP]) ⟨eAlP_ok, eFCleanP_ok, eFHighP_ok, eFNegP_ok, eFMulP_ok, eFRootP_ok, trivial⟩ Try.func13 0 (oL [(23, wO 1), (57, wO 1), (66, wO 1), (87, wO 1), (92, wO 1)]) (by kernel_rfl)
      (And.intro (show smtP (.inl (-(ofP a))) ∧ ¬ hiP (-(ofP a)) from ⟨trivial, (fun h => (hi_neg h0).1 h hh)⟩) 
      (And.intro (show smtP (.inr a) from ha) 
      (And.intro (show smtP (.inr a) ∧ hiP (ofP a) from ⟨ha, hh⟩) 
      (And.intro (show ¬ flat [.q (ofP a)] = flat [.c (.int .u64 0), .c (.int .u64 0), .c (.int .u64 0), .c (.int .u64 0), .c (.int .u64 0), .c (.int .u64 0)] from ne_zerosP h0) 
      (And.intro (show smtP (.inr a) from ha) 
      (And.intro (show flat [.q (ofP b)] = flat [.c (.int .u64 0), .c (.int .u64 0), .c (.int .u64 0), .c (.int .u64 0), .c (.int .u64 0), .c (.int .u64 0)] from by rw [g0]; kernel_rfl) 
      (And.intro (show smtP (.inr b) from hb) 
      (And.intro (show ¬ flat [.q (ofP a)] = flat [.c (.int .u64 0), .c (.int .u64 0), .c (.int .u64 0), .c (.int .u64 0), .c (.int .u64 0), .c (.int .u64 0)] from ne_zerosP h0) 
      (And.intro (show smtP (.inr a) from ha) 
      (And.intro (show smtP (.inl (lowP (rtP ((ofP a) * (ofP a))))) ∧ ¬ hiP (lowP (rtP ((ofP a) * (ofP a)))) from ⟨trivial, not_hi_low _⟩) 
      (And.intro (show flat [.q (lowP (rtP ((ofP a) * (ofP a))))] = flat [.q (-(ofP a))] from by rw [low_rt, show lowP (ofP a) = (-(ofP a)) from if_pos hh]) 
      (And.intro (show smtP (.inl ((ofP a) * (ofP b))) ∧ sqP ((ofP a) * (ofP b)) from ⟨trivial, (by rw [g0, show (ofP a) * 0 = 0 from by grind]; exact sq_zero)⟩) 
      (And.intro (show smtP (.inr a) ∧ smtP (.inr b) from ⟨ha, hb⟩) 
      (And.intro (show smtP (.inr b) ∧ sqP (ofP b) from ⟨hb, (by rw [g0]; exact sq_zero)⟩) 
      (And.intro (show smtP (.inr a) ∧ ¬ sqP (ofP a) from ⟨ha, hs⟩) 
      (And.intro (show smtP (.inl ((ofP a) * (ofP a))) ∧ sqP ((ofP a) * (ofP a)) from ⟨trivial, sq_sq _⟩) 
      (And.intro (show smtP (.inr a) ∧ smtP (.inr a) from ⟨ha, ha⟩) 
      (And.intro (show smtP (.inr a) from ha) 
      (And.intro (show smtP (.inr a) ∧ hiP (ofP a) from ⟨ha, hh⟩) 
      (And.intro (show smtP (.inr a) from ha) trivial))))))))))))))))))))

theorem fpSquares_hn_y (a b : Nat) (ha : a < 39402006196394479212279040100143613805079739270465446667948293404245721771497210611414266254884915640806627990306816) (hb : b < 39402006196394479212279040100143613805079739270465446667948293404245721771497210611414266254884915640806627990306816) (h0 : (ofP a) ≠ 0) (hh : hiP (ofP a)) (hs : ¬ sqP (ofP a)) (g0 : (ofP b) ≠ 0) (gs : sqP (ofP b)) : Gives Try.prog 13 [.t (.ag [.n 6 a]), .t (.ag [.n 6 b])] (.v (.bool true)) :=
  fn_gives (P := Try.prog) (env := [eAlP, eFCleanP, eFHighP, eFNegP, eFMulP, eFRootP]) ⟨eAlP_ok, eFCleanP_ok, eFHighP_ok, eFNegP_ok, eFMulP_ok, eFRootP_ok, trivial⟩ Try.func13 0 (oL [(23, wO 1), (41, wO 1), (57, wO 1), (66, wO 1), (71, wO 1), (87, wO 1), (92, wO 1)]) (by kernel_rfl)
      (And.intro (show smtP (.inl (-(ofP a))) ∧ ¬ hiP (-(ofP a)) from ⟨trivial, (fun h => (hi_neg h0).1 h hh)⟩) 
      (And.intro (show smtP (.inr a) from ha) 
      (And.intro (show smtP (.inr a) ∧ hiP (ofP a) from ⟨ha, hh⟩) 
      (And.intro (show ¬ flat [.q (ofP a)] = flat [.c (.int .u64 0), .c (.int .u64 0), .c (.int .u64 0), .c (.int .u64 0), .c (.int .u64 0), .c (.int .u64 0)] from ne_zerosP h0) 
      (And.intro (show smtP (.inr a) from ha) 
      (And.intro (show ¬ flat [.q (ofP b)] = flat [.c (.int .u64 0), .c (.int .u64 0), .c (.int .u64 0), .c (.int .u64 0), .c (.int .u64 0), .c (.int .u64 0)] from ne_zerosP g0) 
      (And.intro (show smtP (.inr b) from hb) 
      (And.intro (show ¬ flat [.q (ofP a)] = flat [.c (.int .u64 0), .c (.int .u64 0), .c (.int .u64 0), .c (.int .u64 0), .c (.int .u64 0), .c (.int .u64 0)] from ne_zerosP h0) 
      (And.intro (show smtP (.inr a) from ha) 
      (And.intro (show smtP (.inl (lowP (rtP ((ofP a) * (ofP a))))) ∧ ¬ hiP (lowP (rtP ((ofP a) * (ofP a)))) from ⟨trivial, not_hi_low _⟩) 
      (And.intro (show flat [.q (lowP (rtP ((ofP a) * (ofP a))))] = flat [.q (-(ofP a))] from by rw [low_rt, show lowP (ofP a) = (-(ofP a)) from if_pos hh]) 
      (And.intro (show smtP (.inl ((ofP a) * (ofP b))) ∧ ¬ sqP ((ofP a) * (ofP b)) from ⟨trivial, (by rw [sq_mul h0 g0]; simp [hs, gs])⟩) 
      (And.intro (show smtP (.inr a) ∧ smtP (.inr b) from ⟨ha, hb⟩) 
      (And.intro (show smtP (.inr b) ∧ sqP (ofP b) from ⟨hb, gs⟩) 
      (And.intro (show smtP (.inr a) ∧ ¬ sqP (ofP a) from ⟨ha, hs⟩) 
      (And.intro (show smtP (.inl ((ofP a) * (ofP a))) ∧ sqP ((ofP a) * (ofP a)) from ⟨trivial, sq_sq _⟩) 
      (And.intro (show smtP (.inr a) ∧ smtP (.inr a) from ⟨ha, ha⟩) 
      (And.intro (show smtP (.inr a) from ha) 
      (And.intro (show smtP (.inr a) ∧ hiP (ofP a) from ⟨ha, hh⟩) 
      (And.intro (show smtP (.inr a) from ha) trivial))))))))))))))))))))

theorem fpSquares_hn_n (a b : Nat) (ha : a < 39402006196394479212279040100143613805079739270465446667948293404245721771497210611414266254884915640806627990306816) (hb : b < 39402006196394479212279040100143613805079739270465446667948293404245721771497210611414266254884915640806627990306816) (h0 : (ofP a) ≠ 0) (hh : hiP (ofP a)) (hs : ¬ sqP (ofP a)) (g0 : (ofP b) ≠ 0) (gs : ¬ sqP (ofP b)) : Gives Try.prog 13 [.t (.ag [.n 6 a]), .t (.ag [.n 6 b])] (.v (.bool true)) :=
  fn_gives (P := Try.prog) (env := [eAlP, eFCleanP, eFHighP, eFNegP, eFMulP, eFRootP]) ⟨eAlP_ok, eFCleanP_ok, eFHighP_ok, eFNegP_ok, eFMulP_ok, eFRootP_ok, trivial⟩ Try.func13 0 (oL [(23, wO 1), (31, wO 1), (57, wO 1), (66, wO 1), (71, wO 1), (87, wO 1), (92, wO 1)]) (by kernel_rfl)
      (And.intro (show smtP (.inl (-(ofP a))) ∧ ¬ hiP (-(ofP a)) from ⟨trivial, (fun h => (hi_neg h0).1 h hh)⟩) 
      (And.intro (show smtP (.inr a) from ha) 
      (And.intro (show smtP (.inr a) ∧ hiP (ofP a) from ⟨ha, hh⟩) 
      (And.intro (show ¬ flat [.q (ofP a)] = flat [.c (.int .u64 0), .c (.int .u64 0), .c (.int .u64 0), .c (.int .u64 0), .c (.int .u64 0), .c (.int .u64 0)] from ne_zerosP h0) 
      (And.intro (show smtP (.inr a) from ha) 
      (And.intro (show ¬ flat [.q (ofP b)] = flat [.c (.int .u64 0), .c (.int .u64 0), .c (.int .u64 0), .c (.int .u64 0), .c (.int .u64 0), .c (.int .u64 0)] from ne_zerosP g0) 
      (And.intro (show smtP (.inr b) from hb) 
      (And.intro (show ¬ flat [.q (ofP a)] = flat [.c (.int .u64 0), .c (.int .u64 0), .c (.int .u64 0), .c (.int .u64 0), .c (.int .u64 0), .c (.int .u64 0)] from ne_zerosP h0) 
      (And.intro (show smtP (.inr a) from ha) 
      (And.intro (show smtP (.inl (lowP (rtP ((ofP a) * (ofP a))))) ∧ ¬ hiP (lowP (rtP ((ofP a) * (ofP a)))) from ⟨trivial, not_hi_low _⟩) 
      (And.intro (show flat [.q (lowP (rtP ((ofP a) * (ofP a))))] = flat [.q (-(ofP a))] from by rw [low_rt, show lowP (ofP a) = (-(ofP a)) from if_pos hh]) 
      (And.intro (show smtP (.inl ((ofP a) * (ofP b))) ∧ sqP ((ofP a) * (ofP b)) from ⟨trivial, (by rw [sq_mul h0 g0]; simp [hs, gs])⟩) 
      (And.intro (show smtP (.inr a) ∧ smtP (.inr b) from ⟨ha, hb⟩) 
      (And.intro (show smtP (.inr b) ∧ ¬ sqP (ofP b) from ⟨hb, gs⟩) 
      (And.intro (show smtP (.inr a) ∧ ¬ sqP (ofP a) from ⟨ha, hs⟩) 
      (And.intro (show smtP (.inl ((ofP a) * (ofP a))) ∧ sqP ((ofP a) * (ofP a)) from ⟨trivial, sq_sq _⟩) 
      (And.intro (show smtP (.inr a) ∧ smtP (.inr a) from ⟨ha, ha⟩) 
      (And.intro (show smtP (.inr a) from ha) 
      (And.intro (show smtP (.inr a) ∧ hiP (ofP a) from ⟨ha, hh⟩) 
      (And.intro (show smtP (.inr a) from ha) trivial))))))))))))))))))))

theorem fpSquares_ly_z (a b : Nat) (ha : a < 39402006196394479212279040100143613805079739270465446667948293404245721771497210611414266254884915640806627990306816) (hb : b < 39402006196394479212279040100143613805079739270465446667948293404245721771497210611414266254884915640806627990306816) (h0 : (ofP a) ≠ 0) (hh : ¬ hiP (ofP a)) (hs : sqP (ofP a)) (g0 : (ofP b) = 0) : Gives Try.prog 13 [.t (.ag [.n 6 a]), .t (.ag [.n 6 b])] (.v (.bool true)) :=
  fn_gives (P := Try.prog) (env := [eAlP, eFCleanP, eFHighP, eFNegP, eFMulP, eFRootP]) ⟨eAlP_ok, eFCleanP_ok, eFHighP_ok, eFNegP_ok, eFMulP_ok, eFRootP_ok, trivial⟩ Try.func13 0 (oL [(8, wO 1), (54, wO 1), (63, wO 1), (84, wO 1), (86, wO 1)]) (by kernel_rfl)
      (And.intro (show smtP (.inl (-(ofP a))) ∧ hiP (-(ofP a)) from ⟨trivial, ((hi_neg h0).2 hh)⟩) 
      (And.intro (show smtP (.inr a) from ha) 
      (And.intro (show smtP (.inr a) ∧ ¬ hiP (ofP a) from ⟨ha, hh⟩) 
      (And.intro (show ¬ flat [.q (ofP a)] = flat [.c (.int .u64 0), .c (.int .u64 0), .c (.int .u64 0), .c (.int .u64 0), .c (.int .u64 0), .c (.int .u64 0)] from ne_zerosP h0) 
      (And.intro (show smtP (.inr a) from ha) 
      (And.intro (show flat [.q (ofP b)] = flat [.c (.int .u64 0), .c (.int .u64 0), .c (.int .u64 0), .c (.int .u64 0), .c (.int .u64 0), .c (.int .u64 0)] from by rw [g0]; kernel_rfl) 
      (And.intro (show smtP (.inr b) from hb) 
      (And.intro (show ¬ flat [.q (ofP a)] = flat [.c (.int .u64 0), .c (.int .u64 0), .c (.int .u64 0), .c (.int .u64 0), .c (.int .u64 0), .c (.int .u64 0)] from ne_zerosP h0) 
      (And.intro (show smtP (.inr a) from ha) 
      (And.intro (show smtP (.inl (lowP (rtP ((ofP a) * (ofP a))))) ∧ ¬ hiP (lowP (rtP ((ofP a) * (ofP a)))) from ⟨trivial, not_hi_low _⟩) 
      (And.intro (show flat [.q (lowP (rtP ((ofP a) * (ofP a))))] = flat [.q (ofP a)] from by rw [low_rt, show lowP (ofP a) = (ofP a) from if_neg hh]) 
      (And.intro (show smtP (.inl ((ofP a) * (ofP b))) ∧ sqP ((ofP a) * (ofP b)) from ⟨trivial, (by rw [g0, show (ofP a) * 0 = 0 from by grind]; exact sq_zero)⟩) 
      (And.intro (show smtP (.inr a) ∧ smtP (.inr b) from ⟨ha, hb⟩) 
      (And.intro (show smtP (.inr b) ∧ sqP (ofP b) from ⟨hb, (by rw [g0]; exact sq_zero)⟩) 
      (And.intro (show smtP (.inr a) ∧ sqP (ofP a) from ⟨ha, hs⟩) 
      (And.intro (show smtP (.inl ((ofP a) * (ofP a))) ∧ sqP ((ofP a) * (ofP a)) from ⟨trivial, sq_sq _⟩) 
      (And.intro (show smtP (.inr a) ∧ smtP (.inr a) from ⟨ha, ha⟩) 
      (And.intro (show smtP (.inr a) ∧ ¬ hiP (ofP a) from ⟨ha, hh⟩) 
      (And.intro (show smtP (.inr a) from ha) trivial)))))))))))))))))))

theorem fpSquares_ly_y (a b : Nat) (ha : a < 39402006196394479212279040100143613805079739270465446667948293404245721771497210611414266254884915640806627990306816) (hb : b < 39402006196394479212279040100143613805079739270465446667948293404245721771497210611414266254884915640806627990306816) (h0 : (ofP a) ≠ 0) (hh : ¬ hiP (ofP a)) (hs : sqP (ofP a)) (g0 : (ofP b) ≠ 0) (gs : sqP (ofP b)) : Gives Try.prog 13 [.t (.ag [.n 6 a]), .t (.ag [.n 6 b])] (.v (.bool true)) :=
  fn_gives (P := Try.prog) (env := [eAlP, eFCleanP, eFHighP, eFNegP, eFMulP, eFRootP]) ⟨eAlP_ok, eFCleanP_ok, eFHighP_ok, eFNegP_ok, eFMulP_ok, eFRootP_ok, trivial⟩ Try.func13 0 (oL [(8, wO 1), (54, wO 1), (63, wO 1), (68, wO 1), (84, wO 1), (86, wO 1)]) (by kernel_rfl)
      (And.intro (show smtP (.inl (-(ofP a))) ∧ hiP (-(ofP a)) from ⟨trivial, ((hi_neg h0).2 hh)⟩) 
      (And.intro (show smtP (.inr a) from ha) 
      (And.intro (show smtP (.inr a) ∧ ¬ hiP (ofP a) from ⟨ha, hh⟩) 
      (And.intro (show ¬ flat [.q (ofP a)] = flat [.c (.int .u64 0), .c (.int .u64 0), .c (.int .u64 0), .c (.int .u64 0), .c (.int .u64 0), .c (.int .u64 0)] from ne_zerosP h0) 
      (And.intro (show smtP (.inr a) from ha) 
      (And.intro (show ¬ flat [.q (ofP b)] = flat [.c (.int .u64 0), .c (.int .u64 0), .c (.int .u64 0), .c (.int .u64 0), .c (.int .u64 0), .c (.int .u64 0)] from ne_zerosP g0) 
      (And.intro (show smtP (.inr b) from hb) 
      (And.intro (show ¬ flat [.q (ofP a)] = flat [.c (.int .u64 0), .c (.int .u64 0), .c (.int .u64 0), .c (.int .u64 0), .c (.int .u64 0), .c (.int .u64 0)] from ne_zerosP h0) 
      (And.intro (show smtP (.inr a) from ha) 
      (And.intro (show smtP (.inl (lowP (rtP ((ofP a) * (ofP a))))) ∧ ¬ hiP (lowP (rtP ((ofP a) * (ofP a)))) from ⟨trivial, not_hi_low _⟩) 
      (And.intro (show flat [.q (lowP (rtP ((ofP a) * (ofP a))))] = flat [.q (ofP a)] from by rw [low_rt, show lowP (ofP a) = (ofP a) from if_neg hh]) 
      (And.intro (show smtP (.inl ((ofP a) * (ofP b))) ∧ sqP ((ofP a) * (ofP b)) from ⟨trivial, (by rw [sq_mul h0 g0]; simp [hs, gs])⟩) 
      (And.intro (show smtP (.inr a) ∧ smtP (.inr b) from ⟨ha, hb⟩) 
      (And.intro (show smtP (.inr b) ∧ sqP (ofP b) from ⟨hb, gs⟩) 
      (And.intro (show smtP (.inr a) ∧ sqP (ofP a) from ⟨ha, hs⟩) 
      (And.intro (show smtP (.inl ((ofP a) * (ofP a))) ∧ sqP ((ofP a) * (ofP a)) from ⟨trivial, sq_sq _⟩) 
      (And.intro (show smtP (.inr a) ∧ smtP (.inr a) from ⟨ha, ha⟩) 
      (And.intro (show smtP (.inr a) ∧ ¬ hiP (ofP a) from ⟨ha, hh⟩) 
      (And.intro (show smtP (.inr a) from ha) trivial)))))))))))))))))))

theorem fpSquares_ly_n (a b : Nat) (ha : a < 39402006196394479212279040100143613805079739270465446667948293404245721771497210611414266254884915640806627990306816) (hb : b < 39402006196394479212279040100143613805079739270465446667948293404245721771497210611414266254884915640806627990306816) (h0 : (ofP a) ≠ 0) (hh : ¬ hiP (ofP a)) (hs : sqP (ofP a)) (g0 : (ofP b) ≠ 0) (gs : ¬ sqP (ofP b)) : Gives Try.prog 13 [.t (.ag [.n 6 a]), .t (.ag [.n 6 b])] (.v (.bool true)) :=
  fn_gives (P := Try.prog) (env := [eAlP, eFCleanP, eFHighP, eFNegP, eFMulP, eFRootP]) ⟨eAlP_ok, eFCleanP_ok, eFHighP_ok, eFNegP_ok, eFMulP_ok, eFRootP_ok, trivial⟩ Try.func13 0 (oL [(8, wO 1), (28, wO 1), (38, wO 1), (54, wO 1), (63, wO 1), (68, wO 1), (84, wO 1), (86, wO 1)]) (by kernel_rfl)
      (And.intro (show smtP (.inl (-(ofP a))) ∧ hiP (-(ofP a)) from ⟨trivial, ((hi_neg h0).2 hh)⟩) 
      (And.intro (show smtP (.inr a) from ha) 
      (And.intro (show smtP (.inr a) ∧ ¬ hiP (ofP a) from ⟨ha, hh⟩) 
      (And.intro (show ¬ flat [.q (ofP a)] = flat [.c (.int .u64 0), .c (.int .u64 0), .c (.int .u64 0), .c (.int .u64 0), .c (.int .u64 0), .c (.int .u64 0)] from ne_zerosP h0) 
      (And.intro (show smtP (.inr a) from ha) 
      (And.intro (show ¬ flat [.q (ofP b)] = flat [.c (.int .u64 0), .c (.int .u64 0), .c (.int .u64 0), .c (.int .u64 0), .c (.int .u64 0), .c (.int .u64 0)] from ne_zerosP g0) 
      (And.intro (show smtP (.inr b) from hb) 
      (And.intro (show ¬ flat [.q (ofP a)] = flat [.c (.int .u64 0), .c (.int .u64 0), .c (.int .u64 0), .c (.int .u64 0), .c (.int .u64 0), .c (.int .u64 0)] from ne_zerosP h0) 
      (And.intro (show smtP (.inr a) from ha) 
      (And.intro (show smtP (.inl (lowP (rtP ((ofP a) * (ofP a))))) ∧ ¬ hiP (lowP (rtP ((ofP a) * (ofP a)))) from ⟨trivial, not_hi_low _⟩) 
      (And.intro (show flat [.q (lowP (rtP ((ofP a) * (ofP a))))] = flat [.q (ofP a)] from by rw [low_rt, show lowP (ofP a) = (ofP a) from if_neg hh]) 
      (And.intro (show smtP (.inl ((ofP a) * (ofP b))) ∧ ¬ sqP ((ofP a) * (ofP b)) from ⟨trivial, (by rw [sq_mul h0 g0]; simp [hs, gs])⟩) 
      (And.intro (show smtP (.inr a) ∧ smtP (.inr b) from ⟨ha, hb⟩) 
      (And.intro (show smtP (.inr b) ∧ ¬ sqP (ofP b) from ⟨hb, gs⟩) 
      (And.intro (show smtP (.inr a) ∧ sqP (ofP a) from ⟨ha, hs⟩) 
      (And.intro (show smtP (.inl ((ofP a) * (ofP a))) ∧ sqP ((ofP a) * (ofP a)) from ⟨trivial, sq_sq _⟩) 
      (And.intro (show smtP (.inr a) ∧ smtP (.inr a) from ⟨ha, ha⟩) 
      (And.intro (show smtP (.inr a) ∧ ¬ hiP (ofP a) from ⟨ha, hh⟩) 
      (And.intro (show smtP (.inr a) from ha) trivial)))))))))))))))))))

theorem fpSquares_ln_z (a b : Nat) (ha : a < 39402006196394479212279040100143613805079739270465446667948293404245721771497210611414266254884915640806627990306816) (hb : b < 39402006196394479212279040100143613805079739270465446667948293404245721771497210611414266254884915640806627990306816) (h0 : (ofP a) ≠ 0) (hh : ¬ hiP (ofP a)) (hs : ¬ sqP (ofP a)) (g0 : (ofP b) = 0) : Gives Try.prog 13 [.t (.ag [.n 6 a]), .t (.ag [.n 6 b])] (.v (.bool true)) :=
  fn_gives (P := Try.prog) (env := [eAlP, eFCleanP, eFHighP, eFNegP, eFMulP, eFRootP]) ⟨eAlP_ok, eFCleanP_ok, eFHighP_ok, eFNegP_ok, eFMulP_ok, eFRootP_ok, trivial⟩ Try.func13 0 (oL [(8, wO 1), (20, wO 1), (54, wO 1), (63, wO 1), (84, wO 1), (86, wO 1)]) (by kernel_rfl)
      (And.intro (show smtP (.inl (-(ofP a))) ∧ hiP (-(ofP a)) from ⟨trivial, ((hi_neg h0).2 hh)⟩) 
      (And.intro (show smtP (.inr a) from ha) 
      (And.intro (show smtP (.inr a) ∧ ¬ hiP (ofP a) from ⟨ha, hh⟩) 
      (And.intro (show ¬ flat [.q (ofP a)] = flat [.c (.int .u64 0), .c (.int .u64 0), .c (.int .u64 0), .c (.int .u64 0), .c (.int .u64 0), .c (.int .u64 0)] from ne_zerosP h0) 
      (And.intro (show smtP (.inr a) from ha) 
      (And.intro (show flat [.q (ofP b)] = flat [.c (.int .u64 0), .c (.int .u64 0), .c (.int .u64 0), .c (.int .u64 0), .c (.int .u64 0), .c (.int .u64 0)] from by rw [g0]; kernel_rfl) 
      (And.intro (show smtP (.inr b) from hb) 
      (And.intro (show ¬ flat [.q (ofP a)] = flat [.c (.int .u64 0), .c (.int .u64 0), .c (.int .u64 0), .c (.int .u64 0), .c (.int .u64 0), .c (.int .u64 0)] from ne_zerosP h0) 
      (And.intro (show smtP (.inr a) from ha) 
      (And.intro (show smtP (.inl (lowP (rtP ((ofP a) * (ofP a))))) ∧ ¬ hiP (lowP (rtP ((ofP a) * (ofP a)))) from ⟨trivial, not_hi_low _⟩) 
      (And.intro (show flat [.q (lowP (rtP ((ofP a) * (ofP a))))] = flat [.q (ofP a)] from by rw [low_rt, show lowP (ofP a) = (ofP a) from if_neg hh]) 
      (And.intro (show smtP (.inl ((ofP a) * (ofP b))) ∧ sqP ((ofP a) * (ofP b)) from ⟨trivial, (by rw [g0, show (ofP a) * 0 = 0 from by grind]; exact sq_zero)⟩) 
      (And.intro (show smtP (.inr a) ∧ smtP (.inr b) from ⟨ha, hb⟩) 
      (And.intro (show smtP (.inr b) ∧ sqP (ofP b) from ⟨hb, (by rw [g0]; exact sq_zero)⟩) 
      (And.intro (show smtP (.inr a) ∧ ¬ sqP (ofP a) from ⟨ha, hs⟩) 
      (And.intro (show smtP (.inl ((ofP a) * (ofP a))) ∧ sqP ((ofP a) * (ofP a)) from ⟨trivial, sq_sq _⟩) 
      (And.intro (show smtP (.inr a) ∧ smtP (.inr a) from ⟨ha, ha⟩) 
      (And.intro (show smtP (.inr a) ∧ ¬ hiP (ofP a) from ⟨ha, hh⟩) 
      (And.intro (show smtP (.inr a) from ha) trivial)))))))))))))))))))

theorem fpSquares_ln_y (a b : Nat) (ha : a < 39402006196394479212279040100143613805079739270465446667948293404245721771497210611414266254884915640806627990306816) (hb : b < 39402006196394479212279040100143613805079739270465446667948293404245721771497210611414266254884915640806627990306816) (h0 : (ofP a) ≠ 0) (hh : ¬ hiP (ofP a)) (hs : ¬ sqP (ofP a)) (g0 : (ofP b) ≠ 0) (gs : sqP (ofP b)) : Gives Try.prog 13 [.t (.ag [.n 6 a]), .t (.ag [.n 6 b])] (.v (.bool true)) :=
  fn_gives (P := Try.prog) (env := [eAlP, eFCleanP, eFHighP, eFNegP, eFMulP, eFRootP]) ⟨eAlP_ok, eFCleanP_ok, eFHighP_ok, eFNegP_ok, eFMulP_ok, eFRootP_ok, trivial⟩ Try.func13 0 (oL [(8, wO 1), (20, wO 1), (38, wO 1), (54, wO 1), (63, wO 1), (68, wO 1), (84, wO 1), (86, wO 1)]) (by kernel_rfl)
      (And.intro (show smtP (.inl (-(ofP a))) ∧ hiP (-(ofP a)) from ⟨trivial, ((hi_neg h0).2 hh)⟩) 
      (And.intro (show smtP (.inr a) from ha) 
      (And.intro (show smtP (.inr a) ∧ ¬ hiP (ofP a) from ⟨ha, hh⟩) 
      (And.intro (show ¬ flat [.q (ofP a)] = flat [.c (.int .u64 0), .c (.int .u64 0), .c (.int .u64 0), .c (.int .u64 0), .c (.int .u64 0), .c (.int .u64 0)] from ne_zerosP h0) 
      (And.intro (show smtP (.inr a) from ha) 
      (And.intro (show ¬ flat [.q (ofP b)] = flat [.c (.int .u64 0), .c (.int .u64 0), .c (.int .u64 0), .c (.int .u64 0), .c (.int .u64 0), .c (.int .u64 0)] from ne_zerosP g0) 
      (And.intro (show smtP (.inr b) from hb) 
      (And.intro (show ¬ flat [.q (ofP a)] = flat [.c (.int .u64 0), .c (.int .u64 0), .c (.int .u64 0), .c (.int .u64 0), .c (.int .u64 0), .c (.int .u64 0)] from ne_zerosP h0) 
      (And.intro (show smtP (.inr a) from ha) 
      (And.intro (show smtP (.inl (lowP (rtP ((ofP a) * (ofP a))))) ∧ ¬ hiP (lowP (rtP ((ofP a) * (ofP a)))) from ⟨trivial, not_hi_low _⟩) 
      (And.intro (show flat [.q (lowP (rtP ((ofP a) * (ofP a))))] = flat [.q (ofP a)] from by rw [low_rt, show lowP (ofP a) = (ofP a) from if_neg hh]) 
      (And.intro (show smtP (.inl ((ofP a) * (ofP b))) ∧ ¬ sqP ((ofP a) * (ofP b)) from ⟨trivial, (by rw [sq_mul h0 g0]; simp [hs, gs])⟩) 
      (And.intro (show smtP (.inr a) ∧ smtP (.inr b) from ⟨ha, hb⟩) 
      (And.intro (show smtP (.inr b) ∧ sqP (ofP b) from ⟨hb, gs⟩) 
      (And.intro (show smtP (.inr a) ∧ ¬ sqP (ofP a) from ⟨ha, hs⟩) 
      (And.intro (show smtP (.inl ((ofP a) * (ofP a))) ∧ sqP ((ofP a) * (ofP a)) from ⟨trivial, sq_sq _⟩) 
      (And.intro (show smtP (.inr a) ∧ smtP (.inr a) from ⟨ha, ha⟩) 
      (And.intro (show smtP (.inr a) ∧ ¬ hiP (ofP a) from ⟨ha, hh⟩) 
      (And.intro (show smtP (.inr a) from ha) trivial)))))))))))))))))))

theorem fpSquares_ln_n (a b : Nat) (ha : a < 39402006196394479212279040100143613805079739270465446667948293404245721771497210611414266254884915640806627990306816) (hb : b < 39402006196394479212279040100143613805079739270465446667948293404245721771497210611414266254884915640806627990306816) (h0 : (ofP a) ≠ 0) (hh : ¬ hiP (ofP a)) (hs : ¬ sqP (ofP a)) (g0 : (ofP b) ≠ 0) (gs : ¬ sqP (ofP b)) : Gives Try.prog 13 [.t (.ag [.n 6 a]), .t (.ag [.n 6 b])] (.v (.bool true)) :=
  fn_gives (P := Try.prog) (env := [eAlP, eFCleanP, eFHighP, eFNegP, eFMulP, eFRootP]) ⟨eAlP_ok, eFCleanP_ok, eFHighP_ok, eFNegP_ok, eFMulP_ok, eFRootP_ok, trivial⟩ Try.func13 0 (oL [(8, wO 1), (20, wO 1), (28, wO 1), (54, wO 1), (63, wO 1), (68, wO 1), (84, wO 1), (86, wO 1)]) (by kernel_rfl)
      (And.intro (show smtP (.inl (-(ofP a))) ∧ hiP (-(ofP a)) from ⟨trivial, ((hi_neg h0).2 hh)⟩) 
      (And.intro (show smtP (.inr a) from ha) 
      (And.intro (show smtP (.inr a) ∧ ¬ hiP (ofP a) from ⟨ha, hh⟩) 
      (And.intro (show ¬ flat [.q (ofP a)] = flat [.c (.int .u64 0), .c (.int .u64 0), .c (.int .u64 0), .c (.int .u64 0), .c (.int .u64 0), .c (.int .u64 0)] from ne_zerosP h0) 
      (And.intro (show smtP (.inr a) from ha) 
      (And.intro (show ¬ flat [.q (ofP b)] = flat [.c (.int .u64 0), .c (.int .u64 0), .c (.int .u64 0), .c (.int .u64 0), .c (.int .u64 0), .c (.int .u64 0)] from ne_zerosP g0) 
      (And.intro (show smtP (.inr b) from hb) 
      (And.intro (show ¬ flat [.q (ofP a)] = flat [.c (.int .u64 0), .c (.int .u64 0), .c (.int .u64 0), .c (.int .u64 0), .c (.int .u64 0), .c (.int .u64 0)] from ne_zerosP h0) 
      (And.intro (show smtP (.inr a) from ha) 
      (And.intro (show smtP (.inl (lowP (rtP ((ofP a) * (ofP a))))) ∧ ¬ hiP (lowP (rtP ((ofP a) * (ofP a)))) from ⟨trivial, not_hi_low _⟩) 
      (And.intro (show flat [.q (lowP (rtP ((ofP a) * (ofP a))))] = flat [.q (ofP a)] from by rw [low_rt, show lowP (ofP a) = (ofP a) from if_neg hh]) 
      (And.intro (show smtP (.inl ((ofP a) * (ofP b))) ∧ sqP ((ofP a) * (ofP b)) from ⟨trivial, (by rw [sq_mul h0 g0]; simp [hs, gs])⟩) 
      (And.intro (show smtP (.inr a) ∧ smtP (.inr b) from ⟨ha, hb⟩) 
      (And.intro (show smtP (.inr b) ∧ ¬ sqP (ofP b) from ⟨hb, gs⟩) 
      (And.intro (show smtP (.inr a) ∧ ¬ sqP (ofP a) from ⟨ha, hs⟩) 
      (And.intro (show smtP (.inl ((ofP a) * (ofP a))) ∧ sqP ((ofP a) * (ofP a)) from ⟨trivial, sq_sq _⟩) 
      (And.intro (show smtP (.inr a) ∧ smtP (.inr a) from ⟨ha, ha⟩) 
      (And.intro (show smtP (.inr a) ∧ ¬ hiP (ofP a) from ⟨ha, hh⟩) 
      (And.intro (show smtP (.inr a) from ha) trivial)))))))))))))))))))

theorem fpSquares_gives (a b : Nat) (ha : a < 39402006196394479212279040100143613805079739270465446667948293404245721771497210611414266254884915640806627990306816) (hb : b < 39402006196394479212279040100143613805079739270465446667948293404245721771497210611414266254884915640806627990306816) : Gives Try.prog 13 [.t (.ag [.n 6 a]), .t (.ag [.n 6 b])] (.v (.bool true)) := by
  by_cases g0 : ofP b = 0
  · by_cases h0 : ofP a = 0
    · exact fpSquares_z_z a b ha hb h0 g0
    · by_cases hh : hiP (ofP a) <;> by_cases hs : sqP (ofP a)
      · exact fpSquares_hy_z a b ha hb h0 hh hs g0
      · exact fpSquares_hn_z a b ha hb h0 hh hs g0
      · exact fpSquares_ly_z a b ha hb h0 hh hs g0
      · exact fpSquares_ln_z a b ha hb h0 hh hs g0
  · by_cases h0 : ofP a = 0
    · by_cases gs : sqP (ofP b)
      · exact fpSquares_z_y a b ha hb h0 g0 gs
      · exact fpSquares_z_n a b ha hb h0 g0 gs
    · by_cases hh : hiP (ofP a) <;> by_cases hs : sqP (ofP a) <;> by_cases gs : sqP (ofP b)
      · exact fpSquares_hy_y a b ha hb h0 hh hs g0 gs
      · exact fpSquares_hy_n a b ha hb h0 hh hs g0 gs
      · exact fpSquares_hn_y a b ha hb h0 hh hs g0 gs
      · exact fpSquares_hn_n a b ha hb h0 hh hs g0 gs
      · exact fpSquares_ly_y a b ha hb h0 hh hs g0 gs
      · exact fpSquares_ly_n a b ha hb h0 hh hs g0 gs
      · exact fpSquares_ln_y a b ha hb h0 hh hs g0 gs
      · exact fpSquares_ln_n a b ha hb h0 hh hs g0 gs

theorem Try.own : ownKnob Try.prog.godebug = none := by kernel_rfl

set_option maxRecDepth 100000 in
theorem fpSquares_lifted (os : Os) (started : os.Started) (H : Type) (enc : TypeId × Value → H) :
    ReturnsInHanded {} Try.checked os 13 .any (Rows.fpSquaresSpec.pre6 enc Try.prog Try.f13 Rows.fpSquaresRow.domain false) (Rows.fpSquaresSpec.post enc Try.prog Try.f13 false true false false) := by
  refine returnsInHanded_of_change (C := Try.checked) Try.own started (by kernel_rfl) Try.func13
    (ChangeSpec.witness6 (enc := enc) (C := Try.checked) false ⟨#[], #[.agg (Array.replicate 6 (.int .u64 0)), .agg (Array.replicate 6 (.int .u64 0))], []⟩ 8 (by kernel_rfl) (by kernel_rfl) (by kernel_rfl) (by kernel_rfl)) ?_
  intro W base args ds gs before hval0 hW _ _
  have hval : ∀ (j : Nat) t v, Try.f13.params[j]? = some t → args[j]? = some v → Value.okWide Try.prog W .any base t v := hval0
  have hW' := hW
  obtain ⟨p, q, hA0, hV, rfl, _, _⟩ := hW
  have hA : DataW.TrodAll enc Try.prog W 0 (fun _ => true) true Try.f13.params.toList args.toList ds p := hA0
  rw [Try.params13] at hA hval
  obtain ⟨v0, v1, d0, d1, p0, p1, rfl, rfl, rfl, h0, h1⟩ := trodAll_two hA
  obtain ⟨rfl, rfl⟩ := trodVars_none hV
  obtain ⟨c0, rfl, u0, l0, rfl, s0⟩ := open_flat 8 (by kernel_rfl) (by kernel_rfl) (hval 0 _ v0 rfl rfl) h0
  obtain ⟨x0, b0, rfl⟩ := u_limbs 6 c0 u0 (l0.trans (by kernel_rfl))
  replace b0 := Nat.lt_of_lt_of_eq b0 (show _ = 39402006196394479212279040100143613805079739270465446667948293404245721771497210611414266254884915640806627990306816 from rfl)
  obtain ⟨c1, rfl, u1, l1, rfl, s1⟩ := open_flat 8 (by kernel_rfl) (by kernel_rfl) (hval 1 _ v1 rfl rfl) h1
  obtain ⟨x1, b1, rfl⟩ := u_limbs 6 c1 u1 (l1.trans (by kernel_rfl))
  replace b1 := Nat.lt_of_lt_of_eq b1 (show _ = 39402006196394479212279040100143613805079739270465446667948293404245721771497210611414266254884915640806627990306816 from rfl)
  clear hA0 hval0
  simp only [List.append_nil] at hW'
  obtain ⟨v, hv, hrun⟩ := fpSquares_gives x0 x1 b0 b1
  simp only [AV.val?, Option.some.injEq] at hv
  subst hv
  refine (hrun W [_, _] ⟨rfl, rfl, trivial⟩).mono fun e W' ⟨he, hb⟩ => ?_
  subst he
  exact ⟨_, rfl, _, _, _, [], [], [], hW', trodAll_mk1 (shut_bool Try.underlying4 true), trodAll_mk2 (s0 _ _ _ _) (s1 _ _ _ _), rfl, hb.frame _, fun h => by cases h⟩

theorem fpSquares_holds : Rows.FpSquaresSaid :=
  OpenClaim.holds_of_wide 13 Try.f13 rfl rfl rfl rfl rfl rfl rfl ⟨rfl, rfl, rfl, rfl, rfl⟩ rfl rfl rfl rfl rfl (by kernel_rfl) Try.func13 (by kernel_rfl)
    (of_decide_eq_true (by kernel_rfl)) (by unfold Func.isWrapper; first | (rw [if_pos (by decide +kernel)]; kernel_rfl) | (rw [if_neg (by decide +kernel)]; exact ⟨rfl, rfl⟩))
    (fun os started H enc _ => fpSquares_lifted os started H enc)
end Go.Proofs.Ytncnnngfemhaeaa
