/- A rule: a slice is made whose length has a name. Nothing here names a program. -/
import Derived.Test.YtoahfmgdlpgjoaaRun
set_option linter.unusedSimpArgs false
set_option linter.unusedVariables false
namespace Go.Ev
open Go.RowKit

/-- Zero cells, one behind another. -/
def zerosL (z : List Value) (n : Nat) : List Value := (List.range n).map fun j => z.getD (j % z.length) default
theorem zerosL_made (z : Array Value) (n : Nat) : zerosL z.toList n = (madeCells z n).toList := by
  have h := (zerosA_flat noNames z n).1
  have e : zerosA z.toList n = (zerosL z.toList n).map .c := by unfold zerosA zerosL; rw [List.map_map]; rfl
  rw [e, (flatR_c noNames _).1] at h
  exact h

/-- A slice is made, of a length that has a name (hi 0): told its cells. -/
def xMk (P : Program) : XRule P where
  fn ora k h avs op := match op, avs with
    | .makeSlice T _ _, [.v (.int _ n), .v (.int _ m)] => (match P.underlying T with
      | some (.slice e) => (match P.info? e with
        | some ie => (match ie.zero, pureC (ora.cs 0) with
          | some z, true => some (some (n = ((ora.hi 0 : Nat) : Int) ∧ m = ((ora.hi 0 : Nat) : Int) ∧ ie.bytes * ora.hi 0 ≤ 281474976710656 ∧ ora.hi 0 ≤ 9223372036854775807 ∧ flat (ora.cs 0) = zerosL z.cells.toList (ora.hi 0 * ie.size)), .sl k 0 (ora.hi 0) (ora.hi 0), [(k, .own (ora.cs 0) e)])
          | _, _ => none)
        | none => none)
      | _ => none)
    | _, _ => none
  fresh ora k h avs op c r ups he hf := by
    split at he
    · split at he
      · split at he
        · split at he
          · simp only [Option.some.injEq, Prod.mk.injEq] at he
            obtain ⟨rfl, rfl, rfl⟩ := he
            intro j hj
            simp only [setAll]
            rw [Heap.put_ne _ (by omega)]
            exact hf j (by omega)
          · cases he
        · cases he
      · cases he
    · cases he
  ok ora k h avs op c r ups he hc hf := by
    intro F hF n w0 ρ w a o ho hr hbel hh K Q hK
    split at he
    · rename_i T x y kl q1 kc q2
      split at he
      · rename_i e hT
        split at he
        · rename_i ie hie
          split at he
          · rename_i z hz hp
            simp only [Option.some.injEq, Prod.mk.injEq] at he
            obtain ⟨rfl, rfl, rfl⟩ := he
            simp only [Option.getD_some] at hc
            obtain ⟨rfl, rfl, hb, h63, hcs⟩ := hc
            simp only [Op.operands, Reps, Rep] at hr
            obtain ⟨v1, r1, e1, rfl, v2, r2, rfl, rfl, rfl⟩ := hr
            simp at e1
            obtain ⟨p1, p2⟩ := pureC_flat ρ hp
            have hr := run_make (P := P) w T e ie z hT hie hz kl kc ((ora.hi 0 : Nat) : Int) ((ora.hi 0 : Nat) : Int) (by omega) (Int.le_refl _) (by rw [← Int.natCast_mul]; exact (show ∀ m : Nat, m ≤ 281474976710656 → (m : Int) ≤ 281474976710656 from fun m h => by omega) _ hb) (by omega)
            have hcells : (flatR ρ (ora.cs 0)).toArray = madeCells z.cells (ora.hi 0 * ie.size) := by
              rw [p1, hcs, zerosL_made, Array.toArray_toList]
            have hrun : (execOp a.eval o).run P w = .ok (.value (.slice (some ⟨w.heap.size, 0, none⟩) (ora.hi 0) (ora.hi 0))) (w.alloc (.cells (flatR ρ (ora.cs 0)).toArray e)) := by
              rw [hcells]
              simp [execOp, ho, e1.1, e1.2, hr]
            refine wpIn_iff hF (fun c hc' => by rw [ho] at hc'; cases hc') ?_
            rw [hrun]
            obtain ⟨f1, f2⟩ := hh.new (hf k (Nat.le_refl _)) (.cells (flatR ρ (ora.cs 0)).toArray e) (.own (ora.cs 0) e) ⟨rfl, hh.size, (pureC_flat _ hp).2, by rw [(pureC_flat (ρ.new k w.heap.size) hp).1, p1]; show (w.heap.push _)[w.heap.size]? = _; simp⟩
            refine hK _ _ _ f2 ?_ (hbel.alloc hbel.size _) f1
            simp only [Rep]
            exact ⟨_, Names.new_eq _ _ _, rfl⟩
          · cases he
        · cases he
      · cases he
    · cases he

/-- Zeros, one behind another. -/
theorem zerosL_rep (v : Value) (m n : Nat) : zerosL (List.replicate (m + 1) v) n = List.replicate n v := by
  unfold zerosL
  have e : ∀ j, j ∈ List.range n → (fun j => (List.replicate (m + 1) v).getD (j % (List.replicate (m + 1) v).length) default) j = (fun _ => v) j := fun j _ => by
    simp only [List.length_replicate]
    rw [List.getD_eq_getElem?_getD, List.getElem?_replicate, if_pos (Nat.mod_lt _ (by omega))]; rfl
  rw [List.map_congr_left e, List.map_const', List.length_range]

def rulesW (P : Program) : Rules P := { q := (rulesY P).q, x := (rulesY P).x ++ [xMk P], d := (rulesY P).d }
end Go.Ev
