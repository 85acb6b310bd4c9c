/- Rules: the bytes of a string; stores into rows that may have room. Nothing here names a program. -/
import Derived.Test.YtoahfmgdlpgjoaaRuy
set_option linter.unusedSimpArgs false
set_option linter.unusedVariables false
namespace Go.Ev
open Go.RowKit

variable {P : Program}

/-- '[]byte(s)': told pieces that are the bytes. -/
def xByt (P : Program) : XRule P where
  fn ora k h avs op := match op, avs with
    | .convert src dst _, [.v (.string s)] => (match P.underlying src, P.underlying dst with
      | some .string, some (.slice e) => (match P.underlying e, pureC (ora.cs 0) with
        | some (.int .u8), true => some (some (flat (ora.cs 0) = s.data.toList.map byteV), .sx k s.size, [(k, .gr (ora.cs 0) e 1)])
        | _, _ => none)
      | _, _ => none)
    | _, _ => none
  fresh ora k h avs op c r ups he hf := by
    split at he
    · split at he
      · split at he
        · simp only [Option.some.injEq, Prod.mk.injEq] at he
          obtain ⟨rfl, rfl, rfl⟩ := he
          intro j hj
          simp only [setAll]
          rw [Heap.put_ne _ (by omega)]
          exact hf j (by omega)
        · cases he
      · cases he
    · cases he
  ok ora k h avs op c r ups he hc hf := by
    intro F hF n w0 ρ w a o ho hr hbel hh K Q hK
    split at he
    · rename_i src dst x s
      split at he
      · rename_i e hs hd
        split at he
        · rename_i hu hp
          simp only [Option.some.injEq, Prod.mk.injEq] at he
          obtain ⟨rfl, rfl, rfl⟩ := he
          simp only [Option.getD_some] at hc
          simp only [Op.operands, Reps, Rep] at hr
          obtain ⟨u, r1, e1, rfl, rfl⟩ := hr
          simp at e1
          have hrun := run_bytes_of_string (P := P) w src dst e s hs hd hu
          generalize hC : grownCap w s.size 0 e = C at hrun
          have hge : s.size ≤ C := by rw [← hC]; exact grownCap_ge w s.size 0 e
          refine wpIn_value hF (fun c hc' => by rw [ho] at hc'; cases hc') (x := .slice (some ⟨w.heap.size, 0, none⟩) s.size C) (w' := w.drew.alloc (.cells (bytesRow s C) e ((bytesRow s C).size, (bytesRow s C).size + 1))) (by simp [execOp, ho, e1, hrun]) ?_
          have hsz0 : w.heap.size < (w.drew.alloc (.cells (bytesRow s C) e ((bytesRow s C).size, (bytesRow s C).size + 1))).heap.size := by simp
          have hold : ∀ j, j < w.heap.size → (w.drew.alloc (.cells (bytesRow s C) e ((bytesRow s C).size, (bytesRow s C).size + 1))).heap[j]? = w.heap[j]? := fun j hj => heap_alloc_old w.drew _ (by simpa using hj)
          obtain ⟨q1, q2⟩ := pureC_flat (ρ.nm k ⟨w.heap.size, 0, C - s.size⟩) hp
          have hrow : (bytesRow s C).toList = flat (ora.cs 0) ++ List.replicate (C - s.size) (Value.int .u8 0) := by
            rw [hc]; simp [bytesRow, byteV]
          have hlen : (flat (ora.cs 0)).length = s.size := by rw [hc]; simp
          obtain ⟨f1, f2⟩ := hh.fresh (hf k (Nat.le_refl _)) (.gr (ora.cs 0) e 1) ⟨w.heap.size, 0, C - s.size⟩ (Nat.le_of_lt hsz0) hold (Nat.le_refl _) hsz0
            ⟨rfl, hh.size, q2, List.replicate (C - s.size) (Value.int .u8 0), ((bytesRow s C).size, (bytesRow s C).size + 1), ⟨by simp, .inr (by
              rw [q1, hlen]
              have := congrArg List.length hrow
              simp only [List.length_append, List.length_replicate, Array.length_toList] at this
              rw [hlen] at this
              simp only [List.length_replicate]
              omega)⟩, by
              rw [q1, ← hrow, Array.toArray_toList]
              exact heap_alloc_new w.drew _⟩
          refine hK _ _ _ f2 ?_ ((hbel.drew).alloc (by simpa using hbel.size) _) f1
          simp only [Rep]
          refine ⟨_, Names.nm_eq _ _ _, ?_⟩
          congr 1
          simp only
          omega
        · cases he
      · cases he
    · cases he

/-- A store into a row that may have room. -/
def xStg (P : Program) : XRule P where
  fn ora k h avs op := match op, avs with
    | .store T _ _, [.p id off, y] => (match h.get id, boxA y, P.info? T with
      | some (.gr cs t e), some p, some i => (match Nat.beq (sizes p) i.size, okC p, spliceB cs off p with
        | true, true, some cs' => some (none, .tp [], [(id, .gr cs' t e)])
        | _, _, _ => none)
      | _, _, _ => none)
    | _, _ => none
  fresh ora k h avs op c r ups he hf := by
    split at he
    · rename_i T x y' id off y
      split at he
      · rename_i cs t e p i hblk _ _
        split at he
        · simp only [Option.some.injEq, Prod.mk.injEq] at he
          obtain ⟨rfl, rfl, rfl⟩ := he
          intro j hj
          simp only [setAll]
          have hne : j ≠ id := fun e => by
            subst e
            rw [hf j (by omega)] at hblk
            cases hblk
          rw [Heap.put_ne _ hne]
          exact hf j (by omega)
        · cases he
      · cases he
    · cases he
  ok ora k h avs op c r ups he hc hf := by
    intro F hF n w0 ρ w a o ho hr hbel hh K Q hK
    split at he
    · rename_i T x y' id off y
      split at he
      · rename_i cs t e p i hblk hbx hi
        split at he
        · rename_i cs' hsz hok hspl
          have hsz := Nat.eq_of_beq_eq_true hsz
          simp only [Option.some.injEq, Prod.mk.injEq] at he
          obtain ⟨rfl, rfl, rfl⟩ := he
          simp only [Op.operands, Reps] at hr
          obtain ⟨u, r1, e1, hx, v2, r2, rfl, hy, rfl⟩ := hr
          simp only [Rep] at hx
          obtain ⟨v, hv, rfl⟩ := hx
          simp at e1
          obtain ⟨hd, hcells⟩ := boxA_spec hbx hy
          obtain ⟨v', g1, g2⟩ := hh.at_ id _ hblk
          rw [hv] at g1; simp only [Option.some.injEq] at g1; subst g1
          obtain ⟨j1, j2, j3, rest, fz, ⟨j4, j5⟩, j6⟩ := g2
          obtain ⟨k1, k2, k3⟩ := splice_spec ρ hspl
          have hst := run_storeCells_fz (P := P) v.1 off t fz (flatR ρ p) 0 (flatR ρ cs ++ rest).toArray w j6 (by simp; omega) (by simpa using j5) (okC_one ρ hok)
          simp only [Nat.add_zero] at hst
          have e3 : (flatR ρ cs ++ rest).take off ++ flatR ρ p ++ (flatR ρ cs ++ rest).drop (off + (flatR ρ p).length) = flatR ρ cs' ++ rest := by
            rw [k1, List.take_append_of_le_length (by omega), List.drop_append_of_le_length (by omega)]
            simp [List.append_assoc]
          rw [e3] at hst
          have hrun : (execOp a.eval o).run P w = .ok .skip (w.setRow v.1 (flatR ρ cs' ++ rest).toArray) := by
            have hsz' : (flatR ρ p).length = i.size := by rw [flatR_length]; exact hsz
            simp [execOp, ho, e1.1, e1.2, j1, Instr.storeAt, Instr.sureAddr, storeVar, hcells, hsz', run_sizeOf' hi, hst]
          refine wpIn_iff hF (fun c hc' => by rw [ho] at hc'; cases hc') ?_
          rw [hrun]
          have hlen : (flatR ρ cs').length = (flatR ρ cs).length := by
            rw [k1]
            simp only [List.length_append, List.length_take, List.length_drop]
            omega
          refine hK ρ undef _ ρ.le_refl (rep_undef.2 rfl) (below_setRow hbel j2 _) ?_
          exact hh.turn hv j2 hblk rfl _ (by simp) (fun j hj => setRow_other w v.1 j _ hj) ⟨j1, j2, k3 j3 hd, rest, fz, ⟨j4, by rw [hlen]; exact j5⟩, setRow_heap w v.1 _ _ t fz j6⟩
        · cases he
      · cases he
    · cases he
end Go.Ev
