/- Pruned: GLskx. -/
import Derived.Test.YtoigbjimhcgolaaQIg
import Derived.Test.YtoigbjimhcgolaaQIh
import Derived.Test.YtoigbjimhcgolaaQIe
import Derived.Test.YtoigbjimhcgolaaQIa
/- Values taken from variables: the same where places belong together; the product comes to 1. Plain. -/
set_option linter.unusedSimpArgs false
set_option linter.unusedVariables false
namespace Go.Proofs.Ytoigbjimhcgolaa
open Go.Ev Go.RowKit
/-- The value of a variable; of a wire's places. -/
def wvN (vs : List Nat) (v : Int) : Nat := if 0 ≤ v ∧ 0 < vs.length then vs.getD (v.toNat % vs.length) 0 else 0
def mW (F : Nat → Int) (n : Nat) (vs : List Nat) (w : Nat) : List Nat := (List.range n).map (fun i => wvN vs (F (w * n + i)))
def lQ (F : Nat → Int) (n w : Nat) : List (Int × Int) := (List.range n).map (fun i => (((valI F (3 * n) (w * n + i) % n : Nat) : Int), ((valI F (3 * n) (w * n + i) / n : Nat) : Int)))
theorem mW_len (F : Nat → Int) (n : Nat) (vs : List Nat) (w : Nat) : (mW F n vs w).length = n := by simp [mW]
theorem lQ_len (F : Nat → Int) (n w : Nat) : (lQ F n w).length = n := by simp [lQ]
theorem mW_at {F : Nat → Int} {n : Nat} {vs : List Nat} {w i : Nat} (hi : i < n) : (mW F n vs w).getD i 0 = wvN vs (F (w * n + i)) := by
  rw [List.getD_eq_getElem?_getD]
  simp [mW, hi]
theorem lQ_at {F : Nat → Int} {n w i : Nat} {p : Int × Int} (h : (lQ F n w)[i]? = some p) : i < n ∧ p = (((valI F (3 * n) (w * n + i) % n : Nat) : Int), ((valI F (3 * n) (w * n + i) / n : Nat) : Int)) := by
  have hi : i < n := by have := pl_lt h; rwa [lQ_len] at this
  unfold lQ at h
  rw [List.getElem?_map, List.getElem?_range hi] at h
  simp only [Option.map_some, Option.some.injEq] at h
  exact ⟨hi, h.symm⟩
theorem plC_lQ (F : Nat → Int) (n w : Nat) : plC (lQ F n w) = rowQ F n (3 * n) w := by
  unfold plC lQ rowQ tabG
  rw [List.flatMap_map, List.flatMap_map]
  rfl
theorem valI_same {f : Nat → Int} {N a : Nat} (ha : a < N) : f (valI f N a) = f a := by
  unfold valI
  by_cases h : f a < 0
  · rw [if_pos (.inl h)]
  · rw [if_neg (by omega)]
    cases en : nextI f N a with
    | some x => exact (nextI_some en).2.2.1
    | none => cases e2 : firstI f N (f a) with
      | none => exact absurd rfl (firstI_some.firstI_none e2 a ha)
      | some y => exact (firstI_some e2).2.1
theorem wi_lt {n w i : Nat} (hw : w < 3) (hi : i < n) : w * n + i < 3 * n := by rcases lt3 hw with rfl | rfl | rfl <;> omega
theorem nat_bounds {a b n : Nat} (ha : a < n) (hb : b < 3) : 0 ≤ ((b : Nat) : Int) ∧ ((b : Nat) : Int) ≤ 2 ∧ 0 ≤ ((a : Nat) : Int) ∧ ((a : Nat) : Int) < (n : Int) := by omega
theorem close_ok (F : Nat → Int) (n : Nat) (vs : List Nat) (w : Nat) (hw : w < 3) : rowOK (lQ F n) (mW F n vs) w := by
  refine ⟨by rw [lQ_len, lQ_len], by rw [mW_len, lQ_len], fun p hp => ?_⟩
  obtain ⟨i, h⟩ := List.getElem?_of_mem hp
  obtain ⟨hi, rfl⟩ := lQ_at h
  obtain ⟨h1, h2⟩ := pl_lt3 (valI_lt (f := F) (wi_lt hw hi))
  rw [lQ_len]
  exact nat_bounds h2 h1
theorem close_eq (F : Nat → Int) (n : Nat) (vs : List Nat) (w : Nat) (hw : w < 3) : rowEq (lQ F n) (mW F n vs) w := by
  intro i p h
  obtain ⟨hi, rfl⟩ := lQ_at h
  have hq := valI_lt (f := F) (wi_lt hw hi)
  obtain ⟨h1, h2⟩ := pl_lt3 hq
  unfold sameAt
  show ofR ((mW F n vs w).getD i 0) = ofR ((mW F n vs (((valI F (3 * n) (w * n + i) / n : Nat) : Int)).toNat).getD (((valI F (3 * n) (w * n + i) % n : Nat) : Int)).toNat 0)
  rw [Int.toNat_natCast, Int.toNat_natCast, mW_at hi, mW_at h2, pl_eq, valI_same (f := F) (wi_lt hw hi)]
theorem wvN_lt {vs : List Nat} {v : Int} {B : Nat} (h : ∀ x, x ∈ vs → x < B) (hB : 0 < B) : wvN vs v < B := by
  unfold wvN
  split
  · rename_i hc
    have hlt : v.toNat % vs.length < vs.length := Nat.mod_lt _ hc.2
    rw [List.getD_eq_getElem?_getD, List.getElem?_eq_getElem hlt]
    exact h _ (List.getElem_mem hlt)
  · exact hB
theorem mW_lt {F : Nat → Int} {n : Nat} {vs : List Nat} {B : Nat} (h : ∀ x, x ∈ vs → x < B) (hB : 0 < B) (w x : Nat) (hx : x ∈ mW F n vs w) : x < B := by
  unfold mW at hx
  obtain ⟨i, _, rfl⟩ := List.mem_map.1 hx
  exact wvN_lt h hB
/-! Products -/
def prR (f : Nat → Fin Rr) : Nat → Fin Rr
  | 0 => 1
  | n + 1 => prR f n * f n
theorem prR_congr {f g : Nat → Fin Rr} : ∀ {n : Nat}, (∀ i, i < n → f i = g i) → prR f n = prR g n
  | 0, _ => rfl
  | n + 1, h => by simp only [prR]; rw [prR_congr (fun i hi => h i (by omega)), h n (Nat.lt_succ_self n)]
theorem prR_mul (f g : Nat → Fin Rr) : ∀ n, prR (fun i => f i * g i) n = prR f n * prR g n
  | 0 => by show (1 : Fin Rr) = 1 * 1; grind
  | n + 1 => by simp only [prR]; rw [prR_mul f g n]; grind
theorem prR_add (f : Nat → Fin Rr) (a : Nat) : ∀ b, prR f (a + b) = prR f a * prR (fun i => f (a + i)) b
  | 0 => by show prR f a = prR f a * 1; grind
  | b + 1 => by rw [← Nat.add_assoc]; simp only [prR]; rw [prR_add f a b]; grind
theorem prR_three (f : Nat → Fin Rr) (n : Nat) : prR f (3 * n) = prR (fun i => 1 * f i * f (n + i) * f (2 * n + i)) n := by
  rw [show 3 * n = n + n + n by omega, prR_add f (n + n) n, prR_add f n n, prR_mul (fun i => 1 * f i * f (n + i)) (fun i => f (2 * n + i)), prR_mul (fun i => 1 * f i) (fun i => f (n + i)), prR_mul (fun _ => 1) f]
  have h1 : prR (fun _ => 1) n = 1 := by
    induction n with
    | zero => rfl
    | succ n ih => simp only [prR]; rw [ih]; grind
  rw [h1, show n + n = 2 * n by omega]
  grind
theorem prR_ne (f : Nat → Fin Rr) : ∀ {n : Nat}, (∀ i, i < n → f i ≠ 0) → prR f n ≠ 0
  | 0, _ => one_neS
  | n + 1, h => fun e => by
    simp only [prR] at e
    rcases no_zeroS e with e | e
    · exact prR_ne f (fun i hi => h i (by omega)) e
    · exact h n (Nat.lt_succ_self n) e
def prL : List (Fin Rr) → Fin Rr
  | [] => 1
  | x :: l => x * prL l
theorem prL_perm {l m : List (Fin Rr)} (h : l.Perm m) : prL l = prL m := by
  induction h with
  | nil => rfl
  | cons x _ ih => simp only [prL]; rw [ih]
  | swap x y l => simp only [prL]; grind
  | trans _ _ ih1 ih2 => exact ih1.trans ih2
theorem prL_append (l m : List (Fin Rr)) : prL (l ++ m) = prL l * prL m := by
  induction l with
  | nil => simp only [List.nil_append, prL]; grind
  | cons x l ih => simp only [List.cons_append, prL]; rw [ih]; grind
theorem prR_list (f : Nat → Fin Rr) : ∀ n, prR f n = prL ((List.range n).map f)
  | 0 => rfl
  | n + 1 => by
    rw [List.range_succ, List.map_append, prL_append, ← prR_list f n]
    simp only [prR, List.map_cons, List.map_nil, prL]
    grind
theorem len_le : ∀ (N : Nat) (l : List Nat), l.Nodup → (∀ x, x ∈ l → x < N) → l.length ≤ N
  | 0, l, _, h => by
    cases l with
    | nil => exact Nat.le_refl _
    | cons x l => exact absurd (h x (by simp)) (Nat.not_lt_zero x)
  | N + 1, l, hn, h => by
    by_cases hm : N ∈ l
    · have h1 := len_le N (l.erase N) (hn.erase N) (fun x hx => by
        have h2 := h x (List.mem_of_mem_erase hx)
        have h3 : x ≠ N := fun e => by subst e; exact (List.Nodup.not_mem_erase hn) hx
        omega)
      have h2 := List.length_erase_of_mem hm
      have h3 : 0 < l.length := List.length_pos_of_mem hm
      omega
    · have h1 := len_le N l hn (fun x hx => by
        have h2 := h x hx
        have h3 : x ≠ N := fun e => hm (e ▸ hx)
        omega)
      omega
theorem perm_range : ∀ (N : Nat) (l : List Nat), l.Nodup → (∀ x, x ∈ l → x < N) → l.length = N → l.Perm (List.range N)
  | 0, l, _, _, hl => by rw [List.length_eq_zero_iff.1 hl]; exact List.Perm.refl _
  | N + 1, l, hn, h, hl => by
    have hm : N ∈ l := by
      by_cases hm : N ∈ l
      · exact hm
      · have h1 := len_le N l hn (fun x hx => by
          have h2 := h x hx
          have h3 : x ≠ N := fun e => hm (e ▸ hx)
          omega)
        omega
    have h1 := perm_range N (l.erase N) (hn.erase N) (fun x hx => by
      have h2 := h x (List.mem_of_mem_erase hx)
      have h3 : x ≠ N := fun e => by subst e; exact (List.Nodup.not_mem_erase hn) hx
      omega) (by rw [List.length_erase_of_mem hm]; omega)
    have h2 : (N :: List.range N).Perm (List.range (N + 1)) := by
      rw [List.range_succ]
      exact (List.perm_append_comm (l₁ := [N]) (l₂ := List.range N))
    exact ((List.perm_cons_erase hm).trans (h1.cons N)).trans h2
theorem nodup_map {σ : Nat → Nat} : ∀ {l : List Nat}, l.Nodup → (∀ x y, x ∈ l → y ∈ l → σ x = σ y → x = y) → (l.map σ).Nodup
  | [], _, _ => List.nodup_nil
  | x :: l, hn, h => by
    rw [List.nodup_cons] at hn
    rw [List.map_cons, List.nodup_cons]
    refine ⟨fun hm => ?_, nodup_map hn.2 (fun a b ha hb => h a b (by simp [ha]) (by simp [hb]))⟩
    obtain ⟨y, hy, e⟩ := List.mem_map.1 hm
    have := h y x (by simp [hy]) (by simp) e
    subst this
    exact hn.1 hy
theorem prR_perm (f : Nat → Fin Rr) (σ : Nat → Nat) (N : Nat) (h1 : ∀ i, i < N → σ i < N) (h2 : ∀ i j, i < N → j < N → σ i = σ j → i = j) : prR (fun i => f (σ i)) N = prR f N := by
  rw [prR_list, prR_list]
  have hp : ((List.range N).map σ).Perm (List.range N) := perm_range N _ (nodup_map List.nodup_range (fun x y hx hy => h2 x y (List.mem_range.1 hx) (List.mem_range.1 hy))) (fun x hx => by
    obtain ⟨i, hi, rfl⟩ := List.mem_map.1 hx
    exact h1 i (List.mem_range.1 hi)) (by simp)
  have h3 := prL_perm (hp.map f)
  rw [List.map_map] at h3
  exact h3
theorem zz_prod (f l : Nat → Fin Rr) : ∀ {n : Nat}, (∀ i, i < n → l i ≠ 0) → zzP f (fun i => pwS (l i) 52435875175126190479447740508185965837690552500527637822603658699938581184511) n * prR l n = prR f n
  | 0, _ => by show ofR (1 % 18446744073709551616) * 1 = 1; rw [ofR_one]; grind
  | n + 1, h => by
    have ih := zz_prod f l (n := n) (fun i hi => h i (by omega))
    have h1 := mul_invS (h n (Nat.lt_succ_self n))
    show zzP f (fun i => pwS (l i) 52435875175126190479447740508185965837690552500527637822603658699938581184511) n * f n * pwS (l n) 52435875175126190479447740508185965837690552500527637822603658699938581184511 * (prR l n * l n) = prR f n * f n
    rw [← ih]
    generalize pwS (l n) 52435875175126190479447740508185965837690552500527637822603658699938581184511 = v at h1
    generalize zzP f _ n = z
    have : z * f n * v * (prR l n * l n) = z * prR l n * f n * (l n * v) := by grind
    rw [this, h1]; grind
/-- The product comes to 1. -/
theorem close_one (F : Nat → Int) (lg n : Nat) (vs : List Nat) (be ga : Nat) (hz : ∀ i, i < n → lwI F n (mW F n vs) lg be ga i ≠ 0) :
    zzP (tpI (mW F n vs) lg be ga) (fun i => pwS (lwI F n (mW F n vs) lg be ga i) 52435875175126190479447740508185965837690552500527637822603658699938581184511) n = 1 := by
  have h := zz_prod (tpI (mW F n vs) lg be ga) (lwI F n (mW F n vs) lg be ga) hz
  let G : Nat → Fin Rr := fun q => (ofR (wvN vs (F q)) + ofR ga) + ofR be * numP lg (pl n q)
  have hT : prR (tpI (mW F n vs) lg be ga) n = prR G (3 * n) := by
    rw [prR_three]
    refine prR_congr (fun i hi => ?_)
    unfold tpI fcT
    rw [mW_at hi, mW_at hi, mW_at hi, ← pl_of_wi (w := 0) hi, ← pl_of_wi (w := 1) hi, ← pl_of_wi (w := 2) hi, show 0 * n + i = i by omega, show 1 * n + i = n + i by omega]
  have hL : prR (lwI F n (mW F n vs) lg be ga) n = prR (fun q => G (valI F (3 * n) q)) (3 * n) := by
    rw [prR_three]
    refine prR_congr (fun i hi => ?_)
    have e : ∀ w, w < 3 → fcL F n (mW F n vs) lg be ga i w = G (valI F (3 * n) (w * n + i)) := fun w hw => by
      show _ = (ofR (wvN vs (F (valI F (3 * n) (w * n + i)))) + ofR ga) + ofR be * numP lg (pl n (valI F (3 * n) (w * n + i)))
      rw [valI_same (f := F) (wi_lt hw hi)]
      unfold fcL valP
      rw [mW_at hi]
    unfold lwI
    rw [e 0 (by decide), e 1 (by decide), e 2 (by decide), show 0 * n + i = i by omega, show 1 * n + i = n + i by omega]
  rw [prR_perm G (valI F (3 * n)) (3 * n) (fun i hi => valI_lt hi) (fun i j hi hj e => valI_inj hi hj e), ← hT] at hL
  rw [hL] at h
  have hne : prR (tpI (mW F n vs) lg be ga) n ≠ 0 := by rw [← hL]; exact prR_ne _ hz
  generalize prR (tpI (mW F n vs) lg be ga) n = p at h hne
  generalize zzP _ _ n = z at h ⊢
  have : (z - 1) * p = 0 := by grind
  rcases no_zeroS this with e | e
  · grind
  · exact absurd e hne
end Go.Proofs.Ytoigbjimhcgolaa

/- chirographlaw19.SigmaNext: what comes behind is as the document says; as a truth. -/
set_option linter.unusedSimpArgs false
set_option linter.unusedVariables false
namespace Go.Proofs.Ytoigbjimhcgolaa
open Go.Ev Go.RowKit
theorem len30 {g0 gs : List GT} (h : gs = g0.take 30) : gs.length ≤ 30 := by subst h; rw [List.length_take]; omega
/-- What a circuit that may be has: so many gates. -/
theorem ck_len {gs : List GT} {pub vars : Int} {lg : Nat} (h : ckE gs pub vars ((lg : Nat) : Int) = 0) : gs.length ≤ 2 ^ lg := by
  unfold ckE at h
  split at h
  · split at h
    · rename_i h2; have := h2.2.2; rwa [Int.toNat_natCast] at this
    · cases h
  · cases h
theorem ck_pos {gs : List GT} {pub vars log : Int} (h : ckE gs pub vars log = 0) : 0 ≤ log := by
  unfold ckE at h
  split at h
  · split at h
    · rename_i h2; exact h2.1
    · cases h
  · cases h
theorem pow5 {lg : Nat} (h : lg ≤ 5) : 2 ^ lg ≤ 1000 ∧ 0 < 2 ^ lg := by
  have : ∀ x : Fin 6, 2 ^ x.val ≤ 1000 ∧ 0 < 2 ^ x.val := by decide
  exact this ⟨lg, by omega⟩
end Go.Proofs.Ytoigbjimhcgolaa

/- chirographlaw19.SigmaGrand: the product, row by row, is as the document says; as a truth. -/
set_option linter.unusedSimpArgs false
set_option linter.unusedVariables false
namespace Go.Proofs.Ytoigbjimhcgolaa
open Go.Ev Go.RowKit
theorem first_low (f : Nat → Fin Rr) (n : Nat) : (∀ i, i < n → f i ≠ 0) ∨ ∃ j, j < n ∧ f j = 0 ∧ ∀ i, i < j → f i ≠ 0 := by
  by_cases h : ∃ j, j < n ∧ f j = 0
  · obtain ⟨j, h1, h2⟩ := h
    obtain ⟨s, h3, h4, h5⟩ := least_of (fun j => f j = 0) j h2
    exact .inr ⟨s, by omega, h4, h5⟩
  · exact .inl (fun i hi e => h ⟨i, hi, e⟩)
end Go.Proofs.Ytoigbjimhcgolaa

/- chirographlaw19.SigmaCloses: values taken from variables. -/
set_option linter.unusedSimpArgs false
set_option linter.unusedVariables false
namespace Go.Proofs.Ytoigbjimhcgolaa
open Go.Ev Go.RowKit

theorem numC_snoc (l : List Nat) (x : Nat) : numC 4 (l ++ [x]) = numC 4 l ++ limbs 4 x := by simp [numC]
/-- The first i values of a wire. -/
def mC (F : Nat → Int) (n : Nat) (vs : List Nat) (w i : Nat) : List Value := numC 4 ((List.range i).map (fun j => wvN vs (F (w * n + j))))
theorem mC_succ (F : Nat → Int) (n : Nat) (vs : List Nat) (w i : Nat) : mC F n vs w (i + 1) = mC F n vs w i ++ limbs 4 (wvN vs (F (w * n + i))) := by
  unfold mC
  rw [List.range_succ, List.map_append]
  exact numC_snoc _ _
theorem mC_len (F : Nat → Int) (n : Nat) (vs : List Nat) (w i : Nat) : (mC F n vs w i).length = i * 4 := by
  unfold mC
  rw [numC_length]; simp
theorem n_flat1 (x : Nat) : flat [.n 4 x] = flat [.l (limbs 4 x)] := by simp [flat, Ch.cells]
theorem n_flat (C : List Value) (x : Nat) : flat [.l C, .n 4 x] = flat [.l (C ++ limbs 4 x)] := by simp [flat, Ch.cells]
theorem z_flat1 : flat [Ch.c (.int .u64 0), Ch.c (.int .u64 0), Ch.c (.int .u64 0), Ch.c (.int .u64 0)] = flat [.l (limbs 4 0)] := by kernel_rfl
theorem z_flat (C : List Value) : flat [.l C, Ch.c (.int .u64 0), Ch.c (.int .u64 0), Ch.c (.int .u64 0), Ch.c (.int .u64 0)] = flat [.l (C ++ limbs 4 0)] := by
  have h : flat [Ch.c (.int .u64 0), Ch.c (.int .u64 0), Ch.c (.int .u64 0), Ch.c (.int .u64 0)] = flat [.l (limbs 4 0)] := z_flat1
  simp only [flat, List.flatMap_cons, List.flatMap_nil, List.append_nil] at h ⊢
  rw [h]; simp [Ch.cells]
theorem rem_to {v : Int} (h : 0 ≤ v) (m : Nat) : v.tmod (m : Int) = ((v.toNat % m : Nat) : Int) := by
  obtain ⟨a, rfl⟩ := Int.eq_ofNat_of_zero_le h
  rw [Int.toNat_natCast]
  exact (Int.ofNat_tmod a m).symm
theorem wv_yes {vs : List Nat} {v : Int} (h : 0 ≤ v) (h0 : 0 < vs.length) : vs[v.toNat % vs.length]? = some (wvN vs v) := by
  have hlt : v.toNat % vs.length < vs.length := Nat.mod_lt _ h0
  unfold wvN
  rw [if_pos ⟨h, h0⟩, List.getD_eq_getElem?_getD, List.getElem?_eq_getElem hlt]
  rfl
theorem wv_no {vs : List Nat} {v : Int} (h : ¬ (0 ≤ v ∧ 0 < vs.length)) : wvN vs v = 0 := by
  unfold wvN
  rw [if_neg h]
theorem wAt_in {gs : List GT} {i : Nat} {g : GT} (h : gs[i]? = some g) (w : Nat) : wAt gs i w = wv g w := by unfold wAt; rw [h]
theorem wAt_out {gs : List GT} {i : Nat} (h : ¬ i < gs.length) (w : Nat) : wAt gs i w = -1 := by unfold wAt; rw [List.getElem?_eq_none_iff.2 (by omega)]
def scZ0 (gs : List GT) (pub vars : Int) (vs : List Nat) (be ga : Nat) (lg n : Nat) : LState := { n := 130, sl := [(1, .v (.int .i64 (((lg : Nat) : Int)))), (2, .sz 5 vs.length), (5, .p 6 0), (8, .p 7 0), (9, .p 8 0), (12, .p 49 0), (36, .v (.int .i64 (0))), (13, .v (.int .i64 (0))), (40, .v (.int .i64 (((n : Nat) : Int)))), (41, .v (.int .i64 (0)))], hp := [(5, .rz [.l (numC 4 vs)]), (6, .own [.sz 22 gs.length, .c (.int .i64 pub), .c (.int .i64 vars)] 24), (7, .own [.n 4 be] 41), (8, .own [.n 4 ga] 41), (22, .rz [.l (gsC gs)]), (49, .own [.c (.slice none 0 0), .c (.slice none 0 0), .c (.slice none 0 0)] 34)] }
def scI0 (gs : List GT) (pub vars : Int) (vs : List Nat) (be ga : Nat) (lg n : Nat) (C : List Value) (i : Nat) : LState := { n := 130, sl := [(1, .v (.int .i64 (((lg : Nat) : Int)))), (2, .sz 5 vs.length), (5, .p 6 0), (8, .p 7 0), (9, .p 8 0), (12, .p 49 0), (36, .v (.int .i64 (0))), (13, .v (.int .i64 (0))), (40, .v (.int .i64 (((n : Nat) : Int)))), (41, .v (.int .i64 ((i : Nat) : Int)))], hp := [(5, .rz [.l (numC 4 vs)]), (6, .own [.sz 22 gs.length, .c (.int .i64 pub), .c (.int .i64 vars)] 24), (7, .own [.n 4 be] 41), (8, .own [.n 4 ga] 41), (22, .rz [.l (gsC gs)]), (49, .own [.sx 57 i, .c (.slice none 0 0), .c (.slice none 0 0)] 34), (57, .gr [.l C] 41 4)] }
def scE0 (gs : List GT) (pub vars : Int) (vs : List Nat) (be ga : Nat) (lg n : Nat) (C : List Value) : LState := { n := 130, sl := [(1, .v (.int .i64 (((lg : Nat) : Int)))), (2, .sz 5 vs.length), (5, .p 6 0), (8, .p 7 0), (9, .p 8 0), (12, .p 49 0), (36, .v (.int .i64 (0)))], hp := [(5, .rz [.l (numC 4 vs)]), (6, .own [.sz 22 gs.length, .c (.int .i64 pub), .c (.int .i64 vars)] 24), (7, .own [.n 4 be] 41), (8, .own [.n 4 ga] 41), (22, .rz [.l (gsC gs)]), (49, .own [.sx 57 n, .c (.slice none 0 0), .c (.slice none 0 0)] 34), (57, .gr [.l C] 41 4)] }
theorem scz0g (gs : List GT) (pub vars : Int) (vs : List Nat) (be ga : Nat) (lg n : Nat) (hn : n ≤ 1000) (h0 : 0 < n) (hg : ¬ 0 < gs.length)  : Sound Try.prog 0 false (loopB Try.f6 1) (scZ0 gs pub vars vs be ga lg n ).aa .normal (scI0 gs pub vars vs be ga lg n (limbs 4 0) 1).aa := by
  exact roundP_sound (P := Try.prog) (X := rulesR _) (env := []) trivial (n := 0) (os := (oL [(58, wT), (68, wF)])) (fb := 0) (rd := false) (c := (loopB Try.f6 1)) (k := 58) (I := scZ0 gs pub vars vs be ga lg n ) (J := scI0 gs pub vars vs be ga lg n (limbs 4 0) 1) (τ := [(57, 75)]) (ex := .normal) (by kernel_rfl)
    (And.intro (show (((Value.int .i64 ((lg : Nat) : Int)) = (Value.int .i64 ((lg : Nat) : Int))) ∧ (true = true ∧ vs.length = vs.length) ∧ (true = true ∧ 0 = 0) ∧ (true = true ∧ 0 = 0) ∧ (true = true ∧ 0 = 0) ∧ (true = true ∧ 0 = 0) ∧ ((Value.int .i64 0) = (Value.int .i64 0)) ∧ ((Value.int .i64 0) = (Value.int .i64 0)) ∧ ((Value.int .i64 ((n : Nat) : Int)) = (Value.int .i64 ((n : Nat) : Int))) ∧ ((Value.int .i64 (IntKind.i64.wrap (0 + 1))) = (Value.int .i64 ((1 : Nat) : Int))) ∧ True) ∧ ((flat [.l (numC 4 vs)] = flat [.l (numC 4 vs)]) ∧ (24 = 24 ∧ ((true = true ∧ gs.length = gs.length) ∧ (true = true ∧ true = true ∧ [Value.int .i64 pub] = [Value.int .i64 pub]) ∧ (true = true ∧ true = true ∧ [Value.int .i64 vars] = [Value.int .i64 vars]) ∧ True)) ∧ (41 = 41 ∧ flat [.n 4 be] = flat [.n 4 be]) ∧ (41 = 41 ∧ flat [.n 4 ga] = flat [.n 4 ga]) ∧ (flat [.l (gsC gs)] = flat [.l (gsC gs)]) ∧ (34 = 34 ∧ ((true = true ∧ 1 = 1) ∧ (true = true ∧ true = true ∧ [Value.slice none 0 0] = [Value.slice none 0 0]) ∧ (true = true ∧ true = true ∧ [Value.slice none 0 0] = [Value.slice none 0 0]) ∧ True)) ∧ ((41 = 41 ∧ 4 = 4) ∧ flat [Ch.c (.int .u64 0), Ch.c (.int .u64 0), Ch.c (.int .u64 0), Ch.c (.int .u64 0)] = flat [.l (limbs 4 0)]) ∧ True) from ⟨⟨rfl, ⟨rfl, rfl⟩, ⟨rfl, rfl⟩, ⟨rfl, rfl⟩, ⟨rfl, rfl⟩, ⟨rfl, rfl⟩, rfl, rfl, rfl, rfl, trivial⟩, ⟨rfl, ⟨rfl, ⟨⟨rfl, rfl⟩, ⟨rfl, rfl, rfl⟩, ⟨rfl, rfl, rfl⟩, trivial⟩⟩, ⟨rfl, rfl⟩, ⟨rfl, rfl⟩, rfl, ⟨rfl, ⟨⟨rfl, rfl⟩, ⟨rfl, rfl, rfl⟩, ⟨rfl, rfl, rfl⟩, trivial⟩⟩, ⟨⟨rfl, rfl⟩, z_flat1⟩, trivial⟩⟩)
    (And.intro (show decide ((0 : Int) < ((gs.length : Nat) : Int)) = false from decide_eq_false (by omega))
    (And.intro (show decide ((0 : Int) < ((n : Nat) : Int)) = true from decide_eq_true (by omega)) trivial)))
theorem scr0g (gs : List GT) (pub vars : Int) (vs : List Nat) (be ga : Nat) (lg n : Nat) (hn : n ≤ 1000) (C : List Value) (i : Nat) (hi : i < n) (hC : C.length = i * 4) (hg : ¬ i < gs.length)  : Sound Try.prog 0 false (loopB Try.f6 1) (scI0 gs pub vars vs be ga lg n C i).aa .normal (scI0 gs pub vars vs be ga lg n (C ++ (limbs 4 0)) (i + 1)).aa := by
  exact roundP_sound (P := Try.prog) (X := rulesR _) (env := []) trivial (n := 0) (os := (oL [(58, wT), (68, wF), (75, { ch := 0, hi := fun _ => 0, ex := 1 })])) (fb := 0) (rd := false) (c := (loopB Try.f6 1)) (k := 58) (I := scI0 gs pub vars vs be ga lg n C i) (J := scI0 gs pub vars vs be ga lg n (C ++ (limbs 4 0)) (i + 1)) (τ := [(57, 75)]) (ex := .normal) (by kernel_rfl)
    (And.intro (show (((Value.int .i64 ((lg : Nat) : Int)) = (Value.int .i64 ((lg : Nat) : Int))) ∧ (true = true ∧ vs.length = vs.length) ∧ (true = true ∧ 0 = 0) ∧ (true = true ∧ 0 = 0) ∧ (true = true ∧ 0 = 0) ∧ (true = true ∧ 0 = 0) ∧ ((Value.int .i64 0) = (Value.int .i64 0)) ∧ ((Value.int .i64 0) = (Value.int .i64 0)) ∧ ((Value.int .i64 ((n : Nat) : Int)) = (Value.int .i64 ((n : Nat) : Int))) ∧ ((Value.int .i64 (IntKind.i64.wrap (((i : Nat) : Int) + 1))) = (Value.int .i64 (((i + 1) : Nat) : Int))) ∧ True) ∧ ((flat [.l (numC 4 vs)] = flat [.l (numC 4 vs)]) ∧ (24 = 24 ∧ ((true = true ∧ gs.length = gs.length) ∧ (true = true ∧ true = true ∧ [Value.int .i64 pub] = [Value.int .i64 pub]) ∧ (true = true ∧ true = true ∧ [Value.int .i64 vars] = [Value.int .i64 vars]) ∧ True)) ∧ (41 = 41 ∧ flat [.n 4 be] = flat [.n 4 be]) ∧ (41 = 41 ∧ flat [.n 4 ga] = flat [.n 4 ga]) ∧ (flat [.l (gsC gs)] = flat [.l (gsC gs)]) ∧ (34 = 34 ∧ ((true = true ∧ (i + 1) = (i + 1)) ∧ (true = true ∧ true = true ∧ [Value.slice none 0 0] = [Value.slice none 0 0]) ∧ (true = true ∧ true = true ∧ [Value.slice none 0 0] = [Value.slice none 0 0]) ∧ True)) ∧ ((41 = 41 ∧ 4 = 4) ∧ flat [.l C, Ch.c (.int .u64 0), Ch.c (.int .u64 0), Ch.c (.int .u64 0), Ch.c (.int .u64 0)] = flat [.l (C ++ limbs 4 0)]) ∧ True) from ⟨⟨rfl, ⟨rfl, rfl⟩, ⟨rfl, rfl⟩, ⟨rfl, rfl⟩, ⟨rfl, rfl⟩, ⟨rfl, rfl⟩, rfl, rfl, rfl, by rw [r_next (by omega)], trivial⟩, ⟨rfl, ⟨rfl, ⟨⟨rfl, rfl⟩, ⟨rfl, rfl, rfl⟩, ⟨rfl, rfl, rfl⟩, trivial⟩⟩, ⟨rfl, rfl⟩, ⟨rfl, rfl⟩, rfl, ⟨rfl, ⟨⟨rfl, rfl⟩, ⟨rfl, rfl, rfl⟩, ⟨rfl, rfl, rfl⟩, trivial⟩⟩, ⟨⟨rfl, rfl⟩, z_flat C⟩, trivial⟩⟩)
    (And.intro (show sizes [.l C] = i * 4 ∧ i + 1 ≤ 9223372036854775807 ∧ (i + 1) * 32 ≤ 140737488355328 ∧ True from ⟨by show C.length + 0 = i * 4; omega, by omega, by omega, trivial⟩)
    (And.intro (show decide (((i : Nat) : Int) < ((gs.length : Nat) : Int)) = false from decide_eq_false (by omega))
    (And.intro (show decide (((i : Nat) : Int) < ((n : Nat) : Int)) = true from decide_eq_true (by omega)) trivial))))
theorem scz0n (gs : List GT) (pub vars : Int) (vs : List Nat) (be ga : Nat) (lg n : Nat) (hn : n ≤ 1000) (h0 : 0 < n) (g : GT) (hg : gs[0]? = some g) (hv : ¬ 0 ≤ wv g 0)  : Sound Try.prog 0 false (loopB Try.f6 1) (scZ0 gs pub vars vs be ga lg n ).aa .normal (scI0 gs pub vars vs be ga lg n (limbs 4 0) 1).aa := by
  exact roundP_sound (P := Try.prog) (X := rulesR _) (env := []) trivial (n := 0) (os := (oL [(58, wT), (68, wT), (73, rO 14 0), (76, { ch := 0, hi := fun _ => 0, ru := 8, av := fun _ => .v (.int .i64 (wv g 0)) }), (79, wF)])) (fb := 0) (rd := false) (c := (loopB Try.f6 1)) (k := 58) (I := scZ0 gs pub vars vs be ga lg n ) (J := scI0 gs pub vars vs be ga lg n (limbs 4 0) 1) (τ := [(57, 91)]) (ex := .normal) (by kernel_rfl)
    (And.intro (show (((Value.int .i64 ((lg : Nat) : Int)) = (Value.int .i64 ((lg : Nat) : Int))) ∧ (true = true ∧ vs.length = vs.length) ∧ (true = true ∧ 0 = 0) ∧ (true = true ∧ 0 = 0) ∧ (true = true ∧ 0 = 0) ∧ (true = true ∧ 0 = 0) ∧ ((Value.int .i64 0) = (Value.int .i64 0)) ∧ ((Value.int .i64 0) = (Value.int .i64 0)) ∧ ((Value.int .i64 ((n : Nat) : Int)) = (Value.int .i64 ((n : Nat) : Int))) ∧ ((Value.int .i64 (IntKind.i64.wrap (0 + 1))) = (Value.int .i64 ((1 : Nat) : Int))) ∧ True) ∧ ((flat [.l (numC 4 vs)] = flat [.l (numC 4 vs)]) ∧ (24 = 24 ∧ ((true = true ∧ gs.length = gs.length) ∧ (true = true ∧ true = true ∧ [Value.int .i64 pub] = [Value.int .i64 pub]) ∧ (true = true ∧ true = true ∧ [Value.int .i64 vars] = [Value.int .i64 vars]) ∧ True)) ∧ (41 = 41 ∧ flat [.n 4 be] = flat [.n 4 be]) ∧ (41 = 41 ∧ flat [.n 4 ga] = flat [.n 4 ga]) ∧ (flat [.l (gsC gs)] = flat [.l (gsC gs)]) ∧ (34 = 34 ∧ ((true = true ∧ 1 = 1) ∧ (true = true ∧ true = true ∧ [Value.slice none 0 0] = [Value.slice none 0 0]) ∧ (true = true ∧ true = true ∧ [Value.slice none 0 0] = [Value.slice none 0 0]) ∧ True)) ∧ ((41 = 41 ∧ 4 = 4) ∧ flat [Ch.c (.int .u64 0), Ch.c (.int .u64 0), Ch.c (.int .u64 0), Ch.c (.int .u64 0)] = flat [.l (limbs 4 0)]) ∧ True) from ⟨⟨rfl, ⟨rfl, rfl⟩, ⟨rfl, rfl⟩, ⟨rfl, rfl⟩, ⟨rfl, rfl⟩, ⟨rfl, rfl⟩, rfl, rfl, rfl, rfl, trivial⟩, ⟨rfl, ⟨rfl, ⟨⟨rfl, rfl⟩, ⟨rfl, rfl, rfl⟩, ⟨rfl, rfl, rfl⟩, trivial⟩⟩, ⟨rfl, rfl⟩, ⟨rfl, rfl⟩, rfl, ⟨rfl, ⟨⟨rfl, rfl⟩, ⟨rfl, rfl, rfl⟩, ⟨rfl, rfl, rfl⟩, trivial⟩⟩, ⟨⟨rfl, rfl⟩, z_flat1⟩, trivial⟩⟩)
    (And.intro (show decide ((wv g 0) ≥ 0) = false from decide_eq_false (by omega))
    (And.intro (show (flat [.l (gsC gs)])[0 * 23 + 20 + 0]? = some (.int .i64 (wv g 0)) from wire_cell gs 0 g hg 0 (by decide))
    (And.intro (show (0 : Int) = ((0 : Nat) : Int) ∧ 0 < gs.length from ⟨rfl, glt hg⟩)
    (And.intro (show decide ((0 : Int) < ((gs.length : Nat) : Int)) = true from decide_eq_true (by have := glt hg; omega))
    (And.intro (show decide ((0 : Int) < ((n : Nat) : Int)) = true from decide_eq_true (by omega)) trivial))))))
theorem scr0n (gs : List GT) (pub vars : Int) (vs : List Nat) (be ga : Nat) (lg n : Nat) (hn : n ≤ 1000) (C : List Value) (i : Nat) (hi : i < n) (hC : C.length = i * 4) (g : GT) (hg : gs[i]? = some g) (hv : ¬ 0 ≤ wv g 0)  : Sound Try.prog 0 false (loopB Try.f6 1) (scI0 gs pub vars vs be ga lg n C i).aa .normal (scI0 gs pub vars vs be ga lg n (C ++ (limbs 4 0)) (i + 1)).aa := by
  exact roundP_sound (P := Try.prog) (X := rulesR _) (env := []) trivial (n := 0) (os := (oL [(58, wT), (68, wT), (73, rO 14 i), (76, { ch := 0, hi := fun _ => 0, ru := 8, av := fun _ => .v (.int .i64 (wv g 0)) }), (79, wF), (91, { ch := 0, hi := fun _ => 0, ex := 1 })])) (fb := 0) (rd := false) (c := (loopB Try.f6 1)) (k := 58) (I := scI0 gs pub vars vs be ga lg n C i) (J := scI0 gs pub vars vs be ga lg n (C ++ (limbs 4 0)) (i + 1)) (τ := [(57, 91)]) (ex := .normal) (by kernel_rfl)
    (And.intro (show (((Value.int .i64 ((lg : Nat) : Int)) = (Value.int .i64 ((lg : Nat) : Int))) ∧ (true = true ∧ vs.length = vs.length) ∧ (true = true ∧ 0 = 0) ∧ (true = true ∧ 0 = 0) ∧ (true = true ∧ 0 = 0) ∧ (true = true ∧ 0 = 0) ∧ ((Value.int .i64 0) = (Value.int .i64 0)) ∧ ((Value.int .i64 0) = (Value.int .i64 0)) ∧ ((Value.int .i64 ((n : Nat) : Int)) = (Value.int .i64 ((n : Nat) : Int))) ∧ ((Value.int .i64 (IntKind.i64.wrap (((i : Nat) : Int) + 1))) = (Value.int .i64 (((i + 1) : Nat) : Int))) ∧ True) ∧ ((flat [.l (numC 4 vs)] = flat [.l (numC 4 vs)]) ∧ (24 = 24 ∧ ((true = true ∧ gs.length = gs.length) ∧ (true = true ∧ true = true ∧ [Value.int .i64 pub] = [Value.int .i64 pub]) ∧ (true = true ∧ true = true ∧ [Value.int .i64 vars] = [Value.int .i64 vars]) ∧ True)) ∧ (41 = 41 ∧ flat [.n 4 be] = flat [.n 4 be]) ∧ (41 = 41 ∧ flat [.n 4 ga] = flat [.n 4 ga]) ∧ (flat [.l (gsC gs)] = flat [.l (gsC gs)]) ∧ (34 = 34 ∧ ((true = true ∧ (i + 1) = (i + 1)) ∧ (true = true ∧ true = true ∧ [Value.slice none 0 0] = [Value.slice none 0 0]) ∧ (true = true ∧ true = true ∧ [Value.slice none 0 0] = [Value.slice none 0 0]) ∧ True)) ∧ ((41 = 41 ∧ 4 = 4) ∧ flat [.l C, Ch.c (.int .u64 0), Ch.c (.int .u64 0), Ch.c (.int .u64 0), Ch.c (.int .u64 0)] = flat [.l (C ++ limbs 4 0)]) ∧ True) from ⟨⟨rfl, ⟨rfl, rfl⟩, ⟨rfl, rfl⟩, ⟨rfl, rfl⟩, ⟨rfl, rfl⟩, ⟨rfl, rfl⟩, rfl, rfl, rfl, by rw [r_next (by omega)], trivial⟩, ⟨rfl, ⟨rfl, ⟨⟨rfl, rfl⟩, ⟨rfl, rfl, rfl⟩, ⟨rfl, rfl, rfl⟩, trivial⟩⟩, ⟨rfl, rfl⟩, ⟨rfl, rfl⟩, rfl, ⟨rfl, ⟨⟨rfl, rfl⟩, ⟨rfl, rfl, rfl⟩, ⟨rfl, rfl, rfl⟩, trivial⟩⟩, ⟨⟨rfl, rfl⟩, z_flat C⟩, trivial⟩⟩)
    (And.intro (show sizes [.l C] = i * 4 ∧ i + 1 ≤ 9223372036854775807 ∧ (i + 1) * 32 ≤ 140737488355328 ∧ True from ⟨by show C.length + 0 = i * 4; omega, by omega, by omega, trivial⟩)
    (And.intro (show decide ((wv g 0) ≥ 0) = false from decide_eq_false (by omega))
    (And.intro (show (flat [.l (gsC gs)])[i * 23 + 20 + 0]? = some (.int .i64 (wv g 0)) from wire_cell gs i g hg 0 (by decide))
    (And.intro (show ((i : Nat) : Int) = ((i : Nat) : Int) ∧ i < gs.length from ⟨rfl, glt hg⟩)
    (And.intro (show decide (((i : Nat) : Int) < ((gs.length : Nat) : Int)) = true from decide_eq_true (by have := glt hg; omega))
    (And.intro (show decide (((i : Nat) : Int) < ((n : Nat) : Int)) = true from decide_eq_true (by omega)) trivial)))))))
theorem scz0m (gs : List GT) (pub vars : Int) (vs : List Nat) (be ga : Nat) (lg n : Nat) (hn : n ≤ 1000) (h0 : 0 < n) (g : GT) (hg : gs[0]? = some g) (hv : 0 ≤ wv g 0) (hl : vs.length = 0)  : Sound Try.prog 0 false (loopB Try.f6 1) (scZ0 gs pub vars vs be ga lg n ).aa .normal (scI0 gs pub vars vs be ga lg n (limbs 4 0) 1).aa := by
  exact roundP_sound (P := Try.prog) (X := rulesR _) (env := []) trivial (n := 0) (os := (oL [(58, wT), (68, wT), (73, rO 14 0), (76, { ch := 0, hi := fun _ => 0, ru := 8, av := fun _ => .v (.int .i64 (wv g 0)) }), (79, wT), (83, wF)])) (fb := 0) (rd := false) (c := (loopB Try.f6 1)) (k := 58) (I := scZ0 gs pub vars vs be ga lg n ) (J := scI0 gs pub vars vs be ga lg n (limbs 4 0) 1) (τ := [(57, 91)]) (ex := .normal) (by kernel_rfl)
    (And.intro (show (((Value.int .i64 ((lg : Nat) : Int)) = (Value.int .i64 ((lg : Nat) : Int))) ∧ (true = true ∧ vs.length = vs.length) ∧ (true = true ∧ 0 = 0) ∧ (true = true ∧ 0 = 0) ∧ (true = true ∧ 0 = 0) ∧ (true = true ∧ 0 = 0) ∧ ((Value.int .i64 0) = (Value.int .i64 0)) ∧ ((Value.int .i64 0) = (Value.int .i64 0)) ∧ ((Value.int .i64 ((n : Nat) : Int)) = (Value.int .i64 ((n : Nat) : Int))) ∧ ((Value.int .i64 (IntKind.i64.wrap (0 + 1))) = (Value.int .i64 ((1 : Nat) : Int))) ∧ True) ∧ ((flat [.l (numC 4 vs)] = flat [.l (numC 4 vs)]) ∧ (24 = 24 ∧ ((true = true ∧ gs.length = gs.length) ∧ (true = true ∧ true = true ∧ [Value.int .i64 pub] = [Value.int .i64 pub]) ∧ (true = true ∧ true = true ∧ [Value.int .i64 vars] = [Value.int .i64 vars]) ∧ True)) ∧ (41 = 41 ∧ flat [.n 4 be] = flat [.n 4 be]) ∧ (41 = 41 ∧ flat [.n 4 ga] = flat [.n 4 ga]) ∧ (flat [.l (gsC gs)] = flat [.l (gsC gs)]) ∧ (34 = 34 ∧ ((true = true ∧ 1 = 1) ∧ (true = true ∧ true = true ∧ [Value.slice none 0 0] = [Value.slice none 0 0]) ∧ (true = true ∧ true = true ∧ [Value.slice none 0 0] = [Value.slice none 0 0]) ∧ True)) ∧ ((41 = 41 ∧ 4 = 4) ∧ flat [Ch.c (.int .u64 0), Ch.c (.int .u64 0), Ch.c (.int .u64 0), Ch.c (.int .u64 0)] = flat [.l (limbs 4 0)]) ∧ True) from ⟨⟨rfl, ⟨rfl, rfl⟩, ⟨rfl, rfl⟩, ⟨rfl, rfl⟩, ⟨rfl, rfl⟩, ⟨rfl, rfl⟩, rfl, rfl, rfl, rfl, trivial⟩, ⟨rfl, ⟨rfl, ⟨⟨rfl, rfl⟩, ⟨rfl, rfl, rfl⟩, ⟨rfl, rfl, rfl⟩, trivial⟩⟩, ⟨rfl, rfl⟩, ⟨rfl, rfl⟩, rfl, ⟨rfl, ⟨⟨rfl, rfl⟩, ⟨rfl, rfl, rfl⟩, ⟨rfl, rfl, rfl⟩, trivial⟩⟩, ⟨⟨rfl, rfl⟩, z_flat1⟩, trivial⟩⟩)
    (And.intro (show decide (((vs.length : Nat) : Int) > 0) = false from decide_eq_false (by omega))
    (And.intro (show decide ((wv g 0) ≥ 0) = true from decide_eq_true (by omega))
    (And.intro (show (flat [.l (gsC gs)])[0 * 23 + 20 + 0]? = some (.int .i64 (wv g 0)) from wire_cell gs 0 g hg 0 (by decide))
    (And.intro (show (0 : Int) = ((0 : Nat) : Int) ∧ 0 < gs.length from ⟨rfl, glt hg⟩)
    (And.intro (show decide ((0 : Int) < ((gs.length : Nat) : Int)) = true from decide_eq_true (by have := glt hg; omega))
    (And.intro (show decide ((0 : Int) < ((n : Nat) : Int)) = true from decide_eq_true (by omega)) trivial)))))))
theorem scr0m (gs : List GT) (pub vars : Int) (vs : List Nat) (be ga : Nat) (lg n : Nat) (hn : n ≤ 1000) (C : List Value) (i : Nat) (hi : i < n) (hC : C.length = i * 4) (g : GT) (hg : gs[i]? = some g) (hv : 0 ≤ wv g 0) (hl : vs.length = 0)  : Sound Try.prog 0 false (loopB Try.f6 1) (scI0 gs pub vars vs be ga lg n C i).aa .normal (scI0 gs pub vars vs be ga lg n (C ++ (limbs 4 0)) (i + 1)).aa := by
  exact roundP_sound (P := Try.prog) (X := rulesR _) (env := []) trivial (n := 0) (os := (oL [(58, wT), (68, wT), (73, rO 14 i), (76, { ch := 0, hi := fun _ => 0, ru := 8, av := fun _ => .v (.int .i64 (wv g 0)) }), (79, wT), (83, wF), (91, { ch := 0, hi := fun _ => 0, ex := 1 })])) (fb := 0) (rd := false) (c := (loopB Try.f6 1)) (k := 58) (I := scI0 gs pub vars vs be ga lg n C i) (J := scI0 gs pub vars vs be ga lg n (C ++ (limbs 4 0)) (i + 1)) (τ := [(57, 91)]) (ex := .normal) (by kernel_rfl)
    (And.intro (show (((Value.int .i64 ((lg : Nat) : Int)) = (Value.int .i64 ((lg : Nat) : Int))) ∧ (true = true ∧ vs.length = vs.length) ∧ (true = true ∧ 0 = 0) ∧ (true = true ∧ 0 = 0) ∧ (true = true ∧ 0 = 0) ∧ (true = true ∧ 0 = 0) ∧ ((Value.int .i64 0) = (Value.int .i64 0)) ∧ ((Value.int .i64 0) = (Value.int .i64 0)) ∧ ((Value.int .i64 ((n : Nat) : Int)) = (Value.int .i64 ((n : Nat) : Int))) ∧ ((Value.int .i64 (IntKind.i64.wrap (((i : Nat) : Int) + 1))) = (Value.int .i64 (((i + 1) : Nat) : Int))) ∧ True) ∧ ((flat [.l (numC 4 vs)] = flat [.l (numC 4 vs)]) ∧ (24 = 24 ∧ ((true = true ∧ gs.length = gs.length) ∧ (true = true ∧ true = true ∧ [Value.int .i64 pub] = [Value.int .i64 pub]) ∧ (true = true ∧ true = true ∧ [Value.int .i64 vars] = [Value.int .i64 vars]) ∧ True)) ∧ (41 = 41 ∧ flat [.n 4 be] = flat [.n 4 be]) ∧ (41 = 41 ∧ flat [.n 4 ga] = flat [.n 4 ga]) ∧ (flat [.l (gsC gs)] = flat [.l (gsC gs)]) ∧ (34 = 34 ∧ ((true = true ∧ (i + 1) = (i + 1)) ∧ (true = true ∧ true = true ∧ [Value.slice none 0 0] = [Value.slice none 0 0]) ∧ (true = true ∧ true = true ∧ [Value.slice none 0 0] = [Value.slice none 0 0]) ∧ True)) ∧ ((41 = 41 ∧ 4 = 4) ∧ flat [.l C, Ch.c (.int .u64 0), Ch.c (.int .u64 0), Ch.c (.int .u64 0), Ch.c (.int .u64 0)] = flat [.l (C ++ limbs 4 0)]) ∧ True) from ⟨⟨rfl, ⟨rfl, rfl⟩, ⟨rfl, rfl⟩, ⟨rfl, rfl⟩, ⟨rfl, rfl⟩, ⟨rfl, rfl⟩, rfl, rfl, rfl, by rw [r_next (by omega)], trivial⟩, ⟨rfl, ⟨rfl, ⟨⟨rfl, rfl⟩, ⟨rfl, rfl, rfl⟩, ⟨rfl, rfl, rfl⟩, trivial⟩⟩, ⟨rfl, rfl⟩, ⟨rfl, rfl⟩, rfl, ⟨rfl, ⟨⟨rfl, rfl⟩, ⟨rfl, rfl, rfl⟩, ⟨rfl, rfl, rfl⟩, trivial⟩⟩, ⟨⟨rfl, rfl⟩, z_flat C⟩, trivial⟩⟩)
    (And.intro (show sizes [.l C] = i * 4 ∧ i + 1 ≤ 9223372036854775807 ∧ (i + 1) * 32 ≤ 140737488355328 ∧ True from ⟨by show C.length + 0 = i * 4; omega, by omega, by omega, trivial⟩)
    (And.intro (show decide (((vs.length : Nat) : Int) > 0) = false from decide_eq_false (by omega))
    (And.intro (show decide ((wv g 0) ≥ 0) = true from decide_eq_true (by omega))
    (And.intro (show (flat [.l (gsC gs)])[i * 23 + 20 + 0]? = some (.int .i64 (wv g 0)) from wire_cell gs i g hg 0 (by decide))
    (And.intro (show ((i : Nat) : Int) = ((i : Nat) : Int) ∧ i < gs.length from ⟨rfl, glt hg⟩)
    (And.intro (show decide (((i : Nat) : Int) < ((gs.length : Nat) : Int)) = true from decide_eq_true (by have := glt hg; omega))
    (And.intro (show decide (((i : Nat) : Int) < ((n : Nat) : Int)) = true from decide_eq_true (by omega)) trivial))))))))
theorem scz0y (gs : List GT) (pub vars : Int) (vs : List Nat) (be ga : Nat) (lg n : Nat) (hn : n ≤ 1000) (h0 : 0 < n) (g : GT) (hg : gs[0]? = some g) (hv : 0 ≤ wv g 0) (hl : 0 < vs.length) (j x : Nat) (hr : (wv g 0).tmod ((vs.length : Nat) : Int) = ((j : Nat) : Int)) (hx : vs[j]? = some x) (hx2 : x < 115792089237316195423570985008687907853269984665640564039457584007913129639936)  : Sound Try.prog 0 false (loopB Try.f6 1) (scZ0 gs pub vars vs be ga lg n ).aa .normal (scI0 gs pub vars vs be ga lg n (limbs 4 x) 1).aa := by
  exact roundP_sound (P := Try.prog) (X := rulesR _) (env := []) trivial (n := 0) (os := (oL [(58, wT), (68, wT), (73, rO 14 0), (76, { ch := 0, hi := fun _ => 0, ru := 8, av := fun _ => .v (.int .i64 (wv g 0)) }), (79, wT), (83, wT), (89, rmO j), (90, rO 14 j), (91, { ch := 0, hi := fun _ => 0, ru := 8, cs := fun _ => [.n 4 x] })])) (fb := 0) (rd := false) (c := (loopB Try.f6 1)) (k := 58) (I := scZ0 gs pub vars vs be ga lg n ) (J := scI0 gs pub vars vs be ga lg n (limbs 4 x) 1) (τ := [(57, 99)]) (ex := .normal) (by kernel_rfl)
    (And.intro (show (((Value.int .i64 ((lg : Nat) : Int)) = (Value.int .i64 ((lg : Nat) : Int))) ∧ (true = true ∧ vs.length = vs.length) ∧ (true = true ∧ 0 = 0) ∧ (true = true ∧ 0 = 0) ∧ (true = true ∧ 0 = 0) ∧ (true = true ∧ 0 = 0) ∧ ((Value.int .i64 0) = (Value.int .i64 0)) ∧ ((Value.int .i64 0) = (Value.int .i64 0)) ∧ ((Value.int .i64 ((n : Nat) : Int)) = (Value.int .i64 ((n : Nat) : Int))) ∧ ((Value.int .i64 (IntKind.i64.wrap (0 + 1))) = (Value.int .i64 ((1 : Nat) : Int))) ∧ True) ∧ ((flat [.l (numC 4 vs)] = flat [.l (numC 4 vs)]) ∧ (24 = 24 ∧ ((true = true ∧ gs.length = gs.length) ∧ (true = true ∧ true = true ∧ [Value.int .i64 pub] = [Value.int .i64 pub]) ∧ (true = true ∧ true = true ∧ [Value.int .i64 vars] = [Value.int .i64 vars]) ∧ True)) ∧ (41 = 41 ∧ flat [.n 4 be] = flat [.n 4 be]) ∧ (41 = 41 ∧ flat [.n 4 ga] = flat [.n 4 ga]) ∧ (flat [.l (gsC gs)] = flat [.l (gsC gs)]) ∧ (34 = 34 ∧ ((true = true ∧ 1 = 1) ∧ (true = true ∧ true = true ∧ [Value.slice none 0 0] = [Value.slice none 0 0]) ∧ (true = true ∧ true = true ∧ [Value.slice none 0 0] = [Value.slice none 0 0]) ∧ True)) ∧ ((41 = 41 ∧ 4 = 4) ∧ flat [.n 4 x] = flat [.l (limbs 4 x)]) ∧ True) from ⟨⟨rfl, ⟨rfl, rfl⟩, ⟨rfl, rfl⟩, ⟨rfl, rfl⟩, ⟨rfl, rfl⟩, ⟨rfl, rfl⟩, rfl, rfl, rfl, rfl, trivial⟩, ⟨rfl, ⟨rfl, ⟨⟨rfl, rfl⟩, ⟨rfl, rfl, rfl⟩, ⟨rfl, rfl, rfl⟩, trivial⟩⟩, ⟨rfl, rfl⟩, ⟨rfl, rfl⟩, rfl, ⟨rfl, ⟨⟨rfl, rfl⟩, ⟨rfl, rfl, rfl⟩, ⟨rfl, rfl, rfl⟩, trivial⟩⟩, ⟨⟨rfl, rfl⟩, n_flat1 x⟩, trivial⟩⟩)
    (And.intro (nu_at vs j x hx)
    (And.intro (show ((j : Nat) : Int) = ((j : Nat) : Int) ∧ j < vs.length from ⟨rfl, pl_lt hx⟩)
    (And.intro (show IntKind.i64 = IntKind.i64 ∧ ((vs.length : Nat) : Int) ≠ 0 ∧ (wv g 0).tmod ((vs.length : Nat) : Int) = ((j : Nat) : Int) from ⟨rfl, by omega, hr⟩)
    (And.intro (show decide (((vs.length : Nat) : Int) > 0) = true from decide_eq_true (by omega))
    (And.intro (show decide ((wv g 0) ≥ 0) = true from decide_eq_true (by omega))
    (And.intro (show (flat [.l (gsC gs)])[0 * 23 + 20 + 0]? = some (.int .i64 (wv g 0)) from wire_cell gs 0 g hg 0 (by decide))
    (And.intro (show (0 : Int) = ((0 : Nat) : Int) ∧ 0 < gs.length from ⟨rfl, glt hg⟩)
    (And.intro (show decide ((0 : Int) < ((gs.length : Nat) : Int)) = true from decide_eq_true (by have := glt hg; omega))
    (And.intro (show decide ((0 : Int) < ((n : Nat) : Int)) = true from decide_eq_true (by omega)) trivial))))))))))
theorem scr0y (gs : List GT) (pub vars : Int) (vs : List Nat) (be ga : Nat) (lg n : Nat) (hn : n ≤ 1000) (C : List Value) (i : Nat) (hi : i < n) (hC : C.length = i * 4) (g : GT) (hg : gs[i]? = some g) (hv : 0 ≤ wv g 0) (hl : 0 < vs.length) (j x : Nat) (hr : (wv g 0).tmod ((vs.length : Nat) : Int) = ((j : Nat) : Int)) (hx : vs[j]? = some x) (hx2 : x < 115792089237316195423570985008687907853269984665640564039457584007913129639936)  : Sound Try.prog 0 false (loopB Try.f6 1) (scI0 gs pub vars vs be ga lg n C i).aa .normal (scI0 gs pub vars vs be ga lg n (C ++ (limbs 4 x)) (i + 1)).aa := by
  exact roundP_sound (P := Try.prog) (X := rulesR _) (env := []) trivial (n := 0) (os := (oL [(58, wT), (68, wT), (73, rO 14 i), (76, { ch := 0, hi := fun _ => 0, ru := 8, av := fun _ => .v (.int .i64 (wv g 0)) }), (79, wT), (83, wT), (89, rmO j), (90, rO 14 j), (91, { ch := 0, hi := fun _ => 0, ru := 8, cs := fun _ => [.n 4 x] }), (99, { ch := 0, hi := fun _ => 0, ex := 1 })])) (fb := 0) (rd := false) (c := (loopB Try.f6 1)) (k := 58) (I := scI0 gs pub vars vs be ga lg n C i) (J := scI0 gs pub vars vs be ga lg n (C ++ (limbs 4 x)) (i + 1)) (τ := [(57, 99)]) (ex := .normal) (by kernel_rfl)
    (And.intro (show (((Value.int .i64 ((lg : Nat) : Int)) = (Value.int .i64 ((lg : Nat) : Int))) ∧ (true = true ∧ vs.length = vs.length) ∧ (true = true ∧ 0 = 0) ∧ (true = true ∧ 0 = 0) ∧ (true = true ∧ 0 = 0) ∧ (true = true ∧ 0 = 0) ∧ ((Value.int .i64 0) = (Value.int .i64 0)) ∧ ((Value.int .i64 0) = (Value.int .i64 0)) ∧ ((Value.int .i64 ((n : Nat) : Int)) = (Value.int .i64 ((n : Nat) : Int))) ∧ ((Value.int .i64 (IntKind.i64.wrap (((i : Nat) : Int) + 1))) = (Value.int .i64 (((i + 1) : Nat) : Int))) ∧ True) ∧ ((flat [.l (numC 4 vs)] = flat [.l (numC 4 vs)]) ∧ (24 = 24 ∧ ((true = true ∧ gs.length = gs.length) ∧ (true = true ∧ true = true ∧ [Value.int .i64 pub] = [Value.int .i64 pub]) ∧ (true = true ∧ true = true ∧ [Value.int .i64 vars] = [Value.int .i64 vars]) ∧ True)) ∧ (41 = 41 ∧ flat [.n 4 be] = flat [.n 4 be]) ∧ (41 = 41 ∧ flat [.n 4 ga] = flat [.n 4 ga]) ∧ (flat [.l (gsC gs)] = flat [.l (gsC gs)]) ∧ (34 = 34 ∧ ((true = true ∧ (i + 1) = (i + 1)) ∧ (true = true ∧ true = true ∧ [Value.slice none 0 0] = [Value.slice none 0 0]) ∧ (true = true ∧ true = true ∧ [Value.slice none 0 0] = [Value.slice none 0 0]) ∧ True)) ∧ ((41 = 41 ∧ 4 = 4) ∧ flat [.l C, .n 4 x] = flat [.l (C ++ limbs 4 x)]) ∧ True) from ⟨⟨rfl, ⟨rfl, rfl⟩, ⟨rfl, rfl⟩, ⟨rfl, rfl⟩, ⟨rfl, rfl⟩, ⟨rfl, rfl⟩, rfl, rfl, rfl, by rw [r_next (by omega)], trivial⟩, ⟨rfl, ⟨rfl, ⟨⟨rfl, rfl⟩, ⟨rfl, rfl, rfl⟩, ⟨rfl, rfl, rfl⟩, trivial⟩⟩, ⟨rfl, rfl⟩, ⟨rfl, rfl⟩, rfl, ⟨rfl, ⟨⟨rfl, rfl⟩, ⟨rfl, rfl, rfl⟩, ⟨rfl, rfl, rfl⟩, trivial⟩⟩, ⟨⟨rfl, rfl⟩, n_flat C x⟩, trivial⟩⟩)
    (And.intro (show sizes [.l C] = i * 4 ∧ i + 1 ≤ 9223372036854775807 ∧ (i + 1) * 32 ≤ 140737488355328 ∧ True from ⟨by show C.length + 0 = i * 4; omega, by omega, by omega, trivial⟩)
    (And.intro (nu_at vs j x hx)
    (And.intro (show ((j : Nat) : Int) = ((j : Nat) : Int) ∧ j < vs.length from ⟨rfl, pl_lt hx⟩)
    (And.intro (show IntKind.i64 = IntKind.i64 ∧ ((vs.length : Nat) : Int) ≠ 0 ∧ (wv g 0).tmod ((vs.length : Nat) : Int) = ((j : Nat) : Int) from ⟨rfl, by omega, hr⟩)
    (And.intro (show decide (((vs.length : Nat) : Int) > 0) = true from decide_eq_true (by omega))
    (And.intro (show decide ((wv g 0) ≥ 0) = true from decide_eq_true (by omega))
    (And.intro (show (flat [.l (gsC gs)])[i * 23 + 20 + 0]? = some (.int .i64 (wv g 0)) from wire_cell gs i g hg 0 (by decide))
    (And.intro (show ((i : Nat) : Int) = ((i : Nat) : Int) ∧ i < gs.length from ⟨rfl, glt hg⟩)
    (And.intro (show decide (((i : Nat) : Int) < ((gs.length : Nat) : Int)) = true from decide_eq_true (by have := glt hg; omega))
    (And.intro (show decide (((i : Nat) : Int) < ((n : Nat) : Int)) = true from decide_eq_true (by omega)) trivial)))))))))))
theorem sc_e0 (gs : List GT) (pub vars : Int) (vs : List Nat) (be ga : Nat) (lg n : Nat) (C : List Value) : Sound Try.prog 0 false (loopB Try.f6 1) (scI0 gs pub vars vs be ga lg n C n).aa (.exit 2) (scE0 gs pub vars vs be ga lg n C).aa := by
  have hh := roundK_sound (P := Try.prog) (X := rulesM _) (env := []) trivial (n := 0) (os := (oL [(58, wF)])) (fb := 0) (rd := false) (c := (loopB Try.f6 1)) (k := 58) (I := scI0 gs pub vars vs be ga lg n C n) (sk := [1, 2, 5, 8, 9, 12, 36]) (hk := [5, 6, 7, 8, 22, 49, 57]) (lk := []) (ex := (.exit 2))
    (L := scE0 gs pub vars vs be ga lg n C) (by kernel_rfl)
    (And.intro (show decide (((n : Nat) : Int) < ((n : Nat) : Int)) = false from decide_eq_false (by omega)) trivial)
  exact hh
theorem sca0 (gs : List GT) (pub vars : Int) (vs : List Nat) (be ga : Nat) (lg n : Nat) (hn : n ≤ 1000) (h0 : 0 < n) (hvs : ∀ x, x ∈ vs → x < 115792089237316195423570985008687907853269984665640564039457584007913129639936) : Sound Try.prog 0 false (.loop (loopB Try.f6 1)) (scZ0 gs pub vars vs be ga lg n ).aa (.exit 2) (scE0 gs pub vars vs be ga lg n (numC 4 (mW (vf gs n) n vs 0))).aa := by
  have hh := loop_ok (P := Try.prog) (fb := 0) (rd := false) (body := (loopB Try.f6 1)) (ex := .exit 2) (E := scE0 gs pub vars vs be ga lg n (mC (vf gs n) n vs 0 n)) (m := fun y : { i : Nat // i ≤ n } => n - y.val) (fun y => match y.val with | 0 => scZ0 gs pub vars vs be ga lg n  | i + 1 => scI0 gs pub vars vs be ga lg n (mC (vf gs n) n vs 0 (i + 1)) (i + 1)) (by simp) (fun y => ?_) ⟨0, by omega⟩
  · exact hh
  obtain ⟨i, hi⟩ := y
  match i, hi with
  | 0, hi => exact .inl ⟨⟨1, by omega⟩, by show n - 1 < n - 0; omega, by
      have e : (mC (vf gs n) n vs 0 (0 + 1)) = limbs 4 (wvN vs (wAt gs 0 0)) := by rw [mC_succ, vf_wi h0]; rfl
      show Sound _ _ _ _ _ _ (scI0 gs pub vars vs be ga lg n (mC (vf gs n) n vs 0 (0 + 1)) (0 + 1)).aa
      rw [e]
      by_cases hg : 0 < gs.length
      · obtain ⟨g, hg⟩ := pl_of hg
        rw [wAt_in hg]
        by_cases hv : 0 ≤ wv g 0
        · by_cases hl : 0 < vs.length
          · exact scz0y gs pub vars vs be ga lg n hn h0 g hg hv hl _ _ (rem_to hv _) (wv_yes hv hl) (wvN_lt hvs (by decide))
          · rw [wv_no (by omega)]; exact scz0m gs pub vars vs be ga lg n hn h0 g hg hv (by omega)
        · rw [wv_no (by omega)]; exact scz0n gs pub vars vs be ga lg n hn h0 g hg hv
      · rw [wAt_out hg, wv_no (by omega)]; exact scz0g gs pub vars vs be ga lg n hn h0 hg⟩
  | i + 1, hi =>
    by_cases e : i + 1 < n
    · refine .inl ⟨⟨i + 1 + 1, e⟩, by show n - (i + 1 + 1) < n - (i + 1); omega, ?_⟩
      show Sound _ _ _ _ _ _ (scI0 gs pub vars vs be ga lg n (mC (vf gs n) n vs 0 (i + 1 + 1)) (i + 1 + 1)).aa
      rw [mC_succ, vf_wi e]
      by_cases hg : (i + 1) < gs.length
      · obtain ⟨g, hg⟩ := pl_of hg
        rw [wAt_in hg]
        by_cases hv : 0 ≤ wv g 0
        · by_cases hl : 0 < vs.length
          · exact scr0y gs pub vars vs be ga lg n hn (mC (vf gs n) n vs 0 (i + 1)) (i + 1) e (mC_len _ _ _ _ _) g hg hv hl _ _ (rem_to hv _) (wv_yes hv hl) (wvN_lt hvs (by decide))
          · rw [wv_no (by omega)]; exact scr0m gs pub vars vs be ga lg n hn (mC (vf gs n) n vs 0 (i + 1)) (i + 1) e (mC_len _ _ _ _ _) g hg hv (by omega)
        · rw [wv_no (by omega)]; exact scr0n gs pub vars vs be ga lg n hn (mC (vf gs n) n vs 0 (i + 1)) (i + 1) e (mC_len _ _ _ _ _) g hg hv
      · rw [wAt_out hg, wv_no (by omega)]; exact scr0g gs pub vars vs be ga lg n hn (mC (vf gs n) n vs 0 (i + 1)) (i + 1) e (mC_len _ _ _ _ _) hg
    · have e : i + 1 = n := by omega
      refine .inr ?_
      show Sound _ _ _ _ (scI0 gs pub vars vs be ga lg n (mC (vf gs n) n vs 0 (i + 1)) (i + 1)).aa _ _
      rw [e]
      exact sc_e0 gs pub vars vs be ga lg n _
def scZ1 (gs : List GT) (pub vars : Int) (vs : List Nat) (be ga : Nat) (lg n : Nat) (G0 : List Value) : LState := { n := 130, sl := [(1, .v (.int .i64 (((lg : Nat) : Int)))), (2, .sz 5 vs.length), (5, .p 6 0), (8, .p 7 0), (9, .p 8 0), (12, .p 49 0), (36, .v (.int .i64 (1))), (13, .v (.int .i64 (1))), (40, .v (.int .i64 (((n : Nat) : Int)))), (41, .v (.int .i64 (0)))], hp := [(5, .rz [.l (numC 4 vs)]), (6, .own [.sz 22 gs.length, .c (.int .i64 pub), .c (.int .i64 vars)] 24), (7, .own [.n 4 be] 41), (8, .own [.n 4 ga] 41), (22, .rz [.l (gsC gs)]), (49, .own [.sx 57 n, .c (.slice none 0 0), .c (.slice none 0 0)] 34), (57, .gr [.l G0] 41 4)] }
def scI1 (gs : List GT) (pub vars : Int) (vs : List Nat) (be ga : Nat) (lg n : Nat) (G0 : List Value) (C : List Value) (i : Nat) : LState := { n := 130, sl := [(1, .v (.int .i64 (((lg : Nat) : Int)))), (2, .sz 5 vs.length), (5, .p 6 0), (8, .p 7 0), (9, .p 8 0), (12, .p 49 0), (36, .v (.int .i64 (1))), (13, .v (.int .i64 (1))), (40, .v (.int .i64 (((n : Nat) : Int)))), (41, .v (.int .i64 ((i : Nat) : Int)))], hp := [(5, .rz [.l (numC 4 vs)]), (6, .own [.sz 22 gs.length, .c (.int .i64 pub), .c (.int .i64 vars)] 24), (7, .own [.n 4 be] 41), (8, .own [.n 4 ga] 41), (22, .rz [.l (gsC gs)]), (49, .own [.sx 57 n, .sx 66 i, .c (.slice none 0 0)] 34), (57, .gr [.l G0] 41 4), (66, .gr [.l C] 41 4)] }
def scE1 (gs : List GT) (pub vars : Int) (vs : List Nat) (be ga : Nat) (lg n : Nat) (G0 : List Value) (C : List Value) : LState := { n := 130, sl := [(1, .v (.int .i64 (((lg : Nat) : Int)))), (2, .sz 5 vs.length), (5, .p 6 0), (8, .p 7 0), (9, .p 8 0), (12, .p 49 0), (36, .v (.int .i64 (1)))], hp := [(5, .rz [.l (numC 4 vs)]), (6, .own [.sz 22 gs.length, .c (.int .i64 pub), .c (.int .i64 vars)] 24), (7, .own [.n 4 be] 41), (8, .own [.n 4 ga] 41), (22, .rz [.l (gsC gs)]), (49, .own [.sx 57 n, .sx 66 n, .c (.slice none 0 0)] 34), (57, .gr [.l G0] 41 4), (66, .gr [.l C] 41 4)] }
theorem scz1g (gs : List GT) (pub vars : Int) (vs : List Nat) (be ga : Nat) (lg n : Nat) (G0 : List Value) (hn : n ≤ 1000) (h0 : 0 < n) (hg : ¬ 0 < gs.length)  : Sound Try.prog 0 false (loopB Try.f6 1) (scZ1 gs pub vars vs be ga lg n G0 ).aa .normal (scI1 gs pub vars vs be ga lg n G0 (limbs 4 0) 1).aa := by
  exact roundP_sound (P := Try.prog) (X := rulesR _) (env := []) trivial (n := 0) (os := (oL [(67, wT), (77, wF)])) (fb := 0) (rd := false) (c := (loopB Try.f6 1)) (k := 67) (I := scZ1 gs pub vars vs be ga lg n G0 ) (J := scI1 gs pub vars vs be ga lg n G0 (limbs 4 0) 1) (τ := [(66, 84)]) (ex := .normal) (by kernel_rfl)
    (And.intro (show (((Value.int .i64 ((lg : Nat) : Int)) = (Value.int .i64 ((lg : Nat) : Int))) ∧ (true = true ∧ vs.length = vs.length) ∧ (true = true ∧ 0 = 0) ∧ (true = true ∧ 0 = 0) ∧ (true = true ∧ 0 = 0) ∧ (true = true ∧ 0 = 0) ∧ ((Value.int .i64 1) = (Value.int .i64 1)) ∧ ((Value.int .i64 1) = (Value.int .i64 1)) ∧ ((Value.int .i64 ((n : Nat) : Int)) = (Value.int .i64 ((n : Nat) : Int))) ∧ ((Value.int .i64 (IntKind.i64.wrap (0 + 1))) = (Value.int .i64 ((1 : Nat) : Int))) ∧ True) ∧ ((flat [.l (numC 4 vs)] = flat [.l (numC 4 vs)]) ∧ (24 = 24 ∧ ((true = true ∧ gs.length = gs.length) ∧ (true = true ∧ true = true ∧ [Value.int .i64 pub] = [Value.int .i64 pub]) ∧ (true = true ∧ true = true ∧ [Value.int .i64 vars] = [Value.int .i64 vars]) ∧ True)) ∧ (41 = 41 ∧ flat [.n 4 be] = flat [.n 4 be]) ∧ (41 = 41 ∧ flat [.n 4 ga] = flat [.n 4 ga]) ∧ (flat [.l (gsC gs)] = flat [.l (gsC gs)]) ∧ (34 = 34 ∧ ((true = true ∧ n = n) ∧ (true = true ∧ 1 = 1) ∧ (true = true ∧ true = true ∧ [Value.slice none 0 0] = [Value.slice none 0 0]) ∧ True)) ∧ ((41 = 41 ∧ 4 = 4) ∧ flat [.l G0] = flat [.l G0]) ∧ ((41 = 41 ∧ 4 = 4) ∧ flat [Ch.c (.int .u64 0), Ch.c (.int .u64 0), Ch.c (.int .u64 0), Ch.c (.int .u64 0)] = flat [.l (limbs 4 0)]) ∧ True) from ⟨⟨rfl, ⟨rfl, rfl⟩, ⟨rfl, rfl⟩, ⟨rfl, rfl⟩, ⟨rfl, rfl⟩, ⟨rfl, rfl⟩, rfl, rfl, rfl, rfl, trivial⟩, ⟨rfl, ⟨rfl, ⟨⟨rfl, rfl⟩, ⟨rfl, rfl, rfl⟩, ⟨rfl, rfl, rfl⟩, trivial⟩⟩, ⟨rfl, rfl⟩, ⟨rfl, rfl⟩, rfl, ⟨rfl, ⟨⟨rfl, rfl⟩, ⟨rfl, rfl⟩, ⟨rfl, rfl, rfl⟩, trivial⟩⟩, ⟨⟨rfl, rfl⟩, rfl⟩, ⟨⟨rfl, rfl⟩, z_flat1⟩, trivial⟩⟩)
    (And.intro (show decide ((0 : Int) < ((gs.length : Nat) : Int)) = false from decide_eq_false (by omega))
    (And.intro (show decide ((0 : Int) < ((n : Nat) : Int)) = true from decide_eq_true (by omega)) trivial)))
theorem scr1g (gs : List GT) (pub vars : Int) (vs : List Nat) (be ga : Nat) (lg n : Nat) (G0 : List Value) (hn : n ≤ 1000) (C : List Value) (i : Nat) (hi : i < n) (hC : C.length = i * 4) (hg : ¬ i < gs.length)  : Sound Try.prog 0 false (loopB Try.f6 1) (scI1 gs pub vars vs be ga lg n G0 C i).aa .normal (scI1 gs pub vars vs be ga lg n G0 (C ++ (limbs 4 0)) (i + 1)).aa := by
  exact roundP_sound (P := Try.prog) (X := rulesR _) (env := []) trivial (n := 0) (os := (oL [(67, wT), (77, wF), (84, { ch := 0, hi := fun _ => 0, ex := 1 })])) (fb := 0) (rd := false) (c := (loopB Try.f6 1)) (k := 67) (I := scI1 gs pub vars vs be ga lg n G0 C i) (J := scI1 gs pub vars vs be ga lg n G0 (C ++ (limbs 4 0)) (i + 1)) (τ := [(66, 84)]) (ex := .normal) (by kernel_rfl)
    (And.intro (show (((Value.int .i64 ((lg : Nat) : Int)) = (Value.int .i64 ((lg : Nat) : Int))) ∧ (true = true ∧ vs.length = vs.length) ∧ (true = true ∧ 0 = 0) ∧ (true = true ∧ 0 = 0) ∧ (true = true ∧ 0 = 0) ∧ (true = true ∧ 0 = 0) ∧ ((Value.int .i64 1) = (Value.int .i64 1)) ∧ ((Value.int .i64 1) = (Value.int .i64 1)) ∧ ((Value.int .i64 ((n : Nat) : Int)) = (Value.int .i64 ((n : Nat) : Int))) ∧ ((Value.int .i64 (IntKind.i64.wrap (((i : Nat) : Int) + 1))) = (Value.int .i64 (((i + 1) : Nat) : Int))) ∧ True) ∧ ((flat [.l (numC 4 vs)] = flat [.l (numC 4 vs)]) ∧ (24 = 24 ∧ ((true = true ∧ gs.length = gs.length) ∧ (true = true ∧ true = true ∧ [Value.int .i64 pub] = [Value.int .i64 pub]) ∧ (true = true ∧ true = true ∧ [Value.int .i64 vars] = [Value.int .i64 vars]) ∧ True)) ∧ (41 = 41 ∧ flat [.n 4 be] = flat [.n 4 be]) ∧ (41 = 41 ∧ flat [.n 4 ga] = flat [.n 4 ga]) ∧ (flat [.l (gsC gs)] = flat [.l (gsC gs)]) ∧ (34 = 34 ∧ ((true = true ∧ n = n) ∧ (true = true ∧ (i + 1) = (i + 1)) ∧ (true = true ∧ true = true ∧ [Value.slice none 0 0] = [Value.slice none 0 0]) ∧ True)) ∧ ((41 = 41 ∧ 4 = 4) ∧ flat [.l G0] = flat [.l G0]) ∧ ((41 = 41 ∧ 4 = 4) ∧ flat [.l C, Ch.c (.int .u64 0), Ch.c (.int .u64 0), Ch.c (.int .u64 0), Ch.c (.int .u64 0)] = flat [.l (C ++ limbs 4 0)]) ∧ True) from ⟨⟨rfl, ⟨rfl, rfl⟩, ⟨rfl, rfl⟩, ⟨rfl, rfl⟩, ⟨rfl, rfl⟩, ⟨rfl, rfl⟩, rfl, rfl, rfl, by rw [r_next (by omega)], trivial⟩, ⟨rfl, ⟨rfl, ⟨⟨rfl, rfl⟩, ⟨rfl, rfl, rfl⟩, ⟨rfl, rfl, rfl⟩, trivial⟩⟩, ⟨rfl, rfl⟩, ⟨rfl, rfl⟩, rfl, ⟨rfl, ⟨⟨rfl, rfl⟩, ⟨rfl, rfl⟩, ⟨rfl, rfl, rfl⟩, trivial⟩⟩, ⟨⟨rfl, rfl⟩, rfl⟩, ⟨⟨rfl, rfl⟩, z_flat C⟩, trivial⟩⟩)
    (And.intro (show sizes [.l C] = i * 4 ∧ i + 1 ≤ 9223372036854775807 ∧ (i + 1) * 32 ≤ 140737488355328 ∧ True from ⟨by show C.length + 0 = i * 4; omega, by omega, by omega, trivial⟩)
    (And.intro (show decide (((i : Nat) : Int) < ((gs.length : Nat) : Int)) = false from decide_eq_false (by omega))
    (And.intro (show decide (((i : Nat) : Int) < ((n : Nat) : Int)) = true from decide_eq_true (by omega)) trivial))))
theorem scz1n (gs : List GT) (pub vars : Int) (vs : List Nat) (be ga : Nat) (lg n : Nat) (G0 : List Value) (hn : n ≤ 1000) (h0 : 0 < n) (g : GT) (hg : gs[0]? = some g) (hv : ¬ 0 ≤ wv g 1)  : Sound Try.prog 0 false (loopB Try.f6 1) (scZ1 gs pub vars vs be ga lg n G0 ).aa .normal (scI1 gs pub vars vs be ga lg n G0 (limbs 4 0) 1).aa := by
  exact roundP_sound (P := Try.prog) (X := rulesR _) (env := []) trivial (n := 0) (os := (oL [(67, wT), (77, wT), (82, rO 14 0), (85, { ch := 0, hi := fun _ => 0, ru := 8, av := fun _ => .v (.int .i64 (wv g 1)) }), (88, wF)])) (fb := 0) (rd := false) (c := (loopB Try.f6 1)) (k := 67) (I := scZ1 gs pub vars vs be ga lg n G0 ) (J := scI1 gs pub vars vs be ga lg n G0 (limbs 4 0) 1) (τ := [(66, 100)]) (ex := .normal) (by kernel_rfl)
    (And.intro (show (((Value.int .i64 ((lg : Nat) : Int)) = (Value.int .i64 ((lg : Nat) : Int))) ∧ (true = true ∧ vs.length = vs.length) ∧ (true = true ∧ 0 = 0) ∧ (true = true ∧ 0 = 0) ∧ (true = true ∧ 0 = 0) ∧ (true = true ∧ 0 = 0) ∧ ((Value.int .i64 1) = (Value.int .i64 1)) ∧ ((Value.int .i64 1) = (Value.int .i64 1)) ∧ ((Value.int .i64 ((n : Nat) : Int)) = (Value.int .i64 ((n : Nat) : Int))) ∧ ((Value.int .i64 (IntKind.i64.wrap (0 + 1))) = (Value.int .i64 ((1 : Nat) : Int))) ∧ True) ∧ ((flat [.l (numC 4 vs)] = flat [.l (numC 4 vs)]) ∧ (24 = 24 ∧ ((true = true ∧ gs.length = gs.length) ∧ (true = true ∧ true = true ∧ [Value.int .i64 pub] = [Value.int .i64 pub]) ∧ (true = true ∧ true = true ∧ [Value.int .i64 vars] = [Value.int .i64 vars]) ∧ True)) ∧ (41 = 41 ∧ flat [.n 4 be] = flat [.n 4 be]) ∧ (41 = 41 ∧ flat [.n 4 ga] = flat [.n 4 ga]) ∧ (flat [.l (gsC gs)] = flat [.l (gsC gs)]) ∧ (34 = 34 ∧ ((true = true ∧ n = n) ∧ (true = true ∧ 1 = 1) ∧ (true = true ∧ true = true ∧ [Value.slice none 0 0] = [Value.slice none 0 0]) ∧ True)) ∧ ((41 = 41 ∧ 4 = 4) ∧ flat [.l G0] = flat [.l G0]) ∧ ((41 = 41 ∧ 4 = 4) ∧ flat [Ch.c (.int .u64 0), Ch.c (.int .u64 0), Ch.c (.int .u64 0), Ch.c (.int .u64 0)] = flat [.l (limbs 4 0)]) ∧ True) from ⟨⟨rfl, ⟨rfl, rfl⟩, ⟨rfl, rfl⟩, ⟨rfl, rfl⟩, ⟨rfl, rfl⟩, ⟨rfl, rfl⟩, rfl, rfl, rfl, rfl, trivial⟩, ⟨rfl, ⟨rfl, ⟨⟨rfl, rfl⟩, ⟨rfl, rfl, rfl⟩, ⟨rfl, rfl, rfl⟩, trivial⟩⟩, ⟨rfl, rfl⟩, ⟨rfl, rfl⟩, rfl, ⟨rfl, ⟨⟨rfl, rfl⟩, ⟨rfl, rfl⟩, ⟨rfl, rfl, rfl⟩, trivial⟩⟩, ⟨⟨rfl, rfl⟩, rfl⟩, ⟨⟨rfl, rfl⟩, z_flat1⟩, trivial⟩⟩)
    (And.intro (show decide ((wv g 1) ≥ 0) = false from decide_eq_false (by omega))
    (And.intro (show (flat [.l (gsC gs)])[0 * 23 + 20 + 1]? = some (.int .i64 (wv g 1)) from wire_cell gs 0 g hg 1 (by decide))
    (And.intro (show (0 : Int) = ((0 : Nat) : Int) ∧ 0 < gs.length from ⟨rfl, glt hg⟩)
    (And.intro (show decide ((0 : Int) < ((gs.length : Nat) : Int)) = true from decide_eq_true (by have := glt hg; omega))
    (And.intro (show decide ((0 : Int) < ((n : Nat) : Int)) = true from decide_eq_true (by omega)) trivial))))))
theorem scr1n (gs : List GT) (pub vars : Int) (vs : List Nat) (be ga : Nat) (lg n : Nat) (G0 : List Value) (hn : n ≤ 1000) (C : List Value) (i : Nat) (hi : i < n) (hC : C.length = i * 4) (g : GT) (hg : gs[i]? = some g) (hv : ¬ 0 ≤ wv g 1)  : Sound Try.prog 0 false (loopB Try.f6 1) (scI1 gs pub vars vs be ga lg n G0 C i).aa .normal (scI1 gs pub vars vs be ga lg n G0 (C ++ (limbs 4 0)) (i + 1)).aa := by
  exact roundP_sound (P := Try.prog) (X := rulesR _) (env := []) trivial (n := 0) (os := (oL [(67, wT), (77, wT), (82, rO 14 i), (85, { ch := 0, hi := fun _ => 0, ru := 8, av := fun _ => .v (.int .i64 (wv g 1)) }), (88, wF), (100, { ch := 0, hi := fun _ => 0, ex := 1 })])) (fb := 0) (rd := false) (c := (loopB Try.f6 1)) (k := 67) (I := scI1 gs pub vars vs be ga lg n G0 C i) (J := scI1 gs pub vars vs be ga lg n G0 (C ++ (limbs 4 0)) (i + 1)) (τ := [(66, 100)]) (ex := .normal) (by kernel_rfl)
    (And.intro (show (((Value.int .i64 ((lg : Nat) : Int)) = (Value.int .i64 ((lg : Nat) : Int))) ∧ (true = true ∧ vs.length = vs.length) ∧ (true = true ∧ 0 = 0) ∧ (true = true ∧ 0 = 0) ∧ (true = true ∧ 0 = 0) ∧ (true = true ∧ 0 = 0) ∧ ((Value.int .i64 1) = (Value.int .i64 1)) ∧ ((Value.int .i64 1) = (Value.int .i64 1)) ∧ ((Value.int .i64 ((n : Nat) : Int)) = (Value.int .i64 ((n : Nat) : Int))) ∧ ((Value.int .i64 (IntKind.i64.wrap (((i : Nat) : Int) + 1))) = (Value.int .i64 (((i + 1) : Nat) : Int))) ∧ True) ∧ ((flat [.l (numC 4 vs)] = flat [.l (numC 4 vs)]) ∧ (24 = 24 ∧ ((true = true ∧ gs.length = gs.length) ∧ (true = true ∧ true = true ∧ [Value.int .i64 pub] = [Value.int .i64 pub]) ∧ (true = true ∧ true = true ∧ [Value.int .i64 vars] = [Value.int .i64 vars]) ∧ True)) ∧ (41 = 41 ∧ flat [.n 4 be] = flat [.n 4 be]) ∧ (41 = 41 ∧ flat [.n 4 ga] = flat [.n 4 ga]) ∧ (flat [.l (gsC gs)] = flat [.l (gsC gs)]) ∧ (34 = 34 ∧ ((true = true ∧ n = n) ∧ (true = true ∧ (i + 1) = (i + 1)) ∧ (true = true ∧ true = true ∧ [Value.slice none 0 0] = [Value.slice none 0 0]) ∧ True)) ∧ ((41 = 41 ∧ 4 = 4) ∧ flat [.l G0] = flat [.l G0]) ∧ ((41 = 41 ∧ 4 = 4) ∧ flat [.l C, Ch.c (.int .u64 0), Ch.c (.int .u64 0), Ch.c (.int .u64 0), Ch.c (.int .u64 0)] = flat [.l (C ++ limbs 4 0)]) ∧ True) from ⟨⟨rfl, ⟨rfl, rfl⟩, ⟨rfl, rfl⟩, ⟨rfl, rfl⟩, ⟨rfl, rfl⟩, ⟨rfl, rfl⟩, rfl, rfl, rfl, by rw [r_next (by omega)], trivial⟩, ⟨rfl, ⟨rfl, ⟨⟨rfl, rfl⟩, ⟨rfl, rfl, rfl⟩, ⟨rfl, rfl, rfl⟩, trivial⟩⟩, ⟨rfl, rfl⟩, ⟨rfl, rfl⟩, rfl, ⟨rfl, ⟨⟨rfl, rfl⟩, ⟨rfl, rfl⟩, ⟨rfl, rfl, rfl⟩, trivial⟩⟩, ⟨⟨rfl, rfl⟩, rfl⟩, ⟨⟨rfl, rfl⟩, z_flat C⟩, trivial⟩⟩)
    (And.intro (show sizes [.l C] = i * 4 ∧ i + 1 ≤ 9223372036854775807 ∧ (i + 1) * 32 ≤ 140737488355328 ∧ True from ⟨by show C.length + 0 = i * 4; omega, by omega, by omega, trivial⟩)
    (And.intro (show decide ((wv g 1) ≥ 0) = false from decide_eq_false (by omega))
    (And.intro (show (flat [.l (gsC gs)])[i * 23 + 20 + 1]? = some (.int .i64 (wv g 1)) from wire_cell gs i g hg 1 (by decide))
    (And.intro (show ((i : Nat) : Int) = ((i : Nat) : Int) ∧ i < gs.length from ⟨rfl, glt hg⟩)
    (And.intro (show decide (((i : Nat) : Int) < ((gs.length : Nat) : Int)) = true from decide_eq_true (by have := glt hg; omega))
    (And.intro (show decide (((i : Nat) : Int) < ((n : Nat) : Int)) = true from decide_eq_true (by omega)) trivial)))))))
theorem scz1m (gs : List GT) (pub vars : Int) (vs : List Nat) (be ga : Nat) (lg n : Nat) (G0 : List Value) (hn : n ≤ 1000) (h0 : 0 < n) (g : GT) (hg : gs[0]? = some g) (hv : 0 ≤ wv g 1) (hl : vs.length = 0)  : Sound Try.prog 0 false (loopB Try.f6 1) (scZ1 gs pub vars vs be ga lg n G0 ).aa .normal (scI1 gs pub vars vs be ga lg n G0 (limbs 4 0) 1).aa := by
  exact roundP_sound (P := Try.prog) (X := rulesR _) (env := []) trivial (n := 0) (os := (oL [(67, wT), (77, wT), (82, rO 14 0), (85, { ch := 0, hi := fun _ => 0, ru := 8, av := fun _ => .v (.int .i64 (wv g 1)) }), (88, wT), (92, wF)])) (fb := 0) (rd := false) (c := (loopB Try.f6 1)) (k := 67) (I := scZ1 gs pub vars vs be ga lg n G0 ) (J := scI1 gs pub vars vs be ga lg n G0 (limbs 4 0) 1) (τ := [(66, 100)]) (ex := .normal) (by kernel_rfl)
    (And.intro (show (((Value.int .i64 ((lg : Nat) : Int)) = (Value.int .i64 ((lg : Nat) : Int))) ∧ (true = true ∧ vs.length = vs.length) ∧ (true = true ∧ 0 = 0) ∧ (true = true ∧ 0 = 0) ∧ (true = true ∧ 0 = 0) ∧ (true = true ∧ 0 = 0) ∧ ((Value.int .i64 1) = (Value.int .i64 1)) ∧ ((Value.int .i64 1) = (Value.int .i64 1)) ∧ ((Value.int .i64 ((n : Nat) : Int)) = (Value.int .i64 ((n : Nat) : Int))) ∧ ((Value.int .i64 (IntKind.i64.wrap (0 + 1))) = (Value.int .i64 ((1 : Nat) : Int))) ∧ True) ∧ ((flat [.l (numC 4 vs)] = flat [.l (numC 4 vs)]) ∧ (24 = 24 ∧ ((true = true ∧ gs.length = gs.length) ∧ (true = true ∧ true = true ∧ [Value.int .i64 pub] = [Value.int .i64 pub]) ∧ (true = true ∧ true = true ∧ [Value.int .i64 vars] = [Value.int .i64 vars]) ∧ True)) ∧ (41 = 41 ∧ flat [.n 4 be] = flat [.n 4 be]) ∧ (41 = 41 ∧ flat [.n 4 ga] = flat [.n 4 ga]) ∧ (flat [.l (gsC gs)] = flat [.l (gsC gs)]) ∧ (34 = 34 ∧ ((true = true ∧ n = n) ∧ (true = true ∧ 1 = 1) ∧ (true = true ∧ true = true ∧ [Value.slice none 0 0] = [Value.slice none 0 0]) ∧ True)) ∧ ((41 = 41 ∧ 4 = 4) ∧ flat [.l G0] = flat [.l G0]) ∧ ((41 = 41 ∧ 4 = 4) ∧ flat [Ch.c (.int .u64 0), Ch.c (.int .u64 0), Ch.c (.int .u64 0), Ch.c (.int .u64 0)] = flat [.l (limbs 4 0)]) ∧ True) from ⟨⟨rfl, ⟨rfl, rfl⟩, ⟨rfl, rfl⟩, ⟨rfl, rfl⟩, ⟨rfl, rfl⟩, ⟨rfl, rfl⟩, rfl, rfl, rfl, rfl, trivial⟩, ⟨rfl, ⟨rfl, ⟨⟨rfl, rfl⟩, ⟨rfl, rfl, rfl⟩, ⟨rfl, rfl, rfl⟩, trivial⟩⟩, ⟨rfl, rfl⟩, ⟨rfl, rfl⟩, rfl, ⟨rfl, ⟨⟨rfl, rfl⟩, ⟨rfl, rfl⟩, ⟨rfl, rfl, rfl⟩, trivial⟩⟩, ⟨⟨rfl, rfl⟩, rfl⟩, ⟨⟨rfl, rfl⟩, z_flat1⟩, trivial⟩⟩)
    (And.intro (show decide (((vs.length : Nat) : Int) > 0) = false from decide_eq_false (by omega))
    (And.intro (show decide ((wv g 1) ≥ 0) = true from decide_eq_true (by omega))
    (And.intro (show (flat [.l (gsC gs)])[0 * 23 + 20 + 1]? = some (.int .i64 (wv g 1)) from wire_cell gs 0 g hg 1 (by decide))
    (And.intro (show (0 : Int) = ((0 : Nat) : Int) ∧ 0 < gs.length from ⟨rfl, glt hg⟩)
    (And.intro (show decide ((0 : Int) < ((gs.length : Nat) : Int)) = true from decide_eq_true (by have := glt hg; omega))
    (And.intro (show decide ((0 : Int) < ((n : Nat) : Int)) = true from decide_eq_true (by omega)) trivial)))))))
theorem scr1m (gs : List GT) (pub vars : Int) (vs : List Nat) (be ga : Nat) (lg n : Nat) (G0 : List Value) (hn : n ≤ 1000) (C : List Value) (i : Nat) (hi : i < n) (hC : C.length = i * 4) (g : GT) (hg : gs[i]? = some g) (hv : 0 ≤ wv g 1) (hl : vs.length = 0)  : Sound Try.prog 0 false (loopB Try.f6 1) (scI1 gs pub vars vs be ga lg n G0 C i).aa .normal (scI1 gs pub vars vs be ga lg n G0 (C ++ (limbs 4 0)) (i + 1)).aa := by
  exact roundP_sound (P := Try.prog) (X := rulesR _) (env := []) trivial (n := 0) (os := (oL [(67, wT), (77, wT), (82, rO 14 i), (85, { ch := 0, hi := fun _ => 0, ru := 8, av := fun _ => .v (.int .i64 (wv g 1)) }), (88, wT), (92, wF), (100, { ch := 0, hi := fun _ => 0, ex := 1 })])) (fb := 0) (rd := false) (c := (loopB Try.f6 1)) (k := 67) (I := scI1 gs pub vars vs be ga lg n G0 C i) (J := scI1 gs pub vars vs be ga lg n G0 (C ++ (limbs 4 0)) (i + 1)) (τ := [(66, 100)]) (ex := .normal) (by kernel_rfl)
    (And.intro (show (((Value.int .i64 ((lg : Nat) : Int)) = (Value.int .i64 ((lg : Nat) : Int))) ∧ (true = true ∧ vs.length = vs.length) ∧ (true = true ∧ 0 = 0) ∧ (true = true ∧ 0 = 0) ∧ (true = true ∧ 0 = 0) ∧ (true = true ∧ 0 = 0) ∧ ((Value.int .i64 1) = (Value.int .i64 1)) ∧ ((Value.int .i64 1) = (Value.int .i64 1)) ∧ ((Value.int .i64 ((n : Nat) : Int)) = (Value.int .i64 ((n : Nat) : Int))) ∧ ((Value.int .i64 (IntKind.i64.wrap (((i : Nat) : Int) + 1))) = (Value.int .i64 (((i + 1) : Nat) : Int))) ∧ True) ∧ ((flat [.l (numC 4 vs)] = flat [.l (numC 4 vs)]) ∧ (24 = 24 ∧ ((true = true ∧ gs.length = gs.length) ∧ (true = true ∧ true = true ∧ [Value.int .i64 pub] = [Value.int .i64 pub]) ∧ (true = true ∧ true = true ∧ [Value.int .i64 vars] = [Value.int .i64 vars]) ∧ True)) ∧ (41 = 41 ∧ flat [.n 4 be] = flat [.n 4 be]) ∧ (41 = 41 ∧ flat [.n 4 ga] = flat [.n 4 ga]) ∧ (flat [.l (gsC gs)] = flat [.l (gsC gs)]) ∧ (34 = 34 ∧ ((true = true ∧ n = n) ∧ (true = true ∧ (i + 1) = (i + 1)) ∧ (true = true ∧ true = true ∧ [Value.slice none 0 0] = [Value.slice none 0 0]) ∧ True)) ∧ ((41 = 41 ∧ 4 = 4) ∧ flat [.l G0] = flat [.l G0]) ∧ ((41 = 41 ∧ 4 = 4) ∧ flat [.l C, Ch.c (.int .u64 0), Ch.c (.int .u64 0), Ch.c (.int .u64 0), Ch.c (.int .u64 0)] = flat [.l (C ++ limbs 4 0)]) ∧ True) from ⟨⟨rfl, ⟨rfl, rfl⟩, ⟨rfl, rfl⟩, ⟨rfl, rfl⟩, ⟨rfl, rfl⟩, ⟨rfl, rfl⟩, rfl, rfl, rfl, by rw [r_next (by omega)], trivial⟩, ⟨rfl, ⟨rfl, ⟨⟨rfl, rfl⟩, ⟨rfl, rfl, rfl⟩, ⟨rfl, rfl, rfl⟩, trivial⟩⟩, ⟨rfl, rfl⟩, ⟨rfl, rfl⟩, rfl, ⟨rfl, ⟨⟨rfl, rfl⟩, ⟨rfl, rfl⟩, ⟨rfl, rfl, rfl⟩, trivial⟩⟩, ⟨⟨rfl, rfl⟩, rfl⟩, ⟨⟨rfl, rfl⟩, z_flat C⟩, trivial⟩⟩)
    (And.intro (show sizes [.l C] = i * 4 ∧ i + 1 ≤ 9223372036854775807 ∧ (i + 1) * 32 ≤ 140737488355328 ∧ True from ⟨by show C.length + 0 = i * 4; omega, by omega, by omega, trivial⟩)
    (And.intro (show decide (((vs.length : Nat) : Int) > 0) = false from decide_eq_false (by omega))
    (And.intro (show decide ((wv g 1) ≥ 0) = true from decide_eq_true (by omega))
    (And.intro (show (flat [.l (gsC gs)])[i * 23 + 20 + 1]? = some (.int .i64 (wv g 1)) from wire_cell gs i g hg 1 (by decide))
    (And.intro (show ((i : Nat) : Int) = ((i : Nat) : Int) ∧ i < gs.length from ⟨rfl, glt hg⟩)
    (And.intro (show decide (((i : Nat) : Int) < ((gs.length : Nat) : Int)) = true from decide_eq_true (by have := glt hg; omega))
    (And.intro (show decide (((i : Nat) : Int) < ((n : Nat) : Int)) = true from decide_eq_true (by omega)) trivial))))))))
theorem scz1y (gs : List GT) (pub vars : Int) (vs : List Nat) (be ga : Nat) (lg n : Nat) (G0 : List Value) (hn : n ≤ 1000) (h0 : 0 < n) (g : GT) (hg : gs[0]? = some g) (hv : 0 ≤ wv g 1) (hl : 0 < vs.length) (j x : Nat) (hr : (wv g 1).tmod ((vs.length : Nat) : Int) = ((j : Nat) : Int)) (hx : vs[j]? = some x) (hx2 : x < 115792089237316195423570985008687907853269984665640564039457584007913129639936)  : Sound Try.prog 0 false (loopB Try.f6 1) (scZ1 gs pub vars vs be ga lg n G0 ).aa .normal (scI1 gs pub vars vs be ga lg n G0 (limbs 4 x) 1).aa := by
  exact roundP_sound (P := Try.prog) (X := rulesR _) (env := []) trivial (n := 0) (os := (oL [(67, wT), (77, wT), (82, rO 14 0), (85, { ch := 0, hi := fun _ => 0, ru := 8, av := fun _ => .v (.int .i64 (wv g 1)) }), (88, wT), (92, wT), (98, rmO j), (99, rO 14 j), (100, { ch := 0, hi := fun _ => 0, ru := 8, cs := fun _ => [.n 4 x] })])) (fb := 0) (rd := false) (c := (loopB Try.f6 1)) (k := 67) (I := scZ1 gs pub vars vs be ga lg n G0 ) (J := scI1 gs pub vars vs be ga lg n G0 (limbs 4 x) 1) (τ := [(66, 108)]) (ex := .normal) (by kernel_rfl)
    (And.intro (show (((Value.int .i64 ((lg : Nat) : Int)) = (Value.int .i64 ((lg : Nat) : Int))) ∧ (true = true ∧ vs.length = vs.length) ∧ (true = true ∧ 0 = 0) ∧ (true = true ∧ 0 = 0) ∧ (true = true ∧ 0 = 0) ∧ (true = true ∧ 0 = 0) ∧ ((Value.int .i64 1) = (Value.int .i64 1)) ∧ ((Value.int .i64 1) = (Value.int .i64 1)) ∧ ((Value.int .i64 ((n : Nat) : Int)) = (Value.int .i64 ((n : Nat) : Int))) ∧ ((Value.int .i64 (IntKind.i64.wrap (0 + 1))) = (Value.int .i64 ((1 : Nat) : Int))) ∧ True) ∧ ((flat [.l (numC 4 vs)] = flat [.l (numC 4 vs)]) ∧ (24 = 24 ∧ ((true = true ∧ gs.length = gs.length) ∧ (true = true ∧ true = true ∧ [Value.int .i64 pub] = [Value.int .i64 pub]) ∧ (true = true ∧ true = true ∧ [Value.int .i64 vars] = [Value.int .i64 vars]) ∧ True)) ∧ (41 = 41 ∧ flat [.n 4 be] = flat [.n 4 be]) ∧ (41 = 41 ∧ flat [.n 4 ga] = flat [.n 4 ga]) ∧ (flat [.l (gsC gs)] = flat [.l (gsC gs)]) ∧ (34 = 34 ∧ ((true = true ∧ n = n) ∧ (true = true ∧ 1 = 1) ∧ (true = true ∧ true = true ∧ [Value.slice none 0 0] = [Value.slice none 0 0]) ∧ True)) ∧ ((41 = 41 ∧ 4 = 4) ∧ flat [.l G0] = flat [.l G0]) ∧ ((41 = 41 ∧ 4 = 4) ∧ flat [.n 4 x] = flat [.l (limbs 4 x)]) ∧ True) from ⟨⟨rfl, ⟨rfl, rfl⟩, ⟨rfl, rfl⟩, ⟨rfl, rfl⟩, ⟨rfl, rfl⟩, ⟨rfl, rfl⟩, rfl, rfl, rfl, rfl, trivial⟩, ⟨rfl, ⟨rfl, ⟨⟨rfl, rfl⟩, ⟨rfl, rfl, rfl⟩, ⟨rfl, rfl, rfl⟩, trivial⟩⟩, ⟨rfl, rfl⟩, ⟨rfl, rfl⟩, rfl, ⟨rfl, ⟨⟨rfl, rfl⟩, ⟨rfl, rfl⟩, ⟨rfl, rfl, rfl⟩, trivial⟩⟩, ⟨⟨rfl, rfl⟩, rfl⟩, ⟨⟨rfl, rfl⟩, n_flat1 x⟩, trivial⟩⟩)
    (And.intro (nu_at vs j x hx)
    (And.intro (show ((j : Nat) : Int) = ((j : Nat) : Int) ∧ j < vs.length from ⟨rfl, pl_lt hx⟩)
    (And.intro (show IntKind.i64 = IntKind.i64 ∧ ((vs.length : Nat) : Int) ≠ 0 ∧ (wv g 1).tmod ((vs.length : Nat) : Int) = ((j : Nat) : Int) from ⟨rfl, by omega, hr⟩)
    (And.intro (show decide (((vs.length : Nat) : Int) > 0) = true from decide_eq_true (by omega))
    (And.intro (show decide ((wv g 1) ≥ 0) = true from decide_eq_true (by omega))
    (And.intro (show (flat [.l (gsC gs)])[0 * 23 + 20 + 1]? = some (.int .i64 (wv g 1)) from wire_cell gs 0 g hg 1 (by decide))
    (And.intro (show (0 : Int) = ((0 : Nat) : Int) ∧ 0 < gs.length from ⟨rfl, glt hg⟩)
    (And.intro (show decide ((0 : Int) < ((gs.length : Nat) : Int)) = true from decide_eq_true (by have := glt hg; omega))
    (And.intro (show decide ((0 : Int) < ((n : Nat) : Int)) = true from decide_eq_true (by omega)) trivial))))))))))
theorem scr1y (gs : List GT) (pub vars : Int) (vs : List Nat) (be ga : Nat) (lg n : Nat) (G0 : List Value) (hn : n ≤ 1000) (C : List Value) (i : Nat) (hi : i < n) (hC : C.length = i * 4) (g : GT) (hg : gs[i]? = some g) (hv : 0 ≤ wv g 1) (hl : 0 < vs.length) (j x : Nat) (hr : (wv g 1).tmod ((vs.length : Nat) : Int) = ((j : Nat) : Int)) (hx : vs[j]? = some x) (hx2 : x < 115792089237316195423570985008687907853269984665640564039457584007913129639936)  : Sound Try.prog 0 false (loopB Try.f6 1) (scI1 gs pub vars vs be ga lg n G0 C i).aa .normal (scI1 gs pub vars vs be ga lg n G0 (C ++ (limbs 4 x)) (i + 1)).aa := by
  exact roundP_sound (P := Try.prog) (X := rulesR _) (env := []) trivial (n := 0) (os := (oL [(67, wT), (77, wT), (82, rO 14 i), (85, { ch := 0, hi := fun _ => 0, ru := 8, av := fun _ => .v (.int .i64 (wv g 1)) }), (88, wT), (92, wT), (98, rmO j), (99, rO 14 j), (100, { ch := 0, hi := fun _ => 0, ru := 8, cs := fun _ => [.n 4 x] }), (108, { ch := 0, hi := fun _ => 0, ex := 1 })])) (fb := 0) (rd := false) (c := (loopB Try.f6 1)) (k := 67) (I := scI1 gs pub vars vs be ga lg n G0 C i) (J := scI1 gs pub vars vs be ga lg n G0 (C ++ (limbs 4 x)) (i + 1)) (τ := [(66, 108)]) (ex := .normal) (by kernel_rfl)
    (And.intro (show (((Value.int .i64 ((lg : Nat) : Int)) = (Value.int .i64 ((lg : Nat) : Int))) ∧ (true = true ∧ vs.length = vs.length) ∧ (true = true ∧ 0 = 0) ∧ (true = true ∧ 0 = 0) ∧ (true = true ∧ 0 = 0) ∧ (true = true ∧ 0 = 0) ∧ ((Value.int .i64 1) = (Value.int .i64 1)) ∧ ((Value.int .i64 1) = (Value.int .i64 1)) ∧ ((Value.int .i64 ((n : Nat) : Int)) = (Value.int .i64 ((n : Nat) : Int))) ∧ ((Value.int .i64 (IntKind.i64.wrap (((i : Nat) : Int) + 1))) = (Value.int .i64 (((i + 1) : Nat) : Int))) ∧ True) ∧ ((flat [.l (numC 4 vs)] = flat [.l (numC 4 vs)]) ∧ (24 = 24 ∧ ((true = true ∧ gs.length = gs.length) ∧ (true = true ∧ true = true ∧ [Value.int .i64 pub] = [Value.int .i64 pub]) ∧ (true = true ∧ true = true ∧ [Value.int .i64 vars] = [Value.int .i64 vars]) ∧ True)) ∧ (41 = 41 ∧ flat [.n 4 be] = flat [.n 4 be]) ∧ (41 = 41 ∧ flat [.n 4 ga] = flat [.n 4 ga]) ∧ (flat [.l (gsC gs)] = flat [.l (gsC gs)]) ∧ (34 = 34 ∧ ((true = true ∧ n = n) ∧ (true = true ∧ (i + 1) = (i + 1)) ∧ (true = true ∧ true = true ∧ [Value.slice none 0 0] = [Value.slice none 0 0]) ∧ True)) ∧ ((41 = 41 ∧ 4 = 4) ∧ flat [.l G0] = flat [.l G0]) ∧ ((41 = 41 ∧ 4 = 4) ∧ flat [.l C, .n 4 x] = flat [.l (C ++ limbs 4 x)]) ∧ True) from ⟨⟨rfl, ⟨rfl, rfl⟩, ⟨rfl, rfl⟩, ⟨rfl, rfl⟩, ⟨rfl, rfl⟩, ⟨rfl, rfl⟩, rfl, rfl, rfl, by rw [r_next (by omega)], trivial⟩, ⟨rfl, ⟨rfl, ⟨⟨rfl, rfl⟩, ⟨rfl, rfl, rfl⟩, ⟨rfl, rfl, rfl⟩, trivial⟩⟩, ⟨rfl, rfl⟩, ⟨rfl, rfl⟩, rfl, ⟨rfl, ⟨⟨rfl, rfl⟩, ⟨rfl, rfl⟩, ⟨rfl, rfl, rfl⟩, trivial⟩⟩, ⟨⟨rfl, rfl⟩, rfl⟩, ⟨⟨rfl, rfl⟩, n_flat C x⟩, trivial⟩⟩)
    (And.intro (show sizes [.l C] = i * 4 ∧ i + 1 ≤ 9223372036854775807 ∧ (i + 1) * 32 ≤ 140737488355328 ∧ True from ⟨by show C.length + 0 = i * 4; omega, by omega, by omega, trivial⟩)
    (And.intro (nu_at vs j x hx)
    (And.intro (show ((j : Nat) : Int) = ((j : Nat) : Int) ∧ j < vs.length from ⟨rfl, pl_lt hx⟩)
    (And.intro (show IntKind.i64 = IntKind.i64 ∧ ((vs.length : Nat) : Int) ≠ 0 ∧ (wv g 1).tmod ((vs.length : Nat) : Int) = ((j : Nat) : Int) from ⟨rfl, by omega, hr⟩)
    (And.intro (show decide (((vs.length : Nat) : Int) > 0) = true from decide_eq_true (by omega))
    (And.intro (show decide ((wv g 1) ≥ 0) = true from decide_eq_true (by omega))
    (And.intro (show (flat [.l (gsC gs)])[i * 23 + 20 + 1]? = some (.int .i64 (wv g 1)) from wire_cell gs i g hg 1 (by decide))
    (And.intro (show ((i : Nat) : Int) = ((i : Nat) : Int) ∧ i < gs.length from ⟨rfl, glt hg⟩)
    (And.intro (show decide (((i : Nat) : Int) < ((gs.length : Nat) : Int)) = true from decide_eq_true (by have := glt hg; omega))
    (And.intro (show decide (((i : Nat) : Int) < ((n : Nat) : Int)) = true from decide_eq_true (by omega)) trivial)))))))))))
theorem sc_e1 (gs : List GT) (pub vars : Int) (vs : List Nat) (be ga : Nat) (lg n : Nat) (G0 : List Value) (C : List Value) : Sound Try.prog 0 false (loopB Try.f6 1) (scI1 gs pub vars vs be ga lg n G0 C n).aa (.exit 2) (scE1 gs pub vars vs be ga lg n G0 C).aa := by
  have hh := roundK_sound (P := Try.prog) (X := rulesM _) (env := []) trivial (n := 0) (os := (oL [(67, wF)])) (fb := 0) (rd := false) (c := (loopB Try.f6 1)) (k := 67) (I := scI1 gs pub vars vs be ga lg n G0 C n) (sk := [1, 2, 5, 8, 9, 12, 36]) (hk := [5, 6, 7, 8, 22, 49, 57, 66]) (lk := []) (ex := (.exit 2))
    (L := scE1 gs pub vars vs be ga lg n G0 C) (by kernel_rfl)
    (And.intro (show decide (((n : Nat) : Int) < ((n : Nat) : Int)) = false from decide_eq_false (by omega)) trivial)
  exact hh
theorem sca1 (gs : List GT) (pub vars : Int) (vs : List Nat) (be ga : Nat) (lg n : Nat) (G0 : List Value) (hn : n ≤ 1000) (h0 : 0 < n) (hvs : ∀ x, x ∈ vs → x < 115792089237316195423570985008687907853269984665640564039457584007913129639936) : Sound Try.prog 0 false (.loop (loopB Try.f6 1)) (scZ1 gs pub vars vs be ga lg n G0 ).aa (.exit 2) (scE1 gs pub vars vs be ga lg n G0 (numC 4 (mW (vf gs n) n vs 1))).aa := by
  have hh := loop_ok (P := Try.prog) (fb := 0) (rd := false) (body := (loopB Try.f6 1)) (ex := .exit 2) (E := scE1 gs pub vars vs be ga lg n G0 (mC (vf gs n) n vs 1 n)) (m := fun y : { i : Nat // i ≤ n } => n - y.val) (fun y => match y.val with | 0 => scZ1 gs pub vars vs be ga lg n G0  | i + 1 => scI1 gs pub vars vs be ga lg n G0 (mC (vf gs n) n vs 1 (i + 1)) (i + 1)) (by simp) (fun y => ?_) ⟨0, by omega⟩
  · exact hh
  obtain ⟨i, hi⟩ := y
  match i, hi with
  | 0, hi => exact .inl ⟨⟨1, by omega⟩, by show n - 1 < n - 0; omega, by
      have e : (mC (vf gs n) n vs 1 (0 + 1)) = limbs 4 (wvN vs (wAt gs 0 1)) := by rw [mC_succ, vf_wi h0]; rfl
      show Sound _ _ _ _ _ _ (scI1 gs pub vars vs be ga lg n G0 (mC (vf gs n) n vs 1 (0 + 1)) (0 + 1)).aa
      rw [e]
      by_cases hg : 0 < gs.length
      · obtain ⟨g, hg⟩ := pl_of hg
        rw [wAt_in hg]
        by_cases hv : 0 ≤ wv g 1
        · by_cases hl : 0 < vs.length
          · exact scz1y gs pub vars vs be ga lg n G0 hn h0 g hg hv hl _ _ (rem_to hv _) (wv_yes hv hl) (wvN_lt hvs (by decide))
          · rw [wv_no (by omega)]; exact scz1m gs pub vars vs be ga lg n G0 hn h0 g hg hv (by omega)
        · rw [wv_no (by omega)]; exact scz1n gs pub vars vs be ga lg n G0 hn h0 g hg hv
      · rw [wAt_out hg, wv_no (by omega)]; exact scz1g gs pub vars vs be ga lg n G0 hn h0 hg⟩
  | i + 1, hi =>
    by_cases e : i + 1 < n
    · refine .inl ⟨⟨i + 1 + 1, e⟩, by show n - (i + 1 + 1) < n - (i + 1); omega, ?_⟩
      show Sound _ _ _ _ _ _ (scI1 gs pub vars vs be ga lg n G0 (mC (vf gs n) n vs 1 (i + 1 + 1)) (i + 1 + 1)).aa
      rw [mC_succ, vf_wi e]
      by_cases hg : (i + 1) < gs.length
      · obtain ⟨g, hg⟩ := pl_of hg
        rw [wAt_in hg]
        by_cases hv : 0 ≤ wv g 1
        · by_cases hl : 0 < vs.length
          · exact scr1y gs pub vars vs be ga lg n G0 hn (mC (vf gs n) n vs 1 (i + 1)) (i + 1) e (mC_len _ _ _ _ _) g hg hv hl _ _ (rem_to hv _) (wv_yes hv hl) (wvN_lt hvs (by decide))
          · rw [wv_no (by omega)]; exact scr1m gs pub vars vs be ga lg n G0 hn (mC (vf gs n) n vs 1 (i + 1)) (i + 1) e (mC_len _ _ _ _ _) g hg hv (by omega)
        · rw [wv_no (by omega)]; exact scr1n gs pub vars vs be ga lg n G0 hn (mC (vf gs n) n vs 1 (i + 1)) (i + 1) e (mC_len _ _ _ _ _) g hg hv
      · rw [wAt_out hg, wv_no (by omega)]; exact scr1g gs pub vars vs be ga lg n G0 hn (mC (vf gs n) n vs 1 (i + 1)) (i + 1) e (mC_len _ _ _ _ _) hg
    · have e : i + 1 = n := by omega
      refine .inr ?_
      show Sound _ _ _ _ (scI1 gs pub vars vs be ga lg n G0 (mC (vf gs n) n vs 1 (i + 1)) (i + 1)).aa _ _
      rw [e]
      exact sc_e1 gs pub vars vs be ga lg n G0 _
def scZ2 (gs : List GT) (pub vars : Int) (vs : List Nat) (be ga : Nat) (lg n : Nat) (G0 : List Value) (G1 : List Value) : LState := { n := 130, sl := [(1, .v (.int .i64 (((lg : Nat) : Int)))), (2, .sz 5 vs.length), (5, .p 6 0), (8, .p 7 0), (9, .p 8 0), (12, .p 49 0), (36, .v (.int .i64 (2))), (13, .v (.int .i64 (2))), (40, .v (.int .i64 (((n : Nat) : Int)))), (41, .v (.int .i64 (0)))], hp := [(5, .rz [.l (numC 4 vs)]), (6, .own [.sz 22 gs.length, .c (.int .i64 pub), .c (.int .i64 vars)] 24), (7, .own [.n 4 be] 41), (8, .own [.n 4 ga] 41), (22, .rz [.l (gsC gs)]), (49, .own [.sx 57 n, .sx 66 n, .c (.slice none 0 0)] 34), (57, .gr [.l G0] 41 4), (66, .gr [.l G1] 41 4)] }
def scI2 (gs : List GT) (pub vars : Int) (vs : List Nat) (be ga : Nat) (lg n : Nat) (G0 : List Value) (G1 : List Value) (C : List Value) (i : Nat) : LState := { n := 130, sl := [(1, .v (.int .i64 (((lg : Nat) : Int)))), (2, .sz 5 vs.length), (5, .p 6 0), (8, .p 7 0), (9, .p 8 0), (12, .p 49 0), (36, .v (.int .i64 (2))), (13, .v (.int .i64 (2))), (40, .v (.int .i64 (((n : Nat) : Int)))), (41, .v (.int .i64 ((i : Nat) : Int)))], hp := [(5, .rz [.l (numC 4 vs)]), (6, .own [.sz 22 gs.length, .c (.int .i64 pub), .c (.int .i64 vars)] 24), (7, .own [.n 4 be] 41), (8, .own [.n 4 ga] 41), (22, .rz [.l (gsC gs)]), (49, .own [.sx 57 n, .sx 66 n, .sx 75 i] 34), (57, .gr [.l G0] 41 4), (66, .gr [.l G1] 41 4), (75, .gr [.l C] 41 4)] }
def scE2 (gs : List GT) (pub vars : Int) (vs : List Nat) (be ga : Nat) (lg n : Nat) (G0 : List Value) (G1 : List Value) (C : List Value) : LState := { n := 130, sl := [(1, .v (.int .i64 (((lg : Nat) : Int)))), (2, .sz 5 vs.length), (5, .p 6 0), (8, .p 7 0), (9, .p 8 0), (12, .p 49 0), (36, .v (.int .i64 (2)))], hp := [(5, .rz [.l (numC 4 vs)]), (6, .own [.sz 22 gs.length, .c (.int .i64 pub), .c (.int .i64 vars)] 24), (7, .own [.n 4 be] 41), (8, .own [.n 4 ga] 41), (22, .rz [.l (gsC gs)]), (49, .own [.sx 57 n, .sx 66 n, .sx 75 n] 34), (57, .gr [.l G0] 41 4), (66, .gr [.l G1] 41 4), (75, .gr [.l C] 41 4)] }
theorem scz2g (gs : List GT) (pub vars : Int) (vs : List Nat) (be ga : Nat) (lg n : Nat) (G0 : List Value) (G1 : List Value) (hn : n ≤ 1000) (h0 : 0 < n) (hg : ¬ 0 < gs.length)  : Sound Try.prog 0 false (loopB Try.f6 1) (scZ2 gs pub vars vs be ga lg n G0 G1 ).aa .normal (scI2 gs pub vars vs be ga lg n G0 G1 (limbs 4 0) 1).aa := by
  exact roundP_sound (P := Try.prog) (X := rulesR _) (env := []) trivial (n := 0) (os := (oL [(76, wT), (86, wF)])) (fb := 0) (rd := false) (c := (loopB Try.f6 1)) (k := 76) (I := scZ2 gs pub vars vs be ga lg n G0 G1 ) (J := scI2 gs pub vars vs be ga lg n G0 G1 (limbs 4 0) 1) (τ := [(75, 93)]) (ex := .normal) (by kernel_rfl)
    (And.intro (show (((Value.int .i64 ((lg : Nat) : Int)) = (Value.int .i64 ((lg : Nat) : Int))) ∧ (true = true ∧ vs.length = vs.length) ∧ (true = true ∧ 0 = 0) ∧ (true = true ∧ 0 = 0) ∧ (true = true ∧ 0 = 0) ∧ (true = true ∧ 0 = 0) ∧ ((Value.int .i64 2) = (Value.int .i64 2)) ∧ ((Value.int .i64 2) = (Value.int .i64 2)) ∧ ((Value.int .i64 ((n : Nat) : Int)) = (Value.int .i64 ((n : Nat) : Int))) ∧ ((Value.int .i64 (IntKind.i64.wrap (0 + 1))) = (Value.int .i64 ((1 : Nat) : Int))) ∧ True) ∧ ((flat [.l (numC 4 vs)] = flat [.l (numC 4 vs)]) ∧ (24 = 24 ∧ ((true = true ∧ gs.length = gs.length) ∧ (true = true ∧ true = true ∧ [Value.int .i64 pub] = [Value.int .i64 pub]) ∧ (true = true ∧ true = true ∧ [Value.int .i64 vars] = [Value.int .i64 vars]) ∧ True)) ∧ (41 = 41 ∧ flat [.n 4 be] = flat [.n 4 be]) ∧ (41 = 41 ∧ flat [.n 4 ga] = flat [.n 4 ga]) ∧ (flat [.l (gsC gs)] = flat [.l (gsC gs)]) ∧ (34 = 34 ∧ ((true = true ∧ n = n) ∧ (true = true ∧ n = n) ∧ (true = true ∧ 1 = 1) ∧ True)) ∧ ((41 = 41 ∧ 4 = 4) ∧ flat [.l G0] = flat [.l G0]) ∧ ((41 = 41 ∧ 4 = 4) ∧ flat [.l G1] = flat [.l G1]) ∧ ((41 = 41 ∧ 4 = 4) ∧ flat [Ch.c (.int .u64 0), Ch.c (.int .u64 0), Ch.c (.int .u64 0), Ch.c (.int .u64 0)] = flat [.l (limbs 4 0)]) ∧ True) from ⟨⟨rfl, ⟨rfl, rfl⟩, ⟨rfl, rfl⟩, ⟨rfl, rfl⟩, ⟨rfl, rfl⟩, ⟨rfl, rfl⟩, rfl, rfl, rfl, rfl, trivial⟩, ⟨rfl, ⟨rfl, ⟨⟨rfl, rfl⟩, ⟨rfl, rfl, rfl⟩, ⟨rfl, rfl, rfl⟩, trivial⟩⟩, ⟨rfl, rfl⟩, ⟨rfl, rfl⟩, rfl, ⟨rfl, ⟨⟨rfl, rfl⟩, ⟨rfl, rfl⟩, ⟨rfl, rfl⟩, trivial⟩⟩, ⟨⟨rfl, rfl⟩, rfl⟩, ⟨⟨rfl, rfl⟩, rfl⟩, ⟨⟨rfl, rfl⟩, z_flat1⟩, trivial⟩⟩)
    (And.intro (show decide ((0 : Int) < ((gs.length : Nat) : Int)) = false from decide_eq_false (by omega))
    (And.intro (show decide ((0 : Int) < ((n : Nat) : Int)) = true from decide_eq_true (by omega)) trivial)))
theorem scr2g (gs : List GT) (pub vars : Int) (vs : List Nat) (be ga : Nat) (lg n : Nat) (G0 : List Value) (G1 : List Value) (hn : n ≤ 1000) (C : List Value) (i : Nat) (hi : i < n) (hC : C.length = i * 4) (hg : ¬ i < gs.length)  : Sound Try.prog 0 false (loopB Try.f6 1) (scI2 gs pub vars vs be ga lg n G0 G1 C i).aa .normal (scI2 gs pub vars vs be ga lg n G0 G1 (C ++ (limbs 4 0)) (i + 1)).aa := by
  exact roundP_sound (P := Try.prog) (X := rulesR _) (env := []) trivial (n := 0) (os := (oL [(76, wT), (86, wF), (93, { ch := 0, hi := fun _ => 0, ex := 1 })])) (fb := 0) (rd := false) (c := (loopB Try.f6 1)) (k := 76) (I := scI2 gs pub vars vs be ga lg n G0 G1 C i) (J := scI2 gs pub vars vs be ga lg n G0 G1 (C ++ (limbs 4 0)) (i + 1)) (τ := [(75, 93)]) (ex := .normal) (by kernel_rfl)
    (And.intro (show (((Value.int .i64 ((lg : Nat) : Int)) = (Value.int .i64 ((lg : Nat) : Int))) ∧ (true = true ∧ vs.length = vs.length) ∧ (true = true ∧ 0 = 0) ∧ (true = true ∧ 0 = 0) ∧ (true = true ∧ 0 = 0) ∧ (true = true ∧ 0 = 0) ∧ ((Value.int .i64 2) = (Value.int .i64 2)) ∧ ((Value.int .i64 2) = (Value.int .i64 2)) ∧ ((Value.int .i64 ((n : Nat) : Int)) = (Value.int .i64 ((n : Nat) : Int))) ∧ ((Value.int .i64 (IntKind.i64.wrap (((i : Nat) : Int) + 1))) = (Value.int .i64 (((i + 1) : Nat) : Int))) ∧ True) ∧ ((flat [.l (numC 4 vs)] = flat [.l (numC 4 vs)]) ∧ (24 = 24 ∧ ((true = true ∧ gs.length = gs.length) ∧ (true = true ∧ true = true ∧ [Value.int .i64 pub] = [Value.int .i64 pub]) ∧ (true = true ∧ true = true ∧ [Value.int .i64 vars] = [Value.int .i64 vars]) ∧ True)) ∧ (41 = 41 ∧ flat [.n 4 be] = flat [.n 4 be]) ∧ (41 = 41 ∧ flat [.n 4 ga] = flat [.n 4 ga]) ∧ (flat [.l (gsC gs)] = flat [.l (gsC gs)]) ∧ (34 = 34 ∧ ((true = true ∧ n = n) ∧ (true = true ∧ n = n) ∧ (true = true ∧ (i + 1) = (i + 1)) ∧ True)) ∧ ((41 = 41 ∧ 4 = 4) ∧ flat [.l G0] = flat [.l G0]) ∧ ((41 = 41 ∧ 4 = 4) ∧ flat [.l G1] = flat [.l G1]) ∧ ((41 = 41 ∧ 4 = 4) ∧ flat [.l C, Ch.c (.int .u64 0), Ch.c (.int .u64 0), Ch.c (.int .u64 0), Ch.c (.int .u64 0)] = flat [.l (C ++ limbs 4 0)]) ∧ True) from ⟨⟨rfl, ⟨rfl, rfl⟩, ⟨rfl, rfl⟩, ⟨rfl, rfl⟩, ⟨rfl, rfl⟩, ⟨rfl, rfl⟩, rfl, rfl, rfl, by rw [r_next (by omega)], trivial⟩, ⟨rfl, ⟨rfl, ⟨⟨rfl, rfl⟩, ⟨rfl, rfl, rfl⟩, ⟨rfl, rfl, rfl⟩, trivial⟩⟩, ⟨rfl, rfl⟩, ⟨rfl, rfl⟩, rfl, ⟨rfl, ⟨⟨rfl, rfl⟩, ⟨rfl, rfl⟩, ⟨rfl, rfl⟩, trivial⟩⟩, ⟨⟨rfl, rfl⟩, rfl⟩, ⟨⟨rfl, rfl⟩, rfl⟩, ⟨⟨rfl, rfl⟩, z_flat C⟩, trivial⟩⟩)
    (And.intro (show sizes [.l C] = i * 4 ∧ i + 1 ≤ 9223372036854775807 ∧ (i + 1) * 32 ≤ 140737488355328 ∧ True from ⟨by show C.length + 0 = i * 4; omega, by omega, by omega, trivial⟩)
    (And.intro (show decide (((i : Nat) : Int) < ((gs.length : Nat) : Int)) = false from decide_eq_false (by omega))
    (And.intro (show decide (((i : Nat) : Int) < ((n : Nat) : Int)) = true from decide_eq_true (by omega)) trivial))))
theorem scz2n (gs : List GT) (pub vars : Int) (vs : List Nat) (be ga : Nat) (lg n : Nat) (G0 : List Value) (G1 : List Value) (hn : n ≤ 1000) (h0 : 0 < n) (g : GT) (hg : gs[0]? = some g) (hv : ¬ 0 ≤ wv g 2)  : Sound Try.prog 0 false (loopB Try.f6 1) (scZ2 gs pub vars vs be ga lg n G0 G1 ).aa .normal (scI2 gs pub vars vs be ga lg n G0 G1 (limbs 4 0) 1).aa := by
  exact roundP_sound (P := Try.prog) (X := rulesR _) (env := []) trivial (n := 0) (os := (oL [(76, wT), (86, wT), (91, rO 14 0), (94, { ch := 0, hi := fun _ => 0, ru := 8, av := fun _ => .v (.int .i64 (wv g 2)) }), (97, wF)])) (fb := 0) (rd := false) (c := (loopB Try.f6 1)) (k := 76) (I := scZ2 gs pub vars vs be ga lg n G0 G1 ) (J := scI2 gs pub vars vs be ga lg n G0 G1 (limbs 4 0) 1) (τ := [(75, 109)]) (ex := .normal) (by kernel_rfl)
    (And.intro (show (((Value.int .i64 ((lg : Nat) : Int)) = (Value.int .i64 ((lg : Nat) : Int))) ∧ (true = true ∧ vs.length = vs.length) ∧ (true = true ∧ 0 = 0) ∧ (true = true ∧ 0 = 0) ∧ (true = true ∧ 0 = 0) ∧ (true = true ∧ 0 = 0) ∧ ((Value.int .i64 2) = (Value.int .i64 2)) ∧ ((Value.int .i64 2) = (Value.int .i64 2)) ∧ ((Value.int .i64 ((n : Nat) : Int)) = (Value.int .i64 ((n : Nat) : Int))) ∧ ((Value.int .i64 (IntKind.i64.wrap (0 + 1))) = (Value.int .i64 ((1 : Nat) : Int))) ∧ True) ∧ ((flat [.l (numC 4 vs)] = flat [.l (numC 4 vs)]) ∧ (24 = 24 ∧ ((true = true ∧ gs.length = gs.length) ∧ (true = true ∧ true = true ∧ [Value.int .i64 pub] = [Value.int .i64 pub]) ∧ (true = true ∧ true = true ∧ [Value.int .i64 vars] = [Value.int .i64 vars]) ∧ True)) ∧ (41 = 41 ∧ flat [.n 4 be] = flat [.n 4 be]) ∧ (41 = 41 ∧ flat [.n 4 ga] = flat [.n 4 ga]) ∧ (flat [.l (gsC gs)] = flat [.l (gsC gs)]) ∧ (34 = 34 ∧ ((true = true ∧ n = n) ∧ (true = true ∧ n = n) ∧ (true = true ∧ 1 = 1) ∧ True)) ∧ ((41 = 41 ∧ 4 = 4) ∧ flat [.l G0] = flat [.l G0]) ∧ ((41 = 41 ∧ 4 = 4) ∧ flat [.l G1] = flat [.l G1]) ∧ ((41 = 41 ∧ 4 = 4) ∧ flat [Ch.c (.int .u64 0), Ch.c (.int .u64 0), Ch.c (.int .u64 0), Ch.c (.int .u64 0)] = flat [.l (limbs 4 0)]) ∧ True) from ⟨⟨rfl, ⟨rfl, rfl⟩, ⟨rfl, rfl⟩, ⟨rfl, rfl⟩, ⟨rfl, rfl⟩, ⟨rfl, rfl⟩, rfl, rfl, rfl, rfl, trivial⟩, ⟨rfl, ⟨rfl, ⟨⟨rfl, rfl⟩, ⟨rfl, rfl, rfl⟩, ⟨rfl, rfl, rfl⟩, trivial⟩⟩, ⟨rfl, rfl⟩, ⟨rfl, rfl⟩, rfl, ⟨rfl, ⟨⟨rfl, rfl⟩, ⟨rfl, rfl⟩, ⟨rfl, rfl⟩, trivial⟩⟩, ⟨⟨rfl, rfl⟩, rfl⟩, ⟨⟨rfl, rfl⟩, rfl⟩, ⟨⟨rfl, rfl⟩, z_flat1⟩, trivial⟩⟩)
    (And.intro (show decide ((wv g 2) ≥ 0) = false from decide_eq_false (by omega))
    (And.intro (show (flat [.l (gsC gs)])[0 * 23 + 20 + 2]? = some (.int .i64 (wv g 2)) from wire_cell gs 0 g hg 2 (by decide))
    (And.intro (show (0 : Int) = ((0 : Nat) : Int) ∧ 0 < gs.length from ⟨rfl, glt hg⟩)
    (And.intro (show decide ((0 : Int) < ((gs.length : Nat) : Int)) = true from decide_eq_true (by have := glt hg; omega))
    (And.intro (show decide ((0 : Int) < ((n : Nat) : Int)) = true from decide_eq_true (by omega)) trivial))))))
theorem scr2n (gs : List GT) (pub vars : Int) (vs : List Nat) (be ga : Nat) (lg n : Nat) (G0 : List Value) (G1 : List Value) (hn : n ≤ 1000) (C : List Value) (i : Nat) (hi : i < n) (hC : C.length = i * 4) (g : GT) (hg : gs[i]? = some g) (hv : ¬ 0 ≤ wv g 2)  : Sound Try.prog 0 false (loopB Try.f6 1) (scI2 gs pub vars vs be ga lg n G0 G1 C i).aa .normal (scI2 gs pub vars vs be ga lg n G0 G1 (C ++ (limbs 4 0)) (i + 1)).aa := by
  exact roundP_sound (P := Try.prog) (X := rulesR _) (env := []) trivial (n := 0) (os := (oL [(76, wT), (86, wT), (91, rO 14 i), (94, { ch := 0, hi := fun _ => 0, ru := 8, av := fun _ => .v (.int .i64 (wv g 2)) }), (97, wF), (109, { ch := 0, hi := fun _ => 0, ex := 1 })])) (fb := 0) (rd := false) (c := (loopB Try.f6 1)) (k := 76) (I := scI2 gs pub vars vs be ga lg n G0 G1 C i) (J := scI2 gs pub vars vs be ga lg n G0 G1 (C ++ (limbs 4 0)) (i + 1)) (τ := [(75, 109)]) (ex := .normal) (by kernel_rfl)
    (And.intro (show (((Value.int .i64 ((lg : Nat) : Int)) = (Value.int .i64 ((lg : Nat) : Int))) ∧ (true = true ∧ vs.length = vs.length) ∧ (true = true ∧ 0 = 0) ∧ (true = true ∧ 0 = 0) ∧ (true = true ∧ 0 = 0) ∧ (true = true ∧ 0 = 0) ∧ ((Value.int .i64 2) = (Value.int .i64 2)) ∧ ((Value.int .i64 2) = (Value.int .i64 2)) ∧ ((Value.int .i64 ((n : Nat) : Int)) = (Value.int .i64 ((n : Nat) : Int))) ∧ ((Value.int .i64 (IntKind.i64.wrap (((i : Nat) : Int) + 1))) = (Value.int .i64 (((i + 1) : Nat) : Int))) ∧ True) ∧ ((flat [.l (numC 4 vs)] = flat [.l (numC 4 vs)]) ∧ (24 = 24 ∧ ((true = true ∧ gs.length = gs.length) ∧ (true = true ∧ true = true ∧ [Value.int .i64 pub] = [Value.int .i64 pub]) ∧ (true = true ∧ true = true ∧ [Value.int .i64 vars] = [Value.int .i64 vars]) ∧ True)) ∧ (41 = 41 ∧ flat [.n 4 be] = flat [.n 4 be]) ∧ (41 = 41 ∧ flat [.n 4 ga] = flat [.n 4 ga]) ∧ (flat [.l (gsC gs)] = flat [.l (gsC gs)]) ∧ (34 = 34 ∧ ((true = true ∧ n = n) ∧ (true = true ∧ n = n) ∧ (true = true ∧ (i + 1) = (i + 1)) ∧ True)) ∧ ((41 = 41 ∧ 4 = 4) ∧ flat [.l G0] = flat [.l G0]) ∧ ((41 = 41 ∧ 4 = 4) ∧ flat [.l G1] = flat [.l G1]) ∧ ((41 = 41 ∧ 4 = 4) ∧ flat [.l C, Ch.c (.int .u64 0), Ch.c (.int .u64 0), Ch.c (.int .u64 0), Ch.c (.int .u64 0)] = flat [.l (C ++ limbs 4 0)]) ∧ True) from ⟨⟨rfl, ⟨rfl, rfl⟩, ⟨rfl, rfl⟩, ⟨rfl, rfl⟩, ⟨rfl, rfl⟩, ⟨rfl, rfl⟩, rfl, rfl, rfl, by rw [r_next (by omega)], trivial⟩, ⟨rfl, ⟨rfl, ⟨⟨rfl, rfl⟩, ⟨rfl, rfl, rfl⟩, ⟨rfl, rfl, rfl⟩, trivial⟩⟩, ⟨rfl, rfl⟩, ⟨rfl, rfl⟩, rfl, ⟨rfl, ⟨⟨rfl, rfl⟩, ⟨rfl, rfl⟩, ⟨rfl, rfl⟩, trivial⟩⟩, ⟨⟨rfl, rfl⟩, rfl⟩, ⟨⟨rfl, rfl⟩, rfl⟩, ⟨⟨rfl, rfl⟩, z_flat C⟩, trivial⟩⟩)
    (And.intro (show sizes [.l C] = i * 4 ∧ i + 1 ≤ 9223372036854775807 ∧ (i + 1) * 32 ≤ 140737488355328 ∧ True from ⟨by show C.length + 0 = i * 4; omega, by omega, by omega, trivial⟩)
    (And.intro (show decide ((wv g 2) ≥ 0) = false from decide_eq_false (by omega))
    (And.intro (show (flat [.l (gsC gs)])[i * 23 + 20 + 2]? = some (.int .i64 (wv g 2)) from wire_cell gs i g hg 2 (by decide))
    (And.intro (show ((i : Nat) : Int) = ((i : Nat) : Int) ∧ i < gs.length from ⟨rfl, glt hg⟩)
    (And.intro (show decide (((i : Nat) : Int) < ((gs.length : Nat) : Int)) = true from decide_eq_true (by have := glt hg; omega))
    (And.intro (show decide (((i : Nat) : Int) < ((n : Nat) : Int)) = true from decide_eq_true (by omega)) trivial)))))))
theorem scz2m (gs : List GT) (pub vars : Int) (vs : List Nat) (be ga : Nat) (lg n : Nat) (G0 : List Value) (G1 : List Value) (hn : n ≤ 1000) (h0 : 0 < n) (g : GT) (hg : gs[0]? = some g) (hv : 0 ≤ wv g 2) (hl : vs.length = 0)  : Sound Try.prog 0 false (loopB Try.f6 1) (scZ2 gs pub vars vs be ga lg n G0 G1 ).aa .normal (scI2 gs pub vars vs be ga lg n G0 G1 (limbs 4 0) 1).aa := by
  exact roundP_sound (P := Try.prog) (X := rulesR _) (env := []) trivial (n := 0) (os := (oL [(76, wT), (86, wT), (91, rO 14 0), (94, { ch := 0, hi := fun _ => 0, ru := 8, av := fun _ => .v (.int .i64 (wv g 2)) }), (97, wT), (101, wF)])) (fb := 0) (rd := false) (c := (loopB Try.f6 1)) (k := 76) (I := scZ2 gs pub vars vs be ga lg n G0 G1 ) (J := scI2 gs pub vars vs be ga lg n G0 G1 (limbs 4 0) 1) (τ := [(75, 109)]) (ex := .normal) (by kernel_rfl)
    (And.intro (show (((Value.int .i64 ((lg : Nat) : Int)) = (Value.int .i64 ((lg : Nat) : Int))) ∧ (true = true ∧ vs.length = vs.length) ∧ (true = true ∧ 0 = 0) ∧ (true = true ∧ 0 = 0) ∧ (true = true ∧ 0 = 0) ∧ (true = true ∧ 0 = 0) ∧ ((Value.int .i64 2) = (Value.int .i64 2)) ∧ ((Value.int .i64 2) = (Value.int .i64 2)) ∧ ((Value.int .i64 ((n : Nat) : Int)) = (Value.int .i64 ((n : Nat) : Int))) ∧ ((Value.int .i64 (IntKind.i64.wrap (0 + 1))) = (Value.int .i64 ((1 : Nat) : Int))) ∧ True) ∧ ((flat [.l (numC 4 vs)] = flat [.l (numC 4 vs)]) ∧ (24 = 24 ∧ ((true = true ∧ gs.length = gs.length) ∧ (true = true ∧ true = true ∧ [Value.int .i64 pub] = [Value.int .i64 pub]) ∧ (true = true ∧ true = true ∧ [Value.int .i64 vars] = [Value.int .i64 vars]) ∧ True)) ∧ (41 = 41 ∧ flat [.n 4 be] = flat [.n 4 be]) ∧ (41 = 41 ∧ flat [.n 4 ga] = flat [.n 4 ga]) ∧ (flat [.l (gsC gs)] = flat [.l (gsC gs)]) ∧ (34 = 34 ∧ ((true = true ∧ n = n) ∧ (true = true ∧ n = n) ∧ (true = true ∧ 1 = 1) ∧ True)) ∧ ((41 = 41 ∧ 4 = 4) ∧ flat [.l G0] = flat [.l G0]) ∧ ((41 = 41 ∧ 4 = 4) ∧ flat [.l G1] = flat [.l G1]) ∧ ((41 = 41 ∧ 4 = 4) ∧ flat [Ch.c (.int .u64 0), Ch.c (.int .u64 0), Ch.c (.int .u64 0), Ch.c (.int .u64 0)] = flat [.l (limbs 4 0)]) ∧ True) from ⟨⟨rfl, ⟨rfl, rfl⟩, ⟨rfl, rfl⟩, ⟨rfl, rfl⟩, ⟨rfl, rfl⟩, ⟨rfl, rfl⟩, rfl, rfl, rfl, rfl, trivial⟩, ⟨rfl, ⟨rfl, ⟨⟨rfl, rfl⟩, ⟨rfl, rfl, rfl⟩, ⟨rfl, rfl, rfl⟩, trivial⟩⟩, ⟨rfl, rfl⟩, ⟨rfl, rfl⟩, rfl, ⟨rfl, ⟨⟨rfl, rfl⟩, ⟨rfl, rfl⟩, ⟨rfl, rfl⟩, trivial⟩⟩, ⟨⟨rfl, rfl⟩, rfl⟩, ⟨⟨rfl, rfl⟩, rfl⟩, ⟨⟨rfl, rfl⟩, z_flat1⟩, trivial⟩⟩)
    (And.intro (show decide (((vs.length : Nat) : Int) > 0) = false from decide_eq_false (by omega))
    (And.intro (show decide ((wv g 2) ≥ 0) = true from decide_eq_true (by omega))
    (And.intro (show (flat [.l (gsC gs)])[0 * 23 + 20 + 2]? = some (.int .i64 (wv g 2)) from wire_cell gs 0 g hg 2 (by decide))
    (And.intro (show (0 : Int) = ((0 : Nat) : Int) ∧ 0 < gs.length from ⟨rfl, glt hg⟩)
    (And.intro (show decide ((0 : Int) < ((gs.length : Nat) : Int)) = true from decide_eq_true (by have := glt hg; omega))
    (And.intro (show decide ((0 : Int) < ((n : Nat) : Int)) = true from decide_eq_true (by omega)) trivial)))))))
theorem scr2m (gs : List GT) (pub vars : Int) (vs : List Nat) (be ga : Nat) (lg n : Nat) (G0 : List Value) (G1 : List Value) (hn : n ≤ 1000) (C : List Value) (i : Nat) (hi : i < n) (hC : C.length = i * 4) (g : GT) (hg : gs[i]? = some g) (hv : 0 ≤ wv g 2) (hl : vs.length = 0)  : Sound Try.prog 0 false (loopB Try.f6 1) (scI2 gs pub vars vs be ga lg n G0 G1 C i).aa .normal (scI2 gs pub vars vs be ga lg n G0 G1 (C ++ (limbs 4 0)) (i + 1)).aa := by
  exact roundP_sound (P := Try.prog) (X := rulesR _) (env := []) trivial (n := 0) (os := (oL [(76, wT), (86, wT), (91, rO 14 i), (94, { ch := 0, hi := fun _ => 0, ru := 8, av := fun _ => .v (.int .i64 (wv g 2)) }), (97, wT), (101, wF), (109, { ch := 0, hi := fun _ => 0, ex := 1 })])) (fb := 0) (rd := false) (c := (loopB Try.f6 1)) (k := 76) (I := scI2 gs pub vars vs be ga lg n G0 G1 C i) (J := scI2 gs pub vars vs be ga lg n G0 G1 (C ++ (limbs 4 0)) (i + 1)) (τ := [(75, 109)]) (ex := .normal) (by kernel_rfl)
    (And.intro (show (((Value.int .i64 ((lg : Nat) : Int)) = (Value.int .i64 ((lg : Nat) : Int))) ∧ (true = true ∧ vs.length = vs.length) ∧ (true = true ∧ 0 = 0) ∧ (true = true ∧ 0 = 0) ∧ (true = true ∧ 0 = 0) ∧ (true = true ∧ 0 = 0) ∧ ((Value.int .i64 2) = (Value.int .i64 2)) ∧ ((Value.int .i64 2) = (Value.int .i64 2)) ∧ ((Value.int .i64 ((n : Nat) : Int)) = (Value.int .i64 ((n : Nat) : Int))) ∧ ((Value.int .i64 (IntKind.i64.wrap (((i : Nat) : Int) + 1))) = (Value.int .i64 (((i + 1) : Nat) : Int))) ∧ True) ∧ ((flat [.l (numC 4 vs)] = flat [.l (numC 4 vs)]) ∧ (24 = 24 ∧ ((true = true ∧ gs.length = gs.length) ∧ (true = true ∧ true = true ∧ [Value.int .i64 pub] = [Value.int .i64 pub]) ∧ (true = true ∧ true = true ∧ [Value.int .i64 vars] = [Value.int .i64 vars]) ∧ True)) ∧ (41 = 41 ∧ flat [.n 4 be] = flat [.n 4 be]) ∧ (41 = 41 ∧ flat [.n 4 ga] = flat [.n 4 ga]) ∧ (flat [.l (gsC gs)] = flat [.l (gsC gs)]) ∧ (34 = 34 ∧ ((true = true ∧ n = n) ∧ (true = true ∧ n = n) ∧ (true = true ∧ (i + 1) = (i + 1)) ∧ True)) ∧ ((41 = 41 ∧ 4 = 4) ∧ flat [.l G0] = flat [.l G0]) ∧ ((41 = 41 ∧ 4 = 4) ∧ flat [.l G1] = flat [.l G1]) ∧ ((41 = 41 ∧ 4 = 4) ∧ flat [.l C, Ch.c (.int .u64 0), Ch.c (.int .u64 0), Ch.c (.int .u64 0), Ch.c (.int .u64 0)] = flat [.l (C ++ limbs 4 0)]) ∧ True) from ⟨⟨rfl, ⟨rfl, rfl⟩, ⟨rfl, rfl⟩, ⟨rfl, rfl⟩, ⟨rfl, rfl⟩, ⟨rfl, rfl⟩, rfl, rfl, rfl, by rw [r_next (by omega)], trivial⟩, ⟨rfl, ⟨rfl, ⟨⟨rfl, rfl⟩, ⟨rfl, rfl, rfl⟩, ⟨rfl, rfl, rfl⟩, trivial⟩⟩, ⟨rfl, rfl⟩, ⟨rfl, rfl⟩, rfl, ⟨rfl, ⟨⟨rfl, rfl⟩, ⟨rfl, rfl⟩, ⟨rfl, rfl⟩, trivial⟩⟩, ⟨⟨rfl, rfl⟩, rfl⟩, ⟨⟨rfl, rfl⟩, rfl⟩, ⟨⟨rfl, rfl⟩, z_flat C⟩, trivial⟩⟩)
    (And.intro (show sizes [.l C] = i * 4 ∧ i + 1 ≤ 9223372036854775807 ∧ (i + 1) * 32 ≤ 140737488355328 ∧ True from ⟨by show C.length + 0 = i * 4; omega, by omega, by omega, trivial⟩)
    (And.intro (show decide (((vs.length : Nat) : Int) > 0) = false from decide_eq_false (by omega))
    (And.intro (show decide ((wv g 2) ≥ 0) = true from decide_eq_true (by omega))
    (And.intro (show (flat [.l (gsC gs)])[i * 23 + 20 + 2]? = some (.int .i64 (wv g 2)) from wire_cell gs i g hg 2 (by decide))
    (And.intro (show ((i : Nat) : Int) = ((i : Nat) : Int) ∧ i < gs.length from ⟨rfl, glt hg⟩)
    (And.intro (show decide (((i : Nat) : Int) < ((gs.length : Nat) : Int)) = true from decide_eq_true (by have := glt hg; omega))
    (And.intro (show decide (((i : Nat) : Int) < ((n : Nat) : Int)) = true from decide_eq_true (by omega)) trivial))))))))
theorem scz2y (gs : List GT) (pub vars : Int) (vs : List Nat) (be ga : Nat) (lg n : Nat) (G0 : List Value) (G1 : List Value) (hn : n ≤ 1000) (h0 : 0 < n) (g : GT) (hg : gs[0]? = some g) (hv : 0 ≤ wv g 2) (hl : 0 < vs.length) (j x : Nat) (hr : (wv g 2).tmod ((vs.length : Nat) : Int) = ((j : Nat) : Int)) (hx : vs[j]? = some x) (hx2 : x < 115792089237316195423570985008687907853269984665640564039457584007913129639936)  : Sound Try.prog 0 false (loopB Try.f6 1) (scZ2 gs pub vars vs be ga lg n G0 G1 ).aa .normal (scI2 gs pub vars vs be ga lg n G0 G1 (limbs 4 x) 1).aa := by
  exact roundP_sound (P := Try.prog) (X := rulesR _) (env := []) trivial (n := 0) (os := (oL [(76, wT), (86, wT), (91, rO 14 0), (94, { ch := 0, hi := fun _ => 0, ru := 8, av := fun _ => .v (.int .i64 (wv g 2)) }), (97, wT), (101, wT), (107, rmO j), (108, rO 14 j), (109, { ch := 0, hi := fun _ => 0, ru := 8, cs := fun _ => [.n 4 x] })])) (fb := 0) (rd := false) (c := (loopB Try.f6 1)) (k := 76) (I := scZ2 gs pub vars vs be ga lg n G0 G1 ) (J := scI2 gs pub vars vs be ga lg n G0 G1 (limbs 4 x) 1) (τ := [(75, 117)]) (ex := .normal) (by kernel_rfl)
    (And.intro (show (((Value.int .i64 ((lg : Nat) : Int)) = (Value.int .i64 ((lg : Nat) : Int))) ∧ (true = true ∧ vs.length = vs.length) ∧ (true = true ∧ 0 = 0) ∧ (true = true ∧ 0 = 0) ∧ (true = true ∧ 0 = 0) ∧ (true = true ∧ 0 = 0) ∧ ((Value.int .i64 2) = (Value.int .i64 2)) ∧ ((Value.int .i64 2) = (Value.int .i64 2)) ∧ ((Value.int .i64 ((n : Nat) : Int)) = (Value.int .i64 ((n : Nat) : Int))) ∧ ((Value.int .i64 (IntKind.i64.wrap (0 + 1))) = (Value.int .i64 ((1 : Nat) : Int))) ∧ True) ∧ ((flat [.l (numC 4 vs)] = flat [.l (numC 4 vs)]) ∧ (24 = 24 ∧ ((true = true ∧ gs.length = gs.length) ∧ (true = true ∧ true = true ∧ [Value.int .i64 pub] = [Value.int .i64 pub]) ∧ (true = true ∧ true = true ∧ [Value.int .i64 vars] = [Value.int .i64 vars]) ∧ True)) ∧ (41 = 41 ∧ flat [.n 4 be] = flat [.n 4 be]) ∧ (41 = 41 ∧ flat [.n 4 ga] = flat [.n 4 ga]) ∧ (flat [.l (gsC gs)] = flat [.l (gsC gs)]) ∧ (34 = 34 ∧ ((true = true ∧ n = n) ∧ (true = true ∧ n = n) ∧ (true = true ∧ 1 = 1) ∧ True)) ∧ ((41 = 41 ∧ 4 = 4) ∧ flat [.l G0] = flat [.l G0]) ∧ ((41 = 41 ∧ 4 = 4) ∧ flat [.l G1] = flat [.l G1]) ∧ ((41 = 41 ∧ 4 = 4) ∧ flat [.n 4 x] = flat [.l (limbs 4 x)]) ∧ True) from ⟨⟨rfl, ⟨rfl, rfl⟩, ⟨rfl, rfl⟩, ⟨rfl, rfl⟩, ⟨rfl, rfl⟩, ⟨rfl, rfl⟩, rfl, rfl, rfl, rfl, trivial⟩, ⟨rfl, ⟨rfl, ⟨⟨rfl, rfl⟩, ⟨rfl, rfl, rfl⟩, ⟨rfl, rfl, rfl⟩, trivial⟩⟩, ⟨rfl, rfl⟩, ⟨rfl, rfl⟩, rfl, ⟨rfl, ⟨⟨rfl, rfl⟩, ⟨rfl, rfl⟩, ⟨rfl, rfl⟩, trivial⟩⟩, ⟨⟨rfl, rfl⟩, rfl⟩, ⟨⟨rfl, rfl⟩, rfl⟩, ⟨⟨rfl, rfl⟩, n_flat1 x⟩, trivial⟩⟩)
    (And.intro (nu_at vs j x hx)
    (And.intro (show ((j : Nat) : Int) = ((j : Nat) : Int) ∧ j < vs.length from ⟨rfl, pl_lt hx⟩)
    (And.intro (show IntKind.i64 = IntKind.i64 ∧ ((vs.length : Nat) : Int) ≠ 0 ∧ (wv g 2).tmod ((vs.length : Nat) : Int) = ((j : Nat) : Int) from ⟨rfl, by omega, hr⟩)
    (And.intro (show decide (((vs.length : Nat) : Int) > 0) = true from decide_eq_true (by omega))
    (And.intro (show decide ((wv g 2) ≥ 0) = true from decide_eq_true (by omega))
    (And.intro (show (flat [.l (gsC gs)])[0 * 23 + 20 + 2]? = some (.int .i64 (wv g 2)) from wire_cell gs 0 g hg 2 (by decide))
    (And.intro (show (0 : Int) = ((0 : Nat) : Int) ∧ 0 < gs.length from ⟨rfl, glt hg⟩)
    (And.intro (show decide ((0 : Int) < ((gs.length : Nat) : Int)) = true from decide_eq_true (by have := glt hg; omega))
    (And.intro (show decide ((0 : Int) < ((n : Nat) : Int)) = true from decide_eq_true (by omega)) trivial))))))))))
theorem scr2y (gs : List GT) (pub vars : Int) (vs : List Nat) (be ga : Nat) (lg n : Nat) (G0 : List Value) (G1 : List Value) (hn : n ≤ 1000) (C : List Value) (i : Nat) (hi : i < n) (hC : C.length = i * 4) (g : GT) (hg : gs[i]? = some g) (hv : 0 ≤ wv g 2) (hl : 0 < vs.length) (j x : Nat) (hr : (wv g 2).tmod ((vs.length : Nat) : Int) = ((j : Nat) : Int)) (hx : vs[j]? = some x) (hx2 : x < 115792089237316195423570985008687907853269984665640564039457584007913129639936)  : Sound Try.prog 0 false (loopB Try.f6 1) (scI2 gs pub vars vs be ga lg n G0 G1 C i).aa .normal (scI2 gs pub vars vs be ga lg n G0 G1 (C ++ (limbs 4 x)) (i + 1)).aa := by
  exact roundP_sound (P := Try.prog) (X := rulesR _) (env := []) trivial (n := 0) (os := (oL [(76, wT), (86, wT), (91, rO 14 i), (94, { ch := 0, hi := fun _ => 0, ru := 8, av := fun _ => .v (.int .i64 (wv g 2)) }), (97, wT), (101, wT), (107, rmO j), (108, rO 14 j), (109, { ch := 0, hi := fun _ => 0, ru := 8, cs := fun _ => [.n 4 x] }), (117, { ch := 0, hi := fun _ => 0, ex := 1 })])) (fb := 0) (rd := false) (c := (loopB Try.f6 1)) (k := 76) (I := scI2 gs pub vars vs be ga lg n G0 G1 C i) (J := scI2 gs pub vars vs be ga lg n G0 G1 (C ++ (limbs 4 x)) (i + 1)) (τ := [(75, 117)]) (ex := .normal) (by kernel_rfl)
    (And.intro (show (((Value.int .i64 ((lg : Nat) : Int)) = (Value.int .i64 ((lg : Nat) : Int))) ∧ (true = true ∧ vs.length = vs.length) ∧ (true = true ∧ 0 = 0) ∧ (true = true ∧ 0 = 0) ∧ (true = true ∧ 0 = 0) ∧ (true = true ∧ 0 = 0) ∧ ((Value.int .i64 2) = (Value.int .i64 2)) ∧ ((Value.int .i64 2) = (Value.int .i64 2)) ∧ ((Value.int .i64 ((n : Nat) : Int)) = (Value.int .i64 ((n : Nat) : Int))) ∧ ((Value.int .i64 (IntKind.i64.wrap (((i : Nat) : Int) + 1))) = (Value.int .i64 (((i + 1) : Nat) : Int))) ∧ True) ∧ ((flat [.l (numC 4 vs)] = flat [.l (numC 4 vs)]) ∧ (24 = 24 ∧ ((true = true ∧ gs.length = gs.length) ∧ (true = true ∧ true = true ∧ [Value.int .i64 pub] = [Value.int .i64 pub]) ∧ (true = true ∧ true = true ∧ [Value.int .i64 vars] = [Value.int .i64 vars]) ∧ True)) ∧ (41 = 41 ∧ flat [.n 4 be] = flat [.n 4 be]) ∧ (41 = 41 ∧ flat [.n 4 ga] = flat [.n 4 ga]) ∧ (flat [.l (gsC gs)] = flat [.l (gsC gs)]) ∧ (34 = 34 ∧ ((true = true ∧ n = n) ∧ (true = true ∧ n = n) ∧ (true = true ∧ (i + 1) = (i + 1)) ∧ True)) ∧ ((41 = 41 ∧ 4 = 4) ∧ flat [.l G0] = flat [.l G0]) ∧ ((41 = 41 ∧ 4 = 4) ∧ flat [.l G1] = flat [.l G1]) ∧ ((41 = 41 ∧ 4 = 4) ∧ flat [.l C, .n 4 x] = flat [.l (C ++ limbs 4 x)]) ∧ True) from ⟨⟨rfl, ⟨rfl, rfl⟩, ⟨rfl, rfl⟩, ⟨rfl, rfl⟩, ⟨rfl, rfl⟩, ⟨rfl, rfl⟩, rfl, rfl, rfl, by rw [r_next (by omega)], trivial⟩, ⟨rfl, ⟨rfl, ⟨⟨rfl, rfl⟩, ⟨rfl, rfl, rfl⟩, ⟨rfl, rfl, rfl⟩, trivial⟩⟩, ⟨rfl, rfl⟩, ⟨rfl, rfl⟩, rfl, ⟨rfl, ⟨⟨rfl, rfl⟩, ⟨rfl, rfl⟩, ⟨rfl, rfl⟩, trivial⟩⟩, ⟨⟨rfl, rfl⟩, rfl⟩, ⟨⟨rfl, rfl⟩, rfl⟩, ⟨⟨rfl, rfl⟩, n_flat C x⟩, trivial⟩⟩)
    (And.intro (show sizes [.l C] = i * 4 ∧ i + 1 ≤ 9223372036854775807 ∧ (i + 1) * 32 ≤ 140737488355328 ∧ True from ⟨by show C.length + 0 = i * 4; omega, by omega, by omega, trivial⟩)
    (And.intro (nu_at vs j x hx)
    (And.intro (show ((j : Nat) : Int) = ((j : Nat) : Int) ∧ j < vs.length from ⟨rfl, pl_lt hx⟩)
    (And.intro (show IntKind.i64 = IntKind.i64 ∧ ((vs.length : Nat) : Int) ≠ 0 ∧ (wv g 2).tmod ((vs.length : Nat) : Int) = ((j : Nat) : Int) from ⟨rfl, by omega, hr⟩)
    (And.intro (show decide (((vs.length : Nat) : Int) > 0) = true from decide_eq_true (by omega))
    (And.intro (show decide ((wv g 2) ≥ 0) = true from decide_eq_true (by omega))
    (And.intro (show (flat [.l (gsC gs)])[i * 23 + 20 + 2]? = some (.int .i64 (wv g 2)) from wire_cell gs i g hg 2 (by decide))
    (And.intro (show ((i : Nat) : Int) = ((i : Nat) : Int) ∧ i < gs.length from ⟨rfl, glt hg⟩)
    (And.intro (show decide (((i : Nat) : Int) < ((gs.length : Nat) : Int)) = true from decide_eq_true (by have := glt hg; omega))
    (And.intro (show decide (((i : Nat) : Int) < ((n : Nat) : Int)) = true from decide_eq_true (by omega)) trivial)))))))))))
theorem sc_e2 (gs : List GT) (pub vars : Int) (vs : List Nat) (be ga : Nat) (lg n : Nat) (G0 : List Value) (G1 : List Value) (C : List Value) : Sound Try.prog 0 false (loopB Try.f6 1) (scI2 gs pub vars vs be ga lg n G0 G1 C n).aa (.exit 2) (scE2 gs pub vars vs be ga lg n G0 G1 C).aa := by
  have hh := roundK_sound (P := Try.prog) (X := rulesM _) (env := []) trivial (n := 0) (os := (oL [(76, wF)])) (fb := 0) (rd := false) (c := (loopB Try.f6 1)) (k := 76) (I := scI2 gs pub vars vs be ga lg n G0 G1 C n) (sk := [1, 2, 5, 8, 9, 12, 36]) (hk := [5, 6, 7, 8, 22, 49, 57, 66, 75]) (lk := []) (ex := (.exit 2))
    (L := scE2 gs pub vars vs be ga lg n G0 G1 C) (by kernel_rfl)
    (And.intro (show decide (((n : Nat) : Int) < ((n : Nat) : Int)) = false from decide_eq_false (by omega)) trivial)
  exact hh
theorem sca2 (gs : List GT) (pub vars : Int) (vs : List Nat) (be ga : Nat) (lg n : Nat) (G0 : List Value) (G1 : List Value) (hn : n ≤ 1000) (h0 : 0 < n) (hvs : ∀ x, x ∈ vs → x < 115792089237316195423570985008687907853269984665640564039457584007913129639936) : Sound Try.prog 0 false (.loop (loopB Try.f6 1)) (scZ2 gs pub vars vs be ga lg n G0 G1 ).aa (.exit 2) (scE2 gs pub vars vs be ga lg n G0 G1 (numC 4 (mW (vf gs n) n vs 2))).aa := by
  have hh := loop_ok (P := Try.prog) (fb := 0) (rd := false) (body := (loopB Try.f6 1)) (ex := .exit 2) (E := scE2 gs pub vars vs be ga lg n G0 G1 (mC (vf gs n) n vs 2 n)) (m := fun y : { i : Nat // i ≤ n } => n - y.val) (fun y => match y.val with | 0 => scZ2 gs pub vars vs be ga lg n G0 G1  | i + 1 => scI2 gs pub vars vs be ga lg n G0 G1 (mC (vf gs n) n vs 2 (i + 1)) (i + 1)) (by simp) (fun y => ?_) ⟨0, by omega⟩
  · exact hh
  obtain ⟨i, hi⟩ := y
  match i, hi with
  | 0, hi => exact .inl ⟨⟨1, by omega⟩, by show n - 1 < n - 0; omega, by
      have e : (mC (vf gs n) n vs 2 (0 + 1)) = limbs 4 (wvN vs (wAt gs 0 2)) := by rw [mC_succ, vf_wi h0]; rfl
      show Sound _ _ _ _ _ _ (scI2 gs pub vars vs be ga lg n G0 G1 (mC (vf gs n) n vs 2 (0 + 1)) (0 + 1)).aa
      rw [e]
      by_cases hg : 0 < gs.length
      · obtain ⟨g, hg⟩ := pl_of hg
        rw [wAt_in hg]
        by_cases hv : 0 ≤ wv g 2
        · by_cases hl : 0 < vs.length
          · exact scz2y gs pub vars vs be ga lg n G0 G1 hn h0 g hg hv hl _ _ (rem_to hv _) (wv_yes hv hl) (wvN_lt hvs (by decide))
          · rw [wv_no (by omega)]; exact scz2m gs pub vars vs be ga lg n G0 G1 hn h0 g hg hv (by omega)
        · rw [wv_no (by omega)]; exact scz2n gs pub vars vs be ga lg n G0 G1 hn h0 g hg hv
      · rw [wAt_out hg, wv_no (by omega)]; exact scz2g gs pub vars vs be ga lg n G0 G1 hn h0 hg⟩
  | i + 1, hi =>
    by_cases e : i + 1 < n
    · refine .inl ⟨⟨i + 1 + 1, e⟩, by show n - (i + 1 + 1) < n - (i + 1); omega, ?_⟩
      show Sound _ _ _ _ _ _ (scI2 gs pub vars vs be ga lg n G0 G1 (mC (vf gs n) n vs 2 (i + 1 + 1)) (i + 1 + 1)).aa
      rw [mC_succ, vf_wi e]
      by_cases hg : (i + 1) < gs.length
      · obtain ⟨g, hg⟩ := pl_of hg
        rw [wAt_in hg]
        by_cases hv : 0 ≤ wv g 2
        · by_cases hl : 0 < vs.length
          · exact scr2y gs pub vars vs be ga lg n G0 G1 hn (mC (vf gs n) n vs 2 (i + 1)) (i + 1) e (mC_len _ _ _ _ _) g hg hv hl _ _ (rem_to hv _) (wv_yes hv hl) (wvN_lt hvs (by decide))
          · rw [wv_no (by omega)]; exact scr2m gs pub vars vs be ga lg n G0 G1 hn (mC (vf gs n) n vs 2 (i + 1)) (i + 1) e (mC_len _ _ _ _ _) g hg hv (by omega)
        · rw [wv_no (by omega)]; exact scr2n gs pub vars vs be ga lg n G0 G1 hn (mC (vf gs n) n vs 2 (i + 1)) (i + 1) e (mC_len _ _ _ _ _) g hg hv
      · rw [wAt_out hg, wv_no (by omega)]; exact scr2g gs pub vars vs be ga lg n G0 G1 hn (mC (vf gs n) n vs 2 (i + 1)) (i + 1) e (mC_len _ _ _ _ _) hg
    · have e : i + 1 = n := by omega
      refine .inr ?_
      show Sound _ _ _ _ (scI2 gs pub vars vs be ga lg n G0 G1 (mC (vf gs n) n vs 2 (i + 1)) (i + 1)).aa _ _
      rw [e]
      exact sc_e2 gs pub vars vs be ga lg n G0 G1 _
end Go.Proofs.Ytoigbjimhcgolaa

/- chirographlaw19.SigmaCloses: values taken from variables close; as a truth. -/
set_option linter.unusedSimpArgs false
set_option linter.unusedVariables false
namespace Go.Proofs.Ytoigbjimhcgolaa
open Go.Ev Go.RowKit
theorem sc_big (g0 gs : List GT) (h30 : gs = g0.take 30) (pub vars : Int) (log : Int) (hc : ckE gs pub vars log = 0) (h5 : ¬ log ≤ 5) (vs : List Nat) (be ga : Nat) : Gives Try.prog 6 [.ags [.z [.l (gsC g0)] g0.length, .c (.c (.int .i64 pub)), .c (.c (.int .i64 vars))], .t (.v (.int .i64 log)), .rz [.l (numC 4 vs)] vs.length, .t (.ag [.n 4 be]), .t (.ag [.n 4 ga])] (.v (.bool true)) :=
  fn_gives_at (P := Try.prog) (X := rulesM _) (env := [eAs 11 [([.ags [.z [.l (gsC gs)] gs.length, .c (.c (.int .i64 pub)), .c (.c (.int .i64 vars))], .t (.v (.int .i64 log))], .v (.int .i64 0))], eAl19]) ⟨eAs_one (by have h := rk_e gs pub vars (by have := len30 h30; omega) log; rw [hc] at h; exact h), eAl19_ok, trivial⟩ Try.func6 1 (oL [(22, { ch := 0, hi := fun _ => gs.length, ex := 6, cs := fun _ => [.l (gsC gs)] }), (32, wF)]) (by kernel_rfl) ⟨_, rfl⟩
    (And.intro (show decide (log ≤ 5) = false from decide_eq_false h5)
    (And.intro (show ([.ags [.z [.l (gsC gs)] gs.length, .c (.c (.int .i64 pub)), .c (.c (.int .i64 vars))], .t (.v (.int .i64 log))] : List XV) = [.ags [.z [.l (gsC gs)] gs.length, .c (.c (.int .i64 pub)), .c (.c (.int .i64 vars))], .t (.v (.int .i64 log))] from rfl)
    (And.intro (cut30 g0 gs h30) trivial)))
theorem sc_err (g0 gs : List GT) (h30 : gs = g0.take 30) (pub vars : Int) (log e : Int) (hc : ckE gs pub vars log = e) (h0 : e ≠ 0) (vs : List Nat) (be ga : Nat) : Gives Try.prog 6 [.ags [.z [.l (gsC g0)] g0.length, .c (.c (.int .i64 pub)), .c (.c (.int .i64 vars))], .t (.v (.int .i64 log)), .rz [.l (numC 4 vs)] vs.length, .t (.ag [.n 4 be]), .t (.ag [.n 4 ga])] (.v (.bool true)) :=
  fn_gives_at (P := Try.prog) (X := rulesM _) (env := [eAs 11 [([.ags [.z [.l (gsC gs)] gs.length, .c (.c (.int .i64 pub)), .c (.c (.int .i64 vars))], .t (.v (.int .i64 log))], .v (.int .i64 e))], eAl19]) ⟨eAs_one (by have h := rk_e gs pub vars (by have := len30 h30; omega) log; rw [hc] at h; exact h), eAl19_ok, trivial⟩ Try.func6 1 (oL [(22, { ch := 0, hi := fun _ => gs.length, ex := 6, cs := fun _ => [.l (gsC gs)] }), (29, wT), (47, wT)]) (by kernel_rfl) ⟨_, rfl⟩
    (And.intro (show (e != 0) = true from by simpa using h0)
    (And.intro (show ([.ags [.z [.l (gsC gs)] gs.length, .c (.c (.int .i64 pub)), .c (.c (.int .i64 vars))], .t (.v (.int .i64 log))] : List XV) = [.ags [.z [.l (gsC gs)] gs.length, .c (.c (.int .i64 pub)), .c (.c (.int .i64 vars))], .t (.v (.int .i64 log))] from rfl)
    (And.intro (show (e != 0) = true from by simpa using h0)
    (And.intro (show ([.ags [.z [.l (gsC gs)] gs.length, .c (.c (.int .i64 pub)), .c (.c (.int .i64 vars))], .t (.v (.int .i64 log))] : List XV) = [.ags [.z [.l (gsC gs)] gs.length, .c (.c (.int .i64 pub)), .c (.c (.int .i64 vars))], .t (.v (.int .i64 log))] from rfl)
    (And.intro (cut30 g0 gs h30) trivial)))))
theorem sc_same (F : Nat → Int) (n : Nat) (h32 : n ≤ 1000) (vs : List Nat) (hvs : ∀ x, x ∈ vs → x < 115792089237316195423570985008687907853269984665640564039457584007913129639936) : GivesE Try.prog 22 [.ags [.r [.l (rowQ F n (3 * n) 0)] n, .r [.l (rowQ F n (3 * n) 1)] n, .r [.l (rowQ F n (3 * n) 2)] n], .ags [.r [.l (numC 4 (mW F n vs 0))] n, .r [.l (numC 4 (mW F n vs 1))] n, .r [.l (numC 4 (mW F n vs 2))] n]] (.v (.bool true)) := by
  have h := same_yes (lQ F n) (mW F n vs) (fun w => by rw [lQ_len]; omega) (mW_lt hvs (by decide)) (fun w hw => close_ok F n vs w hw) (fun w hw => close_eq F n vs w hw)
  simp only [plC_lQ, lQ_len, mW_len] at h
  exact GivesE.zxv ⟨fun vs w => Go.Proofs.enters_of (P := Try.prog) Try.func22 (by kernel_rfl) rfl vs w, h⟩ rfl
theorem sc_d (g0 gs : List GT) (h30 : gs = g0.take 30) (pub vars : Int) (lg : Nat) (hl : lg ≤ 5) (n : Nat) (hn : n = 2 ^ lg) (h32 : n ≤ 1000) (h0 : 0 < n) (hm : gs.length ≤ 1000) (hln : gs.length ≤ n) (hck : ckE gs pub vars ((lg : Nat) : Int) = 0) (hrk : GivesE Try.prog 11 [.ags [.z [.l (gsC gs)] gs.length, .c (.c (.int .i64 pub)), .c (.c (.int .i64 vars))], .t (.v (.int .i64 ((lg : Nat) : Int)))] (.v (.int .i64 0))) (vs : List Nat) (be ga : Nat) (hvs : ∀ x, x ∈ vs → x < 115792089237316195423570985008687907853269984665640564039457584007913129639936) (hbe : be < 115792089237316195423570985008687907853269984665640564039457584007913129639936) (hga : ga < 115792089237316195423570985008687907853269984665640564039457584007913129639936) (j : Nat) (hj : j < n) (hd : lwI (vf gs n) n (mW (vf gs n) n vs) lg be ga j = 0) (hz : ∀ i, i < j → lwI (vf gs n) n (mW (vf gs n) n vs) lg be ga i ≠ 0) : Gives Try.prog 6 [.ags [.z [.l (gsC g0)] g0.length, .c (.c (.int .i64 pub)), .c (.c (.int .i64 vars))], .t (.v (.int .i64 ((lg : Nat) : Int))), .rz [.l (numC 4 vs)] vs.length, .t (.ag [.n 4 be]), .t (.ag [.n 4 ga])] (.v (.bool true)) := by
  have hG : GivesE Try.prog 17 [.ags [.z [.l (gsC gs)] gs.length, .c (.c (.int .i64 pub)), .c (.c (.int .i64 vars))], .t (.v (.int .i64 ((lg : Nat) : Int))), .ags [.r [.l (numC 4 (mW (vf gs n) n vs 0))] n, .r [.l (numC 4 (mW (vf gs n) n vs 1))] n, .r [.l (numC 4 (mW (vf gs n) n vs 2))] n], .t (.ag [.n 4 be]), .t (.ag [.n 4 ga])] (.tp [.v (.slice none 0 0), .v (.int .i64 71)]) := by
    have h := grand_d gs pub vars lg hl n hn h32 h0 hm hln hck (mW (vf gs n) n vs) be ga (mW_lt hvs (by decide)) hbe hga (fun w _ => mW_len _ _ _ _) j hj hd hz
    simp only [mW_len] at h
    exact GivesE.zxv h rfl
  exact fn_gives_at (P := Try.prog) (X := rulesM _) (env := [eAs 11 [([.ags [.z [.l (gsC gs)] gs.length, .c (.c (.int .i64 pub)), .c (.c (.int .i64 vars))], .t (.v (.int .i64 ((lg : Nat) : Int)))], .v (.int .i64 0))], eAl19]) ⟨eAs_one hrk, eAl19_ok, trivial⟩ Try.func6 1 (oL [(22, { ch := 0, hi := fun _ => gs.length, ex := 6, cs := fun _ => [.l (gsC gs)] }), (32, wT), (55, shO lg n), (57, lpO { I := scZ0 gs pub vars vs be ga lg n , ex := .exit 2, E := scE0 gs pub vars vs be ga lg n (numC 4 (mW (vf gs n) n vs 0)), fr := 58 }), (64, shO lg n), (66, lpO { I := scZ1 gs pub vars vs be ga lg n (numC 4 (mW (vf gs n) n vs 0)) , ex := .exit 2, E := scE1 gs pub vars vs be ga lg n (numC 4 (mW (vf gs n) n vs 0)) (numC 4 (mW (vf gs n) n vs 1)), fr := 67 }), (73, shO lg n), (75, lpO { I := scZ2 gs pub vars vs be ga lg n (numC 4 (mW (vf gs n) n vs 0)) (numC 4 (mW (vf gs n) n vs 1)) , ex := .exit 2, E := scE2 gs pub vars vs be ga lg n (numC 4 (mW (vf gs n) n vs 0)) (numC 4 (mW (vf gs n) n vs 1)) (numC 4 (mW (vf gs n) n vs 2)), fr := 76 }), (81, { ch := 0, hi := fun _ => 0, ex := 11, av := fun _ => .tp [.ag [.sx 79 n, .sx 80 n, .sx 81 n], .v (.int .i64 0)], lp := some { I := { n := 0, sl := [], hp := [] }, ex := .ret, E := { n := 0, sl := [], hp := [(79, .gr [.l (rowQ (vf gs n) n (3 * n) 0)] 44 2), (80, .gr [.l (rowQ (vf gs n) n (3 * n) 1)] 44 2), (81, .gr [.l (rowQ (vf gs n) n (3 * n) 2)] 44 2)] }, fr := 0 } }), (93, { ch := 0, hi := fun _ => 0, ex := 7, av := fun _ => .tp [.v (.slice none 0 0), .v (.int .i64 71)] }), (104, { ch := 0, hi := fun _ => 0, ex := 7, av := fun _ => .v (.bool true) })]) (by kernel_rfl) ⟨_, rfl⟩
    (And.intro (sc_same (vf gs n) n h32 vs hvs)
    (And.intro (hG)
    (And.intro (next_m gs pub vars lg hl n hn h32 h0 hm hln hck 79 80 81)
    (And.intro (show some (scZ2 gs pub vars vs be ga lg n (numC 4 (mW (vf gs n) n vs 0)) (numC 4 (mW (vf gs n) n vs 1)) ) = some (scZ2 gs pub vars vs be ga lg n (numC 4 (mW (vf gs n) n vs 0)) (numC 4 (mW (vf gs n) n vs 1)) ) from rfl)
    (And.intro (sca2 gs pub vars vs be ga lg n (numC 4 (mW (vf gs n) n vs 0)) (numC 4 (mW (vf gs n) n vs 1)) h32 h0 hvs)
    (And.intro (show ((lg : Nat) : Int) = ((lg : Nat) : Int) ∧ IntKind.i64.wrap (1 * 2 ^ min lg IntKind.i64.bits) = ((n : Nat) : Int) from ⟨rfl, by rw [hn]; exact sh_num lg (by omega)⟩)
    (And.intro (show some (scZ1 gs pub vars vs be ga lg n (numC 4 (mW (vf gs n) n vs 0)) ) = some (scZ1 gs pub vars vs be ga lg n (numC 4 (mW (vf gs n) n vs 0)) ) from rfl)
    (And.intro (sca1 gs pub vars vs be ga lg n (numC 4 (mW (vf gs n) n vs 0)) h32 h0 hvs)
    (And.intro (show ((lg : Nat) : Int) = ((lg : Nat) : Int) ∧ IntKind.i64.wrap (1 * 2 ^ min lg IntKind.i64.bits) = ((n : Nat) : Int) from ⟨rfl, by rw [hn]; exact sh_num lg (by omega)⟩)
    (And.intro (show some (scZ0 gs pub vars vs be ga lg n ) = some (scZ0 gs pub vars vs be ga lg n ) from rfl)
    (And.intro (sca0 gs pub vars vs be ga lg n h32 h0 hvs)
    (And.intro (show ((lg : Nat) : Int) = ((lg : Nat) : Int) ∧ IntKind.i64.wrap (1 * 2 ^ min lg IntKind.i64.bits) = ((n : Nat) : Int) from ⟨rfl, by rw [hn]; exact sh_num lg (by omega)⟩)
    (And.intro (show ([.ags [.z [.l (gsC gs)] gs.length, .c (.c (.int .i64 pub)), .c (.c (.int .i64 vars))], .t (.v (.int .i64 ((lg : Nat) : Int)))] : List XV) = [.ags [.z [.l (gsC gs)] gs.length, .c (.c (.int .i64 pub)), .c (.c (.int .i64 vars))], .t (.v (.int .i64 ((lg : Nat) : Int)))] from rfl)
    (And.intro (show decide (((lg : Nat) : Int) ≤ 5) = true from decide_eq_true (by omega))
    (And.intro (show ([.ags [.z [.l (gsC gs)] gs.length, .c (.c (.int .i64 pub)), .c (.c (.int .i64 vars))], .t (.v (.int .i64 ((lg : Nat) : Int)))] : List XV) = [.ags [.z [.l (gsC gs)] gs.length, .c (.c (.int .i64 pub)), .c (.c (.int .i64 vars))], .t (.v (.int .i64 ((lg : Nat) : Int)))] from rfl)
    (And.intro (cut30 g0 gs h30) trivial))))))))))))))))
theorem sc_ok (g0 gs : List GT) (h30 : gs = g0.take 30) (pub vars : Int) (lg : Nat) (hl : lg ≤ 5) (n : Nat) (hn : n = 2 ^ lg) (h32 : n ≤ 1000) (h0 : 0 < n) (hm : gs.length ≤ 1000) (hln : gs.length ≤ n) (hck : ckE gs pub vars ((lg : Nat) : Int) = 0) (hrk : GivesE Try.prog 11 [.ags [.z [.l (gsC gs)] gs.length, .c (.c (.int .i64 pub)), .c (.c (.int .i64 vars))], .t (.v (.int .i64 ((lg : Nat) : Int)))] (.v (.int .i64 0))) (vs : List Nat) (be ga : Nat) (hvs : ∀ x, x ∈ vs → x < 115792089237316195423570985008687907853269984665640564039457584007913129639936) (hbe : be < 115792089237316195423570985008687907853269984665640564039457584007913129639936) (hga : ga < 115792089237316195423570985008687907853269984665640564039457584007913129639936) (hz : ∀ i, i < n → lwI (vf gs n) n (mW (vf gs n) n vs) lg be ga i ≠ 0) : Gives Try.prog 6 [.ags [.z [.l (gsC g0)] g0.length, .c (.c (.int .i64 pub)), .c (.c (.int .i64 vars))], .t (.v (.int .i64 ((lg : Nat) : Int))), .rz [.l (numC 4 vs)] vs.length, .t (.ag [.n 4 be]), .t (.ag [.n 4 ga])] (.v (.bool true)) := by
  have hG : GivesN Try.prog 17 [.ags [.z [.l (gsC gs)] gs.length, .c (.c (.int .i64 pub)), .c (.c (.int .i64 vars))], .t (.v (.int .i64 ((lg : Nat) : Int))), .ags [.r [.l (numC 4 (mW (vf gs n) n vs 0))] n, .r [.l (numC 4 (mW (vf gs n) n vs 1))] n, .r [.l (numC 4 (mW (vf gs n) n vs 2))] n], .t (.ag [.n 4 be]), .t (.ag [.n 4 ga])] (fun k => .tp [.sx k (n + 1), .v (.int .i64 0)]) (.gr [.l (tab eC (n + 1) (zzP (tpI (mW (vf gs n) n vs) lg be ga) (fun i => pwS (lwI (vf gs n) n (mW (vf gs n) n vs) lg be ga i) 52435875175126190479447740508185965837690552500527637822603658699938581184511)))] 41 4) := by
    have h := grand_n gs pub vars lg hl n hn h32 h0 hm hln hck (mW (vf gs n) n vs) be ga (mW_lt hvs (by decide)) hbe hga (fun w _ => mW_len _ _ _ _) hz
    simp only [mW_len] at h
    exact GivesN.zxv h rfl
  have hone : ((tab eC (n + 1) (zzP (tpI (mW (vf gs n) n vs) lg be ga) (fun i => pwS (lwI (vf gs n) n (mW (vf gs n) n vs) lg be ga i) 52435875175126190479447740508185965837690552500527637822603658699938581184511))).drop (n * 4)).take 4 = flat [.e (1 : Fin Rr)] := by
    have h := tab_at eC eC_len (n + 1) (zzP (tpI (mW (vf gs n) n vs) lg be ga) (fun i => pwS (lwI (vf gs n) n (mW (vf gs n) n vs) lg be ga i) 52435875175126190479447740508185965837690552500527637822603658699938581184511)) n (by omega)
    rw [close_one (vf gs n) lg n vs be ga hz] at h
    exact h
  exact fn_gives_at (P := Try.prog) (X := rulesM _) (env := eFSmallS :: [eAs 11 [([.ags [.z [.l (gsC gs)] gs.length, .c (.c (.int .i64 pub)), .c (.c (.int .i64 vars))], .t (.v (.int .i64 ((lg : Nat) : Int)))], .v (.int .i64 0))], eAl19]) ⟨eFSmallS_ok, eAs_one hrk, eAl19_ok, trivial⟩ Try.func6 1 (oL [(22, { ch := 0, hi := fun _ => gs.length, ex := 6, cs := fun _ => [.l (gsC gs)] }), (32, wT), (55, shO lg n), (57, lpO { I := scZ0 gs pub vars vs be ga lg n , ex := .exit 2, E := scE0 gs pub vars vs be ga lg n (numC 4 (mW (vf gs n) n vs 0)), fr := 58 }), (64, shO lg n), (66, lpO { I := scZ1 gs pub vars vs be ga lg n (numC 4 (mW (vf gs n) n vs 0)) , ex := .exit 2, E := scE1 gs pub vars vs be ga lg n (numC 4 (mW (vf gs n) n vs 0)) (numC 4 (mW (vf gs n) n vs 1)), fr := 67 }), (73, shO lg n), (75, lpO { I := scZ2 gs pub vars vs be ga lg n (numC 4 (mW (vf gs n) n vs 0)) (numC 4 (mW (vf gs n) n vs 1)) , ex := .exit 2, E := scE2 gs pub vars vs be ga lg n (numC 4 (mW (vf gs n) n vs 0)) (numC 4 (mW (vf gs n) n vs 1)) (numC 4 (mW (vf gs n) n vs 2)), fr := 76 }), (81, { ch := 0, hi := fun _ => 0, ex := 11, av := fun _ => .tp [.ag [.sx 79 n, .sx 80 n, .sx 81 n], .v (.int .i64 0)], lp := some { I := { n := 0, sl := [], hp := [] }, ex := .ret, E := { n := 0, sl := [], hp := [(79, .gr [.l (rowQ (vf gs n) n (3 * n) 0)] 44 2), (80, .gr [.l (rowQ (vf gs n) n (3 * n) 1)] 44 2), (81, .gr [.l (rowQ (vf gs n) n (3 * n) 2)] 44 2)] }, fr := 0 } }), (93, { ch := 0, hi := fun _ => 0, ex := 4, av := fun k => .tp [.sx k (n + 1), .v (.int .i64 0)], lp := some { I := { n := 0, sl := [], hp := [] }, ex := .ret, E := { n := 0, sl := [], hp := [(0, .gr [.l (tab eC (n + 1) (zzP (tpI (mW (vf gs n) n vs) lg be ga) (fun i => pwS (lwI (vf gs n) n (mW (vf gs n) n vs) lg be ga i) 52435875175126190479447740508185965837690552500527637822603658699938581184511)))] 41 4)] }, fr := 0 } }), (104, { ch := 0, hi := fun _ => 0, ex := 7, av := fun _ => .v (.bool true) }), (114, shO lg n), (116, wT), (121, shO lg n), (122, rO 9 n), (123, { ch := 0, hi := fun _ => 0, ru := 8, cs := fun _ => [.e (1 : Fin Rr)] }), (125, wO 0)]) (by kernel_rfl) ⟨_, rfl⟩
    (And.intro (show flat [Ch.e (1 : Fin Rr)] = flat [Ch.e (ofR (1 : Int).toNat)] from by kernel_rfl)
    (And.intro (show (0 : Int) ≤ 1 ∧ (1 : Int) < 9223372036854775808 from by decide)
    (And.intro (ldO (p := [.e (1 : Fin Rr)]) hone rfl)
    (And.intro (show ((n : Nat) : Int) = ((n : Nat) : Int) ∧ n < n + 1 from ⟨rfl, by omega⟩)
    (And.intro (show ((lg : Nat) : Int) = ((lg : Nat) : Int) ∧ IntKind.i64.wrap (1 * 2 ^ min lg IntKind.i64.bits) = ((n : Nat) : Int) from ⟨rfl, by rw [hn]; exact sh_num lg (by omega)⟩)
    (And.intro (show (((n + 1 : Nat) : Int) == IntKind.i64.wrap (((n : Nat) : Int) + 1)) = true from by rw [r_next (by omega)]; exact beq_self_eq_true _)
    (And.intro (show ((lg : Nat) : Int) = ((lg : Nat) : Int) ∧ IntKind.i64.wrap (1 * 2 ^ min lg IntKind.i64.bits) = ((n : Nat) : Int) from ⟨rfl, by rw [hn]; exact sh_num lg (by omega)⟩)
    (And.intro (sc_same (vf gs n) n h32 vs hvs)
    (And.intro (hG)
    (And.intro (next_m gs pub vars lg hl n hn h32 h0 hm hln hck 79 80 81)
    (And.intro (show some (scZ2 gs pub vars vs be ga lg n (numC 4 (mW (vf gs n) n vs 0)) (numC 4 (mW (vf gs n) n vs 1)) ) = some (scZ2 gs pub vars vs be ga lg n (numC 4 (mW (vf gs n) n vs 0)) (numC 4 (mW (vf gs n) n vs 1)) ) from rfl)
    (And.intro (sca2 gs pub vars vs be ga lg n (numC 4 (mW (vf gs n) n vs 0)) (numC 4 (mW (vf gs n) n vs 1)) h32 h0 hvs)
    (And.intro (show ((lg : Nat) : Int) = ((lg : Nat) : Int) ∧ IntKind.i64.wrap (1 * 2 ^ min lg IntKind.i64.bits) = ((n : Nat) : Int) from ⟨rfl, by rw [hn]; exact sh_num lg (by omega)⟩)
    (And.intro (show some (scZ1 gs pub vars vs be ga lg n (numC 4 (mW (vf gs n) n vs 0)) ) = some (scZ1 gs pub vars vs be ga lg n (numC 4 (mW (vf gs n) n vs 0)) ) from rfl)
    (And.intro (sca1 gs pub vars vs be ga lg n (numC 4 (mW (vf gs n) n vs 0)) h32 h0 hvs)
    (And.intro (show ((lg : Nat) : Int) = ((lg : Nat) : Int) ∧ IntKind.i64.wrap (1 * 2 ^ min lg IntKind.i64.bits) = ((n : Nat) : Int) from ⟨rfl, by rw [hn]; exact sh_num lg (by omega)⟩)
    (And.intro (show some (scZ0 gs pub vars vs be ga lg n ) = some (scZ0 gs pub vars vs be ga lg n ) from rfl)
    (And.intro (sca0 gs pub vars vs be ga lg n h32 h0 hvs)
    (And.intro (show ((lg : Nat) : Int) = ((lg : Nat) : Int) ∧ IntKind.i64.wrap (1 * 2 ^ min lg IntKind.i64.bits) = ((n : Nat) : Int) from ⟨rfl, by rw [hn]; exact sh_num lg (by omega)⟩)
    (And.intro (show ([.ags [.z [.l (gsC gs)] gs.length, .c (.c (.int .i64 pub)), .c (.c (.int .i64 vars))], .t (.v (.int .i64 ((lg : Nat) : Int)))] : List XV) = [.ags [.z [.l (gsC gs)] gs.length, .c (.c (.int .i64 pub)), .c (.c (.int .i64 vars))], .t (.v (.int .i64 ((lg : Nat) : Int)))] from rfl)
    (And.intro (show decide (((lg : Nat) : Int) ≤ 5) = true from decide_eq_true (by omega))
    (And.intro (show ([.ags [.z [.l (gsC gs)] gs.length, .c (.c (.int .i64 pub)), .c (.c (.int .i64 vars))], .t (.v (.int .i64 ((lg : Nat) : Int)))] : List XV) = [.ags [.z [.l (gsC gs)] gs.length, .c (.c (.int .i64 pub)), .c (.c (.int .i64 vars))], .t (.v (.int .i64 ((lg : Nat) : Int)))] from rfl)
    (And.intro (cut30 g0 gs h30) trivial)))))))))))))))))))))))
theorem sigmaCloses_gives (g0 : List GT) (pub vars log : Int) (vs : List Nat) (hvs : ∀ x, x ∈ vs → x < 115792089237316195423570985008687907853269984665640564039457584007913129639936) (be ga : Nat) (hbe : be < 115792089237316195423570985008687907853269984665640564039457584007913129639936) (hga : ga < 115792089237316195423570985008687907853269984665640564039457584007913129639936) : Gives Try.prog 6 [.ags [.z [.l (gsC g0)] g0.length, .c (.c (.int .i64 pub)), .c (.c (.int .i64 vars))], .t (.v (.int .i64 log)), .rz [.l (numC 4 vs)] vs.length, .t (.ag [.n 4 be]), .t (.ag [.n 4 ga])] (.v (.bool true)) := by
  have hl := len30 (g0 := g0) rfl
  by_cases hc : ckE (g0.take 30) pub vars log = 0
  · by_cases h5 : log ≤ 5
    · obtain ⟨lg, rfl⟩ := Int.eq_ofNat_of_zero_le (ck_pos hc)
      have h := rk_e (g0.take 30) pub vars (by omega) ((lg : Nat) : Int)
      rw [hc] at h
      obtain ⟨p1, p2⟩ := pow5 (show lg ≤ 5 by omega)
      have h5' : lg ≤ 5 := by omega
      have hm : (g0.take 30).length ≤ 1000 := by omega
      rcases first_low (lwI (vf (g0.take 30) (2 ^ lg)) (2 ^ lg) (mW (vf (g0.take 30) (2 ^ lg)) (2 ^ lg) vs) lg be ga) (2 ^ lg) with hz | ⟨j, hj, hd, hz⟩
      · exact sc_ok g0 _ rfl pub vars lg h5' _ rfl p1 p2 hm (ck_len hc) hc h vs be ga hvs hbe hga hz
      · exact sc_d g0 _ rfl pub vars lg h5' _ rfl p1 p2 hm (ck_len hc) hc h vs be ga hvs hbe hga j hj hd hz
    · exact sc_big g0 _ rfl pub vars log hc h5 vs be ga
  · exact sc_err g0 _ rfl pub vars log _ rfl hc vs be ga
end Go.Proofs.Ytoigbjimhcgolaa
