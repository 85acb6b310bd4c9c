/- Pruned: GLstx. -/
import Derived.Test.YtoigbjimhcgolaaQHb
import Derived.Test.YtoigbjimhcgolaaQGa
import Derived.Test.YtoigbjimhcgolaaQIa
import Derived.Test.YtoigbjimhcgolaaQIe
import Derived.DeepKeys4
/- sigma.Same: told as a truth. -/
set_option linter.unusedSimpArgs false
set_option linter.unusedVariables false
namespace Go.Proofs.Ytoigbjimhcgolaa
open Go.Ev Go.RowKit
end Go.Proofs.Ytoigbjimhcgolaa

/- chirographlaw19.SigmaSame says true. -/
set_option linter.unusedSimpArgs false
set_option linter.unusedVariables false
namespace Go.Proofs.Ytoigbjimhcgolaa
open Go.Ev Go.RowKit
def eAl19 : Entry := entry0 8 [(none, .v (.bool true))]
theorem eAl19_ok : eAl19.OK Try.prog := entry0_ok (fun args w => Go.Proofs.enters_of (P := Try.prog) Try.func8 (by kernel_rfl) rfl args w) (only (fn_gives (P := Try.prog) (env := [eFSmallS]) ⟨eFSmallS_ok, trivial⟩ Try.func8 2 o0 (r := .v (.bool true)) (by kernel_rfl)
    (And.intro (show flat [.e (ofR (7 : Int).toNat)] = flat [.c (.int .u64 7), .c (.int .u64 0), .c (.int .u64 0), .c (.int .u64 0)] from by kernel_rfl) (And.intro (show (0 : Int) ≤ 7 ∧ (7 : Int) < 9223372036854775808 from by decide) trivial))))
def lenOK (L : Nat → List (Int × Int)) (M : Nat → List Nat) (w : Nat) : Prop := (L w).length = (L 0).length ∧ (M w).length = (L 0).length
instance (L : Nat → List (Int × Int)) (M : Nat → List Nat) (w : Nat) : Decidable (lenOK L M w) := by unfold lenOK; infer_instance
instance (L : Nat → List (Int × Int)) (M : Nat → List Nat) : DecidablePred (lenOK L M) := fun w => inferInstance
end Go.Proofs.Ytoigbjimhcgolaa

/- Keys that are places, numbers; the numbers of places: all unlike. -/
set_option linter.unusedSimpArgs false
set_option linter.unusedVariables false
namespace Go.Proofs.Ytoigbjimhcgolaa
open Go.Ev Go.RowKit

def aggTy (P : Program) (t : TypeId) : Bool := match P.underlying t with | some (.array _ _) | some (.struct _) => true | _ => false
theorem keyOf_agg {P : Program} {k : TypeId} {ks : List K} (hu : aggTy P k = true) (hk : P.keyType k = true) (hkd : kindT P (P.types.size + 1) k = some ks) (hc : ks.length = P.cellsOf k) {l : List Value} (hf : Fit l ks) : ∃ x, keyOf P k (.agg l.toArray) = some x := by
  have hl : l.length = P.cellsOf k := by rw [hf.length, hc]
  have h2 := keyLits_fit (P.types.size + 1) k ks hkd l hf
  unfold aggTy at hu
  unfold keyOf
  split at hu
  · rename_i n e h
    have hfm : Value.formed P k (.agg l.toArray) = true := by simp [Value.formed, h, hl]
    simp only [h, hk, hfm, Bool.and_self, if_true]
    exact ⟨.string (keyBytes (l.map litV)), by simp only [Value.cells, h2, Option.map_some]⟩
  · rename_i fs h
    have hfm : Value.formed P k (.agg l.toArray) = true := by simp [Value.formed, h, hl]
    simp only [h, hk, hfm, Bool.and_self, if_true]
    exact ⟨.string (keyBytes (l.map litV)), by simp only [Value.cells, h2, Option.map_some]⟩
  · cases hu
theorem keyOK_agg {α : Type} [DecidableEq α] {P : Program} (hl : laidOutB P = true) {k : TypeId} {ks : List K} (hrow : k < P.types.size) (h4 : P.keyTypeAt 4 k = true) (hu : aggTy P k = true) (hk : P.keyType k = true) (hkd : kindT P (P.types.size + 1) k = some ks) (hc : ks.length = P.cellsOf k)
    {kf : α → Value} (hf : ∀ a, ∃ l, kf a = .agg l.toArray ∧ Fit l ks) (inj : ∀ a b, kf a = kf b → a = b) : KeyOK P k kf :=
  keyOK_keyed (Maps.Keyed.of_law (deep_law_laid hl (m := 4) (by omega) hrow h4 hu)) (fun a => by
    obtain ⟨l, e, h⟩ := hf a
    rw [e]
    exact keyOf_agg hu hk hkd hc h) inj
abbrev PlT := Fin 1000 × Fin 3
def kP (a : PlT) : Value := .agg #[.int .i64 ((a.1.val : Nat) : Int), .int .i64 ((a.2.val : Nat) : Int)]
def kE (x : Fin Rr) : Value := .agg (flat [.e x]).toArray
def vB (b : Bool) : Value := .bool b
set_option maxRecDepth 100000 in
theorem Try.laidB : laidOutB Try.prog = true := by kernel_rfl
theorem kP_ok : KeyOK Try.prog 44 kP := keyOK_agg (ks := [K.i .i64, K.i .i64]) Try.laidB (of_decide_eq_true (by kernel_rfl)) (by kernel_rfl) (by kernel_rfl) (by kernel_rfl) (by kernel_rfl) (by kernel_rfl)
  (fun a => ⟨[.int .i64 ((a.1.val : Nat) : Int), .int .i64 ((a.2.val : Nat) : Int)], rfl, ⟨rfl, wf_small (by omega)⟩, ⟨rfl, wf_small (by omega)⟩, trivial⟩)
  (fun a b h => by
    simp only [kP, Value.agg.injEq] at h
    have h' := congrArg Array.toList h
    simp only [List.cons.injEq, Value.int.injEq, true_and, and_true] at h'
    exact Prod.ext (Fin.ext (by omega)) (Fin.ext (by omega)))
theorem kE_ok : KeyOK Try.prog 41 kE := keyOK_agg (ks := [K.i .u64, K.i .u64, K.i .u64, K.i .u64]) Try.laidB (of_decide_eq_true (by kernel_rfl)) (by kernel_rfl) (by kernel_rfl) (by kernel_rfl) (by kernel_rfl) (by kernel_rfl)
  (fun x => ⟨flat [.e x], rfl, by rw [show flat [Ch.e x] = limbs 4 x.val by simp [flat, Ch.cells]]; exact fit_limbs 4 _⟩)
  (fun a b h => by
    simp only [kE, Value.agg.injEq] at h
    have h' := congrArg Array.toList h
    simp only [List.toList_toArray] at h'
    exact flat_e_inj h')
theorem putP (l : List (PlT × Bool)) (hd : DistL l) (a : PlT) : Puts Try.prog 48 (mapO kP vB l) (kP a) (vB true) (mapO kP vB (putL l a true)) :=
  puts_map (T := 48) (kt := 44) (et := 4) (by kernel_rfl) kP_ok l hd a true
theorem putE (l : List (Fin Rr × Bool)) (hd : DistL l) (a : Fin Rr) : Puts Try.prog 49 (mapO kE vB l) (kE a) (vB true) (mapO kE vB (putL l a true)) :=
  puts_map (T := 49) (kt := 41) (et := 4) (by kernel_rfl) kE_ok l hd a true
/-- Keys that came one behind another. -/
def keysL {α : Type} [DecidableEq α] (f : Nat → α) : Nat → List (α × Bool)
  | 0 => []
  | Q + 1 => putL (keysL f Q) (f Q) true
theorem keysL_dist {α : Type} [DecidableEq α] (f : Nat → α) : ∀ Q, DistL (keysL f Q)
  | 0 => by simp [keysL, DistL]
  | Q + 1 => putL_dist _ _ _ (keysL_dist f Q)
theorem keysL_mem {α : Type} [DecidableEq α] (f : Nat → α) : ∀ Q a, a ∈ (keysL f Q).map (·.1) ↔ ∃ j, j < Q ∧ f j = a
  | 0, a => by simp [keysL]
  | Q + 1, a => by
    simp only [keysL]
    rw [putL_keys, keysL_mem f Q a]
    constructor
    · rintro (h | ⟨j, h1, h2⟩)
      · exact ⟨Q, by omega, h.symm⟩
      · exact ⟨j, by omega, h2⟩
    · rintro ⟨j, h1, h2⟩
      rcases Nat.lt_or_ge j Q with h | h
      · exact .inr ⟨j, h, h2⟩
      · have : j = Q := by omega
        subst this; exact .inl h2.symm
theorem keysL_len {α : Type} [DecidableEq α] (f : Nat → α) : ∀ Q, (∀ i j, i < j → j < Q → f i ≠ f j) → (keysL f Q).length = Q
  | 0, _ => rfl
  | Q + 1, h => by
    simp only [keysL]
    rw [putL_none (fun hm => by
      obtain ⟨j, h1, h2⟩ := (keysL_mem f Q (f Q)).1 hm
      exact h j Q h1 (Nat.lt_succ_self Q) h2)]
    simp [keysL_len f Q (fun i j h1 h2 => h i j h1 (by omega))]
/-- All numbers of a log's places are unlike. -/
def distB (l : List (Fin Rr)) : Bool := match l with
  | [] => true
  | x :: l => !(l.contains x) && distB l
theorem distB_spec : ∀ {l : List (Fin Rr)}, distB l = true → l.Nodup
  | [], _ => List.nodup_nil
  | x :: l, h => by
    simp only [distB, Bool.and_eq_true, Bool.not_eq_true'] at h
    refine List.nodup_cons.2 ⟨fun hm => ?_, distB_spec h.2⟩
    have := List.contains_iff_mem.2 hm
    rw [this] at h; cases h.1
def allN (lg n : Nat) : List (Fin Rr) := (List.range (3 * n)).map (fun q => numP lg (pl n q))
theorem all_dist : ∀ x : Fin 6, distB (allN x.val (2 ^ x.val)) = true := by decide +kernel
theorem num_inj {lg : Nat} (hl : lg ≤ 5) {n : Nat} (hn : n = 2 ^ lg) {p q : Nat} (hp : p < 3 * n) (hq : q < 3 * n) (e : numP lg (pl n p) = numP lg (pl n q)) : p = q := by
  have h := distB_spec (all_dist ⟨lg, by omega⟩)
  simp only [← hn] at h
  have h1 : (allN lg n)[p]? = some (numP lg (pl n p)) := by unfold allN; simp [hp]
  have h2 : (allN lg n)[q]? = some (numP lg (pl n q)) := by unfold allN; simp [hq]
  rw [e] at h1
  have hlp : p < (allN lg n).length := by unfold allN; simp; exact hp
  exact (List.getElem?_inj hlp h).1 (by rw [h1, h2])
end Go.Proofs.Ytoigbjimhcgolaa

/- chirographlaw19.SigmaNext: what comes behind is as the document says; as a truth. -/
set_option linter.unusedSimpArgs false
set_option linter.unusedVariables false
namespace Go.Proofs.Ytoigbjimhcgolaa
open Go.Ev Go.RowKit
theorem len30 {g0 gs : List GT} (h : gs = g0.take 30) : gs.length ≤ 30 := by subst h; rw [List.length_take]; omega
theorem ne_selfI (n : Nat) : (((n : Nat) : Int) != ((n : Nat) : Int)) = false := by simp
/-- What a circuit that may be has: so many gates. -/
theorem ck_len {gs : List GT} {pub vars : Int} {lg : Nat} (h : ckE gs pub vars ((lg : Nat) : Int) = 0) : gs.length ≤ 2 ^ lg := by
  unfold ckE at h
  split at h
  · split at h
    · rename_i h2; have := h2.2.2; rwa [Int.toNat_natCast] at this
    · cases h
  · cases h
theorem ck_pos {gs : List GT} {pub vars log : Int} (h : ckE gs pub vars log = 0) : 0 ≤ log := by
  unfold ckE at h
  split at h
  · split at h
    · rename_i h2; exact h2.1
    · cases h
  · cases h
theorem pow5 {lg : Nat} (h : lg ≤ 5) : 2 ^ lg ≤ 1000 ∧ 0 < 2 ^ lg := by
  have : ∀ x : Fin 6, 2 ^ x.val ≤ 1000 ∧ 0 < 2 ^ x.val := by decide
  exact this ⟨lg, by omega⟩
end Go.Proofs.Ytoigbjimhcgolaa

/- chirographlaw19.SigmaTurns: what comes behind is a permutation, unlike places have unlike numbers; as a truth. -/
set_option linter.unusedSimpArgs false
set_option linter.unusedVariables false
namespace Go.Proofs.Ytoigbjimhcgolaa
open Go.Ev Go.RowKit
def stI0 (gs : List GT) (lg n : Nat) (l1 : List (PlT × Bool)) (l2 : List (Fin Rr × Bool)) (z : Int) : LState := { n := 126, sl := [(1, .v (.int .i64 (((lg : Nat) : Int)))), (6, .p 51 0), (7, .v (.int .i64 0)), (8, .p 60 0), (9, .v (.int .i64 0)), (10, .mp 63), (11, .mp 65), (12, .v (.int .i64 (0))), (44, .v (.int .i64 (0))), (65, .sx 45 n), (66, .v (.int .i64 (((n : Nat) : Int)))), (67, .v (.int .i64 (z)))], hp := [(51, .own [.sx 45 n, .sx 46 n, .sx 47 n] 29), (45, .gr [.l (rowQ (vf gs n) n (3 * n) 0)] 44 2), (46, .gr [.l (rowQ (vf gs n) n (3 * n) 1)] 44 2), (47, .gr [.l (rowQ (vf gs n) n (3 * n) 2)] 44 2), (60, .own [.sx 54 n, .sx 55 n, .sx 56 n] 34), (54, .gr [.l (tab eC n (valP (vf gs n) lg n 0))] 41 4), (55, .gr [.l (tab eC n (valP (vf gs n) lg n 1))] 41 4), (56, .gr [.l (tab eC n (valP (vf gs n) lg n 2))] 41 4), (63, .ob (mapO kP vB l1)), (65, .ob (mapO kE vB l2))] }
def stE0 (gs : List GT) (lg n : Nat) (l1 : List (PlT × Bool)) (l2 : List (Fin Rr × Bool)) : LState := { n := 126, sl := [(1, .v (.int .i64 (((lg : Nat) : Int)))), (6, .p 51 0), (7, .v (.int .i64 0)), (8, .p 60 0), (9, .v (.int .i64 0)), (10, .mp 63), (11, .mp 65), (44, .v (.int .i64 (0)))], hp := [(51, .own [.sx 45 n, .sx 46 n, .sx 47 n] 29), (45, .gr [.l (rowQ (vf gs n) n (3 * n) 0)] 44 2), (46, .gr [.l (rowQ (vf gs n) n (3 * n) 1)] 44 2), (47, .gr [.l (rowQ (vf gs n) n (3 * n) 2)] 44 2), (60, .own [.sx 54 n, .sx 55 n, .sx 56 n] 34), (54, .gr [.l (tab eC n (valP (vf gs n) lg n 0))] 41 4), (55, .gr [.l (tab eC n (valP (vf gs n) lg n 1))] 41 4), (56, .gr [.l (tab eC n (valP (vf gs n) lg n 2))] 41 4), (63, .ob (mapO kP vB l1)), (65, .ob (mapO kE vB l2))] }
def stI1 (gs : List GT) (lg n : Nat) (l1 : List (PlT × Bool)) (l2 : List (Fin Rr × Bool)) (z : Int) : LState := { n := 126, sl := [(1, .v (.int .i64 (((lg : Nat) : Int)))), (6, .p 51 0), (7, .v (.int .i64 0)), (8, .p 60 0), (9, .v (.int .i64 0)), (10, .mp 63), (11, .mp 65), (12, .v (.int .i64 (1))), (44, .v (.int .i64 (1))), (65, .sx 46 n), (66, .v (.int .i64 (((n : Nat) : Int)))), (67, .v (.int .i64 (z)))], hp := [(51, .own [.sx 45 n, .sx 46 n, .sx 47 n] 29), (45, .gr [.l (rowQ (vf gs n) n (3 * n) 0)] 44 2), (46, .gr [.l (rowQ (vf gs n) n (3 * n) 1)] 44 2), (47, .gr [.l (rowQ (vf gs n) n (3 * n) 2)] 44 2), (60, .own [.sx 54 n, .sx 55 n, .sx 56 n] 34), (54, .gr [.l (tab eC n (valP (vf gs n) lg n 0))] 41 4), (55, .gr [.l (tab eC n (valP (vf gs n) lg n 1))] 41 4), (56, .gr [.l (tab eC n (valP (vf gs n) lg n 2))] 41 4), (63, .ob (mapO kP vB l1)), (65, .ob (mapO kE vB l2))] }
def stE1 (gs : List GT) (lg n : Nat) (l1 : List (PlT × Bool)) (l2 : List (Fin Rr × Bool)) : LState := { n := 126, sl := [(1, .v (.int .i64 (((lg : Nat) : Int)))), (6, .p 51 0), (7, .v (.int .i64 0)), (8, .p 60 0), (9, .v (.int .i64 0)), (10, .mp 63), (11, .mp 65), (44, .v (.int .i64 (1)))], hp := [(51, .own [.sx 45 n, .sx 46 n, .sx 47 n] 29), (45, .gr [.l (rowQ (vf gs n) n (3 * n) 0)] 44 2), (46, .gr [.l (rowQ (vf gs n) n (3 * n) 1)] 44 2), (47, .gr [.l (rowQ (vf gs n) n (3 * n) 2)] 44 2), (60, .own [.sx 54 n, .sx 55 n, .sx 56 n] 34), (54, .gr [.l (tab eC n (valP (vf gs n) lg n 0))] 41 4), (55, .gr [.l (tab eC n (valP (vf gs n) lg n 1))] 41 4), (56, .gr [.l (tab eC n (valP (vf gs n) lg n 2))] 41 4), (63, .ob (mapO kP vB l1)), (65, .ob (mapO kE vB l2))] }
def stI2 (gs : List GT) (lg n : Nat) (l1 : List (PlT × Bool)) (l2 : List (Fin Rr × Bool)) (z : Int) : LState := { n := 126, sl := [(1, .v (.int .i64 (((lg : Nat) : Int)))), (6, .p 51 0), (7, .v (.int .i64 0)), (8, .p 60 0), (9, .v (.int .i64 0)), (10, .mp 63), (11, .mp 65), (12, .v (.int .i64 (2))), (44, .v (.int .i64 (2))), (65, .sx 47 n), (66, .v (.int .i64 (((n : Nat) : Int)))), (67, .v (.int .i64 (z)))], hp := [(51, .own [.sx 45 n, .sx 46 n, .sx 47 n] 29), (45, .gr [.l (rowQ (vf gs n) n (3 * n) 0)] 44 2), (46, .gr [.l (rowQ (vf gs n) n (3 * n) 1)] 44 2), (47, .gr [.l (rowQ (vf gs n) n (3 * n) 2)] 44 2), (60, .own [.sx 54 n, .sx 55 n, .sx 56 n] 34), (54, .gr [.l (tab eC n (valP (vf gs n) lg n 0))] 41 4), (55, .gr [.l (tab eC n (valP (vf gs n) lg n 1))] 41 4), (56, .gr [.l (tab eC n (valP (vf gs n) lg n 2))] 41 4), (63, .ob (mapO kP vB l1)), (65, .ob (mapO kE vB l2))] }
def stE2 (gs : List GT) (lg n : Nat) (l1 : List (PlT × Bool)) (l2 : List (Fin Rr × Bool)) : LState := { n := 126, sl := [(1, .v (.int .i64 (((lg : Nat) : Int)))), (6, .p 51 0), (7, .v (.int .i64 0)), (8, .p 60 0), (9, .v (.int .i64 0)), (10, .mp 63), (11, .mp 65), (44, .v (.int .i64 (2)))], hp := [(51, .own [.sx 45 n, .sx 46 n, .sx 47 n] 29), (45, .gr [.l (rowQ (vf gs n) n (3 * n) 0)] 44 2), (46, .gr [.l (rowQ (vf gs n) n (3 * n) 1)] 44 2), (47, .gr [.l (rowQ (vf gs n) n (3 * n) 2)] 44 2), (60, .own [.sx 54 n, .sx 55 n, .sx 56 n] 34), (54, .gr [.l (tab eC n (valP (vf gs n) lg n 0))] 41 4), (55, .gr [.l (tab eC n (valP (vf gs n) lg n 1))] 41 4), (56, .gr [.l (tab eC n (valP (vf gs n) lg n 2))] 41 4), (63, .ob (mapO kP vB l1)), (65, .ob (mapO kE vB l2))] }
theorem sh_num3 (lg : Nat) (h : lg ≤ 16) : IntKind.i64.wrap (3 * 2 ^ min lg IntKind.i64.bits) = ((3 * 2 ^ lg : Nat) : Int) := by
  have : ∀ x : Fin 17, IntKind.i64.wrap (3 * 2 ^ min x.val IntKind.i64.bits) = ((3 * 2 ^ x.val : Nat) : Int) := by decide +kernel
  exact this ⟨lg, by omega⟩
theorem st_r0 (gs : List GT) (lg : Nat) (hl : lg ≤ 5) (n : Nat) (hn : n = 2 ^ lg) (h32 : n ≤ 1000) (l1 : List (PlT × Bool)) (l2 : List (Fin Rr × Bool)) (d1 : DistL l1) (d2 : DistL l2) (i : Nat) (hi : i < n) (ro q : Nat) (hro : ro < n) (h1 : ro < 1000) (h2 : q < 3) (x : Fin Rr) (hp : ((rowQ (vf gs n) n (3 * n) 0).drop (i * 2)).take 2 = flat [.c (.int .i64 ((ro : Nat) : Int)), .c (.int .i64 ((q : Nat) : Int))]) (hv : ((tab eC n (valP (vf gs n) lg n 0)).drop (i * 4)).take 4 = flat [.e x]) : Sound Try.prog 0 false (loopB Try.f4 1) (stI0 gs lg n l1 l2 ((i : Nat) : Int)).aa .normal (stI0 gs lg n (putL l1 (⟨ro, h1⟩, ⟨q, h2⟩) true) (putL l2 x true) ((i + 1 : Nat) : Int)).aa := by
  have hh := roundK_sound (P := Try.prog) (X := rulesM _) (env := []) trivial (n := 0) (os := (oL [(200, wT), (202, rO 9 i), (203, { ch := 0, hi := fun _ => 0, ru := 8, cs := fun _ => [.c (.int .i64 ((ro : Nat) : Int)), .c (.int .i64 ((q : Nat) : Int))] }), (209, { ch := 0, hi := fun _ => 0, ex := 10, lp := some { I := { n := 0, sl := [], hp := [] }, ex := .ret, E := { n := 0, sl := [], hp := [(0, .ob (mapO kP vB (putL l1 (⟨ro, h1⟩, ⟨q, h2⟩) true)))] }, fr := 0 } }), (215, rO 9 i), (216, { ch := 0, hi := fun _ => 0, ru := 8, cs := fun _ => [.e x] }), (217, { ch := 0, hi := fun _ => 0, ex := 10, lp := some { I := { n := 0, sl := [], hp := [] }, ex := .ret, E := { n := 0, sl := [], hp := [(0, .ob (mapO kE vB (putL l2 x true)))] }, fr := 0 } }), (220, wF), (225, shO lg n), (226, wF), (231, wF), (236, wF)])) (fb := 0) (rd := false) (c := (loopB Try.f4 1)) (k := 200) (I := stI0 gs lg n l1 l2 ((i : Nat) : Int)) (sk := [1, 6, 7, 8, 9, 10, 11, 12, 44, 65, 66, 67]) (hk := [51, 45, 46, 47, 60, 54, 55, 56, 63, 65]) (lk := []) (ex := .normal)
    (L := stI0 gs lg n (putL l1 (⟨ro, h1⟩, ⟨q, h2⟩) true) (putL l2 x true) (IntKind.i64.wrap (((i : Nat) : Int) + 1))) (by kernel_rfl)
    (And.intro (show decide (((q : Nat) : Int) > 2) = false from decide_eq_false (by omega))
    (And.intro (show decide (((q : Nat) : Int) < 0) = false from decide_eq_false (by omega))
    (And.intro (show decide (((ro : Nat) : Int) ≥ ((n : Nat) : Int)) = false from decide_eq_false (by omega))
    (And.intro (show ((lg : Nat) : Int) = ((lg : Nat) : Int) ∧ IntKind.i64.wrap (1 * 2 ^ min lg IntKind.i64.bits) = ((n : Nat) : Int) from ⟨rfl, by rw [hn]; exact sh_num lg (by omega)⟩)
    (And.intro (show decide (((ro : Nat) : Int) < 0) = false from decide_eq_false (by omega))
    (And.intro (putE l2 d2 x)
    (And.intro (ldO (p := [.e x]) hv rfl)
    (And.intro (show ((i : Nat) : Int) = ((i : Nat) : Int) ∧ i < n from ⟨rfl, hi⟩)
    (And.intro (putP l1 d1 (⟨ro, h1⟩, ⟨q, h2⟩))
    (And.intro (ldO (p := [.c (.int .i64 ((ro : Nat) : Int)), .c (.int .i64 ((q : Nat) : Int))]) hp rfl)
    (And.intro (show ((i : Nat) : Int) = ((i : Nat) : Int) ∧ i < n from ⟨rfl, hi⟩)
    (And.intro (show decide (((i : Nat) : Int) < ((n : Nat) : Int)) = true from decide_eq_true (by omega)) trivial))))))))))))
  rw [r_next (by omega)] at hh
  exact hh
theorem st_e0 (gs : List GT) (lg n : Nat) (l1 : List (PlT × Bool)) (l2 : List (Fin Rr × Bool))  : Sound Try.prog 0 false (loopB Try.f4 1) (stI0 gs lg n l1 l2 ((n : Nat) : Int)).aa (.exit 2) (stE0 gs lg n l1 l2).aa := by
  have hh := roundK_sound (P := Try.prog) (X := rulesM _) (env := []) trivial (n := 0) (os := (oL [(200, wF)])) (fb := 0) (rd := false) (c := (loopB Try.f4 1)) (k := 200) (I := stI0 gs lg n l1 l2 ((n : Nat) : Int)) (sk := [1, 6, 7, 8, 9, 10, 11, 44]) (hk := [51, 45, 46, 47, 60, 54, 55, 56, 63, 65]) (lk := []) (ex := (.exit 2))
    (L := stE0 gs lg n l1 l2) (by kernel_rfl)
    (And.intro (show decide (((n : Nat) : Int) < ((n : Nat) : Int)) = false from decide_eq_false (by omega)) trivial)
  exact hh
theorem st_r1 (gs : List GT) (lg : Nat) (hl : lg ≤ 5) (n : Nat) (hn : n = 2 ^ lg) (h32 : n ≤ 1000) (l1 : List (PlT × Bool)) (l2 : List (Fin Rr × Bool)) (d1 : DistL l1) (d2 : DistL l2) (i : Nat) (hi : i < n) (ro q : Nat) (hro : ro < n) (h1 : ro < 1000) (h2 : q < 3) (x : Fin Rr) (hp : ((rowQ (vf gs n) n (3 * n) 1).drop (i * 2)).take 2 = flat [.c (.int .i64 ((ro : Nat) : Int)), .c (.int .i64 ((q : Nat) : Int))]) (hv : ((tab eC n (valP (vf gs n) lg n 1)).drop (i * 4)).take 4 = flat [.e x]) : Sound Try.prog 0 false (loopB Try.f4 1) (stI1 gs lg n l1 l2 ((i : Nat) : Int)).aa .normal (stI1 gs lg n (putL l1 (⟨ro, h1⟩, ⟨q, h2⟩) true) (putL l2 x true) ((i + 1 : Nat) : Int)).aa := by
  have hh := roundK_sound (P := Try.prog) (X := rulesM _) (env := []) trivial (n := 0) (os := (oL [(200, wT), (202, rO 9 i), (203, { ch := 0, hi := fun _ => 0, ru := 8, cs := fun _ => [.c (.int .i64 ((ro : Nat) : Int)), .c (.int .i64 ((q : Nat) : Int))] }), (209, { ch := 0, hi := fun _ => 0, ex := 10, lp := some { I := { n := 0, sl := [], hp := [] }, ex := .ret, E := { n := 0, sl := [], hp := [(0, .ob (mapO kP vB (putL l1 (⟨ro, h1⟩, ⟨q, h2⟩) true)))] }, fr := 0 } }), (215, rO 9 i), (216, { ch := 0, hi := fun _ => 0, ru := 8, cs := fun _ => [.e x] }), (217, { ch := 0, hi := fun _ => 0, ex := 10, lp := some { I := { n := 0, sl := [], hp := [] }, ex := .ret, E := { n := 0, sl := [], hp := [(0, .ob (mapO kE vB (putL l2 x true)))] }, fr := 0 } }), (220, wF), (225, shO lg n), (226, wF), (231, wF), (236, wF)])) (fb := 0) (rd := false) (c := (loopB Try.f4 1)) (k := 200) (I := stI1 gs lg n l1 l2 ((i : Nat) : Int)) (sk := [1, 6, 7, 8, 9, 10, 11, 12, 44, 65, 66, 67]) (hk := [51, 45, 46, 47, 60, 54, 55, 56, 63, 65]) (lk := []) (ex := .normal)
    (L := stI1 gs lg n (putL l1 (⟨ro, h1⟩, ⟨q, h2⟩) true) (putL l2 x true) (IntKind.i64.wrap (((i : Nat) : Int) + 1))) (by kernel_rfl)
    (And.intro (show decide (((q : Nat) : Int) > 2) = false from decide_eq_false (by omega))
    (And.intro (show decide (((q : Nat) : Int) < 0) = false from decide_eq_false (by omega))
    (And.intro (show decide (((ro : Nat) : Int) ≥ ((n : Nat) : Int)) = false from decide_eq_false (by omega))
    (And.intro (show ((lg : Nat) : Int) = ((lg : Nat) : Int) ∧ IntKind.i64.wrap (1 * 2 ^ min lg IntKind.i64.bits) = ((n : Nat) : Int) from ⟨rfl, by rw [hn]; exact sh_num lg (by omega)⟩)
    (And.intro (show decide (((ro : Nat) : Int) < 0) = false from decide_eq_false (by omega))
    (And.intro (putE l2 d2 x)
    (And.intro (ldO (p := [.e x]) hv rfl)
    (And.intro (show ((i : Nat) : Int) = ((i : Nat) : Int) ∧ i < n from ⟨rfl, hi⟩)
    (And.intro (putP l1 d1 (⟨ro, h1⟩, ⟨q, h2⟩))
    (And.intro (ldO (p := [.c (.int .i64 ((ro : Nat) : Int)), .c (.int .i64 ((q : Nat) : Int))]) hp rfl)
    (And.intro (show ((i : Nat) : Int) = ((i : Nat) : Int) ∧ i < n from ⟨rfl, hi⟩)
    (And.intro (show decide (((i : Nat) : Int) < ((n : Nat) : Int)) = true from decide_eq_true (by omega)) trivial))))))))))))
  rw [r_next (by omega)] at hh
  exact hh
theorem st_e1 (gs : List GT) (lg n : Nat) (l1 : List (PlT × Bool)) (l2 : List (Fin Rr × Bool))  : Sound Try.prog 0 false (loopB Try.f4 1) (stI1 gs lg n l1 l2 ((n : Nat) : Int)).aa (.exit 2) (stE1 gs lg n l1 l2).aa := by
  have hh := roundK_sound (P := Try.prog) (X := rulesM _) (env := []) trivial (n := 0) (os := (oL [(200, wF)])) (fb := 0) (rd := false) (c := (loopB Try.f4 1)) (k := 200) (I := stI1 gs lg n l1 l2 ((n : Nat) : Int)) (sk := [1, 6, 7, 8, 9, 10, 11, 44]) (hk := [51, 45, 46, 47, 60, 54, 55, 56, 63, 65]) (lk := []) (ex := (.exit 2))
    (L := stE1 gs lg n l1 l2) (by kernel_rfl)
    (And.intro (show decide (((n : Nat) : Int) < ((n : Nat) : Int)) = false from decide_eq_false (by omega)) trivial)
  exact hh
theorem st_r2 (gs : List GT) (lg : Nat) (hl : lg ≤ 5) (n : Nat) (hn : n = 2 ^ lg) (h32 : n ≤ 1000) (l1 : List (PlT × Bool)) (l2 : List (Fin Rr × Bool)) (d1 : DistL l1) (d2 : DistL l2) (i : Nat) (hi : i < n) (ro q : Nat) (hro : ro < n) (h1 : ro < 1000) (h2 : q < 3) (x : Fin Rr) (hp : ((rowQ (vf gs n) n (3 * n) 2).drop (i * 2)).take 2 = flat [.c (.int .i64 ((ro : Nat) : Int)), .c (.int .i64 ((q : Nat) : Int))]) (hv : ((tab eC n (valP (vf gs n) lg n 2)).drop (i * 4)).take 4 = flat [.e x]) : Sound Try.prog 0 false (loopB Try.f4 1) (stI2 gs lg n l1 l2 ((i : Nat) : Int)).aa .normal (stI2 gs lg n (putL l1 (⟨ro, h1⟩, ⟨q, h2⟩) true) (putL l2 x true) ((i + 1 : Nat) : Int)).aa := by
  have hh := roundK_sound (P := Try.prog) (X := rulesM _) (env := []) trivial (n := 0) (os := (oL [(200, wT), (202, rO 9 i), (203, { ch := 0, hi := fun _ => 0, ru := 8, cs := fun _ => [.c (.int .i64 ((ro : Nat) : Int)), .c (.int .i64 ((q : Nat) : Int))] }), (209, { ch := 0, hi := fun _ => 0, ex := 10, lp := some { I := { n := 0, sl := [], hp := [] }, ex := .ret, E := { n := 0, sl := [], hp := [(0, .ob (mapO kP vB (putL l1 (⟨ro, h1⟩, ⟨q, h2⟩) true)))] }, fr := 0 } }), (215, rO 9 i), (216, { ch := 0, hi := fun _ => 0, ru := 8, cs := fun _ => [.e x] }), (217, { ch := 0, hi := fun _ => 0, ex := 10, lp := some { I := { n := 0, sl := [], hp := [] }, ex := .ret, E := { n := 0, sl := [], hp := [(0, .ob (mapO kE vB (putL l2 x true)))] }, fr := 0 } }), (220, wF), (225, shO lg n), (226, wF), (231, wF), (236, wF)])) (fb := 0) (rd := false) (c := (loopB Try.f4 1)) (k := 200) (I := stI2 gs lg n l1 l2 ((i : Nat) : Int)) (sk := [1, 6, 7, 8, 9, 10, 11, 12, 44, 65, 66, 67]) (hk := [51, 45, 46, 47, 60, 54, 55, 56, 63, 65]) (lk := []) (ex := .normal)
    (L := stI2 gs lg n (putL l1 (⟨ro, h1⟩, ⟨q, h2⟩) true) (putL l2 x true) (IntKind.i64.wrap (((i : Nat) : Int) + 1))) (by kernel_rfl)
    (And.intro (show decide (((q : Nat) : Int) > 2) = false from decide_eq_false (by omega))
    (And.intro (show decide (((q : Nat) : Int) < 0) = false from decide_eq_false (by omega))
    (And.intro (show decide (((ro : Nat) : Int) ≥ ((n : Nat) : Int)) = false from decide_eq_false (by omega))
    (And.intro (show ((lg : Nat) : Int) = ((lg : Nat) : Int) ∧ IntKind.i64.wrap (1 * 2 ^ min lg IntKind.i64.bits) = ((n : Nat) : Int) from ⟨rfl, by rw [hn]; exact sh_num lg (by omega)⟩)
    (And.intro (show decide (((ro : Nat) : Int) < 0) = false from decide_eq_false (by omega))
    (And.intro (putE l2 d2 x)
    (And.intro (ldO (p := [.e x]) hv rfl)
    (And.intro (show ((i : Nat) : Int) = ((i : Nat) : Int) ∧ i < n from ⟨rfl, hi⟩)
    (And.intro (putP l1 d1 (⟨ro, h1⟩, ⟨q, h2⟩))
    (And.intro (ldO (p := [.c (.int .i64 ((ro : Nat) : Int)), .c (.int .i64 ((q : Nat) : Int))]) hp rfl)
    (And.intro (show ((i : Nat) : Int) = ((i : Nat) : Int) ∧ i < n from ⟨rfl, hi⟩)
    (And.intro (show decide (((i : Nat) : Int) < ((n : Nat) : Int)) = true from decide_eq_true (by omega)) trivial))))))))))))
  rw [r_next (by omega)] at hh
  exact hh
theorem st_e2 (gs : List GT) (lg n : Nat) (l1 : List (PlT × Bool)) (l2 : List (Fin Rr × Bool))  : Sound Try.prog 0 false (loopB Try.f4 1) (stI2 gs lg n l1 l2 ((n : Nat) : Int)).aa (.exit 2) (stE2 gs lg n l1 l2).aa := by
  have hh := roundK_sound (P := Try.prog) (X := rulesM _) (env := []) trivial (n := 0) (os := (oL [(200, wF)])) (fb := 0) (rd := false) (c := (loopB Try.f4 1)) (k := 200) (I := stI2 gs lg n l1 l2 ((n : Nat) : Int)) (sk := [1, 6, 7, 8, 9, 10, 11, 44]) (hk := [51, 45, 46, 47, 60, 54, 55, 56, 63, 65]) (lk := []) (ex := (.exit 2))
    (L := stE2 gs lg n l1 l2) (by kernel_rfl)
    (And.intro (show decide (((n : Nat) : Int) < ((n : Nat) : Int)) = false from decide_eq_false (by omega)) trivial)
  exact hh
/-- The place, the number behind place q. -/
def kp (F : Nat → Int) (n q : Nat) : PlT := (Fin.ofNat 1000 (valI F (3 * n) q % n), Fin.ofNat 3 (valI F (3 * n) q / n))
def ke (F : Nat → Int) (lg n q : Nat) : Fin Rr := numP lg (pl n (valI F (3 * n) q))
theorem kp_eq {F : Nat → Int} {n q : Nat} (h1 : valI F (3 * n) q % n < 1000) (h2 : valI F (3 * n) q / n < 3) : kp F n q = (⟨valI F (3 * n) q % n, h1⟩, ⟨valI F (3 * n) q / n, h2⟩) := by
  unfold kp
  exact Prod.ext (Fin.ext (Nat.mod_eq_of_lt h1)) (Fin.ext (Nat.mod_eq_of_lt h2))
theorem kp_inj {F : Nat → Int} {n p q : Nat} (h : n ≤ 1000) (hp : p < 3 * n) (hq : q < 3 * n) (e : kp F n p = kp F n q) : p = q := by
  have a := valI_lt (f := F) hp
  have b := valI_lt (f := F) hq
  obtain ⟨a1, a2⟩ := pl_lt3 a
  obtain ⟨b1, b2⟩ := pl_lt3 b
  rw [kp_eq (by omega) a1, kp_eq (by omega) b1] at e
  simp only [Prod.mk.injEq, Fin.mk.injEq] at e
  refine valI_inj (f := F) hp hq ?_
  rw [← pl_eq (x := valI F (3 * n) p) (n := n), ← pl_eq (x := valI F (3 * n) q) (n := n), e.1, e.2]
theorem ke_inj {F : Nat → Int} {lg : Nat} (hl : lg ≤ 5) {n p q : Nat} (hn : n = 2 ^ lg) (hp : p < 3 * n) (hq : q < 3 * n) (e : ke F lg n p = ke F lg n q) : p = q :=
  valI_inj hp hq (num_inj hl hn (valI_lt hp) (valI_lt hq) e)
theorem st_a0 (gs : List GT) (lg : Nat) (hl : lg ≤ 5) (n : Nat) (hn : n = 2 ^ lg) (h32 : n ≤ 1000) : Sound Try.prog 0 false (.loop (loopB Try.f4 1)) (stI0 gs lg n (keysL (kp (vf gs n) n) (0 * n + 0)) (keysL (ke (vf gs n) lg n) (0 * n + 0)) 0).aa (.exit 2) (stE0 gs lg n (keysL (kp (vf gs n) n) (0 * n + n)) (keysL (ke (vf gs n) lg n) (0 * n + n))).aa := by
  refine loop_ok (m := fun y : { i : Nat // i ≤ n } => n - y.val) (fun y => stI0 gs lg n (keysL (kp (vf gs n) n) (0 * n + y.val)) (keysL (ke (vf gs n) lg n) (0 * n + y.val)) (y.val : Int)) (by simp) (fun y => ?_) ⟨0, by omega⟩
  obtain ⟨i, hi⟩ := y
  by_cases e : i < n
  · refine .inl ⟨⟨i + 1, e⟩, by show n - (i + 1) < n - i; omega, ?_⟩
    have hq := valI_lt (f := vf gs n) (N := 3 * n) (q := 0 * n + i) (by omega)
    obtain ⟨h1, h2⟩ := pl_lt3 hq
    have hh := st_r0 gs lg hl n hn h32 _ _ (keysL_dist (kp (vf gs n) n) (0 * n + i)) (keysL_dist (ke (vf gs n) lg n) (0 * n + i)) i e _ _ h2 (by omega) h1 _ (tabG_at plV plV_len n _ i e) (tab_at eC eC_len n _ i e)
    rw [← kp_eq] at hh
    exact hh
  · have e : i = n := by omega
    subst e
    exact .inr (st_e0 gs lg i _ _)
theorem st_a1 (gs : List GT) (lg : Nat) (hl : lg ≤ 5) (n : Nat) (hn : n = 2 ^ lg) (h32 : n ≤ 1000) : Sound Try.prog 0 false (.loop (loopB Try.f4 1)) (stI1 gs lg n (keysL (kp (vf gs n) n) (1 * n + 0)) (keysL (ke (vf gs n) lg n) (1 * n + 0)) 0).aa (.exit 2) (stE1 gs lg n (keysL (kp (vf gs n) n) (1 * n + n)) (keysL (ke (vf gs n) lg n) (1 * n + n))).aa := by
  refine loop_ok (m := fun y : { i : Nat // i ≤ n } => n - y.val) (fun y => stI1 gs lg n (keysL (kp (vf gs n) n) (1 * n + y.val)) (keysL (ke (vf gs n) lg n) (1 * n + y.val)) (y.val : Int)) (by simp) (fun y => ?_) ⟨0, by omega⟩
  obtain ⟨i, hi⟩ := y
  by_cases e : i < n
  · refine .inl ⟨⟨i + 1, e⟩, by show n - (i + 1) < n - i; omega, ?_⟩
    have hq := valI_lt (f := vf gs n) (N := 3 * n) (q := 1 * n + i) (by omega)
    obtain ⟨h1, h2⟩ := pl_lt3 hq
    have hh := st_r1 gs lg hl n hn h32 _ _ (keysL_dist (kp (vf gs n) n) (1 * n + i)) (keysL_dist (ke (vf gs n) lg n) (1 * n + i)) i e _ _ h2 (by omega) h1 _ (tabG_at plV plV_len n _ i e) (tab_at eC eC_len n _ i e)
    rw [← kp_eq] at hh
    exact hh
  · have e : i = n := by omega
    subst e
    exact .inr (st_e1 gs lg i _ _)
theorem st_a2 (gs : List GT) (lg : Nat) (hl : lg ≤ 5) (n : Nat) (hn : n = 2 ^ lg) (h32 : n ≤ 1000) : Sound Try.prog 0 false (.loop (loopB Try.f4 1)) (stI2 gs lg n (keysL (kp (vf gs n) n) (2 * n + 0)) (keysL (ke (vf gs n) lg n) (2 * n + 0)) 0).aa (.exit 2) (stE2 gs lg n (keysL (kp (vf gs n) n) (2 * n + n)) (keysL (ke (vf gs n) lg n) (2 * n + n))).aa := by
  refine loop_ok (m := fun y : { i : Nat // i ≤ n } => n - y.val) (fun y => stI2 gs lg n (keysL (kp (vf gs n) n) (2 * n + y.val)) (keysL (ke (vf gs n) lg n) (2 * n + y.val)) (y.val : Int)) (by simp) (fun y => ?_) ⟨0, by omega⟩
  obtain ⟨i, hi⟩ := y
  by_cases e : i < n
  · refine .inl ⟨⟨i + 1, e⟩, by show n - (i + 1) < n - i; omega, ?_⟩
    have hq := valI_lt (f := vf gs n) (N := 3 * n) (q := 2 * n + i) (by omega)
    obtain ⟨h1, h2⟩ := pl_lt3 hq
    have hh := st_r2 gs lg hl n hn h32 _ _ (keysL_dist (kp (vf gs n) n) (2 * n + i)) (keysL_dist (ke (vf gs n) lg n) (2 * n + i)) i e _ _ h2 (by omega) h1 _ (tabG_at plV plV_len n _ i e) (tab_at eC eC_len n _ i e)
    rw [← kp_eq] at hh
    exact hh
  · have e : i = n := by omega
    subst e
    exact .inr (st_e2 gs lg i _ _)
theorem st_big (g0 gs : List GT) (h30 : gs = g0.take 30) (pub vars : Int) (log : Int) (hc : ckE gs pub vars log = 0) (h5 : ¬ log ≤ 5) : Gives Try.prog 4 [.ags [.z [.l (gsC g0)] g0.length, .c (.c (.int .i64 pub)), .c (.c (.int .i64 vars))], .t (.v (.int .i64 log))] (.v (.bool true)) :=
  fn_gives_at (P := Try.prog) (X := rulesM _) (env := [eAs 11 [([.ags [.z [.l (gsC gs)] gs.length, .c (.c (.int .i64 pub)), .c (.c (.int .i64 vars))], .t (.v (.int .i64 log))], .v (.int .i64 0))], eAl19]) ⟨eAs_one (by have h := rk_e gs pub vars (by have := len30 h30; omega) log; rw [hc] at h; exact h), eAl19_ok, trivial⟩ Try.func4 1 (oL [(18, { ch := 0, hi := fun _ => gs.length, ex := 6, cs := fun _ => [.l (gsC gs)] }), (28, wF)]) (by kernel_rfl) ⟨_, rfl⟩
    (And.intro (show decide (log ≤ 5) = false from decide_eq_false h5)
    (And.intro (show ([.ags [.z [.l (gsC gs)] gs.length, .c (.c (.int .i64 pub)), .c (.c (.int .i64 vars))], .t (.v (.int .i64 log))] : List XV) = [.ags [.z [.l (gsC gs)] gs.length, .c (.c (.int .i64 pub)), .c (.c (.int .i64 vars))], .t (.v (.int .i64 log))] from rfl)
    (And.intro (cut30 g0 gs h30) trivial)))
theorem st_err (g0 gs : List GT) (h30 : gs = g0.take 30) (pub vars : Int) (log e : Int) (hc : ckE gs pub vars log = e) (h0 : e ≠ 0) : Gives Try.prog 4 [.ags [.z [.l (gsC g0)] g0.length, .c (.c (.int .i64 pub)), .c (.c (.int .i64 vars))], .t (.v (.int .i64 log))] (.v (.bool true)) :=
  fn_gives_at (P := Try.prog) (X := rulesM _) (env := [eAs 11 [([.ags [.z [.l (gsC gs)] gs.length, .c (.c (.int .i64 pub)), .c (.c (.int .i64 vars))], .t (.v (.int .i64 log))], .v (.int .i64 e))], eAl19]) ⟨eAs_one (by have h := rk_e gs pub vars (by have := len30 h30; omega) log; rw [hc] at h; exact h), eAl19_ok, trivial⟩ Try.func4 1 (oL [(18, { ch := 0, hi := fun _ => gs.length, ex := 6, cs := fun _ => [.l (gsC gs)] }), (25, wT), (43, wT)]) (by kernel_rfl) ⟨_, rfl⟩
    (And.intro (show (e != 0) = true from by simpa using h0)
    (And.intro (show ([.ags [.z [.l (gsC gs)] gs.length, .c (.c (.int .i64 pub)), .c (.c (.int .i64 vars))], .t (.v (.int .i64 log))] : List XV) = [.ags [.z [.l (gsC gs)] gs.length, .c (.c (.int .i64 pub)), .c (.c (.int .i64 vars))], .t (.v (.int .i64 log))] from rfl)
    (And.intro (show (e != 0) = true from by simpa using h0)
    (And.intro (show ([.ags [.z [.l (gsC gs)] gs.length, .c (.c (.int .i64 pub)), .c (.c (.int .i64 vars))], .t (.v (.int .i64 log))] : List XV) = [.ags [.z [.l (gsC gs)] gs.length, .c (.c (.int .i64 pub)), .c (.c (.int .i64 vars))], .t (.v (.int .i64 log))] from rfl)
    (And.intro (cut30 g0 gs h30) trivial)))))
theorem st_main (g0 gs : List GT) (h30 : gs = g0.take 30) (pub vars : Int) (lg : Nat) (hl : lg ≤ 5) (n : Nat) (hn : n = 2 ^ lg) (h32 : n ≤ 1000) (h0 : 0 < n) (hm : gs.length ≤ 1000) (hln : gs.length ≤ n) (hck : ckE gs pub vars ((lg : Nat) : Int) = 0) (hrk : GivesE Try.prog 11 [.ags [.z [.l (gsC gs)] gs.length, .c (.c (.int .i64 pub)), .c (.c (.int .i64 vars))], .t (.v (.int .i64 ((lg : Nat) : Int)))] (.v (.int .i64 0))) : Gives Try.prog 4 [.ags [.z [.l (gsC g0)] g0.length, .c (.c (.int .i64 pub)), .c (.c (.int .i64 vars))], .t (.v (.int .i64 ((lg : Nat) : Int)))] (.v (.bool true)) :=
  fn_gives_at (P := Try.prog) (X := rulesM _) (env := [eAs 11 [([.ags [.z [.l (gsC gs)] gs.length, .c (.c (.int .i64 pub)), .c (.c (.int .i64 vars))], .t (.v (.int .i64 ((lg : Nat) : Int)))], .v (.int .i64 0))], eAl19]) ⟨eAs_one hrk, eAl19_ok, trivial⟩ Try.func4 1 (oL [(18, { ch := 0, hi := fun _ => gs.length, ex := 6, cs := fun _ => [.l (gsC gs)] }), (28, wT), (47, { ch := 0, hi := fun _ => 0, ex := 11, av := fun _ => .tp [.ag [.sx 45 n, .sx 46 n, .sx 47 n], .v (.int .i64 0)], lp := some { I := { n := 0, sl := [], hp := [] }, ex := .ret, E := { n := 0, sl := [], hp := [(45, .gr [.l (rowQ (vf gs n) n (3 * n) 0)] 44 2), (46, .gr [.l (rowQ (vf gs n) n (3 * n) 1)] 44 2), (47, .gr [.l (rowQ (vf gs n) n (3 * n) 2)] 44 2)] }, fr := 0 } }), (56, { ch := 0, hi := fun _ => 0, ex := 11, av := fun _ => .tp [.ag [.sx 54 n, .sx 55 n, .sx 56 n], .v (.int .i64 0)], lp := some { I := { n := 0, sl := [], hp := [] }, ex := .ret, E := { n := 0, sl := [], hp := [(54, .gr [.l (tab eC n (valP (vf gs n) lg n 0))] 41 4), (55, .gr [.l (tab eC n (valP (vf gs n) lg n 1))] 41 4), (56, .gr [.l (tab eC n (valP (vf gs n) lg n 2))] 41 4)] }, fr := 0 } }), (63, { ch := 0, hi := fun _ => 0, ex := 9 }), (65, { ch := 0, hi := fun _ => 0, ex := 9 }), (76, shO lg n), (77, wF), (84, shO lg n), (85, wF), (92, lpO { I := stI0 gs lg n (keysL (kp (vf gs n) n) 0) (keysL (ke (vf gs n) lg n) 0) 0, ex := .exit 2, E := stE0 gs lg n (keysL (kp (vf gs n) n) n) (keysL (ke (vf gs n) lg n) n), fr := 93 }), (103, shO lg n), (104, wF), (111, shO lg n), (112, wF), (119, lpO { I := stI1 gs lg n (keysL (kp (vf gs n) n) n) (keysL (ke (vf gs n) lg n) n) 0, ex := .exit 2, E := stE1 gs lg n (keysL (kp (vf gs n) n) (n + n)) (keysL (ke (vf gs n) lg n) (n + n)), fr := 120 }), (130, shO lg n), (131, wF), (138, shO lg n), (139, wF), (146, lpO { I := stI2 gs lg n (keysL (kp (vf gs n) n) (n + n)) (keysL (ke (vf gs n) lg n) (n + n)) 0, ex := .exit 2, E := stE2 gs lg n (keysL (kp (vf gs n) n) (n + n + n)) (keysL (ke (vf gs n) lg n) (n + n + n)), fr := 147 }), (161, rO 17 (3 * n)), (163, shO lg (3 * n)), (164, wT), (168, rO 17 (3 * n)), (170, shO lg (3 * n)), (171, wT)]) (by kernel_rfl) ⟨_, rfl⟩
    (And.intro (show (((3 * n : Nat) : Int) == ((3 * n : Nat) : Int)) = true from beq_self_eq_true _)
    (And.intro (show ((lg : Nat) : Int) = ((lg : Nat) : Int) ∧ IntKind.i64.wrap (3 * 2 ^ min lg IntKind.i64.bits) = ((3 * n : Nat) : Int) from ⟨rfl, by rw [hn]; exact sh_num3 lg (by omega)⟩)
    (And.intro (show Lens Try.prog (mapO kE vB (keysL (ke (vf gs n) lg n) (n + n + n))) (3 * n) from (by have h := lens_map (P := Try.prog) (kf := kE) (vf := vB) (keysL (ke (vf gs n) lg n) (n + n + n)); rw [show ((keysL (ke (vf gs n) lg n) (n + n + n))).length = 3 * n from by rw [show n + n + n = 3 * n by omega]; exact keysL_len _ _ (fun i j h1 h2 e => by have := ke_inj hl hn (by omega) (by omega) e; omega)] at h; exact h))
    (And.intro (show (((3 * n : Nat) : Int) == ((3 * n : Nat) : Int)) = true from beq_self_eq_true _)
    (And.intro (show ((lg : Nat) : Int) = ((lg : Nat) : Int) ∧ IntKind.i64.wrap (3 * 2 ^ min lg IntKind.i64.bits) = ((3 * n : Nat) : Int) from ⟨rfl, by rw [hn]; exact sh_num3 lg (by omega)⟩)
    (And.intro (show Lens Try.prog (mapO kP vB (keysL (kp (vf gs n) n) (n + n + n))) (3 * n) from (by have h := lens_map (P := Try.prog) (kf := kP) (vf := vB) (keysL (kp (vf gs n) n) (n + n + n)); rw [show ((keysL (kp (vf gs n) n) (n + n + n))).length = 3 * n from by rw [show n + n + n = 3 * n by omega]; exact keysL_len _ _ (fun i j h1 h2 e => by have := kp_inj h32 (by omega) (by omega) e; omega)] at h; exact h))
    (And.intro (show some (stI2 gs lg n (keysL (kp (vf gs n) n) (n + n)) (keysL (ke (vf gs n) lg n) (n + n)) 0) = some (stI2 gs lg n (keysL (kp (vf gs n) n) (n + n)) (keysL (ke (vf gs n) lg n) (n + n)) 0) from rfl)
    (And.intro (show Sound Try.prog 0 false (.loop (loopB Try.f4 1)) (stI2 gs lg n (keysL (kp (vf gs n) n) (n + n)) (keysL (ke (vf gs n) lg n) (n + n)) 0).aa (.exit 2) (stE2 gs lg n (keysL (kp (vf gs n) n) (n + n + n)) (keysL (ke (vf gs n) lg n) (n + n + n))).aa from (by have h := st_a2 gs lg hl n hn h32; rw [show 2 * n + 0 = n + n by omega, show 2 * n + n = n + n + n by omega] at h; exact h))
    (And.intro (ne_selfI n)
    (And.intro (show ((lg : Nat) : Int) = ((lg : Nat) : Int) ∧ IntKind.i64.wrap (1 * 2 ^ min lg IntKind.i64.bits) = ((n : Nat) : Int) from ⟨rfl, by rw [hn]; exact sh_num lg (by omega)⟩)
    (And.intro (ne_selfI n)
    (And.intro (show ((lg : Nat) : Int) = ((lg : Nat) : Int) ∧ IntKind.i64.wrap (1 * 2 ^ min lg IntKind.i64.bits) = ((n : Nat) : Int) from ⟨rfl, by rw [hn]; exact sh_num lg (by omega)⟩)
    (And.intro (show some (stI1 gs lg n (keysL (kp (vf gs n) n) n) (keysL (ke (vf gs n) lg n) n) 0) = some (stI1 gs lg n (keysL (kp (vf gs n) n) n) (keysL (ke (vf gs n) lg n) n) 0) from rfl)
    (And.intro (show Sound Try.prog 0 false (.loop (loopB Try.f4 1)) (stI1 gs lg n (keysL (kp (vf gs n) n) n) (keysL (ke (vf gs n) lg n) n) 0).aa (.exit 2) (stE1 gs lg n (keysL (kp (vf gs n) n) (n + n)) (keysL (ke (vf gs n) lg n) (n + n))).aa from (by have h := st_a1 gs lg hl n hn h32; rw [show 1 * n + 0 = n by omega, show 1 * n + n = n + n by omega] at h; exact h))
    (And.intro (ne_selfI n)
    (And.intro (show ((lg : Nat) : Int) = ((lg : Nat) : Int) ∧ IntKind.i64.wrap (1 * 2 ^ min lg IntKind.i64.bits) = ((n : Nat) : Int) from ⟨rfl, by rw [hn]; exact sh_num lg (by omega)⟩)
    (And.intro (ne_selfI n)
    (And.intro (show ((lg : Nat) : Int) = ((lg : Nat) : Int) ∧ IntKind.i64.wrap (1 * 2 ^ min lg IntKind.i64.bits) = ((n : Nat) : Int) from ⟨rfl, by rw [hn]; exact sh_num lg (by omega)⟩)
    (And.intro (show some (stI0 gs lg n (keysL (kp (vf gs n) n) 0) (keysL (ke (vf gs n) lg n) 0) 0) = some (stI0 gs lg n (keysL (kp (vf gs n) n) 0) (keysL (ke (vf gs n) lg n) 0) 0) from rfl)
    (And.intro (show Sound Try.prog 0 false (.loop (loopB Try.f4 1)) (stI0 gs lg n (keysL (kp (vf gs n) n) 0) (keysL (ke (vf gs n) lg n) 0) 0).aa (.exit 2) (stE0 gs lg n (keysL (kp (vf gs n) n) n) (keysL (ke (vf gs n) lg n) n)).aa from (by have h := st_a0 gs lg hl n hn h32; rw [show 0 * n + 0 = 0 by omega, show 0 * n + n = n by omega] at h; exact h))
    (And.intro (ne_selfI n)
    (And.intro (show ((lg : Nat) : Int) = ((lg : Nat) : Int) ∧ IntKind.i64.wrap (1 * 2 ^ min lg IntKind.i64.bits) = ((n : Nat) : Int) from ⟨rfl, by rw [hn]; exact sh_num lg (by omega)⟩)
    (And.intro (ne_selfI n)
    (And.intro (show ((lg : Nat) : Int) = ((lg : Nat) : Int) ∧ IntKind.i64.wrap (1 * 2 ^ min lg IntKind.i64.bits) = ((n : Nat) : Int) from ⟨rfl, by rw [hn]; exact sh_num lg (by omega)⟩)
    (And.intro (values_m gs pub vars lg hl n hn h32 h0 hm hln hck 54 55 56)
    (And.intro (next_m gs pub vars lg hl n hn h32 h0 hm hln hck 45 46 47)
    (And.intro (show ([.ags [.z [.l (gsC gs)] gs.length, .c (.c (.int .i64 pub)), .c (.c (.int .i64 vars))], .t (.v (.int .i64 ((lg : Nat) : Int)))] : List XV) = [.ags [.z [.l (gsC gs)] gs.length, .c (.c (.int .i64 pub)), .c (.c (.int .i64 vars))], .t (.v (.int .i64 ((lg : Nat) : Int)))] from rfl)
    (And.intro (show decide (((lg : Nat) : Int) ≤ 5) = true from decide_eq_true (by omega))
    (And.intro (show ([.ags [.z [.l (gsC gs)] gs.length, .c (.c (.int .i64 pub)), .c (.c (.int .i64 vars))], .t (.v (.int .i64 ((lg : Nat) : Int)))] : List XV) = [.ags [.z [.l (gsC gs)] gs.length, .c (.c (.int .i64 pub)), .c (.c (.int .i64 vars))], .t (.v (.int .i64 ((lg : Nat) : Int)))] from rfl)
    (And.intro (cut30 g0 gs h30) trivial))))))))))))))))))))))))))))))
theorem sigmaTurns_gives (g0 : List GT) (pub vars log : Int) : Gives Try.prog 4 [.ags [.z [.l (gsC g0)] g0.length, .c (.c (.int .i64 pub)), .c (.c (.int .i64 vars))], .t (.v (.int .i64 log))] (.v (.bool true)) := by
  have hl := len30 (g0 := g0) rfl
  by_cases hc : ckE (g0.take 30) pub vars log = 0
  · by_cases h5 : log ≤ 5
    · obtain ⟨lg, rfl⟩ := Int.eq_ofNat_of_zero_le (ck_pos hc)
      have h := rk_e (g0.take 30) pub vars (by omega) ((lg : Nat) : Int)
      rw [hc] at h
      obtain ⟨p1, p2⟩ := pow5 (show lg ≤ 5 by omega)
      exact st_main g0 _ rfl pub vars lg (by omega) _ rfl p1 p2 (by omega) (ck_len hc) hc h
    · exact st_big g0 _ rfl pub vars log hc h5
  · exact st_err g0 _ rfl pub vars log _ rfl hc
end Go.Proofs.Ytoigbjimhcgolaa
