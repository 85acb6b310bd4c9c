/- The evaluator's regions: whatever order their operations are taken in. -/
import Derived.Test.YtonklhcmpbhhaaaEve
import Derived.Laws.CopyOwn
set_option linter.unusedSimpArgs false
set_option linter.unusedVariables false
namespace Go.Ev
open Go.RowKit

structure AA where
  t : Sl
  h : Heap

def AA.app (A : AA) (o : Oper) (id : Nat) (r : AV) (nb : Option Blk) : AA := ⟨putA A.t o.dst r, updH A.h id nb⟩

def okC : List Ch → Bool
  | [] => true
  | .c (.agg _) :: _ => false
  | .c (.tuple _) :: _ => false
  | _ :: l => okC l

theorem limbs_one : ∀ w x, ∀ v ∈ limbs w x, v.oneCell' = true
  | 0, _, v, h => by simp [limbs] at h
  | w + 1, x, v, h => by
    simp only [limbs, List.mem_cons] at h
    rcases h with rfl | h
    · rfl
    · exact limbs_one w _ v h

theorem okC_one : ∀ {l : List Ch}, okC l = true → ∀ v ∈ flat l, v.oneCell' = true
  | [], _, v, h => by simp [flat] at h
  | c :: l, ho, v, h => by
    simp only [flat, List.mem_append] at h
    rcases h with h | h
    · cases c with
      | c x =>
        simp only [Ch.cells, List.mem_singleton] at h
        subst h
        cases v <;> first | rfl | (simp [okC] at ho)
      | n w x => exact limbs_one _ _ v h
      | e x => exact limbs_one _ _ v h
      | s x => exact limbs_one _ _ v h
      | q x => exact limbs_one _ _ v h
      | m x => exact limbs_one _ _ v h
    · refine okC_one (l := l) ?_ v h
      cases c with
      | c x => cases x <;> first | exact ho | (simp [okC] at ho)
      | n w x => exact ho
      | e x => exact ho
      | s x => exact ho
      | q x => exact ho
      | m x => exact ho

def setH (h : Heap) (id : Nat) (b : Blk) : Heap := fun j => if Nat.beq j id then some b else h j

def storeA (P : Program) (A : AA) (T : TypeId) (x y : Operand) : Option Heap :=
  match evA A.t x, boxA (evA A.t y), P.info? T with
  | .p id off, some cs, some i =>
    if sizes cs = i.size ∧ okC cs = true then
      match A.h id with
      | some blk => (spliceB blk.cs off cs).map fun cs' => setH A.h id ⟨cs', blk.t⟩
      | none => none
    else none
  | _, _, _ => none

theorem storeA_fresh {P : Program} {A : AA} {T : TypeId} {x y : Operand} {h' : Heap} (hst : storeA P A T x y = some h') {j : Nat} (hj0 : A.h j = none) : h' j = none := by
  unfold storeA at hst
  split at hst
  · rename_i id off cs ii hx hy hi
    split at hst
    · split at hst
      · rename_i blk hblk
        simp only [Option.map_eq_some_iff] at hst
        obtain ⟨cs', _, rfl⟩ := hst
        have hne : Nat.beq j id = false := by
          cases hb : Nat.beq j id with
          | false => rfl
          | true =>
            have e := Nat.eq_of_beq_eq_true hb
            rw [← e, hj0] at hblk
            cases hblk
        show (if Nat.beq j id = true then some _ else A.h j) = none
        rw [hne]
        exact hj0
      · cases hst
    · cases hst
  · cases hst

def wantedA (ops : Array Oper) (t : Sl) (o : Oper) : Bool :=
  match o.guard with
  | none => true
  | some (j, want) =>
    match (ops[j]?).bind (·.dst) with
    | some d => match t.get d with | .v (.bool b) => b == want | _ => false
    | none => false

theorem wantedA_eq {ρ : Names} {ops : Array Oper} {t : Sl} {a : Act} (hs : Slots ρ t a.tmps) (o : Oper) : Region.wanted o (yielded ops a.tmps) = wantedA ops t o := by
  unfold Region.wanted wantedA
  cases hg : o.guard with
  | none => rfl
  | some gw =>
    obtain ⟨j, want⟩ := gw
    simp only
    unfold yielded
    cases hd : (ops[j]?).bind (·.dst) with
    | none => rfl
    | some d =>
      simp only [Option.bind_some]
      cases ht : a.tmps[d]? with
      | none => rw [hs.get_none ht]; rfl
      | some x =>
        have h2 := hs.get_some ht
        generalize t.get d = av at h2
        cases av <;> simp only [Rep] at h2
        case v y => subst h2; cases x <;> first | rfl | (rename_i b; cases want <;> cases b <;> rfl)
        case ag => subst h2; rfl
        case u => subst h2; rfl
        case tp => subst h2; rfl
        case clo => subst h2; rfl
        case p => obtain ⟨b, _, rfl⟩ := h2; rfl
        case sl => obtain ⟨b, _, rfl⟩ := h2; rfl

/-! ### What an operation does hangs on the slots that it looks at alone -/
theorem get_put {t : Sl} {d i : Nat} {v : AV} (h : i ≠ d) : (t.set d v).get i = t.get i := by
  unfold Sl.get Sl.set
  simp only [Tr.get_set_ne 12 _ _ _ _ h]

theorem evA_put {t : Sl} {dst : Option Tmp} {v : AV} {x : Operand} (h : ∀ d, dst = some d → x ≠ .tmp d) : evA (putA t dst v) x = evA t x := by
  cases dst with
  | none => rfl
  | some d =>
    cases x with
    | tmp i =>
      have hne : d ≠ i := fun e => h d rfl (by rw [e])
      exact get_put (Ne.symm hne)
    | _ => rfl

theorem tvs_congr {t t' : Sl} : ∀ (l : List Operand), (∀ x ∈ l, evA t x = evA t' x) → tvs t l = tvs t' l
  | [], _ => rfl
  | x :: l, h => by simp only [tvs, h x (by simp), tvs_congr l (fun y hy => h y (by simp [hy]))]

theorem evXs_congr {h : Heap} {t t' : Sl} : ∀ (l : List Operand), (∀ x ∈ l, evA t x = evA t' x) → evXs h t l = evXs h t' l
  | [], _ => rfl
  | x :: l, hx => by simp only [evXs, evX, hx x (by simp), evXs_congr l (fun y hy => hx y (by simp [hy]))]

section
variable {P : Program} {env : List Entry} {h0 : Heap}

theorem valA_congr {t t' : Sl} (op : Op) (h : ∀ x ∈ op.operands, evA t x = evA t' x) : valA P h0 t op = valA P h0 t' op := by
  cases op <;> simp only [Op.operands] at h <;> simp only [valA]
  case move x => rw [h x (by simp)]
  case assign x => rw [h x (by simp)]
  case pick c a b => rw [h c (by simp), h a (by simp), h b (by simp)]
  case load T x => rw [h x (by simp)]
  case build T ps =>
    have : (ps.toList.map fun (i, x) => (i, evA t x)) = (ps.toList.map fun (i, x) => (i, evA t' x)) := List.map_congr_left fun p hp => by
      obtain ⟨i, x⟩ := p
      simp only [h x (by simp; exact ⟨i, by simpa using hp⟩)]
    rw [this]
  case fieldAddr S x f => rw [h x (by simp)]
  case field S x f => rw [h x (by simp)]
  case indexAddr T x i => rw [h x (by simp), h i (by simp)]
  case index T x i => rw [h x (by simp), h i (by simp)]
  case extract x i => rw [h x (by simp)]
  case unOp op T x => cases op <;> simp only [] ; rw [h x (by simp)]
  case binOp op T x y yt => rw [h x (by simp), h y (by simp)]
  case convert s d x => rw [h x (by simp)]
  case slice T x lo hi mx =>
    cases lo <;> cases hi <;> cases mx <;> simp only []
    · rw [h x (by simp)]
    · rename_i y
      rw [h x (by simp), h y (by simp)]
  case makeFunc fn first captured =>
    cases fn <;> simp only []
    rw [tvs_congr first.toList (fun x hx => h x (by simp; exact .inl (by simpa using hx)))]
  case call c =>
    obtain ⟨callee, args, at'⟩ := c
    cases callee <;> simp only [Call.operands] at h ⊢
    rename_i b
    cases b <;> simp only []
    rw [List.map_congr_left (fun x hx => h x (by simpa using hx))]

theorem altA_congr {t t' : Sl} {hi : Nat → Nat} (op : Op) (h : ∀ x ∈ op.operands, evA t x = evA t' x) : altA P env hi h0 t op = altA P env hi h0 t' op := by
  unfold altA
  rw [valA_congr op h]
  cases op <;> simp only [Op.operands] at h <;> try rfl
  case call c =>
    obtain ⟨callee, args, at'⟩ := c
    cases callee <;> simp only [Call.operands] at h ⊢
    rename_i f
    rw [h f (by simp), evXs_congr args.toList (fun x hx => h x (by simp; exact .inr (by simpa using hx)))]
  case binOp op T x y yt =>
    have e1 := h x (by simp)
    have e2 := h y (by simp)
    cases op <;> first | rfl | simp only [e1, e2]

theorem stepQ_congr {t t' : Sl} {id : Nat} {ch : Ora} (op : Op) (h : ∀ x ∈ op.operands, evA t x = evA t' x) : stepQ P env h0 t id ch op = stepQ P env h0 t' id ch op := by
  have ha := altA_congr (P := P) (env := env) (h0 := h0) (hi := ch.hi) op h
  unfold stepQ
  cases op <;> simp only [Op.operands] at h <;> simp only [ha]
  case box T x => rw [h x (by simp)]

theorem stepQ_put {ops : Array Oper} {t : Sl} {id : Nat} {ch : Ora} (o : Oper) {dst : Option Tmp} {v : AV} (h : ∀ d, dst = some d → d ∉ o.looksAt ops) :
    stepQ P env h0 (putA t dst v) id ch o.op = stepQ P env h0 t id ch o.op :=
  stepQ_congr o.op fun x hx => evA_put fun d hd hxd => h d hd (by
    subst hxd
    exact List.mem_append_left _ (List.mem_filterMap.2 ⟨.tmp d, by simpa using hx, rfl⟩))

theorem wantedA_put {ops : Array Oper} {t : Sl} (o : Oper) {dst : Option Tmp} {v : AV} (h : ∀ d, dst = some d → d ∉ o.looksAt ops) : wantedA ops (putA t dst v) o = wantedA ops t o := by
  cases dst with
  | none => rfl
  | some d =>
    unfold wantedA
    cases hg : o.guard with
    | none => rfl
    | some gw =>
      obtain ⟨j, want⟩ := gw
      simp only
      cases ht : (ops[j]?).bind (·.dst) with
      | none => rfl
      | some e =>
        have hne : d ≠ e := fun he => h d rfl (by subst he; simp [Oper.looksAt, hg, ht])
        simp only [putA]
        rw [get_put (Ne.symm hne)]

theorem putA_comm {t : Sl} {x y : Option Tmp} {u v : AV} (h : ∀ d, x = some d → y ≠ some d) : putA (putA t x u) y v = putA (putA t y v) x u := by
  cases x with
  | none => rfl
  | some d =>
    cases y with
    | none => rfl
    | some e =>
      have hne : d ≠ e := fun he => h d rfl (by rw [he])
      simp only [putA]
      simp only [Sl.set, Sl.mk.injEq, true_and]
      exact Tr.set_comm 12 _ _ _ _ _ hne

theorem updH_comm {h : Heap} {i j : Nat} (hij : i ≠ j) (a b : Option Blk) : updH (updH h i a) j b = updH (updH h j b) i a := by
  cases a <;> cases b <;> simp only [updH]
  funext k
  by_cases h1 : Nat.beq k i = true
  · have := Nat.eq_of_beq_eq_true h1
    have h2 : Nat.beq k j = false := by
      cases hb : Nat.beq k j with
      | false => rfl
      | true => exact absurd (this.symm.trans (Nat.eq_of_beq_eq_true hb)) hij
    simp [h1, h2]
  · simp [h1]

/-! ### One operation of a region's head -/
variable {ops : Array Oper} {os : Nat → Ora} {fr : Nat}

def good (P : Program) (env : List Entry) (h0 : Heap) (ops : Array Oper) (os : Nat → Ora) (fr : Nat) (i : Nat) (o : Oper) (t : Sl) (r : AV) (nb : Option Blk) : Prop :=
  (wantedA ops t o = true ∧ ∃ c : Option Prop, stepQ P env h0 t (fr + i) (os (fr + i)) o.op = some (c, r, nb) ∧ c.getD True) ∨
  (wantedA ops t o = false ∧ r = .tp [] ∧ nb = none)

theorem good_put {i : Nat} {o : Oper} {t : Sl} {r : AV} {nb : Option Blk} {dst : Option Tmp} {v : AV} (h : ∀ d, dst = some d → d ∉ o.looksAt ops) :
    good P env h0 ops os fr i o (putA t dst v) r nb ↔ good P env h0 ops os fr i o t r nb := by
  unfold good
  rw [wantedA_put o h, stepQ_put o h]

/-- Does what an operation comes to hang on slots alone? -/
def heapless : Op → Bool
  | .load .. | .alloc .. | .box .. | .call .. | .store .. => false
  | _ => true

theorem stepQ_heapless {op : Op} (h : heapless op = true) (h1 h2 : Heap) (t : Sl) (id : Nat) (ch : Ora) : stepQ P env h1 t id ch op = stepQ P env h2 t id ch op := by
  cases op with
  | binOp op T x y => cases op <;> rfl
  | unOp op T x => cases op <;> rfl
  | makeFunc fn bs => cases fn <;> rfl
  | slice T x lo hi mx => cases x <;> (first | rfl | (cases lo <;> first | rfl | (cases hi <;> first | rfl | (cases mx <;> rfl))))
  | _ => first | rfl | (simp [heapless] at h)

def isSt (o : Oper) : Bool := match o.op with | .store .. => true | _ => false

/-- Does operation j wait for operation i, through others too? -/
def anc (md : Region.Mode) (ops : Array Oper) : Nat → Nat → Nat → Bool
  | 0, _, _ => false
  | d + 1, j, i => match ops[j]? with
    | some o => o.after.any fun e => Region.binds md e && (Nat.beq e.on i || anc md ops d e.on i)
    | none => false

/-- Stores wait for all that reads or makes memory; of two stores one waits for the other. -/
def memOK (md : Region.Mode) (ops : Array Oper) : Bool :=
  (List.range ops.size).all fun j => match ops[j]? with
    | some oj => !isSt oj || (List.range ops.size).all fun i => Nat.beq i j || (match ops[i]? with
      | some oi => heapless oi.op || anc md ops 4 j i || (isSt oi && anc md ops 4 i j)
      | none => true)
    | none => true

theorem memOK_spec {md : Region.Mode} (h : memOK md ops = true) {i j : Nat} {oi oj : Oper} (hj : ops[j]? = some oj) (hi : ops[i]? = some oi) (hne : i ≠ j) (hs : isSt oj = true) :
    heapless oi.op = true ∨ anc md ops 4 j i = true ∨ (isSt oi = true ∧ anc md ops 4 i j = true) := by
  unfold memOK at h
  have h1 := List.all_eq_true.1 h j (List.mem_range.2 (Array.getElem?_eq_some_iff.1 hj).1)
  simp only [hj, hs, Bool.not_true, Bool.false_or] at h1
  have h2 := List.all_eq_true.1 h1 i (List.mem_range.2 (Array.getElem?_eq_some_iff.1 hi).1)
  have hb : Nat.beq i j = false := by
    cases hb : Nat.beq i j with
    | false => rfl
    | true => exact absurd (Nat.eq_of_beq_eq_true hb) hne
  simp only [hi, hb, Bool.false_or, Bool.or_eq_true, Bool.and_eq_true] at h2
  rcases h2 with (h2 | h2) | h2
  · exact .inl h2
  · exact .inr (.inl h2)
  · exact .inr (.inr h2)

/-- What a listed, or ready, operation waits for is listed. -/
theorem anc_listed {md : Region.Mode} {listed : Array Bool} (hcl : ∀ j oj, ops[j]? = some oj → listed.getD j false = true → ∀ e ∈ oj.after, Region.binds md e = true → listed.getD e.on false = true) :
    ∀ (d j i : Nat), anc md ops d j i = true → (∀ oj, ops[j]? = some oj → ∀ e ∈ oj.after, Region.binds md e = true → listed.getD e.on false = true) → listed.getD i false = true
  | 0, j, i, h, _ => by simp [anc] at h
  | d + 1, j, i, h, hl => by
    unfold anc at h
    split at h
    · rename_i o ho
      obtain ⟨e, he, hb⟩ := Array.any_eq_true'.1 h
      simp only [Bool.and_eq_true, Bool.or_eq_true] at hb
      have hle := hl o ho e he hb.1
      rcases hb.2 with h2 | h2
      · rw [← Nat.eq_of_beq_eq_true h2]; exact hle
      · exact anc_listed hcl d e.on i h2 (fun ok hk => hcl e.on ok hk hle)
    · cases h

def qOpA (P : Program) (env : List Entry) (h0 : Heap) (ops : Array Oper) (os : Nat → Ora) (fr : Nat) (i : Nat) (o : Oper) (A A' : AA) : Prop :=
  (∃ r nb, good P env h0 ops os fr i o A.t r nb ∧ A' = A.app o (fr + i) r nb) ∨
  (wantedA ops A.t o = true ∧ ∃ T x y h', o.op = .store T x y ∧ storeA P A T x y = some h' ∧ A' = ⟨putA A.t o.dst (.tp []), h'⟩)

theorem setH_updH {h : Heap} {s k : Nat} (hne : s ≠ k) (b : Blk) (nb : Option Blk) : setH (updH h k nb) s b = updH (setH h s b) k nb := by
  cases nb with
  | none => rfl
  | some c =>
    funext j
    simp only [setH, updH]
    by_cases h1 : Nat.beq j s = true
    · have := Nat.eq_of_beq_eq_true h1
      have h2 : Nat.beq j k = false := by
        cases hb : Nat.beq j k with
        | false => rfl
        | true => exact absurd (this.symm.trans (Nat.eq_of_beq_eq_true hb)) hne
      simp [h1, h2]
    · simp [h1]

theorem storeA_put {A : AA} {o : Oper} {T : TypeId} {x y : Operand} (ho : o.op = .store T x y) {dst : Option Tmp} {v : AV} (h : ∀ d, dst = some d → d ∉ o.looksAt ops) (hp : Heap) :
    storeA P ⟨putA A.t dst v, hp⟩ T x y = storeA P ⟨A.t, hp⟩ T x y := by
  have hx : ∀ z ∈ o.op.operands, evA (putA A.t dst v) z = evA A.t z := fun z hz => evA_put fun d hd hzd => h d hd (by
    subst hzd
    exact List.mem_append_left _ (List.mem_filterMap.2 ⟨.tmp d, by simpa using hz, rfl⟩))
  unfold storeA
  simp only
  rw [hx x (by simp [ho, Op.operands]), hx y (by simp [ho, Op.operands])]

/-- A store and what makes no block of the store's: the one or the other first. -/
theorem storeA_upd {A : AA} {T : TypeId} {x y : Operand} {h' : Heap} (hs : storeA P A T x y = some h') {k : Nat} (hk : A.h k = none) (nb : Option Blk) :
    storeA P ⟨A.t, updH A.h k nb⟩ T x y = some (updH h' k nb) := by
  unfold storeA at hs ⊢
  split at hs
  · rename_i id off cs i hx hy hi
    simp only [hx, hy, hi]
    split at hs
    · rename_i hg
      rw [if_pos hg]
      split at hs
      · rename_i blk hblk
        have hne : id ≠ k := fun e => by rw [e, hk] at hblk; cases hblk
        have hb : updH A.h k nb id = some blk := by
          cases nb with
          | none => exact hblk
          | some c =>
            have : Nat.beq id k = false := by
              cases hb : Nat.beq id k with
              | false => rfl
              | true => exact absurd (Nat.eq_of_beq_eq_true hb) hne
            simp [updH, this, hblk]
        simp only [Option.map_eq_some_iff] at hs
        obtain ⟨cs', hcs, rfl⟩ := hs
        simp only [hb, hcs, Option.map_some, Option.some.injEq]
        exact setH_updH hne _ _
      · cases hs
    · cases hs
  · cases hs

theorem good_new {i : Nat} {o : Oper} {t : Sl} {r : AV} {nb : Option Blk} (h : good P env h0 ops os fr i o t r nb) (hh : heapless o.op = true) : nb = none := by
  rcases h with ⟨_, c, hs, _⟩ | ⟨_, _, e⟩
  · unfold stepQ at hs
    split at hs
    · rename_i hop; rw [hop] at hh; simp [heapless] at hh
    · rename_i hop; rw [hop] at hh; simp [heapless] at hh
    · split at hs
      · split at hs
        · simp only [Option.some.injEq, Prod.mk.injEq] at hs; exact hs.2.2.symm
        · cases hs
      · cases hs
  · exact e

theorem qOpA_comm {i j : Nat} {oi oj : Oper} {A Ai Aij : AA} (hij : i ≠ j) (hap : oi.apart ops oj = true)
    (hmem : (isSt oi = false ∧ isSt oj = false) ∨ (isSt oi = true ∧ heapless oj.op = true) ∨ (isSt oj = true ∧ heapless oi.op = true)) (hfj : A.h (fr + j) = none)
    (h1 : qOpA P env h0 ops os fr i oi A Ai) (h2 : qOpA P env h0 ops os fr j oj Ai Aij) :
    ∃ Aj, qOpA P env h0 ops os fr j oj A Aj ∧ qOpA P env h0 ops os fr i oi Aj Aij := by
  obtain ⟨s1, s2, s3⟩ := Oper.apart_spec hap
  rcases h1 with ⟨ri, ni, gi, rfl⟩ | ⟨wi, T, x, y, h', hop, hst, rfl⟩
  · rcases h2 with ⟨rj, nj, gj, rfl⟩ | ⟨wj, T, x, y, h', hop, hst, rfl⟩
    · refine ⟨A.app oj (fr + j) rj nj, .inl ⟨rj, nj, (good_put s1).1 gj, rfl⟩, .inl ⟨ri, ni, (good_put s3).2 gi, ?_⟩⟩
      simp only [AA.app, AA.mk.injEq]
      exact ⟨putA_comm s2, updH_comm (by omega) _ _⟩
    · -- the store second: the first is heapless
      have hsj : isSt oj = true := by simp [isSt, hop]
      have hhi : heapless oi.op = true := by
        rcases hmem with h | h | h
        · rw [h.2] at hsj; cases hsj
        · rw [hop] at h; simp [heapless] at h
        · exact h.2
      have hn := good_new gi hhi
      subst hn
      simp only [AA.app] at wj hst
      rw [wantedA_put oj s1] at wj
      have hst' : storeA P A T x y = some h' := by
        have := storeA_put (P := P) (A := A) (ops := ops) hop (v := ri) s1 A.h
        rw [show updH A.h (fr + i) none = A.h from rfl] at hst
        rw [this] at hst
        exact hst
      refine ⟨⟨putA A.t oj.dst (.tp []), h'⟩, .inr ⟨wj, T, x, y, h', hop, hst', rfl⟩, .inl ⟨ri, none, (good_put s3).2 gi, ?_⟩⟩
      simp only [AA.app, AA.mk.injEq]
      exact ⟨putA_comm s2, rfl⟩
  · rcases h2 with ⟨rj, nj, gj, rfl⟩ | ⟨wj, T', x', y', h'', hop', hst', rfl⟩
    · simp only at gj
      refine ⟨A.app oj (fr + j) rj nj, .inl ⟨rj, nj, (good_put s1).1 gj, rfl⟩, .inr ⟨?_, T, x, y, updH h' (fr + j) nj, hop, ?_, ?_⟩⟩
      · simp only [AA.app]; rw [wantedA_put oi s3]; exact wi
      · simp only [AA.app]
        rw [storeA_put (P := P) (A := A) (ops := ops) hop s3]
        exact storeA_upd hst hfj nj
      · simp only [AA.app, AA.mk.injEq]
        exact ⟨putA_comm s2, trivial⟩
    · exfalso
      have hsi : isSt oi = true := by simp [isSt, hop]
      have hsj : isSt oj = true := by simp [isSt, hop']
      rcases hmem with h | h | h
      · rw [h.1] at hsi; cases hsi
      · rw [hop'] at h; simp [heapless] at h
      · rw [hop] at h; simp [heapless] at h
end

section
variable {P : Program} {env : List Entry} {h0 : Heap} {ops : Array Oper} {os : Nat → Ora} {fr : Nat}

/-! ### Whatever order the head's operations are taken in -/
variable {md : Region.Mode} {n : Nat}

def wpAnyA (P : Program) (env : List Entry) (h0 : Heap) (md : Region.Mode) (ops : Array Oper) (os : Nat → Ora) (fr n : Nat) (L : Array Bool → AA → Prop) : Nat → Array Bool → AA → Prop
  | 0, listed, A => L listed A
  | f + 1, listed, A =>
    Region.ready md ops listed ≠ [] ∧ ∀ i ∈ Region.ready md ops listed, i < n ∧ ∃ o A', ops[i]? = some o ∧ qOpA P env h0 ops os fr i o A A' ∧ wpAnyA P env h0 md ops os fr n L f (listed.setIfInBounds i true) A'

theorem wpAnyA_first {i : Nat} {oi : Oper} {L : Array Bool → AA → Prop} (hmo : memOK md ops = true) (hi : ops[i]? = some oi)
    (htw : ∀ (i : Nat) (listed : Array Bool), HeadInv md ops n listed → i < n → listed.getD i true = false → ∀ t, n ≤ t → t ∉ Region.ready md ops listed) (hin : i < n)
    (hdone : ∀ listed A, L listed A → ∀ j ∈ Region.ready md ops listed, n ≤ j) :
    ∀ (f : Nat) (listed : Array Bool) (A Ai : AA), HeadInv md ops n listed → (∀ j, listed.getD j true = false → A.h (fr + j) = none) →
      (∀ j oj, ops[j]? = some oj → j ≠ i → listed.getD j true = false → (∀ e ∈ oj.after, Region.binds md e = true → e.on ≠ i) → oi.apart ops oj = true) →
      i ∈ Region.ready md ops listed → qOpA P env h0 ops os fr i oi A Ai →
      wpAnyA P env h0 md ops os fr n L f (listed.setIfInBounds i true) Ai → wpAnyA P env h0 md ops os fr n L (f + 1) listed A := by
  intro f
  induction f with
  | zero =>
    intro listed A Ai inv _ _ hr hy H
    have hun := (mem_ready.1 hr).1
    refine ⟨fun h => (by rw [h] at hr; cases hr), fun j hj => ?_⟩
    have hjn : j < n := by
      rcases Nat.lt_or_ge j n with h | h
      · exact h
      · exact absurd hj (htw i listed inv hin hun j h)
    refine ⟨hjn, ?_⟩
    by_cases hji : j = i
    · subst hji; exact ⟨oi, Ai, hi, hy, H⟩
    · have := hdone _ _ H j (ready_mono hj hji)
      omega
  | succ f ih =>
    intro listed A Ai inv hfree0 hfree hr hy H
    have hun := (mem_ready.1 hr).1
    refine ⟨fun h => (by rw [h] at hr; cases hr), fun j hj => ?_⟩
    have hjn : j < n := by
      rcases Nat.lt_or_ge j n with h | h
      · exact h
      · exact absurd hj (htw i listed inv hin hun j h)
    refine ⟨hjn, ?_⟩
    by_cases hji : j = i
    · subst hji; exact ⟨oi, Ai, hi, hy, H⟩
    · obtain ⟨oj', Aij, hoj', hq, hrest⟩ := (H.2 j (ready_mono hj hji)).2
      obtain ⟨hjun, oj, hoj, hall⟩ := mem_ready.1 hj
      have : oj' = oj := Option.some.inj (hoj'.symm.trans hoj)
      subst this
      have hnot : ∀ e ∈ oj'.after, Region.binds md e = true → e.on ≠ i := fun e he hb heq => by
        have h1 := hall e he hb
        rw [heq, getD_both hun] at h1
        cases h1
      have hnot' : ∀ e ∈ oi.after, Region.binds md e = true → listed.getD e.on false = true := by
        obtain ⟨_, oi', hoi', hall'⟩ := mem_ready.1 hr
        have : oi' = oi := Option.some.inj (hoi'.symm.trans hi)
        subst this
        exact hall'
      have nanc : anc md ops 4 j i = false := by
        cases ha : anc md ops 4 j i with
        | false => rfl
        | true =>
          have := anc_listed inv.closed 4 j i ha (fun ok hk e he hb => by
            have : ok = oj' := Option.some.inj (hk.symm.trans hoj)
            subst this
            exact hall e he hb)
          rw [getD_both hun] at this
          cases this
      have nanc' : anc md ops 4 i j = false := by
        cases ha : anc md ops 4 i j with
        | false => rfl
        | true =>
          have := anc_listed inv.closed 4 i j ha (fun ok hk e he hb => by
            have : ok = oi := Option.some.inj (hk.symm.trans hi)
            subst this
            exact hnot' e he hb)
          rw [getD_both hjun] at this
          cases this
      have hmem : (isSt oi = false ∧ isSt oj' = false) ∨ (isSt oi = true ∧ heapless oj'.op = true) ∨ (isSt oj' = true ∧ heapless oi.op = true) := by
        cases hsi : isSt oi with
        | true =>
          rcases memOK_spec hmo hi hoj hji hsi with h | h | h
          · exact .inr (.inl ⟨rfl, h⟩)
          · rw [nanc'] at h; cases h
          · rw [nanc] at h; cases h.2
        | false =>
          cases hsj : isSt oj' with
          | false => exact .inl ⟨rfl, rfl⟩
          | true =>
            rcases memOK_spec hmo hoj hi (Ne.symm hji) hsj with h | h | h
            · exact .inr (.inr ⟨rfl, h⟩)
            · rw [nanc] at h; cases h
            · rw [nanc'] at h; cases h.2
      obtain ⟨Aj, g1, g2⟩ := qOpA_comm (Ne.symm hji) (hfree j oj' hoj hji hjun hnot) hmem (hfree0 j hjun) hy hq
      have hfreeJ : ∀ k, (listed.setIfInBounds j true).getD k true = false → Aj.h (fr + k) = none := fun k hk => by
        have hkj : j ≠ k := by
          intro e
          subst e
          have hlt : j < listed.size := by rw [inv.size]; exact (Array.getElem?_eq_some_iff.1 hoj).1
          simp [hlt] at hk
        rw [getD_set_ne true hkj] at hk
        have hn := hfree0 k hk
        rcases g1 with ⟨r, nb, _, rfl⟩ | ⟨_, T, x, y, h', _, hst, rfl⟩
        · cases nb with
          | none => exact hn
          | some blk =>
            have hb : Nat.beq (fr + k) (fr + j) = false := by
              cases hb : Nat.beq (fr + k) (fr + j) with
              | false => rfl
              | true => have := Nat.eq_of_beq_eq_true hb; omega
            show (if Nat.beq (fr + k) (fr + j) = true then some blk else A.h (fr + k)) = none
            rw [hb]; exact hn
        · exact storeA_fresh hst hn
      have hfree' : ∀ k ok, ops[k]? = some ok → k ≠ i → (listed.setIfInBounds j true).getD k true = false →
          (∀ e ∈ ok.after, Region.binds md e = true → e.on ≠ i) → oi.apart ops ok = true := fun k ok hk hki hun' hno => by
        refine hfree k ok hk hki ?_ hno
        by_cases hjk : j = k
        · subst hjk; exact hjun
        · rw [getD_set_ne true hjk] at hun'; exact hun'
      refine ⟨oj', Aj, hoj, g1, ih (listed.setIfInBounds j true) Aj Aij (inv.set hj hjn) hfreeJ hfree' (ready_mono hr (Ne.symm hji)) g2 ?_⟩
      rw [Array.setIfInBounds_comm _ _ hji]
      exact hrest

/-- The order of the text. -/
def QLex (P : Program) (env : List Entry) (h0 : Heap) (ops : Array Oper) (os : Nat → Ora) (fr : Nat) : List Oper → Nat → AA → AA → Prop
  | [], _, A, A' => A' = A
  | o :: l, i, A, A' => ∃ A1, qOpA P env h0 ops os fr i o A A1 ∧ QLex P env h0 ops os fr l (i + 1) A1 A'

theorem qOpA_free {i : Nat} {o : Oper} {A A1 : AA} {listed : Array Bool} (hi : i < listed.size) (hq : qOpA P env h0 ops os fr i o A A1) (hf : ∀ j, listed.getD j true = false → A.h (fr + j) = none) :
    ∀ k, (listed.setIfInBounds i true).getD k true = false → A1.h (fr + k) = none := fun k hk => by
  have hki : i ≠ k := by
    intro e
    subst e
    simp [hi] at hk
  rw [getD_set_ne true hki] at hk
  have hn := hf k hk
  rcases hq with ⟨r, nb, _, rfl⟩ | ⟨_, T, x, y, h', _, hst, rfl⟩
  · cases nb with
    | none => exact hn
    | some blk =>
      have hb : Nat.beq (fr + k) (fr + i) = false := by
        cases hb : Nat.beq (fr + k) (fr + i) with
        | false => rfl
        | true => have := Nat.eq_of_beq_eq_true hb; omega
      show (if Nat.beq (fr + k) (fr + i) = true then some blk else A.h (fr + k)) = none
      rw [hb]; exact hn
  · exact storeA_fresh hst hn

theorem wpAnyA_lex {g : Nat} {A' : AA} (hmo : memOK md ops = true)
    (htw : ∀ (i : Nat) (listed : Array Bool), HeadInv md ops n listed → i < n → listed.getD i true = false → ∀ t, n ≤ t → t ∉ Region.ready md ops listed) :
    ∀ (l : List Oper) (k : Nat) (listed : Array Bool) (A : AA), (∀ j, j < l.length → l[j]? = ops[k + j]?) → k + l.length = n → HeadInv md ops n listed → (∀ j, listed.getD j true = false → A.h (fr + j) = none) →
    Region.lexHead md ops g l.length k listed = true → QLex P env h0 ops os fr l k A A' →
    wpAnyA P env h0 md ops os fr n (fun listed' A'' => Region.seqB md ops g n listed' = true ∧ A'' = A') l.length listed A
  | [], k, listed, A, _, hk, _, _, hB, h => by
    have : k = n := by simpa using hk
    subst this
    exact ⟨by simpa [Region.lexHead] using hB, h.symm⟩
  | o :: l, k, listed, A, hl, hk, inv, hf0, hB, h => by
    have h0 : ops[k]? = some o := by simpa using (hl 0 (by simp)).symm
    simp only [List.length_cons, Region.lexHead, Bool.and_eq_true] at hB
    obtain ⟨⟨hr, hf⟩, hB'⟩ := hB
    have hkn : k < n := by simp only [List.length_cons] at hk; omega
    have hr' : k ∈ Region.ready md ops listed := by simpa using hr
    obtain ⟨A1, hq, hrest⟩ := h
    have hlt : k < listed.size := by rw [inv.size]; exact (Array.getElem?_eq_some_iff.1 h0).1
    exact wpAnyA_first hmo h0 htw hkn (fun listed' A'' hL => seqB_ready hL.1) l.length listed A A1 inv hf0 (Region.free_spec h0 hf) hr' hq
      (wpAnyA_lex hmo htw l (k + 1) _ _ (fun j hj => by have := hl (j + 1) (by simp; omega); simpa [Nat.add_assoc, Nat.add_comm 1 j] using this) (by simp only [List.length_cons] at hk; omega) (inv.set hr' hkn) (qOpA_free hlt hq hf0) hB' hrest)

/-! ### The same in the world -/
theorem updH_keeps {h h0 : Heap} {id : Nat} (hle : ∀ i b, h0 i = some b → h i = some b) (hid : h id = none) (nb : Option Blk) : ∀ i b, h0 i = some b → updH h id nb i = some b := by
  intro i b hb
  have h1 := hle i b hb
  cases nb with
  | none => exact h1
  | some blk =>
    simp only [updH]
    split
    · rename_i hbeq
      have := Nat.eq_of_beq_eq_true hbeq
      rw [this, hid] at h1
      cases h1
    · exact h1

theorem stepQ_wp {w0 w : World} {ρ : Names} {A : AA} {a : Act} (henv : EnvOK P env) (hR : Rel w0 ρ A.t A.h a w) (hle : ∀ i b, h0 i = some b → A.h i = some b) {o : Oper} {id : Nat} {ch : Ora} (hid : A.h id = none)
    {c : Option Prop} {r : AV} {nb : Option Blk} (hq : stepQ P env h0 A.t id ch o.op = some (c, r, nb)) (hc : c.getD True) {K : Act → World → Prop} {Q : Exit → Act → World → Prop}
    (hK : ∀ ρ' a' w', ρ.le ρ' → Rel w0 ρ' (A.app o id r nb).t (A.app o id r nb).h a' w' → K a' w') : o.wp P a w K Q := by
  have fin : ∀ ρ' x w', ρ.le ρ' → Rep ρ' r x → Below w0.heap.size w0 w' → HRel w0.heap.size ρ' (updH A.h id nb) w' → K (a.put o.dst x) w' := by
    intro ρ' x w' hl hr hb hh
    refine hK ρ' _ w' hl ⟨(hR.slots.mono hl).put o.dst hr, ?_, hb, hh⟩
    have := hR.defers
    cases hd : o.dst <;> simpa [Act.put, hd] using this
  have new : ∀ (cs : List Ch) (T : TypeId), r = .p id 0 → nb = some ⟨cs, T⟩ → K (a.put o.dst (.pointer (some ⟨w.heap.size, 0, none⟩))) (w.alloc (.cells (flat cs).toArray T)) := by
    intro cs T hr hn
    subst hr; subst hn
    obtain ⟨h1, h2⟩ := hR.heap.new hR.below.size hid cs T
    exact fin _ _ _ h2 ⟨w.heap.size, by simp, rfl⟩ (hR.below.alloc hR.below.size _) h1
  unfold stepQ at hq
  split at hq
  · rename_i T hop
    simp only [Option.map_eq_some_iff] at hq
    obtain ⟨cs, hcs, e⟩ := hq
    simp only [Prod.mk.injEq] at e
    obtain ⟨_, rfl, rfl⟩ := e
    have hk := new cs T rfl rfl
    unfold zeroA at hcs
    split at hcs
    · rename_i i hi
      simp only [Option.map_eq_some_iff] at hcs
      obtain ⟨z, hz, rfl⟩ := hcs
      have hrun : (execOp a.eval o).run P w = .ok (.value (.pointer (some ⟨w.heap.size, 0, none⟩))) (w.alloc (.cells z.cells T)) := by
        simp [execOp, hop, Instr.alloc, zeroValue, typeInfo, hi, hz, newVar, newRow]
      unfold Oper.wp
      rw [hrun]
      rw [flat_c] at hk
      show K (a.put o.dst _) (w.alloc (.cells z.cells T))
      simpa using hk
    · cases hcs
  · rename_i T x hop
    simp only [Option.map_eq_some_iff] at hq
    obtain ⟨cs, hcs, e⟩ := hq
    simp only [Prod.mk.injEq] at e
    obtain ⟨_, rfl, rfl⟩ := e
    have hk := new cs T rfl rfl
    have hx := boxA_spec hcs (rep_evA hR.slots x)
    have hrun : (execOp a.eval o).run P w = .ok (.value (.pointer (some ⟨w.heap.size, 0, none⟩))) (w.alloc (.cells (flat cs).toArray T)) := by
      simp [execOp, hop, Instr.box, newVar, newRow, hx]
    unfold Oper.wp
    rw [hrun]
    exact hk
  · split at hq
    · rename_i alts ha
      split at hq
      · rename_i c' r' hk
        simp only [Option.some.injEq, Prod.mk.injEq] at hq
        obtain ⟨rfl, rfl, rfl⟩ := hq
        refine alt_wp (w0 := w0) henv hR.slots (hR.heap.sub hle) o ha hk hc fun x w' hx hb => ?_
        exact fin ρ x w' ρ.le_refl hx (below_step hR.below hb) (hR.heap.below hb)
      · cases hq
    · cases hq

/-- A store into a block of the call's own. -/
theorem store_wp {w0 : World} {ρ : Names} {A : AA} {a : Act} {w : World} (hR : Rel w0 ρ A.t A.h a w) {o : Oper} {T : TypeId} {x y : Operand} (ho : o.op = .store T x y) {h' : Heap} (hs : storeA P A T x y = some h')
    {K : Act → World → Prop} {Q : Exit → Act → World → Prop} (hK : ∀ a' w', Rel w0 ρ (putA A.t o.dst (.tp [])) h' a' w' → K a' w') : o.wp P a w K Q := by
  unfold storeA at hs
  split at hs
  · rename_i id off cs i hx hy hi
    split at hs
    · rename_i hg
      split at hs
      · rename_i blk hblk
        simp only [Option.map_eq_some_iff] at hs
        obtain ⟨cs', hcs, rfl⟩ := hs
        have ex := rep_evA hR.slots x
        rw [hx] at ex
        obtain ⟨b, h1, h2⟩ := ex
        have ey := boxA_spec hy (rep_evA hR.slots y)
        obtain ⟨b', g1, g2, g3⟩ := hR.heap.at_ id blk hblk
        rw [h1] at g1; simp only [Option.some.injEq] at g1; subst g1
        obtain ⟨k1, k2⟩ := splice_spec hcs
        have hst := run_storeCells_at (P := P) b off blk.t (flat cs) 0 (flat blk.cs).toArray w g3 (by simpa using k2) (okC_one hg.2)
        have hrun : (execOp a.eval o).run P w = .ok .skip (w.setRow b (flat cs').toArray) := by
          have hsz : (flat cs).length = i.size := by rw [flat_length]; exact hg.1
          simp only [Nat.add_zero] at hst
          rw [← k1] at hst
          simp [execOp, ho, h2, Instr.storeAt, Instr.sureAddr, storeVar, hsz, run_sizeOf' hi, ey, hst]
        unfold Oper.wp
        rw [hrun]
        refine hK (a.put o.dst undef) _ ⟨hR.slots.put o.dst (by simp [Rep, undef]), ?_, below_setRow hR.below g2 _, ⟨⟨fun j blk' hj => ?_, fun j b' hj => by have := hR.heap.lt j b' hj; simpa using this⟩, hR.heap.inj, fun j hj => ?_⟩⟩
        · have := hR.defers
          cases hd : o.dst <;> simpa [Act.put, hd] using this
        · simp only [setH] at hj
          split at hj
          · rename_i hb
            have := Nat.eq_of_beq_eq_true hb
            subst this
            simp only [Option.some.injEq] at hj; subst hj
            exact ⟨b, h1, g2, setRow_heap w b _ _ blk.t (0, 0) g3⟩
          · rename_i hb
            obtain ⟨b'', e1, e2, e3⟩ := hR.heap.at_ j blk' hj
            refine ⟨b'', e1, e2, ?_⟩
            rw [setRow_other w b b'' _ (fun e => hb (by rw [hR.heap.inj j id b'' e1 (e ▸ h1)]; exact Nat.beq_refl id))]
            exact e3
        · simp only [setH] at hj
          split at hj
          · cases hj
          · exact hR.heap.none_ j hj
      · cases hs
    · cases hs
  · cases hs


/-- A copy from one block into another, by slices of cells. -/
def copyA (P : Program) (t : Sl) (h : Heap) (args : Array Operand) (argTypes : Array TypeId) : Option (AV × Heap) :=
  match args.toList, argTypes.toList with
  | [x, y], [T, U] =>
    match evA t x, evA t y, P.underlying T with
    | .sl id off l _, .sl id' off' l' _, some (.slice e) =>
      match P.info? e, h id, h id' with
      | some i, some blk, some blk' =>
        if Nat.beq i.size 1 then
          match sub blk'.cs off' (Nat.min l' l) with
          | some cs => if okC cs then (spliceB blk.cs off cs).map fun r => (.v (.int .i64 (Nat.min l' l : Nat)), setH h id ⟨r, blk.t⟩) else none
          | none => none
        else none
      | _, _, _ => none
    | _, _, _ => none
  | _, _ => none

theorem copy_wp {w0 : World} {ρ : Names} {A : AA} {a : Act} {w : World} (hR : Rel w0 ρ A.t A.h a w) {o : Oper} {args : Array Operand} {argTypes : Array TypeId} (ho : o.op = .call { callee := .builtin .copy, args := args, argTypes := argTypes }) {r : AV} {h' : Heap} (hs : copyA P A.t A.h args argTypes = some (r, h'))
    {K : Act → World → Prop} {Q : Exit → Act → World → Prop} (hK : ∀ a' w', Rel w0 ρ (putA A.t o.dst r) h' a' w' → K a' w') : o.wp P a w K Q := by
  unfold copyA at hs
  split at hs
  · rename_i x y T U hx hT
    have hx' : args = #[x, y] := by apply Array.toList_inj.1; simpa using hx
    have hT' : argTypes = #[T, U] := by apply Array.toList_inj.1; simpa using hT
    subst hx'; subst hT'
    split at hs
    · rename_i id off l c id' off' l' c' e hx hy hu
      split at hs
      · rename_i i blk blk' hi hblk hblk'
        split at hs
        · rename_i hsz
          split at hs
          · rename_i cs hsub
            split at hs
            · rename_i hok
              simp only [Option.map_eq_some_iff, Prod.mk.injEq] at hs
              obtain ⟨cs', hcs, rfl, rfl⟩ := hs
              have ex := rep_evA hR.slots x
              rw [hx] at ex
              obtain ⟨b, h1, h2⟩ := ex
              have ey := rep_evA hR.slots y
              rw [hy] at ey
              obtain ⟨bs, k1, k2⟩ := ey
              obtain ⟨b', g1, g2, g3⟩ := hR.heap.at_ id blk hblk
              rw [h1] at g1; simp only [Option.some.injEq] at g1; subst g1
              obtain ⟨b', f1, f2, f3⟩ := hR.heap.at_ id' blk' hblk'
              rw [k1] at f1; simp only [Option.some.injEq] at f1; subst f1
              obtain ⟨m1, m2⟩ := splice_spec hcs
              obtain ⟨n1, n2, n3⟩ := sub_spec hsub
              have hcp := run_copy_row (P := P) w T U o.type e b off l c ⟨bs, off', none⟩ l' c' (flat blk.cs).toArray blk.t (flat cs) hu (by rw [hi]; simp [Nat.eq_of_beq_eq_true hsz]) g3 n2
                (fun j v hj => by
                  have hlt : j < (flat cs).length := (List.getElem?_eq_some_iff.1 hj).1
                  have : (flat blk'.cs)[off' + j]? = some v := by
                    rw [← n1] at hj
                    simp only [List.getElem?_take, List.getElem?_drop] at hj
                    rw [if_pos (by omega)] at hj
                    exact hj
                  have hadd : (⟨bs, off', none⟩ : Addr).add j = ⟨bs, off' + j, none⟩ := by unfold Addr.add; split <;> simp_all
                  rw [hadd]
                  simp [World.cell?, f3, this]) (by simpa using m2) (okC_one hok)
              have hrun : (execOp a.eval o).run P w = .ok (.value (.int .i64 (Nat.min l' l : Nat))) (w.setRow b (flat cs').toArray) := by
                simp only [n2] at hcp m1 m2
                rw [← m1] at hcp
                simp only [goInt] at hcp
                simp [execOp, resolve, invoke, builtin, ho, h2, k2, hcp]
              unfold Oper.wp
              rw [hrun]
              refine hK (a.put o.dst _) _ ⟨hR.slots.put o.dst (by simp [Rep]), ?_, below_setRow hR.below g2 _, ⟨⟨fun j blk' hj => ?_, fun j b' hj => by have := hR.heap.lt j b' hj; simpa using this⟩, hR.heap.inj, fun j hj => ?_⟩⟩
              · have := hR.defers
                cases hd : o.dst <;> simpa [Act.put, hd] using this
              · simp only [setH] at hj
                split at hj
                · rename_i hb
                  have := Nat.eq_of_beq_eq_true hb
                  subst this
                  simp only [Option.some.injEq] at hj; subst hj
                  exact ⟨b, h1, g2, setRow_heap w b _ _ blk.t (0, 0) g3⟩
                · rename_i hb
                  obtain ⟨b'', e1, e2, e3⟩ := hR.heap.at_ j blk' hj
                  refine ⟨b'', e1, e2, ?_⟩
                  rw [setRow_other w b b'' _ (fun e => hb (by rw [hR.heap.inj j id b'' e1 (e ▸ h1)]; exact Nat.beq_refl id))]
                  exact e3
              · simp only [setH] at hj
                split at hj
                · cases hj
                · exact hR.heap.none_ j hj
            · cases hs
          · cases hs
        · cases hs
      · cases hs
    · cases hs
  · cases hs

theorem copyA_fresh {t : Sl} {h : Heap} {args : Array Operand} {argTypes : Array TypeId} {r : AV} {h' : Heap} (hs : copyA P t h args argTypes = some (r, h')) {j : Nat} (hj0 : h j = none) : h' j = none := by
  unfold copyA at hs
  split at hs
  · split at hs
    · split at hs
      · rename_i hblk _
        split at hs
        · split at hs
          · split at hs
            · simp only [Option.map_eq_some_iff, Prod.mk.injEq] at hs
              obtain ⟨cs', _, _, rfl⟩ := hs
              rename_i id _ _ _ _ _ _ _ _ _ _ _ _ _ _ _ _ _ _ _
              unfold setH
              split
              · rename_i hb
                have e := Nat.eq_of_beq_eq_true hb
                rw [← e, hj0] at hblk
                cases hblk
              · exact hj0
            · cases hs
          · cases hs
        · cases hs
      · cases hs
    · cases hs
  · cases hs

theorem q_wpOp {w0 w : World} {ρ : Names} {A A' : AA} {a : Act} (henv : EnvOK P env) (hR : Rel w0 ρ A.t A.h a w) {i : Nat} {o : Oper} (ho : ops[i]? = some o)
    (hle : heapless o.op = true ∨ isSt o = true ∨ (∀ i b, h0 i = some b → A.h i = some b)) (hid : A.h (fr + i) = none)
    (hq : qOpA P env h0 ops os fr i o A A') {K : Act → World → Prop} {Q : Exit → Act → World → Prop} (hK : ∀ ρ' a' w', ρ.le ρ' → Rel w0 ρ' A'.t A'.h a' w' → K a' w') : wpOp P ops Q i K a w := by
  unfold wpOp
  simp only [ho]
  rw [wantedA_eq hR.slots]
  rcases hq with ⟨r, nb, ⟨hw, c, hs, hc⟩ | ⟨hw, rfl, rfl⟩, rfl⟩ | ⟨hw, T, x, y, h', hop, hst, rfl⟩
  · simp only [hw, if_true]
    refine .inl ?_
    rcases hle with hh | hh | hh
    · rw [stepQ_heapless hh h0 A.h] at hs
      exact stepQ_wp henv hR (fun _ _ h => h) hid hs hc hK
    · exfalso
      unfold isSt at hh
      split at hh
      · rename_i hop
        rw [hop] at hs
        simp [stepQ, altA, valA] at hs
      · cases hh
    · exact stepQ_wp henv hR hh hid hs hc hK
  · simp only [hw, Bool.false_eq_true, if_false]
    refine hK ρ _ w ρ.le_refl ⟨hR.slots.put o.dst (by simp [Rep, undef]), ?_, hR.below, hR.heap⟩
    have := hR.defers
    cases hd : o.dst <;> simpa [Act.put, hd] using this
  · simp only [hw, if_true]
    exact .inl (store_wp hR hop hst fun a' w' hR' => hK ρ a' w' ρ.le_refl hR')

theorem wpAny_of_A {w0 : World} {ρb : Names} (henv : EnvOK P env) (hmo : memOK md ops = true) {L : Array Bool → AA → Prop} {g : Nat} {Q : Exit → Act → World → Prop} :
    ∀ (f : Nat) (listed : Array Bool) (A : AA), wpAnyA P env h0 md ops os fr n L f listed A →
      ((∀ s os', ops[s]? = some os' → isSt os' = true → listed.getD s false = false) → ∀ i b, h0 i = some b → A.h i = some b) →
      (∀ j oj, ops[j]? = some oj → listed.getD j false = true → ∀ e ∈ oj.after, Region.binds md e = true → listed.getD e.on false = true) →
      (∀ j, listed.getD j true = false → A.h (fr + j) = none) →
      (∀ j, ops.size ≤ j → A.h (fr + j) = none) → listed.size = ops.size →
      (∀ listed' A' ρ' a' w', L listed' A' → (∀ j, ops.size ≤ j → A'.h (fr + j) = none) → (∀ j, listed'.getD j true = false → A'.h (fr + j) = none) → ρb.le ρ' → Rel w0 ρ' A'.t A'.h a' w' → wpAny P md ops Q g listed' a' w') →
      ∀ ρ a w, ρb.le ρ → Rel w0 ρ A.t A.h a w → wpAny P md ops Q (f + g) listed a w
  | 0, listed, A, h, hle, hcl, hfree, hbig, hsz, hL, ρ, a, w, hb, hR => by rw [Nat.zero_add]; exact hL _ _ _ _ _ h hbig hfree hb hR
  | f + 1, listed, A, h, hle, hcl, hfree, hbig, hsz, hL, ρ, a, w, hb, hR => by
    rw [show f + 1 + g = (f + g) + 1 by omega]
    refine ⟨fun h0 => absurd h0 h.1, fun i hi => ?_⟩
    obtain ⟨hin, o, A', ho, hq, hrest⟩ := h.2 i hi
    obtain ⟨hun, o', ho', hall⟩ := mem_ready.1 hi
    have : o' = o := Option.some.inj (ho'.symm.trans ho)
    subst this
    have hid := hfree i hun
    have hlt : i < listed.size := by rw [hsz]; exact (Array.getElem?_eq_some_iff.1 ho).1
    have hmemle : heapless o'.op = true ∨ isSt o' = true ∨ (∀ i b, h0 i = some b → A.h i = some b) := by
      by_cases hh : heapless o'.op = true
      · exact .inl hh
      · by_cases hs : isSt o' = true
        · exact .inr (.inl hs)
        · refine .inr (.inr (hle fun s os' hos hst => ?_))
          cases hls : listed.getD s false with
          | false => rfl
          | true =>
            exfalso
            have hne : i ≠ s := fun e => by subst e; rw [getD_both hun] at hls; cases hls
            rcases memOK_spec hmo hos ho hne hst with h | h | h
            · exact hh h
            · have := anc_listed hcl 4 s i h (fun ok hk e he hb => by
                have : ok = os' := Option.some.inj (hk.symm.trans hos)
                subst this
                exact hcl s ok hos hls e he hb)
              rw [getD_both hun] at this
              cases this
            · exact hs h.1
    refine q_wpOp henv hR ho hmemle hid hq fun ρ' a' w' hl hR' => ?_
    refine wpAny_of_A henv hmo f _ _ hrest (fun hns => ?_) (fun j oj hj hlj e he hbn => ?_) (qOpA_free hlt hq hfree) (fun j hj => ?_) (by simpa using hsz) hL ρ' a' w' (Names.le_trans hb hl) hR'
    · -- no store yet
      have hle' := hle fun s os' hos hst => by
        have := hns s os' hos hst
        by_cases hsi : i = s
        · subst hsi; simp [hlt] at this
        · rw [getD_set_ne false hsi] at this; exact this
      have hnst : isSt o' = false := by
        cases hs : isSt o' with
        | false => rfl
        | true =>
          have := hns i o' ho hs
          simp [hlt] at this
      rcases hq with ⟨r, nb, _, rfl⟩ | ⟨_, T, x, y, h', hop, hst, rfl⟩
      · exact updH_keeps hle' hid nb
      · rw [show isSt o' = true by simp [isSt, hop]] at hnst; cases hnst
    · by_cases hij : i = j
      · subst hij
        have : oj = o' := Option.some.inj (hj.symm.trans ho)
        subst this
        exact getD_set_true (hall e he hbn)
      · rw [getD_set_ne false hij] at hlj
        exact getD_set_true (hcl j oj hj hlj e he hbn)
    · have hn := hbig j hj
      have hlt' : i < ops.size := (Array.getElem?_eq_some_iff.1 ho).1
      rcases hq with ⟨r, nb, _, rfl⟩ | ⟨_, T, x, y, h', _, hst, rfl⟩
      · cases nb with
        | none => exact hn
        | some blk =>
          have hb : Nat.beq (fr + j) (fr + i) = false := by
            cases hb : Nat.beq (fr + j) (fr + i) with
            | false => rfl
            | true => have := Nat.eq_of_beq_eq_true hb; omega
          show (if Nat.beq (fr + j) (fr + i) = true then some blk else A.h (fr + j)) = none
          rw [hb]
          exact hn
      · exact storeA_fresh hst hn
end
end Go.Ev
