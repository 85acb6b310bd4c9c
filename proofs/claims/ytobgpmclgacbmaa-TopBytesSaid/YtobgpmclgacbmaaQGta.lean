/- Pruned: Gta. -/
import Derived.Test.YtobgpmclgacbmaaQHa
import Derived.Test.YtobgpmclgacbmaaQGb
/- The points of the first curve are a group. Nothing here names a program. -/
set_option linter.unusedVariables false
set_option linter.unusedSimpArgs false
namespace Go.Ev
def ivE (x : Fin Pp) : Fin Pp := pwP x 4002409555221667393417789825735904156556882819939007885332058136124031650490837864442687629129015664037894272559785
theorem mul_ivE {x : Fin Pp} (h : x ≠ 0) : x * ivE x = 1 := mul_invP h
theorem twoE_ne : (2 : Fin Pp) ≠ 0 := by decide
theorem noTwoE (x y : Fin Pp) (h : y * y = x * x * x + 4) : y ≠ 0 := fun e => by
  subst e
  have h4 : x * x * x = -4 := by grobner
  have hx : x ≠ 0 := fun e => by
    subst e
    exact absurd h4 (by decide)
  have hi := mul_ivE hx
  generalize ivE x = i at hi
  refine no_cube (n := -(2 * i)) ?_
  have e3 : (x * i) * (x * i) * (x * i) = x * x * x * (i * i * i) := by clear h h4 hi; grobner
  rw [hi, h4] at e3
  clear h h4 hi hx
  grobner
/-- Points of the curve. -/
abbrev PtE := Option (Fin Pp × Fin Pp)
def onE1 : PtE → Prop
  | none => True
  | some p => p.2 * p.2 = p.1 * p.1 * p.1 + 4
def ngE1 : PtE → PtE
  | none => none
  | some p => some (p.1, -p.2)
def slE1 (x1 y1 x2 y2 : Fin Pp) : Fin Pp := if x1 = x2 then 3 * x1 * x1 * ivE (2 * y1) else (y2 - y1) * ivE (x2 - x1)
/-- The third point on a line, turned over. -/
def thE1 (l x1 y1 x2 : Fin Pp) : Fin Pp × Fin Pp := (l * l - x1 - x2, -(y1 + l * (l * l - x1 - x2 - x1)))
def adE1 : PtE → PtE → PtE
  | none, q => q
  | some p, none => some p
  | some p, some q => if p.1 = q.1 ∧ p.2 + q.2 = 0 then none else some (thE1 (slE1 p.1 p.2 q.1 q.2) p.1 p.2 q.1)
theorem canE {a x y : Fin Pp} (h : a ≠ 0) (e : a * x = a * y) : x = y := by
  have : a * (x - y) = 0 := by grind
  rcases no_zeroP this with h1 | h1
  · exact absurd h1 h
  · grind
/-- The slope of a line through two points that are not each other's negative. -/
structure LnE (x y l u s : Fin Pp) : Prop where
  sum : u + s = l * l - 3 * x
  prod : u * s = 3 * x * x - 2 * y * l
theorem sameyE {x y1 y : Fin Pp} (h1 : y1 * y1 = x * x * x + 4) (h : y * y = x * x * x + 4) (hn : y1 + y ≠ 0) : y1 = y := by
  have : (y1 + y) * (y1 - y) = 0 := by grind
  rcases no_zeroP this with e | e
  · exact absurd e hn
  · grind
theorem chordE {x1 y1 x y : Fin Pp} (h1 : y1 * y1 = x1 * x1 * x1 + 4) (h : y * y = x * x * x + 4) (hn : ¬ (x1 = x ∧ y1 + y = 0)) :
    ∃ l u s, x1 = x + u ∧ y1 = y + l * u ∧ LnE x y l u s ∧ adE1 (some (x1, y1)) (some (x, y)) = some (x + s, -(y + l * s)) := by
  have ha : adE1 (some (x1, y1)) (some (x, y)) = some (thE1 (slE1 x1 y1 x y) x1 y1 x) := by
    show (if x1 = x ∧ y1 + y = 0 then none else some (thE1 (slE1 x1 y1 x y) x1 y1 x)) = _
    rw [if_neg hn]
  rw [ha]
  by_cases e : x1 = x
  · subst e
    have e2 := sameyE h1 h (fun e2 => hn ⟨rfl, e2⟩)
    subst e2
    have hy := noTwoE _ _ h
    have h2 : (2 : Fin Pp) * y1 ≠ 0 := fun e => by rcases no_zeroP e with e | e; exact twoE_ne e; exact hy e
    have hi := mul_ivE h2
    have hl : slE1 x1 y1 x1 y1 = 3 * x1 * x1 * ivE (2 * y1) := by unfold slE1; rw [if_pos rfl]
    rw [hl]
    generalize ivE (2 * y1) = i at hi
    refine ⟨3 * x1 * x1 * i, 0, (3 * x1 * x1 * i) * (3 * x1 * x1 * i) - 3 * x1, by grind, by grind, ⟨by grind, by grind⟩, ?_⟩
    have e1 : (3 * x1 * x1 * i) * (3 * x1 * x1 * i) - x1 - x1 = x1 + ((3 * x1 * x1 * i) * (3 * x1 * x1 * i) - 3 * x1) := by grind
    unfold thE1
    rw [e1]
    congr 2
    grind
  · have hd : x - x1 ≠ 0 := fun e2 => e (by grind)
    have hi := mul_ivE hd
    have hl : slE1 x1 y1 x y = (y - y1) * ivE (x - x1) := by unfold slE1; rw [if_neg e]
    rw [hl]
    generalize ivE (x - x1) = i at hi
    have hk : (x - x1) * ((y - y1) * i) = y - y1 := by grind
    generalize (y - y1) * i = l at hk
    refine ⟨l, x1 - x, l * l - 3 * x - (x1 - x), by grind, by grind, ⟨by grind, ?_⟩, ?_⟩
    · refine canE hd ?_
      grind
    · unfold thE1
      congr 2 <;> grind
theorem chorduE {x y l u s : Fin Pp} (h : y * y = x * x * x + 4) (h1 : (y + l * u) * (y + l * u) = (x + u) * (x + u) * (x + u) + 4) (hL : LnE x y l u s) (hn : ¬ (x + u = x ∧ (y + l * u) + y = 0)) :
    adE1 (some (x + u, y + l * u)) (some (x, y)) = some (x + s, -(y + l * s)) := by
  obtain ⟨l', u', s', e1, e2, hL', e3⟩ := chordE h1 h hn
  rw [e3]
  have hu : u = u' := by grind
  subst hu
  obtain ⟨a1, a2⟩ := hL
  obtain ⟨b1, b2⟩ := hL'
  have hl : l = l' := by
    by_cases h0 : u = 0
    · subst h0
      have hy := noTwoE _ _ h
      have h2 : (2 : Fin Pp) * y ≠ 0 := fun e => by rcases no_zeroP e with e | e; exact twoE_ne e; exact hy e
      exact canE h2 (by grind)
    · exact canE h0 (by grind)
  subst hl
  have hs : s = s' := by grind
  subst hs
  rfl
theorem LnE.third {x y l u s : Fin Pp} (h : y * y = x * x * x + 4) (hL : LnE x y l u s) : (y + l * s) * (y + l * s) = (x + s) * (x + s) * (x + s) + 4 := by
  obtain ⟨a1, a2⟩ := hL
  have e : u = l * l - 3 * x - s := by grind
  subst e
  have h3 : (l * l - 3 * x - s) * s - (3 * x * x - 2 * y * l) = 0 := by grind
  have key : (y + l * s) * (y + l * s) - ((x + s) * (x + s) * (x + s) + 4) = (y * y - (x * x * x + 4)) + s * ((l * l - 3 * x - s) * s - (3 * x * x - 2 * y * l)) := by grind
  rw [h3, h] at key
  grind
theorem onE_ad {p q : PtE} (hp : onE1 p) (hq : onE1 q) : onE1 (adE1 p q) := by
  match p, q, hp, hq with
  | none, q, _, hq => exact hq
  | some p, none, hp, _ => exact hp
  | some (x1, y1), some (x, y), hp, hq =>
    by_cases hn : x1 = x ∧ y1 + y = 0
    · have : adE1 (some (x1, y1)) (some (x, y)) = none := by show (if x1 = x ∧ y1 + y = 0 then none else _) = _; rw [if_pos hn]
      rw [this]; trivial
    · obtain ⟨l, u, s, _, _, hL, e⟩ := chordE hp hq hn
      rw [e]
      have := hL.third hq
      show -(y + l * s) * -(y + l * s) = (x + s) * (x + s) * (x + s) + 4
      grind
theorem onE_ng {p : PtE} (hp : onE1 p) : onE1 (ngE1 p) := by
  match p, hp with
  | none, _ => trivial
  | some (x, y), hp =>
    have hp : y * y = x * x * x + 4 := hp
    show -y * -y = x * x * x + 4
    grind
theorem adE_none {x1 y1 x y : Fin Pp} (hn : x1 = x ∧ y1 + y = 0) : adE1 (some (x1, y1)) (some (x, y)) = none := by show (if x1 = x ∧ y1 + y = 0 then none else _) = _; rw [if_pos hn]
theorem adE_comm {p q : PtE} (hp : onE1 p) (hq : onE1 q) : adE1 p q = adE1 q p := by
  match p, q, hp, hq with
  | none, none, _, _ => rfl
  | none, some _, _, _ => rfl
  | some p, none, _, _ => rfl
  | some (x1, y1), some (x, y), hp, hq =>
    by_cases hn : x1 = x ∧ y1 + y = 0
    · rw [adE_none hn, adE_none ⟨hn.1.symm, by rw [← hn.2]; grind⟩]
    · obtain ⟨l, u, s, e1, e2, hL, e⟩ := chordE hp hq hn
      rw [e]
      subst e1 e2
      have hp : (y + l * u) * (y + l * u) = (x + u) * (x + u) * (x + u) + 4 := hp
      have hq : y * y = x * x * x + 4 := hq
      obtain ⟨a1, a2⟩ := hL
      have hM : LnE (x + u) (y + l * u) l (-u) (s - u) := ⟨by grind, by grind⟩
      have h := chorduE (x := x + u) (y := y + l * u) (l := l) (u := -u) (s := s - u) hp (by
        have ex : x + u + -u = x := by grind
        have ey : y + l * u + l * -u = y := by grind
        rw [ex, ey]; exact hq) hM (fun hc => hn ⟨by grind, by grind⟩)
      have ex : x + u + -u = x := by grind
      have ey : y + l * u + l * -u = y := by grind
      rw [ex, ey] at h
      rw [h]
      congr 2 <;> grind
theorem adE_ng {p : PtE} : adE1 p (ngE1 p) = none := by
  match p with
  | none => rfl
  | some (x, y) => exact adE_none ⟨rfl, by grind⟩
/-- What was added is taken away. -/
theorem adE_back {p q : PtE} (hp : onE1 p) (hq : onE1 q) : adE1 (adE1 p q) (ngE1 q) = p := by
  match p, q, hp, hq with
  | none, none, _, _ => rfl
  | none, some q, _, _ => exact adE_ng
  | some p, none, _, _ => rfl
  | some (x1, y1), some (x, y), hp, hq =>
    by_cases hn : x1 = x ∧ y1 + y = 0
    · rw [adE_none hn]
      show some (x, -y) = some (x1, y1)
      congr 2
      · exact hn.1.symm
      · have := hn.2; grind
    · obtain ⟨l, u, s, e1, e2, hL, e⟩ := chordE hp hq hn
      rw [e]
      subst e1 e2
      have hp : (y + l * u) * (y + l * u) = (x + u) * (x + u) * (x + u) + 4 := hp
      have hq : y * y = x * x * x + 4 := hq
      have ht := hL.third hq
      obtain ⟨a1, a2⟩ := hL
      have hy := noTwoE _ _ hq
      have hM : LnE x (-y) (-l) s u := ⟨by grind, by grind⟩
      have h := chorduE (x := x) (y := -y) (l := -l) (u := s) (s := u) (by grind) (by grind) hM (fun hc => by
        have h0 : s = 0 := by grind
        subst h0
        have h2 : (2 : Fin Pp) * y = 0 := by grind
        rcases no_zeroP h2 with e | e
        · exact twoE_ne e
        · exact hy e)
      have ey : -y + -l * s = -(y + l * s) := by grind
      rw [ey] at h
      show adE1 (some (x + s, -(y + l * s))) (some (x, -y)) = _
      rw [h]
      congr 2
      grind
theorem twoyE {x y : Fin Pp} (h : y * y = x * x * x + 4) : (2 : Fin Pp) * y ≠ 0 := fun e => by
  rcases no_zeroP e with e | e
  · exact twoE_ne e
  · exact noTwoE _ _ h e
/-- From the two slopes. -/
theorem asE_x {x l m k4 v s3 s4 t : Fin Pp} (ht : t = m * m - 3 * x - v) (h3 : s3 = (k4 + m - l) * (k4 + m - l) - 3 * (x + v) - (l * l - 3 * x - (v + (l - m) * (k4 + m)) - v)) (h4 : s4 = k4 * k4 - 3 * (x + t) - (v + (l - m) * (k4 + m) - t)) :
    x + v + s3 = x + t + s4 := by subst h3 h4 ht; grobner
theorem asE_y {x y l m k4 v s3 s4 t : Fin Pp} (ht : t = m * m - 3 * x - v) (h3 : s3 = (k4 + m - l) * (k4 + m - l) - 3 * (x + v) - (l * l - 3 * x - (v + (l - m) * (k4 + m)) - v)) (h4 : s4 = k4 * k4 - 3 * (x + t) - (v + (l - m) * (k4 + m) - t)) (d3 : y + m * t = k4 * (v + (l - m) * (k4 + m) - t) - (y + l * (v + (l - m) * (k4 + m)))) :
    -((y + m * v) + (k4 + m - l) * s3) = -(-(y + m * t) + k4 * s4) := by rw [d3]; subst h3 h4 ht; grobner
theorem assocE {x y l u s m v t k3 k4 s3 s4 : Fin Pp} (a1 : u + s = l * l - 3 * x) (b1 : v + t = m * m - 3 * x)
    (c1 : (s - v) + s3 = k3 * k3 - 3 * (x + v)) (d1 : (u - t) + s4 = k4 * k4 - 3 * (x + t)) (d3 : y + l * u = -(y + m * t) + k4 * (u - t))
    (F1 : k3 + l = k4 + m) (F2 : (l - m) * (k4 + m) = u - v) :
    (x + v + s3, -((y + m * v) + k3 * s3)) = (x + t + s4, -(-(y + m * t) + k4 * s4)) := by
  have hk : k3 = k4 + m - l := by clear a1 b1 c1 d1 d3 F2; grobner
  subst hk
  have hu : u = v + (l - m) * (k4 + m) := by clear a1 b1 c1 d1 d3 F1; grobner
  have hs : s = l * l - 3 * x - u := by clear b1 c1 d1 d3 F1 F2 hu; grobner
  have ht : t = m * m - 3 * x - v := by clear a1 c1 d1 d3 F1 F2 hu hs; grobner
  have h3 : s3 = (k4 + m - l) * (k4 + m - l) - 3 * (x + v) - (s - v) := by clear a1 b1 d1 d3 F1 F2 hu hs ht; grobner
  have h4 : s4 = k4 * k4 - 3 * (x + t) - (u - t) := by clear a1 b1 c1 d3 F1 F2 hu hs ht h3; grobner
  have d4 : y + m * t = k4 * (u - t) - (y + l * u) := by clear a1 b1 c1 d1 F1 F2 hu hs ht h3 h4; grobner
  rw [hs] at h3
  clear a1 b1 c1 d1 d3 F1 F2 hs
  subst hu
  exact Prod.ext (asE_x ht h3 h4) (asE_y ht h3 h4 d4)
theorem asE_d {x y l u s m v t k4 : Fin Pp} (a1 : u + s = l * l - 3 * x) (b1 : v + t = m * m - 3 * x) (hR : u * s + 2 * y * l = v * t + 2 * y * m) (hq : k4 * (u - t) = 2 * y + l * u + m * t) :
    (u - t) * ((l - m) * (k4 + m)) = (u - t) * (u - v) := by
  have e : (u - t) * ((l - m) * (k4 + m)) = (l - m) * (k4 * (u - t) + m * (u - t)) := by clear a1 b1 hR hq; grobner
  rw [e, hq]
  clear e hq
  have hs : s = l * l - 3 * x - u := by clear b1 hR; grobner
  have ht : t = m * m - 3 * x - v := by clear a1 hR hs; grobner
  clear a1 b1
  subst hs ht
  grobner
theorem asE_a {x y l u s m v t k3 : Fin Pp} (a1 : u + s = l * l - 3 * x) (b1 : v + t = m * m - 3 * x) (hR : u * s + 2 * y * l = v * t + 2 * y * m) (hp : k3 * (s - v) = -(2 * y + l * s + m * v)) :
    (s - v) * ((l - m) * (k3 + l)) = (s - v) * (u - v) := by
  have e : (s - v) * ((l - m) * (k3 + l)) = (l - m) * (k3 * (s - v) + l * (s - v)) := by clear a1 b1 hR hp; grobner
  rw [e, hp]
  clear e hp
  have hs : s = l * l - 3 * x - u := by clear b1 hR; grobner
  have ht : t = m * m - 3 * x - v := by clear a1 hR hs; grobner
  clear a1 b1
  subst hs ht
  grobner
theorem asE_g {x y l u s m v t k3 k4 : Fin Pp} (a1 : u + s = l * l - 3 * x) (b1 : v + t = m * m - 3 * x) (hR : u * s + 2 * y * l = v * t + 2 * y * m) (hp : k3 * (s - v) = -(2 * y + l * s + m * v)) (hq : k4 * (u - t) = 2 * y + l * u + m * t) :
    (s - v) * ((u - t) * (k3 + l)) = (s - v) * ((u - t) * (k4 + m)) := by
  have e1 : (s - v) * ((u - t) * (k3 + l)) = (u - t) * (k3 * (s - v) + l * (s - v)) := by clear a1 b1 hR hp hq; grobner
  have e2 : (s - v) * ((u - t) * (k4 + m)) = (s - v) * (k4 * (u - t) + m * (u - t)) := by clear a1 b1 hR hp hq e1; grobner
  rw [e1, e2, hp, hq]
  clear e1 e2 hp hq
  have hs : s = l * l - 3 * x - u := by clear b1 hR; grobner
  have ht : t = m * m - 3 * x - v := by clear a1 hR hs; grobner
  clear a1 b1
  subst hs ht
  grobner
theorem asE_ta {x y l u s m k3 s3 : Fin Pp} (a1 : u + s = l * l - 3 * x) (a2 : u * s = 3 * x * x - 2 * y * l) (c2 : (s - s) * s3 = 3 * (x + s) * (x + s) - 2 * (y + m * s) * k3) (hyy : -(y + l * s) = y + m * s) :
    s * ((l - m) * (k3 + l)) = s * (u - s) := by
  have h2 : 2 * (y + m * s) = (m - l) * s := by clear a1 a2 c2; grobner
  have h5 : 2 * y = -((l + m) * s) := by clear a1 a2 c2 h2; grobner
  have h4 : 3 * x * x = u * s + 2 * y * l := by clear a1 c2 h2 h5; grobner
  rw [h5] at h4
  rw [h2] at c2
  have e1 : s * ((l - m) * (k3 + l)) = s * (l - m) * l - (m - l) * s * k3 := by clear a1 a2 c2 hyy h2 h5 h4; grobner
  have e2 : (m - l) * s * k3 = 3 * x * x + 2 * (3 * x) * s + 3 * s * s := by clear a1 a2 hyy h2 h5 h4 e1; grobner
  have e3 : 3 * x = l * l - u - s := by clear a2 c2 hyy h2 h5 h4 e1 e2; grobner
  rw [e1, e2, h4, e3]
  clear a1 a2 c2 hyy h2 h5 h4 e1 e2 e3
  grobner
theorem asE_td {x y l u m v k4 s4 : Fin Pp} (b1 : v + u = m * m - 3 * x) (b2 : v * u = 3 * x * x - 2 * y * m) (d2 : (u - u) * s4 = 3 * (x + u) * (x + u) - 2 * (-(y + m * u)) * k4) (hyy : y + l * u = -(y + m * u)) :
    u * ((l - m) * (k4 + m)) = u * (u - v) := by
  have h2 : 2 * (-(y + m * u)) = (l - m) * u := by clear b1 b2 d2; grobner
  have h5 : 2 * y = -((l + m) * u) := by clear b1 b2 d2 h2; grobner
  have h4 : 3 * x * x = v * u + 2 * y * m := by clear b1 d2 h2 h5; grobner
  rw [h5] at h4
  rw [h2] at d2
  have e1 : u * ((l - m) * (k4 + m)) = u * (l - m) * m + (l - m) * u * k4 := by clear b1 b2 d2 hyy h2 h5 h4; grobner
  have e2 : (l - m) * u * k4 = 3 * x * x + 2 * (3 * x) * u + 3 * u * u := by clear b1 b2 hyy h2 h5 h4 e1; grobner
  have e3 : 3 * x = m * m - v - u := by clear b2 d2 hyy h2 h5 h4 e1 e2; grobner
  rw [e1, e2, h4, e3]
  clear b1 b2 d2 hyy h2 h5 h4 e1 e2 e3
  grobner
theorem asE_1 {s v x : Fin Pp} (h : x + s = x + v) : s = v := by grobner
theorem asE_2 {a b : Fin Pp} (h : a - b = 0) : a = b := by grobner
theorem asE_3 {y l m s : Fin Pp} (h : -(y + l * s) + (y + m * s) = 0) : (m - l) * s = 0 := by grobner
theorem asE_4 {y l m u : Fin Pp} (h : (y + l * u) + -(y + m * u) = 0) : (m - l) * u = 0 := by grobner
theorem asE_5 {l m : Fin Pp} (h : m - l = 0) : l = m := by grobner
theorem asE_6 {l m y v t u : Fin Pp} (h : u * 0 + 2 * y * l = 0 * t + 2 * y * m) : 2 * y * l = 2 * y * m := by grobner
theorem asE_7 {l m y v s : Fin Pp} (h : 0 * s + 2 * y * l = v * 0 + 2 * y * m) : 2 * y * l = 2 * y * m := by grobner
theorem asE_8 {u s x l t : Fin Pp} (a1 : u + s = l * l - 3 * x) (b1 : s + t = l * l - 3 * x) : u = t := by grobner
theorem asE_9 {u s x l v : Fin Pp} (a1 : u + s = l * l - 3 * x) (b1 : v + u = l * l - 3 * x) : s = v := by grobner
theorem asE_10 {u s x l m : Fin Pp} (a1 : u + s = l * l - 3 * x) (b1 : s + u = m * m - 3 * x) : (l - m) * (l + m) = 0 := by grobner
theorem asE_11 {y l s : Fin Pp} (h : -(y + l * s) = y + l * s) : 2 * (y + l * s) = 0 := by grobner
theorem asE_12 {y l m s : Fin Pp} (h : -(y + l * s) = y + m * s) (e : l + m = 0) : 2 * y = 0 := by
  have : m = -l := by clear h; grobner
  subst this
  clear e
  grobner
theorem asE_13 {u s x l m t : Fin Pp} (a1 : u + s = l * l - 3 * x) (b1 : s + t = m * m - 3 * x) : (l - m) * (l + m) = u - t := by grobner
theorem asE_14 {u s x l m v : Fin Pp} (a1 : u + s = l * l - 3 * x) (b1 : v + u = m * m - 3 * x) : (l - m) * (l + m) = s - v := by grobner
theorem asE_15 {y l m : Fin Pp} (h : -(y + l * 0) = y + m * 0) : 2 * y = 0 := by grobner
theorem asE_16 {y l m : Fin Pp} (h : y + l * 0 = -(y + m * 0)) : 2 * y = 0 := by grobner
theorem asE_17 {y l s m v k3 : Fin Pp} (f2 : -(y + l * s) = y + m * v + k3 * (s - v)) : k3 * (s - v) = -(2 * y + l * s + m * v) := by grobner
theorem asE_18 {y l u m t k4 : Fin Pp} (g2 : y + l * u = -(y + m * t) + k4 * (u - t)) : k4 * (u - t) = 2 * y + l * u + m * t := by grobner
theorem asE_19 {x s v u3 : Fin Pp} (f1 : x + s = x + v + u3) : u3 = s - v := by grobner
theorem asE_20 {a b : Fin Pp} (h : a * a = b) : -a * -a = b := by grobner
theorem asE_21 {u s v t x y l m : Fin Pp} (a2 : u * s = 3 * x * x - 2 * y * l) (b2 : v * t = 3 * x * x - 2 * y * m) : u * s + 2 * y * l = v * t + 2 * y * m := by grobner
theorem asE_22 {l m : Fin Pp} (e : l - m = 0) : (l - m) * (l + m) = 0 := by rw [e]; clear e; grobner
theorem asE_31 {y l u : Fin Pp} : y + l * u + -(y + l * u) = 0 := by grobner
theorem asE_32 {y l s : Fin Pp} : -(y + l * s) + (y + l * s) = 0 := by grobner
theorem adE_assoc3 {x1 y1 x y x2 y2 : Fin Pp} (h1 : y1 * y1 = x1 * x1 * x1 + 4) (h : y * y = x * x * x + 4) (h2 : y2 * y2 = x2 * x2 * x2 + 4)
    (n1 : ¬ (x1 = x ∧ y1 + y = 0)) (n2 : ¬ (x2 = x ∧ y2 + y = 0)) : adE1 (adE1 (some (x1, y1)) (some (x, y))) (some (x2, y2)) = adE1 (some (x1, y1)) (adE1 (some (x2, y2)) (some (x, y))) := by
  obtain ⟨l, u, s, e1, e2, hL, eS⟩ := chordE h1 h n1
  obtain ⟨m, v, t, e3, e4, hM, eT⟩ := chordE h2 h n2
  subst e1 e2 e3 e4
  rw [eS, eT]
  have hS := asE_20 (hL.third h)
  have hT := asE_20 (hM.third h)
  obtain ⟨a1, a2⟩ := hL
  obtain ⟨b1, b2⟩ := hM
  have h2y := twoyE h
  have hR := asE_21 a2 b2
  by_cases n3 : x + s = x + v ∧ -(y + l * s) + (y + m * v) = 0
  · rw [adE_none n3]
    obtain ⟨p1, p2⟩ := n3
    have hs := asE_1 p1
    subst hs
    have hml : l = m := by
      rcases no_zeroP (asE_3 p2) with e | e
      · exact asE_5 e
      · subst e
        exact canE h2y (asE_6 (v := 0) hR)
    subst hml
    have hu := asE_8 a1 b1
    subst hu
    rw [adE_none ⟨rfl, asE_31⟩]
  · by_cases n4 : x + u = x + t ∧ (y + l * u) + -(y + m * t) = 0
    · exfalso
      obtain ⟨p1, p2⟩ := n4
      have hu := asE_1 p1
      subst hu
      have hml : l = m := by
        rcases no_zeroP (asE_4 p2) with e | e
        · exact asE_5 e
        · subst e
          exact canE h2y (asE_7 hR)
      subst hml
      have hs := asE_9 a1 b1
      subst hs
      exact n3 ⟨rfl, asE_32⟩
    · obtain ⟨k3, u3, s3, f1, f2, ⟨c1, c2⟩, eL⟩ := chordE (x1 := x + s) (y1 := -(y + l * s)) (x := x + v) (y := y + m * v) hS h2 n3
      obtain ⟨k4, u4, s4, g1, g2, ⟨d1, d2⟩, eR⟩ := chordE (x1 := x + u) (y1 := y + l * u) (x := x + t) (y := -(y + m * t)) h1 hT n4
      rw [eL, eR]
      have hu3 := asE_19 f1
      have hu4 := asE_19 g1
      subst hu3 hu4
      have key : k3 + l = k4 + m ∧ (l - m) * (k4 + m) = u - v := by
        by_cases ha : s - v = 0
        · have hs := asE_2 ha
          subst hs
          have hyy := sameyE hS h2 (fun e => n3 ⟨rfl, e⟩)
          by_cases hd : u - t = 0
          · exfalso
            have hu := asE_2 hd
            subst hu
            rcases no_zeroP (asE_10 a1 b1) with e | e
            · have := asE_2 e
              subst this
              exact twoyE h2 (asE_11 hyy)
            · exact h2y (asE_12 hyy e)
          · have hw := asE_13 a1 b1
            have hl0 : l - m ≠ 0 := fun e => hd (by rw [← hw]; exact asE_22 e)
            have hs0 : s ≠ 0 := fun e => by subst e; exact h2y (asE_15 hyy)
            have F2 := canE hd (asE_d a1 b1 hR (asE_18 g2))
            have F3 := canE hs0 (asE_ta a1 a2 c2 hyy)
            exact ⟨canE hl0 (by rw [F3, F2]), F2⟩
        · by_cases hd : u - t = 0
          · have hu := asE_2 hd
            subst hu
            have hyy2 := sameyE h1 hT (fun e => n4 ⟨rfl, e⟩)
            have hw := asE_14 a1 b1
            have hl0 : l - m ≠ 0 := fun e => ha (by rw [← hw]; exact asE_22 e)
            have hu0 : u ≠ 0 := fun e => by subst e; exact h2y (asE_16 hyy2)
            have F3 := canE ha (asE_a a1 b1 hR (asE_17 f2))
            have F2 := canE hu0 (asE_td b1 b2 d2 hyy2)
            exact ⟨canE hl0 (by rw [F3, F2]), F2⟩
          · exact ⟨canE hd (canE ha (asE_g a1 b1 hR (asE_17 f2) (asE_18 g2))), canE hd (asE_d a1 b1 hR (asE_18 g2))⟩
      exact congrArg some (assocE a1 b1 c1 d1 g2 key.1 key.2)
theorem asE_30 {y1 y : Fin Pp} (e : y1 + y = 0) : y1 = -y := by grobner
theorem adE_assoc {p q r : PtE} (hp : onE1 p) (hq : onE1 q) (hr : onE1 r) : adE1 (adE1 p q) r = adE1 p (adE1 q r) := by
  match p, q, r, hp, hq, hr with
  | none, _, _, _, _, _ => rfl
  | some _, none, _, _, _, _ => rfl
  | some p, some q, none, hp, hq, _ =>
    have : ∀ z : PtE, adE1 z none = z := fun z => by cases z <;> rfl
    rw [this]; rfl
  | some (x1, y1), some (x, y), some (x2, y2), hp, hq, hr =>
    by_cases n1 : x1 = x ∧ y1 + y = 0
    · rw [adE_none n1]
      have e : (some (x1, y1) : PtE) = ngE1 (some (x, y)) := by
        obtain ⟨rfl, e⟩ := n1
        show some (x1, y1) = some (x1, -y)
        rw [asE_30 e]
      rw [e, adE_comm (onE_ng hq) (onE_ad hq hr), adE_comm hq hr, adE_back hr hq]
      rfl
    · by_cases n2 : x2 = x ∧ y2 + y = 0
      · have e : (some (x2, y2) : PtE) = ngE1 (some (x, y)) := by
          obtain ⟨rfl, e⟩ := n2
          show some (x2, y2) = some (x2, -y)
          rw [asE_30 e]
        rw [e, adE_back hp hq, adE_ng]
        show some (x1, y1) = adE1 (some (x1, y1)) none
        rfl
      · rw [adE_comm hq hr]
        exact adE_assoc3 hp hq hr n1 n2
/-! Points as the program has them stand for these. -/
def afJ (p : Pt1) : PtE := if p.2.2 = 0 then none else some (p.1 * (ivE p.2.2 * ivE p.2.2), p.2.1 * (ivE p.2.2 * ivE p.2.2 * ivE p.2.2))
theorem afJ_none {p : Pt1} (h : p.2.2 = 0) : afJ p = none := by unfold afJ; rw [if_pos h]
theorem afJ_zero {p : Pt1} (h : afJ p = none) : p.2.2 = 0 := by
  unfold afJ at h
  split at h
  · assumption
  · cases h
theorem afE_1 {x z i : Fin Pp} (hi : z * i = 1) : x * (z * z) * (i * i) = x := by
  have e : x * (z * z) * (i * i) = x * ((z * i) * (z * i)) := by clear hi; grobner
  rw [e, hi]; clear e hi; grobner
theorem afE_2 {y z i : Fin Pp} (hi : z * i = 1) : y * (z * z * z) * (i * i * i) = y := by
  have e : y * (z * z * z) * (i * i * i) = y * ((z * i) * (z * i) * (z * i)) := by clear hi; grobner
  rw [e, hi]; clear e hi; grobner
theorem afE_3 {x z i : Fin Pp} (hi : z * i = 1) : x = x * (i * i) * (z * z) := by
  have e : x * (i * i) * (z * z) = x * ((z * i) * (z * i)) := by clear hi; grobner
  rw [e, hi]; clear e hi; grobner
theorem afE_4 {x z i : Fin Pp} (hi : z * i = 1) : x = x * (i * i * i) * (z * z * z) := by
  have e : x * (i * i * i) * (z * z * z) = x * ((z * i) * (z * i) * (z * i)) := by clear hi; grobner
  rw [e, hi]; clear e hi; grobner
theorem afJ_of {z x y : Fin Pp} (hz : z ≠ 0) : afJ (x * (z * z), y * (z * z * z), z) = some (x, y) := by
  have hi := mul_ivE hz
  unfold afJ
  rw [if_neg hz]
  show some (x * (z * z) * (ivE z * ivE z), y * (z * z * z) * (ivE z * ivE z * ivE z)) = _
  rw [afE_1 hi, afE_2 hi]
theorem afJ_some (p : Pt1) (hz : p.2.2 ≠ 0) : ∃ x y, p = (x * (p.2.2 * p.2.2), y * (p.2.2 * p.2.2 * p.2.2), p.2.2) ∧ afJ p = some (x, y) := by
  obtain ⟨X, Y, z⟩ := p
  have hi := mul_ivE hz
  refine ⟨X * (ivE z * ivE z), Y * (ivE z * ivE z * ivE z), ?_, ?_⟩
  · show (X, Y, z) = (X * (ivE z * ivE z) * (z * z), Y * (ivE z * ivE z * ivE z) * (z * z * z), z)
    rw [← afE_3 hi, ← afE_4 hi]
  · unfold afJ; rw [if_neg hz]
theorem dblE_x {x y z l s : Fin Pp} (hl : 0 * s = 3 * x * x - 2 * y * l) (hs : 0 + s = l * l - 3 * x) : (dbl1 (x * (z * z), y * (z * z * z), z)).1 = (x + s) * ((dbl1 (x * (z * z), y * (z * z * z), z)).2.2 * (dbl1 (x * (z * z), y * (z * z * z), z)).2.2) := by
  have h1 : 2 * y * l = 3 * x * x := by clear hs; grobner
  have h2 : s = l * l - 3 * x := by clear hl h1; grobner
  simp only [dbl1]
  have e : (x + s) * ((y * (z * z * z) * z + y * (z * z * z) * z) * (y * (z * z * z) * z + y * (z * z * z) * z)) = ((2 * y * l) * (2 * y * l) - 2 * x * (2 * y) * (2 * y)) * (z * z * z * z * z * z * z * z) := by
    rw [h2]; clear hl hs h1 h2; grobner
  rw [e, h1]
  clear hl hs h1 h2 e
  grobner
theorem dblE_y {x y z l s : Fin Pp} (hl : 0 * s = 3 * x * x - 2 * y * l) (hs : 0 + s = l * l - 3 * x) : (dbl1 (x * (z * z), y * (z * z * z), z)).2.1 = -(y + l * s) * ((dbl1 (x * (z * z), y * (z * z * z), z)).2.2 * (dbl1 (x * (z * z), y * (z * z * z), z)).2.2 * (dbl1 (x * (z * z), y * (z * z * z), z)).2.2) := by
  have h1 : 2 * y * l = 3 * x * x := by clear hs; grobner
  have h2 : s = l * l - 3 * x := by clear hl h1; grobner
  simp only [dbl1]
  have e : -(y + l * s) * ((y * (z * z * z) * z + y * (z * z * z) * z) * (y * (z * z * z) * z + y * (z * z * z) * z) * (y * (z * z * z) * z + y * (z * z * z) * z)) = -(y * (2 * y) * (2 * y) * (2 * y) + (2 * y * l) * ((2 * y * l) * (2 * y * l) - 3 * x * (2 * y) * (2 * y))) * (z * z * z * z * z * z * z * z * z * z * z * z) := by
    rw [h2]; clear hl hs h1 h2; grobner
  rw [e, h1]
  clear hl hs h1 h2 e
  grobner
theorem dblE_z {x y z : Fin Pp} : (dbl1 (x * (z * z), y * (z * z * z), z)).2.2 = (2 * y) * (z * z * z * z) := by
  simp only [dbl1]
  grobner
theorem neE {a b : Fin Pp} (h1 : a ≠ 0) (h2 : b ≠ 0) : a * b ≠ 0 := fun e => by
  rcases no_zeroP e with e | e
  · exact h1 e
  · exact h2 e
theorem asE_41 {y : Fin Pp} (h : y + y = 0) : 2 * y = 0 := by grobner
theorem asE_40 {x u : Fin Pp} (h : x = x + u) : u = 0 := by grobner
theorem afJ_dbl {x y z : Fin Pp} (hz : z ≠ 0) (h : y * y = x * x * x + 4) : afJ (dbl1 (x * (z * z), y * (z * z * z), z)) = adE1 (some (x, y)) (some (x, y)) := by
  have h2 := twoyE h
  obtain ⟨l, u, s, e1, e2, ⟨a1, a2⟩, e⟩ := chordE h h (fun hn => h2 (by have := hn.2; exact asE_41 this))
  rw [e]
  have hu := asE_40 e1
  subst hu
  have hx := dblE_x (z := z) a2 a1
  have hy := dblE_y (z := z) a2 a1
  have hzz : (dbl1 (x * (z * z), y * (z * z * z), z)).2.2 ≠ 0 := by
    rw [dblE_z]
    exact neE h2 (neE (neE (neE hz hz) hz) hz)
  generalize dbl1 (x * (z * z), y * (z * z * z), z) = d at hx hy hzz
  obtain ⟨X, Y, Z⟩ := d
  have hx : X = (x + s) * (Z * Z) := hx
  have hy : Y = -(y + l * s) * (Z * Z * Z) := hy
  rw [hx, hy]
  exact afJ_of hzz
theorem afJ_twc (p : Pt1) (h : onE1 (afJ p)) : afJ (twc1 p) = adE1 (afJ p) (afJ p) := by
  by_cases hz : p.2.2 = 0
  · rw [twc1_inf p hz, afJ_none hz]; rfl
  · obtain ⟨x, y, e, ea⟩ := afJ_some p hz
    rw [ea] at h ⊢
    unfold twc1
    rw [if_neg hz, e]
    exact afJ_dbl hz h
/-! Sums -/
theorem gnE_h {x1 x2 z1 z2 : Fin Pp} : x2 * (z2 * z2) * (z1 * z1) - x1 * (z1 * z1) * (z2 * z2) = (x2 - x1) * (z1 * z2) * (z1 * z2) := by grobner
theorem gnE_r {y1 y2 z1 z2 : Fin Pp} : y2 * (z2 * z2 * z2) * (z1 * z1) * z1 - y1 * (z1 * z1 * z1) * (z2 * z2) * z2 = (y2 - y1) * (z1 * z2) * (z1 * z2) * (z1 * z2) := by grobner
theorem gnE_x {x1 y1 x2 y2 z1 z2 l s : Fin Pp} (hl : l * (x2 - x1) = y2 - y1) (hs : s = l * l - 3 * x2 - (x1 - x2)) :
    (gen1 (x1 * (z1 * z1), y1 * (z1 * z1 * z1), z1) (x2 * (z2 * z2), y2 * (z2 * z2 * z2), z2)).1 = (x2 + s) * (((x2 - x1) * (z1 * z2) * (z1 * z2) * z1 * z2) * ((x2 - x1) * (z1 * z2) * (z1 * z2) * z1 * z2)) := by
  simp only [gen1, hP1, rP1, gnE_h, gnE_r]
  have e : (x2 + s) * (((x2 - x1) * (z1 * z2) * (z1 * z2) * z1 * z2) * ((x2 - x1) * (z1 * z2) * (z1 * z2) * z1 * z2)) = ((l * (x2 - x1)) * (l * (x2 - x1)) - (x1 + x2) * (x2 - x1) * (x2 - x1)) * ((z1 * z2) * (z1 * z2) * (z1 * z2)) * ((z1 * z2) * (z1 * z2) * (z1 * z2)) := by
    rw [hs]; clear hl hs; grobner
  rw [e, hl]
  clear hl hs e
  grobner
theorem gnE_y {x1 y1 x2 y2 z1 z2 l s : Fin Pp} (hl : l * (x2 - x1) = y2 - y1) (hs : s = l * l - 3 * x2 - (x1 - x2)) :
    (gen1 (x1 * (z1 * z1), y1 * (z1 * z1 * z1), z1) (x2 * (z2 * z2), y2 * (z2 * z2 * z2), z2)).2.1 = -(y2 + l * s) * (((x2 - x1) * (z1 * z2) * (z1 * z2) * z1 * z2) * ((x2 - x1) * (z1 * z2) * (z1 * z2) * z1 * z2) * ((x2 - x1) * (z1 * z2) * (z1 * z2) * z1 * z2)) := by
  simp only [gen1, hP1, rP1, gnE_h, gnE_r]
  have e : -(y2 + l * s) * (((x2 - x1) * (z1 * z2) * (z1 * z2) * z1 * z2) * ((x2 - x1) * (z1 * z2) * (z1 * z2) * z1 * z2) * ((x2 - x1) * (z1 * z2) * (z1 * z2) * z1 * z2)) = -(y2 * (x2 - x1) * (x2 - x1) * (x2 - x1) + (l * (x2 - x1)) * ((l * (x2 - x1)) * (l * (x2 - x1)) - (x1 + 2 * x2) * (x2 - x1) * (x2 - x1))) * (((z1 * z2) * (z1 * z2) * (z1 * z2)) * ((z1 * z2) * (z1 * z2) * (z1 * z2)) * ((z1 * z2) * (z1 * z2) * (z1 * z2))) := by
    rw [hs]; clear hl hs; grobner
  rw [e, hl]
  clear hl hs e
  grobner
theorem gnE_z {x1 y1 x2 y2 z1 z2 : Fin Pp} : (gen1 (x1 * (z1 * z1), y1 * (z1 * z1 * z1), z1) (x2 * (z2 * z2), y2 * (z2 * z2 * z2), z2)).2.2 = (x2 - x1) * (z1 * z2) * (z1 * z2) * z1 * z2 := by
  simp only [gen1, hP1, gnE_h]
theorem asE_42 {a b : Fin Pp} (h : a = b) : a - b = 0 := by grobner
theorem asE_43 {x1 x2 y1 y2 l u : Fin Pp} (e1 : x1 = x2 + u) (e2 : y1 = y2 + l * u) : l * (x2 - x1) = y2 - y1 := by grobner
theorem asE_44 {x1 x2 l u s : Fin Pp} (e1 : x1 = x2 + u) (a1 : u + s = l * l - 3 * x2) : s = l * l - 3 * x2 - (x1 - x2) := by grobner
theorem asE_45 {a b : Fin Pp} (h : a * a = b * b) : (a - b) * (a + b) = 0 := by grobner
theorem zeroE (a z : Fin Pp) (h : a = 0) : a * z * z = 0 := by subst h; grobner
theorem zeroE3 (a z : Fin Pp) (h : a = 0) : a * z * z * z = 0 := by subst h; grobner
theorem afJ_sum (p q : Pt1) (hp : onE1 (afJ p)) (hq : onE1 (afJ q)) : afJ (sum1 p q) = adE1 (afJ p) (afJ q) := by
  by_cases hz : p.2.2 = 0
  · rw [sum1_inf p q hz, afJ_none hz]; rfl
  · by_cases hw : q.2.2 = 0
    · have e : sum1 p q = p := by unfold sum1; rw [if_neg hz, if_pos hw]
      rw [e, afJ_none hw]
      cases afJ p <;> rfl
    · obtain ⟨x1, y1, e1, f1⟩ := afJ_some p hz
      obtain ⟨x2, y2, e2, f2⟩ := afJ_some q hw
      have htw := afJ_twc p hp
      rw [f1] at hp htw ⊢
      rw [f2] at hq ⊢
      have hZ := neE hz hw
      have hh : hP1 p q = (x2 - x1) * (p.2.2 * q.2.2) * (p.2.2 * q.2.2) := by
        rw [e1, e2]; exact gnE_h
      have hr : rP1 p q = (y2 - y1) * (p.2.2 * q.2.2) * (p.2.2 * q.2.2) * (p.2.2 * q.2.2) := by
        rw [e1, e2]; exact gnE_r
      have hp : y1 * y1 = x1 * x1 * x1 + 4 := hp
      have hq : y2 * y2 = x2 * x2 * x2 + 4 := hq
      unfold sum1
      rw [if_neg hz, if_neg hw]
      by_cases hx : x2 = x1
      · rw [if_pos (by rw [hh]; exact zeroE _ _ (asE_42 hx))]
        by_cases hy : y2 = y1
        · rw [if_pos (by rw [hr]; exact zeroE3 _ _ (asE_42 hy))]
          subst hx hy
          exact htw
        · rw [if_neg (fun e => by
            rw [hr] at e
            exact neE (neE (neE (fun e => hy (asE_2 e)) hZ) hZ) hZ e)]
          subst hx
          have : (y1 - y2) * (y1 + y2) = 0 := asE_45 (hp.trans hq.symm)
          rcases no_zeroP this with e | e
          · exact absurd (asE_2 e).symm hy
          · rw [adE_none ⟨rfl, e⟩]
            exact afJ_none rfl
      · rw [if_neg (fun e => by
          rw [hh] at e
          exact neE (neE (fun e => hx (asE_2 e)) hZ) hZ e)]
        obtain ⟨l, u, s, g1, g2, ⟨a1, a2⟩, e⟩ := chordE hp hq (fun hn => hx hn.1.symm)
        rw [e]
        have hl := asE_43 g1 g2
        have hs := asE_44 g1 a1
        have kx := gnE_x (z1 := p.2.2) (z2 := q.2.2) hl hs
        have ky := gnE_y (z1 := p.2.2) (z2 := q.2.2) hl hs
        have kz := gnE_z (x1 := x1) (y1 := y1) (x2 := x2) (y2 := y2) (z1 := p.2.2) (z2 := q.2.2)
        rw [← e1, ← e2] at kx ky kz
        have hd : (x2 - x1) * (p.2.2 * q.2.2) * (p.2.2 * q.2.2) * p.2.2 * q.2.2 ≠ 0 := neE (neE (neE (neE (fun e => hx (asE_2 e)) hZ) hZ) hz) hw
        generalize (x2 - x1) * (p.2.2 * q.2.2) * (p.2.2 * q.2.2) * p.2.2 * q.2.2 = Z at kx ky kz hd
        have : gen1 p q = ((x2 + s) * (Z * Z), -(y2 + l * s) * (Z * Z * Z), Z) := by
          rw [← kx, ← ky, ← kz]
        rw [this]
        exact afJ_of hd
/-! Multiples -/
def nsE (p : PtE) : Nat → PtE
  | 0 => none
  | n + 1 => adE1 (nsE p n) p
theorem nsE_on {p : PtE} (h : onE1 p) : ∀ n, onE1 (nsE p n)
  | 0 => trivial
  | n + 1 => onE_ad (nsE_on h n) h
theorem nsE_add {p : PtE} (h : onE1 p) (m : Nat) : ∀ n, nsE p (m + n) = adE1 (nsE p m) (nsE p n)
  | 0 => by
    show nsE p m = adE1 (nsE p m) none
    cases nsE p m <;> rfl
  | n + 1 => by
    show adE1 (nsE p (m + n)) p = adE1 (nsE p m) (adE1 (nsE p n) p)
    rw [nsE_add h m n, adE_assoc (nsE_on h m) (nsE_on h n) h]
theorem nsE_none : ∀ n, nsE none n = none
  | 0 => rfl
  | n + 1 => by show adE1 (nsE none n) none = none; rw [nsE_none n]; rfl
theorem nsE_mul {p : PtE} (h : onE1 p) (m : Nat) : ∀ n, nsE (nsE p m) n = nsE p (m * n)
  | 0 => rfl
  | n + 1 => by
    show adE1 (nsE (nsE p m) n) (nsE p m) = nsE p (m * n + m)
    rw [nsE_mul h m n, nsE_add h]
theorem afJ_tab (p : Pt1) (h : onE1 (afJ p)) : ∀ n, afJ (tab1 p n) = nsE (afJ p) n
  | 0 => afJ_none rfl
  | n + 1 => by
    show afJ (sum1 (tab1 p n) p) = adE1 (nsE (afJ p) n) (afJ p)
    rw [afJ_sum _ _ (by rw [afJ_tab p h n]; exact nsE_on h n) h, afJ_tab p h n]
theorem afJ_tw (p q : Pt1) (h : onE1 (afJ p)) (m : Nat) (e : afJ q = nsE (afJ p) m) : afJ (twc1 q) = nsE (afJ p) (m + m) := by
  rw [afJ_twc q (by rw [e]; exact nsE_on h m), e, nsE_add h]
theorem afJ_man (p : Pt1) (h : onE1 (afJ p)) (k : Nat) (hk : k < 16 ^ 64) : ∀ n, n ≤ 64 → afJ (man1 p k n) = nsE (afJ p) (k / 16 ^ (64 - n))
  | 0, _ => by
    rw [Nat.sub_zero, Nat.div_eq_of_lt hk]
    exact afJ_none rfl
  | n + 1, hn => by
    have ih := afJ_man p h k hk n (by omega)
    have h1 := afJ_tw p _ h _ ih
    have h2 := afJ_tw p _ h _ h1
    have h3 := afJ_tw p _ h _ h2
    have h4 := afJ_tw p _ h _ h3
    show afJ (sum1 (twc1 (twc1 (twc1 (twc1 (man1 p k n))))) (tab1 p (dig k (63 - n)))) = _
    rw [afJ_sum _ _ (by rw [h4]; exact nsE_on h _) (by rw [afJ_tab p h]; exact nsE_on h _), h4, afJ_tab p h, ← nsE_add h]
    congr 1
    unfold dig
    rw [show 64 - n = 63 - n + 1 by omega, Nat.pow_succ, ← Nat.div_div_eq_div_mul, show 64 - (n + 1) = 63 - n by omega]
    omega
theorem afJ_many (p : Pt1) (h : onE1 (afJ p)) (k : Nat) (hk : k < 16 ^ 64) : afJ (man1 p k 64) = nsE (afJ p) k := by
  have := afJ_man p h k hk 64 (by omega)
  rw [this, Nat.sub_self, Nat.pow_zero, Nat.div_one]
end Go.Ev

/- What comes of the generator is of the group, and so is its negative. Nothing here names a program. -/
set_option linter.unusedVariables false
set_option linter.unusedSimpArgs false
namespace Go.Ev
theorem tpE_1 (x : Fin Pp) : x * (1 * 1) = x := by grobner
theorem tpE_2 (x : Fin Pp) : x * (1 * 1 * 1) = x := by grobner
theorem oneE_ne : (1 : Fin Pp) ≠ 0 := by decide
theorem afJ_one (x y : Fin Pp) : afJ (x, y, 1) = some (x, y) := by
  have h := afJ_of (z := 1) (x := x) (y := y) oneE_ne
  rw [tpE_1, tpE_2] at h
  exact h
theorem four_of : ofP 4 = (4 : Fin Pp) := by decide
theorem gen_on : onE1 (afJ genP1) := by
  have h : afJ genP1 = some (ofP g1x, ofP g1y) := afJ_one _ _
  rw [h]
  show ofP g1y * ofP g1y = ofP g1x * ofP g1x * ofP g1x + 4
  decide +kernel
theorem adE_nr (p : PtE) : adE1 p none = p := by cases p <;> rfl
theorem nsE_ng {p : PtE} (h : onE1 p) : ∀ n, adE1 (nsE p n) (nsE (ngE1 p) n) = none
  | 0 => rfl
  | n + 1 => by
    have hn := onE_ng h
    have a := nsE_on h n
    have b := nsE_on hn n
    show adE1 (adE1 (nsE p n) p) (adE1 (nsE (ngE1 p) n) (ngE1 p)) = none
    rw [adE_comm b hn, ← adE_assoc (onE_ad a h) hn b, adE_assoc a h hn, adE_ng, adE_nr]
    exact nsE_ng h n
theorem nsE_ng0 {p : PtE} (h : onE1 p) {n : Nat} (hz : nsE p n = none) : nsE (ngE1 p) n = none := by
  have h1 := nsE_ng h n
  rw [hz] at h1
  exact h1
/-- What the program makes of a multiple: its first, its second coordinate. -/
def axE (p : Pt1) : Fin Pp := p.1 * (ivE p.2.2 * ivE p.2.2)
def ayE (p : Pt1) : Fin Pp := p.2.1 * (ivE p.2.2 * ivE p.2.2) * ivE p.2.2
theorem tpE_3 (y i : Fin Pp) : y * (i * i * i) = y * (i * i) * i := by grobner
theorem afJ_ax {p : Pt1} (h : p.2.2 ≠ 0) : afJ p = some (axE p, ayE p) := by
  unfold afJ
  rw [if_neg h, tpE_3]
  rfl
theorem ofP_val' (x : Fin Pp) : ofP x.val = x := by unfold ofP; exact Fin.ofNat_val_eq_self x
theorem in1_q (x y : Fin Pp) : in1 (x.val, y.val, false) = (x, y, 1) := by
  unfold in1
  rw [if_neg (by simp)]
  show (ofP x.val, ofP y.val, (1 : Fin Pp)) = _
  rw [ofP_val', ofP_val']
theorem may_q {x y : Fin Pp} (h : y * y = x * x * x + 4) : may1 (x.val, y.val, false) := by
  show is1 x.val ∧ is1 y.val ∧ ofP y.val * ofP y.val = rhs1 (ofP x.val)
  rw [ofP_val', ofP_val']
  refine ⟨x.isLt, y.isLt, ?_⟩
  unfold rhs1
  rw [four_of]
  exact h
theorem grp_q {x y : Fin Pp} (hn : nsE (some (x, y)) Rr = none) (h : y * y = x * x * x + 4) : grp1 (x.val, y.val, false) := by
  unfold grp1
  rw [in1_q]
  refine afJ_zero ?_
  have ho : onE1 (afJ (x, y, 1)) := by rw [afJ_one]; exact h
  rw [afJ_many _ ho Rr (by decide), afJ_one]
  exact hn
theorem gen1_R : (man1 genP1 Rr 64).2.2 = 0 := by
  unfold Rr
  exact gen1_grp
/-- A multiple of the generator: on the curve, and r times it is none; so of its negative. -/
theorem mulE (k : Nat) (hk : k < 16 ^ 64) (hz : (man1 genP1 k 64).2.2 ≠ 0) :
    ∃ x y : Fin Pp, x = axE (man1 genP1 k 64) ∧ y = ayE (man1 genP1 k 64) ∧ y * y = x * x * x + 4 ∧ may1 (x.val, y.val, false) ∧ grp1 (x.val, y.val, false) ∧ may1 (x.val, (-y).val, false) ∧ grp1 (x.val, (-y).val, false) := by
  have hm := afJ_many genP1 gen_on k hk
  have hr := afJ_many genP1 gen_on Rr (by decide)
  rw [afJ_none gen1_R] at hr
  have ha := afJ_ax hz
  have ho := nsE_on gen_on k
  rw [← hm, ha] at ho
  have hn : nsE (afJ (man1 genP1 k 64)) Rr = none := by
    rw [hm, nsE_mul gen_on, Nat.mul_comm, ← nsE_mul gen_on, ← hr, nsE_none]
  rw [ha] at hn
  have hg := nsE_ng0 ho hn
  have ho' := onE_ng ho
  exact ⟨_, _, rfl, rfl, ho, may_q ho, grp_q hn ho, may_q ho', grp_q hg ho'⟩
theorem tpE_4 (x : Fin Pp) : x * (1 * 1) - x * (1 * 1) = 0 := by grobner
theorem tpE_5 {y : Fin Pp} (h : -y * (1 * 1) * 1 - y * (1 * 1) * 1 = 0) : 2 * y = 0 := by grobner
/-- A point and its negative come to none. -/
theorem sumE_ng {x y : Fin Pp} (h : y * y = x * x * x + 4) : (sum1 (x, y, 1) (x, -y, 1)).2.2 = 0 := by
  have h1 : hP1 (x, y, 1) (x, -y, 1) = 0 := tpE_4 x
  have h2 : rP1 (x, y, 1) (x, -y, 1) ≠ 0 := fun e => twoyE h (tpE_5 e)
  have e : sum1 (x, y, 1) (x, -y, 1) = (x, y, 0) := by
    unfold sum1
    rw [if_neg (show ¬ (1 : Fin Pp) = 0 from oneE_ne), if_neg (show ¬ (1 : Fin Pp) = 0 from oneE_ne), if_pos h1, if_neg h2]
  rw [e]
end Go.Ev
