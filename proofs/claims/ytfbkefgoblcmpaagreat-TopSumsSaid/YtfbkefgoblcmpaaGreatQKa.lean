/- Pruned: Ka. -/
import Derived.Test.YtfbkefgoblcmpaaGreatQHa
import Derived.Test.YtfbkefgoblcmpaaGreatQGb
set_option linter.unusedVariables false
set_option linter.unusedSimpArgs false
namespace Go.Ev
def ivE (x : Fin Pp) : Fin Pp := pwP x 4002409555221667393417789825735904156556882819939007885332058136124031650490837864442687629129015664037894272559785
theorem zA {x : Fin Pp} (h : x ≠ 0) : x * ivE x = 1 := ur h
theorem Bh : (2 : Fin Pp) ≠ 0 := by decide
theorem s6 (x y : Fin Pp) (h : y * y = x * x * x + 4) : y ≠ 0 := fun e => by
 subst e
 have h4 : x * x * x = -4 := by grobner
 have hx : x ≠ 0 := fun e => by
  subst e
  exact absurd h4 (by decide)
 have hi := zA hx
 generalize ivE x = i at hi
 refine En (n := -(2 * i)) ?_
 have e3 : (x * i) * (x * i) * (x * i) = x * x * x * (i * i * i) := by clear h h4 hi; grobner
 rw [hi, h4] at e3
 clear h h4 hi hx
 grobner
abbrev PtE := Option (Fin Pp × Fin Pp)
def onE1 : PtE -> Prop
 | none => True
 | some p => p.2 * p.2 = p.1 * p.1 * p.1 + 4
def ngE1 : PtE -> PtE
 | none => none
 | some p => some (p.1, -p.2)
def C4 (x1 y1 x2 y2 : Fin Pp) : Fin Pp := if x1 = x2 then 3 * x1 * x1 * ivE (2 * y1) else (y2 - y1) * ivE (x2 - x1)
def Ht (l x1 y1 x2 : Fin Pp) : Fin Pp × Fin Pp := (l * l - x1 - x2, -(y1 + l * (l * l - x1 - x2 - x1)))
def adE1 : PtE -> PtE -> PtE
 | none, q => q
 | some p, none => some p
 | some p, some q => if p.1 = q.1 /\ p.2 + q.2 = 0 then none else some (Ht (C4 p.1 p.2 q.1 q.2) p.1 p.2 q.1)
theorem zs {a x y : Fin Pp} (h : a ≠ 0) (e : a * x = a * y) : x = y := by
 have : a * (x - y) = 0 := by grind
 rcases sB this with h1 | h1
 ·exact absurd h1 h
 ·grind
structure LnE (x y l u s : Fin Pp) : Prop where
 sum : u + s = l * l - 3 * x
 prod : u * s = 3 * x * x - 2 * y * l
theorem Ij {x y1 y : Fin Pp} (h1 : y1 * y1 = x * x * x + 4) (h : y * y = x * x * x + 4) (hn : y1 + y ≠ 0) : y1 = y := by
 have : (y1 + y) * (y1 - y) = 0 := by grind
 rcases sB this with e | e
 ·exact absurd e hn
 ·grind
theorem uT {x1 y1 x y : Fin Pp} (h1 : y1 * y1 = x1 * x1 * x1 + 4) (h : y * y = x * x * x + 4) (hn : ¬ (x1 = x /\ y1 + y = 0)) :
  ∃ l u s, x1 = x + u /\ y1 = y + l * u /\ LnE x y l u s /\ adE1 (some (x1, y1)) (some (x, y)) = some (x + s, -(y + l * s)) := by
 have ha : adE1 (some (x1, y1)) (some (x, y)) = some (Ht (C4 x1 y1 x y) x1 y1 x) := by
  show (if x1 = x /\ y1 + y = 0 then none else some (Ht (C4 x1 y1 x y) x1 y1 x)) = _
  rw [if_neg hn]
 rw [ha]
 by_cases e : x1 = x
 ·subst e
  have e2 := Ij h1 h (fun e2 => hn ⟨rfl, e2⟩)
  subst e2
  have hy := s6 _ _ h
  have h2 : (2 : Fin Pp) * y1 ≠ 0 := fun e => by rcases sB e with e | e; exact Bh e; exact hy e
  have hi := zA h2
  have hl : C4 x1 y1 x1 y1 = 3 * x1 * x1 * ivE (2 * y1) := by unfold C4; rw [if_pos rfl]
  rw [hl]
  generalize ivE (2 * y1) = i at hi
  refine ⟨3 * x1 * x1 * i, 0, (3 * x1 * x1 * i) * (3 * x1 * x1 * i) - 3 * x1, by grind, by grind, ⟨by grind, by grind⟩, ?_⟩
  have e1 : (3 * x1 * x1 * i) * (3 * x1 * x1 * i) - x1 - x1 = x1 + ((3 * x1 * x1 * i) * (3 * x1 * x1 * i) - 3 * x1) := by grind
  unfold Ht
  rw [e1]
  congr 2
  grind
 ·have hd : x - x1 ≠ 0 := fun e2 => e (by grind)
  have hi := zA hd
  have hl : C4 x1 y1 x y = (y - y1) * ivE (x - x1) := by unfold C4; rw [if_neg e]
  rw [hl]
  generalize ivE (x - x1) = i at hi
  have hk : (x - x1) * ((y - y1) * i) = y - y1 := by grind
  generalize (y - y1) * i = l at hk
  refine ⟨l, x1 - x, l * l - 3 * x - (x1 - x), by grind, by grind, ⟨by grind, ?_⟩, ?_⟩
  ·refine zs hd ?_
   grind
  ·unfold Ht
   congr 2 <;> grind
theorem JT {x y l u s : Fin Pp} (h : y * y = x * x * x + 4) (h1 : (y + l * u) * (y + l * u) = (x + u) * (x + u) * (x + u) + 4) (hL : LnE x y l u s) (hn : ¬ (x + u = x /\ (y + l * u) + y = 0)) :
  adE1 (some (x + u, y + l * u)) (some (x, y)) = some (x + s, -(y + l * s)) := by
 obtain ⟨l', u', s', e1, e2, hL', e3⟩ := uT h1 h hn
 rw [e3]
 have hu : u = u' := by grind
 subst hu
 obtain ⟨a1, a2⟩ := hL
 obtain ⟨b1, b2⟩ := hL'
 have hl : l = l' := by
  by_cases h0 : u = 0
  ·subst h0
   have hy := s6 _ _ h
   have h2 : (2 : Fin Pp) * y ≠ 0 := fun e => by rcases sB e with e | e; exact Bh e; exact hy e
   exact zs h2 (by grind)
  ·exact zs h0 (by grind)
 subst hl
 have hs : s = s' := by grind
 subst hs
 rfl
theorem LnE.third {x y l u s : Fin Pp} (h : y * y = x * x * x + 4) (hL : LnE x y l u s) : (y + l * s) * (y + l * s) = (x + s) * (x + s) * (x + s) + 4 := by
 obtain ⟨a1, a2⟩ := hL
 have e : u = l * l - 3 * x - s := by grind
 subst e
 have h3 : (l * l - 3 * x - s) * s - (3 * x * x - 2 * y * l) = 0 := by grind
 have key : (y + l * s) * (y + l * s) - ((x + s) * (x + s) * (x + s) + 4) = (y * y - (x * x * x + 4)) + s * ((l * l - 3 * x - s) * s - (3 * x * x - 2 * y * l)) := by grind
 rw [h3, h] at key
 grind
theorem Ip {p q : PtE} (hp : onE1 p) (hq : onE1 q) : onE1 (adE1 p q) := by
 match p, q, hp, hq with
 | none, q, _, hq => exact hq
 | some p, none, hp, _ => exact hp
 | some (x1, y1), some (x, y), hp, hq =>
  by_cases hn : x1 = x /\ y1 + y = 0
  ·have : adE1 (some (x1, y1)) (some (x, y)) = none := by show (if x1 = x /\ y1 + y = 0 then none else _) = _; rw [if_pos hn]
   rw [this]; trivial
  ·obtain ⟨l, u, s, _, _, hL, e⟩ := uT hp hq hn
   rw [e]
   have := hL.third hq
   show -(y + l * s) * -(y + l * s) = (x + s) * (x + s) * (x + s) + 4
   grind
theorem ye {p : PtE} (hp : onE1 p) : onE1 (ngE1 p) := by
 match p, hp with
 | none, _ => trivial
 | some (x, y), hp =>
  have hp : y * y = x * x * x + 4 := hp
  show -y * -y = x * x * x + 4
  grind
theorem s9 {x1 y1 x y : Fin Pp} (hn : x1 = x /\ y1 + y = 0) : adE1 (some (x1, y1)) (some (x, y)) = none := by show (if x1 = x /\ y1 + y = 0 then none else _) = _; rw [if_pos hn]
theorem zZ {p q : PtE} (hp : onE1 p) (hq : onE1 q) : adE1 p q = adE1 q p := by
 match p, q, hp, hq with
 | none, none, _, _ => rfl
 | none, some _, _, _ => rfl
 | some p, none, _, _ => rfl
 | some (x1, y1), some (x, y), hp, hq =>
  by_cases hn : x1 = x /\ y1 + y = 0
  ·rw [s9 hn, s9 ⟨hn.1.symm, by rw [← hn.2]; grind⟩]
  ·obtain ⟨l, u, s, e1, e2, hL, e⟩ := uT hp hq hn
   rw [e]
   subst e1 e2
   have hp : (y + l * u) * (y + l * u) = (x + u) * (x + u) * (x + u) + 4 := hp
   have hq : y * y = x * x * x + 4 := hq
   obtain ⟨a1, a2⟩ := hL
   have hM : LnE (x + u) (y + l * u) l (-u) (s - u) := ⟨by grind, by grind⟩
   have h := JT (x := x + u) (y := y + l * u) (l := l) (u := -u) (s := s - u) hp (by
    have ex : x + u + -u = x := by grind
    have ey : y + l * u + l * -u = y := by grind
    rw [ex, ey]; exact hq) hM (fun hc => hn ⟨by grind, by grind⟩)
   have ex : x + u + -u = x := by grind
   have ey : y + l * u + l * -u = y := by grind
   rw [ex, ey] at h
   rw [h]
   congr 2 <;> grind
theorem HO {p : PtE} : adE1 p (ngE1 p) = none := by
 match p with
 | none => rfl
 | some (x, y) => exact s9 ⟨rfl, by grind⟩
theorem BG {p q : PtE} (hp : onE1 p) (hq : onE1 q) : adE1 (adE1 p q) (ngE1 q) = p := by
 match p, q, hp, hq with
 | none, none, _, _ => rfl
 | none, some q, _, _ => exact HO
 | some p, none, _, _ => rfl
 | some (x1, y1), some (x, y), hp, hq =>
  by_cases hn : x1 = x /\ y1 + y = 0
  ·rw [s9 hn]
   show some (x, -y) = some (x1, y1)
   congr 2
   ·exact hn.1.symm
   ·have := hn.2; grind
  ·obtain ⟨l, u, s, e1, e2, hL, e⟩ := uT hp hq hn
   rw [e]
   subst e1 e2
   have hp : (y + l * u) * (y + l * u) = (x + u) * (x + u) * (x + u) + 4 := hp
   have hq : y * y = x * x * x + 4 := hq
   have ht := hL.third hq
   obtain ⟨a1, a2⟩ := hL
   have hy := s6 _ _ hq
   have hM : LnE x (-y) (-l) s u := ⟨by grind, by grind⟩
   have h := JT (x := x) (y := -y) (l := -l) (u := s) (s := u) (by grind) (by grind) hM (fun hc => by
    have h0 : s = 0 := by grind
    subst h0
    have h2 : (2 : Fin Pp) * y = 0 := by grind
    rcases sB h2 with e | e
    ·exact Bh e
    ·exact hy e)
   have ey : -y + -l * s = -(y + l * s) := by grind
   rw [ey] at h
   show adE1 (some (x + s, -(y + l * s))) (some (x, -y)) = _
   rw [h]
   congr 2
   grind
theorem IR {x y : Fin Pp} (h : y * y = x * x * x + 4) : (2 : Fin Pp) * y ≠ 0 := fun e => by
 rcases sB e with e | e
 ·exact Bh e
 ·exact s6 _ _ h e
theorem VW {x l m k4 v s3 s4 t : Fin Pp} (ht : t = m * m - 3 * x - v) (h3 : s3 = (k4 + m - l) * (k4 + m - l) - 3 * (x + v) - (l * l - 3 * x - (v + (l - m) * (k4 + m)) - v)) (h4 : s4 = k4 * k4 - 3 * (x + t) - (v + (l - m) * (k4 + m) - t)) :
  x + v + s3 = x + t + s4 := by subst h3 h4 ht; grobner
theorem WB {x y l m k4 v s3 s4 t : Fin Pp} (ht : t = m * m - 3 * x - v) (h3 : s3 = (k4 + m - l) * (k4 + m - l) - 3 * (x + v) - (l * l - 3 * x - (v + (l - m) * (k4 + m)) - v)) (h4 : s4 = k4 * k4 - 3 * (x + t) - (v + (l - m) * (k4 + m) - t)) (d3 : y + m * t = k4 * (v + (l - m) * (k4 + m) - t) - (y + l * (v + (l - m) * (k4 + m)))) :
  -((y + m * v) + (k4 + m - l) * s3) = -(-(y + m * t) + k4 * s4) := by rw [d3]; subst h3 h4 ht; grobner
theorem Tm {x y l u s m v t k3 k4 s3 s4 : Fin Pp} (a1 : u + s = l * l - 3 * x) (b1 : v + t = m * m - 3 * x)
  (c1 : (s - v) + s3 = k3 * k3 - 3 * (x + v)) (d1 : (u - t) + s4 = k4 * k4 - 3 * (x + t)) (d3 : y + l * u = -(y + m * t) + k4 * (u - t))
  (F1 : k3 + l = k4 + m) (F2 : (l - m) * (k4 + m) = u - v) :
  (x + v + s3, -((y + m * v) + k3 * s3)) = (x + t + s4, -(-(y + m * t) + k4 * s4)) := by
 have hk : k3 = k4 + m - l := by clear a1 b1 c1 d1 d3 F2; grobner
 subst hk
 have hu : u = v + (l - m) * (k4 + m) := by clear a1 b1 c1 d1 d3 F1; grobner
 have hs : s = l * l - 3 * x - u := by clear b1 c1 d1 d3 F1 F2 hu; grobner
 have ht : t = m * m - 3 * x - v := by clear a1 c1 d1 d3 F1 F2 hu hs; grobner
 have h3 : s3 = (k4 + m - l) * (k4 + m - l) - 3 * (x + v) - (s - v) := by clear a1 b1 d1 d3 F1 F2 hu hs ht; grobner
 have h4 : s4 = k4 * k4 - 3 * (x + t) - (u - t) := by clear a1 b1 c1 d3 F1 F2 hu hs ht h3; grobner
 have d4 : y + m * t = k4 * (u - t) - (y + l * u) := by clear a1 b1 c1 d1 F1 F2 hu hs ht h3 h4; grobner
 rw [hs] at h3
 clear a1 b1 c1 d1 d3 F1 F2 hs
 subst hu
 exact Prod.ext (VW ht h3 h4) (WB ht h3 h4 d4)
theorem R5 {x y l u s m v t k4 : Fin Pp} (a1 : u + s = l * l - 3 * x) (b1 : v + t = m * m - 3 * x) (hR : u * s + 2 * y * l = v * t + 2 * y * m) (hq : k4 * (u - t) = 2 * y + l * u + m * t) :
  (u - t) * ((l - m) * (k4 + m)) = (u - t) * (u - v) := by
 have e : (u - t) * ((l - m) * (k4 + m)) = (l - m) * (k4 * (u - t) + m * (u - t)) := by clear a1 b1 hR hq; grobner
 rw [e, hq]
 clear e hq
 have hs : s = l * l - 3 * x - u := by clear b1 hR; grobner
 have ht : t = m * m - 3 * x - v := by clear a1 hR hs; grobner
 clear a1 b1
 subst hs ht
 grobner
theorem YJ {x y l u s m v t k3 : Fin Pp} (a1 : u + s = l * l - 3 * x) (b1 : v + t = m * m - 3 * x) (hR : u * s + 2 * y * l = v * t + 2 * y * m) (hp : k3 * (s - v) = -(2 * y + l * s + m * v)) :
  (s - v) * ((l - m) * (k3 + l)) = (s - v) * (u - v) := by
 have e : (s - v) * ((l - m) * (k3 + l)) = (l - m) * (k3 * (s - v) + l * (s - v)) := by clear a1 b1 hR hp; grobner
 rw [e, hp]
 clear e hp
 have hs : s = l * l - 3 * x - u := by clear b1 hR; grobner
 have ht : t = m * m - 3 * x - v := by clear a1 hR hs; grobner
 clear a1 b1
 subst hs ht
 grobner
theorem YH {x y l u s m v t k3 k4 : Fin Pp} (a1 : u + s = l * l - 3 * x) (b1 : v + t = m * m - 3 * x) (hR : u * s + 2 * y * l = v * t + 2 * y * m) (hp : k3 * (s - v) = -(2 * y + l * s + m * v)) (hq : k4 * (u - t) = 2 * y + l * u + m * t) :
  (s - v) * ((u - t) * (k3 + l)) = (s - v) * ((u - t) * (k4 + m)) := by
 have e1 : (s - v) * ((u - t) * (k3 + l)) = (u - t) * (k3 * (s - v) + l * (s - v)) := by clear a1 b1 hR hp hq; grobner
 have e2 : (s - v) * ((u - t) * (k4 + m)) = (s - v) * (k4 * (u - t) + m * (u - t)) := by clear a1 b1 hR hp hq e1; grobner
 rw [e1, e2, hp, hq]
 clear e1 e2 hp hq
 have hs : s = l * l - 3 * x - u := by clear b1 hR; grobner
 have ht : t = m * m - 3 * x - v := by clear a1 hR hs; grobner
 clear a1 b1
 subst hs ht
 grobner
theorem Uu {x y l u s m k3 s3 : Fin Pp} (a1 : u + s = l * l - 3 * x) (a2 : u * s = 3 * x * x - 2 * y * l) (c2 : (s - s) * s3 = 3 * (x + s) * (x + s) - 2 * (y + m * s) * k3) (hyy : -(y + l * s) = y + m * s) :
  s * ((l - m) * (k3 + l)) = s * (u - s) := by
 have h2 : 2 * (y + m * s) = (m - l) * s := by clear a1 a2 c2; grobner
 have h5 : 2 * y = -((l + m) * s) := by clear a1 a2 c2 h2; grobner
 have h4 : 3 * x * x = u * s + 2 * y * l := by clear a1 c2 h2 h5; grobner
 rw [h5] at h4
 rw [h2] at c2
 have e1 : s * ((l - m) * (k3 + l)) = s * (l - m) * l - (m - l) * s * k3 := by clear a1 a2 c2 hyy h2 h5 h4; grobner
 have e2 : (m - l) * s * k3 = 3 * x * x + 2 * (3 * x) * s + 3 * s * s := by clear a1 a2 hyy h2 h5 h4 e1; grobner
 have e3 : 3 * x = l * l - u - s := by clear a2 c2 hyy h2 h5 h4 e1 e2; grobner
 rw [e1, e2, h4, e3]
 clear a1 a2 c2 hyy h2 h5 h4 e1 e2 e3
 grobner
theorem TJ {x y l u m v k4 s4 : Fin Pp} (b1 : v + u = m * m - 3 * x) (b2 : v * u = 3 * x * x - 2 * y * m) (d2 : (u - u) * s4 = 3 * (x + u) * (x + u) - 2 * (-(y + m * u)) * k4) (hyy : y + l * u = -(y + m * u)) :
  u * ((l - m) * (k4 + m)) = u * (u - v) := by
 have h2 : 2 * (-(y + m * u)) = (l - m) * u := by clear b1 b2 d2; grobner
 have h5 : 2 * y = -((l + m) * u) := by clear b1 b2 d2 h2; grobner
 have h4 : 3 * x * x = v * u + 2 * y * m := by clear b1 d2 h2 h5; grobner
 rw [h5] at h4
 rw [h2] at d2
 have e1 : u * ((l - m) * (k4 + m)) = u * (l - m) * m + (l - m) * u * k4 := by clear b1 b2 d2 hyy h2 h5 h4; grobner
 have e2 : (l - m) * u * k4 = 3 * x * x + 2 * (3 * x) * u + 3 * u * u := by clear b1 b2 hyy h2 h5 h4 e1; grobner
 have e3 : 3 * x = m * m - v - u := by clear b2 d2 hyy h2 h5 h4 e1 e2; grobner
 rw [e1, e2, h4, e3]
 clear b1 b2 d2 hyy h2 h5 h4 e1 e2 e3
 grobner
theorem RT {s v x : Fin Pp} (h : x + s = x + v) : s = v := by grobner
theorem AM {a b : Fin Pp} (h : a - b = 0) : a = b := by grobner
theorem asE_3 {y l m s : Fin Pp} (h : -(y + l * s) + (y + m * s) = 0) : (m - l) * s = 0 := by grobner
theorem asE_4 {y l m u : Fin Pp} (h : (y + l * u) + -(y + m * u) = 0) : (m - l) * u = 0 := by grobner
theorem RY {l m : Fin Pp} (h : m - l = 0) : l = m := by grobner
theorem Xb {l m y v t u : Fin Pp} (h : u * 0 + 2 * y * l = 0 * t + 2 * y * m) : 2 * y * l = 2 * y * m := by grobner
theorem Yz {l m y v s : Fin Pp} (h : 0 * s + 2 * y * l = v * 0 + 2 * y * m) : 2 * y * l = 2 * y * m := by grobner
theorem V8 {u s x l t : Fin Pp} (a1 : u + s = l * l - 3 * x) (b1 : s + t = l * l - 3 * x) : u = t := by grobner
theorem Zb {u s x l v : Fin Pp} (a1 : u + s = l * l - 3 * x) (b1 : v + u = l * l - 3 * x) : s = v := by grobner
theorem Uy {u s x l m : Fin Pp} (a1 : u + s = l * l - 3 * x) (b1 : s + u = m * m - 3 * x) : (l - m) * (l + m) = 0 := by grobner
theorem SK {y l s : Fin Pp} (h : -(y + l * s) = y + l * s) : 2 * (y + l * s) = 0 := by grobner
theorem UH {y l m s : Fin Pp} (h : -(y + l * s) = y + m * s) (e : l + m = 0) : 2 * y = 0 := by
 have : m = -l := by clear h; grobner
 subst this
 clear e
 grobner
theorem Uo {u s x l m t : Fin Pp} (a1 : u + s = l * l - 3 * x) (b1 : s + t = m * m - 3 * x) : (l - m) * (l + m) = u - t := by grobner
theorem Ue {u s x l m v : Fin Pp} (a1 : u + s = l * l - 3 * x) (b1 : v + u = m * m - 3 * x) : (l - m) * (l + m) = s - v := by grobner
theorem Uj {y l m : Fin Pp} (h : -(y + l * 0) = y + m * 0) : 2 * y = 0 := by grobner
theorem TB {y l m : Fin Pp} (h : y + l * 0 = -(y + m * 0)) : 2 * y = 0 := by grobner
theorem NO {y l s m v k3 : Fin Pp} (f2 : -(y + l * s) = y + m * v + k3 * (s - v)) : k3 * (s - v) = -(2 * y + l * s + m * v) := by grobner
theorem HY {y l u m t k4 : Fin Pp} (g2 : y + l * u = -(y + m * t) + k4 * (u - t)) : k4 * (u - t) = 2 * y + l * u + m * t := by grobner
theorem OH {x s v u3 : Fin Pp} (f1 : x + s = x + v + u3) : u3 = s - v := by grobner
theorem Na {a b : Fin Pp} (h : a * a = b) : -a * -a = b := by grobner
theorem TR {u s v t x y l m : Fin Pp} (a2 : u * s = 3 * x * x - 2 * y * l) (b2 : v * t = 3 * x * x - 2 * y * m) : u * s + 2 * y * l = v * t + 2 * y * m := by grobner
theorem ML {l m : Fin Pp} (e : l - m = 0) : (l - m) * (l + m) = 0 := by rw [e]; clear e; grobner
theorem TM {y l u : Fin Pp} : y + l * u + -(y + l * u) = 0 := by grobner
theorem VI {y l s : Fin Pp} : -(y + l * s) + (y + l * s) = 0 := by grobner
theorem Hk {x1 y1 x y x2 y2 : Fin Pp} (h1 : y1 * y1 = x1 * x1 * x1 + 4) (h : y * y = x * x * x + 4) (h2 : y2 * y2 = x2 * x2 * x2 + 4)
  (n1 : ¬ (x1 = x /\ y1 + y = 0)) (n2 : ¬ (x2 = x /\ y2 + y = 0)) : adE1 (adE1 (some (x1, y1)) (some (x, y))) (some (x2, y2)) = adE1 (some (x1, y1)) (adE1 (some (x2, y2)) (some (x, y))) := by
 obtain ⟨l, u, s, e1, e2, hL, eS⟩ := uT h1 h n1
 obtain ⟨m, v, t, e3, e4, hM, eT⟩ := uT h2 h n2
 subst e1 e2 e3 e4
 rw [eS, eT]
 have hS := Na (hL.third h)
 have hT := Na (hM.third h)
 obtain ⟨a1, a2⟩ := hL
 obtain ⟨b1, b2⟩ := hM
 have h2y := IR h
 have hR := TR a2 b2
 by_cases n3 : x + s = x + v /\ -(y + l * s) + (y + m * v) = 0
 ·rw [s9 n3]
  obtain ⟨p1, p2⟩ := n3
  have hs := RT p1
  subst hs
  have hml : l = m := by
   rcases sB (asE_3 p2) with e | e
   ·exact RY e
   ·subst e
    exact zs h2y (Xb (v := 0) hR)
  subst hml
  have hu := V8 a1 b1
  subst hu
  rw [s9 ⟨rfl, TM⟩]
 ·by_cases n4 : x + u = x + t /\ (y + l * u) + -(y + m * t) = 0
  ·exfalso
   obtain ⟨p1, p2⟩ := n4
   have hu := RT p1
   subst hu
   have hml : l = m := by
    rcases sB (asE_4 p2) with e | e
    ·exact RY e
    ·subst e
     exact zs h2y (Yz hR)
   subst hml
   have hs := Zb a1 b1
   subst hs
   exact n3 ⟨rfl, VI⟩
  ·obtain ⟨k3, u3, s3, f1, f2, ⟨c1, c2⟩, eL⟩ := uT (x1 := x + s) (y1 := -(y + l * s)) (x := x + v) (y := y + m * v) hS h2 n3
   obtain ⟨k4, u4, s4, g1, g2, ⟨d1, d2⟩, eR⟩ := uT (x1 := x + u) (y1 := y + l * u) (x := x + t) (y := -(y + m * t)) h1 hT n4
   rw [eL, eR]
   have hu3 := OH f1
   have hu4 := OH g1
   subst hu3 hu4
   have key : k3 + l = k4 + m /\ (l - m) * (k4 + m) = u - v := by
    by_cases ha : s - v = 0
    ·have hs := AM ha
     subst hs
     have hyy := Ij hS h2 (fun e => n3 ⟨rfl, e⟩)
     by_cases hd : u - t = 0
     ·exfalso
      have hu := AM hd
      subst hu
      rcases sB (Uy a1 b1) with e | e
      ·have := AM e
       subst this
       exact IR h2 (SK hyy)
      ·exact h2y (UH hyy e)
     ·have hw := Uo a1 b1
      have hl0 : l - m ≠ 0 := fun e => hd (by rw [← hw]; exact ML e)
      have hs0 : s ≠ 0 := fun e => by subst e; exact h2y (Uj hyy)
      have F2 := zs hd (R5 a1 b1 hR (HY g2))
      have F3 := zs hs0 (Uu a1 a2 c2 hyy)
      exact ⟨zs hl0 (by rw [F3, F2]), F2⟩
    ·by_cases hd : u - t = 0
     ·have hu := AM hd
      subst hu
      have hyy2 := Ij h1 hT (fun e => n4 ⟨rfl, e⟩)
      have hw := Ue a1 b1
      have hl0 : l - m ≠ 0 := fun e => ha (by rw [← hw]; exact ML e)
      have hu0 : u ≠ 0 := fun e => by subst e; exact h2y (TB hyy2)
      have F3 := zs ha (YJ a1 b1 hR (NO f2))
      have F2 := zs hu0 (TJ b1 b2 d2 hyy2)
      exact ⟨zs hl0 (by rw [F3, F2]), F2⟩
     ·exact ⟨zs hd (zs ha (YH a1 b1 hR (NO f2) (HY g2))), zs hd (R5 a1 b1 hR (HY g2))⟩
   exact congrArg some (Tm a1 b1 c1 d1 g2 key.1 key.2)
theorem Nh {y1 y : Fin Pp} (e : y1 + y = 0) : y1 = -y := by grobner
theorem z5 {p q r : PtE} (hp : onE1 p) (hq : onE1 q) (hr : onE1 r) : adE1 (adE1 p q) r = adE1 p (adE1 q r) := by
 match p, q, r, hp, hq, hr with
 | none, _, _, _, _, _ => rfl
 | some _, none, _, _, _, _ => rfl
 | some p, some q, none, hp, hq, _ =>
  have : ∀ z : PtE, adE1 z none = z := fun z => by cases z <;> rfl
  rw [this]; rfl
 | some (x1, y1), some (x, y), some (x2, y2), hp, hq, hr =>
  by_cases n1 : x1 = x /\ y1 + y = 0
  ·rw [s9 n1]
   have e : (some (x1, y1) : PtE) = ngE1 (some (x, y)) := by
    obtain ⟨rfl, e⟩ := n1
    show some (x1, y1) = some (x1, -y)
    rw [Nh e]
   rw [e, zZ (ye hq) (Ip hq hr), zZ hq hr, BG hr hq]
   rfl
  ·by_cases n2 : x2 = x /\ y2 + y = 0
   ·have e : (some (x2, y2) : PtE) = ngE1 (some (x, y)) := by
     obtain ⟨rfl, e⟩ := n2
     show some (x2, y2) = some (x2, -y)
     rw [Nh e]
    rw [e, BG hp hq, HO]
    show some (x1, y1) = adE1 (some (x1, y1)) none
    rfl
   ·rw [zZ hq hr]
    exact Hk hp hq hr n1 n2
def afJ (p : Pt1) : PtE := if p.2.2 = 0 then none else some (p.1 * (ivE p.2.2 * ivE p.2.2), p.2.1 * (ivE p.2.2 * ivE p.2.2 * ivE p.2.2))
theorem sP {p : Pt1} (h : p.2.2 = 0) : afJ p = none := by unfold afJ; rw [if_pos h]
theorem GW {p : Pt1} (h : afJ p = none) : p.2.2 = 0 := by
 unfold afJ at h
 split at h
 ·assumption
 ·cases h
theorem Yv {x z i : Fin Pp} (hi : z * i = 1) : x * (z * z) * (i * i) = x := by
 have e : x * (z * z) * (i * i) = x * ((z * i) * (z * i)) := by clear hi; grobner
 rw [e, hi]; clear e hi; grobner
theorem XA {y z i : Fin Pp} (hi : z * i = 1) : y * (z * z * z) * (i * i * i) = y := by
 have e : y * (z * z * z) * (i * i * i) = y * ((z * i) * (z * i) * (z * i)) := by clear hi; grobner
 rw [e, hi]; clear e hi; grobner
theorem Yy {x z i : Fin Pp} (hi : z * i = 1) : x = x * (i * i) * (z * z) := by
 have e : x * (i * i) * (z * z) = x * ((z * i) * (z * i)) := by clear hi; grobner
 rw [e, hi]; clear e hi; grobner
theorem Xe {x z i : Fin Pp} (hi : z * i = 1) : x = x * (i * i * i) * (z * z * z) := by
 have e : x * (i * i * i) * (z * z * z) = x * ((z * i) * (z * i) * (z * i)) := by clear hi; grobner
 rw [e, hi]; clear e hi; grobner
theorem HI {z x y : Fin Pp} (hz : z ≠ 0) : afJ (x * (z * z), y * (z * z * z), z) = some (x, y) := by
 have hi := zA hz
 unfold afJ
 rw [if_neg hz]
 show some (x * (z * z) * (ivE z * ivE z), y * (z * z * z) * (ivE z * ivE z * ivE z)) = _
 rw [Yv hi, XA hi]
theorem B6 (p : Pt1) (hz : p.2.2 ≠ 0) : ∃ x y, p = (x * (p.2.2 * p.2.2), y * (p.2.2 * p.2.2 * p.2.2), p.2.2) /\ afJ p = some (x, y) := by
 obtain ⟨X, Y, z⟩ := p
 have hi := zA hz
 refine ⟨X * (ivE z * ivE z), Y * (ivE z * ivE z * ivE z), ?_, ?_⟩
 ·show (X, Y, z) = (X * (ivE z * ivE z) * (z * z), Y * (ivE z * ivE z * ivE z) * (z * z * z), z)
  rw [← Yy hi, ← Xe hi]
 ·unfold afJ; rw [if_neg hz]
theorem Ut {x y z l s : Fin Pp} (hl : 0 * s = 3 * x * x - 2 * y * l) (hs : 0 + s = l * l - 3 * x) : (dbl1 (x * (z * z), y * (z * z * z), z)).1 = (x + s) * ((dbl1 (x * (z * z), y * (z * z * z), z)).2.2 * (dbl1 (x * (z * z), y * (z * z * z), z)).2.2) := by
 have h1 : 2 * y * l = 3 * x * x := by clear hs; grobner
 have h2 : s = l * l - 3 * x := by clear hl h1; grobner
 simp only [dbl1]
 have e : (x + s) * ((y * (z * z * z) * z + y * (z * z * z) * z) * (y * (z * z * z) * z + y * (z * z * z) * z)) = ((2 * y * l) * (2 * y * l) - 2 * x * (2 * y) * (2 * y)) * (z * z * z * z * z * z * z * z) := by
  rw [h2]; clear hl hs h1 h2; grobner
 rw [e, h1]
 clear hl hs h1 h2 e
 grobner
theorem Tc {x y z l s : Fin Pp} (hl : 0 * s = 3 * x * x - 2 * y * l) (hs : 0 + s = l * l - 3 * x) : (dbl1 (x * (z * z), y * (z * z * z), z)).2.1 = -(y + l * s) * ((dbl1 (x * (z * z), y * (z * z * z), z)).2.2 * (dbl1 (x * (z * z), y * (z * z * z), z)).2.2 * (dbl1 (x * (z * z), y * (z * z * z), z)).2.2) := by
 have h1 : 2 * y * l = 3 * x * x := by clear hs; grobner
 have h2 : s = l * l - 3 * x := by clear hl h1; grobner
 simp only [dbl1]
 have e : -(y + l * s) * ((y * (z * z * z) * z + y * (z * z * z) * z) * (y * (z * z * z) * z + y * (z * z * z) * z) * (y * (z * z * z) * z + y * (z * z * z) * z)) = -(y * (2 * y) * (2 * y) * (2 * y) + (2 * y * l) * ((2 * y * l) * (2 * y * l) - 3 * x * (2 * y) * (2 * y))) * (z * z * z * z * z * z * z * z * z * z * z * z) := by
  rw [h2]; clear hl hs h1 h2; grobner
 rw [e, h1]
 clear hl hs h1 h2 e
 grobner
theorem UK {x y z : Fin Pp} : (dbl1 (x * (z * z), y * (z * z * z), z)).2.2 = (2 * y) * (z * z * z * z) := by
 simp only [dbl1]
 grobner
theorem neE {a b : Fin Pp} (h1 : a ≠ 0) (h2 : b ≠ 0) : a * b ≠ 0 := fun e => by
 rcases sB e with e | e
 ·exact h1 e
 ·exact h2 e
theorem S5 {y : Fin Pp} (h : y + y = 0) : 2 * y = 0 := by grobner
theorem Tn {x u : Fin Pp} (h : x = x + u) : u = 0 := by grobner
theorem Pw {x y z : Fin Pp} (hz : z ≠ 0) (h : y * y = x * x * x + 4) : afJ (dbl1 (x * (z * z), y * (z * z * z), z)) = adE1 (some (x, y)) (some (x, y)) := by
 have h2 := IR h
 obtain ⟨l, u, s, e1, e2, ⟨a1, a2⟩, e⟩ := uT h h (fun hn => h2 (by have := hn.2; exact S5 this))
 rw [e]
 have hu := Tn e1
 subst hu
 have hx := Ut (z := z) a2 a1
 have hy := Tc (z := z) a2 a1
 have hzz : (dbl1 (x * (z * z), y * (z * z * z), z)).2.2 ≠ 0 := by
  rw [UK]
  exact neE h2 (neE (neE (neE hz hz) hz) hz)
 generalize dbl1 (x * (z * z), y * (z * z * z), z) = d at hx hy hzz
 obtain ⟨X, Y, Z⟩ := d
 have hx : X = (x + s) * (Z * Z) := hx
 have hy : Y = -(y + l * s) * (Z * Z * Z) := hy
 rw [hx, hy]
 exact HI hzz
theorem EH (p : Pt1) (h : onE1 (afJ p)) : afJ (rl p) = adE1 (afJ p) (afJ p) := by
 by_cases hz : p.2.2 = 0
 ·rw [tF p hz, sP hz]; rfl
 ·obtain ⟨x, y, e, ea⟩ := B6 p hz
  rw [ea] at h ⊢
  unfold rl
  rw [if_neg hz, e]
  exact Pw hz h
theorem J2 {x1 x2 z1 z2 : Fin Pp} : x2 * (z2 * z2) * (z1 * z1) - x1 * (z1 * z1) * (z2 * z2) = (x2 - x1) * (z1 * z2) * (z1 * z2) := by grobner
theorem Mi {y1 y2 z1 z2 : Fin Pp} : y2 * (z2 * z2 * z2) * (z1 * z1) * z1 - y1 * (z1 * z1 * z1) * (z2 * z2) * z2 = (y2 - y1) * (z1 * z2) * (z1 * z2) * (z1 * z2) := by grobner
theorem Yj {x1 y1 x2 y2 z1 z2 l s : Fin Pp} (hl : l * (x2 - x1) = y2 - y1) (hs : s = l * l - 3 * x2 - (x1 - x2)) :
  (gen1 (x1 * (z1 * z1), y1 * (z1 * z1 * z1), z1) (x2 * (z2 * z2), y2 * (z2 * z2 * z2), z2)).1 = (x2 + s) * (((x2 - x1) * (z1 * z2) * (z1 * z2) * z1 * z2) * ((x2 - x1) * (z1 * z2) * (z1 * z2) * z1 * z2)) := by
 simp only [gen1, hP1, rP1, J2, Mi]
 have e : (x2 + s) * (((x2 - x1) * (z1 * z2) * (z1 * z2) * z1 * z2) * ((x2 - x1) * (z1 * z2) * (z1 * z2) * z1 * z2)) = ((l * (x2 - x1)) * (l * (x2 - x1)) - (x1 + x2) * (x2 - x1) * (x2 - x1)) * ((z1 * z2) * (z1 * z2) * (z1 * z2)) * ((z1 * z2) * (z1 * z2) * (z1 * z2)) := by
  rw [hs]; clear hl hs; grobner
 rw [e, hl]
 clear hl hs e
 grobner
theorem WA {x1 y1 x2 y2 z1 z2 l s : Fin Pp} (hl : l * (x2 - x1) = y2 - y1) (hs : s = l * l - 3 * x2 - (x1 - x2)) :
  (gen1 (x1 * (z1 * z1), y1 * (z1 * z1 * z1), z1) (x2 * (z2 * z2), y2 * (z2 * z2 * z2), z2)).2.1 = -(y2 + l * s) * (((x2 - x1) * (z1 * z2) * (z1 * z2) * z1 * z2) * ((x2 - x1) * (z1 * z2) * (z1 * z2) * z1 * z2) * ((x2 - x1) * (z1 * z2) * (z1 * z2) * z1 * z2)) := by
 simp only [gen1, hP1, rP1, J2, Mi]
 have e : -(y2 + l * s) * (((x2 - x1) * (z1 * z2) * (z1 * z2) * z1 * z2) * ((x2 - x1) * (z1 * z2) * (z1 * z2) * z1 * z2) * ((x2 - x1) * (z1 * z2) * (z1 * z2) * z1 * z2)) = -(y2 * (x2 - x1) * (x2 - x1) * (x2 - x1) + (l * (x2 - x1)) * ((l * (x2 - x1)) * (l * (x2 - x1)) - (x1 + 2 * x2) * (x2 - x1) * (x2 - x1))) * (((z1 * z2) * (z1 * z2) * (z1 * z2)) * ((z1 * z2) * (z1 * z2) * (z1 * z2)) * ((z1 * z2) * (z1 * z2) * (z1 * z2))) := by
  rw [hs]; clear hl hs; grobner
 rw [e, hl]
 clear hl hs e
 grobner
theorem Yp {x1 y1 x2 y2 z1 z2 : Fin Pp} : (gen1 (x1 * (z1 * z1), y1 * (z1 * z1 * z1), z1) (x2 * (z2 * z2), y2 * (z2 * z2 * z2), z2)).2.2 = (x2 - x1) * (z1 * z2) * (z1 * z2) * z1 * z2 := by
 simp only [gen1, hP1, J2]
theorem OP {a b : Fin Pp} (h : a = b) : a - b = 0 := by grobner
theorem VF {x1 x2 y1 y2 l u : Fin Pp} (e1 : x1 = x2 + u) (e2 : y1 = y2 + l * u) : l * (x2 - x1) = y2 - y1 := by grobner
theorem To {x1 x2 l u s : Fin Pp} (e1 : x1 = x2 + u) (a1 : u + s = l * l - 3 * x2) : s = l * l - 3 * x2 - (x1 - x2) := by grobner
theorem Vh {a b : Fin Pp} (h : a * a = b * b) : (a - b) * (a + b) = 0 := by grobner
theorem Xi (a z : Fin Pp) (h : a = 0) : a * z * z = 0 := by subst h; grobner
theorem U8 (a z : Fin Pp) (h : a = 0) : a * z * z * z = 0 := by subst h; grobner
theorem E0 (p q : Pt1) (hp : onE1 (afJ p)) (hq : onE1 (afJ q)) : afJ (tI p q) = adE1 (afJ p) (afJ q) := by
 by_cases hz : p.2.2 = 0
 ·rw [CS p q hz, sP hz]; rfl
 ·by_cases hw : q.2.2 = 0
  ·have e : tI p q = p := by unfold tI; rw [if_neg hz, if_pos hw]
   rw [e, sP hw]
   cases afJ p <;> rfl
  ·obtain ⟨x1, y1, e1, f1⟩ := B6 p hz
   obtain ⟨x2, y2, e2, f2⟩ := B6 q hw
   have htw := EH p hp
   rw [f1] at hp htw ⊢
   rw [f2] at hq ⊢
   have hZ := neE hz hw
   have hh : hP1 p q = (x2 - x1) * (p.2.2 * q.2.2) * (p.2.2 * q.2.2) := by
    rw [e1, e2]; exact J2
   have hr : rP1 p q = (y2 - y1) * (p.2.2 * q.2.2) * (p.2.2 * q.2.2) * (p.2.2 * q.2.2) := by
    rw [e1, e2]; exact Mi
   have hp : y1 * y1 = x1 * x1 * x1 + 4 := hp
   have hq : y2 * y2 = x2 * x2 * x2 + 4 := hq
   unfold tI
   rw [if_neg hz, if_neg hw]
   by_cases hx : x2 = x1
   ·rw [if_pos (by rw [hh]; exact Xi _ _ (OP hx))]
    by_cases hy : y2 = y1
    ·rw [if_pos (by rw [hr]; exact U8 _ _ (OP hy))]
     subst hx hy
     exact htw
    ·rw [if_neg (fun e => by
      rw [hr] at e
      exact neE (neE (neE (fun e => hy (AM e)) hZ) hZ) hZ e)]
     subst hx
     have : (y1 - y2) * (y1 + y2) = 0 := Vh (hp.trans hq.symm)
     rcases sB this with e | e
     ·exact absurd (AM e).symm hy
     ·rw [s9 ⟨rfl, e⟩]
      exact sP rfl
   ·rw [if_neg (fun e => by
     rw [hh] at e
     exact neE (neE (fun e => hx (AM e)) hZ) hZ e)]
    obtain ⟨l, u, s, g1, g2, ⟨a1, a2⟩, e⟩ := uT hp hq (fun hn => hx hn.1.symm)
    rw [e]
    have hl := VF g1 g2
    have hs := To g1 a1
    have kx := Yj (z1 := p.2.2) (z2 := q.2.2) hl hs
    have ky := WA (z1 := p.2.2) (z2 := q.2.2) hl hs
    have kz := Yp (x1 := x1) (y1 := y1) (x2 := x2) (y2 := y2) (z1 := p.2.2) (z2 := q.2.2)
    rw [← e1, ← e2] at kx ky kz
    have hd : (x2 - x1) * (p.2.2 * q.2.2) * (p.2.2 * q.2.2) * p.2.2 * q.2.2 ≠ 0 := neE (neE (neE (neE (fun e => hx (AM e)) hZ) hZ) hz) hw
    generalize (x2 - x1) * (p.2.2 * q.2.2) * (p.2.2 * q.2.2) * p.2.2 * q.2.2 = Z at kx ky kz hd
    have : gen1 p q = ((x2 + s) * (Z * Z), -(y2 + l * s) * (Z * Z * Z), Z) := by
     rw [← kx, ← ky, ← kz]
    rw [this]
    exact HI hd
def nsE (p : PtE) : Nat -> PtE
 | 0 => none
 | n + 1 => adE1 (nsE p n) p
theorem re {p : PtE} (h : onE1 p) : ∀ n, onE1 (nsE p n)
 | 0 => trivial
 | n + 1 => Ip (re h n) h
theorem wW {p : PtE} (h : onE1 p) (m : Nat) : ∀ n, nsE p (m + n) = adE1 (nsE p m) (nsE p n)
 | 0 => by
  show nsE p m = adE1 (nsE p m) none
  cases nsE p m <;> rfl
 | n + 1 => by
  show adE1 (nsE p (m + n)) p = adE1 (nsE p m) (adE1 (nsE p n) p)
  rw [wW h m n, z5 (re h m) (re h n) h]
theorem rY : ∀ n, nsE none n = none
 | 0 => rfl
 | n + 1 => by show adE1 (nsE none n) none = none; rw [rY n]; rfl
theorem qW {p : PtE} (h : onE1 p) (m : Nat) : ∀ n, nsE (nsE p m) n = nsE p (m * n)
 | 0 => rfl
 | n + 1 => by
  show adE1 (nsE (nsE p m) n) (nsE p m) = nsE p (m * n + m)
  rw [qW h m n, wW h]
theorem Bn (p : Pt1) (h : onE1 (afJ p)) : ∀ n, afJ (tab1 p n) = nsE (afJ p) n
 | 0 => sP rfl
 | n + 1 => by
  show afJ (tI (tab1 p n) p) = adE1 (nsE (afJ p) n) (afJ p)
  rw [E0 _ _ (by rw [Bn p h n]; exact re h n) h, Bn p h n]
theorem Ed (p q : Pt1) (h : onE1 (afJ p)) (m : Nat) (e : afJ q = nsE (afJ p) m) : afJ (rl q) = nsE (afJ p) (m + m) := by
 rw [EH q (by rw [e]; exact re h m), e, wW h]
theorem Ji (p : Pt1) (h : onE1 (afJ p)) (k : Nat) (hk : k < 16 ^ 64) : ∀ n, n <= 64 -> afJ (man1 p k n) = nsE (afJ p) (k / 16 ^ (64 - n))
 | 0, _ => by
  rw [Nat.sub_zero, Nat.div_eq_of_lt hk]
  exact sP rfl
 | n + 1, hn => by
  have ih := Ji p h k hk n (by omega)
  have h1 := Ed p _ h _ ih
  have h2 := Ed p _ h _ h1
  have h3 := Ed p _ h _ h2
  have h4 := Ed p _ h _ h3
  show afJ (tI (rl (rl (rl (rl (man1 p k n))))) (tab1 p (dig k (63 - n)))) = _
  rw [E0 _ _ (by rw [h4]; exact re h _) (by rw [Bn p h]; exact re h _), h4, Bn p h, ← wW h]
  congr 1
  unfold dig
  rw [show 64 - n = 63 - n + 1 by omega, Nat.pow_succ, ← Nat.div_div_eq_div_mul, show 64 - (n + 1) = 63 - n by omega]
  omega
theorem Cq (p : Pt1) (h : onE1 (afJ p)) (k : Nat) (hk : k < 16 ^ 64) : afJ (man1 p k 64) = nsE (afJ p) k := by
 have := Ji p h k hk 64 (by omega)
 rw [this, Nat.sub_self, Nat.pow_zero, Nat.div_one]
end Go.Ev
set_option linter.unusedVariables false
set_option linter.unusedSimpArgs false
namespace Go.Ev
theorem Yh (x : Fin Pp) : x * (1 * 1) = x := by grobner
theorem Xc (x : Fin Pp) : x * (1 * 1 * 1) = x := by grobner
theorem Qp : (1 : Fin Pp) ≠ 0 := by decide
theorem Fg (x y : Fin Pp) : afJ (x, y, 1) = some (x, y) := by
 have h := HI (z := 1) (x := x) (y := y) Qp
 rw [Yh, Xc] at h
 exact h
theorem QU : ofP 4 = (4 : Fin Pp) := by decide
theorem MG : onE1 (afJ DB) := by
 have h : afJ DB = some (ofP g1x, ofP g1y) := Fg _ _
 rw [h]
 show ofP g1y * ofP g1y = ofP g1x * ofP g1x * ofP g1x + 4
 decide +kernel
theorem S9 (p : PtE) : adE1 p none = p := by cases p <;> rfl
theorem Oz {p : PtE} (h : onE1 p) : ∀ n, adE1 (nsE p n) (nsE (ngE1 p) n) = none
 | 0 => rfl
 | n + 1 => by
  have hn := ye h
  have a := re h n
  have b := re hn n
  show adE1 (adE1 (nsE p n) p) (adE1 (nsE (ngE1 p) n) (ngE1 p)) = none
  rw [zZ b hn, ← z5 (Ip a h) hn b, z5 a h hn, HO, S9]
  exact Oz h n
theorem zN {p : PtE} (h : onE1 p) {n : Nat} (hz : nsE p n = none) : nsE (ngE1 p) n = none := by
 have h1 := Oz h n
 rw [hz] at h1
 exact h1
def axE (p : Pt1) : Fin Pp := p.1 * (ivE p.2.2 * ivE p.2.2)
def ayE (p : Pt1) : Fin Pp := p.2.1 * (ivE p.2.2 * ivE p.2.2) * ivE p.2.2
theorem YG (y i : Fin Pp) : y * (i * i * i) = y * (i * i) * i := by grobner
theorem S6 {p : Pt1} (h : p.2.2 ≠ 0) : afJ p = some (axE p, ayE p) := by
 unfold afJ
 rw [if_neg h, YG]
 rfl
theorem zW (x : Fin Pp) : ofP x.val = x := by unfold ofP; exact Fin.ofNat_val_eq_self x
theorem WN (x y : Fin Pp) : in1 (x.val, y.val, false) = (x, y, 1) := by
 unfold in1
 rw [if_neg (by simp)]
 show (ofP x.val, ofP y.val, (1 : Fin Pp)) = _
 rw [zW, zW]
theorem Wm {x y : Fin Pp} (h : y * y = x * x * x + 4) : may1 (x.val, y.val, false) := by
 show is1 x.val /\ is1 y.val /\ ofP y.val * ofP y.val = C0 (ofP x.val)
 rw [zW, zW]
 refine ⟨x.isLt, y.isLt, ?_⟩
 unfold C0
 rw [QU]
 exact h
theorem SV : (man1 DB Rr 64).2.2 = 0 := by
 unfold Rr
 exact MS
end Go.Ev
set_option linter.unusedVariables false
set_option linter.unusedSimpArgs false
namespace Go.Ev
def bQ : G2 := (4, 4)
def ivEq (x : G2) : G2 := inv2 x
theorem K7 : (1 : G2) = one2 := um
theorem wk {x : G2} (h : x ≠ 0) : x * ivEq x = 1 := by
 rw [K7]
 exact xB h
theorem rR {x y : G2} (h : x * y = 0) : x = 0 ∨ y = 0 := G5 h
theorem zL : (2 : G2) ≠ 0 := by decide
theorem Ur : norm2 (-bQ) = 32 := by decide
theorem Pt (n i : Fin Pp) (h : n * n * n = 32) (hi : n * i = 1) : (4 * i) * (4 * i) * (4 * i) = 2 := by
 have e : 32 * ((4 * i) * (4 * i) * (4 * i)) = 64 * (i * i * i * 32) := by clear h hi; grobner
 rw [← h] at e
 have e2 : i * i * i * (n * n * n) = (n * i) * (n * i) * (n * i) := by clear h hi e; grobner
 rw [e2, hi, h] at e
 have e3 : (32 : Fin Pp) * ((4 * i) * (4 * i) * (4 * i)) = 32 * 2 := by rw [e]; decide
 have h32 : (32 : Fin Pp) ≠ 0 := by decide
 have hj := ur h32
 generalize pwP 32 4002409555221667393417789825735904156556882819939007885332058136124031650490837864442687629129015664037894272559785 = j at hj
 generalize (4 * i) * (4 * i) * (4 * i) = z at e3
 have e4 : (32 * j) * z = (32 * j) * 2 := by
  have : (32 * j) * z = j * (32 * z) := by clear e e2 e3 hj h32 h hi; grobner
  rw [this, e3]; clear e e2 e3 hj h32 h hi this; grobner
 rw [hj] at e4
 clear e e2 e3 hj h32 h hi
 grobner
theorem XP {x : G2} (h : 0 * 0 = x * x * x + bQ) : x * x * x = -bQ := by grobner
theorem tf (x y : G2) (h : y * y = x * x * x + bQ) : y ≠ 0 := fun e => by
 subst e
 have h4 := XP h
 have hn : norm2 (x * x * x) = norm2 x * norm2 x * norm2 x := by
  show norm2 (mul2 (mul2 x x) x) = _
  rw [uN, uN]
 rw [h4, Ur] at hn
 have h0 : norm2 x ≠ 0 := fun e => by
  rw [e] at hn
  exact absurd hn (by decide)
 exact En (Pt _ _ hn.symm (ur h0))
theorem Dn (a b : G2) : mul2 a b = a * b := rfl
theorem Dt (a b : G2) : qR a b = a + b := rfl
theorem DN (a b : G2) : sI a b = a - b := rfl
abbrev qn := Option (G2 × G2)
def onE1q : qn -> Prop
 | none => True
 | some p => p.2 * p.2 = p.1 * p.1 * p.1 + bQ
def AE : qn -> qn
 | none => none
 | some p => some (p.1, -p.2)
def tP (x1 y1 x2 y2 : G2) : G2 := if x1 = x2 then 3 * x1 * x1 * ivEq (2 * y1) else (y2 - y1) * ivEq (x2 - x1)
def FE (l x1 y1 x2 : G2) : G2 × G2 := (l * l - x1 - x2, -(y1 + l * (l * l - x1 - x2 - x1)))
def adE1q : qn -> qn -> qn
 | none, q => q
 | some p, none => some p
 | some p, some q => if p.1 = q.1 /\ p.2 + q.2 = 0 then none else some (FE (tP p.1 p.2 q.1 q.2) p.1 p.2 q.1)
theorem rV {a x y : G2} (h : a ≠ 0) (e : a * x = a * y) : x = y := by
 have : a * (x - y) = 0 := by grobner
 rcases rR this with h1 | h1
 ·exact absurd h1 h
 ·grobner
structure LnEq (x y l u s : G2) : Prop where
 sum : u + s = l * l - 3 * x
 prod : u * s = 3 * x * x - 2 * y * l
theorem yi {x y1 y : G2} (h1 : y1 * y1 = x * x * x + bQ) (h : y * y = x * x * x + bQ) (hn : y1 + y ≠ 0) : y1 = y := by
 have : (y1 + y) * (y1 - y) = 0 := by grobner
 rcases rR this with e | e
 ·exact absurd e hn
 ·grobner
theorem rp {x1 y1 x y : G2} (h1 : y1 * y1 = x1 * x1 * x1 + bQ) (h : y * y = x * x * x + bQ) (hn : ¬ (x1 = x /\ y1 + y = 0)) :
  ∃ l u s, x1 = x + u /\ y1 = y + l * u /\ LnEq x y l u s /\ adE1q (some (x1, y1)) (some (x, y)) = some (x + s, -(y + l * s)) := by
 have ha : adE1q (some (x1, y1)) (some (x, y)) = some (FE (tP x1 y1 x y) x1 y1 x) := by
  show (if x1 = x /\ y1 + y = 0 then none else some (FE (tP x1 y1 x y) x1 y1 x)) = _
  rw [if_neg hn]
 rw [ha]
 by_cases e : x1 = x
 ·subst e
  have e2 := yi h1 h (fun e2 => hn ⟨rfl, e2⟩)
  subst e2
  have hy := tf _ _ h
  have h2 : (2 : G2) * y1 ≠ 0 := fun e => by rcases rR e with e | e; exact zL e; exact hy e
  have hi := wk h2
  have hl : tP x1 y1 x1 y1 = 3 * x1 * x1 * ivEq (2 * y1) := by unfold tP; rw [if_pos rfl]
  rw [hl]
  generalize ivEq (2 * y1) = i at hi
  refine ⟨3 * x1 * x1 * i, 0, (3 * x1 * x1 * i) * (3 * x1 * x1 * i) - 3 * x1, by grobner, by grobner, ⟨by grobner, by grobner⟩, ?_⟩
  have e1 : (3 * x1 * x1 * i) * (3 * x1 * x1 * i) - x1 - x1 = x1 + ((3 * x1 * x1 * i) * (3 * x1 * x1 * i) - 3 * x1) := by grobner
  unfold FE
  rw [e1]
  refine congrArg some (Prod.ext ?_ ?_) <;> dsimp only <;> grobner
 ·have hd : x - x1 ≠ 0 := fun e2 => e (by grobner)
  have hi := wk hd
  have hl : tP x1 y1 x y = (y - y1) * ivEq (x - x1) := by unfold tP; rw [if_neg e]
  rw [hl]
  generalize ivEq (x - x1) = i at hi
  have hk : (x - x1) * ((y - y1) * i) = y - y1 := by grobner
  generalize (y - y1) * i = l at hk
  refine ⟨l, x1 - x, l * l - 3 * x - (x1 - x), by grobner, by grobner, ⟨by grobner, ?_⟩, ?_⟩
  ·refine rV hd ?_
   grobner
  ·unfold FE
   refine congrArg some (Prod.ext ?_ ?_) <;> dsimp only <;> grobner
theorem B8 {x y l u s : G2} (h : y * y = x * x * x + bQ) (h1 : (y + l * u) * (y + l * u) = (x + u) * (x + u) * (x + u) + bQ) (hL : LnEq x y l u s) (hn : ¬ (x + u = x /\ (y + l * u) + y = 0)) :
  adE1q (some (x + u, y + l * u)) (some (x, y)) = some (x + s, -(y + l * s)) := by
 obtain ⟨l', u', s', e1, e2, hL', e3⟩ := rp h1 h hn
 rw [e3]
 have hu : u = u' := by grobner
 subst hu
 obtain ⟨a1, a2⟩ := hL
 obtain ⟨b1, b2⟩ := hL'
 have hl : l = l' := by
  by_cases h0 : u = 0
  ·subst h0
   have hy := tf _ _ h
   have h2 : (2 : G2) * y ≠ 0 := fun e => by rcases rR e with e | e; exact zL e; exact hy e
   exact rV h2 (by grobner)
  ·exact rV h0 (by grobner)
 subst hl
 have hs : s = s' := by grobner
 subst hs
 rfl
theorem LnEq.third {x y l u s : G2} (h : y * y = x * x * x + bQ) (hL : LnEq x y l u s) : (y + l * s) * (y + l * s) = (x + s) * (x + s) * (x + s) + bQ := by
 obtain ⟨a1, a2⟩ := hL
 have e : u = l * l - 3 * x - s := by grobner
 subst e
 have h3 : (l * l - 3 * x - s) * s - (3 * x * x - 2 * y * l) = 0 := by grobner
 have key : (y + l * s) * (y + l * s) - ((x + s) * (x + s) * (x + s) + bQ) = (y * y - (x * x * x + bQ)) + s * ((l * l - 3 * x - s) * s - (3 * x * x - 2 * y * l)) := by grobner
 rw [h3, h] at key
 grobner
theorem xc {p q : qn} (hp : onE1q p) (hq : onE1q q) : onE1q (adE1q p q) := by
 match p, q, hp, hq with
 | none, q, _, hq => exact hq
 | some p, none, hp, _ => exact hp
 | some (x1, y1), some (x, y), hp, hq =>
  by_cases hn : x1 = x /\ y1 + y = 0
  ·have : adE1q (some (x1, y1)) (some (x, y)) = none := by show (if x1 = x /\ y1 + y = 0 then none else _) = _; rw [if_pos hn]
   rw [this]; trivial
  ·obtain ⟨l, u, s, _, _, hL, e⟩ := rp hp hq hn
   rw [e]
   have := hL.third hq
   show -(y + l * s) * -(y + l * s) = (x + s) * (x + s) * (x + s) + bQ
   grobner
theorem Jt {p : qn} (hp : onE1q p) : onE1q (AE p) := by
 match p, hp with
 | none, _ => trivial
 | some (x, y), hp =>
  have hp : y * y = x * x * x + bQ := hp
  show -y * -y = x * x * x + bQ
  grobner
theorem rk {x1 y1 x y : G2} (hn : x1 = x /\ y1 + y = 0) : adE1q (some (x1, y1)) (some (x, y)) = none := by show (if x1 = x /\ y1 + y = 0 then none else _) = _; rw [if_pos hn]
theorem uO {p q : qn} (hp : onE1q p) (hq : onE1q q) : adE1q p q = adE1q q p := by
 match p, q, hp, hq with
 | none, none, _, _ => rfl
 | none, some _, _, _ => rfl
 | some p, none, _, _ => rfl
 | some (x1, y1), some (x, y), hp, hq =>
  by_cases hn : x1 = x /\ y1 + y = 0
  ·rw [rk hn, rk ⟨hn.1.symm, by rw [← hn.2]; grobner⟩]
  ·obtain ⟨l, u, s, e1, e2, hL, e⟩ := rp hp hq hn
   rw [e]
   subst e1 e2
   have hp : (y + l * u) * (y + l * u) = (x + u) * (x + u) * (x + u) + bQ := hp
   have hq : y * y = x * x * x + bQ := hq
   obtain ⟨a1, a2⟩ := hL
   have hM : LnEq (x + u) (y + l * u) l (-u) (s - u) := ⟨by grobner, by grobner⟩
   have h := B8 (x := x + u) (y := y + l * u) (l := l) (u := -u) (s := s - u) hp (by
    have ex : x + u + -u = x := by grobner
    have ey : y + l * u + l * -u = y := by grobner
    rw [ex, ey]; exact hq) hM (fun hc => hn ⟨by grobner, by grobner⟩)
   have ex : x + u + -u = x := by grobner
   have ey : y + l * u + l * -u = y := by grobner
   rw [ex, ey] at h
   rw [h]
   refine congrArg some (Prod.ext ?_ ?_) <;> dsimp only <;> grobner
theorem EP {p : qn} : adE1q p (AE p) = none := by
 match p with
 | none => rfl
 | some (x, y) => exact rk ⟨rfl, by grobner⟩
theorem Ac {p q : qn} (hp : onE1q p) (hq : onE1q q) : adE1q (adE1q p q) (AE q) = p := by
 match p, q, hp, hq with
 | none, none, _, _ => rfl
 | none, some q, _, _ => exact EP
 | some p, none, _, _ => rfl
 | some (x1, y1), some (x, y), hp, hq =>
  by_cases hn : x1 = x /\ y1 + y = 0
  ·rw [rk hn]
   show some (x, -y) = some (x1, y1)
   refine congrArg some (Prod.ext ?_ ?_)
   ·exact hn.1.symm
   ·have := hn.2; grobner
  ·obtain ⟨l, u, s, e1, e2, hL, e⟩ := rp hp hq hn
   rw [e]
   subst e1 e2
   have hp : (y + l * u) * (y + l * u) = (x + u) * (x + u) * (x + u) + bQ := hp
   have hq : y * y = x * x * x + bQ := hq
   have ht := hL.third hq
   obtain ⟨a1, a2⟩ := hL
   have hy := tf _ _ hq
   have hM : LnEq x (-y) (-l) s u := ⟨by grobner, by grobner⟩
   have h := B8 (x := x) (y := -y) (l := -l) (u := s) (s := u) (by grobner) (by grobner) hM (fun hc => by
    have h0 : s = 0 := by grobner
    subst h0
    have h2 : (2 : G2) * y = 0 := by grobner
    rcases rR h2 with e | e
    ·exact zL e
    ·exact hy e)
   have ey : -y + -l * s = -(y + l * s) := by grobner
   rw [ey] at h
   show adE1q (some (x + s, -(y + l * s))) (some (x, -y)) = _
   rw [h]
   refine congrArg some (Prod.ext ?_ ?_) <;> dsimp only <;> grobner
theorem xA {x y : G2} (h : y * y = x * x * x + bQ) : (2 : G2) * y ≠ 0 := fun e => by
 rcases rR e with e | e
 ·exact zL e
 ·exact tf _ _ h e
theorem Us {x l m k4 v s3 s4 t : G2} (ht : t = m * m - 3 * x - v) (h3 : s3 = (k4 + m - l) * (k4 + m - l) - 3 * (x + v) - (l * l - 3 * x - (v + (l - m) * (k4 + m)) - v)) (h4 : s4 = k4 * k4 - 3 * (x + t) - (v + (l - m) * (k4 + m) - t)) :
  x + v + s3 = x + t + s4 := by subst h3 h4 ht; grobner
theorem TD {x y l m k4 v s3 s4 t : G2} (ht : t = m * m - 3 * x - v) (h3 : s3 = (k4 + m - l) * (k4 + m - l) - 3 * (x + v) - (l * l - 3 * x - (v + (l - m) * (k4 + m)) - v)) (h4 : s4 = k4 * k4 - 3 * (x + t) - (v + (l - m) * (k4 + m) - t)) (d3 : y + m * t = k4 * (v + (l - m) * (k4 + m) - t) - (y + l * (v + (l - m) * (k4 + m)))) :
  -((y + m * v) + (k4 + m - l) * s3) = -(-(y + m * t) + k4 * s4) := by rw [d3]; subst h3 h4 ht; grobner
theorem Pu {x y l u s m v t k3 k4 s3 s4 : G2} (a1 : u + s = l * l - 3 * x) (b1 : v + t = m * m - 3 * x)
  (c1 : (s - v) + s3 = k3 * k3 - 3 * (x + v)) (d1 : (u - t) + s4 = k4 * k4 - 3 * (x + t)) (d3 : y + l * u = -(y + m * t) + k4 * (u - t))
  (F1 : k3 + l = k4 + m) (F2 : (l - m) * (k4 + m) = u - v) :
  (x + v + s3, -((y + m * v) + k3 * s3)) = (x + t + s4, -(-(y + m * t) + k4 * s4)) := by
 have hk : k3 = k4 + m - l := by clear a1 b1 c1 d1 d3 F2; grobner
 subst hk
 have hu : u = v + (l - m) * (k4 + m) := by clear a1 b1 c1 d1 d3 F1; grobner
 have hs : s = l * l - 3 * x - u := by clear b1 c1 d1 d3 F1 F2 hu; grobner
 have ht : t = m * m - 3 * x - v := by clear a1 c1 d1 d3 F1 F2 hu hs; grobner
 have h3 : s3 = (k4 + m - l) * (k4 + m - l) - 3 * (x + v) - (s - v) := by clear a1 b1 d1 d3 F1 F2 hu hs ht; grobner
 have h4 : s4 = k4 * k4 - 3 * (x + t) - (u - t) := by clear a1 b1 c1 d3 F1 F2 hu hs ht h3; grobner
 have d4 : y + m * t = k4 * (u - t) - (y + l * u) := by clear a1 b1 c1 d1 F1 F2 hu hs ht h3 h4; grobner
 rw [hs] at h3
 clear a1 b1 c1 d1 d3 F1 F2 hs
 subst hu
 exact Prod.ext (Us ht h3 h4) (TD ht h3 h4 d4)
theorem Ee {x y l u s m v t k4 : G2} (a1 : u + s = l * l - 3 * x) (b1 : v + t = m * m - 3 * x) (hR : u * s + 2 * y * l = v * t + 2 * y * m) (hq : k4 * (u - t) = 2 * y + l * u + m * t) :
  (u - t) * ((l - m) * (k4 + m)) = (u - t) * (u - v) := by
 have e : (u - t) * ((l - m) * (k4 + m)) = (l - m) * (k4 * (u - t) + m * (u - t)) := by clear a1 b1 hR hq; grobner
 rw [e, hq]
 clear e hq
 have hs : s = l * l - 3 * x - u := by clear b1 hR; grobner
 have ht : t = m * m - 3 * x - v := by clear a1 hR hs; grobner
 clear a1 b1
 subst hs ht
 grobner
theorem MD {x y l u s m v t k3 : G2} (a1 : u + s = l * l - 3 * x) (b1 : v + t = m * m - 3 * x) (hR : u * s + 2 * y * l = v * t + 2 * y * m) (hp : k3 * (s - v) = -(2 * y + l * s + m * v)) :
  (s - v) * ((l - m) * (k3 + l)) = (s - v) * (u - v) := by
 have e : (s - v) * ((l - m) * (k3 + l)) = (l - m) * (k3 * (s - v) + l * (s - v)) := by clear a1 b1 hR hp; grobner
 rw [e, hp]
 clear e hp
 have hs : s = l * l - 3 * x - u := by clear b1 hR; grobner
 have ht : t = m * m - 3 * x - v := by clear a1 hR hs; grobner
 clear a1 b1
 subst hs ht
 grobner
theorem L8 {x y l u s m v t k3 k4 : G2} (a1 : u + s = l * l - 3 * x) (b1 : v + t = m * m - 3 * x) (hR : u * s + 2 * y * l = v * t + 2 * y * m) (hp : k3 * (s - v) = -(2 * y + l * s + m * v)) (hq : k4 * (u - t) = 2 * y + l * u + m * t) :
  (s - v) * ((u - t) * (k3 + l)) = (s - v) * ((u - t) * (k4 + m)) := by
 have e1 : (s - v) * ((u - t) * (k3 + l)) = (u - t) * (k3 * (s - v) + l * (s - v)) := by clear a1 b1 hR hp hq; grobner
 have e2 : (s - v) * ((u - t) * (k4 + m)) = (s - v) * (k4 * (u - t) + m * (u - t)) := by clear a1 b1 hR hp hq e1; grobner
 rw [e1, e2, hp, hq]
 clear e1 e2 hp hq
 have hs : s = l * l - 3 * x - u := by clear b1 hR; grobner
 have ht : t = m * m - 3 * x - v := by clear a1 hR hs; grobner
 clear a1 b1
 subst hs ht
 grobner
theorem IV {x y l u s m k3 s3 : G2} (a1 : u + s = l * l - 3 * x) (a2 : u * s = 3 * x * x - 2 * y * l) (c2 : (s - s) * s3 = 3 * (x + s) * (x + s) - 2 * (y + m * s) * k3) (hyy : -(y + l * s) = y + m * s) :
  s * ((l - m) * (k3 + l)) = s * (u - s) := by
 have h2 : 2 * (y + m * s) = (m - l) * s := by clear a1 a2 c2; grobner
 have h5 : 2 * y = -((l + m) * s) := by clear a1 a2 c2 h2; grobner
 have h4 : 3 * x * x = u * s + 2 * y * l := by clear a1 c2 h2 h5; grobner
 rw [h5] at h4
 rw [h2] at c2
 have e1 : s * ((l - m) * (k3 + l)) = s * (l - m) * l - (m - l) * s * k3 := by clear a1 a2 c2 hyy h2 h5 h4; grobner
 have e2 : (m - l) * s * k3 = 3 * x * x + 2 * (3 * x) * s + 3 * s * s := by clear a1 a2 hyy h2 h5 h4 e1; grobner
 have e3 : 3 * x = l * l - u - s := by clear a2 c2 hyy h2 h5 h4 e1 e2; grobner
 rw [e1, e2, h4, e3]
 clear a1 a2 c2 hyy h2 h5 h4 e1 e2 e3
 grobner
theorem Jb {x y l u m v k4 s4 : G2} (b1 : v + u = m * m - 3 * x) (b2 : v * u = 3 * x * x - 2 * y * m) (d2 : (u - u) * s4 = 3 * (x + u) * (x + u) - 2 * (-(y + m * u)) * k4) (hyy : y + l * u = -(y + m * u)) :
  u * ((l - m) * (k4 + m)) = u * (u - v) := by
 have h2 : 2 * (-(y + m * u)) = (l - m) * u := by clear b1 b2 d2; grobner
 have h5 : 2 * y = -((l + m) * u) := by clear b1 b2 d2 h2; grobner
 have h4 : 3 * x * x = v * u + 2 * y * m := by clear b1 d2 h2 h5; grobner
 rw [h5] at h4
 rw [h2] at d2
 have e1 : u * ((l - m) * (k4 + m)) = u * (l - m) * m + (l - m) * u * k4 := by clear b1 b2 d2 hyy h2 h5 h4; grobner
 have e2 : (l - m) * u * k4 = 3 * x * x + 2 * (3 * x) * u + 3 * u * u := by clear b1 b2 hyy h2 h5 h4 e1; grobner
 have e3 : 3 * x = m * m - v - u := by clear b2 d2 hyy h2 h5 h4 e1 e2; grobner
 rw [e1, e2, h4, e3]
 clear b1 b2 d2 hyy h2 h5 h4 e1 e2 e3
 grobner
theorem D8 {s v x : G2} (h : x + s = x + v) : s = v := by grobner
theorem uw {a b : G2} (h : a - b = 0) : a = b := by grobner
theorem Mp {y l m s : G2} (h : -(y + l * s) + (y + m * s) = 0) : (m - l) * s = 0 := by grobner
theorem NG {y l m u : G2} (h : (y + l * u) + -(y + m * u) = 0) : (m - l) * u = 0 := by grobner
theorem Ea {l m : G2} (h : m - l = 0) : l = m := by grobner
theorem LG {l m y v t u : G2} (h : u * 0 + 2 * y * l = 0 * t + 2 * y * m) : 2 * y * l = 2 * y * m := by grobner
theorem M0 {l m y v s : G2} (h : 0 * s + 2 * y * l = v * 0 + 2 * y * m) : 2 * y * l = 2 * y * m := by grobner
theorem M3 {u s x l t : G2} (a1 : u + s = l * l - 3 * x) (b1 : s + t = l * l - 3 * x) : u = t := by grobner
theorem MY {u s x l v : G2} (a1 : u + s = l * l - 3 * x) (b1 : v + u = l * l - 3 * x) : s = v := by grobner
theorem I3 {u s x l m : G2} (a1 : u + s = l * l - 3 * x) (b1 : s + u = m * m - 3 * x) : (l - m) * (l + m) = 0 := by grobner
theorem I7 {y l s : G2} (h : -(y + l * s) = y + l * s) : 2 * (y + l * s) = 0 := by grobner
theorem JN {y l m s : G2} (h : -(y + l * s) = y + m * s) (e : l + m = 0) : 2 * y = 0 := by
 have : m = -l := by clear h; grobner
 subst this
 clear e
 grobner
theorem I0 {u s x l m t : G2} (a1 : u + s = l * l - 3 * x) (b1 : s + t = m * m - 3 * x) : (l - m) * (l + m) = u - t := by grobner
theorem Jl {u s x l m v : G2} (a1 : u + s = l * l - 3 * x) (b1 : v + u = m * m - 3 * x) : (l - m) * (l + m) = s - v := by grobner
theorem IG {y l m : G2} (h : -(y + l * 0) = y + m * 0) : 2 * y = 0 := by grobner
theorem Jn {y l m : G2} (h : y + l * 0 = -(y + m * 0)) : 2 * y = 0 := by grobner
theorem Bd {y l s m v k3 : G2} (f2 : -(y + l * s) = y + m * v + k3 * (s - v)) : k3 * (s - v) = -(2 * y + l * s + m * v) := by grobner
theorem yI {y l u m t k4 : G2} (g2 : y + l * u = -(y + m * t) + k4 * (u - t)) : k4 * (u - t) = 2 * y + l * u + m * t := by grobner
theorem Bf {x s v u3 : G2} (f1 : x + s = x + v + u3) : u3 = s - v := by grobner
theorem Bp {a b : G2} (h : a * a = b) : -a * -a = b := by grobner
theorem JK {u s v t x y l m : G2} (a2 : u * s = 3 * x * x - 2 * y * l) (b2 : v * t = 3 * x * x - 2 * y * m) : u * s + 2 * y * l = v * t + 2 * y * m := by grobner
theorem Br {l m : G2} (e : l - m = 0) : (l - m) * (l + m) = 0 := by rw [e]; clear e; grobner
theorem JL {y l u : G2} : y + l * u + -(y + l * u) = 0 := by grobner
theorem JE {y l s : G2} : -(y + l * s) + (y + l * s) = 0 := by grobner
theorem GG {x1 y1 x y x2 y2 : G2} (h1 : y1 * y1 = x1 * x1 * x1 + bQ) (h : y * y = x * x * x + bQ) (h2 : y2 * y2 = x2 * x2 * x2 + bQ)
  (n1 : ¬ (x1 = x /\ y1 + y = 0)) (n2 : ¬ (x2 = x /\ y2 + y = 0)) : adE1q (adE1q (some (x1, y1)) (some (x, y))) (some (x2, y2)) = adE1q (some (x1, y1)) (adE1q (some (x2, y2)) (some (x, y))) := by
 obtain ⟨l, u, s, e1, e2, hL, eS⟩ := rp h1 h n1
 obtain ⟨m, v, t, e3, e4, hM, eT⟩ := rp h2 h n2
 subst e1 e2 e3 e4
 rw [eS, eT]
 have hS := Bp (hL.third h)
 have hT := Bp (hM.third h)
 obtain ⟨a1, a2⟩ := hL
 obtain ⟨b1, b2⟩ := hM
 have h2y := xA h
 have hR := JK a2 b2
 by_cases n3 : x + s = x + v /\ -(y + l * s) + (y + m * v) = 0
 ·rw [rk n3]
  obtain ⟨p1, p2⟩ := n3
  have hs := D8 p1
  subst hs
  have hml : l = m := by
   rcases rR (Mp p2) with e | e
   ·exact Ea e
   ·subst e
    exact rV h2y (LG (v := 0) hR)
  subst hml
  have hu := M3 a1 b1
  subst hu
  rw [rk ⟨rfl, JL⟩]
 ·by_cases n4 : x + u = x + t /\ (y + l * u) + -(y + m * t) = 0
  ·exfalso
   obtain ⟨p1, p2⟩ := n4
   have hu := D8 p1
   subst hu
   have hml : l = m := by
    rcases rR (NG p2) with e | e
    ·exact Ea e
    ·subst e
     exact rV h2y (M0 hR)
   subst hml
   have hs := MY a1 b1
   subst hs
   exact n3 ⟨rfl, JE⟩
  ·obtain ⟨k3, u3, s3, f1, f2, ⟨c1, c2⟩, eL⟩ := rp (x1 := x + s) (y1 := -(y + l * s)) (x := x + v) (y := y + m * v) hS h2 n3
   obtain ⟨k4, u4, s4, g1, g2, ⟨d1, d2⟩, eR⟩ := rp (x1 := x + u) (y1 := y + l * u) (x := x + t) (y := -(y + m * t)) h1 hT n4
   rw [eL, eR]
   have hu3 := Bf f1
   have hu4 := Bf g1
   subst hu3 hu4
   have key : k3 + l = k4 + m /\ (l - m) * (k4 + m) = u - v := by
    by_cases ha : s - v = 0
    ·have hs := uw ha
     subst hs
     have hyy := yi hS h2 (fun e => n3 ⟨rfl, e⟩)
     by_cases hd : u - t = 0
     ·exfalso
      have hu := uw hd
      subst hu
      rcases rR (I3 a1 b1) with e | e
      ·have := uw e
       subst this
       exact xA h2 (I7 hyy)
      ·exact h2y (JN hyy e)
     ·have hw := I0 a1 b1
      have hl0 : l - m ≠ 0 := fun e => hd (by rw [← hw]; exact Br e)
      have hs0 : s ≠ 0 := fun e => by subst e; exact h2y (IG hyy)
      have F2 := rV hd (Ee a1 b1 hR (yI g2))
      have F3 := rV hs0 (IV a1 a2 c2 hyy)
      exact ⟨rV hl0 (by rw [F3, F2]), F2⟩
    ·by_cases hd : u - t = 0
     ·have hu := uw hd
      subst hu
      have hyy2 := yi h1 hT (fun e => n4 ⟨rfl, e⟩)
      have hw := Jl a1 b1
      have hl0 : l - m ≠ 0 := fun e => ha (by rw [← hw]; exact Br e)
      have hu0 : u ≠ 0 := fun e => by subst e; exact h2y (Jn hyy2)
      have F3 := rV ha (MD a1 b1 hR (Bd f2))
      have F2 := rV hu0 (Jb b1 b2 d2 hyy2)
      exact ⟨rV hl0 (by rw [F3, F2]), F2⟩
     ·exact ⟨rV hd (rV ha (L8 a1 b1 hR (Bd f2) (yI g2))), rV hd (Ee a1 b1 hR (yI g2))⟩
   exact congrArg some (Pu a1 b1 c1 d1 g2 key.1 key.2)
theorem J4 {y1 y : G2} (e : y1 + y = 0) : y1 = -y := by grobner
theorem vi {p q r : qn} (hp : onE1q p) (hq : onE1q q) (hr : onE1q r) : adE1q (adE1q p q) r = adE1q p (adE1q q r) := by
 match p, q, r, hp, hq, hr with
 | none, _, _, _, _, _ => rfl
 | some _, none, _, _, _, _ => rfl
 | some p, some q, none, hp, hq, _ =>
  have : ∀ z : qn, adE1q z none = z := fun z => by cases z <;> rfl
  rw [this]; rfl
 | some (x1, y1), some (x, y), some (x2, y2), hp, hq, hr =>
  by_cases n1 : x1 = x /\ y1 + y = 0
  ·rw [rk n1]
   have e : (some (x1, y1) : qn) = AE (some (x, y)) := by
    obtain ⟨rfl, e⟩ := n1
    show some (x1, y1) = some (x1, -y)
    rw [J4 e]
   rw [e, uO (Jt hq) (xc hq hr), uO hq hr, Ac hr hq]
   rfl
  ·by_cases n2 : x2 = x /\ y2 + y = 0
   ·have e : (some (x2, y2) : qn) = AE (some (x, y)) := by
     obtain ⟨rfl, e⟩ := n2
     show some (x2, y2) = some (x2, -y)
     rw [J4 e]
    rw [e, Ac hp hq, EP]
    show some (x1, y1) = adE1q (some (x1, y1)) none
    rfl
   ·rw [uO hq hr]
    exact GG hp hq hr n1 n2
def afJq (p : Pt2) : qn := if p.2.2 = 0 then none else some (p.1 * (ivEq p.2.2 * ivEq p.2.2), p.2.1 * (ivEq p.2.2 * ivEq p.2.2 * ivEq p.2.2))
theorem si {p : Pt2} (h : p.2.2 = 0) : afJq p = none := by unfold afJq; rw [if_pos h]
theorem Db {p : Pt2} (h : afJq p = none) : p.2.2 = 0 := by
 unfold afJq at h
 split at h
 ·assumption
 ·cases h
theorem VQ {x z i : G2} (hi : z * i = 1) : x * (z * z) * (i * i) = x := by
 have e : x * (z * z) * (i * i) = x * ((z * i) * (z * i)) := by clear hi; grobner
 rw [e, hi]; clear e hi; grobner
theorem Ts {y z i : G2} (hi : z * i = 1) : y * (z * z * z) * (i * i * i) = y := by
 have e : y * (z * z * z) * (i * i * i) = y * ((z * i) * (z * i) * (z * i)) := by clear hi; grobner
 rw [e, hi]; clear e hi; grobner
theorem Th {x z i : G2} (hi : z * i = 1) : x = x * (i * i) * (z * z) := by
 have e : x * (i * i) * (z * z) = x * ((z * i) * (z * i)) := by clear hi; grobner
 rw [e, hi]; clear e hi; grobner
theorem U9 {x z i : G2} (hi : z * i = 1) : x = x * (i * i * i) * (z * z * z) := by
 have e : x * (i * i * i) * (z * z * z) = x * ((z * i) * (z * i) * (z * i)) := by clear hi; grobner
 rw [e, hi]; clear e hi; grobner
theorem Bj {z x y : G2} (hz : z ≠ 0) : afJq (x * (z * z), y * (z * z * z), z) = some (x, y) := by
 have hi := wk hz
 unfold afJq
 rw [if_neg hz]
 show some (x * (z * z) * (ivEq z * ivEq z), y * (z * z * z) * (ivEq z * ivEq z * ivEq z)) = _
 rw [VQ hi, Ts hi]
theorem wv (p : Pt2) (hz : p.2.2 ≠ 0) : ∃ x y, p = (x * (p.2.2 * p.2.2), y * (p.2.2 * p.2.2 * p.2.2), p.2.2) /\ afJq p = some (x, y) := by
 obtain ⟨X, Y, z⟩ := p
 have hi := wk hz
 refine ⟨X * (ivEq z * ivEq z), Y * (ivEq z * ivEq z * ivEq z), ?_, ?_⟩
 ·show (X, Y, z) = (X * (ivEq z * ivEq z) * (z * z), Y * (ivEq z * ivEq z * ivEq z) * (z * z * z), z)
  rw [← Th hi, ← U9 hi]
 ·unfold afJq; rw [if_neg hz]
theorem QQ {x y z l s : G2} (hl : 0 * s = 3 * x * x - 2 * y * l) (hs : 0 + s = l * l - 3 * x) : (dbl2 (x * (z * z), y * (z * z * z), z)).1 = (x + s) * ((dbl2 (x * (z * z), y * (z * z * z), z)).2.2 * (dbl2 (x * (z * z), y * (z * z * z), z)).2.2) := by
 have h1 : 2 * y * l = 3 * x * x := by clear hs; grobner
 have h2 : s = l * l - 3 * x := by clear hl h1; grobner
 simp only [dbl2, Dn, Dt, DN]
 have e : (x + s) * ((y * (z * z * z) * z + y * (z * z * z) * z) * (y * (z * z * z) * z + y * (z * z * z) * z)) = ((2 * y * l) * (2 * y * l) - 2 * x * (2 * y) * (2 * y)) * (z * z * z * z * z * z * z * z) := by
  rw [h2]; clear hl hs h1 h2; grobner
 rw [e, h1]
 clear hl hs h1 h2 e
 grobner
theorem P8 {x y z l s : G2} (hl : 0 * s = 3 * x * x - 2 * y * l) (hs : 0 + s = l * l - 3 * x) : (dbl2 (x * (z * z), y * (z * z * z), z)).2.1 = -(y + l * s) * ((dbl2 (x * (z * z), y * (z * z * z), z)).2.2 * (dbl2 (x * (z * z), y * (z * z * z), z)).2.2 * (dbl2 (x * (z * z), y * (z * z * z), z)).2.2) := by
 have h1 : 2 * y * l = 3 * x * x := by clear hs; grobner
 have h2 : s = l * l - 3 * x := by clear hl h1; grobner
 simp only [dbl2, Dn, Dt, DN]
 have e : -(y + l * s) * ((y * (z * z * z) * z + y * (z * z * z) * z) * (y * (z * z * z) * z + y * (z * z * z) * z) * (y * (z * z * z) * z + y * (z * z * z) * z)) = -(y * (2 * y) * (2 * y) * (2 * y) + (2 * y * l) * ((2 * y * l) * (2 * y * l) - 3 * x * (2 * y) * (2 * y))) * (z * z * z * z * z * z * z * z * z * z * z * z) := by
  rw [h2]; clear hl hs h1 h2; grobner
 rw [e, h1]
 clear hl hs h1 h2 e
 grobner
theorem Pi {x y z : G2} : (dbl2 (x * (z * z), y * (z * z * z), z)).2.2 = (2 * y) * (z * z * z * z) := by
 simp only [dbl2, Dn, Dt, DN]
 grobner
theorem uu {a b : G2} (h1 : a ≠ 0) (h2 : b ≠ 0) : a * b ≠ 0 := fun e => by
 rcases rR e with e | e
 ·exact h1 e
 ·exact h2 e
theorem Qy {y : G2} (h : y + y = 0) : 2 * y = 0 := by grobner
theorem Rb {x u : G2} (h : x = x + u) : u = 0 := by grobner
theorem M9 {x y z : G2} (hz : z ≠ 0) (h : y * y = x * x * x + bQ) : afJq (dbl2 (x * (z * z), y * (z * z * z), z)) = adE1q (some (x, y)) (some (x, y)) := by
 have h2 := xA h
 obtain ⟨l, u, s, e1, e2, ⟨a1, a2⟩, e⟩ := rp h h (fun hn => h2 (by have := hn.2; exact Qy this))
 rw [e]
 have hu := Rb e1
 subst hu
 have hx := QQ (z := z) a2 a1
 have hy := P8 (z := z) a2 a1
 have hzz : (dbl2 (x * (z * z), y * (z * z * z), z)).2.2 ≠ 0 := by
  rw [Pi]
  exact uu h2 (uu (uu (uu hz hz) hz) hz)
 generalize dbl2 (x * (z * z), y * (z * z * z), z) = d at hx hy hzz
 obtain ⟨X, Y, Z⟩ := d
 have hx : X = (x + s) * (Z * Z) := hx
 have hy : Y = -(y + l * s) * (Z * Z * Z) := hy
 rw [hx, hy]
 exact Bj hzz
theorem BS (p : Pt2) (h : onE1q (afJq p)) : afJq (rq p) = adE1q (afJq p) (afJq p) := by
 by_cases hz : p.2.2 = 0
 ·rw [tN p hz, si hz]; rfl
 ·obtain ⟨x, y, e, ea⟩ := wv p hz
  rw [ea] at h ⊢
  unfold rq
  rw [if_neg (show ¬ p.2.2 = ((0, 0) : F2) from hz), e]
  exact M9 hz h
theorem EQ {x1 x2 z1 z2 : G2} : x2 * (z2 * z2) * (z1 * z1) - x1 * (z1 * z1) * (z2 * z2) = (x2 - x1) * (z1 * z2) * (z1 * z2) := by grobner
theorem Hr {y1 y2 z1 z2 : G2} : y2 * (z2 * z2 * z2) * (z1 * z1) * z1 - y1 * (z1 * z1 * z1) * (z2 * z2) * z2 = (y2 - y1) * (z1 * z2) * (z1 * z2) * (z1 * z2) := by grobner
theorem VK {x1 y1 x2 y2 z1 z2 l s : G2} (hl : l * (x2 - x1) = y2 - y1) (hs : s = l * l - 3 * x2 - (x1 - x2)) :
  (gen2 (x1 * (z1 * z1), y1 * (z1 * z1 * z1), z1) (x2 * (z2 * z2), y2 * (z2 * z2 * z2), z2)).1 = (x2 + s) * (((x2 - x1) * (z1 * z2) * (z1 * z2) * z1 * z2) * ((x2 - x1) * (z1 * z2) * (z1 * z2) * z1 * z2)) := by
 simp only [gen2, hP2, rP2, Dn, Dt, DN, EQ, Hr]
 have e : (x2 + s) * (((x2 - x1) * (z1 * z2) * (z1 * z2) * z1 * z2) * ((x2 - x1) * (z1 * z2) * (z1 * z2) * z1 * z2)) = ((l * (x2 - x1)) * (l * (x2 - x1)) - (x1 + x2) * (x2 - x1) * (x2 - x1)) * ((z1 * z2) * (z1 * z2) * (z1 * z2)) * ((z1 * z2) * (z1 * z2) * (z1 * z2)) := by
  rw [hs]; clear hl hs; grobner
 rw [e, hl]
 clear hl hs e
 grobner
theorem U4 {x1 y1 x2 y2 z1 z2 l s : G2} (hl : l * (x2 - x1) = y2 - y1) (hs : s = l * l - 3 * x2 - (x1 - x2)) :
  (gen2 (x1 * (z1 * z1), y1 * (z1 * z1 * z1), z1) (x2 * (z2 * z2), y2 * (z2 * z2 * z2), z2)).2.1 = -(y2 + l * s) * (((x2 - x1) * (z1 * z2) * (z1 * z2) * z1 * z2) * ((x2 - x1) * (z1 * z2) * (z1 * z2) * z1 * z2) * ((x2 - x1) * (z1 * z2) * (z1 * z2) * z1 * z2)) := by
 simp only [gen2, hP2, rP2, Dn, Dt, DN, EQ, Hr]
 have e : -(y2 + l * s) * (((x2 - x1) * (z1 * z2) * (z1 * z2) * z1 * z2) * ((x2 - x1) * (z1 * z2) * (z1 * z2) * z1 * z2) * ((x2 - x1) * (z1 * z2) * (z1 * z2) * z1 * z2)) = -(y2 * (x2 - x1) * (x2 - x1) * (x2 - x1) + (l * (x2 - x1)) * ((l * (x2 - x1)) * (l * (x2 - x1)) - (x1 + 2 * x2) * (x2 - x1) * (x2 - x1))) * (((z1 * z2) * (z1 * z2) * (z1 * z2)) * ((z1 * z2) * (z1 * z2) * (z1 * z2)) * ((z1 * z2) * (z1 * z2) * (z1 * z2))) := by
  rw [hs]; clear hl hs; grobner
 rw [e, hl]
 clear hl hs e
 grobner
theorem TK {x1 y1 x2 y2 z1 z2 : G2} : (gen2 (x1 * (z1 * z1), y1 * (z1 * z1 * z1), z1) (x2 * (z2 * z2), y2 * (z2 * z2 * z2), z2)).2.2 = (x2 - x1) * (z1 * z2) * (z1 * z2) * z1 * z2 := by
 simp only [gen2, hP2, Dn, Dt, DN, EQ]
theorem Iz {a b : G2} (h : a = b) : a - b = 0 := by grobner
theorem Qd {x1 x2 y1 y2 l u : G2} (e1 : x1 = x2 + u) (e2 : y1 = y2 + l * u) : l * (x2 - x1) = y2 - y1 := by grobner
theorem PF {x1 x2 l u s : G2} (e1 : x1 = x2 + u) (a1 : u + s = l * l - 3 * x2) : s = l * l - 3 * x2 - (x1 - x2) := by grobner
theorem QK {a b : G2} (h : a * a = b * b) : (a - b) * (a + b) = 0 := by grobner
theorem UR (a z : G2) (h : a = 0) : a * z * z = 0 := by subst h; grobner
theorem Qv (a z : G2) (h : a = 0) : a * z * z * z = 0 := by subst h; grobner
theorem CG (p q : Pt2) (hp : onE1q (afJq p)) (hq : onE1q (afJq q)) : afJq (vr p q) = adE1q (afJq p) (afJq q) := by
 by_cases hz : p.2.2 = 0
 ·rw [CC p q hz, si hz]; rfl
 ·by_cases hw : q.2.2 = 0
  ·have e : vr p q = p := by unfold vr; rw [if_neg (show ¬ p.2.2 = ((0, 0) : F2) from hz), if_pos (show q.2.2 = ((0, 0) : F2) from hw)]
   rw [e, si hw]
   cases afJq p <;> rfl
  ·obtain ⟨x1, y1, e1, f1⟩ := wv p hz
   obtain ⟨x2, y2, e2, f2⟩ := wv q hw
   have htw := BS p hp
   rw [f1] at hp htw ⊢
   rw [f2] at hq ⊢
   have hZ := uu hz hw
   have hh : hP2 p q = (x2 - x1) * (p.2.2 * q.2.2) * (p.2.2 * q.2.2) := by
    rw [e1, e2]; exact EQ
   have hr : rP2 p q = (y2 - y1) * (p.2.2 * q.2.2) * (p.2.2 * q.2.2) * (p.2.2 * q.2.2) := by
    rw [e1, e2]; exact Hr
   have hp : y1 * y1 = x1 * x1 * x1 + bQ := hp
   have hq : y2 * y2 = x2 * x2 * x2 + bQ := hq
   unfold vr
   rw [if_neg (show ¬ p.2.2 = ((0, 0) : F2) from hz), if_neg (show ¬ q.2.2 = ((0, 0) : F2) from hw)]
   by_cases hx : x2 = x1
   ·rw [if_pos (show hP2 p q = ((0, 0) : F2) from by rw [hh]; exact UR _ _ (Iz hx))]
    by_cases hy : y2 = y1
    ·rw [if_pos (show rP2 p q = ((0, 0) : F2) from by rw [hr]; exact Qv _ _ (Iz hy))]
     subst hx hy
     exact htw
    ·rw [if_neg (show ¬ rP2 p q = ((0, 0) : F2) from fun e => by
      rw [hr] at e
      exact uu (uu (uu (fun e => hy (uw e)) hZ) hZ) hZ e)]
     subst hx
     have : (y1 - y2) * (y1 + y2) = 0 := QK (hp.trans hq.symm)
     rcases rR this with e | e
     ·exact absurd (uw e).symm hy
     ·rw [rk ⟨rfl, e⟩]
      exact si rfl
   ·rw [if_neg (show ¬ hP2 p q = ((0, 0) : F2) from fun e => by
     rw [hh] at e
     exact uu (uu (fun e => hx (uw e)) hZ) hZ e)]
    obtain ⟨l, u, s, g1, g2, ⟨a1, a2⟩, e⟩ := rp hp hq (fun hn => hx hn.1.symm)
    rw [e]
    have hl := Qd g1 g2
    have hs := PF g1 a1
    have kx := VK (z1 := p.2.2) (z2 := q.2.2) hl hs
    have ky := U4 (z1 := p.2.2) (z2 := q.2.2) hl hs
    have kz := TK (x1 := x1) (y1 := y1) (x2 := x2) (y2 := y2) (z1 := p.2.2) (z2 := q.2.2)
    rw [← e1, ← e2] at kx ky kz
    have hd : (x2 - x1) * (p.2.2 * q.2.2) * (p.2.2 * q.2.2) * p.2.2 * q.2.2 ≠ 0 := uu (uu (uu (uu (fun e => hx (uw e)) hZ) hZ) hz) hw
    generalize (x2 - x1) * (p.2.2 * q.2.2) * (p.2.2 * q.2.2) * p.2.2 * q.2.2 = Z at kx ky kz hd
    have : gen2 p q = ((x2 + s) * (Z * Z), -(y2 + l * s) * (Z * Z * Z), Z) := by
     rw [← kx, ← ky, ← kz]
    rw [this]
    exact Bj hd
def nsEq (p : qn) : Nat -> qn
 | 0 => none
 | n + 1 => adE1q (nsEq p n) p
theorem rh {p : qn} (h : onE1q p) : ∀ n, onE1q (nsEq p n)
 | 0 => trivial
 | n + 1 => xc (rh h n) h
theorem tE {p : qn} (h : onE1q p) (m : Nat) : ∀ n, nsEq p (m + n) = adE1q (nsEq p m) (nsEq p n)
 | 0 => by
  show nsEq p m = adE1q (nsEq p m) none
  cases nsEq p m <;> rfl
 | n + 1 => by
  show adE1q (nsEq p (m + n)) p = adE1q (nsEq p m) (adE1q (nsEq p n) p)
  rw [tE h m n, vi (rh h m) (rh h n) h]
theorem wh : ∀ n, nsEq none n = none
 | 0 => rfl
 | n + 1 => by show adE1q (nsEq none n) none = none; rw [wh n]; rfl
theorem vg {p : qn} (h : onE1q p) (m : Nat) : ∀ n, nsEq (nsEq p m) n = nsEq p (m * n)
 | 0 => rfl
 | n + 1 => by
  show adE1q (nsEq (nsEq p m) n) (nsEq p m) = nsEq p (m * n + m)
  rw [vg h m n, tE h]
theorem zS (p : Pt2) (h : onE1q (afJq p)) : ∀ n, afJq (tab2 p n) = nsEq (afJq p) n
 | 0 => si rfl
 | n + 1 => by
  show afJq (vr (tab2 p n) p) = adE1q (nsEq (afJq p) n) (afJq p)
  rw [CG _ _ (by rw [zS p h n]; exact rh h n) h, zS p h n]
theorem Bu (p q : Pt2) (h : onE1q (afJq p)) (m : Nat) (e : afJq q = nsEq (afJq p) m) : afJq (rq q) = nsEq (afJq p) (m + m) := by
 rw [BS q (by rw [e]; exact rh h m), e, tE h]
theorem FB (p : Pt2) (h : onE1q (afJq p)) (k : Nat) (hk : k < 16 ^ 64) : ∀ n, n <= 64 -> afJq (man2 p k n) = nsEq (afJq p) (k / 16 ^ (64 - n))
 | 0, _ => by
  rw [Nat.sub_zero, Nat.div_eq_of_lt hk]
  exact si rfl
 | n + 1, hn => by
  have ih := FB p h k hk n (by omega)
  have h1 := Bu p _ h _ ih
  have h2 := Bu p _ h _ h1
  have h3 := Bu p _ h _ h2
  have h4 := Bu p _ h _ h3
  show afJq (vr (rq (rq (rq (rq (man2 p k n))))) (tab2 p (dig k (63 - n)))) = _
  rw [CG _ _ (by rw [h4]; exact rh h _) (by rw [zS p h]; exact rh h _), h4, zS p h, ← tE h]
  congr 1
  unfold dig
  rw [show 64 - n = 63 - n + 1 by omega, Nat.pow_succ, ← Nat.div_div_eq_div_mul, show 64 - (n + 1) = 63 - n by omega]
  omega
theorem yG (p : Pt2) (h : onE1q (afJq p)) (k : Nat) (hk : k < 16 ^ 64) : afJq (man2 p k 64) = nsEq (afJq p) k := by
 have := FB p h k hk 64 (by omega)
 rw [this, Nat.sub_self, Nat.pow_zero, Nat.div_one]
end Go.Ev
