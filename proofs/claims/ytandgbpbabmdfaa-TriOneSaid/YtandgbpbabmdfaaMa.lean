/- The words of the geometry: points, triangles, their order, sides and circles, over whole numbers alone. -/
namespace Go.Proofs.Ytandgbpbabmdfaa

/-- A point. -/
structure Pt where
  x : Int
  y : Int
deriving DecidableEq

/-- Which number is ahead. -/
def cmpI (a b : Int) : Int := if a < b then -1 else if b < a then 1 else 0

theorem cmpI_lt {a b : Int} (h : a < b) : cmpI a b = -1 := by unfold cmpI; rw [if_pos h]
theorem cmpI_gt {a b : Int} (h : b < a) : cmpI a b = 1 := by unfold cmpI; rw [if_neg (by omega), if_pos h]
theorem cmpI_eq {a b : Int} (h : a = b) : cmpI a b = 0 := by unfold cmpI; rw [if_neg (by omega), if_neg (by omega)]

/-- The first that is not nought. -/
def or2 (a b : Int) : Int := if a = 0 then b else a

/-- Which point is ahead. -/
def cmpP (p q : Pt) : Int := or2 (cmpI p.x q.x) (cmpI p.y q.y)

/-- May a point be? -/
def val (p : Pt) : Bool := decide (0 ≤ p.x ∧ p.x < 16777216 ∧ 0 ≤ p.y ∧ p.y < 16777216)

theorem val_true {p : Pt} (h : val p = true) : 0 ≤ p.x ∧ p.x < 16777216 ∧ 0 ≤ p.y ∧ p.y < 16777216 := of_decide_eq_true h
theorem val_xy {x y : Int} (h : val ⟨x, y⟩ = true) : 0 ≤ x ∧ x < 16777216 ∧ 0 ≤ y ∧ y < 16777216 := val_true h

/-- Twice the area of three points, with its sign. -/
def tw (a b c : Pt) : Int := (b.x - a.x) * (c.y - a.y) - (b.y - a.y) * (c.x - a.x)

/-- On which side. -/
def ori (a b c : Pt) : Int := if val a = true ∧ val b = true ∧ val c = true then cmpI (tw a b c) 0 else 0

theorem ori_valid {a b c : Pt} (ha : val a = true) (hb : val b = true) (hc : val c = true) : ori a b c = cmpI (tw a b c) 0 := by
  unfold ori; rw [if_pos ⟨ha, hb, hc⟩]
theorem ori_not {a b c : Pt} (h : val a = false ∨ val b = false ∨ val c = false) : ori a b c = 0 := by
  unfold ori; rw [if_neg]; rintro ⟨h1, h2, h3⟩; simp [h1, h2, h3] at h

theorem cmpI_sub (a b : Int) : cmpI a b = cmpI (a - b) 0 := by unfold cmpI; (repeat' split) <;> omega

/-- A product of two differences of coordinates. -/
theorem mul_bd {a b : Int} (h1 : -16777216 ≤ a) (h2 : a ≤ 16777216) (h3 : -16777216 ≤ b) (h4 : b ≤ 16777216) : -281474976710656 ≤ a * b ∧ a * b ≤ 281474976710656 := by
  have k1 : 0 ≤ (a + 16777216) * (b + 16777216) := Int.mul_nonneg (by omega) (by omega)
  have k2 : 0 ≤ (16777216 - a) * (16777216 - b) := Int.mul_nonneg (by omega) (by omega)
  have k3 : 0 ≤ (a + 16777216) * (16777216 - b) := Int.mul_nonneg (by omega) (by omega)
  have k4 : 0 ≤ (16777216 - a) * (b + 16777216) := Int.mul_nonneg (by omega) (by omega)
  simp only [Int.add_mul, Int.mul_add, Int.sub_mul, Int.mul_sub] at k1 k2 k3 k4
  omega

theorem cmpI_cases (a b : Int) : cmpI a b = 0 ∨ cmpI a b = 1 ∨ cmpI a b = -1 := by unfold cmpI; (repeat' split) <;> omega

theorem ori_cases (a b c : Pt) : ori a b c = 0 ∨ ori a b c = 1 ∨ ori a b c = -1 := by
  unfold ori; split
  · exact cmpI_cases _ _
  · exact .inl rfl

theorem cmpP_pos (p q : Pt) : cmpP p q > 0 ↔ (q.x < p.x ∨ q.x = p.x ∧ q.y < p.y) := by
  unfold cmpP or2 cmpI; (repeat' split) <;> omega
theorem cmpP_neg (p q : Pt) : cmpP p q < 0 ↔ (p.x < q.x ∨ p.x = q.x ∧ p.y < q.y) := by
  unfold cmpP or2 cmpI; (repeat' split) <;> omega
theorem cmpP_anti (p q : Pt) : cmpP p q = -cmpP q p := by
  unfold cmpP or2 cmpI; (repeat' split) <;> omega
theorem cmpP_cases (p q : Pt) : cmpP p q = 0 ∨ cmpP p q = 1 ∨ cmpP p q = -1 := by
  unfold cmpP or2 cmpI; (repeat' split) <;> omega
theorem cmpP_zero (p q : Pt) : cmpP p q = 0 ↔ p = q := by
  obtain ⟨a, b⟩ := p
  obtain ⟨c, d⟩ := q
  simp only [Pt.mk.injEq]
  unfold cmpP or2 cmpI; dsimp only; (repeat' split) <;> omega

/-- Three corners. -/
structure Tr where
  a : Pt
  b : Pt
  c : Pt
deriving DecidableEq

/-- Turned round till the first is the least; none: not within so many rounds. -/
def rotk : Nat → Pt → Pt → Pt → Option Tr
  | 0, _, _, _ => none
  | k + 1, p, q, r => if cmpP p q > 0 then rotk k q r p else if cmpP p r > 0 then rotk k q r p else some ⟨p, q, r⟩

/-- Turned round, the least first. -/
def rotT (p q r : Pt) : Tr := if cmpP p q > 0 ∨ cmpP p r > 0 then (if cmpP q r > 0 ∨ cmpP q p > 0 then ⟨r, p, q⟩ else ⟨q, r, p⟩) else ⟨p, q, r⟩

theorem rotk_rotT (p q r : Pt) : rotk 3 p q r = some (rotT p q r) := by
  have h1 := cmpP_pos p q
  have h2 := cmpP_pos p r
  have h3 := cmpP_pos q r
  have h4 := cmpP_pos q p
  have h5 := cmpP_pos r p
  have h6 := cmpP_pos r q
  unfold rotT
  simp only [rotk]
  (repeat' split) <;> first | rfl | omega

/-- The triangle of three points, and whether there is one. -/
def mkT (a b c : Pt) : Tr × Bool :=
  if ori a b c = 0 then (⟨⟨0, 0⟩, ⟨0, 0⟩, ⟨0, 0⟩⟩, false) else if ori a b c = -1 then (rotT a c b, true) else (rotT a b c, true)

theorem mkT_zero {a b c : Pt} (h : ori a b c = 0) : mkT a b c = (⟨⟨0, 0⟩, ⟨0, 0⟩, ⟨0, 0⟩⟩, false) := by unfold mkT; rw [if_pos h]
theorem mkT_one {a b c : Pt} (h : ori a b c = 1) : mkT a b c = (rotT a b c, true) := by unfold mkT; rw [if_neg (by omega), if_neg (by omega)]
theorem mkT_neg {a b c : Pt} (h : ori a b c = -1) : mkT a b c = (rotT a c b, true) := by unfold mkT; rw [if_neg (by omega), if_pos h]

/-- A corner, by its place. -/
def cor (t : Tr) (i : Int) : Pt := if i % 3 = 0 then t.a else if i % 3 = 1 then t.b else t.c

/-- May a triangle be? -/
def valT (t : Tr) : Bool := (mkT t.a t.b t.c).2 && decide ((mkT t.a t.b t.c).1 = t)

theorem valT_bool (a0 a1 b0 b1 c0 c1 : Int) : valT ⟨⟨a0, a1⟩, ⟨b0, b1⟩, ⟨c0, c1⟩⟩ = ((mkT ⟨a0, a1⟩ ⟨b0, b1⟩ ⟨c0, c1⟩).2 &&
    (((mkT ⟨a0, a1⟩ ⟨b0, b1⟩ ⟨c0, c1⟩).1.a.x == a0 && (mkT ⟨a0, a1⟩ ⟨b0, b1⟩ ⟨c0, c1⟩).1.a.y == a1) && (((mkT ⟨a0, a1⟩ ⟨b0, b1⟩ ⟨c0, c1⟩).1.b.x == b0 && (mkT ⟨a0, a1⟩ ⟨b0, b1⟩ ⟨c0, c1⟩).1.b.y == b1) &&
    ((mkT ⟨a0, a1⟩ ⟨b0, b1⟩ ⟨c0, c1⟩).1.c.x == c0 && (mkT ⟨a0, a1⟩ ⟨b0, b1⟩ ⟨c0, c1⟩).1.c.y == c1)))) := by
  unfold valT
  dsimp only
  generalize mkT ⟨a0, a1⟩ ⟨b0, b1⟩ ⟨c0, c1⟩ = m
  obtain ⟨⟨⟨x0, x1⟩, ⟨x2, x3⟩, ⟨x4, x5⟩⟩, o⟩ := m
  rw [Bool.eq_iff_iff]
  simp only [Bool.and_eq_true, decide_eq_true_eq, Tr.mk.injEq, Pt.mk.injEq, beq_iff_eq]

/-- Which triangle is ahead. -/
def cmpT (s t : Tr) : Int := or2 (cmpP s.a t.a) (or2 (cmpP s.b t.b) (cmpP s.c t.c))

/-- Is a point in it, or on its edges? -/
def has (t : Tr) (p : Pt) : Bool := valT t && val p && decide (0 ≤ ori t.a t.b p) && decide (0 ≤ ori t.b t.c p) && decide (0 ≤ ori t.c t.a p)

/-- Is a point in it? -/
def ins (t : Tr) (p : Pt) : Bool := valT t && decide (0 < ori t.a t.b p) && decide (0 < ori t.b t.c p) && decide (0 < ori t.c t.a p)

/-- Twice a triangle's area. -/
def twT (t : Tr) : Int := if valT t = true then tw t.a t.b t.c else 0

/-- Is a point of a segment? -/
def onS (p a b : Pt) : Bool := val p && val a && val b && decide (tw a b p = 0) && decide (min a.x b.x ≤ p.x ∧ p.x ≤ max a.x b.x) && decide (min a.y b.y ≤ p.y ∧ p.y ≤ max a.y b.y)

end Go.Proofs.Ytandgbpbabmdfaa
