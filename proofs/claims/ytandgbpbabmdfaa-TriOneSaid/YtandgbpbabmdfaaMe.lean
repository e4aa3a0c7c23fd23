/- The laws of sides: a point against a triangle. -/
import Derived.Test.YtandgbpbabmdfaaMd
namespace Go.Proofs.Ytandgbpbabmdfaa

theorem tw_sum (a b c p : Pt) : tw a b p + tw b c p + tw c a p = tw a b c := by unfold tw; grind
theorem tw_rot (a b c : Pt) : tw b c a = tw a b c := by unfold tw; grind
theorem tw_swap (a b c : Pt) : tw b a c = -tw a b c := by unfold tw; grind
theorem tw_swap2 (a b c : Pt) : tw a c b = -tw a b c := by unfold tw; grind

theorem cmpI_pos {n : Int} : cmpI n 0 > 0 ↔ n > 0 := by unfold cmpI; (repeat' split) <;> omega
theorem cmpI_neg {n : Int} : cmpI n 0 < 0 ↔ n < 0 := by unfold cmpI; (repeat' split) <;> omega
theorem cmpI_zero {n : Int} : cmpI n 0 = 0 ↔ n = 0 := by unfold cmpI; (repeat' split) <;> omega
theorem cmpI_one {n : Int} : cmpI n 0 = 1 ↔ n > 0 := by unfold cmpI; (repeat' split) <;> omega

theorem ori_rot (a b c : Pt) : ori b c a = ori a b c := by
  unfold ori
  by_cases h : val a = true ∧ val b = true ∧ val c = true
  · rw [if_pos h, if_pos ⟨h.2.1, h.2.2, h.1⟩, tw_rot]
  · rw [if_neg h, if_neg fun k => h ⟨k.2.2, k.1, k.2.1⟩]
theorem cmpI_neg_arg (n : Int) : cmpI (-n) 0 = -cmpI n 0 := by unfold cmpI; (repeat' split) <;> omega
theorem ori_swap (a b c : Pt) : ori b a c = -ori a b c := by
  unfold ori
  by_cases h : val a = true ∧ val b = true ∧ val c = true
  · rw [if_pos h, if_pos ⟨h.2.1, h.1, h.2.2⟩, tw_swap, cmpI_neg_arg]
  · rw [if_neg h, if_neg fun k => h ⟨k.2.1, k.1, k.2.2⟩]; rfl
theorem ori_swap2 (a b c : Pt) : ori a c b = -ori a b c := (ori_rot b a c).trans (ori_swap a b c)

/-- From x·(what lies between nought and x times D), D above nought: what is divided lies between nought and x. -/
theorem div_between {x d q : Int} (hd : 0 < d) (h0 : 0 ≤ d * q) (h1 : d * q ≤ d * x) : 0 ≤ q ∧ q ≤ x :=
  ⟨Int.le_of_mul_le_mul_left (by simpa using h0) hd, Int.le_of_mul_le_mul_left h1 hd⟩

theorem edge_x {a b c p : Pt} (h : tw a b p = 0) : (b.x - a.x) * tw c a p = (p.x - a.x) * tw a b c := by unfold tw at *; grind
theorem edge_y {a b c p : Pt} (h : tw a b p = 0) : (b.y - a.y) * tw c a p = (p.y - a.y) * tw a b c := by unfold tw at *; grind

/-- On one side's line and between its ends: on no side's wrong hand. -/
theorem edge_in {a b c p : Pt} (hd : 0 < tw a b c) (h : tw a b p = 0) (hx : min a.x b.x ≤ p.x ∧ p.x ≤ max a.x b.x) (hy : min a.y b.y ≤ p.y ∧ p.y ≤ max a.y b.y) :
    0 ≤ tw b c p ∧ 0 ≤ tw c a p := by
  have hs := tw_sum a b c p
  suffices 0 ≤ tw c a p ∧ tw c a p ≤ tw a b c by omega
  have ex := edge_x (c := c) h
  have ey := edge_y (c := c) h
  have key : ∀ {u q d s : Int}, 0 < u → 0 ≤ q → q ≤ u → 0 < d → u * s = q * d → 0 ≤ s ∧ s ≤ d := by
    intro u q d s hu h0 h1 hd e
    exact div_between hu (by rw [e]; exact Int.mul_nonneg h0 (by omega)) (by rw [e]; exact Int.mul_le_mul_of_nonneg_right h1 (by omega))
  rcases Int.lt_trichotomy a.x b.x with k | k | k
  · exact key (u := b.x - a.x) (q := p.x - a.x) (by omega) (by omega) (by omega) hd ex
  · rcases Int.lt_trichotomy a.y b.y with m | m | m
    · exact key (u := b.y - a.y) (q := p.y - a.y) (by omega) (by omega) (by omega) hd ey
    · exfalso; unfold tw at hd; rw [k, m] at hd; simp at hd
    · exact key (u := a.y - b.y) (q := a.y - p.y) (by omega) (by omega) (by omega) hd (by grind)
  · exact key (u := a.x - b.x) (q := a.x - p.x) (by omega) (by omega) (by omega) hd (by grind)

/-- On one side's line and on no side's wrong hand: between its ends. -/
theorem edge_on {a b c p : Pt} (hd : 0 < tw a b c) (h : tw a b p = 0) (h1 : 0 ≤ tw b c p) (h2 : 0 ≤ tw c a p) :
    (min a.x b.x ≤ p.x ∧ p.x ≤ max a.x b.x) ∧ (min a.y b.y ≤ p.y ∧ p.y ≤ max a.y b.y) := by
  have hs := tw_sum a b c p
  have h3 : tw c a p ≤ tw a b c := by omega
  have key : ∀ {u q d s : Int}, 0 < d → 0 ≤ s → s ≤ d → u * s = q * d → min 0 u ≤ q ∧ q ≤ max 0 u := by
    intro u q d s hd h0 h1 e
    by_cases hu : 0 ≤ u
    · have := div_between (x := u) (q := q) hd (by rw [Int.mul_comm, ← e]; exact Int.mul_nonneg hu h0) (by rw [Int.mul_comm d q, ← e, Int.mul_comm d u]; exact Int.mul_le_mul_of_nonneg_left h1 hu)
      omega
    · have e' : (-u) * s = (-q) * d := by grind
      have := div_between (x := -u) (q := -q) hd (by rw [Int.mul_comm, ← e']; exact Int.mul_nonneg (by omega) h0) (by rw [Int.mul_comm d (-q), ← e', Int.mul_comm d (-u)]; exact Int.mul_le_mul_of_nonneg_left h1 (by omega))
      omega
  have kx := key hd h2 h3 (edge_x h)
  have ky := key hd h2 h3 (edge_y h)
  omega

/-- On two sides' lines: at the corner between. -/
theorem edge_two {a b c p : Pt} (hd : tw a b c ≠ 0) (h1 : tw a b p = 0) (h2 : tw b c p = 0) : p = b := by
  have e1 : (p.x - b.x) * tw a b c = 0 := by unfold tw at *; grind
  have e2 : (p.y - b.y) * tw a b c = 0 := by unfold tw at *; grind
  have f1 := (Int.mul_eq_zero.mp e1).resolve_right hd
  have f2 := (Int.mul_eq_zero.mp e2).resolve_right hd
  obtain ⟨x, y⟩ := p
  obtain ⟨u, v⟩ := b
  simp only [Pt.mk.injEq]
  dsimp only at f1 f2
  omega

theorem tw_self1 (a b : Pt) : tw a b a = 0 := by unfold tw; grind
theorem tw_self2 (a b : Pt) : tw a b b = 0 := by unfold tw; grind

end Go.Proofs.Ytandgbpbabmdfaa
