/- The words of circles and segments, and the laws of circles. -/
import Derived.Test.YtandgbpbabmdfaaMf
namespace Go.Proofs.Ytandgbpbabmdfaa

/-- A distance's square; the product across; the determinant of a circle. -/
def sq (a d : Pt) : Int := (a.x - d.x) * (a.x - d.x) + (a.y - d.y) * (a.y - d.y)
def crs (a b d : Pt) : Int := (a.x - d.x) * (b.y - d.y) - (a.y - d.y) * (b.x - d.x)
def det (a b c d : Pt) : Int := sq a d * crs b c d + sq b d * crs c a d + sq c d * crs a b d

/-- The first, if it is ahead. -/
def minP (p q : Pt) : Pt := if cmpP p q < 0 then p else q
/-- The least of four. -/
def leastP (a b c d : Pt) : Pt := minP c (minP b (minP a d))
/-- Who is in, of four on one circle. -/
def tieW (a b c d : Pt) : Int :=
  if leastP a b c d = d then 1 else if leastP a b c d = a then -ori d b c else if leastP a b c d = b then -ori a d c else -ori a b d
/-- The circle of three that go round to the left. -/
def circP (a b c d : Pt) : Int := if cmpI (det a b c d) 0 = 0 then tieW a b c d else cmpI (det a b c d) 0
/-- The circle. -/
def circ (a b c d : Pt) : Int :=
  if ori a b c = 0 ∨ val d = false ∨ d = a ∨ d = b ∨ d = c then 0 else if ori a b c < 0 then -circP a c b d else circP a b c d

theorem minP_spec (p q : Pt) : (minP p q = p ∨ minP p q = q) ∧ cmpP (minP p q) p ≤ 0 ∧ cmpP (minP p q) q ≤ 0 := by
  have z1 := (cmpP_zero p p).2 rfl
  have z2 := (cmpP_zero q q).2 rfl
  have an := cmpP_anti p q
  unfold minP; split
  · exact ⟨.inl rfl, by omega, by omega⟩
  · exact ⟨.inr rfl, by omega, by omega⟩

theorem leastP_spec (a b c d : Pt) : (leastP a b c d = a ∨ leastP a b c d = b ∨ leastP a b c d = c ∨ leastP a b c d = d) ∧
    cmpP (leastP a b c d) a ≤ 0 ∧ cmpP (leastP a b c d) b ≤ 0 ∧ cmpP (leastP a b c d) c ≤ 0 ∧ cmpP (leastP a b c d) d ≤ 0 := by
  obtain ⟨e1, l1, l2⟩ := minP_spec a d
  obtain ⟨e2, l3, l4⟩ := minP_spec b (minP a d)
  obtain ⟨e3, l5, l6⟩ := minP_spec c (minP b (minP a d))
  unfold leastP
  refine ⟨?_, cmpP_trans l6 (cmpP_trans l4 l1), cmpP_trans l6 l3, l5, cmpP_trans l6 (cmpP_trans l4 l2)⟩
  rcases e3 with e | e
  · exact .inr (.inr (.inl e))
  · rw [e]
    rcases e2 with e | e
    · exact .inr (.inl e)
    · rw [e]
      rcases e1 with e | e
      · exact .inl e
      · exact .inr (.inr (.inr e))

theorem least_eq {a b c d l : Pt} (h : l = a ∨ l = b ∨ l = c ∨ l = d) (ha : cmpP l a ≤ 0) (hb : cmpP l b ≤ 0) (hc : cmpP l c ≤ 0) (hd : cmpP l d ≤ 0) : leastP a b c d = l := by
  obtain ⟨e, l1, l2, l3, l4⟩ := leastP_spec a b c d
  have k1 : cmpP (leastP a b c d) l ≤ 0 := by rcases h with rfl | rfl | rfl | rfl <;> assumption
  have k2 : cmpP l (leastP a b c d) ≤ 0 := by rcases e with e | e | e | e <;> rw [e] <;> assumption
  have := cmpP_anti l (leastP a b c d)
  exact (cmpP_zero _ _).1 (by omega)

/-- Four points have one least, in whatever order. -/
theorem least_perm {a b c d a' b' c' d' : Pt} (h : ∀ l, (l = a ∨ l = b ∨ l = c ∨ l = d) → (l = a' ∨ l = b' ∨ l = c' ∨ l = d'))
    (h' : ∀ l, (l = a' ∨ l = b' ∨ l = c' ∨ l = d') → (l = a ∨ l = b ∨ l = c ∨ l = d)) : leastP a' b' c' d' = leastP a b c d := by
  obtain ⟨e, l1, l2, l3, l4⟩ := leastP_spec a b c d
  have all : ∀ q, (q = a ∨ q = b ∨ q = c ∨ q = d) → cmpP (leastP a b c d) q ≤ 0 := by rintro q (rfl | rfl | rfl | rfl) <;> assumption
  exact least_eq (h _ e) (all _ (h' _ (.inl rfl))) (all _ (h' _ (.inr (.inl rfl)))) (all _ (h' _ (.inr (.inr (.inl rfl))))) (all _ (h' _ (.inr (.inr (.inr rfl)))))

theorem tie_d {a b c d : Pt} (h : leastP a b c d = d) : tieW a b c d = 1 := by unfold tieW; rw [if_pos h]
theorem tie_a {a b c d : Pt} (h : leastP a b c d = a) (h1 : a ≠ d) : tieW a b c d = -ori d b c := by unfold tieW; rw [if_neg (by rw [h]; exact h1), if_pos h]
theorem tie_b {a b c d : Pt} (h : leastP a b c d = b) (h1 : b ≠ d) (h2 : b ≠ a) : tieW a b c d = -ori a d c := by unfold tieW; rw [if_neg (by rw [h]; exact h1), if_neg (by rw [h]; exact h2), if_pos h]
theorem tie_c {a b c d : Pt} (h : leastP a b c d = c) (h1 : c ≠ d) (h2 : c ≠ a) (h3 : c ≠ b) : tieW a b c d = -ori a b d := by
  unfold tieW; rw [if_neg (by rw [h]; exact h1), if_neg (by rw [h]; exact h2), if_neg (by rw [h]; exact h3)]

/-- Three points that are not on a line are three. -/
theorem ori_ne {a b c : Pt} (h : ori a b c ≠ 0) : a ≠ b ∧ b ≠ c ∧ a ≠ c := by
  have z : ∀ p q : Pt, ori p p q = 0 := by
    intro p q
    have := ori_swap p p q; omega
  refine ⟨?_, ?_, ?_⟩ <;> rintro rfl
  · exact h (z _ _)
  · exact h ((ori_rot a b b).symm.trans (z _ _))
  · exact h ((ori_rot a b a).symm.trans ((ori_rot b a a).symm.trans (z _ _)))

theorem det_turn (a b c d : Pt) : det b c a d = det a b c d := by unfold det; omega
theorem det_swap (a b c d : Pt) : det b a c d = -det a b c d := by unfold det sq crs; grind
theorem det_last (a b c d : Pt) : det a b d c = -det a b c d := by unfold det sq crs; grind
theorem det_three (a b c d : Pt) : det a c d b = det a b c d := by unfold det sq crs; grind
theorem det_four (a b c d : Pt) : det b c d a = -det a b c d := by unfold det sq crs; grind

theorem tie_turn {a b c d : Pt} (h : ori a b c ≠ 0) (h1 : d ≠ a) (h2 : d ≠ b) (h3 : d ≠ c) : tieW b c a d = tieW a b c d := by
  obtain ⟨n1, n2, n3⟩ := ori_ne h
  have el : leastP b c a d = leastP a b c d := least_perm (fun l => by grind) (fun l => by grind)
  rcases (leastP_spec a b c d).1 with e | e | e | e
  · rw [tie_a e (Ne.symm h1), tie_c (el.trans e) (Ne.symm h1) n1 n3, ori_rot d b c]
  · rw [tie_b e (Ne.symm h2) (Ne.symm n1), tie_a (el.trans e) (Ne.symm h2), ori_rot a d c]
  · rw [tie_c e (Ne.symm h3) (Ne.symm n3) (Ne.symm n2), tie_b (el.trans e) (Ne.symm h3) (Ne.symm n2), ori_rot a b d]
  · rw [tie_d e, tie_d (el.trans e)]

theorem circP_turn {a b c d : Pt} (h : ori a b c ≠ 0) (h1 : d ≠ a) (h2 : d ≠ b) (h3 : d ≠ c) : circP b c a d = circP a b c d := by
  unfold circP; rw [det_turn, tie_turn h h1 h2 h3]

/-- Turned round, the same. -/
theorem circ_turn (a b c d : Pt) : circ b c a d = circ a b c d := by
  unfold circ
  rw [ori_rot]
  by_cases h : ori a b c = 0 ∨ val d = false ∨ d = a ∨ d = b ∨ d = c
  · rw [if_pos h, if_pos (by grind)]
  · rw [if_neg h, if_neg (by grind)]
    have h0 : ori a b c ≠ 0 := fun e => h (.inl e)
    have h1 : d ≠ a := fun e => h (by grind)
    have h2 : d ≠ b := fun e => h (by grind)
    have h3 : d ≠ c := fun e => h (by grind)
    split
    · have k := ori_swap a b c
      rw [circP_turn (a := b) (b := a) (c := c) (by omega) h2 h1 h3]
    · rw [circP_turn h0 h1 h2 h3]

/-- The other way round, the opposite. -/
theorem circ_swap (a b c d : Pt) : circ b a c d = -circ a b c d := by
  unfold circ
  have k := ori_swap a b c
  by_cases h : ori a b c = 0 ∨ val d = false ∨ d = a ∨ d = b ∨ d = c
  · rw [if_pos h, if_pos (by rcases h with h | h | h | h | h <;> first | (left; omega) | grind)]; rfl
  · have h0 : ori a b c ≠ 0 := fun e => h (.inl e)
    have h1 : d ≠ a := fun e => h (by grind)
    have h2 : d ≠ b := fun e => h (by grind)
    have h3 : d ≠ c := fun e => h (by grind)
    rw [if_neg h, if_neg (by rintro (e | e | e | e | e) <;> first | omega | (exact h (by grind)))]
    by_cases s : ori a b c < 0
    · rw [if_pos s, if_neg (by omega), circP_turn (a := b) (b := a) (c := c) (by omega) h2 h1 h3]; omega
    · rw [if_neg s, if_pos (by omega), circP_turn h0 h1 h2 h3]

theorem circ_last (a b c d : Pt) (h : d = a ∨ d = b ∨ d = c) : circ a b c d = 0 := by unfold circ; rw [if_pos (by grind)]
theorem circ_line {a b c d : Pt} (h : ori a b c = 0) : circ a b c d = 0 := by unfold circ; rw [if_pos (.inl h)]

theorem sq_nn (a d : Pt) : 0 ≤ sq a d := by
  have h : ∀ n : Int, 0 ≤ n * n := fun n => by rcases Int.le_total 0 n with h | h; exact Int.mul_nonneg h h; exact Int.mul_nonneg_of_nonpos_of_nonpos h h
  have := h (a.x - d.x); have := h (a.y - d.y)
  unfold sq; omega
theorem sum_sq {x y : Int} (h : x * x + y * y = 0) : x = 0 ∧ y = 0 := by
  have hh : ∀ n : Int, 0 ≤ n * n := fun n => by rcases Int.le_total 0 n with h | h; exact Int.mul_nonneg h h; exact Int.mul_nonneg_of_nonpos_of_nonpos h h
  have := hh x; have := hh y
  have e1 : x * x = 0 := by omega
  have e2 : y * y = 0 := by omega
  exact ⟨by have := Int.mul_eq_zero.1 e1; omega, by have := Int.mul_eq_zero.1 e2; omega⟩
theorem sq_pos {a d : Pt} (h : a ≠ d) : 0 < sq a d := by
  have := sq_nn a d
  by_cases e : sq a d = 0
  · obtain ⟨e1, e2⟩ := sum_sq e
    exfalso; apply h
    obtain ⟨ax, ay⟩ := a; obtain ⟨dx, dy⟩ := d
    dsimp only at e1 e2
    rw [Pt.mk.injEq]; omega
  · omega

/-- Two of three points on one circle with the origin, on a line through it: all are. -/
theorem col {ax ay bx b' cx cy : Int} (hdet : (ax * ax + ay * ay) * (bx * cy - b' * cx) + (bx * bx + b' * b') * (cx * ay - cy * ax) + (cx * cx + cy * cy) * (ax * b' - ay * bx) = 0)
    (h : bx * cy - b' * cx = 0) (hb : ¬ (bx = 0 ∧ b' = 0)) (hc : ¬ (cx = 0 ∧ cy = 0)) (hbc : ¬ (bx = cx ∧ b' = cy)) : cx * ay - cy * ax = 0 ∧ ax * b' - ay * bx = 0 := by
  generalize hs : cx * ay - cy * ax = s at *
  generalize hr : bx * ay - b' * ax = r at *
  have hr' : ax * b' - ay * bx = -r := by rw [← hr]; grind
  rw [hr', h] at hdet
  have e1 : bx * s = cx * r := by
    have : ax * (bx * cy - b' * cx) = 0 := by rw [h]; simp
    rw [← hs, ← hr]; grind
  have e2 : b' * s = cy * r := by
    have : ay * (bx * cy - b' * cx) = 0 := by rw [h]; simp
    rw [← hs, ← hr]; grind
  have e3 : (bx * bx + b' * b') * s = (cx * cx + cy * cy) * r := by grind
  have e4 : ((bx - cx) * cx + (b' - cy) * cy) * r = 0 := by
    have : (bx * bx + b' * b') * s = bx * (bx * s) + b' * (b' * s) := by grind
    rw [this, e1, e2] at e3
    grind
  have r0 : r = 0 := by
    rcases Int.mul_eq_zero.1 e4 with u | u
    · exfalso
      have p2 : (bx - cx) * cy - (b' - cy) * cx = 0 := by grind
      have cc : cx * cx + cy * cy ≠ 0 := fun e => hc (sum_sq e)
      have q1 : (bx - cx) * (cx * cx + cy * cy) = 0 := by grind
      have q2 : (b' - cy) * (cx * cx + cy * cy) = 0 := by grind
      have w1 := (Int.mul_eq_zero.1 q1).resolve_right cc
      have w2 := (Int.mul_eq_zero.1 q2).resolve_right cc
      exact hbc (by omega)
    · exact u
  rw [r0, Int.mul_zero] at e1 e2
  have s0 : s = 0 := by
    have u1 := Int.mul_eq_zero.1 e1
    have u2 := Int.mul_eq_zero.1 e2
    omega
  rw [hr', r0]; exact ⟨s0, rfl⟩

theorem pt_ne {p q : Pt} (h : p ≠ q) : ¬ (p.x - q.x = 0 ∧ p.y - q.y = 0) := by
  rintro ⟨h1, h2⟩
  obtain ⟨a, b⟩ := p; obtain ⟨c, d⟩ := q
  dsimp only at h1 h2
  exact h (by rw [Pt.mk.injEq]; omega)
theorem pt_ne2 {p q d : Pt} (h : p ≠ q) : ¬ (p.x - d.x = q.x - d.x ∧ p.y - d.y = q.y - d.y) := by
  rintro ⟨h1, h2⟩
  exact pt_ne h (by omega)

theorem tw_crs (a b c d : Pt) : tw a b c = crs a b d + crs b c d + crs c a d := by unfold tw crs; grind
theorem crs_tw (b c d : Pt) : crs b c d = tw b c d := by unfold tw crs; grind

/-- Of four points on one circle no three are on a line. -/
theorem no_line {a b c d : Pt} (hd : det a b c d = 0) (k : tw b c d = 0) (h1 : d ≠ b) (h2 : d ≠ c) (h3 : b ≠ c) : tw a b c = 0 := by
  rw [← crs_tw] at k
  unfold det sq at hd
  have := col (ax := a.x - d.x) (ay := a.y - d.y) (bx := b.x - d.x) (b' := b.y - d.y) (cx := c.x - d.x) (cy := c.y - d.y) hd k (pt_ne (Ne.symm h1)) (pt_ne (Ne.symm h2)) (pt_ne2 h3)
  rw [tw_crs a b c d, k]
  unfold crs; omega

theorem ori_zero {a b c : Pt} (ha : val a = true) (hb : val b = true) (hc : val c = true) : ori a b c = 0 ↔ tw a b c = 0 := (ori_sign ha hb hc).2.2

/-- The tie is never nought. -/
theorem tie_ne {a b c d : Pt} (h : ori a b c ≠ 0) (hv : val d = true) (h1 : d ≠ a) (h2 : d ≠ b) (h3 : d ≠ c) (hd : det a b c d = 0) : tieW a b c d ≠ 0 := by
  obtain ⟨va, vb, vc⟩ := ori_vals h
  obtain ⟨n1, n2, n3⟩ := ori_ne h
  have h' : tw a b c ≠ 0 := fun e => h ((ori_zero va vb vc).2 e)
  rcases (leastP_spec a b c d).1 with e | e | e | e
  · rw [tie_a e (Ne.symm h1), ← ori_rot d b c]
    intro k
    exact h' (no_line hd ((ori_zero vb vc hv).1 (by omega)) h2 h3 n2)
  · rw [tie_b e (Ne.symm h2) (Ne.symm n1), ← ori_rot a d c, ← ori_rot d c a]
    intro k
    have := no_line (a := b) (b := c) (c := a) (d := d) (by rw [det_turn]; exact hd) ((ori_zero vc va hv).1 (by omega)) h3 h1 (Ne.symm n3)
    rw [tw_rot] at this; exact h' this
  · rw [tie_c e (Ne.symm h3) (Ne.symm n3) (Ne.symm n2)]
    intro k
    have := no_line (a := c) (b := a) (c := b) (d := d) (by rw [← det_turn c a b d]; exact hd) ((ori_zero va vb hv).1 (by omega)) h1 h2 n1
    rw [← tw_rot c a b] at this; exact h' this
  · rw [tie_d e]; decide

theorem circP_ne {a b c d : Pt} (h : ori a b c ≠ 0) (hv : val d = true) (h1 : d ≠ a) (h2 : d ≠ b) (h3 : d ≠ c) : circP a b c d ≠ 0 := by
  unfold circP
  split
  · rename_i e; exact tie_ne h hv h1 h2 h3 (cmpI_zero.1 e)
  · assumption

/-- Nothing is told just if there is no circle, or the point is a corner, or none. -/
theorem circ_zero {a b c d : Pt} (h : ori a b c ≠ 0) : circ a b c d = 0 ↔ (d = a ∨ d = b ∨ d = c ∨ val d = false) := by
  constructor
  · intro k
    by_cases q : d = a ∨ d = b ∨ d = c ∨ val d = false
    · exact q
    · exfalso
      have hv : val d = true := by cases e : val d with
        | true => rfl
        | false => exact absurd (.inr (.inr (.inr e))) q
      have q1 : d ≠ a := fun e => q (by grind)
      have q2 : d ≠ b := fun e => q (by grind)
      have q3 : d ≠ c := fun e => q (by grind)
      unfold circ at k
      rw [if_neg (by rintro (e | e | e | e | e) <;> first | (exact h e) | (exact q (by grind)))] at k
      split at k
      · have s := ori_swap2 a b c
        exact circP_ne (a := a) (b := c) (c := b) (by omega) hv q1 q3 q2 (by omega)
      · exact circP_ne h hv q1 q2 q3 k
  · intro k; unfold circ; rw [if_pos (by grind)]

theorem circ_P {a b c d : Pt} (h : ori a b c = 1) (hv : val d = true) (h1 : d ≠ a) (h2 : d ≠ b) (h3 : d ≠ c) : circ a b c d = circP a b c d := by
  unfold circ
  rw [if_neg (by rintro (e | e | e | e | e) <;> first | omega | contradiction | (rw [hv] at e; cases e)), if_neg (by omega)]

/-- Whoever is in a triangle, or on an edge and no corner, is in its circle. -/
theorem corners_law {t : Tr} {d : Pt} (hv : valT t = true) (ho : ori t.a t.b t.c = 1) (h : has t d = true) (h1 : d ≠ t.a) (h2 : d ≠ t.b) (h3 : d ≠ t.c) : circ t.a t.b t.c d = 1 := by
  have hd : val d = true := by cases k : val d with
    | true => rfl
    | false => rw [has_no (by rw [k, Bool.and_false])] at h; cases h
  obtain ⟨v1, v2, v3⟩ := valT_vals hv
  rw [has_yes hv hd] at h
  simp only [Bool.and_eq_true, decide_eq_true_eq] at h
  obtain ⟨⟨g1, g2⟩, g3⟩ := h
  replace g1 := (ori_sign v1 v2 hd).2.1.1 g1
  replace g2 := (ori_sign v2 v3 hd).2.1.1 g2
  replace g3 := (ori_sign v3 v1 hd).2.1.1 g3
  have D : 0 < tw t.a t.b t.c := (ori_sign v1 v2 v3).1.1 (by omega)
  rw [← tw_sum t.a t.b t.c d] at D
  have s1 := sq_pos (Ne.symm h1)
  have s2 := sq_pos (Ne.symm h2)
  have s3 := sq_pos (Ne.symm h3)
  have m1 := Int.mul_nonneg (Int.le_of_lt s1) g2
  have m2 := Int.mul_nonneg (Int.le_of_lt s2) g3
  have m3 := Int.mul_nonneg (Int.le_of_lt s3) g1
  have hp : 0 < det t.a t.b t.c d := by
    unfold det
    rw [crs_tw, crs_tw, crs_tw]
    by_cases z1 : 0 < tw t.b t.c d
    · have := Int.mul_pos s1 z1; omega
    · by_cases z2 : 0 < tw t.c t.a d
      · have := Int.mul_pos s2 z2; omega
      · have := Int.mul_pos s3 (show 0 < tw t.a t.b d by omega); omega
  rw [circ_P ho hd h1 h2 h3]
  unfold circP
  rw [cmpI_gt hp, if_neg (by decide)]

/-- Of four that go round, one way alone to cut them has nobody within. -/
theorem ties_law {a b c d : Pt} (h0 : ori a b c = 1) (h1 : ori b c d = 1) (h2 : ori c d a = 1) (h3 : ori d a b = 1) :
    circ a b c d * circ a b d c = -1 ∧ circ a c d b = circ a b c d ∧ circ b c d a = circ a b d c := by
  have o1 : ori a b d = 1 := (ori_rot d a b).trans h3
  have o2 : ori a c d = 1 := (ori_rot d a c).trans ((ori_rot c d a).trans h2)
  obtain ⟨va, vb, vc⟩ := ori_vals (a := a) (b := b) (c := c) (by omega)
  have vd := (ori_vals (a := b) (b := c) (c := d) (by omega)).2.2
  obtain ⟨nab, nbc, nac⟩ := ori_ne (a := a) (b := b) (c := c) (by omega)
  obtain ⟨-, ncd, nbd⟩ := ori_ne (a := b) (b := c) (c := d) (by omega)
  obtain ⟨-, nda, -⟩ := ori_ne (a := c) (b := d) (c := a) (by omega)
  rw [circ_P h0 vd nda nbd.symm ncd.symm, circ_P o1 vc nac.symm nbc.symm ncd, circ_P o2 vb nab.symm nbc nbd, circ_P h1 va nab nac nda.symm]
  unfold circP
  rw [det_last a b c d, det_three a b c d, det_four a b c d, cmpI_neg_arg]
  rcases cmpI_cases (det a b c d) 0 with k | k | k
  · rw [k]
    have e1 : leastP a b d c = leastP a b c d := least_perm (fun l => by grind) (fun l => by grind)
    have e2 : leastP a c d b = leastP a b c d := least_perm (fun l => by grind) (fun l => by grind)
    have e3 : leastP b c d a = leastP a b c d := least_perm (fun l => by grind) (fun l => by grind)
    rw [if_pos (by decide), if_pos (by decide)]
    have r1 := ori_rot d b c
    have r2 := ori_rot a d c
    have r3 := ori_rot d c a
    have r4 := ori_rot c a d
    have r5 := ori_rot a d b
    have r6 := ori_rot b a d
    have r7 := ori_rot c b d
    have r8 := ori_rot b d c
    have r9 := ori_rot d b a
    have t1 := ori_swap c b d
    have t2 := ori_swap a c d
    have t3 := ori_swap a b d
    have t4 := ori_swap a d c
    have t5 := ori_swap b a c
    have t6 := ori_rot a b d
    have t7 := ori_rot b c d
    have t8 := ori_rot c d b
    have t9 := ori_rot c d a
    have u1 := ori_swap2 a b c
    have u2 := ori_rot a c b
    have u3 := ori_rot a b c
    have u4 := ori_rot b c a
    rcases (leastP_spec a b c d).1 with e | e | e | e
    · rw [tie_a e nda.symm, tie_a (e1.trans e) nac, tie_a (e2.trans e) nab, tie_d (e3.trans e)]
      have x1 : ori d b c = 1 := by omega
      have x2 : ori c b d = -1 := by omega
      have x3 : ori b c d = 1 := h1
      rw [x1, x2, x3]; decide
    · rw [tie_b e nbd nab.symm, tie_b (e1.trans e) nbc nab.symm, tie_d (e2.trans e), tie_a (e3.trans e) nab.symm]
      have x1 : ori a d c = -1 := by omega
      have x2 : ori a c d = 1 := o2
      rw [x1, x2]; decide
    · rw [tie_c e ncd nac.symm nbc.symm, tie_d (e1.trans e), tie_b (e2.trans e) nbc.symm nac.symm, tie_b (e3.trans e) nac.symm nbc.symm]
      have x1 : ori a b d = 1 := o1
      have x2 : ori b a d = -1 := by omega
      rw [x1, x2]; decide
    · rw [tie_d e, tie_c (e1.trans e) ncd.symm nda nbd.symm, tie_c (e2.trans e) nbd.symm nda ncd.symm, tie_c (e3.trans e) nda nbd.symm ncd.symm]
      have x1 : ori a c b = -1 := by omega
      have x2 : ori b c a = 1 := by omega
      rw [h0, x1, x2]; decide
  · rw [k]; simp
  · rw [k]; simp

end Go.Proofs.Ytandgbpbabmdfaa
