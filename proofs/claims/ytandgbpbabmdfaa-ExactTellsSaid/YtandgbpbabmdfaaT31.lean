import Derived.Test.YtandgbpbabmdfaaT27
import Derived.Test.YtandgbpbabmdfaaT28
import Derived.Test.YtandgbpbabmdfaaT29
import Derived.Test.YtandgbpbabmdfaaT30
namespace Go.Proofs.Ytandgbpbabmdfaa
open Go.RowKit
attribute [local go_sem high] eq23 eq25 mn_two mx_two mn_three mx_three mx_four

theorem ori_mul (p q r s t u : Pt) : IntKind.i64.wrap (ori p q r * ori s t u) = ori p q r * ori s t u := by
  rcases ori_cases p q r with h | h | h <;> rcases ori_cases s t u with k | k | k <;> rw [h, k] <;> rfl

/-- exact.Meet. -/
theorem meet56 (a0 a1 b0 b1 c0 c1 d0 d1 : Int) (w : World) :
    Calls Try.prog 56 #[.agg #[.int .i64 a0, .int .i64 a1], .agg #[.int .i64 b0, .int .i64 b1], .agg #[.int .i64 c0, .int .i64 c1], .agg #[.int .i64 d0, .int .i64 d1]] w fun e w' => e = .returned (.int .i64 (meet ⟨a0, a1⟩ ⟨b0, b1⟩ ⟨c0, c1⟩ ⟨d0, d1⟩)) ∧ Below w.heap.size w w' := by
  unfold meet
  cases m : (val ⟨a0, a1⟩ && val ⟨b0, b1⟩ && val ⟨c0, c1⟩ && val ⟨d0, d1⟩)
  · rw [if_pos (.inl (by rintro ⟨k1, k2, k3, k4⟩; rw [k1, k2, k3, k4] at m; cases m))]
    exact meet56_x a0 a1 b0 b1 c0 c1 d0 d1 w m
  cases e1 : (a0 == b0 && a1 == b1)
  case true =>
    rw [if_pos (.inr (.inl (beq_pt e1)))]
    exact meet56_y a0 a1 b0 b1 c0 c1 d0 d1 w m e1
  cases e2 : (c0 == d0 && c1 == d1)
  case true =>
    rw [if_pos (.inr (.inr (beq_pt e2)))]
    exact meet56_z a0 a1 b0 b1 c0 c1 d0 d1 w m e1 e2
  have hm := m
  simp only [Bool.and_eq_true] at hm
  rw [if_neg (fun k => k.elim (fun k => k ⟨hm.1.1.1, hm.1.1.2, hm.1.2, hm.2⟩) fun k => k.elim (nbeq_pt e1) (nbeq_pt e2))]
  have eqr := ori_mul ⟨a0, a1⟩ ⟨b0, b1⟩ ⟨c0, c1⟩ ⟨a0, a1⟩ ⟨b0, b1⟩ ⟨d0, d1⟩
  have eqs := ori_mul ⟨c0, c1⟩ ⟨d0, d1⟩ ⟨a0, a1⟩ ⟨c0, c1⟩ ⟨d0, d1⟩ ⟨b0, b1⟩
  by_cases z : ori ⟨a0, a1⟩ ⟨b0, b1⟩ ⟨c0, c1⟩ = 0 ∧ ori ⟨a0, a1⟩ ⟨b0, b1⟩ ⟨d0, d1⟩ = 0
  · rw [if_pos z]
    exact meet56_i a0 a1 b0 b1 c0 c1 d0 d1 _ _ _ _ w m e1 e2 rfl rfl rfl rfl (beq_iff_eq.2 z.1) (beq_iff_eq.2 z.2)
  rw [if_neg z]
  by_cases n : ori ⟨a0, a1⟩ ⟨b0, b1⟩ ⟨c0, c1⟩ * ori ⟨a0, a1⟩ ⟨b0, b1⟩ ⟨d0, d1⟩ < 0 ∧ ori ⟨c0, c1⟩ ⟨d0, d1⟩ ⟨a0, a1⟩ * ori ⟨c0, c1⟩ ⟨d0, d1⟩ ⟨b0, b1⟩ < 0
  · rw [if_pos n]
    have z1 : ori ⟨a0, a1⟩ ⟨b0, b1⟩ ⟨c0, c1⟩ ≠ 0 := by intro k; rw [k] at n; simp at n
    exact meet56_j a0 a1 b0 b1 c0 c1 d0 d1 _ _ _ _ _ _ w m e1 e2 rfl rfl rfl rfl (beq_eq_false_iff_ne.2 z1) eqr eqs (decide_eq_true n.1) (decide_eq_true n.2)
  rw [if_neg n]
  have K : ((ori ⟨a0, a1⟩ ⟨b0, b1⟩ ⟨c0, c1⟩ == 0) = true ∧ (ori ⟨a0, a1⟩ ⟨b0, b1⟩ ⟨d0, d1⟩ == 0) = false ∧ decide (ori ⟨a0, a1⟩ ⟨b0, b1⟩ ⟨c0, c1⟩ * ori ⟨a0, a1⟩ ⟨b0, b1⟩ ⟨d0, d1⟩ < 0) = false) ∨ ((ori ⟨a0, a1⟩ ⟨b0, b1⟩ ⟨c0, c1⟩ == 0) = false ∧ decide (ori ⟨a0, a1⟩ ⟨b0, b1⟩ ⟨c0, c1⟩ * ori ⟨a0, a1⟩ ⟨b0, b1⟩ ⟨d0, d1⟩ < 0) = false) ∨ ((ori ⟨a0, a1⟩ ⟨b0, b1⟩ ⟨c0, c1⟩ == 0) = false ∧ decide (ori ⟨a0, a1⟩ ⟨b0, b1⟩ ⟨c0, c1⟩ * ori ⟨a0, a1⟩ ⟨b0, b1⟩ ⟨d0, d1⟩ < 0) = true ∧ decide (ori ⟨c0, c1⟩ ⟨d0, d1⟩ ⟨a0, a1⟩ * ori ⟨c0, c1⟩ ⟨d0, d1⟩ ⟨b0, b1⟩ < 0) = false) := by
    by_cases z1 : ori ⟨a0, a1⟩ ⟨b0, b1⟩ ⟨c0, c1⟩ = 0
    · refine .inl ⟨beq_iff_eq.2 z1, beq_eq_false_iff_ne.2 fun k => z ⟨z1, k⟩, ?_⟩
      rw [z1, Int.zero_mul]; decide
    · by_cases n1 : ori ⟨a0, a1⟩ ⟨b0, b1⟩ ⟨c0, c1⟩ * ori ⟨a0, a1⟩ ⟨b0, b1⟩ ⟨d0, d1⟩ < 0
      · exact .inr (.inr ⟨beq_eq_false_iff_ne.2 z1, decide_eq_true n1, decide_eq_false fun k => n ⟨n1, k⟩⟩)
      · exact .inr (.inl ⟨beq_eq_false_iff_ne.2 z1, decide_eq_false n1⟩)
  rcases K with ⟨z1, z2, n1⟩ | ⟨z1, n1⟩ | ⟨z1, n1, n2⟩
  · skip
    cases x0 : (a0 == c0 && a1 == c1)
    case true =>
      rw [if_pos (.inl (beq_pt x0))]
      exact meet56_a0 a0 a1 b0 b1 c0 c1 d0 d1 _ _ _ _ _ w m e1 e2 rfl rfl rfl rfl z1 z2 eqr n1 x0
    cases x1 : (a0 == d0 && a1 == d1)
    case true =>
      rw [if_pos (.inr (.inl (beq_pt x1)))]
      exact meet56_a1 a0 a1 b0 b1 c0 c1 d0 d1 _ _ _ _ _ w m e1 e2 rfl rfl rfl rfl z1 z2 eqr n1 x0 x1
    cases x2 : (b0 == c0 && b1 == c1)
    case true =>
      rw [if_pos (.inr (.inr (.inl (beq_pt x2))))]
      exact meet56_a2 a0 a1 b0 b1 c0 c1 d0 d1 _ _ _ _ _ w m e1 e2 rfl rfl rfl rfl z1 z2 eqr n1 x0 x1 x2
    cases x3 : (b0 == d0 && b1 == d1)
    case true =>
      rw [if_pos (.inr (.inr (.inr (beq_pt x3))))]
      exact meet56_a3 a0 a1 b0 b1 c0 c1 d0 d1 _ _ _ _ _ w m e1 e2 rfl rfl rfl rfl z1 z2 eqr n1 x0 x1 x2 x3
    rw [if_neg (fun h => h.elim (nbeq_pt x0) fun h => h.elim (nbeq_pt x1) fun h => h.elim (nbeq_pt x2) (nbeq_pt x3))]
    cases y0 : onE ⟨c0, c1⟩ ⟨a0, a1⟩ ⟨b0, b1⟩
    case true =>
      rw [if_pos (by simp)]
      exact meet56_a4 a0 a1 b0 b1 c0 c1 d0 d1 _ _ _ _ _ w m e1 e2 rfl rfl rfl rfl z1 z2 eqr n1 x0 x1 x2 x3 y0
    cases y1 : onE ⟨d0, d1⟩ ⟨a0, a1⟩ ⟨b0, b1⟩
    case true =>
      rw [if_pos (by simp)]
      exact meet56_a5 a0 a1 b0 b1 c0 c1 d0 d1 _ _ _ _ _ w m e1 e2 rfl rfl rfl rfl z1 z2 eqr n1 x0 x1 x2 x3 y0 y1
    cases y2 : onE ⟨a0, a1⟩ ⟨c0, c1⟩ ⟨d0, d1⟩
    case true =>
      rw [if_pos (by simp)]
      exact meet56_a6 a0 a1 b0 b1 c0 c1 d0 d1 _ _ _ _ _ w m e1 e2 rfl rfl rfl rfl z1 z2 eqr n1 x0 x1 x2 x3 y0 y1 y2
    cases y3 : onE ⟨b0, b1⟩ ⟨c0, c1⟩ ⟨d0, d1⟩
    case true =>
      rw [if_pos (by simp)]
      exact meet56_a7 a0 a1 b0 b1 c0 c1 d0 d1 _ _ _ _ _ w m e1 e2 rfl rfl rfl rfl z1 z2 eqr n1 x0 x1 x2 x3 y0 y1 y2 y3
    rw [if_neg (by simp)]
    exact meet56_a8 a0 a1 b0 b1 c0 c1 d0 d1 _ _ _ _ _ w m e1 e2 rfl rfl rfl rfl z1 z2 eqr n1 x0 x1 x2 x3 y0 y1 y2 y3
  · skip
    cases x0 : (a0 == c0 && a1 == c1)
    case true =>
      rw [if_pos (.inl (beq_pt x0))]
      exact meet56_b0 a0 a1 b0 b1 c0 c1 d0 d1 _ _ _ _ _ w m e1 e2 rfl rfl rfl rfl z1 eqr n1 x0
    cases x1 : (a0 == d0 && a1 == d1)
    case true =>
      rw [if_pos (.inr (.inl (beq_pt x1)))]
      exact meet56_b1 a0 a1 b0 b1 c0 c1 d0 d1 _ _ _ _ _ w m e1 e2 rfl rfl rfl rfl z1 eqr n1 x0 x1
    cases x2 : (b0 == c0 && b1 == c1)
    case true =>
      rw [if_pos (.inr (.inr (.inl (beq_pt x2))))]
      exact meet56_b2 a0 a1 b0 b1 c0 c1 d0 d1 _ _ _ _ _ w m e1 e2 rfl rfl rfl rfl z1 eqr n1 x0 x1 x2
    cases x3 : (b0 == d0 && b1 == d1)
    case true =>
      rw [if_pos (.inr (.inr (.inr (beq_pt x3))))]
      exact meet56_b3 a0 a1 b0 b1 c0 c1 d0 d1 _ _ _ _ _ w m e1 e2 rfl rfl rfl rfl z1 eqr n1 x0 x1 x2 x3
    rw [if_neg (fun h => h.elim (nbeq_pt x0) fun h => h.elim (nbeq_pt x1) fun h => h.elim (nbeq_pt x2) (nbeq_pt x3))]
    cases y0 : onE ⟨c0, c1⟩ ⟨a0, a1⟩ ⟨b0, b1⟩
    case true =>
      rw [if_pos (by simp)]
      exact meet56_b4 a0 a1 b0 b1 c0 c1 d0 d1 _ _ _ _ _ w m e1 e2 rfl rfl rfl rfl z1 eqr n1 x0 x1 x2 x3 y0
    cases y1 : onE ⟨d0, d1⟩ ⟨a0, a1⟩ ⟨b0, b1⟩
    case true =>
      rw [if_pos (by simp)]
      exact meet56_b5 a0 a1 b0 b1 c0 c1 d0 d1 _ _ _ _ _ w m e1 e2 rfl rfl rfl rfl z1 eqr n1 x0 x1 x2 x3 y0 y1
    cases y2 : onE ⟨a0, a1⟩ ⟨c0, c1⟩ ⟨d0, d1⟩
    case true =>
      rw [if_pos (by simp)]
      exact meet56_b6 a0 a1 b0 b1 c0 c1 d0 d1 _ _ _ _ _ w m e1 e2 rfl rfl rfl rfl z1 eqr n1 x0 x1 x2 x3 y0 y1 y2
    cases y3 : onE ⟨b0, b1⟩ ⟨c0, c1⟩ ⟨d0, d1⟩
    case true =>
      rw [if_pos (by simp)]
      exact meet56_b7 a0 a1 b0 b1 c0 c1 d0 d1 _ _ _ _ _ w m e1 e2 rfl rfl rfl rfl z1 eqr n1 x0 x1 x2 x3 y0 y1 y2 y3
    rw [if_neg (by simp)]
    exact meet56_b8 a0 a1 b0 b1 c0 c1 d0 d1 _ _ _ _ _ w m e1 e2 rfl rfl rfl rfl z1 eqr n1 x0 x1 x2 x3 y0 y1 y2 y3
  · skip
    cases x0 : (a0 == c0 && a1 == c1)
    case true =>
      rw [if_pos (.inl (beq_pt x0))]
      exact meet56_c0 a0 a1 b0 b1 c0 c1 d0 d1 _ _ _ _ _ _ w m e1 e2 rfl rfl rfl rfl z1 eqr eqs n1 n2 x0
    cases x1 : (a0 == d0 && a1 == d1)
    case true =>
      rw [if_pos (.inr (.inl (beq_pt x1)))]
      exact meet56_c1 a0 a1 b0 b1 c0 c1 d0 d1 _ _ _ _ _ _ w m e1 e2 rfl rfl rfl rfl z1 eqr eqs n1 n2 x0 x1
    cases x2 : (b0 == c0 && b1 == c1)
    case true =>
      rw [if_pos (.inr (.inr (.inl (beq_pt x2))))]
      exact meet56_c2 a0 a1 b0 b1 c0 c1 d0 d1 _ _ _ _ _ _ w m e1 e2 rfl rfl rfl rfl z1 eqr eqs n1 n2 x0 x1 x2
    cases x3 : (b0 == d0 && b1 == d1)
    case true =>
      rw [if_pos (.inr (.inr (.inr (beq_pt x3))))]
      exact meet56_c3 a0 a1 b0 b1 c0 c1 d0 d1 _ _ _ _ _ _ w m e1 e2 rfl rfl rfl rfl z1 eqr eqs n1 n2 x0 x1 x2 x3
    rw [if_neg (fun h => h.elim (nbeq_pt x0) fun h => h.elim (nbeq_pt x1) fun h => h.elim (nbeq_pt x2) (nbeq_pt x3))]
    cases y0 : onE ⟨c0, c1⟩ ⟨a0, a1⟩ ⟨b0, b1⟩
    case true =>
      rw [if_pos (by simp)]
      exact meet56_c4 a0 a1 b0 b1 c0 c1 d0 d1 _ _ _ _ _ _ w m e1 e2 rfl rfl rfl rfl z1 eqr eqs n1 n2 x0 x1 x2 x3 y0
    cases y1 : onE ⟨d0, d1⟩ ⟨a0, a1⟩ ⟨b0, b1⟩
    case true =>
      rw [if_pos (by simp)]
      exact meet56_c5 a0 a1 b0 b1 c0 c1 d0 d1 _ _ _ _ _ _ w m e1 e2 rfl rfl rfl rfl z1 eqr eqs n1 n2 x0 x1 x2 x3 y0 y1
    cases y2 : onE ⟨a0, a1⟩ ⟨c0, c1⟩ ⟨d0, d1⟩
    case true =>
      rw [if_pos (by simp)]
      exact meet56_c6 a0 a1 b0 b1 c0 c1 d0 d1 _ _ _ _ _ _ w m e1 e2 rfl rfl rfl rfl z1 eqr eqs n1 n2 x0 x1 x2 x3 y0 y1 y2
    cases y3 : onE ⟨b0, b1⟩ ⟨c0, c1⟩ ⟨d0, d1⟩
    case true =>
      rw [if_pos (by simp)]
      exact meet56_c7 a0 a1 b0 b1 c0 c1 d0 d1 _ _ _ _ _ _ w m e1 e2 rfl rfl rfl rfl z1 eqr eqs n1 n2 x0 x1 x2 x3 y0 y1 y2 y3
    rw [if_neg (by simp)]
    exact meet56_c8 a0 a1 b0 b1 c0 c1 d0 d1 _ _ _ _ _ _ w m e1 e2 rfl rfl rfl rfl z1 eqr eqs n1 n2 x0 x1 x2 x3 y0 y1 y2 y3

end Go.Proofs.Ytandgbpbabmdfaa
