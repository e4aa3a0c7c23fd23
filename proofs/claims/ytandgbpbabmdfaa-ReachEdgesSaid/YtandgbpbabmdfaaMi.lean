/- The laws of ways along triangles: edges, insides, halves. -/
import Derived.Test.YtandgbpbabmdfaaMh
namespace Go.Proofs.Ytandgbpbabmdfaa

/-- What holds of a triangle of the document, in plain numbers. -/
theorem tri_pos {t : Tr} (hv : valT t = true) (ho : ori t.a t.b t.c = 1) : 0 < tw t.a t.b t.c := by
  obtain ⟨h1, h2, h3⟩ := valT_vals hv
  rw [ori_valid h1 h2 h3] at ho
  exact cmpI_one.1 ho

theorem atW_neg {y d n : Int} (hn : 0 ≤ n) (hy : y < 0) (h : 0 ≤ atW 0 y d n) : n = 0 := by
  by_cases e : n = 0
  · exact e
  · have : 0 < n * (-y) := Int.mul_pos (by omega) (by omega)
    unfold atW at h; grind

theorem atW_end0 (x y d : Int) : atW x y d 0 = d * x := by unfold atW; grind
theorem atW_endd (x y d : Int) : atW x y d d = d * y := by unfold atW; grind

/-- A way of which one end is on a side's line, the other behind it, is not along. -/
theorem not_along {t : Tr} {a b : Pt} (h : (tw t.a t.b a = 0 ∧ tw t.a t.b b < 0) ∨ (tw t.b t.c a = 0 ∧ tw t.b t.c b < 0) ∨ (tw t.c t.a a = 0 ∧ tw t.c t.a b < 0)) : along t a b = false := by
  rw [Bool.eq_false_iff]
  intro k
  by_cases hc : valT t = true ∧ val a = true ∧ val b = true ∧ a ≠ b
  · obtain ⟨d, n1, n2, hd, hn, ⟨p1, p2, p3, p4, p5⟩, ⟨q1, q2, q3, q4, q5⟩⟩ := (along_iff hc).1 k
    rcases h with ⟨h1, h2⟩ | ⟨h1, h2⟩ | ⟨h1, h2⟩
    · rw [h1] at p3 q3
      have := atW_neg q1 h2 q3
      omega
    · rw [h1] at p4 q4
      have := atW_neg q1 h2 q4
      omega
    · rw [h1] at p5 q5
      have := atW_neg q1 h2 q5
      omega
  · rw [along_no hc] at k; cases k

/-- A way whose both ends are within is along. -/
theorem yes_along {t : Tr} {a b : Pt} (h : valT t = true ∧ val a = true ∧ val b = true ∧ a ≠ b)
    (h1 : 0 ≤ tw t.a t.b a ∧ 0 ≤ tw t.b t.c a ∧ 0 ≤ tw t.c t.a a) (h2 : 0 ≤ tw t.a t.b b ∧ 0 ≤ tw t.b t.c b ∧ 0 ≤ tw t.c t.a b) : along t a b = true := by
  refine (along_iff h).2 ⟨1, 0, 1, by decide, by decide, ⟨by decide, by decide, ?_⟩, ⟨by decide, by decide, ?_⟩⟩
  · rw [atW_end0, atW_end0, atW_end0]; omega
  · rw [atW_endd, atW_endd, atW_endd]; omega

/-- A way from inside is along. -/
theorem ins_along {t : Tr} {a b : Pt} (h : valT t = true ∧ val a = true ∧ val b = true ∧ a ≠ b) (hi : ins t a = true) : along t a b = true := by
  obtain ⟨v1, v2, v3⟩ := valT_vals h.1
  rw [ins_yes h.1] at hi
  simp only [Bool.and_eq_true, decide_eq_true_eq] at hi
  obtain ⟨⟨i1, i2⟩, i3⟩ := hi
  replace i1 := (ori_sign v1 v2 h.2.1).1.1 i1
  replace i2 := (ori_sign v2 v3 h.2.1).1.1 i2
  replace i3 := (ori_sign v3 v1 h.2.1).1.1 i3
  have b1 := tw_bd v1 v2 h.2.2.1
  have b2 := tw_bd v2 v3 h.2.2.1
  have b3 := tw_bd v3 v1 h.2.2.1
  have key : ∀ {x y : Int}, 0 < x → -562949953421312 ≤ y ∧ y ≤ 562949953421312 → 0 ≤ atW x y 1125899906842624 0 ∧ 0 ≤ atW x y 1125899906842624 1 := by
    intro x y hx hy
    rw [atW_end0]
    unfold atW; omega
  refine (along_iff h).2 ⟨1125899906842624, 0, 1, by decide, by decide, ⟨by decide, by decide, ?_⟩, ⟨by decide, by decide, ?_⟩⟩
  · exact ⟨(key i1 b1).1, (key i2 b2).1, (key i3 b3).1⟩
  · exact ⟨(key i1 b1).2, (key i2 b2).2, (key i3 b3).2⟩

/-- The law ReachEdges, of a triangle of the document. -/
theorem edges_law {t : Tr} (hv : valT t = true) (ho : ori t.a t.b t.c = 1) {p q x y : Pt} {i : Int} (hx : cor t (i % 3) = x) (hy : cor t (i % 3 + 1) = y) :
    along t x y = true ∧ along t y x = true ∧ along t p q = along t q p ∧ (ori y x p = 1 → along t x p = false) ∧ (ins t p = true → val p = true → val q = true → p ≠ q → along t p q = true) := by
  obtain ⟨v1, v2, v3⟩ := valT_vals hv
  have D := tri_pos hv ho
  have dab : t.a ≠ t.b := by intro e; rw [e] at D; unfold tw at D; grind
  have dbc : t.b ≠ t.c := by intro e; rw [e] at D; unfold tw at D; grind
  have dca : t.c ≠ t.a := by intro e; rw [e] at D; unfold tw at D; grind
  have ka : 0 ≤ tw t.a t.b t.a ∧ 0 ≤ tw t.b t.c t.a ∧ 0 ≤ tw t.c t.a t.a := by rw [tw_self1, tw_rot, tw_self2]; omega
  have kb : 0 ≤ tw t.a t.b t.b ∧ 0 ≤ tw t.b t.c t.b ∧ 0 ≤ tw t.c t.a t.b := by rw [tw_self1, tw_self2, ← tw_rot t.b t.c t.a, ← tw_rot t.a t.b t.c] at *; omega
  have kc : 0 ≤ tw t.a t.b t.c ∧ 0 ≤ tw t.b t.c t.c ∧ 0 ≤ tw t.c t.a t.c := by rw [tw_self1, tw_self2]; omega
  have neg : ∀ {u v : Pt}, val u = true → val v = true → ori v u p = 1 → tw u v u = 0 ∧ tw u v p < 0 := by
    intro u v hu hv h
    have hp := (ori_vals (a := v) (b := u) (c := p) (by omega)).2.2
    rw [ori_valid hv hu hp, cmpI_one, tw_swap] at h
    exact ⟨tw_self1 _ _, by omega⟩
  have e3 : i % 3 = 0 ∨ i % 3 = 1 ∨ i % 3 = 2 := by omega
  refine ⟨?_, ?_, along_swap _ _ _, fun h => not_along ?_, fun h1 h2 h3 h4 => ins_along ⟨hv, h2, h3, h4⟩ h1⟩
  · rcases e3 with e | e | e <;> rw [e] at hx hy <;> subst hx <;> subst hy
    · exact yes_along ⟨hv, v1, v2, dab⟩ ka kb
    · exact yes_along ⟨hv, v2, v3, dbc⟩ kb kc
    · exact yes_along ⟨hv, v3, v1, dca⟩ kc ka
  · rcases e3 with e | e | e <;> rw [e] at hx hy <;> subst hx <;> subst hy
    · exact yes_along ⟨hv, v2, v1, dab.symm⟩ kb ka
    · exact yes_along ⟨hv, v3, v2, dbc.symm⟩ kc kb
    · exact yes_along ⟨hv, v1, v3, dca.symm⟩ ka kc
  · rcases e3 with e | e | e <;> rw [e] at hx hy <;> subst hx <;> subst hy
    · exact .inl (neg v1 v2 h)
    · exact .inr (.inl (neg v2 v3 h))
    · exact .inr (.inr (neg v3 v1 h))

/-- The law ReachParts: p, q a step on, r k steps on. -/
theorem parts_law {t : Tr} {p q r : Pt} {x y k : Int} (hp : val p = true) (hq : val q = true) (hr : val r = true) (hk : 2 ≤ k) (hxy : ¬ (x = 0 ∧ y = 0))
    (eq : q = ⟨p.x + x, p.y + y⟩) (er : r = ⟨p.x + k * x, p.y + k * y⟩) : along t p r = (along t p q || along t q r) := by
  by_cases hv : valT t = true
  · have hx : x ≠ 0 ∨ y ≠ 0 := by omega
    have npq : p ≠ q := by intro e; rw [eq] at e; have := congrArg Pt.x e; have := congrArg Pt.y e; dsimp only at *; omega
    have npr : p ≠ r := by
      intro e; rw [er] at e
      have e1 := congrArg Pt.x e; have e2 := congrArg Pt.y e; dsimp only at e1 e2
      have f1 : k * x = 0 := by omega
      have f2 : k * y = 0 := by omega
      have := Int.mul_eq_zero.1 f1; have := Int.mul_eq_zero.1 f2; omega
    have nqr : q ≠ r := by
      intro e; rw [er, eq] at e
      have e1 := congrArg Pt.x e; have e2 := congrArg Pt.y e; dsimp only at e1 e2
      have f1 : (k - 1) * x = 0 := by grind
      have f2 : (k - 1) * y = 0 := by grind
      have := Int.mul_eq_zero.1 f1; have := Int.mul_eq_zero.1 f2; omega
    have lin : ∀ u v : Pt, tw u v r = tw u v p + k * (tw u v q - tw u v p) := by intro u v; rw [eq, er]; unfold tw; dsimp only; grind
    have A := along_iff ⟨hv, hp, hr, npr⟩
    have B := along_iff ⟨hv, hp, hq, npq⟩
    have C := along_iff ⟨hv, hq, hr, nqr⟩
    have sc : ∀ {m s : Int}, 0 < m → (0 ≤ m * s ↔ 0 ≤ s) := by
      intro m s hm
      constructor
      · intro h; exact Int.le_of_mul_le_mul_left (by simpa using h) hm
      · intro h; exact Int.mul_nonneg (by omega) h
    -- a place of p to q, as one of p to r
    have f1 : ∀ {d n : Int}, 0 < d → (feas t p q d n ↔ (n ≤ d ∧ feas t p r (d * k) n)) := by
      intro d n hd
      have key : ∀ u v : Pt, (0 ≤ atW (tw u v p) (tw u v q) d n ↔ 0 ≤ atW (tw u v p) (tw u v r) (d * k) n) := by
        intro u v
        rw [lin u v, show atW (tw u v p) (tw u v p + k * (tw u v q - tw u v p)) (d * k) n = k * atW (tw u v p) (tw u v q) d n by unfold atW; grind, sc (by omega)]
      have hdk : d * 2 ≤ d * k := Int.mul_le_mul_of_nonneg_left hk (by omega)
      unfold feas
      rw [key, key, key]
      omega
    have f2 : ∀ {d n : Int}, 0 < d → (feas t q r d n ↔ (0 ≤ n ∧ feas t p r (d * k) (d + n * (k - 1)))) := by
      intro d n hd
      have key : ∀ u v : Pt, (0 ≤ atW (tw u v q) (tw u v r) d n ↔ 0 ≤ atW (tw u v p) (tw u v r) (d * k) (d + n * (k - 1))) := by
        intro u v
        rw [lin u v, show atW (tw u v p) (tw u v p + k * (tw u v q - tw u v p)) (d * k) (d + n * (k - 1)) = k * atW (tw u v q) (tw u v p + k * (tw u v q - tw u v p)) d n by unfold atW; grind, sc (by omega)]
      unfold feas
      rw [key, key, key]
      have e1 : d * k = d + d * (k - 1) := by grind
      have m0 : 0 ≤ n → 0 ≤ n * (k - 1) := fun h => Int.mul_nonneg h (by omega)
      have m1 : n ≤ d ↔ n * (k - 1) ≤ d * (k - 1) := ⟨fun h => Int.mul_le_mul_of_nonneg_right h (by omega), fun h => Int.le_of_mul_le_mul_right h (by omega)⟩
      omega
    -- the same place, in finer parts
    have sca : ∀ {m d n : Int}, 0 < m → feas t p r d n → feas t p r (m * d) (m * n) := by
      intro m d n hm ⟨g1, g2, g3, g4, g5⟩
      have e : ∀ a b : Int, atW a b (m * d) (m * n) = m * atW a b d n := by intro a b; unfold atW; grind
      refine ⟨Int.mul_nonneg (by omega) g1, Int.mul_le_mul_of_nonneg_left g2 (by omega), ?_⟩
      rw [e, e, e, sc hm, sc hm, sc hm]; exact ⟨g3, g4, g5⟩
    -- what lies between
    have con : ∀ {d n1 n2 n : Int}, 0 < d → n1 ≤ n → n ≤ n2 → feas t p r d n1 → feas t p r d n2 → feas t p r d n := by
      intro d n1 n2 n hd l1 l2 ⟨g1, g2, g3, g4, g5⟩ ⟨k1, k2, k3, k4, k5⟩
      have e : ∀ a b : Int, 0 ≤ atW a b d n1 → 0 ≤ atW a b d n2 → 0 ≤ atW a b d n := by
        intro a b h1 h2
        unfold atW at *
        rcases Int.le_total 0 (b - a) with s | s
        · have := Int.mul_le_mul_of_nonneg_right l1 s; omega
        · have := Int.mul_le_mul_of_nonpos_right l2 s; omega
      exact ⟨by omega, by omega, e _ _ g3 k3, e _ _ g4 k4, e _ _ g5 k5⟩
    rw [Bool.eq_iff_iff, Bool.or_eq_true, A, B, C]
    constructor
    · rintro ⟨d, n1, n2, hd, hn, g1, g2⟩
      -- parts of d·k·(k-1)
      have hm : 0 < k * (k - 1) := Int.mul_pos (by omega) (by omega)
      by_cases c1 : n1 * k < d
      · left
        -- from n1 to the lesser of n2 and the middle
        have hk0 : 0 < k := by omega
        by_cases c2 : n2 * k ≤ d
        · refine ⟨d, n1 * k, n2 * k, hd, Int.mul_lt_mul_of_pos_right hn hk0, (f1 hd).2 ⟨by omega, ?_⟩, (f1 hd).2 ⟨c2, ?_⟩⟩
          · rw [Int.mul_comm d, Int.mul_comm n1]; exact sca hk0 g1
          · rw [Int.mul_comm d, Int.mul_comm n2]; exact sca hk0 g2
        · refine ⟨d, n1 * k, d, hd, c1, (f1 hd).2 ⟨by omega, ?_⟩, (f1 hd).2 ⟨by omega, ?_⟩⟩
          · rw [Int.mul_comm d, Int.mul_comm n1]; exact sca hk0 g1
          · refine con (n1 := k * n1) (n2 := k * n2) (Int.mul_pos hd hk0) (by rw [Int.mul_comm]; omega) (by rw [Int.mul_comm]; omega) ?_ ?_
            · rw [Int.mul_comm d]; exact sca hk0 g1
            · rw [Int.mul_comm d]; exact sca hk0 g2
      · right
        have hk1 : 0 < k - 1 := by omega
        have e0 : ∀ n : Int, d * (k - 1) + (n * k - d) * (k - 1) = k * (k - 1) * n := by intro n; grind
        have e1 : d * (k - 1) * k = k * (k - 1) * d := by grind
        have l2 : n1 * k < n2 * k := Int.mul_lt_mul_of_pos_right hn (by omega)
        refine ⟨d * (k - 1), n1 * k - d, n2 * k - d, Int.mul_pos hd hk1, by omega, (f2 (Int.mul_pos hd hk1)).2 ⟨by omega, ?_⟩, (f2 (Int.mul_pos hd hk1)).2 ⟨by omega, ?_⟩⟩
        · rw [e0, e1]; exact sca hm g1
        · rw [e0, e1]; exact sca hm g2
    · rintro (⟨d, n1, n2, hd, hn, g1, g2⟩ | ⟨d, n1, n2, hd, hn, g1, g2⟩)
      · exact ⟨d * k, n1, n2, Int.mul_pos hd (by omega), hn, ((f1 hd).1 g1).2, ((f1 hd).1 g2).2⟩
      · have l2 : n1 * (k - 1) < n2 * (k - 1) := Int.mul_lt_mul_of_pos_right hn (by omega)
        exact ⟨d * k, d + n1 * (k - 1), d + n2 * (k - 1), Int.mul_pos hd (by omega), by omega, ((f2 hd).1 g1).2, ((f2 hd).1 g2).2⟩
  · rw [along_no (fun h => hv h.1), along_no (fun h => hv h.1), along_no (fun h => hv h.1)]; rfl

end Go.Proofs.Ytandgbpbabmdfaa
