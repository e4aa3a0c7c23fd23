/- The law of cut windows: a strip's point of a triangle. -/
import Derived.Test.YtandgbpbabmdfaaMo
namespace Go.Proofs.Ytandgbpbabmdfaa

/-- A form that is below nought on a window's left part though not on the whole: a place of the strip that it does not part off is on the right. -/
theorem form_right {a b c x0 M x1 y0 y1 nx ny d : Int} (hd : 0 < d) (hM : M ≤ x1) (hy0 : y0 * d ≤ ny) (hy1 : ny ≤ y1 * d)
    (h1 : a * x0 + b * y0 + c < 0) (h2 : a * M + b * y0 + c < 0) (h3 : a * M + b * y1 + c < 0) (h4 : a * x0 + b * y1 + c < 0)
    (hn : ¬ (a * x0 + b * y0 + c < 0 ∧ a * x1 + b * y0 + c < 0 ∧ a * x1 + b * y1 + c < 0 ∧ a * x0 + b * y1 + c < 0))
    (h : 0 ≤ a * nx + b * ny + c * d) : M * d < nx := by
  have ha : a * M < a * x1 := by omega
  have hp : 0 < a := by
    by_cases k : 0 < a
    · exact k
    · have := Int.mul_le_mul_of_nonpos_left (show a ≤ 0 by omega) hM; omega
  by_cases k : nx ≤ M * d
  · have l := form_neg (nx := M * d) hd (Int.le_refl (M * d)) (Int.le_refl (M * d)) hy0 hy1 h2 h2 h3 h3
    have := Int.mul_le_mul_of_nonneg_left k (show 0 ≤ a by omega)
    omega
  · omega

theorem form_left {a b c x0 M x1 y0 y1 nx ny d : Int} (hd : 0 < d) (hM : x0 ≤ M) (hy0 : y0 * d ≤ ny) (hy1 : ny ≤ y1 * d)
    (h1 : a * M + b * y0 + c < 0) (h2 : a * x1 + b * y0 + c < 0) (h3 : a * x1 + b * y1 + c < 0) (h4 : a * M + b * y1 + c < 0)
    (hn : ¬ (a * x0 + b * y0 + c < 0 ∧ a * x1 + b * y0 + c < 0 ∧ a * x1 + b * y1 + c < 0 ∧ a * x0 + b * y1 + c < 0))
    (h : 0 ≤ a * nx + b * ny + c * d) : nx < M * d := by
  have ha : a * M < a * x0 := by omega
  have hp : a < 0 := by
    by_cases k : a < 0
    · exact k
    · have := Int.mul_le_mul_of_nonneg_left hM (show 0 ≤ a by omega); omega
  by_cases k : M * d ≤ nx
  · have l := form_neg (nx := M * d) hd (Int.le_refl (M * d)) (Int.le_refl (M * d)) hy0 hy1 h1 h1 h4 h4
    have := Int.mul_le_mul_of_nonpos_left (show a ≤ 0 by omega) k
    omega
  · omega

/-- A strip that a triangle reaches has a place of it. -/
theorem strip {t : Tr} {y0 y1 : Int} (hy : y0 ≤ y1) (h1 : y0 ≤ mx (mx t.a.y t.b.y) t.c.y) (h2 : mn (mn t.a.y t.b.y) t.c.y ≤ y1) :
    ∃ nx ny d : Int, Wt t nx ny d ∧ y0 * d ≤ ny ∧ ny ≤ y1 * d := by
  obtain ⟨ca, cb, cc⟩ := corner_wt t
  by_cases k1 : y0 ≤ t.a.y ∧ t.a.y ≤ y1
  · exact ⟨_, _, _, ca, by omega, by omega⟩
  by_cases k2 : y0 ≤ t.b.y ∧ t.b.y ≤ y1
  · exact ⟨_, _, _, cb, by omega, by omega⟩
  by_cases k3 : y0 ≤ t.c.y ∧ t.c.y ≤ y1
  · exact ⟨_, _, _, cc, by omega, by omega⟩
  rw [mx_eq, mx_eq] at h1
  rw [mn_eq, mn_eq] at h2
  have e : ∀ p q : Int, (y0 - q) * p + (p - y0) * q = y0 * (p - q) := by intro p q; grind
  have fin : ∀ {p q ny : Int}, y1 < p → q < y0 → ny = (y0 - q) * p + (p - y0) * q → y0 * (p - q) ≤ ny ∧ ny ≤ y1 * (p - q) := by
    intro p q ny hp hq he
    rw [he, e]
    exact ⟨Int.le_refl _, Int.mul_le_mul_of_nonneg_right hy (by omega)⟩
  have cases : (y1 < t.a.y ∧ t.b.y < y0) ∨ (y1 < t.a.y ∧ t.c.y < y0) ∨ (y1 < t.b.y ∧ t.a.y < y0) ∨ (y1 < t.b.y ∧ t.c.y < y0) ∨ (y1 < t.c.y ∧ t.a.y < y0) ∨ (y1 < t.c.y ∧ t.b.y < y0) := by omega
  rcases cases with ⟨u, v⟩ | ⟨u, v⟩ | ⟨u, v⟩ | ⟨u, v⟩ | ⟨u, v⟩ | ⟨u, v⟩
  · exact ⟨_, _, _, ⟨y0 - t.b.y, t.a.y - y0, 0, by omega, by omega, by omega, (by omega : 0 < t.a.y - t.b.y), by omega, rfl, rfl⟩, fin u v (by omega)⟩
  · exact ⟨_, _, _, ⟨y0 - t.c.y, 0, t.a.y - y0, by omega, by omega, by omega, (by omega : 0 < t.a.y - t.c.y), by omega, rfl, rfl⟩, fin u v (by omega)⟩
  · exact ⟨_, _, _, ⟨t.b.y - y0, y0 - t.a.y, 0, by omega, by omega, by omega, (by omega : 0 < t.b.y - t.a.y), by omega, rfl, rfl⟩, fin u v (by omega)⟩
  · exact ⟨_, _, _, ⟨0, y0 - t.c.y, t.b.y - y0, by omega, by omega, by omega, (by omega : 0 < t.b.y - t.c.y), by omega, rfl, rfl⟩, fin u v (by omega)⟩
  · exact ⟨_, _, _, ⟨t.c.y - y0, 0, y0 - t.a.y, by omega, by omega, by omega, (by omega : 0 < t.c.y - t.a.y), by omega, rfl, rfl⟩, fin u v (by omega)⟩
  · exact ⟨_, _, _, ⟨0, t.c.y - y0, y0 - t.b.y, by omega, by omega, by omega, (by omega : 0 < t.c.y - t.b.y), by omega, rfl, rfl⟩, fin u v (by omega)⟩

/-- A greater window overlaps too. -/
theorem ovl_more {t : Tr} {x0 y0 x1 y1 u0 u1 : Int} (hv : valT t = true) (hw : win x0 y0 x1 y1 = true) (hu : win u0 y0 u1 y1 = true) (h0 : x0 ≤ u0) (h1 : u1 ≤ x1)
    (h : ovl t u0 y0 u1 y1 = true) : ovl t x0 y0 x1 y1 = true := by
  obtain ⟨_, i2, _, _, i5, _⟩ := win_iff.1 hu
  obtain ⟨a1, a2, a3, a4, e0, e1, e2⟩ := (ovl_iff hv hu).1 h
  have ed : ∀ k, edR t u0 y0 u1 y1 k = false → edR t x0 y0 x1 y1 k = false := by
    intro k hk
    rw [Bool.eq_false_iff] at hk ⊢
    intro he
    obtain ⟨g1, g2, g3, g4⟩ := (edR_iff hv hw k).1 he
    refine hk ((edR_iff hv hu k).2 ?_)
    rw [tw_form] at g1 g2 g3 g4
    dsimp only at g1 g2 g3 g4
    have sub : ∀ x y : Int, u0 ≤ x → x ≤ u1 → y0 ≤ y → y ≤ y1 → tw (cor t k) (cor t (k + 1)) ⟨x, y⟩ < 0 := by
      intro x y b1 b2 b3 b4
      have := form_neg (nx := x) (ny := y) (d := 1) (by decide) (by omega) (by omega) (by omega) (by omega) g1 g2 g3 g4
      rw [tw_form]; dsimp only; omega
    exact ⟨sub _ _ (by omega) i2 (by omega) i5, sub _ _ i2 (by omega) (by omega) i5, sub _ _ i2 (by omega) i5 (by omega), sub _ _ (by omega) i2 i5 (by omega)⟩
  exact (ovl_iff hv hw).2 ⟨by omega, by omega, a3, a4, ed 0 e0, ed 1 e1, ed 2 e2⟩

/-- The law ReachCuts. -/
theorem cuts_law {t : Tr} {x0 y0 x1 y1 m : Int} (hw : win x0 y0 x1 y1 = true) (h0 : x0 ≤ m) (h1 : m < x1) :
    ovl t x0 y0 x1 y1 = (ovl t x0 y0 (m + 1) y1 || ovl t m y0 x1 y1) := by
  by_cases hv : valT t = true
  · obtain ⟨i1, i2, i3, i4, i5, i6⟩ := win_iff.1 hw
    have hl : win x0 y0 (m + 1) y1 = true := win_iff.2 ⟨i1, by omega, by omega, i4, i5, i6⟩
    have hr : win m y0 x1 y1 = true := win_iff.2 ⟨by omega, by omega, by omega, i4, i5, i6⟩
    rw [Bool.eq_iff_iff, Bool.or_eq_true]
    constructor
    · intro h
      obtain ⟨a1, a2, a3, a4, e0, e1, e2⟩ := (ovl_iff hv hw).1 h
      have e : ∀ k : Nat, k < 3 → edR t x0 y0 x1 y1 k = false := by
        intro k hk
        have : k = 0 ∨ k = 1 ∨ k = 2 := by omega
        rcases this with rfl | rfl | rfl <;> assumption
      obtain ⟨nx, ny, d, hP, p1, p2⟩ := strip i5 a3 a4
      have hd : 0 < d := by obtain ⟨_, _, _, _, _, _, hd, _⟩ := hP.ex; exact hd
      obtain ⟨b1, b2, b3, b4⟩ := hP.box
      have big : ∀ {p q : Int}, p < q → p * d < q * d := fun h => Int.mul_lt_mul_of_pos_right h hd
      -- the place is on the right if the left fails, on the left if the right fails
      have L : ovl t x0 y0 (m + 1) y1 ≠ true → (m + 1) * d < nx := by
        intro hf
        by_cases c : mn (mn t.a.x t.b.x) t.c.x ≤ m + 1
        · by_cases c2 : edR t x0 y0 (m + 1) y1 0 = false ∧ edR t x0 y0 (m + 1) y1 1 = false ∧ edR t x0 y0 (m + 1) y1 2 = false
          · exact absurd ((ovl_iff hv hl).2 ⟨a1, c, a3, a4, c2⟩) hf
          · have side : ∀ k, k < 3 → edR t x0 y0 (m + 1) y1 k = true → (m + 1) * d < nx := by
              intro k hk he
              obtain ⟨g1, g2, g3, g4⟩ := (edR_iff hv hl k).1 he
              have hn := e k hk
              rw [Bool.eq_false_iff, ne_eq, edR_iff hv hw k] at hn
              simp only [tw_form] at g1 g2 g3 g4 hn
              exact form_right hd (by omega) p1 p2 g1 g2 g3 g4 hn (hP.side hv k hk)
            cases q0 : edR t x0 y0 (m + 1) y1 0 with
            | true => exact side 0 (by omega) q0
            | false =>
              cases q1 : edR t x0 y0 (m + 1) y1 1 with
              | true => exact side 1 (by omega) q1
              | false =>
                cases q2 : edR t x0 y0 (m + 1) y1 2 with
                | true => exact side 2 (by omega) q2
                | false => exact absurd ⟨q0, q1, q2⟩ c2
        · have := big (show m + 1 < mn (mn t.a.x t.b.x) t.c.x by omega); omega
      have R : ovl t m y0 x1 y1 ≠ true → nx < m * d := by
        intro hf
        by_cases c : m ≤ mx (mx t.a.x t.b.x) t.c.x
        · by_cases c2 : edR t m y0 x1 y1 0 = false ∧ edR t m y0 x1 y1 1 = false ∧ edR t m y0 x1 y1 2 = false
          · exact absurd ((ovl_iff hv hr).2 ⟨c, a2, a3, a4, c2⟩) hf
          · have side : ∀ k, k < 3 → edR t m y0 x1 y1 k = true → nx < m * d := by
              intro k hk he
              obtain ⟨g1, g2, g3, g4⟩ := (edR_iff hv hr k).1 he
              have hn := e k hk
              rw [Bool.eq_false_iff, ne_eq, edR_iff hv hw k] at hn
              simp only [tw_form] at g1 g2 g3 g4 hn
              exact form_left hd (by omega) p1 p2 g1 g2 g3 g4 hn (hP.side hv k hk)
            cases q0 : edR t m y0 x1 y1 0 with
            | true => exact side 0 (by omega) q0
            | false =>
              cases q1 : edR t m y0 x1 y1 1 with
              | true => exact side 1 (by omega) q1
              | false =>
                cases q2 : edR t m y0 x1 y1 2 with
                | true => exact side 2 (by omega) q2
                | false => exact absurd ⟨q0, q1, q2⟩ c2
        · have := big (show mx (mx t.a.x t.b.x) t.c.x < m by omega); omega
      by_cases cl : ovl t x0 y0 (m + 1) y1 = true
      · exact .inl cl
      · right
        by_cases cr : ovl t m y0 x1 y1 = true
        · exact cr
        · have l := L cl
          have r := R cr
          have := big (show m < m + 1 by omega)
          omega
    · rintro (h | h)
      · exact ovl_more hv hw hl (by omega) (by omega) h
      · exact ovl_more hv hw hr (by omega) (by omega) h
  · have hv' : valT t = false := by simpa using hv
    unfold ovl; rw [hv']; rfl

end Go.Proofs.Ytandgbpbabmdfaa
