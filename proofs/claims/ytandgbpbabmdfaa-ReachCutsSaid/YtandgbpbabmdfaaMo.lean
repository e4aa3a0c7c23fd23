/- The laws of windows against triangles. -/
import Derived.Test.YtandgbpbabmdfaaMs
import Derived.Test.YtandgbpbabmdfaaMf
namespace Go.Proofs.Ytandgbpbabmdfaa

theorem valT_one {t : Tr} (h : valT t = true) : ori t.a t.b t.c = 1 := by
  unfold valT at h
  rw [Bool.and_eq_true, decide_eq_true_eq] at h
  have k := (mk_ok h.1).2.1
  rw [h.2] at k; exact k

theorem tw_pos {t : Tr} (h : valT t = true) : 0 < tw t.a t.b t.c := by
  obtain ⟨h1, h2, h3⟩ := valT_vals h
  have k := valT_one h
  rw [ori_valid h1 h2 h3] at k
  exact cmpI_one.1 k

/-- A side's form: what it tells of a point, as a·x + b·y + c. -/
theorem tw_form (u v q : Pt) : tw u v q = (u.y - v.y) * q.x + (v.x - u.x) * q.y + ((v.y - u.y) * u.x - (v.x - u.x) * u.y) := by unfold tw; grind

theorem win_iff {x0 y0 x1 y1 : Int} : win x0 y0 x1 y1 = true ↔ 0 ≤ x0 ∧ x0 ≤ x1 ∧ x1 < 16777216 ∧ 0 ≤ y0 ∧ y0 ≤ y1 ∧ y1 < 16777216 := by
  unfold win val; dsimp only; simp only [Bool.and_eq_true, decide_eq_true_eq]; omega

theorem val_mk {x y : Int} (h1 : 0 ≤ x) (h2 : x < 16777216) (h3 : 0 ≤ y) (h4 : y < 16777216) : val ⟨x, y⟩ = true := decide_eq_true ⟨h1, h2, h3, h4⟩

theorem ori_lt {a b c : Pt} (ha : val a = true) (hb : val b = true) (hc : val c = true) : ori a b c < 0 ↔ tw a b c < 0 := by
  have := (ori_sign ha hb hc).2.1; omega

theorem edR_iff {t : Tr} (hv : valT t = true) {x0 y0 x1 y1 : Int} (hw : win x0 y0 x1 y1 = true) (k : Nat) :
    edR t x0 y0 x1 y1 k = true ↔ tw (cor t k) (cor t (k + 1)) ⟨x0, y0⟩ < 0 ∧ tw (cor t k) (cor t (k + 1)) ⟨x1, y0⟩ < 0 ∧ tw (cor t k) (cor t (k + 1)) ⟨x1, y1⟩ < 0 ∧ tw (cor t k) (cor t (k + 1)) ⟨x0, y1⟩ < 0 := by
  obtain ⟨h1, h2, h3, h4, h5, h6⟩ := win_iff.1 hw
  unfold edR
  simp only [Bool.and_eq_true, decide_eq_true_eq]
  rw [ori_lt (cor_val hv _) (cor_val hv _) (val_mk h1 (by omega) h4 (by omega)), ori_lt (cor_val hv _) (cor_val hv _) (val_mk (by omega) h3 h4 (by omega)),
    ori_lt (cor_val hv _) (cor_val hv _) (val_mk (by omega) h3 (by omega) h6), ori_lt (cor_val hv _) (cor_val hv _) (val_mk h1 (by omega) (by omega) h6)]
  constructor
  · rintro ⟨⟨⟨a, b⟩, c⟩, d⟩; exact ⟨a, b, c, d⟩
  · rintro ⟨a, b, c, d⟩; exact ⟨⟨⟨a, b⟩, c⟩, d⟩

theorem noR_three {t : Tr} {x0 y0 x1 y1 : Int} : noR t x0 y0 x1 y1 3 = true ↔ edR t x0 y0 x1 y1 0 = false ∧ edR t x0 y0 x1 y1 1 = false ∧ edR t x0 y0 x1 y1 2 = false := by
  simp only [noR, Bool.true_and, Bool.and_eq_true, Bool.not_eq_true']
  constructor
  · rintro ⟨⟨a, b⟩, c⟩; exact ⟨a, b, c⟩
  · rintro ⟨a, b, c⟩; exact ⟨⟨a, b⟩, c⟩

/-- A form that is below nought at a window's four corners is so within. -/
theorem form_neg {a b c x0 y0 x1 y1 nx ny d : Int} (hd : 0 < d) (hx0 : x0 * d ≤ nx) (hx1 : nx ≤ x1 * d) (hy0 : y0 * d ≤ ny) (hy1 : ny ≤ y1 * d)
    (h1 : a * x0 + b * y0 + c < 0) (h2 : a * x1 + b * y0 + c < 0) (h3 : a * x1 + b * y1 + c < 0) (h4 : a * x0 + b * y1 + c < 0) : a * nx + b * ny + c * d < 0 := by
  have sc : ∀ {m : Int}, m < 0 → m * d < 0 := fun hm => Int.mul_neg_of_neg_of_pos hm hd
  have k1 := sc h1; have k2 := sc h2; have k3 := sc h3; have k4 := sc h4
  have e : ∀ x y : Int, (a * x + b * y + c) * d = a * (x * d) + b * (y * d) + c * d := by intro x y; grind
  rw [e] at k1 k2 k3 k4
  have ax : a * nx ≤ a * (x0 * d) ∨ a * nx ≤ a * (x1 * d) := by
    rcases Int.le_total 0 a with s | s
    · exact .inr (Int.mul_le_mul_of_nonneg_left hx1 s)
    · exact .inl (Int.mul_le_mul_of_nonpos_left s hx0)
  have by' : b * ny ≤ b * (y0 * d) ∨ b * ny ≤ b * (y1 * d) := by
    rcases Int.le_total 0 b with s | s
    · exact .inr (Int.mul_le_mul_of_nonneg_left hy1 s)
    · exact .inl (Int.mul_le_mul_of_nonpos_left s hy0)
  omega

/-- A point of a triangle, by weights of its corners. -/
structure Wt (t : Tr) (nx ny d : Int) : Prop where
  ex : ∃ wa wb wc : Int, 0 ≤ wa ∧ 0 ≤ wb ∧ 0 ≤ wc ∧ 0 < d ∧ wa + wb + wc = d ∧ nx = wa * t.a.x + wb * t.b.x + wc * t.c.x ∧ ny = wa * t.a.y + wb * t.b.y + wc * t.c.y

/-- It is on no side's right. -/
theorem Wt.side {t : Tr} (hv : valT t = true) {nx ny d : Int} (h : Wt t nx ny d) (k : Nat) (hk : k < 3) :
    0 ≤ ((cor t k).y - (cor t (k + 1)).y) * nx + ((cor t (k + 1)).x - (cor t k).x) * ny + (((cor t (k + 1)).y - (cor t k).y) * (cor t k).x - ((cor t (k + 1)).x - (cor t k).x) * (cor t k).y) * d := by
  obtain ⟨wa, wb, wc, ha, hb, hc, hd, rfl, rfl, rfl⟩ := h.ex
  have D := tw_pos hv
  have m1 : 0 ≤ wa * tw t.a t.b t.c := Int.mul_nonneg ha (by omega)
  have m2 : 0 ≤ wb * tw t.a t.b t.c := Int.mul_nonneg hb (by omega)
  have m3 : 0 ≤ wc * tw t.a t.b t.c := Int.mul_nonneg hc (by omega)
  have hcase : k = 0 ∨ k = 1 ∨ k = 2 := by omega
  rcases hcase with rfl | rfl | rfl
  · show 0 ≤ (t.a.y - t.b.y) * _ + (t.b.x - t.a.x) * _ + ((t.b.y - t.a.y) * t.a.x - (t.b.x - t.a.x) * t.a.y) * _
    refine Int.le_trans m3 (Int.le_of_eq ?_)
    unfold tw; grind
  · show 0 ≤ (t.b.y - t.c.y) * _ + (t.c.x - t.b.x) * _ + ((t.c.y - t.b.y) * t.b.x - (t.c.x - t.b.x) * t.b.y) * _
    refine Int.le_trans m1 (Int.le_of_eq ?_)
    unfold tw; grind
  · show 0 ≤ (t.c.y - t.a.y) * _ + (t.a.x - t.c.x) * _ + ((t.a.y - t.c.y) * t.c.x - (t.a.x - t.c.x) * t.c.y) * _
    refine Int.le_trans m2 (Int.le_of_eq ?_)
    unfold tw; grind

/-- It is within the triangle's own window. -/
theorem Wt.box {t : Tr} {nx ny d : Int} (h : Wt t nx ny d) :
    mn (mn t.a.x t.b.x) t.c.x * d ≤ nx ∧ nx ≤ mx (mx t.a.x t.b.x) t.c.x * d ∧ mn (mn t.a.y t.b.y) t.c.y * d ≤ ny ∧ ny ≤ mx (mx t.a.y t.b.y) t.c.y * d := by
  obtain ⟨wa, wb, wc, ha, hb, hc, hd, rfl, rfl, rfl⟩ := h.ex
  have key : ∀ p q r : Int, mn (mn p q) r * (wa + wb + wc) ≤ wa * p + wb * q + wc * r ∧ wa * p + wb * q + wc * r ≤ mx (mx p q) r * (wa + wb + wc) := by
    intro p q r
    rw [mn_eq, mn_eq, mx_eq, mx_eq]
    have l1 := Int.mul_le_mul_of_nonneg_left (show min (min p q) r ≤ p by omega) ha
    have l2 := Int.mul_le_mul_of_nonneg_left (show min (min p q) r ≤ q by omega) hb
    have l3 := Int.mul_le_mul_of_nonneg_left (show min (min p q) r ≤ r by omega) hc
    have g1 := Int.mul_le_mul_of_nonneg_left (show p ≤ max (max p q) r by omega) ha
    have g2 := Int.mul_le_mul_of_nonneg_left (show q ≤ max (max p q) r by omega) hb
    have g3 := Int.mul_le_mul_of_nonneg_left (show r ≤ max (max p q) r by omega) hc
    generalize min (min p q) r = lo at *
    generalize max (max p q) r = hi at *
    rw [Int.mul_comm lo, Int.mul_comm hi, Int.add_mul, Int.add_mul, Int.add_mul, Int.add_mul]
    omega
  obtain ⟨a1, a2⟩ := key t.a.x t.b.x t.c.x
  obtain ⟨b1, b2⟩ := key t.a.y t.b.y t.c.y
  exact ⟨a1, a2, b1, b2⟩

theorem ovl_iff {t : Tr} {x0 y0 x1 y1 : Int} (hv : valT t = true) (hw : win x0 y0 x1 y1 = true) : ovl t x0 y0 x1 y1 = true ↔
    x0 ≤ mx (mx t.a.x t.b.x) t.c.x ∧ mn (mn t.a.x t.b.x) t.c.x ≤ x1 ∧ y0 ≤ mx (mx t.a.y t.b.y) t.c.y ∧ mn (mn t.a.y t.b.y) t.c.y ≤ y1 ∧ edR t x0 y0 x1 y1 0 = false ∧ edR t x0 y0 x1 y1 1 = false ∧ edR t x0 y0 x1 y1 2 = false := by
  unfold ovl
  rw [hv, hw, Bool.true_and, Bool.true_and]
  simp only [Bool.and_eq_true, Bool.not_eq_true', decide_eq_false_iff_not, noR_three]
  constructor
  · rintro ⟨⟨⟨⟨a, b⟩, c⟩, d⟩, e⟩; exact ⟨by omega, by omega, by omega, by omega, e⟩
  · rintro ⟨a, b, c, d, e⟩; exact ⟨⟨⟨⟨by omega, by omega⟩, by omega⟩, by omega⟩, e⟩

/-- A window with a point of the triangle overlaps it. -/
theorem ovl_of {t : Tr} {x0 y0 x1 y1 nx ny d : Int} (hv : valT t = true) (hw : win x0 y0 x1 y1 = true) (h : Wt t nx ny d) (hx0 : x0 * d ≤ nx) (hx1 : nx ≤ x1 * d) (hy0 : y0 * d ≤ ny) (hy1 : ny ≤ y1 * d) :
    ovl t x0 y0 x1 y1 = true := by
  obtain ⟨b1, b2, b3, b4⟩ := h.box
  have hd : 0 < d := by obtain ⟨_, _, _, _, _, _, hd, _⟩ := h.ex; exact hd
  have dv : ∀ {p q : Int}, p * d ≤ q * d → p ≤ q := fun h => Int.le_of_mul_le_mul_right h hd
  have ed : ∀ k, k < 3 → edR t x0 y0 x1 y1 k = false := by
    intro k hk
    rw [Bool.eq_false_iff]
    intro he
    obtain ⟨e1, e2, e3, e4⟩ := (edR_iff hv hw k).1 he
    rw [tw_form] at e1 e2 e3 e4
    have := form_neg hd hx0 hx1 hy0 hy1 e1 e2 e3 e4
    have := h.side hv k hk
    omega
  exact (ovl_iff hv hw).2 ⟨dv (by omega), dv (by omega), dv (by omega), dv (by omega), ed 0 (by omega), ed 1 (by omega), ed 2 (by omega)⟩

/-- A point that the triangle has, by weights. -/
theorem has_wt {t : Tr} {p : Pt} (h : has t p = true) : ∃ d, Wt t (p.x * d) (p.y * d) d := by
  have hv : valT t = true := by cases k : valT t with
    | true => rfl
    | false => rw [has_no (by rw [k]; rfl)] at h; cases h
  have hp : val p = true := by cases k : val p with
    | true => rfl
    | false => rw [has_no (by rw [k, Bool.and_false])] at h; cases h
  obtain ⟨v1, v2, v3⟩ := valT_vals hv
  rw [has_yes hv hp] at h
  simp only [Bool.and_eq_true, decide_eq_true_eq] at h
  obtain ⟨⟨h1, h2⟩, h3⟩ := h
  replace h1 := (ori_sign v1 v2 hp).2.1.1 h1
  replace h2 := (ori_sign v2 v3 hp).2.1.1 h2
  replace h3 := (ori_sign v3 v1 hp).2.1.1 h3
  refine ⟨tw t.a t.b t.c, ⟨tw t.b t.c p, tw t.c t.a p, tw t.a t.b p, h2, h3, h1, tw_pos hv, ?_, ?_, ?_⟩⟩
  · have := tw_sum t.a t.b t.c p; omega
  · unfold tw; grind
  · unfold tw; grind

theorem corner_wt (t : Tr) : Wt t (t.a.x) (t.a.y) 1 ∧ Wt t (t.b.x) (t.b.y) 1 ∧ Wt t (t.c.x) (t.c.y) 1 :=
  ⟨⟨1, 0, 0, by omega, by omega, by omega, by omega, by omega, by omega, by omega⟩, ⟨0, 1, 0, by omega, by omega, by omega, by omega, by omega, by omega, by omega⟩, ⟨0, 0, 1, by omega, by omega, by omega, by omega, by omega, by omega, by omega⟩⟩

/-- A window of one point overlaps just if the triangle has it. -/
theorem ovl_point {t : Tr} {p : Pt} : ovl t p.x p.y p.x p.y = has t p := by
  by_cases hv : valT t = true
  · by_cases hp : val p = true
    · have hw : win p.x p.y p.x p.y = true := by obtain ⟨a, b, c, d⟩ := val_true hp; exact win_iff.2 ⟨a, by omega, b, c, by omega, d⟩
      rw [Bool.eq_iff_iff]
      constructor
      · intro h
        obtain ⟨_, _, _, _, e0, e1, e2⟩ := (ovl_iff hv hw).1 h
        obtain ⟨v1, v2, v3⟩ := valT_vals hv
        have un : ∀ k : Nat, edR t p.x p.y p.x p.y k = false → 0 ≤ ori (cor t k) (cor t (k + 1)) p := by
          intro k hk
          unfold edR at hk
          by_cases hh : ori (cor t k) (cor t (k + 1)) p < 0
          · exfalso
            rw [show (⟨p.x, p.y⟩ : Pt) = p from rfl, decide_eq_true hh] at hk
            cases hk
          · omega
        rw [has_yes hv hp]
        simp only [Bool.and_eq_true, decide_eq_true_eq]
        exact ⟨⟨un 0 e0, un 1 e1⟩, un 2 e2⟩
      · intro h
        obtain ⟨d, hwt⟩ := has_wt h
        exact ovl_of hv hw hwt (Int.le_refl _) (Int.le_refl _) (Int.le_refl _) (Int.le_refl _)
    · have hp' : val p = false := by simpa using hp
      rw [has_no (by rw [hp', Bool.and_false])]
      unfold ovl win
      rw [show (⟨p.x, p.y⟩ : Pt) = p from rfl, hp']
      simp
  · have hv' : valT t = false := by simpa using hv
    rw [has_no (by rw [hv']; rfl)]
    unfold ovl; rw [hv']; rfl

/-- The law ReachPoints, of a triangle of the document. -/
theorem points_law {t : Tr} (hv : valT t = true) {p : Pt} {bx0 by0 bx1 by1 : Int} (hb : win bx0 by0 bx1 by1 = true) (h1 : bx0 ≤ p.x) (h2 : p.x ≤ bx1) (h3 : by0 ≤ p.y) (h4 : p.y ≤ by1) :
    ovl t p.x p.y p.x p.y = has t p ∧ (has t p = true → ovl t bx0 by0 bx1 by1 = true) ∧ ovl t 0 0 16777215 16777215 = true := by
  refine ⟨ovl_point, fun h => ?_, ?_⟩
  · obtain ⟨d, hwt⟩ := has_wt h
    have hd : 0 < d := by obtain ⟨_, _, _, _, _, _, hd, _⟩ := hwt.ex; exact hd
    exact ovl_of hv hb hwt (Int.mul_le_mul_of_nonneg_right h1 (by omega)) (Int.mul_le_mul_of_nonneg_right h2 (by omega)) (Int.mul_le_mul_of_nonneg_right h3 (by omega)) (Int.mul_le_mul_of_nonneg_right h4 (by omega))
  · obtain ⟨a, b, c, d⟩ := val_true (valT_vals hv).1
    exact ovl_of hv (win_iff.2 (by omega)) (corner_wt t).1 (by omega) (by omega) (by omega) (by omega)

/-- A window beyond the greatest x does not overlap; one from there does. -/
theorem points_max {t : Tr} (hv : valT t = true) :
    (mx (mx t.a.x t.b.x) t.c.x + 1 < 16777216 → ovl t (mx (mx t.a.x t.b.x) t.c.x + 1) 0 16777215 16777215 = false) ∧ ovl t (mx (mx t.a.x t.b.x) t.c.x) 0 16777215 16777215 = true := by
  obtain ⟨v1, v2, v3⟩ := valT_vals hv
  obtain ⟨a1, a2, a3, a4⟩ := val_true v1
  obtain ⟨b1, b2, b3, b4⟩ := val_true v2
  obtain ⟨c1, c2, c3, c4⟩ := val_true v3
  constructor
  · intro h
    rw [Bool.eq_false_iff]
    intro k
    have hw : win (mx (mx t.a.x t.b.x) t.c.x + 1) 0 16777215 16777215 = true := win_iff.2 (by rw [mx_eq, mx_eq] at *; omega)
    have := ((ovl_iff hv hw).1 k).1
    omega
  · have hw : win (mx (mx t.a.x t.b.x) t.c.x) 0 16777215 16777215 = true := win_iff.2 (by rw [mx_eq, mx_eq]; omega)
    have hc : mx (mx t.a.x t.b.x) t.c.x = t.a.x ∨ mx (mx t.a.x t.b.x) t.c.x = t.b.x ∨ mx (mx t.a.x t.b.x) t.c.x = t.c.x := by rw [mx_eq, mx_eq]; omega
    rcases hc with e | e | e
    · exact ovl_of hv hw (corner_wt t).1 (by omega) (by omega) (by omega) (by omega)
    · exact ovl_of hv hw (corner_wt t).2.1 (by omega) (by omega) (by omega) (by omega)
    · exact ovl_of hv hw (corner_wt t).2.2 (by omega) (by omega) (by omega) (by omega)

end Go.Proofs.Ytandgbpbabmdfaa
