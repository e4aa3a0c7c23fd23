import Derived.Test.YtandgbpbabmdfaaT3
namespace Go.Proofs.Ytandgbpbabmdfaa
open Go.RowKit

set_option maxHeartbeats 1000000 in
set_option maxRecDepth 100000 in
theorem ori52 (px py qx qy rx ry : Int) (w : World) :
    Calls Try.prog 52 #[.agg #[.int .i64 px, .int .i64 py], .agg #[.int .i64 qx, .int .i64 qy], .agg #[.int .i64 rx, .int .i64 ry]] w fun e w' => e = .returned (.int .i64 (ori ⟨px, py⟩ ⟨qx, qy⟩ ⟨rx, ry⟩)) ∧ Below w.heap.size w w' := by
  by_cases hv : val ⟨px, py⟩ = true ∧ val ⟨qx, qy⟩ = true ∧ val ⟨rx, ry⟩ = true
  · obtain ⟨va, vb, vc⟩ := hv
    have H : cmpI ((qx - px) * (ry - py)) ((qy - py) * (rx - px)) = ori ⟨px, py⟩ ⟨qx, qy⟩ ⟨rx, ry⟩ := by rw [ori_valid va vb vc, cmpI_sub]; rfl
    replace H := Lib.hid H
    obtain ⟨a1, a2, a3, a4⟩ := val_xy va
    obtain ⟨b1, b2, b3, b4⟩ := val_xy vb
    obtain ⟨c1, c2, c3, c4⟩ := val_xy vc
    obtain ⟨m1, m2⟩ := mul_bd (a := qx - px) (b := ry - py) (by omega) (by omega) (by omega) (by omega)
    obtain ⟨m3, m4⟩ := mul_bd (a := qy - py) (b := rx - px) (by omega) (by omega) (by omega) (by omega)
    go_enter Try.func52, Try.ntmps52
    go_wp2_with (first | (go_at_call 69; refine (all3 _ _ px py qx qy rx ry _ (by go_simp) (by go_simp) (by go_simp) (by go_simp) (by go_simp) (by go_simp)).mono ?_; rintro e w1 ⟨rfl, hb⟩; obtain ⟨hc, hf, hz⟩ := aft hb) | (go_at_call 68; refine (compare_calls _ _ _).mono ?_; rintro e w' ⟨rfl, rfl⟩))
    go_ret
    exact ⟨ri H.out, by repeat (first | exact Below.refl _ _ | apply bd | apply ba | refine bt ?_ ‹_›)⟩
  · have hv' : (val ⟨px, py⟩ && val ⟨qx, qy⟩ && val ⟨rx, ry⟩) = false := by
      rw [Bool.eq_false_iff]; intro h; simp only [Bool.and_eq_true] at h; exact hv ⟨h.1.1, h.1.2, h.2⟩
    have H : ori ⟨px, py⟩ ⟨qx, qy⟩ ⟨rx, ry⟩ = 0 := by unfold ori; rw [if_neg hv]
    replace H := Lib.hid H
    clear hv
    go_enter Try.func52, Try.ntmps52
    go_wp2_with (first | (go_at_call 69; refine (all3 _ _ px py qx qy rx ry _ (by go_simp) (by go_simp) (by go_simp) (by go_simp) (by go_simp) (by go_simp)).mono ?_; rw [hv']; rintro e w1 ⟨rfl, hb⟩; obtain ⟨hc, hf, hz⟩ := aft hb))
    go_ret
    exact ⟨ri H.out.symm, by repeat (first | exact Below.refl _ _ | apply bd | apply ba | refine bt ?_ ‹_›)⟩

set_option maxHeartbeats 1000000 in
set_option maxRecDepth 100000 in
theorem tw61 (a0 a1 b0 b1 c0 c1 : Int) (w : World) (va : val ⟨a0, a1⟩ = true) (vb : val ⟨b0, b1⟩ = true) (vc : val ⟨c0, c1⟩ = true) :
    Calls Try.prog 61 #[.agg #[.int .i64 a0, .int .i64 a1], .agg #[.int .i64 b0, .int .i64 b1], .agg #[.int .i64 c0, .int .i64 c1]] w fun e w' => e = .returned (.int .i64 (tw ⟨a0, a1⟩ ⟨b0, b1⟩ ⟨c0, c1⟩)) ∧ Below w.heap.size w w' := by
  obtain ⟨x1, x2, x3, x4⟩ := val_xy va
  obtain ⟨y1, y2, y3, y4⟩ := val_xy vb
  obtain ⟨u1, u2, u3, u4⟩ := val_xy vc
  obtain ⟨m1, m2⟩ := mul_bd (a := b0 - a0) (b := c1 - a1) (by omega) (by omega) (by omega) (by omega)
  obtain ⟨m3, m4⟩ := mul_bd (a := b1 - a1) (b := c0 - a0) (by omega) (by omega) (by omega) (by omega)
  clear va vb vc
  go_enter Try.func61, Try.ntmps61
  go_wp2
  go_ret
  exact ⟨rfl, by repeat (first | (with_reducible exact Below.refl _ _) | (with_reducible assumption) | (with_reducible apply bd) | (with_reducible apply ba) | (with_reducible refine bs ?_ (by first | (simp; done) | (simp; omega)) _) | (with_reducible refine bt ?_ ‹_›))⟩

set_option maxHeartbeats 1000000 in
set_option maxRecDepth 100000 in
theorem sign62 (n : Int) (w : World) : Calls Try.prog 62 #[.int .i64 n] w fun e w' => e = .returned (.int .i64 (cmpI n 0)) ∧ w = w' := by
  rcases Int.lt_trichotomy n 0 with h | h | h
  · have H := Lib.hid (cmpI_lt h)
    have h1 : decide (n < 0) = true := decide_eq_true h
    clear h
    go_enter Try.func62, Try.ntmps62
    go_wp2
    go_ret
    exact ⟨by rw [H.out]; rfl, rfl⟩
  · have H := Lib.hid (cmpI_eq h)
    have h1 : decide (n < 0) = false := decide_eq_false (by omega)
    have h2 : decide (0 < n) = false := decide_eq_false (by omega)
    clear h
    go_enter Try.func62, Try.ntmps62
    go_wp2
    go_ret
    exact ⟨by rw [H.out]; rfl, rfl⟩
  · have H := Lib.hid (cmpI_gt h)
    have h1 : decide (n < 0) = false := decide_eq_false (by omega)
    have h2 : decide (0 < n) = true := decide_eq_true h
    clear h
    go_enter Try.func62, Try.ntmps62
    go_wp2
    go_ret
    exact ⟨by rw [H.out]; rfl, rfl⟩

set_option maxHeartbeats 1000000 in
set_option maxRecDepth 100000 in
theorem ori37 (a0 a1 b0 b1 c0 c1 : Int) (w : World) :
    Calls Try.prog 37 #[.agg #[.int .i64 a0, .int .i64 a1], .agg #[.int .i64 b0, .int .i64 b1], .agg #[.int .i64 c0, .int .i64 c1]] w fun e w' => e = .returned (.int .i64 (ori ⟨a0, a1⟩ ⟨b0, b1⟩ ⟨c0, c1⟩)) ∧ Below w.heap.size w w' := by
  cases va : val ⟨a0, a1⟩
  · have H := Lib.hid (ori_not (a := ⟨a0, a1⟩) (b := ⟨b0, b1⟩) (c := ⟨c0, c1⟩) (.inl va))
    go_enter Try.func37, Try.ntmps37
    go_wp2_with (go_at_call 48; refine (valid48 _ _ _).mono ?_; rintro e w1 ⟨rfl, hb⟩; (with_reducible (repeat replace hb := undr hb)); obtain ⟨hc, hf, hz⟩ := aft hb; have z0 : w.heap.size < w1.heap.size := (by (try simp at hz); omega); have n0 : ¬ w.heap.size = w1.heap.size := (by omega); have z1 : w.heap.size + 1 < w1.heap.size := (by (try simp at hz); omega); have n1 : ¬ w.heap.size + 1 = w1.heap.size := (by omega); have z2 : w.heap.size + 1 + 1 < w1.heap.size := (by (try simp at hz); omega); have n2 : ¬ w.heap.size + 1 + 1 = w1.heap.size := (by omega); clear hz)
    go_ret
    exact ⟨ri H.out.symm, by repeat (first | (with_reducible exact Below.refl _ _) | (with_reducible assumption) | (with_reducible apply bd) | (with_reducible apply ba) | (with_reducible refine bs ?_ (by first | (simp; done) | (simp; omega)) _) | (with_reducible refine bt ?_ ‹_›))⟩
  · cases vb : val ⟨b0, b1⟩
    · have H := Lib.hid (ori_not (a := ⟨a0, a1⟩) (b := ⟨b0, b1⟩) (c := ⟨c0, c1⟩) (.inr (.inl vb)))
      go_enter Try.func37, Try.ntmps37
      go_wp2_with (go_at_call 48; refine (valid48 _ _ _).mono ?_; rintro e w1 ⟨rfl, hb⟩; (with_reducible (repeat replace hb := undr hb)); obtain ⟨hc, hf, hz⟩ := aft hb; have z0 : w.heap.size < w1.heap.size := (by (try simp at hz); omega); have n0 : ¬ w.heap.size = w1.heap.size := (by omega); have z1 : w.heap.size + 1 < w1.heap.size := (by (try simp at hz); omega); have n1 : ¬ w.heap.size + 1 = w1.heap.size := (by omega); have z2 : w.heap.size + 1 + 1 < w1.heap.size := (by (try simp at hz); omega); have n2 : ¬ w.heap.size + 1 + 1 = w1.heap.size := (by omega); clear hz)
      go_ret
      exact ⟨ri H.out.symm, by repeat (first | (with_reducible exact Below.refl _ _) | (with_reducible assumption) | (with_reducible apply bd) | (with_reducible apply ba) | (with_reducible refine bs ?_ (by first | (simp; done) | (simp; omega)) _) | (with_reducible refine bt ?_ ‹_›))⟩
    · cases vc : val ⟨c0, c1⟩
      · have H := Lib.hid (ori_not (a := ⟨a0, a1⟩) (b := ⟨b0, b1⟩) (c := ⟨c0, c1⟩) (.inr (.inr vc)))
        go_enter Try.func37, Try.ntmps37
        go_wp2_with (go_at_call 48; refine (valid48 _ _ _).mono ?_; rintro e w1 ⟨rfl, hb⟩; (with_reducible (repeat replace hb := undr hb)); obtain ⟨hc, hf, hz⟩ := aft hb; have z0 : w.heap.size < w1.heap.size := (by (try simp at hz); omega); have n0 : ¬ w.heap.size = w1.heap.size := (by omega); have z1 : w.heap.size + 1 < w1.heap.size := (by (try simp at hz); omega); have n1 : ¬ w.heap.size + 1 = w1.heap.size := (by omega); have z2 : w.heap.size + 1 + 1 < w1.heap.size := (by (try simp at hz); omega); have n2 : ¬ w.heap.size + 1 + 1 = w1.heap.size := (by omega); clear hz)
        go_ret
        exact ⟨ri H.out.symm, by repeat (first | (with_reducible exact Below.refl _ _) | (with_reducible assumption) | (with_reducible apply bd) | (with_reducible apply ba) | (with_reducible refine bs ?_ (by first | (simp; done) | (simp; omega)) _) | (with_reducible refine bt ?_ ‹_›))⟩
      · have H := Lib.hid (ori_valid va vb vc)
        have T := Lib.hid (tw61 a0 a1 b0 b1 c0 c1 (va := va) (vb := vb) (vc := vc))
        go_enter Try.func37, Try.ntmps37
        go_wp2_with (first | (go_at_call 48; refine (valid48 _ _ _).mono ?_; rintro e w1 ⟨rfl, hb⟩; (with_reducible (repeat replace hb := undr hb)); obtain ⟨hc, hf, hz⟩ := aft hb; have z0 : w.heap.size < w1.heap.size := (by (try simp at hz); omega); have n0 : ¬ w.heap.size = w1.heap.size := (by omega); have z1 : w.heap.size + 1 < w1.heap.size := (by (try simp at hz); omega); have n1 : ¬ w.heap.size + 1 = w1.heap.size := (by omega); have z2 : w.heap.size + 1 + 1 < w1.heap.size := (by (try simp at hz); omega); have n2 : ¬ w.heap.size + 1 + 1 = w1.heap.size := (by omega); clear hz) | (go_at_call 61; refine (T.out _).mono ?_; rintro e w1 ⟨rfl, hb⟩; (with_reducible (repeat replace hb := undr hb)); obtain ⟨hc, hf, hz⟩ := aft hb; have z0 : w.heap.size < w1.heap.size := (by (try simp at hz); omega); have n0 : ¬ w.heap.size = w1.heap.size := (by omega); have z1 : w.heap.size + 1 < w1.heap.size := (by (try simp at hz); omega); have n1 : ¬ w.heap.size + 1 = w1.heap.size := (by omega); have z2 : w.heap.size + 1 + 1 < w1.heap.size := (by (try simp at hz); omega); have n2 : ¬ w.heap.size + 1 + 1 = w1.heap.size := (by omega); clear hz) | (go_at_call 62; refine (sign62 _ _).mono ?_; rintro e w' ⟨rfl, rfl⟩))
        go_ret
        exact ⟨ri H.out.symm, by repeat (first | (with_reducible exact Below.refl _ _) | (with_reducible assumption) | (with_reducible apply bd) | (with_reducible apply ba) | (with_reducible refine bs ?_ (by first | (simp; done) | (simp; omega)) _) | (with_reducible refine bt ?_ ‹_›))⟩

end Go.Proofs.Ytandgbpbabmdfaa
