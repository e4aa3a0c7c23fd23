import Derived.Test.YtandgbpbabmdfaaMm
namespace Go.Proofs.Ytandgbpbabmdfaa
open Go.RowKit
attribute [local go_sem high] eq23 eq25 mn_two mx_two mn_three mx_three mx_four

set_option maxHeartbeats 1000000 in
set_option maxRecDepth 100000 in
theorem least60_no (a0 a1 b0 b1 c0 c1 d0 d1 : Int) (w : World) (h : (valT ⟨⟨a0, a1⟩, ⟨b0, b1⟩, ⟨c0, c1⟩⟩ && val ⟨d0, d1⟩) = false) :
    Calls Try.prog 60 #[.agg #[.int .i64 a0, .int .i64 a1, .int .i64 b0, .int .i64 b1, .int .i64 c0, .int .i64 c1], .agg #[.int .i64 d0, .int .i64 d1]] w fun e w' => e = .returned (.int .i64 (-1)) ∧ Below w.heap.size w w' := by
  cases v1 : valT ⟨⟨a0, a1⟩, ⟨b0, b1⟩, ⟨c0, c1⟩⟩
  · clear h
    go_enter Try.func60, Try.ntmps60
    go_wp2_with (go_at_call 24; refine (valT24 _ _ _ _ _ _ _).mono ?_; rintro e w1 ⟨rfl, hb⟩; (with_reducible (repeat replace hb := undr hb)); obtain ⟨hc, hf, hz⟩ := aft hb; have z0 : w.heap.size < w1.heap.size := (by (try simp at hz); omega); have n0 : ¬ w.heap.size = w1.heap.size := (by omega); have z1 : w.heap.size + 1 < w1.heap.size := (by (try simp at hz); omega); have n1 : ¬ w.heap.size + 1 = w1.heap.size := (by omega); clear hz)
    go_ret
    exact ⟨rfl, by repeat (first | (with_reducible exact Below.refl _ _) | (with_reducible assumption) | (with_reducible apply bd) | (with_reducible apply ba) | (with_reducible refine bs ?_ (by first | (simp; done) | (simp; omega)) _) | (with_reducible refine bt ?_ ‹_›))⟩
  · have v2 : val ⟨d0, d1⟩ = false := by rw [v1] at h; simpa using h
    clear h
    go_enter Try.func60, Try.ntmps60
    go_wp2_with (first | (go_at_call 24; refine (valT24 _ _ _ _ _ _ _).mono ?_; rintro e w1 ⟨rfl, hb⟩; (with_reducible (repeat replace hb := undr hb)); obtain ⟨hc, hf, hz⟩ := aft hb; have z0 : w.heap.size < w1.heap.size := (by (try simp at hz); omega); have n0 : ¬ w.heap.size = w1.heap.size := (by omega); have z1 : w.heap.size + 1 < w1.heap.size := (by (try simp at hz); omega); have n1 : ¬ w.heap.size + 1 = w1.heap.size := (by omega); clear hz) | (go_at_call 49; refine (valid49 _ _ _).mono ?_; rintro e w1 ⟨rfl, hb⟩; (with_reducible (repeat replace hb := undr hb)); obtain ⟨hc, hf, hz⟩ := aft hb; have z0 : w.heap.size < w1.heap.size := (by (try simp at hz); omega); have n0 : ¬ w.heap.size = w1.heap.size := (by omega); have z1 : w.heap.size + 1 < w1.heap.size := (by (try simp at hz); omega); have n1 : ¬ w.heap.size + 1 = w1.heap.size := (by omega); clear hz))
    go_ret
    exact ⟨rfl, by repeat (first | (with_reducible exact Below.refl _ _) | (with_reducible assumption) | (with_reducible apply bd) | (with_reducible apply ba) | (with_reducible refine bs ?_ (by first | (simp; done) | (simp; omega)) _) | (with_reducible refine bt ?_ ‹_›))⟩

set_option maxHeartbeats 1000000 in
set_option maxRecDepth 100000 in
theorem least60_yes (a0 a1 b0 b1 c0 c1 d0 d1 : Int) (w : World) (v1 : valT ⟨⟨a0, a1⟩, ⟨b0, b1⟩, ⟨c0, c1⟩⟩ = true) (v2 : val ⟨d0, d1⟩ = true) :
    Calls Try.prog 60 #[.agg #[.int .i64 a0, .int .i64 a1, .int .i64 b0, .int .i64 b1, .int .i64 c0, .int .i64 c1], .agg #[.int .i64 d0, .int .i64 d1]] w fun e w' => e = .returned (.int .i64 (mn (mn (ori ⟨a0, a1⟩ ⟨b0, b1⟩ ⟨d0, d1⟩) (ori ⟨b0, b1⟩ ⟨c0, c1⟩ ⟨d0, d1⟩)) (ori ⟨c0, c1⟩ ⟨a0, a1⟩ ⟨d0, d1⟩))) ∧ Below w.heap.size w w' := by
  go_enter Try.func60, Try.ntmps60
  go_wp2_with (first | (go_at_call 24; refine (valT24 _ _ _ _ _ _ _).mono ?_; rintro e w1 ⟨rfl, hb⟩; (with_reducible (repeat replace hb := undr hb)); obtain ⟨hc, hf, hz⟩ := aft hb; have z0 : w.heap.size < w1.heap.size := (by (try simp at hz); omega); have n0 : ¬ w.heap.size = w1.heap.size := (by omega); have z1 : w.heap.size + 1 < w1.heap.size := (by (try simp at hz); omega); have n1 : ¬ w.heap.size + 1 = w1.heap.size := (by omega); clear hz) | (go_at_call 49; refine (valid49 _ _ _).mono ?_; rintro e w1 ⟨rfl, hb⟩; (with_reducible (repeat replace hb := undr hb)); obtain ⟨hc, hf, hz⟩ := aft hb; have z0 : w.heap.size < w1.heap.size := (by (try simp at hz); omega); have n0 : ¬ w.heap.size = w1.heap.size := (by omega); have z1 : w.heap.size + 1 < w1.heap.size := (by (try simp at hz); omega); have n1 : ¬ w.heap.size + 1 = w1.heap.size := (by omega); clear hz))
  go_region_held3 (fun w' => w'.cell? ⟨w.heap.size, 0, none⟩ = some (.int .i64 a0) ∧ w'.cell? ⟨w.heap.size, 1, none⟩ = some (.int .i64 a1) ∧ w'.cell? ⟨w.heap.size, 2, none⟩ = some (.int .i64 b0) ∧ w'.cell? ⟨w.heap.size, 3, none⟩ = some (.int .i64 b1) ∧ w'.cell? ⟨w.heap.size, 4, none⟩ = some (.int .i64 c0) ∧ w'.cell? ⟨w.heap.size, 5, none⟩ = some (.int .i64 c1) ∧ w'.cell? ⟨w.heap.size + 1, 0, none⟩ = some (.int .i64 d0) ∧ w'.cell? ⟨w.heap.size + 1, 1, none⟩ = some (.int .i64 d1)) ((repeat' apply And.intro) <;> go_simp) (first | (go_at_call 52; refine (ori52 _ _ _ _ _ _ _).mono ?_; rintro e w1 ⟨rfl, hb⟩; (with_reducible (repeat replace hb := undr hb)); obtain ⟨hc, hf, hz⟩ := aft hb; have z0 : w.heap.size < w1.heap.size := (by (try simp at hz); omega); have n0 : ¬ w.heap.size = w1.heap.size := (by omega); have z1 : w.heap.size + 1 < w1.heap.size := (by (try simp at hz); omega); have n1 : ¬ w.heap.size + 1 = w1.heap.size := (by omega); clear hz))
  all_goals
    go_wp2
    go_ret
    exact ⟨rfl, by repeat (first | (with_reducible exact Below.refl _ _) | (with_reducible assumption) | (with_reducible apply bd) | (with_reducible apply ba) | (with_reducible refine bs ?_ (by first | (simp; done) | (simp; omega)) _) | (with_reducible refine bt ?_ ‹_›))⟩

set_option maxHeartbeats 1000000 in
set_option maxRecDepth 100000 in
theorem has30 (a0 a1 b0 b1 c0 c1 d0 d1 : Int) (w : World) :
    Calls Try.prog 30 #[.agg #[.int .i64 a0, .int .i64 a1, .int .i64 b0, .int .i64 b1, .int .i64 c0, .int .i64 c1], .agg #[.int .i64 d0, .int .i64 d1]] w fun e w' => e = .returned (.bool (has ⟨⟨a0, a1⟩, ⟨b0, b1⟩, ⟨c0, c1⟩⟩ ⟨d0, d1⟩)) ∧ Below w.heap.size w w' := by
  cases h : (valT ⟨⟨a0, a1⟩, ⟨b0, b1⟩, ⟨c0, c1⟩⟩ && val ⟨d0, d1⟩)
  · have H := Lib.hid (has_no h)
    replace h := Lib.hid h
    go_enter Try.func30, Try.ntmps30
    go_wp2_with (go_at_call 60; refine (least60_no _ _ _ _ _ _ _ _ _ h.out).mono ?_; rintro e w1 ⟨rfl, hb⟩)
    go_ret
    exact ⟨rb H.out.symm, by repeat (first | (with_reducible exact Below.refl _ _) | (with_reducible assumption) | (with_reducible apply bd) | (with_reducible apply ba) | (with_reducible refine bs ?_ (by first | (simp; done) | (simp; omega)) _) | (with_reducible refine bt ?_ ‹_›))⟩
  · obtain ⟨v1, v2⟩ := Bool.and_eq_true_iff.mp h
    have H := has_yes (t := ⟨⟨a0, a1⟩, ⟨b0, b1⟩, ⟨c0, c1⟩⟩) (p := ⟨d0, d1⟩) v1 v2
    dsimp only at H
    replace H := Lib.hid H
    replace v1 := Lib.hid v1
    replace v2 := Lib.hid v2
    clear h
    go_enter Try.func30, Try.ntmps30
    go_wp2_with (go_at_call 60; refine (least60_yes _ _ _ _ _ _ _ _ _ v1.out v2.out).mono ?_; rintro e w1 ⟨rfl, hb⟩)
    go_ret
    exact ⟨rb (by rw [H.out, Bool.eq_iff_iff]; simp only [decide_eq_true_eq, Bool.and_eq_true, mn_eq]; omega), by repeat (first | (with_reducible exact Below.refl _ _) | (with_reducible assumption) | (with_reducible apply bd) | (with_reducible apply ba) | (with_reducible refine bs ?_ (by first | (simp; done) | (simp; omega)) _) | (with_reducible refine bt ?_ ‹_›))⟩

set_option maxHeartbeats 1000000 in
set_option maxRecDepth 100000 in
theorem ins32 (a0 a1 b0 b1 c0 c1 d0 d1 : Int) (w : World) :
    Calls Try.prog 32 #[.agg #[.int .i64 a0, .int .i64 a1, .int .i64 b0, .int .i64 b1, .int .i64 c0, .int .i64 c1], .agg #[.int .i64 d0, .int .i64 d1]] w fun e w' => e = .returned (.bool (ins ⟨⟨a0, a1⟩, ⟨b0, b1⟩, ⟨c0, c1⟩⟩ ⟨d0, d1⟩)) ∧ Below w.heap.size w w' := by
  cases h : (valT ⟨⟨a0, a1⟩, ⟨b0, b1⟩, ⟨c0, c1⟩⟩ && val ⟨d0, d1⟩)
  · have H := Lib.hid (ins_no h)
    replace h := Lib.hid h
    go_enter Try.func32, Try.ntmps32
    go_wp2_with (go_at_call 60; refine (least60_no _ _ _ _ _ _ _ _ _ h.out).mono ?_; rintro e w1 ⟨rfl, hb⟩)
    go_ret
    exact ⟨rb H.out.symm, by repeat (first | (with_reducible exact Below.refl _ _) | (with_reducible assumption) | (with_reducible apply bd) | (with_reducible apply ba) | (with_reducible refine bs ?_ (by first | (simp; done) | (simp; omega)) _) | (with_reducible refine bt ?_ ‹_›))⟩
  · obtain ⟨v1, v2⟩ := Bool.and_eq_true_iff.mp h
    have H := ins_yes (t := ⟨⟨a0, a1⟩, ⟨b0, b1⟩, ⟨c0, c1⟩⟩) (p := ⟨d0, d1⟩) v1
    dsimp only at H
    replace H := Lib.hid H
    replace v1 := Lib.hid v1
    replace v2 := Lib.hid v2
    clear h
    go_enter Try.func32, Try.ntmps32
    go_wp2_with (go_at_call 60; refine (least60_yes _ _ _ _ _ _ _ _ _ v1.out v2.out).mono ?_; rintro e w1 ⟨rfl, hb⟩)
    go_ret
    exact ⟨rb (by rw [H.out, Bool.eq_iff_iff]; simp only [decide_eq_true_eq, Bool.and_eq_true, mn_eq]; omega), by repeat (first | (with_reducible exact Below.refl _ _) | (with_reducible assumption) | (with_reducible apply bd) | (with_reducible apply ba) | (with_reducible refine bs ?_ (by first | (simp; done) | (simp; omega)) _) | (with_reducible refine bt ?_ ‹_›))⟩

set_option maxHeartbeats 1000000 in
set_option maxRecDepth 100000 in
theorem has31 (a0 a1 b0 b1 c0 c1 d0 d1 : Int) (w : World) :
    Calls Try.prog 31 #[.agg #[.int .i64 a0, .int .i64 a1, .int .i64 b0, .int .i64 b1, .int .i64 c0, .int .i64 c1], .agg #[.int .i64 d0, .int .i64 d1]] w fun e w' => e = .returned (.bool (has ⟨⟨a0, a1⟩, ⟨b0, b1⟩, ⟨c0, c1⟩⟩ ⟨d0, d1⟩)) ∧ Below w.heap.size w w' := by
  cases v1 : valT ⟨⟨a0, a1⟩, ⟨b0, b1⟩, ⟨c0, c1⟩⟩
  · have H := Lib.hid (has_no (p := ⟨d0, d1⟩) (show (valT ⟨⟨a0, a1⟩, ⟨b0, b1⟩, ⟨c0, c1⟩⟩ && val ⟨d0, d1⟩) = false by rw [v1]; rfl))
    go_enter Try.func31, Try.ntmps31
    go_wp2_with (first | (go_at_call 25; refine (valT25 _ _ _ _ _ _ _).mono ?_; rintro e w1 ⟨rfl, hb⟩; (with_reducible (repeat replace hb := undr hb)); obtain ⟨hc, hf, hz⟩ := aft hb; have z0 : w.heap.size < w1.heap.size := (by (try simp at hz); omega); have n0 : ¬ w.heap.size = w1.heap.size := (by omega); have z1 : w.heap.size + 1 < w1.heap.size := (by (try simp at hz); omega); have n1 : ¬ w.heap.size + 1 = w1.heap.size := (by omega); clear hz) | (go_at_call 48; refine (valid48 _ _ _).mono ?_; rintro e w1 ⟨rfl, hb⟩; (with_reducible (repeat replace hb := undr hb)); obtain ⟨hc, hf, hz⟩ := aft hb; have z0 : w.heap.size < w1.heap.size := (by (try simp at hz); omega); have n0 : ¬ w.heap.size = w1.heap.size := (by omega); have z1 : w.heap.size + 1 < w1.heap.size := (by (try simp at hz); omega); have n1 : ¬ w.heap.size + 1 = w1.heap.size := (by omega); clear hz) | (go_at_call 37; refine (ori37 _ _ _ _ _ _ _).mono ?_; rintro e w1 ⟨rfl, hb⟩; (with_reducible (repeat replace hb := undr hb)); obtain ⟨hc, hf, hz⟩ := aft hb; have z0 : w.heap.size < w1.heap.size := (by (try simp at hz); omega); have n0 : ¬ w.heap.size = w1.heap.size := (by omega); have z1 : w.heap.size + 1 < w1.heap.size := (by (try simp at hz); omega); have n1 : ¬ w.heap.size + 1 = w1.heap.size := (by omega); clear hz))
    go_ret
    exact ⟨rb H.out.symm, by repeat (first | (with_reducible exact Below.refl _ _) | (with_reducible assumption) | (with_reducible apply bd) | (with_reducible apply ba) | (with_reducible refine bs ?_ (by first | (simp; done) | (simp; omega)) _) | (with_reducible refine bt ?_ ‹_›))⟩
  · cases v2 : val ⟨d0, d1⟩
    · have H := Lib.hid (has_no (t := ⟨⟨a0, a1⟩, ⟨b0, b1⟩, ⟨c0, c1⟩⟩) (p := ⟨d0, d1⟩) (show (valT ⟨⟨a0, a1⟩, ⟨b0, b1⟩, ⟨c0, c1⟩⟩ && val ⟨d0, d1⟩) = false by rw [v1, v2]; rfl))
      go_enter Try.func31, Try.ntmps31
      go_wp2_with (first | (go_at_call 25; refine (valT25 _ _ _ _ _ _ _).mono ?_; rintro e w1 ⟨rfl, hb⟩; (with_reducible (repeat replace hb := undr hb)); obtain ⟨hc, hf, hz⟩ := aft hb; have z0 : w.heap.size < w1.heap.size := (by (try simp at hz); omega); have n0 : ¬ w.heap.size = w1.heap.size := (by omega); have z1 : w.heap.size + 1 < w1.heap.size := (by (try simp at hz); omega); have n1 : ¬ w.heap.size + 1 = w1.heap.size := (by omega); clear hz) | (go_at_call 48; refine (valid48 _ _ _).mono ?_; rintro e w1 ⟨rfl, hb⟩; (with_reducible (repeat replace hb := undr hb)); obtain ⟨hc, hf, hz⟩ := aft hb; have z0 : w.heap.size < w1.heap.size := (by (try simp at hz); omega); have n0 : ¬ w.heap.size = w1.heap.size := (by omega); have z1 : w.heap.size + 1 < w1.heap.size := (by (try simp at hz); omega); have n1 : ¬ w.heap.size + 1 = w1.heap.size := (by omega); clear hz) | (go_at_call 37; refine (ori37 _ _ _ _ _ _ _).mono ?_; rintro e w1 ⟨rfl, hb⟩; (with_reducible (repeat replace hb := undr hb)); obtain ⟨hc, hf, hz⟩ := aft hb; have z0 : w.heap.size < w1.heap.size := (by (try simp at hz); omega); have n0 : ¬ w.heap.size = w1.heap.size := (by omega); have z1 : w.heap.size + 1 < w1.heap.size := (by (try simp at hz); omega); have n1 : ¬ w.heap.size + 1 = w1.heap.size := (by omega); clear hz))
      go_ret
      exact ⟨rb H.out.symm, by repeat (first | (with_reducible exact Below.refl _ _) | (with_reducible assumption) | (with_reducible apply bd) | (with_reducible apply ba) | (with_reducible refine bs ?_ (by first | (simp; done) | (simp; omega)) _) | (with_reducible refine bt ?_ ‹_›))⟩
    · have HH := has_yes v1 v2
      dsimp only at HH
      cases x1 : decide (0 ≤ ori ⟨a0, a1⟩ ⟨b0, b1⟩ ⟨d0, d1⟩)
      · have H := Lib.hid (show has ⟨⟨a0, a1⟩, ⟨b0, b1⟩, ⟨c0, c1⟩⟩ ⟨d0, d1⟩ = false by rw [HH, x1]; simp)
        clear HH
        go_enter Try.func31, Try.ntmps31
        go_wp2_with (first | (go_at_call 25; refine (valT25 _ _ _ _ _ _ _).mono ?_; rintro e w1 ⟨rfl, hb⟩; (with_reducible (repeat replace hb := undr hb)); obtain ⟨hc, hf, hz⟩ := aft hb; have z0 : w.heap.size < w1.heap.size := (by (try simp at hz); omega); have n0 : ¬ w.heap.size = w1.heap.size := (by omega); have z1 : w.heap.size + 1 < w1.heap.size := (by (try simp at hz); omega); have n1 : ¬ w.heap.size + 1 = w1.heap.size := (by omega); clear hz) | (go_at_call 48; refine (valid48 _ _ _).mono ?_; rintro e w1 ⟨rfl, hb⟩; (with_reducible (repeat replace hb := undr hb)); obtain ⟨hc, hf, hz⟩ := aft hb; have z0 : w.heap.size < w1.heap.size := (by (try simp at hz); omega); have n0 : ¬ w.heap.size = w1.heap.size := (by omega); have z1 : w.heap.size + 1 < w1.heap.size := (by (try simp at hz); omega); have n1 : ¬ w.heap.size + 1 = w1.heap.size := (by omega); clear hz) | (go_at_call 37; refine (ori37 _ _ _ _ _ _ _).mono ?_; rintro e w1 ⟨rfl, hb⟩; (with_reducible (repeat replace hb := undr hb)); obtain ⟨hc, hf, hz⟩ := aft hb; have z0 : w.heap.size < w1.heap.size := (by (try simp at hz); omega); have n0 : ¬ w.heap.size = w1.heap.size := (by omega); have z1 : w.heap.size + 1 < w1.heap.size := (by (try simp at hz); omega); have n1 : ¬ w.heap.size + 1 = w1.heap.size := (by omega); clear hz))
        go_ret
        exact ⟨rb H.out.symm, by repeat (first | (with_reducible exact Below.refl _ _) | (with_reducible assumption) | (with_reducible apply bd) | (with_reducible apply ba) | (with_reducible refine bs ?_ (by first | (simp; done) | (simp; omega)) _) | (with_reducible refine bt ?_ ‹_›))⟩
      · skip
        cases x2 : decide (0 ≤ ori ⟨b0, b1⟩ ⟨c0, c1⟩ ⟨d0, d1⟩)
        · have H := Lib.hid (show has ⟨⟨a0, a1⟩, ⟨b0, b1⟩, ⟨c0, c1⟩⟩ ⟨d0, d1⟩ = false by rw [HH, x1, x2]; simp)
          clear HH
          go_enter Try.func31, Try.ntmps31
          go_wp2_with (first | (go_at_call 25; refine (valT25 _ _ _ _ _ _ _).mono ?_; rintro e w1 ⟨rfl, hb⟩; (with_reducible (repeat replace hb := undr hb)); obtain ⟨hc, hf, hz⟩ := aft hb; have z0 : w.heap.size < w1.heap.size := (by (try simp at hz); omega); have n0 : ¬ w.heap.size = w1.heap.size := (by omega); have z1 : w.heap.size + 1 < w1.heap.size := (by (try simp at hz); omega); have n1 : ¬ w.heap.size + 1 = w1.heap.size := (by omega); clear hz) | (go_at_call 48; refine (valid48 _ _ _).mono ?_; rintro e w1 ⟨rfl, hb⟩; (with_reducible (repeat replace hb := undr hb)); obtain ⟨hc, hf, hz⟩ := aft hb; have z0 : w.heap.size < w1.heap.size := (by (try simp at hz); omega); have n0 : ¬ w.heap.size = w1.heap.size := (by omega); have z1 : w.heap.size + 1 < w1.heap.size := (by (try simp at hz); omega); have n1 : ¬ w.heap.size + 1 = w1.heap.size := (by omega); clear hz) | (go_at_call 37; refine (ori37 _ _ _ _ _ _ _).mono ?_; rintro e w1 ⟨rfl, hb⟩; (with_reducible (repeat replace hb := undr hb)); obtain ⟨hc, hf, hz⟩ := aft hb; have z0 : w.heap.size < w1.heap.size := (by (try simp at hz); omega); have n0 : ¬ w.heap.size = w1.heap.size := (by omega); have z1 : w.heap.size + 1 < w1.heap.size := (by (try simp at hz); omega); have n1 : ¬ w.heap.size + 1 = w1.heap.size := (by omega); clear hz))
          go_ret
          exact ⟨rb H.out.symm, by repeat (first | (with_reducible exact Below.refl _ _) | (with_reducible assumption) | (with_reducible apply bd) | (with_reducible apply ba) | (with_reducible refine bs ?_ (by first | (simp; done) | (simp; omega)) _) | (with_reducible refine bt ?_ ‹_›))⟩
        · skip
          cases x3 : decide (0 ≤ ori ⟨c0, c1⟩ ⟨a0, a1⟩ ⟨d0, d1⟩)
          · have H := Lib.hid (show has ⟨⟨a0, a1⟩, ⟨b0, b1⟩, ⟨c0, c1⟩⟩ ⟨d0, d1⟩ = false by rw [HH, x1, x2, x3]; simp)
            clear HH
            go_enter Try.func31, Try.ntmps31
            go_wp2_with (first | (go_at_call 25; refine (valT25 _ _ _ _ _ _ _).mono ?_; rintro e w1 ⟨rfl, hb⟩; (with_reducible (repeat replace hb := undr hb)); obtain ⟨hc, hf, hz⟩ := aft hb; have z0 : w.heap.size < w1.heap.size := (by (try simp at hz); omega); have n0 : ¬ w.heap.size = w1.heap.size := (by omega); have z1 : w.heap.size + 1 < w1.heap.size := (by (try simp at hz); omega); have n1 : ¬ w.heap.size + 1 = w1.heap.size := (by omega); clear hz) | (go_at_call 48; refine (valid48 _ _ _).mono ?_; rintro e w1 ⟨rfl, hb⟩; (with_reducible (repeat replace hb := undr hb)); obtain ⟨hc, hf, hz⟩ := aft hb; have z0 : w.heap.size < w1.heap.size := (by (try simp at hz); omega); have n0 : ¬ w.heap.size = w1.heap.size := (by omega); have z1 : w.heap.size + 1 < w1.heap.size := (by (try simp at hz); omega); have n1 : ¬ w.heap.size + 1 = w1.heap.size := (by omega); clear hz) | (go_at_call 37; refine (ori37 _ _ _ _ _ _ _).mono ?_; rintro e w1 ⟨rfl, hb⟩; (with_reducible (repeat replace hb := undr hb)); obtain ⟨hc, hf, hz⟩ := aft hb; have z0 : w.heap.size < w1.heap.size := (by (try simp at hz); omega); have n0 : ¬ w.heap.size = w1.heap.size := (by omega); have z1 : w.heap.size + 1 < w1.heap.size := (by (try simp at hz); omega); have n1 : ¬ w.heap.size + 1 = w1.heap.size := (by omega); clear hz))
            go_ret
            exact ⟨rb H.out.symm, by repeat (first | (with_reducible exact Below.refl _ _) | (with_reducible assumption) | (with_reducible apply bd) | (with_reducible apply ba) | (with_reducible refine bs ?_ (by first | (simp; done) | (simp; omega)) _) | (with_reducible refine bt ?_ ‹_›))⟩
          · skip
            have H := Lib.hid (show has ⟨⟨a0, a1⟩, ⟨b0, b1⟩, ⟨c0, c1⟩⟩ ⟨d0, d1⟩ = true by rw [HH, x1, x2, x3]; rfl)
            clear HH
            go_enter Try.func31, Try.ntmps31
            go_wp2_with (first | (go_at_call 25; refine (valT25 _ _ _ _ _ _ _).mono ?_; rintro e w1 ⟨rfl, hb⟩; (with_reducible (repeat replace hb := undr hb)); obtain ⟨hc, hf, hz⟩ := aft hb; have z0 : w.heap.size < w1.heap.size := (by (try simp at hz); omega); have n0 : ¬ w.heap.size = w1.heap.size := (by omega); have z1 : w.heap.size + 1 < w1.heap.size := (by (try simp at hz); omega); have n1 : ¬ w.heap.size + 1 = w1.heap.size := (by omega); clear hz) | (go_at_call 48; refine (valid48 _ _ _).mono ?_; rintro e w1 ⟨rfl, hb⟩; (with_reducible (repeat replace hb := undr hb)); obtain ⟨hc, hf, hz⟩ := aft hb; have z0 : w.heap.size < w1.heap.size := (by (try simp at hz); omega); have n0 : ¬ w.heap.size = w1.heap.size := (by omega); have z1 : w.heap.size + 1 < w1.heap.size := (by (try simp at hz); omega); have n1 : ¬ w.heap.size + 1 = w1.heap.size := (by omega); clear hz) | (go_at_call 37; refine (ori37 _ _ _ _ _ _ _).mono ?_; rintro e w1 ⟨rfl, hb⟩; (with_reducible (repeat replace hb := undr hb)); obtain ⟨hc, hf, hz⟩ := aft hb; have z0 : w.heap.size < w1.heap.size := (by (try simp at hz); omega); have n0 : ¬ w.heap.size = w1.heap.size := (by omega); have z1 : w.heap.size + 1 < w1.heap.size := (by (try simp at hz); omega); have n1 : ¬ w.heap.size + 1 = w1.heap.size := (by omega); clear hz))
            go_ret
            exact ⟨rb H.out.symm, by repeat (first | (with_reducible exact Below.refl _ _) | (with_reducible assumption) | (with_reducible apply bd) | (with_reducible apply ba) | (with_reducible refine bs ?_ (by first | (simp; done) | (simp; omega)) _) | (with_reducible refine bt ?_ ‹_›))⟩

set_option maxHeartbeats 1000000 in
set_option maxRecDepth 100000 in
theorem ins33 (a0 a1 b0 b1 c0 c1 d0 d1 : Int) (w : World) :
    Calls Try.prog 33 #[.agg #[.int .i64 a0, .int .i64 a1, .int .i64 b0, .int .i64 b1, .int .i64 c0, .int .i64 c1], .agg #[.int .i64 d0, .int .i64 d1]] w fun e w' => e = .returned (.bool (ins ⟨⟨a0, a1⟩, ⟨b0, b1⟩, ⟨c0, c1⟩⟩ ⟨d0, d1⟩)) ∧ Below w.heap.size w w' := by
  cases v1 : valT ⟨⟨a0, a1⟩, ⟨b0, b1⟩, ⟨c0, c1⟩⟩
  · have H := Lib.hid (ins_no1 v1 (p := ⟨d0, d1⟩))
    go_enter Try.func33, Try.ntmps33
    go_wp2_with (first | (go_at_call 25; refine (valT25 _ _ _ _ _ _ _).mono ?_; rintro e w1 ⟨rfl, hb⟩; (with_reducible (repeat replace hb := undr hb)); obtain ⟨hc, hf, hz⟩ := aft hb; have z0 : w.heap.size < w1.heap.size := (by (try simp at hz); omega); have n0 : ¬ w.heap.size = w1.heap.size := (by omega); have z1 : w.heap.size + 1 < w1.heap.size := (by (try simp at hz); omega); have n1 : ¬ w.heap.size + 1 = w1.heap.size := (by omega); clear hz) | (go_at_call 48; refine (valid48 _ _ _).mono ?_; rintro e w1 ⟨rfl, hb⟩; (with_reducible (repeat replace hb := undr hb)); obtain ⟨hc, hf, hz⟩ := aft hb; have z0 : w.heap.size < w1.heap.size := (by (try simp at hz); omega); have n0 : ¬ w.heap.size = w1.heap.size := (by omega); have z1 : w.heap.size + 1 < w1.heap.size := (by (try simp at hz); omega); have n1 : ¬ w.heap.size + 1 = w1.heap.size := (by omega); clear hz) | (go_at_call 37; refine (ori37 _ _ _ _ _ _ _).mono ?_; rintro e w1 ⟨rfl, hb⟩; (with_reducible (repeat replace hb := undr hb)); obtain ⟨hc, hf, hz⟩ := aft hb; have z0 : w.heap.size < w1.heap.size := (by (try simp at hz); omega); have n0 : ¬ w.heap.size = w1.heap.size := (by omega); have z1 : w.heap.size + 1 < w1.heap.size := (by (try simp at hz); omega); have n1 : ¬ w.heap.size + 1 = w1.heap.size := (by omega); clear hz))
    go_ret
    exact ⟨rb H.out.symm, by repeat (first | (with_reducible exact Below.refl _ _) | (with_reducible assumption) | (with_reducible apply bd) | (with_reducible apply ba) | (with_reducible refine bs ?_ (by first | (simp; done) | (simp; omega)) _) | (with_reducible refine bt ?_ ‹_›))⟩
  · have HH := ins_yes (p := ⟨d0, d1⟩) v1
    dsimp only at HH
    cases x1 : decide (0 < ori ⟨a0, a1⟩ ⟨b0, b1⟩ ⟨d0, d1⟩)
    · have H := Lib.hid (show ins ⟨⟨a0, a1⟩, ⟨b0, b1⟩, ⟨c0, c1⟩⟩ ⟨d0, d1⟩ = false by rw [HH, x1]; simp)
      clear HH
      go_enter Try.func33, Try.ntmps33
      go_wp2_with (first | (go_at_call 25; refine (valT25 _ _ _ _ _ _ _).mono ?_; rintro e w1 ⟨rfl, hb⟩; (with_reducible (repeat replace hb := undr hb)); obtain ⟨hc, hf, hz⟩ := aft hb; have z0 : w.heap.size < w1.heap.size := (by (try simp at hz); omega); have n0 : ¬ w.heap.size = w1.heap.size := (by omega); have z1 : w.heap.size + 1 < w1.heap.size := (by (try simp at hz); omega); have n1 : ¬ w.heap.size + 1 = w1.heap.size := (by omega); clear hz) | (go_at_call 48; refine (valid48 _ _ _).mono ?_; rintro e w1 ⟨rfl, hb⟩; (with_reducible (repeat replace hb := undr hb)); obtain ⟨hc, hf, hz⟩ := aft hb; have z0 : w.heap.size < w1.heap.size := (by (try simp at hz); omega); have n0 : ¬ w.heap.size = w1.heap.size := (by omega); have z1 : w.heap.size + 1 < w1.heap.size := (by (try simp at hz); omega); have n1 : ¬ w.heap.size + 1 = w1.heap.size := (by omega); clear hz) | (go_at_call 37; refine (ori37 _ _ _ _ _ _ _).mono ?_; rintro e w1 ⟨rfl, hb⟩; (with_reducible (repeat replace hb := undr hb)); obtain ⟨hc, hf, hz⟩ := aft hb; have z0 : w.heap.size < w1.heap.size := (by (try simp at hz); omega); have n0 : ¬ w.heap.size = w1.heap.size := (by omega); have z1 : w.heap.size + 1 < w1.heap.size := (by (try simp at hz); omega); have n1 : ¬ w.heap.size + 1 = w1.heap.size := (by omega); clear hz))
      go_ret
      exact ⟨rb H.out.symm, by repeat (first | (with_reducible exact Below.refl _ _) | (with_reducible assumption) | (with_reducible apply bd) | (with_reducible apply ba) | (with_reducible refine bs ?_ (by first | (simp; done) | (simp; omega)) _) | (with_reducible refine bt ?_ ‹_›))⟩
    · skip
      cases x2 : decide (0 < ori ⟨b0, b1⟩ ⟨c0, c1⟩ ⟨d0, d1⟩)
      · have H := Lib.hid (show ins ⟨⟨a0, a1⟩, ⟨b0, b1⟩, ⟨c0, c1⟩⟩ ⟨d0, d1⟩ = false by rw [HH, x1, x2]; simp)
        clear HH
        go_enter Try.func33, Try.ntmps33
        go_wp2_with (first | (go_at_call 25; refine (valT25 _ _ _ _ _ _ _).mono ?_; rintro e w1 ⟨rfl, hb⟩; (with_reducible (repeat replace hb := undr hb)); obtain ⟨hc, hf, hz⟩ := aft hb; have z0 : w.heap.size < w1.heap.size := (by (try simp at hz); omega); have n0 : ¬ w.heap.size = w1.heap.size := (by omega); have z1 : w.heap.size + 1 < w1.heap.size := (by (try simp at hz); omega); have n1 : ¬ w.heap.size + 1 = w1.heap.size := (by omega); clear hz) | (go_at_call 48; refine (valid48 _ _ _).mono ?_; rintro e w1 ⟨rfl, hb⟩; (with_reducible (repeat replace hb := undr hb)); obtain ⟨hc, hf, hz⟩ := aft hb; have z0 : w.heap.size < w1.heap.size := (by (try simp at hz); omega); have n0 : ¬ w.heap.size = w1.heap.size := (by omega); have z1 : w.heap.size + 1 < w1.heap.size := (by (try simp at hz); omega); have n1 : ¬ w.heap.size + 1 = w1.heap.size := (by omega); clear hz) | (go_at_call 37; refine (ori37 _ _ _ _ _ _ _).mono ?_; rintro e w1 ⟨rfl, hb⟩; (with_reducible (repeat replace hb := undr hb)); obtain ⟨hc, hf, hz⟩ := aft hb; have z0 : w.heap.size < w1.heap.size := (by (try simp at hz); omega); have n0 : ¬ w.heap.size = w1.heap.size := (by omega); have z1 : w.heap.size + 1 < w1.heap.size := (by (try simp at hz); omega); have n1 : ¬ w.heap.size + 1 = w1.heap.size := (by omega); clear hz))
        go_ret
        exact ⟨rb H.out.symm, by repeat (first | (with_reducible exact Below.refl _ _) | (with_reducible assumption) | (with_reducible apply bd) | (with_reducible apply ba) | (with_reducible refine bs ?_ (by first | (simp; done) | (simp; omega)) _) | (with_reducible refine bt ?_ ‹_›))⟩
      · skip
        cases x3 : decide (0 < ori ⟨c0, c1⟩ ⟨a0, a1⟩ ⟨d0, d1⟩)
        · have H := Lib.hid (show ins ⟨⟨a0, a1⟩, ⟨b0, b1⟩, ⟨c0, c1⟩⟩ ⟨d0, d1⟩ = false by rw [HH, x1, x2, x3]; simp)
          clear HH
          go_enter Try.func33, Try.ntmps33
          go_wp2_with (first | (go_at_call 25; refine (valT25 _ _ _ _ _ _ _).mono ?_; rintro e w1 ⟨rfl, hb⟩; (with_reducible (repeat replace hb := undr hb)); obtain ⟨hc, hf, hz⟩ := aft hb; have z0 : w.heap.size < w1.heap.size := (by (try simp at hz); omega); have n0 : ¬ w.heap.size = w1.heap.size := (by omega); have z1 : w.heap.size + 1 < w1.heap.size := (by (try simp at hz); omega); have n1 : ¬ w.heap.size + 1 = w1.heap.size := (by omega); clear hz) | (go_at_call 48; refine (valid48 _ _ _).mono ?_; rintro e w1 ⟨rfl, hb⟩; (with_reducible (repeat replace hb := undr hb)); obtain ⟨hc, hf, hz⟩ := aft hb; have z0 : w.heap.size < w1.heap.size := (by (try simp at hz); omega); have n0 : ¬ w.heap.size = w1.heap.size := (by omega); have z1 : w.heap.size + 1 < w1.heap.size := (by (try simp at hz); omega); have n1 : ¬ w.heap.size + 1 = w1.heap.size := (by omega); clear hz) | (go_at_call 37; refine (ori37 _ _ _ _ _ _ _).mono ?_; rintro e w1 ⟨rfl, hb⟩; (with_reducible (repeat replace hb := undr hb)); obtain ⟨hc, hf, hz⟩ := aft hb; have z0 : w.heap.size < w1.heap.size := (by (try simp at hz); omega); have n0 : ¬ w.heap.size = w1.heap.size := (by omega); have z1 : w.heap.size + 1 < w1.heap.size := (by (try simp at hz); omega); have n1 : ¬ w.heap.size + 1 = w1.heap.size := (by omega); clear hz))
          go_ret
          exact ⟨rb H.out.symm, by repeat (first | (with_reducible exact Below.refl _ _) | (with_reducible assumption) | (with_reducible apply bd) | (with_reducible apply ba) | (with_reducible refine bs ?_ (by first | (simp; done) | (simp; omega)) _) | (with_reducible refine bt ?_ ‹_›))⟩
        · skip
          have H := Lib.hid (show ins ⟨⟨a0, a1⟩, ⟨b0, b1⟩, ⟨c0, c1⟩⟩ ⟨d0, d1⟩ = true by rw [HH, x1, x2, x3]; rfl)
          clear HH
          go_enter Try.func33, Try.ntmps33
          go_wp2_with (first | (go_at_call 25; refine (valT25 _ _ _ _ _ _ _).mono ?_; rintro e w1 ⟨rfl, hb⟩; (with_reducible (repeat replace hb := undr hb)); obtain ⟨hc, hf, hz⟩ := aft hb; have z0 : w.heap.size < w1.heap.size := (by (try simp at hz); omega); have n0 : ¬ w.heap.size = w1.heap.size := (by omega); have z1 : w.heap.size + 1 < w1.heap.size := (by (try simp at hz); omega); have n1 : ¬ w.heap.size + 1 = w1.heap.size := (by omega); clear hz) | (go_at_call 48; refine (valid48 _ _ _).mono ?_; rintro e w1 ⟨rfl, hb⟩; (with_reducible (repeat replace hb := undr hb)); obtain ⟨hc, hf, hz⟩ := aft hb; have z0 : w.heap.size < w1.heap.size := (by (try simp at hz); omega); have n0 : ¬ w.heap.size = w1.heap.size := (by omega); have z1 : w.heap.size + 1 < w1.heap.size := (by (try simp at hz); omega); have n1 : ¬ w.heap.size + 1 = w1.heap.size := (by omega); clear hz) | (go_at_call 37; refine (ori37 _ _ _ _ _ _ _).mono ?_; rintro e w1 ⟨rfl, hb⟩; (with_reducible (repeat replace hb := undr hb)); obtain ⟨hc, hf, hz⟩ := aft hb; have z0 : w.heap.size < w1.heap.size := (by (try simp at hz); omega); have n0 : ¬ w.heap.size = w1.heap.size := (by omega); have z1 : w.heap.size + 1 < w1.heap.size := (by (try simp at hz); omega); have n1 : ¬ w.heap.size + 1 = w1.heap.size := (by omega); clear hz))
          go_ret
          exact ⟨rb H.out.symm, by repeat (first | (with_reducible exact Below.refl _ _) | (with_reducible assumption) | (with_reducible apply bd) | (with_reducible apply ba) | (with_reducible refine bs ?_ (by first | (simp; done) | (simp; omega)) _) | (with_reducible refine bt ?_ ‹_›))⟩

end Go.Proofs.Ytandgbpbabmdfaa
