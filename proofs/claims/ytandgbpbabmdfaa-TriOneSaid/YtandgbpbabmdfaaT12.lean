import Derived.Test.YtandgbpbabmdfaaT11
import Derived.Test.YtandgbpbabmdfaaMc
namespace Go.Proofs.Ytandgbpbabmdfaa
open Go.RowKit
attribute [local go_sem high] eq23 eq25 mn_two mx_two mn_three mx_three mx_four

set_option maxHeartbeats 1000000 in
set_option maxRecDepth 100000 in
theorem twT34 (a0 a1 b0 b1 c0 c1 : Int) (w : World) :
    Calls Try.prog 34 #[.agg #[.int .i64 a0, .int .i64 a1, .int .i64 b0, .int .i64 b1, .int .i64 c0, .int .i64 c1]] w fun e w' => e = .returned (.int .i64 (twT ⟨⟨a0, a1⟩, ⟨b0, b1⟩, ⟨c0, c1⟩⟩)) ∧ Below w.heap.size w w' := by
  cases v1 : valT ⟨⟨a0, a1⟩, ⟨b0, b1⟩, ⟨c0, c1⟩⟩
  · have H := Lib.hid (twT_no v1)
    go_enter Try.func34, Try.ntmps34
    go_wp2_with (go_at_call 24; refine (valT24 _ _ _ _ _ _ _).mono ?_; rintro e w1 ⟨rfl, hb⟩; (with_reducible (repeat replace hb := undr hb)); obtain ⟨hc, hf, hz⟩ := aft hb; have z0 : w.heap.size < w1.heap.size := (by (try simp at hz); omega); have n0 : ¬ w.heap.size = w1.heap.size := (by omega); clear hz)
    go_ret
    exact ⟨ri H.out.symm, by repeat (first | (with_reducible exact Below.refl _ _) | (with_reducible assumption) | (with_reducible apply bd) | (with_reducible apply ba) | (with_reducible refine bs ?_ (by first | (simp; done) | (simp; omega)) _) | (with_reducible refine bt ?_ ‹_›))⟩
  · have H := twT_yes v1
    obtain ⟨va, vb, vc⟩ := valT_vals' v1
    obtain ⟨x1, x2, x3, x4⟩ := val_xy va
    obtain ⟨y1, y2, y3, y4⟩ := val_xy vb
    obtain ⟨u1, u2, u3, u4⟩ := val_xy vc
    obtain ⟨m1, m2⟩ := mul_bd (a := b0 - a0) (b := c1 - a1) (by omega) (by omega) (by omega) (by omega)
    obtain ⟨m3, m4⟩ := mul_bd (a := b1 - a1) (b := c0 - a0) (by omega) (by omega) (by omega) (by omega)
    clear va vb vc
    replace H := Lib.hid H
    go_enter Try.func34, Try.ntmps34
    go_wp2_with (go_at_call 24; refine (valT24 _ _ _ _ _ _ _).mono ?_; rintro e w1 ⟨rfl, hb⟩; (with_reducible (repeat replace hb := undr hb)); obtain ⟨hc, hf, hz⟩ := aft hb; have z0 : w.heap.size < w1.heap.size := (by (try simp at hz); omega); have n0 : ¬ w.heap.size = w1.heap.size := (by omega); clear hz)
    go_ret
    exact ⟨ri H.out.symm, by repeat (first | (with_reducible exact Below.refl _ _) | (with_reducible assumption) | (with_reducible apply bd) | (with_reducible apply ba) | (with_reducible refine bs ?_ (by first | (simp; done) | (simp; omega)) _) | (with_reducible refine bt ?_ ‹_›))⟩

set_option maxHeartbeats 1000000 in
set_option maxRecDepth 100000 in
theorem twT35 (a0 a1 b0 b1 c0 c1 : Int) (w : World) :
    Calls Try.prog 35 #[.agg #[.int .i64 a0, .int .i64 a1, .int .i64 b0, .int .i64 b1, .int .i64 c0, .int .i64 c1]] w fun e w' => e = .returned (.int .i64 (twT ⟨⟨a0, a1⟩, ⟨b0, b1⟩, ⟨c0, c1⟩⟩)) ∧ Below w.heap.size w w' := by
  cases v1 : valT ⟨⟨a0, a1⟩, ⟨b0, b1⟩, ⟨c0, c1⟩⟩
  · have H := Lib.hid (twT_no v1)
    go_enter Try.func35, Try.ntmps35
    go_wp2_with (go_at_call 25; refine (valT25 _ _ _ _ _ _ _).mono ?_; rintro e w1 ⟨rfl, hb⟩; (with_reducible (repeat replace hb := undr hb)); obtain ⟨hc, hf, hz⟩ := aft hb; have z0 : w.heap.size < w1.heap.size := (by (try simp at hz); omega); have n0 : ¬ w.heap.size = w1.heap.size := (by omega); clear hz)
    go_ret
    exact ⟨ri H.out.symm, by repeat (first | (with_reducible exact Below.refl _ _) | (with_reducible assumption) | (with_reducible apply bd) | (with_reducible apply ba) | (with_reducible refine bs ?_ (by first | (simp; done) | (simp; omega)) _) | (with_reducible refine bt ?_ ‹_›))⟩
  · have H := Lib.hid (twT_yes v1)
    obtain ⟨va, vb, vc⟩ := valT_vals' v1
    have T := Lib.hid (tw61 a0 a1 b0 b1 c0 c1 (va := va) (vb := vb) (vc := vc))
    clear va vb vc
    go_enter Try.func35, Try.ntmps35
    go_wp2_with (first | (go_at_call 25; refine (valT25 _ _ _ _ _ _ _).mono ?_; rintro e w1 ⟨rfl, hb⟩; (with_reducible (repeat replace hb := undr hb)); obtain ⟨hc, hf, hz⟩ := aft hb; have z0 : w.heap.size < w1.heap.size := (by (try simp at hz); omega); have n0 : ¬ w.heap.size = w1.heap.size := (by omega); clear hz) | (go_at_call 61; refine (T.out _).mono ?_; rintro e w1 ⟨rfl, hb⟩; (with_reducible (repeat replace hb := undr hb)); obtain ⟨hc, hf, hz⟩ := aft hb; have z0 : w.heap.size < w1.heap.size := (by (try simp at hz); omega); have n0 : ¬ w.heap.size = w1.heap.size := (by omega); clear hz))
    go_ret
    exact ⟨ri H.out.symm, by repeat (first | (with_reducible exact Below.refl _ _) | (with_reducible assumption) | (with_reducible apply bd) | (with_reducible apply ba) | (with_reducible refine bs ?_ (by first | (simp; done) | (simp; omega)) _) | (with_reducible refine bt ?_ ‹_›))⟩

set_option maxHeartbeats 1000000 in
set_option maxRecDepth 100000 in
theorem round23 (k n : Int) (w : World) (h1 : 0 < n) (h2 : n ≤ 1099511627776) :
    Calls Try.prog 23 #[.int .i64 k, .int .i64 n] w fun e w' => e = .returned (.int .i64 (k % n)) ∧ w = w' := by
  obtain ⟨t1, t2⟩ := tmod_self_bd k n h1
  have H := Lib.hid ((Int.tmod_eq_emod_of_nonneg (by omega)).symm.trans (round_emod k n h1))
  have hz : (n == 0) = false := beq_eq_false_iff_ne.mpr (by omega)
  go_enter Try.func23, Try.ntmps23
  go_wp2
  go_ret
  exact ⟨ri H.out, rfl⟩

set_option maxHeartbeats 1000000 in
set_option maxRecDepth 100000 in
theorem btw63 (n a b : Int) (w : World) :
    Calls Try.prog 63 #[.int .i64 n, .int .i64 a, .int .i64 b] w fun e w' => e = .returned (.bool (btw n a b)) ∧ w = w' := by
  cases h1 : decide (mn a b ≤ n)
  · have H := Lib.hid (show btw n a b = false by unfold btw; rw [← mn_eq, h1]; rfl)
    go_enter Try.func63, Try.ntmps63
    go_wp2
    go_ret
    exact ⟨rb H.out.symm, rfl⟩
  · have H := Lib.hid (show btw n a b = decide (n ≤ mx a b) by unfold btw; rw [← mn_eq, ← mx_eq, h1]; rfl)
    go_enter Try.func63, Try.ntmps63
    go_wp2
    go_ret
    exact ⟨rb H.out.symm, rfl⟩

set_option maxHeartbeats 1000000 in
set_option maxRecDepth 100000 in
theorem on40 (a0 a1 b0 b1 c0 c1 : Int) (w : World) :
    Calls Try.prog 40 #[.agg #[.int .i64 a0, .int .i64 a1], .agg #[.int .i64 b0, .int .i64 b1], .agg #[.int .i64 c0, .int .i64 c1]] w fun e w' => e = .returned (.bool (onS ⟨a0, a1⟩ ⟨b0, b1⟩ ⟨c0, c1⟩)) ∧ Below w.heap.size w w' := by
  have HH := onS_bool a0 a1 b0 b1 c0 c1
  cases va : val ⟨a0, a1⟩
  · have H := Lib.hid (show onS ⟨a0, a1⟩ ⟨b0, b1⟩ ⟨c0, c1⟩ = false by rw [HH, va]; simp)
    clear HH
    go_enter Try.func40, Try.ntmps40
    go_wp2_with (first | (go_at_call 48; refine (valid48 _ _ _).mono ?_; rintro e w1 ⟨rfl, hb⟩; (with_reducible (repeat replace hb := undr hb)); obtain ⟨hc, hf, hz⟩ := aft hb; have z0 : w.heap.size < w1.heap.size := (by (try simp at hz); omega); have n0 : ¬ w.heap.size = w1.heap.size := (by omega); have z1 : w.heap.size + 1 < w1.heap.size := (by (try simp at hz); omega); have n1 : ¬ w.heap.size + 1 = w1.heap.size := (by omega); have z2 : w.heap.size + 1 + 1 < w1.heap.size := (by (try simp at hz); omega); have n2 : ¬ w.heap.size + 1 + 1 = w1.heap.size := (by omega); clear hz))
    go_ret
    exact ⟨rb H.out.symm, by repeat (first | (with_reducible exact Below.refl _ _) | (with_reducible assumption) | (with_reducible apply bd) | (with_reducible apply ba) | (with_reducible refine bs ?_ (by first | (simp; done) | (simp; omega)) _) | (with_reducible refine bt ?_ ‹_›))⟩
  · skip
    cases vb : val ⟨b0, b1⟩
    · have H := Lib.hid (show onS ⟨a0, a1⟩ ⟨b0, b1⟩ ⟨c0, c1⟩ = false by rw [HH, va, vb]; simp)
      clear HH
      go_enter Try.func40, Try.ntmps40
      go_wp2_with (first | (go_at_call 48; refine (valid48 _ _ _).mono ?_; rintro e w1 ⟨rfl, hb⟩; (with_reducible (repeat replace hb := undr hb)); obtain ⟨hc, hf, hz⟩ := aft hb; have z0 : w.heap.size < w1.heap.size := (by (try simp at hz); omega); have n0 : ¬ w.heap.size = w1.heap.size := (by omega); have z1 : w.heap.size + 1 < w1.heap.size := (by (try simp at hz); omega); have n1 : ¬ w.heap.size + 1 = w1.heap.size := (by omega); have z2 : w.heap.size + 1 + 1 < w1.heap.size := (by (try simp at hz); omega); have n2 : ¬ w.heap.size + 1 + 1 = w1.heap.size := (by omega); clear hz))
      go_ret
      exact ⟨rb H.out.symm, by repeat (first | (with_reducible exact Below.refl _ _) | (with_reducible assumption) | (with_reducible apply bd) | (with_reducible apply ba) | (with_reducible refine bs ?_ (by first | (simp; done) | (simp; omega)) _) | (with_reducible refine bt ?_ ‹_›))⟩
    · skip
      cases vc : val ⟨c0, c1⟩
      · have H := Lib.hid (show onS ⟨a0, a1⟩ ⟨b0, b1⟩ ⟨c0, c1⟩ = false by rw [HH, va, vb, vc]; simp)
        clear HH
        go_enter Try.func40, Try.ntmps40
        go_wp2_with (first | (go_at_call 48; refine (valid48 _ _ _).mono ?_; rintro e w1 ⟨rfl, hb⟩; (with_reducible (repeat replace hb := undr hb)); obtain ⟨hc, hf, hz⟩ := aft hb; have z0 : w.heap.size < w1.heap.size := (by (try simp at hz); omega); have n0 : ¬ w.heap.size = w1.heap.size := (by omega); have z1 : w.heap.size + 1 < w1.heap.size := (by (try simp at hz); omega); have n1 : ¬ w.heap.size + 1 = w1.heap.size := (by omega); have z2 : w.heap.size + 1 + 1 < w1.heap.size := (by (try simp at hz); omega); have n2 : ¬ w.heap.size + 1 + 1 = w1.heap.size := (by omega); clear hz))
        go_ret
        exact ⟨rb H.out.symm, by repeat (first | (with_reducible exact Below.refl _ _) | (with_reducible assumption) | (with_reducible apply bd) | (with_reducible apply ba) | (with_reducible refine bs ?_ (by first | (simp; done) | (simp; omega)) _) | (with_reducible refine bt ?_ ‹_›))⟩
      · skip
        have T := Lib.hid (tw61 b0 b1 c0 c1 a0 a1 (va := vb) (vb := vc) (vc := va))
        cases vt : (tw ⟨b0, b1⟩ ⟨c0, c1⟩ ⟨a0, a1⟩ == 0)
        · have H := Lib.hid (show onS ⟨a0, a1⟩ ⟨b0, b1⟩ ⟨c0, c1⟩ = false by rw [HH, va, vb, vc, vt]; simp)
          clear HH
          go_enter Try.func40, Try.ntmps40
          go_wp2_with (first | (go_at_call 48; refine (valid48 _ _ _).mono ?_; rintro e w1 ⟨rfl, hb⟩; (with_reducible (repeat replace hb := undr hb)); obtain ⟨hc, hf, hz⟩ := aft hb; have z0 : w.heap.size < w1.heap.size := (by (try simp at hz); omega); have n0 : ¬ w.heap.size = w1.heap.size := (by omega); have z1 : w.heap.size + 1 < w1.heap.size := (by (try simp at hz); omega); have n1 : ¬ w.heap.size + 1 = w1.heap.size := (by omega); have z2 : w.heap.size + 1 + 1 < w1.heap.size := (by (try simp at hz); omega); have n2 : ¬ w.heap.size + 1 + 1 = w1.heap.size := (by omega); clear hz) | (go_at_call 61; refine (T.out _).mono ?_; rintro e w1 ⟨rfl, hb⟩; (with_reducible (repeat replace hb := undr hb)); obtain ⟨hc, hf, hz⟩ := aft hb; have z0 : w.heap.size < w1.heap.size := (by (try simp at hz); omega); have n0 : ¬ w.heap.size = w1.heap.size := (by omega); have z1 : w.heap.size + 1 < w1.heap.size := (by (try simp at hz); omega); have n1 : ¬ w.heap.size + 1 = w1.heap.size := (by omega); have z2 : w.heap.size + 1 + 1 < w1.heap.size := (by (try simp at hz); omega); have n2 : ¬ w.heap.size + 1 + 1 = w1.heap.size := (by omega); clear hz))
          go_ret
          exact ⟨rb H.out.symm, by repeat (first | (with_reducible exact Below.refl _ _) | (with_reducible assumption) | (with_reducible apply bd) | (with_reducible apply ba) | (with_reducible refine bs ?_ (by first | (simp; done) | (simp; omega)) _) | (with_reducible refine bt ?_ ‹_›))⟩
        · skip
          cases vx : btw a0 b0 c0
          · have H := Lib.hid (show onS ⟨a0, a1⟩ ⟨b0, b1⟩ ⟨c0, c1⟩ = false by rw [HH, va, vb, vc, vt, vx]; simp)
            clear HH
            go_enter Try.func40, Try.ntmps40
            go_wp2_with (first | (go_at_call 48; refine (valid48 _ _ _).mono ?_; rintro e w1 ⟨rfl, hb⟩; (with_reducible (repeat replace hb := undr hb)); obtain ⟨hc, hf, hz⟩ := aft hb; have z0 : w.heap.size < w1.heap.size := (by (try simp at hz); omega); have n0 : ¬ w.heap.size = w1.heap.size := (by omega); have z1 : w.heap.size + 1 < w1.heap.size := (by (try simp at hz); omega); have n1 : ¬ w.heap.size + 1 = w1.heap.size := (by omega); have z2 : w.heap.size + 1 + 1 < w1.heap.size := (by (try simp at hz); omega); have n2 : ¬ w.heap.size + 1 + 1 = w1.heap.size := (by omega); clear hz) | (go_at_call 61; refine (T.out _).mono ?_; rintro e w1 ⟨rfl, hb⟩; (with_reducible (repeat replace hb := undr hb)); obtain ⟨hc, hf, hz⟩ := aft hb; have z0 : w.heap.size < w1.heap.size := (by (try simp at hz); omega); have n0 : ¬ w.heap.size = w1.heap.size := (by omega); have z1 : w.heap.size + 1 < w1.heap.size := (by (try simp at hz); omega); have n1 : ¬ w.heap.size + 1 = w1.heap.size := (by omega); have z2 : w.heap.size + 1 + 1 < w1.heap.size := (by (try simp at hz); omega); have n2 : ¬ w.heap.size + 1 + 1 = w1.heap.size := (by omega); clear hz) | (go_at_call 63; refine (btw63 _ _ _ _).mono ?_; rintro e w' ⟨rfl, rfl⟩))
            go_ret
            exact ⟨rb H.out.symm, by repeat (first | (with_reducible exact Below.refl _ _) | (with_reducible assumption) | (with_reducible apply bd) | (with_reducible apply ba) | (with_reducible refine bs ?_ (by first | (simp; done) | (simp; omega)) _) | (with_reducible refine bt ?_ ‹_›))⟩
          · skip
            cases vy : btw a1 b1 c1
            · have H := Lib.hid (show onS ⟨a0, a1⟩ ⟨b0, b1⟩ ⟨c0, c1⟩ = false by rw [HH, va, vb, vc, vt, vx, vy]; simp)
              clear HH
              go_enter Try.func40, Try.ntmps40
              go_wp2_with (first | (go_at_call 48; refine (valid48 _ _ _).mono ?_; rintro e w1 ⟨rfl, hb⟩; (with_reducible (repeat replace hb := undr hb)); obtain ⟨hc, hf, hz⟩ := aft hb; have z0 : w.heap.size < w1.heap.size := (by (try simp at hz); omega); have n0 : ¬ w.heap.size = w1.heap.size := (by omega); have z1 : w.heap.size + 1 < w1.heap.size := (by (try simp at hz); omega); have n1 : ¬ w.heap.size + 1 = w1.heap.size := (by omega); have z2 : w.heap.size + 1 + 1 < w1.heap.size := (by (try simp at hz); omega); have n2 : ¬ w.heap.size + 1 + 1 = w1.heap.size := (by omega); clear hz) | (go_at_call 61; refine (T.out _).mono ?_; rintro e w1 ⟨rfl, hb⟩; (with_reducible (repeat replace hb := undr hb)); obtain ⟨hc, hf, hz⟩ := aft hb; have z0 : w.heap.size < w1.heap.size := (by (try simp at hz); omega); have n0 : ¬ w.heap.size = w1.heap.size := (by omega); have z1 : w.heap.size + 1 < w1.heap.size := (by (try simp at hz); omega); have n1 : ¬ w.heap.size + 1 = w1.heap.size := (by omega); have z2 : w.heap.size + 1 + 1 < w1.heap.size := (by (try simp at hz); omega); have n2 : ¬ w.heap.size + 1 + 1 = w1.heap.size := (by omega); clear hz) | (go_at_call 63; refine (btw63 _ _ _ _).mono ?_; rintro e w' ⟨rfl, rfl⟩))
              go_ret
              exact ⟨rb H.out.symm, by repeat (first | (with_reducible exact Below.refl _ _) | (with_reducible assumption) | (with_reducible apply bd) | (with_reducible apply ba) | (with_reducible refine bs ?_ (by first | (simp; done) | (simp; omega)) _) | (with_reducible refine bt ?_ ‹_›))⟩
            · skip
              have H := Lib.hid (show onS ⟨a0, a1⟩ ⟨b0, b1⟩ ⟨c0, c1⟩ = true by rw [HH, va, vb, vc, vt, vx, vy]; simp)
              clear HH
              go_enter Try.func40, Try.ntmps40
              go_wp2_with (first | (go_at_call 48; refine (valid48 _ _ _).mono ?_; rintro e w1 ⟨rfl, hb⟩; (with_reducible (repeat replace hb := undr hb)); obtain ⟨hc, hf, hz⟩ := aft hb; have z0 : w.heap.size < w1.heap.size := (by (try simp at hz); omega); have n0 : ¬ w.heap.size = w1.heap.size := (by omega); have z1 : w.heap.size + 1 < w1.heap.size := (by (try simp at hz); omega); have n1 : ¬ w.heap.size + 1 = w1.heap.size := (by omega); have z2 : w.heap.size + 1 + 1 < w1.heap.size := (by (try simp at hz); omega); have n2 : ¬ w.heap.size + 1 + 1 = w1.heap.size := (by omega); clear hz) | (go_at_call 61; refine (T.out _).mono ?_; rintro e w1 ⟨rfl, hb⟩; (with_reducible (repeat replace hb := undr hb)); obtain ⟨hc, hf, hz⟩ := aft hb; have z0 : w.heap.size < w1.heap.size := (by (try simp at hz); omega); have n0 : ¬ w.heap.size = w1.heap.size := (by omega); have z1 : w.heap.size + 1 < w1.heap.size := (by (try simp at hz); omega); have n1 : ¬ w.heap.size + 1 = w1.heap.size := (by omega); have z2 : w.heap.size + 1 + 1 < w1.heap.size := (by (try simp at hz); omega); have n2 : ¬ w.heap.size + 1 + 1 = w1.heap.size := (by omega); clear hz) | (go_at_call 63; refine (btw63 _ _ _ _).mono ?_; rintro e w' ⟨rfl, rfl⟩))
              go_ret
              exact ⟨rb H.out.symm, by repeat (first | (with_reducible exact Below.refl _ _) | (with_reducible assumption) | (with_reducible apply bd) | (with_reducible apply ba) | (with_reducible refine bs ?_ (by first | (simp; done) | (simp; omega)) _) | (with_reducible refine bt ?_ ‹_›))⟩

end Go.Proofs.Ytandgbpbabmdfaa
