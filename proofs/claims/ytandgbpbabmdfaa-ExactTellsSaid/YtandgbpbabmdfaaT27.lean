import Derived.Test.YtandgbpbabmdfaaT26
import Derived.Test.YtandgbpbabmdfaaR56
namespace Go.Proofs.Ytandgbpbabmdfaa
open Go.RowKit
attribute [local go_sem high] eq23 eq25 mn_two mx_two mn_three mx_three mx_four

set_option maxHeartbeats 4000000 in
set_option maxRecDepth 100000 in
theorem meet56_x (a0 a1 b0 b1 c0 c1 d0 d1 : Int) (w : World) (m : (val ⟨a0, a1⟩ && val ⟨b0, b1⟩ && val ⟨c0, c1⟩ && val ⟨d0, d1⟩) = false)  :
    Calls Try.prog 56 #[.agg #[.int .i64 a0, .int .i64 a1], .agg #[.int .i64 b0, .int .i64 b1], .agg #[.int .i64 c0, .int .i64 c1], .agg #[.int .i64 d0, .int .i64 d1]] w fun e w' => e = .returned (.int .i64 0) ∧ Below w.heap.size w w' := by
  have HB := Below.refl w.heap.size w
  go_enter Try.func56, Try.ntmps56
  go_wp2_with fail
  refine (all4 _ _ a0 a1 b0 b1 c0 c1 d0 d1 _ (by go_simp) (by go_simp) (by go_simp) (by go_simp) (by go_simp) (by go_simp) (by go_simp) (by go_simp)).mono ?_; rw [m]; rintro e w1 ⟨rfl, hb⟩; (with_reducible (repeat replace hb := undr hb)); replace ac0 := ck hb (a := ⟨w.heap.size, 0, none⟩) (v := .int .i64 a0) (by go_simp); replace ac1 := ck hb (a := ⟨w.heap.size, 1, none⟩) (v := .int .i64 a1) (by go_simp); replace bc0 := ck hb (a := ⟨w.heap.size + 1, 0, none⟩) (v := .int .i64 b0) (by go_simp); replace bc1 := ck hb (a := ⟨w.heap.size + 1, 1, none⟩) (v := .int .i64 b1) (by go_simp); replace cc0 := ck hb (a := ⟨w.heap.size + 1 + 1, 0, none⟩) (v := .int .i64 c0) (by go_simp); replace cc1 := ck hb (a := ⟨w.heap.size + 1 + 1, 1, none⟩) (v := .int .i64 c1) (by go_simp); replace ddc0 := ck hb (a := ⟨w.heap.size + 1 + 1 + 1, 0, none⟩) (v := .int .i64 d0) (by go_simp); replace ddc1 := ck hb (a := ⟨w.heap.size + 1 + 1 + 1, 1, none⟩) (v := .int .i64 d1) (by go_simp); replace HB : Below w.heap.size w w1 := bt (by repeat (first | (with_reducible exact HB) | (with_reducible exact Below.refl _ _) | (with_reducible apply bd) | (with_reducible apply ba) | (with_reducible refine bs ?_ (by first | (simp; done) | (simp; omega)) _))) hb; clear hb
  go_wp2
  go_ret
  exact ⟨rfl, by repeat (first | (with_reducible exact HB) | (with_reducible exact Below.refl _ _) | (with_reducible apply bd) | (with_reducible apply ba) | (with_reducible refine bs ?_ (by first | (simp; done) | (simp; omega)) _))⟩

set_option maxHeartbeats 4000000 in
set_option maxRecDepth 100000 in
theorem meet56_y (a0 a1 b0 b1 c0 c1 d0 d1 : Int) (w : World) (m : (val ⟨a0, a1⟩ && val ⟨b0, b1⟩ && val ⟨c0, c1⟩ && val ⟨d0, d1⟩) = true) (e1 : (a0 == b0 && a1 == b1) = true) :
    Calls Try.prog 56 #[.agg #[.int .i64 a0, .int .i64 a1], .agg #[.int .i64 b0, .int .i64 b1], .agg #[.int .i64 c0, .int .i64 c1], .agg #[.int .i64 d0, .int .i64 d1]] w fun e w' => e = .returned (.int .i64 0) ∧ Below w.heap.size w w' := by
  have HB := Below.refl w.heap.size w
  go_enter Try.func56, Try.ntmps56
  go_wp2_with fail
  refine (all4 _ _ a0 a1 b0 b1 c0 c1 d0 d1 _ (by go_simp) (by go_simp) (by go_simp) (by go_simp) (by go_simp) (by go_simp) (by go_simp) (by go_simp)).mono ?_; rw [m]; rintro e w1 ⟨rfl, hb⟩; (with_reducible (repeat replace hb := undr hb)); replace ac0 := ck hb (a := ⟨w.heap.size, 0, none⟩) (v := .int .i64 a0) (by go_simp); replace ac1 := ck hb (a := ⟨w.heap.size, 1, none⟩) (v := .int .i64 a1) (by go_simp); replace bc0 := ck hb (a := ⟨w.heap.size + 1, 0, none⟩) (v := .int .i64 b0) (by go_simp); replace bc1 := ck hb (a := ⟨w.heap.size + 1, 1, none⟩) (v := .int .i64 b1) (by go_simp); replace cc0 := ck hb (a := ⟨w.heap.size + 1 + 1, 0, none⟩) (v := .int .i64 c0) (by go_simp); replace cc1 := ck hb (a := ⟨w.heap.size + 1 + 1, 1, none⟩) (v := .int .i64 c1) (by go_simp); replace ddc0 := ck hb (a := ⟨w.heap.size + 1 + 1 + 1, 0, none⟩) (v := .int .i64 d0) (by go_simp); replace ddc1 := ck hb (a := ⟨w.heap.size + 1 + 1 + 1, 1, none⟩) (v := .int .i64 d1) (by go_simp); replace HB : Below w.heap.size w w1 := bt (by repeat (first | (with_reducible exact HB) | (with_reducible exact Below.refl _ _) | (with_reducible apply bd) | (with_reducible apply ba) | (with_reducible refine bs ?_ (by first | (simp; done) | (simp; omega)) _))) hb; clear hb
  go_wp2
  go_ret
  exact ⟨rfl, by repeat (first | (with_reducible exact HB) | (with_reducible exact Below.refl _ _) | (with_reducible apply bd) | (with_reducible apply ba) | (with_reducible refine bs ?_ (by first | (simp; done) | (simp; omega)) _))⟩

set_option maxHeartbeats 4000000 in
set_option maxRecDepth 100000 in
theorem meet56_z (a0 a1 b0 b1 c0 c1 d0 d1 : Int) (w : World) (m : (val ⟨a0, a1⟩ && val ⟨b0, b1⟩ && val ⟨c0, c1⟩ && val ⟨d0, d1⟩) = true) (e1 : (a0 == b0 && a1 == b1) = false) (e2 : (c0 == d0 && c1 == d1) = true) :
    Calls Try.prog 56 #[.agg #[.int .i64 a0, .int .i64 a1], .agg #[.int .i64 b0, .int .i64 b1], .agg #[.int .i64 c0, .int .i64 c1], .agg #[.int .i64 d0, .int .i64 d1]] w fun e w' => e = .returned (.int .i64 0) ∧ Below w.heap.size w w' := by
  have HB := Below.refl w.heap.size w
  go_enter Try.func56, Try.ntmps56
  go_wp2_with fail
  refine (all4 _ _ a0 a1 b0 b1 c0 c1 d0 d1 _ (by go_simp) (by go_simp) (by go_simp) (by go_simp) (by go_simp) (by go_simp) (by go_simp) (by go_simp)).mono ?_; rw [m]; rintro e w1 ⟨rfl, hb⟩; (with_reducible (repeat replace hb := undr hb)); replace ac0 := ck hb (a := ⟨w.heap.size, 0, none⟩) (v := .int .i64 a0) (by go_simp); replace ac1 := ck hb (a := ⟨w.heap.size, 1, none⟩) (v := .int .i64 a1) (by go_simp); replace bc0 := ck hb (a := ⟨w.heap.size + 1, 0, none⟩) (v := .int .i64 b0) (by go_simp); replace bc1 := ck hb (a := ⟨w.heap.size + 1, 1, none⟩) (v := .int .i64 b1) (by go_simp); replace cc0 := ck hb (a := ⟨w.heap.size + 1 + 1, 0, none⟩) (v := .int .i64 c0) (by go_simp); replace cc1 := ck hb (a := ⟨w.heap.size + 1 + 1, 1, none⟩) (v := .int .i64 c1) (by go_simp); replace ddc0 := ck hb (a := ⟨w.heap.size + 1 + 1 + 1, 0, none⟩) (v := .int .i64 d0) (by go_simp); replace ddc1 := ck hb (a := ⟨w.heap.size + 1 + 1 + 1, 1, none⟩) (v := .int .i64 d1) (by go_simp); replace HB : Below w.heap.size w w1 := bt (by repeat (first | (with_reducible exact HB) | (with_reducible exact Below.refl _ _) | (with_reducible apply bd) | (with_reducible apply ba) | (with_reducible refine bs ?_ (by first | (simp; done) | (simp; omega)) _))) hb; clear hb
  go_wp2
  go_ret
  exact ⟨rfl, by repeat (first | (with_reducible exact HB) | (with_reducible exact Below.refl _ _) | (with_reducible apply bd) | (with_reducible apply ba) | (with_reducible refine bs ?_ (by first | (simp; done) | (simp; omega)) _))⟩

set_option maxHeartbeats 4000000 in
set_option maxRecDepth 100000 in
theorem meet56_i (a0 a1 b0 b1 c0 c1 d0 d1 o1 o2 o3 o4 : Int) (w : World) (m : (val ⟨a0, a1⟩ && val ⟨b0, b1⟩ && val ⟨c0, c1⟩ && val ⟨d0, d1⟩) = true) (e1 : (a0 == b0 && a1 == b1) = false) (e2 : (c0 == d0 && c1 == d1) = false) (h1 : ori ⟨a0, a1⟩ ⟨b0, b1⟩ ⟨c0, c1⟩ = o1) (h2 : ori ⟨a0, a1⟩ ⟨b0, b1⟩ ⟨d0, d1⟩ = o2) (h3 : ori ⟨c0, c1⟩ ⟨d0, d1⟩ ⟨a0, a1⟩ = o3) (h4 : ori ⟨c0, c1⟩ ⟨d0, d1⟩ ⟨b0, b1⟩ = o4) (z1 : (o1 == 0) = true) (z2 : (o2 == 0) = true) :
    Calls Try.prog 56 #[.agg #[.int .i64 a0, .int .i64 a1], .agg #[.int .i64 b0, .int .i64 b1], .agg #[.int .i64 c0, .int .i64 c1], .agg #[.int .i64 d0, .int .i64 d1]] w fun e w' => e = .returned (.int .i64 (inl ⟨a0, a1⟩ ⟨b0, b1⟩ ⟨c0, c1⟩ ⟨d0, d1⟩)) ∧ Below w.heap.size w w' := by
  have HB := Below.refl w.heap.size w
  go_enter Try.func56, Try.ntmps56
  go_wp2_with fail
  refine (all4 _ _ a0 a1 b0 b1 c0 c1 d0 d1 _ (by go_simp) (by go_simp) (by go_simp) (by go_simp) (by go_simp) (by go_simp) (by go_simp) (by go_simp)).mono ?_; rw [m]; rintro e w1 ⟨rfl, hb⟩; (with_reducible (repeat replace hb := undr hb)); replace ac0 := ck hb (a := ⟨w.heap.size, 0, none⟩) (v := .int .i64 a0) (by go_simp); replace ac1 := ck hb (a := ⟨w.heap.size, 1, none⟩) (v := .int .i64 a1) (by go_simp); replace bc0 := ck hb (a := ⟨w.heap.size + 1, 0, none⟩) (v := .int .i64 b0) (by go_simp); replace bc1 := ck hb (a := ⟨w.heap.size + 1, 1, none⟩) (v := .int .i64 b1) (by go_simp); replace cc0 := ck hb (a := ⟨w.heap.size + 1 + 1, 0, none⟩) (v := .int .i64 c0) (by go_simp); replace cc1 := ck hb (a := ⟨w.heap.size + 1 + 1, 1, none⟩) (v := .int .i64 c1) (by go_simp); replace ddc0 := ck hb (a := ⟨w.heap.size + 1 + 1 + 1, 0, none⟩) (v := .int .i64 d0) (by go_simp); replace ddc1 := ck hb (a := ⟨w.heap.size + 1 + 1 + 1, 1, none⟩) (v := .int .i64 d1) (by go_simp); replace HB : Below w.heap.size w w1 := bt (by repeat (first | (with_reducible exact HB) | (with_reducible exact Below.refl _ _) | (with_reducible apply bd) | (with_reducible apply ba) | (with_reducible refine bs ?_ (by first | (simp; done) | (simp; omega)) _))) hb; clear hb
  go_wp2_with fail
  refine region56 a0 a1 b0 b1 c0 c1 d0 d1 o1 o2 o3 o4 w.heap.size (w.heap.size + 1) (w.heap.size + 1 + 1) (w.heap.size + 1 + 1 + 1) w h1 h2 h3 h4 (by kernel_rfl) rfl rfl rfl rfl rfl ⟨ac0, ac1, bc0, bc1, cc0, cc1, ddc0, ddc1, bd HB⟩ (fun w2 hS => ?_)
  obtain ⟨ac0, ac1, bc0, bc1, cc0, cc1, ddc0, ddc1, HB⟩ := hS
  simp only [List.setIfInBounds_toArray, List.set_cons_zero, List.set_cons_succ]
  go_wp2_with (go_at_call 75; refine (inl75 _ _ _ _ _ _ _ _ _).mono ?_; rintro e w3 ⟨rfl, hb⟩; (with_reducible (repeat replace hb := undr hb)); replace ac0 := ck hb (a := ⟨w.heap.size, 0, none⟩) (v := .int .i64 a0) (by go_simp); replace ac1 := ck hb (a := ⟨w.heap.size, 1, none⟩) (v := .int .i64 a1) (by go_simp); replace bc0 := ck hb (a := ⟨w.heap.size + 1, 0, none⟩) (v := .int .i64 b0) (by go_simp); replace bc1 := ck hb (a := ⟨w.heap.size + 1, 1, none⟩) (v := .int .i64 b1) (by go_simp); replace cc0 := ck hb (a := ⟨w.heap.size + 1 + 1, 0, none⟩) (v := .int .i64 c0) (by go_simp); replace cc1 := ck hb (a := ⟨w.heap.size + 1 + 1, 1, none⟩) (v := .int .i64 c1) (by go_simp); replace ddc0 := ck hb (a := ⟨w.heap.size + 1 + 1 + 1, 0, none⟩) (v := .int .i64 d0) (by go_simp); replace ddc1 := ck hb (a := ⟨w.heap.size + 1 + 1 + 1, 1, none⟩) (v := .int .i64 d1) (by go_simp); replace HB : Below w.heap.size w w3 := bt (by repeat (first | (with_reducible exact HB) | (with_reducible exact Below.refl _ _) | (with_reducible apply bd) | (with_reducible apply ba) | (with_reducible refine bs ?_ (by first | (simp; done) | (simp; omega)) _))) hb; clear hb)
  go_ret
  exact ⟨rfl, by repeat (first | (with_reducible exact HB) | (with_reducible exact Below.refl _ _) | (with_reducible apply bd) | (with_reducible apply ba) | (with_reducible refine bs ?_ (by first | (simp; done) | (simp; omega)) _))⟩

set_option maxHeartbeats 4000000 in
set_option maxRecDepth 100000 in
theorem meet56_j (a0 a1 b0 b1 c0 c1 d0 d1 o1 o2 o3 o4 r s : Int) (w : World) (m : (val ⟨a0, a1⟩ && val ⟨b0, b1⟩ && val ⟨c0, c1⟩ && val ⟨d0, d1⟩) = true) (e1 : (a0 == b0 && a1 == b1) = false) (e2 : (c0 == d0 && c1 == d1) = false) (h1 : ori ⟨a0, a1⟩ ⟨b0, b1⟩ ⟨c0, c1⟩ = o1) (h2 : ori ⟨a0, a1⟩ ⟨b0, b1⟩ ⟨d0, d1⟩ = o2) (h3 : ori ⟨c0, c1⟩ ⟨d0, d1⟩ ⟨a0, a1⟩ = o3) (h4 : ori ⟨c0, c1⟩ ⟨d0, d1⟩ ⟨b0, b1⟩ = o4) (z1 : (o1 == 0) = false) (eqr : IntKind.i64.wrap (o1 * o2) = r) (eqs : IntKind.i64.wrap (o3 * o4) = s) (n1 : decide (r < 0) = true) (n2 : decide (s < 0) = true) :
    Calls Try.prog 56 #[.agg #[.int .i64 a0, .int .i64 a1], .agg #[.int .i64 b0, .int .i64 b1], .agg #[.int .i64 c0, .int .i64 c1], .agg #[.int .i64 d0, .int .i64 d1]] w fun e w' => e = .returned (.int .i64 1) ∧ Below w.heap.size w w' := by
  have HB := Below.refl w.heap.size w
  go_enter Try.func56, Try.ntmps56
  go_wp2_with fail
  refine (all4 _ _ a0 a1 b0 b1 c0 c1 d0 d1 _ (by go_simp) (by go_simp) (by go_simp) (by go_simp) (by go_simp) (by go_simp) (by go_simp) (by go_simp)).mono ?_; rw [m]; rintro e w1 ⟨rfl, hb⟩; (with_reducible (repeat replace hb := undr hb)); replace ac0 := ck hb (a := ⟨w.heap.size, 0, none⟩) (v := .int .i64 a0) (by go_simp); replace ac1 := ck hb (a := ⟨w.heap.size, 1, none⟩) (v := .int .i64 a1) (by go_simp); replace bc0 := ck hb (a := ⟨w.heap.size + 1, 0, none⟩) (v := .int .i64 b0) (by go_simp); replace bc1 := ck hb (a := ⟨w.heap.size + 1, 1, none⟩) (v := .int .i64 b1) (by go_simp); replace cc0 := ck hb (a := ⟨w.heap.size + 1 + 1, 0, none⟩) (v := .int .i64 c0) (by go_simp); replace cc1 := ck hb (a := ⟨w.heap.size + 1 + 1, 1, none⟩) (v := .int .i64 c1) (by go_simp); replace ddc0 := ck hb (a := ⟨w.heap.size + 1 + 1 + 1, 0, none⟩) (v := .int .i64 d0) (by go_simp); replace ddc1 := ck hb (a := ⟨w.heap.size + 1 + 1 + 1, 1, none⟩) (v := .int .i64 d1) (by go_simp); replace HB : Below w.heap.size w w1 := bt (by repeat (first | (with_reducible exact HB) | (with_reducible exact Below.refl _ _) | (with_reducible apply bd) | (with_reducible apply ba) | (with_reducible refine bs ?_ (by first | (simp; done) | (simp; omega)) _))) hb; clear hb
  go_wp2_with fail
  refine region56 a0 a1 b0 b1 c0 c1 d0 d1 o1 o2 o3 o4 w.heap.size (w.heap.size + 1) (w.heap.size + 1 + 1) (w.heap.size + 1 + 1 + 1) w h1 h2 h3 h4 (by kernel_rfl) rfl rfl rfl rfl rfl ⟨ac0, ac1, bc0, bc1, cc0, cc1, ddc0, ddc1, bd HB⟩ (fun w2 hS => ?_)
  obtain ⟨ac0, ac1, bc0, bc1, cc0, cc1, ddc0, ddc1, HB⟩ := hS
  simp only [List.setIfInBounds_toArray, List.set_cons_zero, List.set_cons_succ]
  go_wp2_with fail
  go_ret
  exact ⟨rfl, by repeat (first | (with_reducible exact HB) | (with_reducible exact Below.refl _ _) | (with_reducible apply bd) | (with_reducible apply ba) | (with_reducible refine bs ?_ (by first | (simp; done) | (simp; omega)) _))⟩

end Go.Proofs.Ytandgbpbabmdfaa
