import Derived.Test.YtandgbpbabmdfaaT21
namespace Go.Proofs.Ytandgbpbabmdfaa
open Go.RowKit
attribute [local go_sem high] eq23 eq25 mn_two mx_two mn_three mx_three mx_four

theorem sqc_bd {p q r d : Pt} (vp : val p = true) (vq : val q = true) (vr : val r = true) (vd : val d = true) : -316912650057057350374175801344 ≤ sq p d * crs q r d ∧ sq p d * crs q r d ≤ 316912650057057350374175801344 := by
  obtain ⟨vp1, vp2, vp3, vp4⟩ := val_true vp
  obtain ⟨vq1, vq2, vq3, vq4⟩ := val_true vq
  obtain ⟨vr1, vr2, vr3, vr4⟩ := val_true vr
  obtain ⟨vd1, vd2, vd3, vd4⟩ := val_true vd
  have A3 := sq_bd (x := p.x - d.x) (y := p.y - d.y) (by omega) (by omega) (by omega) (by omega)
  have A4 := mul_bd (a := q.x - d.x) (b := r.y - d.y) (by omega) (by omega) (by omega) (by omega)
  have A5 := mul_bd (a := q.y - d.y) (b := r.x - d.x) (by omega) (by omega) (by omega) (by omega)
  exact big_bd A3.1 A3.2 (by unfold crs; omega) (by unfold crs; omega)

set_option maxHeartbeats 4000000 in
set_option maxRecDepth 100000 in
/-- The determinant's sign. -/
theorem det70 (a0 a1 b0 b1 c0 c1 d0 d1 : Int) (w : World) (va : val ⟨a0, a1⟩ = true) (vb : val ⟨b0, b1⟩ = true) (vc : val ⟨c0, c1⟩ = true) (vd : val ⟨d0, d1⟩ = true) :
    Calls Try.prog 70 #[.agg #[.int .i64 a0, .int .i64 a1], .agg #[.int .i64 b0, .int .i64 b1], .agg #[.int .i64 c0, .int .i64 c1], .agg #[.int .i64 d0, .int .i64 d1]] w fun e w' => e = .returned (.int .i64 (cmpI (det ⟨a0, a1⟩ ⟨b0, b1⟩ ⟨c0, c1⟩ ⟨d0, d1⟩) 0)) ∧ Below w.heap.size w w' := by
  have hb1 := sqc_bd va vb vc vd
  have hb2 := sqc_bd vb vc va vd
  have hb3 := sqc_bd vc va vb vd
  have z0 : hiW 0 = 0 := by decide
  have z1 : loW 0 = 0 := by decide
  have HB := Below.refl w.heap.size w
  go_enter Try.func70, Try.ntmps70
  go_wp2_with fail
  refine (add82 a0 a1 b0 b1 c0 c1 d0 d1 a0 a1 b0 b1 c0 c1 0 (w.heap.size + 1 + 1 + 1) w.heap.size (w.heap.size + 1) (w.heap.size + 1 + 1) (w.heap.size + 1 + 1 + 1 + 1) w _ (by repeat (first | (with_reducible exact HB) | (with_reducible exact Below.refl _ _) | (with_reducible apply bd) | (with_reducible apply ba) | (with_reducible refine bs ?_ (by first | (simp; done) | (simp; omega)) _))) (by omega) (by omega) (by omega) (by omega) (by omega) ⟨by go_simp, by go_simp, by go_simp, by go_simp, by go_simp, by go_simp, by go_simp, by go_simp, by rw [z0]; go_simp, by rw [z1]; go_simp, by go_simp, by go_simp⟩ va vb vc vd (by omega) (by omega)).mono ?_
  rintro e w1 ⟨rfl, HB, dc0, dc1, ec0, ec1, fc0, fc1, gc0, gc1, sc0, sc1, zs0, zs1⟩
  go_wp2_with fail
  refine (add82 b0 b1 c0 c1 a0 a1 d0 d1 a0 a1 b0 b1 c0 c1 (0 + sq ⟨a0, a1⟩ ⟨d0, d1⟩ * crs ⟨b0, b1⟩ ⟨c0, c1⟩ ⟨d0, d1⟩) (w.heap.size + 1 + 1 + 1) w.heap.size (w.heap.size + 1) (w.heap.size + 1 + 1) (w.heap.size + 1 + 1 + 1 + 1) w _ HB (by omega) (by omega) (by omega) (by omega) (by omega) ⟨dc0, dc1, ec0, ec1, fc0, fc1, gc0, gc1, sc0, sc1, zs0, zs1⟩ vb vc va vd (by omega) (by omega)).mono ?_
  rintro e w2 ⟨rfl, HB, dc0, dc1, ec0, ec1, fc0, fc1, gc0, gc1, sc0, sc1, zs0, zs1⟩
  go_wp2_with fail
  refine (add82 c0 c1 a0 a1 b0 b1 d0 d1 a0 a1 b0 b1 c0 c1 ((0 + sq ⟨a0, a1⟩ ⟨d0, d1⟩ * crs ⟨b0, b1⟩ ⟨c0, c1⟩ ⟨d0, d1⟩) + sq ⟨b0, b1⟩ ⟨d0, d1⟩ * crs ⟨c0, c1⟩ ⟨a0, a1⟩ ⟨d0, d1⟩) (w.heap.size + 1 + 1 + 1) w.heap.size (w.heap.size + 1) (w.heap.size + 1 + 1) (w.heap.size + 1 + 1 + 1 + 1) w _ HB (by omega) (by omega) (by omega) (by omega) (by omega) ⟨dc0, dc1, ec0, ec1, fc0, fc1, gc0, gc1, sc0, sc1, zs0, zs1⟩ vc va vb vd (by omega) (by omega)).mono ?_
  rintro e w3 ⟨rfl, HB, dc0, dc1, ec0, ec1, fc0, fc1, gc0, gc1, sc0, sc1, zs0, zs1⟩
  go_wp2_with (go_at_call 84; refine (sign84 _ _).mono ?_; rintro e w4 ⟨rfl, hb⟩; (with_reducible (repeat replace hb := undr hb)); replace HB : Below w.heap.size w w4 := bt (by repeat (first | (with_reducible exact HB) | (with_reducible exact Below.refl _ _) | (with_reducible apply bd) | (with_reducible apply ba) | (with_reducible refine bs ?_ (by first | (simp; done) | (simp; omega)) _))) hb; clear hb)
  go_ret
  exact ⟨rfl, by repeat (first | (with_reducible exact HB) | (with_reducible exact Below.refl _ _) | (with_reducible apply bd) | (with_reducible apply ba) | (with_reducible refine bs ?_ (by first | (simp; done) | (simp; omega)) _))⟩

end Go.Proofs.Ytandgbpbabmdfaa
