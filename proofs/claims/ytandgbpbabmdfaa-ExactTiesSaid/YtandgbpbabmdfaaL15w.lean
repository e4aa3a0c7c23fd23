import Derived.Test.YtandgbpbabmdfaaR15
namespace Go.Proofs.Ytandgbpbabmdfaa
open Go.RowKit
attribute [local go_sem high] eq23 eq25 mn_two mx_two mn_three mx_three mx_four

set_option maxHeartbeats 4000000 in
set_option maxRecDepth 100000 in
theorem exactTies_0 (a0 a1 b0 b1 c0 c1 d0 d1 : Int) (w : World)  (ob : (ori ⟨a0, a1⟩ ⟨b0, b1⟩ ⟨c0, c1⟩ != 1) = true) :
    Calls Try.prog 15 #[.agg #[.int .i64 a0, .int .i64 a1], .agg #[.int .i64 b0, .int .i64 b1], .agg #[.int .i64 c0, .int .i64 c1], .agg #[.int .i64 d0, .int .i64 d1]] w fun e w' => e = .returned (.bool true) ∧ Below w.heap.size w w' := by
  have HB := Below.refl w.heap.size w
  go_enter Try.func15, Try.ntmps15
  go_wp2_with fail
  refine wp_loop_rounds 5 ?_
  rw [rounds_succ]
  go_wp2_with fail
  refine region15_0 a0 a1 b0 b1 c0 c1 d0 d1 _ w.heap.size (w.heap.size + 1) (w.heap.size + 1 + 1) (w.heap.size + 1 + 1 + 1) (w.heap.size + 1 + 1 + 1 + 1) true w rfl ob (by kernel_rfl) rfl rfl rfl ⟨?_, ?_, ?_, ?_, ?_, ?_, ?_, ?_, ?_, ?_, ?_, ?_, ?_, ?_, ?_, ?_, ?_⟩ (fun w1 hS => ?_)
  iterate 16 (focus (go_simp; done))
  · exact (by repeat (first | (with_reducible exact HB) | (with_reducible exact Below.refl _ _) | (with_reducible apply bd) | (with_reducible apply ba) | (with_reducible refine bs ?_ (by first | (simp; done) | (simp; omega)) _)))
  obtain ⟨ac0, ac1, bc0, bc1, cc0, cc1, ddc0, ddc1, pc0, pc1, pc2, pc3, pc4, pc5, pc6, pc7, HB⟩ := hS
  simp only [List.setIfInBounds_toArray, List.set_cons_zero, List.set_cons_succ]
  go_wp2_with (go_at_call 58; refine (awake58 _).mono ?_; rintro e w9 ⟨rfl, hb⟩; (with_reducible (repeat replace hb := undr hb)); replace HB : Below w.heap.size w w9 := bt (by repeat (first | (with_reducible exact HB) | (with_reducible exact Below.refl _ _) | (with_reducible apply bd) | (with_reducible apply ba) | (with_reducible refine bs ?_ (by first | (simp; done) | (simp; omega)) _))) hb; clear hb)
  go_ret
  exact ⟨rfl, by repeat (first | (with_reducible exact HB) | (with_reducible exact Below.refl _ _) | (with_reducible apply bd) | (with_reducible apply ba) | (with_reducible refine bs ?_ (by first | (simp; done) | (simp; omega)) _))⟩

set_option maxHeartbeats 4000000 in
set_option maxRecDepth 100000 in
theorem exactTies_1 (a0 a1 b0 b1 c0 c1 d0 d1 : Int) (w : World) (o0 : ori ⟨a0, a1⟩ ⟨b0, b1⟩ ⟨c0, c1⟩ = 1) (ob : (ori ⟨b0, b1⟩ ⟨c0, c1⟩ ⟨d0, d1⟩ != 1) = true) :
    Calls Try.prog 15 #[.agg #[.int .i64 a0, .int .i64 a1], .agg #[.int .i64 b0, .int .i64 b1], .agg #[.int .i64 c0, .int .i64 c1], .agg #[.int .i64 d0, .int .i64 d1]] w fun e w' => e = .returned (.bool true) ∧ Below w.heap.size w w' := by
  have HB := Below.refl w.heap.size w
  go_enter Try.func15, Try.ntmps15
  go_wp2_with fail
  refine wp_loop_rounds 5 ?_
  rw [rounds_succ]
  go_wp2_with fail
  refine region15_0 a0 a1 b0 b1 c0 c1 d0 d1 _ w.heap.size (w.heap.size + 1) (w.heap.size + 1 + 1) (w.heap.size + 1 + 1 + 1) (w.heap.size + 1 + 1 + 1 + 1) false w o0 rfl (by kernel_rfl) rfl rfl rfl ⟨?_, ?_, ?_, ?_, ?_, ?_, ?_, ?_, ?_, ?_, ?_, ?_, ?_, ?_, ?_, ?_, ?_⟩ (fun w1 hS => ?_)
  iterate 16 (focus (go_simp; done))
  · exact (by repeat (first | (with_reducible exact HB) | (with_reducible exact Below.refl _ _) | (with_reducible apply bd) | (with_reducible apply ba) | (with_reducible refine bs ?_ (by first | (simp; done) | (simp; omega)) _)))
  obtain ⟨ac0, ac1, bc0, bc1, cc0, cc1, ddc0, ddc1, pc0, pc1, pc2, pc3, pc4, pc5, pc6, pc7, HB⟩ := hS
  simp only [List.setIfInBounds_toArray, List.set_cons_zero, List.set_cons_succ]
  go_wp2_with fail
  rw [rounds_succ]
  go_wp2_with fail
  refine region15_1 a0 a1 b0 b1 c0 c1 d0 d1 _ w.heap.size (w.heap.size + 1) (w.heap.size + 1 + 1) (w.heap.size + 1 + 1 + 1) (w.heap.size + 1 + 1 + 1 + 1) true w rfl ob (by kernel_rfl) rfl rfl rfl ⟨?_, ?_, ?_, ?_, ?_, ?_, ?_, ?_, ?_, ?_, ?_, ?_, ?_, ?_, ?_, ?_, ?_⟩ (fun w2 hS => ?_)
  iterate 16 (focus (go_simp; done))
  · exact bd HB
  obtain ⟨ac0, ac1, bc0, bc1, cc0, cc1, ddc0, ddc1, pc0, pc1, pc2, pc3, pc4, pc5, pc6, pc7, HB⟩ := hS
  simp only [List.setIfInBounds_toArray, List.set_cons_zero, List.set_cons_succ]
  go_wp2_with (go_at_call 58; refine (awake58 _).mono ?_; rintro e w9 ⟨rfl, hb⟩; (with_reducible (repeat replace hb := undr hb)); replace HB : Below w.heap.size w w9 := bt (by repeat (first | (with_reducible exact HB) | (with_reducible exact Below.refl _ _) | (with_reducible apply bd) | (with_reducible apply ba) | (with_reducible refine bs ?_ (by first | (simp; done) | (simp; omega)) _))) hb; clear hb)
  go_ret
  exact ⟨rfl, by repeat (first | (with_reducible exact HB) | (with_reducible exact Below.refl _ _) | (with_reducible apply bd) | (with_reducible apply ba) | (with_reducible refine bs ?_ (by first | (simp; done) | (simp; omega)) _))⟩

set_option maxHeartbeats 4000000 in
set_option maxRecDepth 100000 in
theorem exactTies_2 (a0 a1 b0 b1 c0 c1 d0 d1 : Int) (w : World) (o0 : ori ⟨a0, a1⟩ ⟨b0, b1⟩ ⟨c0, c1⟩ = 1) (o1 : ori ⟨b0, b1⟩ ⟨c0, c1⟩ ⟨d0, d1⟩ = 1) (ob : (ori ⟨c0, c1⟩ ⟨d0, d1⟩ ⟨a0, a1⟩ != 1) = true) :
    Calls Try.prog 15 #[.agg #[.int .i64 a0, .int .i64 a1], .agg #[.int .i64 b0, .int .i64 b1], .agg #[.int .i64 c0, .int .i64 c1], .agg #[.int .i64 d0, .int .i64 d1]] w fun e w' => e = .returned (.bool true) ∧ Below w.heap.size w w' := by
  have HB := Below.refl w.heap.size w
  go_enter Try.func15, Try.ntmps15
  go_wp2_with fail
  refine wp_loop_rounds 5 ?_
  rw [rounds_succ]
  go_wp2_with fail
  refine region15_0 a0 a1 b0 b1 c0 c1 d0 d1 _ w.heap.size (w.heap.size + 1) (w.heap.size + 1 + 1) (w.heap.size + 1 + 1 + 1) (w.heap.size + 1 + 1 + 1 + 1) false w o0 rfl (by kernel_rfl) rfl rfl rfl ⟨?_, ?_, ?_, ?_, ?_, ?_, ?_, ?_, ?_, ?_, ?_, ?_, ?_, ?_, ?_, ?_, ?_⟩ (fun w1 hS => ?_)
  iterate 16 (focus (go_simp; done))
  · exact (by repeat (first | (with_reducible exact HB) | (with_reducible exact Below.refl _ _) | (with_reducible apply bd) | (with_reducible apply ba) | (with_reducible refine bs ?_ (by first | (simp; done) | (simp; omega)) _)))
  obtain ⟨ac0, ac1, bc0, bc1, cc0, cc1, ddc0, ddc1, pc0, pc1, pc2, pc3, pc4, pc5, pc6, pc7, HB⟩ := hS
  simp only [List.setIfInBounds_toArray, List.set_cons_zero, List.set_cons_succ]
  go_wp2_with fail
  rw [rounds_succ]
  go_wp2_with fail
  refine region15_1 a0 a1 b0 b1 c0 c1 d0 d1 _ w.heap.size (w.heap.size + 1) (w.heap.size + 1 + 1) (w.heap.size + 1 + 1 + 1) (w.heap.size + 1 + 1 + 1 + 1) false w o1 rfl (by kernel_rfl) rfl rfl rfl ⟨?_, ?_, ?_, ?_, ?_, ?_, ?_, ?_, ?_, ?_, ?_, ?_, ?_, ?_, ?_, ?_, ?_⟩ (fun w2 hS => ?_)
  iterate 16 (focus (go_simp; done))
  · exact bd HB
  obtain ⟨ac0, ac1, bc0, bc1, cc0, cc1, ddc0, ddc1, pc0, pc1, pc2, pc3, pc4, pc5, pc6, pc7, HB⟩ := hS
  simp only [List.setIfInBounds_toArray, List.set_cons_zero, List.set_cons_succ]
  go_wp2_with fail
  rw [rounds_succ]
  go_wp2_with fail
  refine region15_2 a0 a1 b0 b1 c0 c1 d0 d1 _ w.heap.size (w.heap.size + 1) (w.heap.size + 1 + 1) (w.heap.size + 1 + 1 + 1) (w.heap.size + 1 + 1 + 1 + 1) true w rfl ob (by kernel_rfl) rfl rfl rfl ⟨?_, ?_, ?_, ?_, ?_, ?_, ?_, ?_, ?_, ?_, ?_, ?_, ?_, ?_, ?_, ?_, ?_⟩ (fun w3 hS => ?_)
  iterate 16 (focus (go_simp; done))
  · exact bd HB
  obtain ⟨ac0, ac1, bc0, bc1, cc0, cc1, ddc0, ddc1, pc0, pc1, pc2, pc3, pc4, pc5, pc6, pc7, HB⟩ := hS
  simp only [List.setIfInBounds_toArray, List.set_cons_zero, List.set_cons_succ]
  go_wp2_with (go_at_call 58; refine (awake58 _).mono ?_; rintro e w9 ⟨rfl, hb⟩; (with_reducible (repeat replace hb := undr hb)); replace HB : Below w.heap.size w w9 := bt (by repeat (first | (with_reducible exact HB) | (with_reducible exact Below.refl _ _) | (with_reducible apply bd) | (with_reducible apply ba) | (with_reducible refine bs ?_ (by first | (simp; done) | (simp; omega)) _))) hb; clear hb)
  go_ret
  exact ⟨rfl, by repeat (first | (with_reducible exact HB) | (with_reducible exact Below.refl _ _) | (with_reducible apply bd) | (with_reducible apply ba) | (with_reducible refine bs ?_ (by first | (simp; done) | (simp; omega)) _))⟩

set_option maxHeartbeats 4000000 in
set_option maxRecDepth 100000 in
theorem exactTies_3 (a0 a1 b0 b1 c0 c1 d0 d1 : Int) (w : World) (o0 : ori ⟨a0, a1⟩ ⟨b0, b1⟩ ⟨c0, c1⟩ = 1) (o1 : ori ⟨b0, b1⟩ ⟨c0, c1⟩ ⟨d0, d1⟩ = 1) (o2 : ori ⟨c0, c1⟩ ⟨d0, d1⟩ ⟨a0, a1⟩ = 1) (ob : (ori ⟨d0, d1⟩ ⟨a0, a1⟩ ⟨b0, b1⟩ != 1) = true) :
    Calls Try.prog 15 #[.agg #[.int .i64 a0, .int .i64 a1], .agg #[.int .i64 b0, .int .i64 b1], .agg #[.int .i64 c0, .int .i64 c1], .agg #[.int .i64 d0, .int .i64 d1]] w fun e w' => e = .returned (.bool true) ∧ Below w.heap.size w w' := by
  have HB := Below.refl w.heap.size w
  go_enter Try.func15, Try.ntmps15
  go_wp2_with fail
  refine wp_loop_rounds 5 ?_
  rw [rounds_succ]
  go_wp2_with fail
  refine region15_0 a0 a1 b0 b1 c0 c1 d0 d1 _ w.heap.size (w.heap.size + 1) (w.heap.size + 1 + 1) (w.heap.size + 1 + 1 + 1) (w.heap.size + 1 + 1 + 1 + 1) false w o0 rfl (by kernel_rfl) rfl rfl rfl ⟨?_, ?_, ?_, ?_, ?_, ?_, ?_, ?_, ?_, ?_, ?_, ?_, ?_, ?_, ?_, ?_, ?_⟩ (fun w1 hS => ?_)
  iterate 16 (focus (go_simp; done))
  · exact (by repeat (first | (with_reducible exact HB) | (with_reducible exact Below.refl _ _) | (with_reducible apply bd) | (with_reducible apply ba) | (with_reducible refine bs ?_ (by first | (simp; done) | (simp; omega)) _)))
  obtain ⟨ac0, ac1, bc0, bc1, cc0, cc1, ddc0, ddc1, pc0, pc1, pc2, pc3, pc4, pc5, pc6, pc7, HB⟩ := hS
  simp only [List.setIfInBounds_toArray, List.set_cons_zero, List.set_cons_succ]
  go_wp2_with fail
  rw [rounds_succ]
  go_wp2_with fail
  refine region15_1 a0 a1 b0 b1 c0 c1 d0 d1 _ w.heap.size (w.heap.size + 1) (w.heap.size + 1 + 1) (w.heap.size + 1 + 1 + 1) (w.heap.size + 1 + 1 + 1 + 1) false w o1 rfl (by kernel_rfl) rfl rfl rfl ⟨?_, ?_, ?_, ?_, ?_, ?_, ?_, ?_, ?_, ?_, ?_, ?_, ?_, ?_, ?_, ?_, ?_⟩ (fun w2 hS => ?_)
  iterate 16 (focus (go_simp; done))
  · exact bd HB
  obtain ⟨ac0, ac1, bc0, bc1, cc0, cc1, ddc0, ddc1, pc0, pc1, pc2, pc3, pc4, pc5, pc6, pc7, HB⟩ := hS
  simp only [List.setIfInBounds_toArray, List.set_cons_zero, List.set_cons_succ]
  go_wp2_with fail
  rw [rounds_succ]
  go_wp2_with fail
  refine region15_2 a0 a1 b0 b1 c0 c1 d0 d1 _ w.heap.size (w.heap.size + 1) (w.heap.size + 1 + 1) (w.heap.size + 1 + 1 + 1) (w.heap.size + 1 + 1 + 1 + 1) false w o2 rfl (by kernel_rfl) rfl rfl rfl ⟨?_, ?_, ?_, ?_, ?_, ?_, ?_, ?_, ?_, ?_, ?_, ?_, ?_, ?_, ?_, ?_, ?_⟩ (fun w3 hS => ?_)
  iterate 16 (focus (go_simp; done))
  · exact bd HB
  obtain ⟨ac0, ac1, bc0, bc1, cc0, cc1, ddc0, ddc1, pc0, pc1, pc2, pc3, pc4, pc5, pc6, pc7, HB⟩ := hS
  simp only [List.setIfInBounds_toArray, List.set_cons_zero, List.set_cons_succ]
  go_wp2_with fail
  rw [rounds_succ]
  go_wp2_with fail
  refine region15_3 a0 a1 b0 b1 c0 c1 d0 d1 _ w.heap.size (w.heap.size + 1) (w.heap.size + 1 + 1) (w.heap.size + 1 + 1 + 1) (w.heap.size + 1 + 1 + 1 + 1) true w rfl ob (by kernel_rfl) rfl rfl rfl ⟨?_, ?_, ?_, ?_, ?_, ?_, ?_, ?_, ?_, ?_, ?_, ?_, ?_, ?_, ?_, ?_, ?_⟩ (fun w4 hS => ?_)
  iterate 16 (focus (go_simp; done))
  · exact bd HB
  obtain ⟨ac0, ac1, bc0, bc1, cc0, cc1, ddc0, ddc1, pc0, pc1, pc2, pc3, pc4, pc5, pc6, pc7, HB⟩ := hS
  simp only [List.setIfInBounds_toArray, List.set_cons_zero, List.set_cons_succ]
  go_wp2_with (go_at_call 58; refine (awake58 _).mono ?_; rintro e w9 ⟨rfl, hb⟩; (with_reducible (repeat replace hb := undr hb)); replace HB : Below w.heap.size w w9 := bt (by repeat (first | (with_reducible exact HB) | (with_reducible exact Below.refl _ _) | (with_reducible apply bd) | (with_reducible apply ba) | (with_reducible refine bs ?_ (by first | (simp; done) | (simp; omega)) _))) hb; clear hb)
  go_ret
  exact ⟨rfl, by repeat (first | (with_reducible exact HB) | (with_reducible exact Below.refl _ _) | (with_reducible apply bd) | (with_reducible apply ba) | (with_reducible refine bs ?_ (by first | (simp; done) | (simp; omega)) _))⟩

set_option maxHeartbeats 4000000 in
set_option maxRecDepth 100000 in
theorem exactTies_yes (a0 a1 b0 b1 c0 c1 d0 d1 k l : Int) (w : World) (o0 : ori ⟨a0, a1⟩ ⟨b0, b1⟩ ⟨c0, c1⟩ = 1) (o1 : ori ⟨b0, b1⟩ ⟨c0, c1⟩ ⟨d0, d1⟩ = 1) (o2 : ori ⟨c0, c1⟩ ⟨d0, d1⟩ ⟨a0, a1⟩ = 1) (o3 : ori ⟨d0, d1⟩ ⟨a0, a1⟩ ⟨b0, b1⟩ = 1) (h1 : circ ⟨a0, a1⟩ ⟨b0, b1⟩ ⟨c0, c1⟩ ⟨d0, d1⟩ = k) (h2 : circ ⟨a0, a1⟩ ⟨b0, b1⟩ ⟨d0, d1⟩ ⟨c0, c1⟩ = l) (h3 : circ ⟨a0, a1⟩ ⟨c0, c1⟩ ⟨d0, d1⟩ ⟨b0, b1⟩ = k) (h4 : circ ⟨b0, b1⟩ ⟨c0, c1⟩ ⟨d0, d1⟩ ⟨a0, a1⟩ = l) (hp : IntKind.i64.wrap (k * l) = -1) :
    Calls Try.prog 15 #[.agg #[.int .i64 a0, .int .i64 a1], .agg #[.int .i64 b0, .int .i64 b1], .agg #[.int .i64 c0, .int .i64 c1], .agg #[.int .i64 d0, .int .i64 d1]] w fun e w' => e = .returned (.bool true) ∧ Below w.heap.size w w' := by
  have HB := Below.refl w.heap.size w
  go_enter Try.func15, Try.ntmps15
  go_wp2_with fail
  refine wp_loop_rounds 5 ?_
  rw [rounds_succ]
  go_wp2_with fail
  refine region15_0 a0 a1 b0 b1 c0 c1 d0 d1 _ w.heap.size (w.heap.size + 1) (w.heap.size + 1 + 1) (w.heap.size + 1 + 1 + 1) (w.heap.size + 1 + 1 + 1 + 1) false w o0 rfl (by kernel_rfl) rfl rfl rfl ⟨?_, ?_, ?_, ?_, ?_, ?_, ?_, ?_, ?_, ?_, ?_, ?_, ?_, ?_, ?_, ?_, ?_⟩ (fun w1 hS => ?_)
  iterate 16 (focus (go_simp; done))
  · exact (by repeat (first | (with_reducible exact HB) | (with_reducible exact Below.refl _ _) | (with_reducible apply bd) | (with_reducible apply ba) | (with_reducible refine bs ?_ (by first | (simp; done) | (simp; omega)) _)))
  obtain ⟨ac0, ac1, bc0, bc1, cc0, cc1, ddc0, ddc1, pc0, pc1, pc2, pc3, pc4, pc5, pc6, pc7, HB⟩ := hS
  simp only [List.setIfInBounds_toArray, List.set_cons_zero, List.set_cons_succ]
  go_wp2_with fail
  rw [rounds_succ]
  go_wp2_with fail
  refine region15_1 a0 a1 b0 b1 c0 c1 d0 d1 _ w.heap.size (w.heap.size + 1) (w.heap.size + 1 + 1) (w.heap.size + 1 + 1 + 1) (w.heap.size + 1 + 1 + 1 + 1) false w o1 rfl (by kernel_rfl) rfl rfl rfl ⟨?_, ?_, ?_, ?_, ?_, ?_, ?_, ?_, ?_, ?_, ?_, ?_, ?_, ?_, ?_, ?_, ?_⟩ (fun w2 hS => ?_)
  iterate 16 (focus (go_simp; done))
  · exact bd HB
  obtain ⟨ac0, ac1, bc0, bc1, cc0, cc1, ddc0, ddc1, pc0, pc1, pc2, pc3, pc4, pc5, pc6, pc7, HB⟩ := hS
  simp only [List.setIfInBounds_toArray, List.set_cons_zero, List.set_cons_succ]
  go_wp2_with fail
  rw [rounds_succ]
  go_wp2_with fail
  refine region15_2 a0 a1 b0 b1 c0 c1 d0 d1 _ w.heap.size (w.heap.size + 1) (w.heap.size + 1 + 1) (w.heap.size + 1 + 1 + 1) (w.heap.size + 1 + 1 + 1 + 1) false w o2 rfl (by kernel_rfl) rfl rfl rfl ⟨?_, ?_, ?_, ?_, ?_, ?_, ?_, ?_, ?_, ?_, ?_, ?_, ?_, ?_, ?_, ?_, ?_⟩ (fun w3 hS => ?_)
  iterate 16 (focus (go_simp; done))
  · exact bd HB
  obtain ⟨ac0, ac1, bc0, bc1, cc0, cc1, ddc0, ddc1, pc0, pc1, pc2, pc3, pc4, pc5, pc6, pc7, HB⟩ := hS
  simp only [List.setIfInBounds_toArray, List.set_cons_zero, List.set_cons_succ]
  go_wp2_with fail
  rw [rounds_succ]
  go_wp2_with fail
  refine region15_3 a0 a1 b0 b1 c0 c1 d0 d1 _ w.heap.size (w.heap.size + 1) (w.heap.size + 1 + 1) (w.heap.size + 1 + 1 + 1) (w.heap.size + 1 + 1 + 1 + 1) false w o3 rfl (by kernel_rfl) rfl rfl rfl ⟨?_, ?_, ?_, ?_, ?_, ?_, ?_, ?_, ?_, ?_, ?_, ?_, ?_, ?_, ?_, ?_, ?_⟩ (fun w4 hS => ?_)
  iterate 16 (focus (go_simp; done))
  · exact bd HB
  obtain ⟨ac0, ac1, bc0, bc1, cc0, cc1, ddc0, ddc1, pc0, pc1, pc2, pc3, pc4, pc5, pc6, pc7, HB⟩ := hS
  simp only [List.setIfInBounds_toArray, List.set_cons_zero, List.set_cons_succ]
  go_wp2_with fail
  rw [rounds_succ]
  go_wp2_with fail
  refine region15_7 a0 a1 b0 b1 c0 c1 d0 d1 k l w.heap.size (w.heap.size + 1) (w.heap.size + 1 + 1) (w.heap.size + 1 + 1 + 1) w h1 h2 (by kernel_rfl) rfl rfl rfl rfl rfl ⟨?_, ?_, ?_, ?_, ?_, ?_, ?_, ?_, ?_⟩ (fun w5 hS => ?_)
  iterate 8 (focus (go_simp; done))
  · exact bd HB
  obtain ⟨ac0, ac1, bc0, bc1, cc0, cc1, ddc0, ddc1, HB⟩ := hS
  simp only [List.setIfInBounds_toArray, List.set_cons_zero, List.set_cons_succ]
  go_wp2_with (first | (go_at_call 53; refine (circ53 _ _ _ _ _ _ _ _ _).mono ?_; (first | rw [h3] | rw [h4]); rintro e w6 ⟨rfl, hb⟩; (with_reducible (repeat replace hb := undr hb)); replace ac0 := ck hb (a := ⟨w.heap.size, 0, none⟩) (v := .int .i64 a0) (by go_simp); replace ac1 := ck hb (a := ⟨w.heap.size, 1, none⟩) (v := .int .i64 a1) (by go_simp); replace bc0 := ck hb (a := ⟨w.heap.size + 1, 0, none⟩) (v := .int .i64 b0) (by go_simp); replace bc1 := ck hb (a := ⟨w.heap.size + 1, 1, none⟩) (v := .int .i64 b1) (by go_simp); replace cc0 := ck hb (a := ⟨w.heap.size + 1 + 1, 0, none⟩) (v := .int .i64 c0) (by go_simp); replace cc1 := ck hb (a := ⟨w.heap.size + 1 + 1, 1, none⟩) (v := .int .i64 c1) (by go_simp); replace ddc0 := ck hb (a := ⟨w.heap.size + 1 + 1 + 1, 0, none⟩) (v := .int .i64 d0) (by go_simp); replace ddc1 := ck hb (a := ⟨w.heap.size + 1 + 1 + 1, 1, none⟩) (v := .int .i64 d1) (by go_simp); replace HB : Below w.heap.size w w6 := bt (by repeat (first | (with_reducible exact HB) | (with_reducible exact Below.refl _ _) | (with_reducible apply bd) | (with_reducible apply ba) | (with_reducible refine bs ?_ (by first | (simp; done) | (simp; omega)) _))) hb; clear hb) | (go_at_call 58; refine (awake58 _).mono ?_; rintro e w7 ⟨rfl, hb⟩; (with_reducible (repeat replace hb := undr hb)); replace ac0 := ck hb (a := ⟨w.heap.size, 0, none⟩) (v := .int .i64 a0) (by go_simp); replace ac1 := ck hb (a := ⟨w.heap.size, 1, none⟩) (v := .int .i64 a1) (by go_simp); replace bc0 := ck hb (a := ⟨w.heap.size + 1, 0, none⟩) (v := .int .i64 b0) (by go_simp); replace bc1 := ck hb (a := ⟨w.heap.size + 1, 1, none⟩) (v := .int .i64 b1) (by go_simp); replace cc0 := ck hb (a := ⟨w.heap.size + 1 + 1, 0, none⟩) (v := .int .i64 c0) (by go_simp); replace cc1 := ck hb (a := ⟨w.heap.size + 1 + 1, 1, none⟩) (v := .int .i64 c1) (by go_simp); replace ddc0 := ck hb (a := ⟨w.heap.size + 1 + 1 + 1, 0, none⟩) (v := .int .i64 d0) (by go_simp); replace ddc1 := ck hb (a := ⟨w.heap.size + 1 + 1 + 1, 1, none⟩) (v := .int .i64 d1) (by go_simp); replace HB : Below w.heap.size w w7 := bt (by repeat (first | (with_reducible exact HB) | (with_reducible exact Below.refl _ _) | (with_reducible apply bd) | (with_reducible apply ba) | (with_reducible refine bs ?_ (by first | (simp; done) | (simp; omega)) _))) hb; clear hb))
  go_ret
  exact ⟨rfl, by repeat (first | (with_reducible exact HB) | (with_reducible exact Below.refl _ _) | (with_reducible apply bd) | (with_reducible apply ba) | (with_reducible refine bs ?_ (by first | (simp; done) | (simp; omega)) _))⟩

theorem exactTies_walk (a0 a1 b0 b1 c0 c1 d0 d1 : Int) (w : World) :
    Calls Try.prog 15 #[.agg #[.int .i64 a0, .int .i64 a1], .agg #[.int .i64 b0, .int .i64 b1], .agg #[.int .i64 c0, .int .i64 c1], .agg #[.int .i64 d0, .int .i64 d1]] w fun e w' => e = .returned (.bool true) ∧ Below w.heap.size w w' := by
  by_cases o0 : ori ⟨a0, a1⟩ ⟨b0, b1⟩ ⟨c0, c1⟩ = 1
  · by_cases o1 : ori ⟨b0, b1⟩ ⟨c0, c1⟩ ⟨d0, d1⟩ = 1
    · by_cases o2 : ori ⟨c0, c1⟩ ⟨d0, d1⟩ ⟨a0, a1⟩ = 1
      · by_cases o3 : ori ⟨d0, d1⟩ ⟨a0, a1⟩ ⟨b0, b1⟩ = 1
        · obtain ⟨h1, h2, h3⟩ := ties_law o0 o1 o2 o3
          exact exactTies_yes a0 a1 b0 b1 c0 c1 d0 d1 _ _ w o0 o1 o2 o3 rfl rfl h2 h3 (by rw [h1]; rfl)
        · exact exactTies_3 a0 a1 b0 b1 c0 c1 d0 d1 w o0 o1 o2 (bne_iff_ne.2 o3)
      · exact exactTies_2 a0 a1 b0 b1 c0 c1 d0 d1 w o0 o1 (bne_iff_ne.2 o2)
    · exact exactTies_1 a0 a1 b0 b1 c0 c1 d0 d1 w o0 (bne_iff_ne.2 o1)
  · exact exactTies_0 a0 a1 b0 b1 c0 c1 d0 d1 w (bne_iff_ne.2 o0)

end Go.Proofs.Ytandgbpbabmdfaa
