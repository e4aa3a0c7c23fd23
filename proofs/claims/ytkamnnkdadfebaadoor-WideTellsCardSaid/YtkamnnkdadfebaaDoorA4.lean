import Derived.Test.YtkamnnkdadfebaaDoorA0
namespace Go.Proofs.YtkamnnkdadfebaaDoor
open Go.RowKit
attribute [local go_sem high] eq24 eq37



set_option maxHeartbeats 4000000 in
set_option maxRecDepth 100000 in
theorem cmp24_1 (a b c d : Int) (w : World) (t1 : decide (a < c) = true) :
    Calls Tryd.prog 24 #[.agg #[.int .i64 a, .int .u64 b], .agg #[.int .i64 c, .int .u64 d]] w fun e w' => e = .returned (.int .i64 (-1)) ∧ Below w.heap.size w w' := by
  have HB := Below.refl w.heap.size w
  go_enter Tryd.func24, Tryd.ntmps24
  go_wp2
  go_ret
  exact ⟨rfl, by repeat (first | (with_reducible exact HB) | (with_reducible exact Below.refl _ _) | (with_reducible apply bd) | (with_reducible apply ba) | (with_reducible refine bs ?_ (by first | (simp; done) | (simp; omega)) _))⟩

set_option maxHeartbeats 4000000 in
set_option maxRecDepth 100000 in
theorem cmp24_2 (a b c d : Int) (w : World) (t1 : decide (a < c) = false) (t2 : (a == c) = true) (t3 : decide (b < d) = true) :
    Calls Tryd.prog 24 #[.agg #[.int .i64 a, .int .u64 b], .agg #[.int .i64 c, .int .u64 d]] w fun e w' => e = .returned (.int .i64 (-1)) ∧ Below w.heap.size w w' := by
  have HB := Below.refl w.heap.size w
  go_enter Tryd.func24, Tryd.ntmps24
  go_wp2
  go_ret
  exact ⟨rfl, by repeat (first | (with_reducible exact HB) | (with_reducible exact Below.refl _ _) | (with_reducible apply bd) | (with_reducible apply ba) | (with_reducible refine bs ?_ (by first | (simp; done) | (simp; omega)) _))⟩

set_option maxHeartbeats 4000000 in
set_option maxRecDepth 100000 in
theorem cmp24_3 (a b c d : Int) (w : World) (t1 : decide (a < c) = false) (t2 : (a == c) = true) (t3 : decide (b < d) = false) (t4 : (b == d) = true) :
    Calls Tryd.prog 24 #[.agg #[.int .i64 a, .int .u64 b], .agg #[.int .i64 c, .int .u64 d]] w fun e w' => e = .returned (.int .i64 (0)) ∧ Below w.heap.size w w' := by
  have HB := Below.refl w.heap.size w
  go_enter Tryd.func24, Tryd.ntmps24
  go_wp2
  go_ret
  exact ⟨rfl, by repeat (first | (with_reducible exact HB) | (with_reducible exact Below.refl _ _) | (with_reducible apply bd) | (with_reducible apply ba) | (with_reducible refine bs ?_ (by first | (simp; done) | (simp; omega)) _))⟩

set_option maxHeartbeats 4000000 in
set_option maxRecDepth 100000 in
theorem cmp24_4 (a b c d : Int) (w : World) (t1 : decide (a < c) = false) (t2 : (a == c) = true) (t3 : decide (b < d) = false) (t4 : (b == d) = false) :
    Calls Tryd.prog 24 #[.agg #[.int .i64 a, .int .u64 b], .agg #[.int .i64 c, .int .u64 d]] w fun e w' => e = .returned (.int .i64 (1)) ∧ Below w.heap.size w w' := by
  have HB := Below.refl w.heap.size w
  go_enter Tryd.func24, Tryd.ntmps24
  go_wp2
  go_ret
  exact ⟨rfl, by repeat (first | (with_reducible exact HB) | (with_reducible exact Below.refl _ _) | (with_reducible apply bd) | (with_reducible apply ba) | (with_reducible refine bs ?_ (by first | (simp; done) | (simp; omega)) _))⟩

set_option maxHeartbeats 4000000 in
set_option maxRecDepth 100000 in
theorem cmp24_5 (a b c d : Int) (w : World) (t1 : decide (a < c) = false) (t2 : (a == c) = false) :
    Calls Tryd.prog 24 #[.agg #[.int .i64 a, .int .u64 b], .agg #[.int .i64 c, .int .u64 d]] w fun e w' => e = .returned (.int .i64 (1)) ∧ Below w.heap.size w w' := by
  have HB := Below.refl w.heap.size w
  go_enter Tryd.func24, Tryd.ntmps24
  go_wp2
  go_ret
  exact ⟨rfl, by repeat (first | (with_reducible exact HB) | (with_reducible exact Below.refl _ _) | (with_reducible apply bd) | (with_reducible apply ba) | (with_reducible refine bs ?_ (by first | (simp; done) | (simp; omega)) _))⟩

/-- The reference's order of wide numbers. -/
theorem cmp24 (u v : Int) (w : World) :
    Calls Tryd.prog 24 #[.agg #[.int .i64 (hiW u), .int .u64 (loW u)], .agg #[.int .i64 (hiW v), .int .u64 (loW v)]] w fun e w' => e = .returned (.int .i64 (cmpI u v)) ∧ Below w.heap.size w w' := by
  have b1 := loW_bd u
  have b2 := loW_bd v
  by_cases t1 : hiW u < hiW v
  · rw [cmpI_lt (by unfold hiW at t1; omega)]; exact cmp24_1 _ _ _ _ w (decide_eq_true t1)
  by_cases t2 : hiW u = hiW v
  · by_cases t3 : loW u < loW v
    · rw [cmpI_lt (by unfold hiW at t2; unfold loW at t3; omega)]; exact cmp24_2 _ _ _ _ w (decide_eq_false t1) (beq_iff_eq.2 t2) (decide_eq_true t3)
    by_cases t4 : loW u = loW v
    · rw [cmpI_eq (by unfold hiW at t2; unfold loW at t4; omega)]; exact cmp24_3 _ _ _ _ w (decide_eq_false t1) (beq_iff_eq.2 t2) (decide_eq_false t3) (beq_iff_eq.2 t4)
    · rw [cmpI_gt (by unfold hiW at t2; unfold loW at t3 t4; omega)]; exact cmp24_4 _ _ _ _ w (decide_eq_false t1) (beq_iff_eq.2 t2) (decide_eq_false t3) (beq_eq_false_iff_ne.2 t4)
  · rw [cmpI_gt (by unfold hiW at t1 t2; omega)]; exact cmp24_5 _ _ _ _ w (decide_eq_false t1) (beq_eq_false_iff_ne.2 t2)

end Go.Proofs.YtkamnnkdadfebaaDoor
