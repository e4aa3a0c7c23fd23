import Derived.Test.YtkamnnkdadfebaaDoorA0
namespace Go.Proofs.YtkamnnkdadfebaaDoor
open Go.RowKit
attribute [local go_sem high] eq24 eq37

set_option maxHeartbeats 400000 in
set_option maxRecDepth 100000 in
theorem or2_calls (g c : Nat) (a b : Int) (w : World) (h0 : w.cell? ⟨g, 0, none⟩ = some (.int .i64 a)) (h1 : w.cell? ⟨g, 1, none⟩ = some (.int .i64 b)) :
    Calls Tryd.prog 42 #[.slice (some ⟨g, 0, none⟩) 2 c] w fun e w' => e = .returned (.int .i64 (or2 a b)) ∧ w = w' := by
  by_cases ha : a = 0
  · have H : or2 a b = b := by unfold or2; rw [if_pos ha]
    replace H := Lib.hid H
    have a1 : (a == 0) = true := beq_iff_eq.mpr ha
    have a2 : (a != 0) = false := bne_eq_false_iff_eq.mpr ha
    clear ha
    by_cases hb : b = 0
    · have b1 : (b == 0) = true := beq_iff_eq.mpr hb
      have b2 : (b != 0) = false := bne_eq_false_iff_eq.mpr hb
      replace hb := Lib.hid hb
      go_enter Tryd.func42, Tryd.ntmps42
      go_wp2
      refine wp_loop_rounds 3 ?_
      rw [rounds_succ]
      go_wp2
      rw [rounds_succ]
      go_wp2
      rw [rounds_succ]
      go_wp2
      go_ret
      exact ⟨by rw [H.out, hb.out]; rfl, rfl⟩
    · have b1 : (b == 0) = false := beq_eq_false_iff_ne.mpr hb
      have b2 : (b != 0) = true := bne_iff_ne.mpr hb
      clear hb
      go_enter Tryd.func42, Tryd.ntmps42
      go_wp2
      refine wp_loop_rounds 3 ?_
      rw [rounds_succ]
      go_wp2
      rw [rounds_succ]
      go_wp2
      go_ret
      exact ⟨by rw [H.out]; rfl, rfl⟩
  · have H : or2 a b = a := by unfold or2; rw [if_neg ha]
    replace H := Lib.hid H
    have a1 : (a == 0) = false := beq_eq_false_iff_ne.mpr ha
    have a2 : (a != 0) = true := bne_iff_ne.mpr ha
    clear ha
    go_enter Tryd.func42, Tryd.ntmps42
    go_wp2
    refine wp_loop_rounds 3 ?_
    rw [rounds_succ]
    go_wp2
    go_ret
    exact ⟨by rw [H.out]; rfl, rfl⟩

set_option maxHeartbeats 1000000 in
set_option maxRecDepth 100000 in
theorem compare43 (a b : Int) (w : World) :
    Calls Tryd.prog 43 #[.int .i64 a, .int .i64 b] w fun e w' => e = .returned (.int .i64 (cmpI a b)) ∧ w = w' := by
  rcases Int.lt_trichotomy a b with h | h | h
  · have H := Lib.hid (cmpI_lt h)
    have h1 : decide (a < b) = true := decide_eq_true h
    clear h
    go_enter Tryd.func43, Tryd.ntmps43
    go_wp2
    go_ret
    exact ⟨by rw [H.out]; rfl, rfl⟩
  · have H := Lib.hid (cmpI_eq h)
    have h1 : decide (a < b) = false := decide_eq_false (by omega)
    have h2 : decide (b < a) = false := decide_eq_false (by omega)
    clear h
    go_enter Tryd.func43, Tryd.ntmps43
    go_wp2
    go_ret
    exact ⟨by rw [H.out]; rfl, rfl⟩
  · have H := Lib.hid (cmpI_gt h)
    have h1 : decide (a < b) = false := decide_eq_false (by omega)
    have h2 : decide (b < a) = true := decide_eq_true h
    clear h
    go_enter Tryd.func43, Tryd.ntmps43
    go_wp2
    go_ret
    exact ⟨by rw [H.out]; rfl, rfl⟩

set_option maxHeartbeats 1000000 in
set_option maxRecDepth 100000 in
theorem compare44 (a b : Int) (w : World) :
    Calls Tryd.prog 44 #[.int .u64 a, .int .u64 b] w fun e w' => e = .returned (.int .i64 (cmpI a b)) ∧ w = w' := by
  rcases Int.lt_trichotomy a b with h | h | h
  · have H := Lib.hid (cmpI_lt h)
    have h1 : decide (a < b) = true := decide_eq_true h
    clear h
    go_enter Tryd.func44, Tryd.ntmps44
    go_wp2
    go_ret
    exact ⟨by rw [H.out]; rfl, rfl⟩
  · have H := Lib.hid (cmpI_eq h)
    have h1 : decide (a < b) = false := decide_eq_false (by omega)
    have h2 : decide (b < a) = false := decide_eq_false (by omega)
    clear h
    go_enter Tryd.func44, Tryd.ntmps44
    go_wp2
    go_ret
    exact ⟨by rw [H.out]; rfl, rfl⟩
  · have H := Lib.hid (cmpI_gt h)
    have h1 : decide (a < b) = false := decide_eq_false (by omega)
    have h2 : decide (b < a) = true := decide_eq_true h
    clear h
    go_enter Tryd.func44, Tryd.ntmps44
    go_wp2
    go_ret
    exact ⟨by rw [H.out]; rfl, rfl⟩

set_option maxHeartbeats 1000000 in
set_option maxRecDepth 100000 in
theorem wcmp23 (u v : Int) (w : World) :
    Calls Tryd.prog 23 #[.agg #[.int .i64 (hiW u), .int .u64 (loW u)], .agg #[.int .i64 (hiW v), .int .u64 (loW v)]] w fun e w' => e = .returned (.int .i64 (cmpI u v)) ∧ Below w.heap.size w w' := by
  rw [← wide_cmp]
  generalize hiW u = a
  generalize loW u = b
  generalize hiW v = c
  generalize loW v = d
  have HB := Below.refl w.heap.size w
  go_enter Tryd.func23, Tryd.ntmps23
  go_wp2_with fail
  go_region_held3 (fun w' => w'.cell? ⟨w.heap.size, 0, none⟩ = some (.int .i64 a) ∧ w'.cell? ⟨w.heap.size, 1, none⟩ = some (.int .u64 b) ∧ w'.cell? ⟨w.heap.size + 1, 0, none⟩ = some (.int .i64 c) ∧ w'.cell? ⟨w.heap.size + 1, 1, none⟩ = some (.int .u64 d)) ((repeat' apply And.intro) <;> go_simp) (first | (go_at_call 43; refine (compare43 _ _ _).mono ?_; rintro e w' ⟨rfl, rfl⟩) | (go_at_call 44; refine (compare44 _ _ _).mono ?_; rintro e w' ⟨rfl, rfl⟩) | (go_at_call 42; refine (or2_calls _ _ (cmpI a c) (cmpI b d) _ (by go_simp) (by go_simp)).mono ?_; rintro e w' ⟨rfl, rfl⟩))
  all_goals
    go_wp2
    go_ret
    exact ⟨rfl, by repeat (first | (with_reducible exact HB) | (with_reducible exact Below.refl _ _) | (with_reducible apply bd) | (with_reducible apply ba) | (with_reducible refine bs ?_ (by first | (simp; done) | (simp; omega)) _))⟩

end Go.Proofs.YtkamnnkdadfebaaDoor
