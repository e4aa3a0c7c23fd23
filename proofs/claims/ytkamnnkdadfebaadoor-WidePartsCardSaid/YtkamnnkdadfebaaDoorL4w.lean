import Derived.Test.YtkamnnkdadfebaaDoorR4
import Derived.Test.YtkamnnkdadfebaaDoorR4b
namespace Go.Proofs.YtkamnnkdadfebaaDoor
open Go.RowKit
attribute [local go_sem high] eq24 eq37

set_option maxHeartbeats 4000000 in
set_option maxRecDepth 100000 in
theorem wideParts_in00 (aa bb cc bc p0 p1 q0 q1 s0 s1 sg : Int) (w : World) (htab : Tab w)
    (t1 : decide (2305843009213693952 < bb) = false) (t2 : decide (bb < -2305843009213693952) = false) (t3 : decide (2305843009213693952 < cc) = false) (t4 : decide (cc < -2305843009213693952) = false)
    (m1 : ∀ w : World, Calls Tryd.prog 12 #[.int .i64 aa, .int .i64 bb] w fun e w' => e = .returned (.agg #[.int .i64 p0, .int .u64 p1]) ∧ Below w.heap.size w w')
    (m2 : ∀ w : World, Calls Tryd.prog 12 #[.int .i64 aa, .int .i64 cc] w fun e w' => e = .returned (.agg #[.int .i64 q0, .int .u64 q1]) ∧ Below w.heap.size w w')
    (m3 : ∀ w : World, Calls Tryd.prog 12 #[.int .i64 aa, .int .i64 bc] w fun e w' => e = .returned (.agg #[.int .i64 s0, .int .u64 s1]) ∧ Below w.heap.size w w')
    (m4 : ∀ w : World, Calls Tryd.prog 13 #[.agg #[.int .i64 p0, .int .u64 p1], .agg #[.int .i64 q0, .int .u64 q1]] w fun e w' => e = .returned (.tuple #[.agg #[.int .i64 s0, .int .u64 s1], .bool true]) ∧ Below w.heap.size w w')
    (m5 : ∀ w : World, Calls Tryd.prog 14 #[.agg #[.int .i64 s0, .int .u64 s1], .agg #[.int .i64 q0, .int .u64 q1]] w fun e w' => e = .returned (.tuple #[.agg #[.int .i64 p0, .int .u64 p1], .bool true]) ∧ Below w.heap.size w w')
    (m6 : ∀ w : World, Calls Tryd.prog 15 #[.agg #[.int .i64 p0, .int .u64 p1]] w fun e w' => e = .returned (.int .i64 sg) ∧ Below w.heap.size w w') (e1 : (sg == 0) = false) (e2 : (aa == 0) = false) (e3 : (bb == 0) = false) (e4 : IntKind.i64.wrap (bb + cc) = bc) :
    Calls Tryd.prog 4 #[.int .i64 aa, .int .i64 bb, .int .i64 cc] w fun e w' => e = .returned (.bool true) ∧ Below w.heap.size w w' := by
  have HB := Below.refl w.heap.size w
  go_enter Tryd.func4, Tryd.ntmps4
  go_wp2_with fail
  refine (m1 _).mono ?_; rintro e w1 ⟨rfl, hb⟩; (with_reducible (repeat replace hb := undr hb))
  replace HB : Below w.heap.size w w1 := bt (by repeat (first | (with_reducible exact HB) | (with_reducible exact Below.refl _ _) | (with_reducible apply bd) | (with_reducible apply ba) | (with_reducible refine bs ?_ (by first | (simp; done) | (simp; omega)) _))) hb
  clear hb
  go_wp2_with fail
  refine (m2 _).mono ?_; rintro e w2 ⟨rfl, hb⟩; (with_reducible (repeat replace hb := undr hb))
  replace HB : Below w.heap.size w w2 := bt (by repeat (first | (with_reducible exact HB) | (with_reducible exact Below.refl _ _) | (with_reducible apply bd) | (with_reducible apply ba) | (with_reducible refine bs ?_ (by first | (simp; done) | (simp; omega)) _))) hb
  clear hb
  go_wp2_with fail
  refine (m4 _).mono ?_; rintro e w3 ⟨rfl, hb⟩; (with_reducible (repeat replace hb := undr hb))
  replace HB : Below w.heap.size w w3 := bt (by repeat (first | (with_reducible exact HB) | (with_reducible exact Below.refl _ _) | (with_reducible apply bd) | (with_reducible apply ba) | (with_reducible refine bs ?_ (by first | (simp; done) | (simp; omega)) _))) hb
  clear hb
  go_wp2_with fail
  refine region4_4 aa cc p0 p1 q0 q1 s0 s1 w3.heap.size w m2 m5 (by kernel_rfl) rfl rfl rfl rfl ⟨?_, ?_, ?_⟩ (fun kx w4 hS hN => ?_)
  iterate 2 (focus (go_simp; done))
  · exact (by repeat (first | (with_reducible exact HB) | (with_reducible exact Below.refl _ _) | (with_reducible apply bd) | (with_reducible apply ba) | (with_reducible refine bs ?_ (by first | (simp; done) | (simp; omega)) _)))
  obtain ⟨hs0, hs1, HB⟩ := hS
  obtain ⟨hp0, hp1, -, -, -⟩ := hN
  simp only [List.setIfInBounds_toArray, List.set_cons_zero, List.set_cons_succ]
  go_wp2_with fail
  refine region4_5_00 aa bb cc bc p0 p1 s0 s1 sg w3.heap.size kx w htab m3 m1 m6 e1 e2 e3 e4 (by kernel_rfl) rfl rfl rfl rfl rfl rfl rfl rfl ⟨?_, ?_, ?_, ?_, ?_⟩ (fun w5 hS => ?_)
  iterate 4 (focus (go_simp; done))
  · exact (by repeat (first | (with_reducible exact HB) | (with_reducible exact Below.refl _ _) | (with_reducible apply bd) | (with_reducible apply ba) | (with_reducible refine bs ?_ (by first | (simp; done) | (simp; omega)) _)))
  obtain ⟨-, -, -, -, HB⟩ := hS
  simp only [List.setIfInBounds_toArray, List.set_cons_zero, List.set_cons_succ]
  go_wp2_with fail
  go_ret
  exact ⟨rfl, by repeat (first | (with_reducible exact HB) | (with_reducible exact Below.refl _ _) | (with_reducible apply bd) | (with_reducible apply ba) | (with_reducible refine bs ?_ (by first | (simp; done) | (simp; omega)) _))⟩

set_option maxHeartbeats 4000000 in
set_option maxRecDepth 100000 in
theorem wideParts_in01 (aa bb cc bc p0 p1 q0 q1 s0 s1 sg : Int) (w : World) (htab : Tab w)
    (t1 : decide (2305843009213693952 < bb) = false) (t2 : decide (bb < -2305843009213693952) = false) (t3 : decide (2305843009213693952 < cc) = false) (t4 : decide (cc < -2305843009213693952) = false)
    (m1 : ∀ w : World, Calls Tryd.prog 12 #[.int .i64 aa, .int .i64 bb] w fun e w' => e = .returned (.agg #[.int .i64 p0, .int .u64 p1]) ∧ Below w.heap.size w w')
    (m2 : ∀ w : World, Calls Tryd.prog 12 #[.int .i64 aa, .int .i64 cc] w fun e w' => e = .returned (.agg #[.int .i64 q0, .int .u64 q1]) ∧ Below w.heap.size w w')
    (m3 : ∀ w : World, Calls Tryd.prog 12 #[.int .i64 aa, .int .i64 bc] w fun e w' => e = .returned (.agg #[.int .i64 s0, .int .u64 s1]) ∧ Below w.heap.size w w')
    (m4 : ∀ w : World, Calls Tryd.prog 13 #[.agg #[.int .i64 p0, .int .u64 p1], .agg #[.int .i64 q0, .int .u64 q1]] w fun e w' => e = .returned (.tuple #[.agg #[.int .i64 s0, .int .u64 s1], .bool true]) ∧ Below w.heap.size w w')
    (m5 : ∀ w : World, Calls Tryd.prog 14 #[.agg #[.int .i64 s0, .int .u64 s1], .agg #[.int .i64 q0, .int .u64 q1]] w fun e w' => e = .returned (.tuple #[.agg #[.int .i64 p0, .int .u64 p1], .bool true]) ∧ Below w.heap.size w w')
    (m6 : ∀ w : World, Calls Tryd.prog 15 #[.agg #[.int .i64 p0, .int .u64 p1]] w fun e w' => e = .returned (.int .i64 sg) ∧ Below w.heap.size w w') (e1 : (sg == 0) = true) (e2 : (aa == 0) = false) (e3 : (bb == 0) = true) (e4 : IntKind.i64.wrap (bb + cc) = bc) :
    Calls Tryd.prog 4 #[.int .i64 aa, .int .i64 bb, .int .i64 cc] w fun e w' => e = .returned (.bool true) ∧ Below w.heap.size w w' := by
  have HB := Below.refl w.heap.size w
  go_enter Tryd.func4, Tryd.ntmps4
  go_wp2_with fail
  refine (m1 _).mono ?_; rintro e w1 ⟨rfl, hb⟩; (with_reducible (repeat replace hb := undr hb))
  replace HB : Below w.heap.size w w1 := bt (by repeat (first | (with_reducible exact HB) | (with_reducible exact Below.refl _ _) | (with_reducible apply bd) | (with_reducible apply ba) | (with_reducible refine bs ?_ (by first | (simp; done) | (simp; omega)) _))) hb
  clear hb
  go_wp2_with fail
  refine (m2 _).mono ?_; rintro e w2 ⟨rfl, hb⟩; (with_reducible (repeat replace hb := undr hb))
  replace HB : Below w.heap.size w w2 := bt (by repeat (first | (with_reducible exact HB) | (with_reducible exact Below.refl _ _) | (with_reducible apply bd) | (with_reducible apply ba) | (with_reducible refine bs ?_ (by first | (simp; done) | (simp; omega)) _))) hb
  clear hb
  go_wp2_with fail
  refine (m4 _).mono ?_; rintro e w3 ⟨rfl, hb⟩; (with_reducible (repeat replace hb := undr hb))
  replace HB : Below w.heap.size w w3 := bt (by repeat (first | (with_reducible exact HB) | (with_reducible exact Below.refl _ _) | (with_reducible apply bd) | (with_reducible apply ba) | (with_reducible refine bs ?_ (by first | (simp; done) | (simp; omega)) _))) hb
  clear hb
  go_wp2_with fail
  refine region4_4 aa cc p0 p1 q0 q1 s0 s1 w3.heap.size w m2 m5 (by kernel_rfl) rfl rfl rfl rfl ⟨?_, ?_, ?_⟩ (fun kx w4 hS hN => ?_)
  iterate 2 (focus (go_simp; done))
  · exact (by repeat (first | (with_reducible exact HB) | (with_reducible exact Below.refl _ _) | (with_reducible apply bd) | (with_reducible apply ba) | (with_reducible refine bs ?_ (by first | (simp; done) | (simp; omega)) _)))
  obtain ⟨hs0, hs1, HB⟩ := hS
  obtain ⟨hp0, hp1, -, -, -⟩ := hN
  simp only [List.setIfInBounds_toArray, List.set_cons_zero, List.set_cons_succ]
  go_wp2_with fail
  refine region4_5_01 aa bb cc bc p0 p1 s0 s1 sg w3.heap.size kx w htab m3 m1 m6 e1 e2 e3 e4 (by kernel_rfl) rfl rfl rfl rfl rfl rfl rfl rfl ⟨?_, ?_, ?_, ?_, ?_⟩ (fun w5 hS => ?_)
  iterate 4 (focus (go_simp; done))
  · exact (by repeat (first | (with_reducible exact HB) | (with_reducible exact Below.refl _ _) | (with_reducible apply bd) | (with_reducible apply ba) | (with_reducible refine bs ?_ (by first | (simp; done) | (simp; omega)) _)))
  obtain ⟨-, -, -, -, HB⟩ := hS
  simp only [List.setIfInBounds_toArray, List.set_cons_zero, List.set_cons_succ]
  go_wp2_with fail
  go_ret
  exact ⟨rfl, by repeat (first | (with_reducible exact HB) | (with_reducible exact Below.refl _ _) | (with_reducible apply bd) | (with_reducible apply ba) | (with_reducible refine bs ?_ (by first | (simp; done) | (simp; omega)) _))⟩

set_option maxHeartbeats 4000000 in
set_option maxRecDepth 100000 in
theorem wideParts_in10 (aa bb cc bc p0 p1 q0 q1 s0 s1 sg : Int) (w : World) (htab : Tab w)
    (t1 : decide (2305843009213693952 < bb) = false) (t2 : decide (bb < -2305843009213693952) = false) (t3 : decide (2305843009213693952 < cc) = false) (t4 : decide (cc < -2305843009213693952) = false)
    (m1 : ∀ w : World, Calls Tryd.prog 12 #[.int .i64 aa, .int .i64 bb] w fun e w' => e = .returned (.agg #[.int .i64 p0, .int .u64 p1]) ∧ Below w.heap.size w w')
    (m2 : ∀ w : World, Calls Tryd.prog 12 #[.int .i64 aa, .int .i64 cc] w fun e w' => e = .returned (.agg #[.int .i64 q0, .int .u64 q1]) ∧ Below w.heap.size w w')
    (m3 : ∀ w : World, Calls Tryd.prog 12 #[.int .i64 aa, .int .i64 bc] w fun e w' => e = .returned (.agg #[.int .i64 s0, .int .u64 s1]) ∧ Below w.heap.size w w')
    (m4 : ∀ w : World, Calls Tryd.prog 13 #[.agg #[.int .i64 p0, .int .u64 p1], .agg #[.int .i64 q0, .int .u64 q1]] w fun e w' => e = .returned (.tuple #[.agg #[.int .i64 s0, .int .u64 s1], .bool true]) ∧ Below w.heap.size w w')
    (m5 : ∀ w : World, Calls Tryd.prog 14 #[.agg #[.int .i64 s0, .int .u64 s1], .agg #[.int .i64 q0, .int .u64 q1]] w fun e w' => e = .returned (.tuple #[.agg #[.int .i64 p0, .int .u64 p1], .bool true]) ∧ Below w.heap.size w w')
    (m6 : ∀ w : World, Calls Tryd.prog 15 #[.agg #[.int .i64 p0, .int .u64 p1]] w fun e w' => e = .returned (.int .i64 sg) ∧ Below w.heap.size w w') (e1 : (sg == 0) = true) (e2 : (aa == 0) = true) (e3 : (bb == 0) = false) (e4 : IntKind.i64.wrap (bb + cc) = bc) :
    Calls Tryd.prog 4 #[.int .i64 aa, .int .i64 bb, .int .i64 cc] w fun e w' => e = .returned (.bool true) ∧ Below w.heap.size w w' := by
  have HB := Below.refl w.heap.size w
  go_enter Tryd.func4, Tryd.ntmps4
  go_wp2_with fail
  refine (m1 _).mono ?_; rintro e w1 ⟨rfl, hb⟩; (with_reducible (repeat replace hb := undr hb))
  replace HB : Below w.heap.size w w1 := bt (by repeat (first | (with_reducible exact HB) | (with_reducible exact Below.refl _ _) | (with_reducible apply bd) | (with_reducible apply ba) | (with_reducible refine bs ?_ (by first | (simp; done) | (simp; omega)) _))) hb
  clear hb
  go_wp2_with fail
  refine (m2 _).mono ?_; rintro e w2 ⟨rfl, hb⟩; (with_reducible (repeat replace hb := undr hb))
  replace HB : Below w.heap.size w w2 := bt (by repeat (first | (with_reducible exact HB) | (with_reducible exact Below.refl _ _) | (with_reducible apply bd) | (with_reducible apply ba) | (with_reducible refine bs ?_ (by first | (simp; done) | (simp; omega)) _))) hb
  clear hb
  go_wp2_with fail
  refine (m4 _).mono ?_; rintro e w3 ⟨rfl, hb⟩; (with_reducible (repeat replace hb := undr hb))
  replace HB : Below w.heap.size w w3 := bt (by repeat (first | (with_reducible exact HB) | (with_reducible exact Below.refl _ _) | (with_reducible apply bd) | (with_reducible apply ba) | (with_reducible refine bs ?_ (by first | (simp; done) | (simp; omega)) _))) hb
  clear hb
  go_wp2_with fail
  refine region4_4 aa cc p0 p1 q0 q1 s0 s1 w3.heap.size w m2 m5 (by kernel_rfl) rfl rfl rfl rfl ⟨?_, ?_, ?_⟩ (fun kx w4 hS hN => ?_)
  iterate 2 (focus (go_simp; done))
  · exact (by repeat (first | (with_reducible exact HB) | (with_reducible exact Below.refl _ _) | (with_reducible apply bd) | (with_reducible apply ba) | (with_reducible refine bs ?_ (by first | (simp; done) | (simp; omega)) _)))
  obtain ⟨hs0, hs1, HB⟩ := hS
  obtain ⟨hp0, hp1, -, -, -⟩ := hN
  simp only [List.setIfInBounds_toArray, List.set_cons_zero, List.set_cons_succ]
  go_wp2_with fail
  refine region4_5_10 aa bb cc bc p0 p1 s0 s1 sg w3.heap.size kx w htab m3 m1 m6 e1 e2 e3 e4 (by kernel_rfl) rfl rfl rfl rfl rfl rfl rfl rfl ⟨?_, ?_, ?_, ?_, ?_⟩ (fun w5 hS => ?_)
  iterate 4 (focus (go_simp; done))
  · exact (by repeat (first | (with_reducible exact HB) | (with_reducible exact Below.refl _ _) | (with_reducible apply bd) | (with_reducible apply ba) | (with_reducible refine bs ?_ (by first | (simp; done) | (simp; omega)) _)))
  obtain ⟨-, -, -, -, HB⟩ := hS
  simp only [List.setIfInBounds_toArray, List.set_cons_zero, List.set_cons_succ]
  go_wp2_with fail
  go_ret
  exact ⟨rfl, by repeat (first | (with_reducible exact HB) | (with_reducible exact Below.refl _ _) | (with_reducible apply bd) | (with_reducible apply ba) | (with_reducible refine bs ?_ (by first | (simp; done) | (simp; omega)) _))⟩

set_option maxHeartbeats 4000000 in
set_option maxRecDepth 100000 in
theorem wideParts_in11 (aa bb cc bc p0 p1 q0 q1 s0 s1 sg : Int) (w : World) (htab : Tab w)
    (t1 : decide (2305843009213693952 < bb) = false) (t2 : decide (bb < -2305843009213693952) = false) (t3 : decide (2305843009213693952 < cc) = false) (t4 : decide (cc < -2305843009213693952) = false)
    (m1 : ∀ w : World, Calls Tryd.prog 12 #[.int .i64 aa, .int .i64 bb] w fun e w' => e = .returned (.agg #[.int .i64 p0, .int .u64 p1]) ∧ Below w.heap.size w w')
    (m2 : ∀ w : World, Calls Tryd.prog 12 #[.int .i64 aa, .int .i64 cc] w fun e w' => e = .returned (.agg #[.int .i64 q0, .int .u64 q1]) ∧ Below w.heap.size w w')
    (m3 : ∀ w : World, Calls Tryd.prog 12 #[.int .i64 aa, .int .i64 bc] w fun e w' => e = .returned (.agg #[.int .i64 s0, .int .u64 s1]) ∧ Below w.heap.size w w')
    (m4 : ∀ w : World, Calls Tryd.prog 13 #[.agg #[.int .i64 p0, .int .u64 p1], .agg #[.int .i64 q0, .int .u64 q1]] w fun e w' => e = .returned (.tuple #[.agg #[.int .i64 s0, .int .u64 s1], .bool true]) ∧ Below w.heap.size w w')
    (m5 : ∀ w : World, Calls Tryd.prog 14 #[.agg #[.int .i64 s0, .int .u64 s1], .agg #[.int .i64 q0, .int .u64 q1]] w fun e w' => e = .returned (.tuple #[.agg #[.int .i64 p0, .int .u64 p1], .bool true]) ∧ Below w.heap.size w w')
    (m6 : ∀ w : World, Calls Tryd.prog 15 #[.agg #[.int .i64 p0, .int .u64 p1]] w fun e w' => e = .returned (.int .i64 sg) ∧ Below w.heap.size w w') (e1 : (sg == 0) = true) (e2 : (aa == 0) = true) (e3 : (bb == 0) = true) (e4 : IntKind.i64.wrap (bb + cc) = bc) :
    Calls Tryd.prog 4 #[.int .i64 aa, .int .i64 bb, .int .i64 cc] w fun e w' => e = .returned (.bool true) ∧ Below w.heap.size w w' := by
  have HB := Below.refl w.heap.size w
  go_enter Tryd.func4, Tryd.ntmps4
  go_wp2_with fail
  refine (m1 _).mono ?_; rintro e w1 ⟨rfl, hb⟩; (with_reducible (repeat replace hb := undr hb))
  replace HB : Below w.heap.size w w1 := bt (by repeat (first | (with_reducible exact HB) | (with_reducible exact Below.refl _ _) | (with_reducible apply bd) | (with_reducible apply ba) | (with_reducible refine bs ?_ (by first | (simp; done) | (simp; omega)) _))) hb
  clear hb
  go_wp2_with fail
  refine (m2 _).mono ?_; rintro e w2 ⟨rfl, hb⟩; (with_reducible (repeat replace hb := undr hb))
  replace HB : Below w.heap.size w w2 := bt (by repeat (first | (with_reducible exact HB) | (with_reducible exact Below.refl _ _) | (with_reducible apply bd) | (with_reducible apply ba) | (with_reducible refine bs ?_ (by first | (simp; done) | (simp; omega)) _))) hb
  clear hb
  go_wp2_with fail
  refine (m4 _).mono ?_; rintro e w3 ⟨rfl, hb⟩; (with_reducible (repeat replace hb := undr hb))
  replace HB : Below w.heap.size w w3 := bt (by repeat (first | (with_reducible exact HB) | (with_reducible exact Below.refl _ _) | (with_reducible apply bd) | (with_reducible apply ba) | (with_reducible refine bs ?_ (by first | (simp; done) | (simp; omega)) _))) hb
  clear hb
  go_wp2_with fail
  refine region4_4 aa cc p0 p1 q0 q1 s0 s1 w3.heap.size w m2 m5 (by kernel_rfl) rfl rfl rfl rfl ⟨?_, ?_, ?_⟩ (fun kx w4 hS hN => ?_)
  iterate 2 (focus (go_simp; done))
  · exact (by repeat (first | (with_reducible exact HB) | (with_reducible exact Below.refl _ _) | (with_reducible apply bd) | (with_reducible apply ba) | (with_reducible refine bs ?_ (by first | (simp; done) | (simp; omega)) _)))
  obtain ⟨hs0, hs1, HB⟩ := hS
  obtain ⟨hp0, hp1, -, -, -⟩ := hN
  simp only [List.setIfInBounds_toArray, List.set_cons_zero, List.set_cons_succ]
  go_wp2_with fail
  refine region4_5_11 aa bb cc bc p0 p1 s0 s1 sg w3.heap.size kx w htab m3 m1 m6 e1 e2 e3 e4 (by kernel_rfl) rfl rfl rfl rfl rfl rfl rfl rfl ⟨?_, ?_, ?_, ?_, ?_⟩ (fun w5 hS => ?_)
  iterate 4 (focus (go_simp; done))
  · exact (by repeat (first | (with_reducible exact HB) | (with_reducible exact Below.refl _ _) | (with_reducible apply bd) | (with_reducible apply ba) | (with_reducible refine bs ?_ (by first | (simp; done) | (simp; omega)) _)))
  obtain ⟨-, -, -, -, HB⟩ := hS
  simp only [List.setIfInBounds_toArray, List.set_cons_zero, List.set_cons_succ]
  go_wp2_with fail
  go_ret
  exact ⟨rfl, by repeat (first | (with_reducible exact HB) | (with_reducible exact Below.refl _ _) | (with_reducible apply bd) | (with_reducible apply ba) | (with_reducible refine bs ?_ (by first | (simp; done) | (simp; omega)) _))⟩

set_option maxHeartbeats 4000000 in
set_option maxRecDepth 100000 in
theorem wideParts_out (aa bb cc : Int) (w : World) (htab : Tab w)
    (t : decide (2305843009213693952 < bb) = true ∨ (decide (2305843009213693952 < bb) = false ∧ decide (bb < -2305843009213693952) = true) ∨ (decide (2305843009213693952 < bb) = false ∧ decide (bb < -2305843009213693952) = false ∧ decide (2305843009213693952 < cc) = true) ∨ (decide (2305843009213693952 < bb) = false ∧ decide (bb < -2305843009213693952) = false ∧ decide (2305843009213693952 < cc) = false ∧ decide (cc < -2305843009213693952) = true)) :
    Calls Tryd.prog 4 #[.int .i64 aa, .int .i64 bb, .int .i64 cc] w fun e w' => e = .returned (.bool true) ∧ Below w.heap.size w w' := by
  have HB := Below.refl w.heap.size w
  rcases t with t1 | ⟨t1, t2⟩ | ⟨t1, t2, t3⟩ | ⟨t1, t2, t3, t4⟩
  all_goals
    go_enter Tryd.func4, Tryd.ntmps4
    go_wp2_with fail
    refine (awake9 _ (tab_below htab (by repeat (first | (with_reducible exact HB) | (with_reducible exact Below.refl _ _) | (with_reducible apply bd) | (with_reducible apply ba) | (with_reducible refine bs ?_ (by first | (simp; done) | (simp; omega)) _))))).mono ?_; rintro e w1 ⟨rfl, hb⟩; (with_reducible (repeat replace hb := undr hb))
    replace HB : Below w.heap.size w w1 := bt (by repeat (first | (with_reducible exact HB) | (with_reducible exact Below.refl _ _) | (with_reducible apply bd) | (with_reducible apply ba) | (with_reducible refine bs ?_ (by first | (simp; done) | (simp; omega)) _))) hb
    clear hb
    go_wp2_with fail
    go_ret
    exact ⟨rfl, by repeat (first | (with_reducible exact HB) | (with_reducible exact Below.refl _ _) | (with_reducible apply bd) | (with_reducible apply ba) | (with_reducible refine bs ?_ (by first | (simp; done) | (simp; omega)) _))⟩

theorem prod_cases (n b : Int) : (cmpI (n * b) 0 == 0) = ((n == 0) || (b == 0)) := by
  rw [Bool.eq_iff_iff]
  simp only [beq_iff_eq, Bool.or_eq_true]
  constructor
  · intro h
    have : n * b = 0 := by
      rcases Int.lt_trichotomy (n * b) 0 with k | k | k
      · rw [cmpI_lt k] at h; omega
      · exact k
      · rw [cmpI_gt k] at h; omega
    exact Int.mul_eq_zero.1 this
  · intro h; exact cmpI_eq (Int.mul_eq_zero.2 h)

theorem mul61 (n b : Int) (n1 : -9223372036854775808 ≤ n) (n2 : n ≤ 9223372036854775807) (b1 : -2305843009213693952 ≤ b) (b2 : b ≤ 2305843009213693952) : -21267647932558653966460912964485513216 ≤ n * b ∧ n * b ≤ 21267647932558653966460912964485513216 := by
  have k1 : 0 ≤ (n + 9223372036854775808) * (b + 2305843009213693952) := Int.mul_nonneg (by omega) (by omega)
  have k2 : 0 ≤ (9223372036854775808 - n) * (2305843009213693952 - b) := Int.mul_nonneg (by omega) (by omega)
  have k3 : 0 ≤ (n + 9223372036854775808) * (2305843009213693952 - b) := Int.mul_nonneg (by omega) (by omega)
  have k4 : 0 ≤ (9223372036854775808 - n) * (b + 2305843009213693952) := Int.mul_nonneg (by omega) (by omega)
  simp only [Int.add_mul, Int.mul_add, Int.sub_mul, Int.mul_sub] at k1 k2 k3 k4
  omega

theorem wideParts_walk (n : Int) (n1 : -9223372036854775808 ≤ n) (n2 : n ≤ 9223372036854775807) (b : Int) (b1 : -9223372036854775808 ≤ b) (b2 : b ≤ 9223372036854775807) (c : Int) (c1 : -9223372036854775808 ≤ c) (c2 : c ≤ 9223372036854775807) (w : World) (htab : Tab w) :
    Calls Tryd.prog 4 #[.int .i64 n, .int .i64 b, .int .i64 c] w fun e w' => e = .returned (.bool true) ∧ Below w.heap.size w w' := by
  by_cases g1 : 2305843009213693952 < b
  · exact wideParts_out n b c w htab (.inl (decide_eq_true g1))
  by_cases g2 : b < -2305843009213693952
  · exact wideParts_out n b c w htab (.inr (.inl ⟨decide_eq_false g1, decide_eq_true g2⟩))
  by_cases g3 : 2305843009213693952 < c
  · exact wideParts_out n b c w htab (.inr (.inr (.inl ⟨decide_eq_false g1, decide_eq_false g2, decide_eq_true g3⟩)))
  by_cases g4 : c < -2305843009213693952
  · exact wideParts_out n b c w htab (.inr (.inr (.inr ⟨decide_eq_false g1, decide_eq_false g2, decide_eq_false g3, decide_eq_true g4⟩)))
  have h1 := mul61 n b n1 n2 (by omega) (by omega)
  have h2 := mul61 n c n1 n2 (by omega) (by omega)
  have f1 : fits (n * b) = true := fits_yes (by omega) (by omega)
  have f2 : fits (n * c) = true := fits_yes (by omega) (by omega)
  have f3 : fits (n * b + n * c) = true := fits_yes (by omega) (by omega)
  have M1 := fun w => mul12 n b n1 n2 b1 b2 w
  have M2 := fun w => mul12 n c n1 n2 c1 c2 w
  have M3 := fun w => mul12 n (b + c) n1 n2 (by omega) (by omega) w
  have A := fun w => add13 (n * b) (n * c) w f1 f2
  have S := fun w => sub14 (n * b + n * c) (n * c) w f3 f2
  have G := fun w => sign15 (n * b) w
  rw [cutA_yes f3, f3] at A
  rw [show n * b + n * c - n * c = n * b by omega, cutA_yes f1, f1] at S
  rw [Int.mul_add] at M3
  have E := prod_cases n b
  have e4 : IntKind.i64.wrap (b + c) = b + c := by rw [IntKind.wrap_i64]; omega
  have t1 : decide (2305843009213693952 < b) = false := decide_eq_false g1
  have t2 : decide (b < -2305843009213693952) = false := decide_eq_false g2
  have t3 : decide (2305843009213693952 < c) = false := decide_eq_false g3
  have t4 : decide (c < -2305843009213693952) = false := decide_eq_false g4
  cases x : (n == 0) <;> cases y : (b == 0) <;> rw [x, y] at E
  · exact wideParts_in00 n b c (b + c) _ _ _ _ _ _ _ w htab t1 t2 t3 t4 M1 M2 M3 A S G E x y e4
  · exact wideParts_in01 n b c (b + c) _ _ _ _ _ _ _ w htab t1 t2 t3 t4 M1 M2 M3 A S G E x y e4
  · exact wideParts_in10 n b c (b + c) _ _ _ _ _ _ _ w htab t1 t2 t3 t4 M1 M2 M3 A S G E x y e4
  · exact wideParts_in11 n b c (b + c) _ _ _ _ _ _ _ w htab t1 t2 t3 t4 M1 M2 M3 A S G E x y e4
end Go.Proofs.YtkamnnkdadfebaaDoor
