import Derived.Test.YtkamnnkdadfebaaDoorB5
import Derived.Test.YtkamnnkdadfebaaDoorB6
import Derived.Test.YtkamnnkdadfebaaDoorA5
import Derived.Test.YtkamnnkdadfebaaDoorC3
namespace Go.Proofs.YtkamnnkdadfebaaDoor
open Go.RowKit
attribute [local go_sem high] eq24 eq37

theorem itoa_least : Lib.itoa (-170141183460469231731687303715884105728) = [45, 49, 55, 48, 49, 52, 49, 49, 56, 51, 52, 54, 48, 52, 54, 57, 50, 51, 49, 55, 51, 49, 54, 56, 55, 51, 48, 51, 55, 49, 53, 56, 56, 52, 49, 48, 53, 55, 50, 56] := by
  have h := Lib.itoa_neg 170141183460469231731687303715884105728 (by omega)
  rw [dec_num 170141183460469231731687303715884105728 38 (by omega) (by omega)] at h
  exact h.trans (by decide +kernel)
theorem itoa_p64 : Lib.itoa 18446744073709551616 = [49, 56, 52, 52, 54, 55, 52, 52, 48, 55, 51, 55, 48, 57, 53, 53, 49, 54, 49, 54] := by
  have h := Lib.itoa_nonneg 18446744073709551616
  rw [dec_num 18446744073709551616 19 (by omega) (by omega)] at h
  exact h.trans (by decide +kernel)
theorem read1 : parseW [45, 49, 55, 48, 49, 52, 49, 49, 56, 51, 52, 54, 48, 52, 54, 57, 50, 51, 49, 55, 51, 49, 54, 56, 55, 51, 48, 51, 55, 49, 53, 56, 56, 52, 49, 48, 53, 55, 50, 56] = some (-170141183460469231731687303715884105728) := by
  rw [← itoa_least]; exact parseW_itoa _ (by decide)
theorem read2 : parseW [49, 55, 48, 49, 52, 49, 49, 56, 51, 52, 54, 48, 52, 54, 57, 50, 51, 49, 55, 51, 49, 54, 56, 55, 51, 48, 51, 55, 49, 53, 56, 56, 52, 49, 48, 53, 55, 50, 56] = none := by
  have h : parseL [49, 55, 48, 49, 52, 49, 49, 56, 51, 52, 54, 48, 52, 54, 57, 50, 51, 49, 55, 51, 49, 54, 56, 55, 51, 48, 51, 55, 49, 53, 56, 56, 52, 49, 48, 53, 55, 50, 56] 0 = some 170141183460469231731687303715884105728 := by decide +kernel
  have e : Lib.trimPrefix [49, 55, 48, 49, 52, 49, 49, 56, 51, 52, 54, 48, 52, 54, 57, 50, 51, 49, 55, 51, 49, 54, 56, 55, 51, 48, 51, 55, 49, 53, 56, 56, 52, 49, 48, 53, 55, 50, 56] [45] = [49, 55, 48, 49, 52, 49, 49, 56, 51, 52, 54, 48, 52, 54, 57, 50, 51, 49, 55, 51, 49, 54, 56, 55, 51, 48, 51, 55, 49, 53, 56, 56, 52, 49, 48, 53, 55, 50, 56] := by decide +kernel
  unfold parseW
  rw [e, h, if_neg (by decide)]
  simp only [Option.bind_some]
  unfold finP
  rw [if_pos ⟨by omega, .inl rfl⟩]
theorem read3 : parseW [45, 48] = none := by
  have h : parseL [48] 0 = some 0 := by decide +kernel
  unfold parseW
  rw [trim_neg, h, if_neg (by decide)]
  simp only [Option.bind_some]
  unfold finP
  rw [if_neg (by omega), if_neg]
  have h := Lib.itoa_nonneg 0
  rw [dec_small (by omega)] at h
  intro e
  rw [if_neg (by decide)] at e
  have e2 := h.symm.trans e
  revert e2
  decide

theorem c12 (w : World) : Calls Tryd.prog 12 #[.int .i64 4611686018427387904, .int .i64 4] w fun e w' => e = .returned (.agg #[.int .i64 1, .int .u64 0]) ∧ Below w.heap.size w w' := by
  have := mul12 4611686018427387904 4 (by omega) (by omega) (by omega) (by omega) w
  exact this
theorem c26m (w : World) : Calls Tryd.prog 26 #[.int .i64 (-1)] w fun e w' => e = .returned (.agg #[.int .i64 (-1), .int .u64 18446744073709551615]) ∧ Below w.heap.size w w' := by
  exact from26 (-1) (by omega) (by omega) w
theorem c26p (w : World) : Calls Tryd.prog 26 #[.int .i64 1] w fun e w' => e = .returned (.agg #[.int .i64 0, .int .u64 1]) ∧ Below w.heap.size w w' := by
  exact from26 1 (by omega) (by omega) w
theorem c13a (w : World) : Calls Tryd.prog 13 #[.agg #[.int .i64 (-1), .int .u64 18446744073709551615], .agg #[.int .i64 0, .int .u64 1]] w fun e w' => e = .returned (.tuple #[.agg #[.int .i64 0, .int .u64 0], .bool true]) ∧ Below w.heap.size w w' := by
  exact add13 (-1) 1 w (by decide) (by decide)
theorem c13b (w : World) : Calls Tryd.prog 13 #[.agg #[.int .i64 9223372036854775807, .int .u64 18446744073709551615], .agg #[.int .i64 0, .int .u64 1]] w fun e w' => e = .returned (.tuple #[.agg #[.int .i64 0, .int .u64 0], .bool false]) ∧ Below w.heap.size w w' := by
  exact add13 170141183460469231731687303715884105727 1 w (by decide) (by decide)
theorem c10a (w : World) (htab : Tab w) : Calls Tryd.prog 10 #[.string ⟨#[45, 49, 55, 48, 49, 52, 49, 49, 56, 51, 52, 54, 48, 52, 54, 57, 50, 51, 49, 55, 51, 49, 54, 56, 55, 51, 48, 51, 55, 49, 53, 56, 56, 52, 49, 48, 53, 55, 50, 56]⟩] w fun e w' => e = .returned (.tuple #[.agg #[.int .i64 (-9223372036854775808), .int .u64 0], .int .i64 0]) ∧ Below w.heap.size w w' := by
  have h := parse10 [45, 49, 55, 48, 49, 52, 49, 49, 56, 51, 52, 54, 48, 52, 54, 57, 50, 51, 49, 55, 51, 49, 54, 56, 55, 51, 48, 51, 55, 49, 53, 56, 56, 52, 49, 48, 53, 55, 50, 56] w htab
  rw [read1] at h
  exact h
theorem c10b (w : World) (htab : Tab w) : Calls Tryd.prog 10 #[.string ⟨#[49, 55, 48, 49, 52, 49, 49, 56, 51, 52, 54, 48, 52, 54, 57, 50, 51, 49, 55, 51, 49, 54, 56, 55, 51, 48, 51, 55, 49, 53, 56, 56, 52, 49, 48, 53, 55, 50, 56]⟩] w fun e w' => e = .returned (.tuple #[.agg #[.int .i64 0, .int .u64 0], .int .i64 2]) ∧ Below w.heap.size w w' := by
  have h := parse10 [49, 55, 48, 49, 52, 49, 49, 56, 51, 52, 54, 48, 52, 54, 57, 50, 51, 49, 55, 51, 49, 54, 56, 55, 51, 48, 51, 55, 49, 53, 56, 56, 52, 49, 48, 53, 55, 50, 56] w htab
  rw [read2] at h
  exact h
theorem c10c (w : World) (htab : Tab w) : Calls Tryd.prog 10 #[.string ⟨#[45, 48]⟩] w fun e w' => e = .returned (.tuple #[.agg #[.int .i64 0, .int .u64 0], .int .i64 2]) ∧ Below w.heap.size w w' := by
  have h := parse10 [45, 48] w htab
  rw [read3] at h
  exact h
theorem c11 (w : World) (htab : Tab w) : Calls Tryd.prog 11 #[.agg #[.int .i64 1, .int .u64 0]] w fun e w' => e = .returned (.string ⟨#[49, 56, 52, 52, 54, 55, 52, 52, 48, 55, 51, 55, 48, 57, 53, 53, 49, 54, 49, 54]⟩) ∧ Below w.heap.size w w' := by
  have h := text11 18446744073709551616 (by omega) (by omega) w htab
  rw [itoa_p64] at h
  exact h
theorem c15 (w : World) : Calls Tryd.prog 15 #[.agg #[.int .i64 1, .int .u64 0]] w fun e w' => e = .returned (.int .i64 1) ∧ Below w.heap.size w w' := by
  exact sign15 18446744073709551616 w
theorem c23 (w : World) : Calls Tryd.prog 23 #[.agg #[.int .i64 1, .int .u64 0], .agg #[.int .i64 (-9223372036854775808), .int .u64 0]] w fun e w' => e = .returned (.int .i64 1) ∧ Below w.heap.size w w' := by
  exact wcmp23 18446744073709551616 (-170141183460469231731687303715884105728) w

set_option maxHeartbeats 4000000 in
set_option maxRecDepth 100000 in
theorem awake9 (w : World) (htab : Tab w) : Calls Tryd.prog 9 #[] w fun e w' => e = .returned (.bool true) ∧ Below w.heap.size w w' := by
  have HB := Below.refl w.heap.size w
  go_enter Tryd.func9, Tryd.ntmps9
  go_wp2_with fail
  refine (c12 _).mono ?_; rintro e w1 ⟨rfl, hb⟩; (with_reducible (repeat replace hb := undr hb))
  replace HB : Below w.heap.size w w1 := bt (by repeat (first | (with_reducible exact HB) | (with_reducible exact Below.refl _ _) | (with_reducible apply bd) | (with_reducible apply ba) | (with_reducible refine bs ?_ (by first | (simp; done) | (simp; omega)) _))) hb
  clear hb
  go_wp2_with fail
  refine (c26m _).mono ?_; rintro e w2 ⟨rfl, hb⟩; (with_reducible (repeat replace hb := undr hb))
  have ca0 := ck hb (a := ⟨w1.heap.size, 0, none⟩) (v := .int .i64 1) (by go_simp)
  have ca1 := ck hb (a := ⟨w1.heap.size, 1, none⟩) (v := .int .u64 0) (by go_simp)
  have zw1 : w1.heap.size < w2.heap.size := World.block_lt_of_cell? w2 _ ca0
  have nw1 : ¬ w1.heap.size = w2.heap.size := Nat.ne_of_lt zw1
  replace HB : Below w.heap.size w w2 := bt (by repeat (first | (with_reducible exact HB) | (with_reducible exact Below.refl _ _) | (with_reducible apply bd) | (with_reducible apply ba) | (with_reducible refine bs ?_ (by first | (simp; done) | (simp; omega)) _))) hb
  clear hb
  go_wp2_with fail
  refine (c26p _).mono ?_; rintro e w3 ⟨rfl, hb⟩; (with_reducible (repeat replace hb := undr hb))
  replace ca0 := ck hb (a := ⟨w1.heap.size, 0, none⟩) (v := .int .i64 1) (by go_simp)
  replace ca1 := ck hb (a := ⟨w1.heap.size, 1, none⟩) (v := .int .u64 0) (by go_simp)
  replace zw1 : w1.heap.size < w3.heap.size := World.block_lt_of_cell? w3 _ ca0
  replace nw1 : ¬ w1.heap.size = w3.heap.size := Nat.ne_of_lt zw1
  replace HB : Below w.heap.size w w3 := bt (by repeat (first | (with_reducible exact HB) | (with_reducible exact Below.refl _ _) | (with_reducible apply bd) | (with_reducible apply ba) | (with_reducible refine bs ?_ (by first | (simp; done) | (simp; omega)) _))) hb
  clear hb
  go_wp2_with fail
  refine (c13a _).mono ?_; rintro e w4 ⟨rfl, hb⟩; (with_reducible (repeat replace hb := undr hb))
  replace ca0 := ck hb (a := ⟨w1.heap.size, 0, none⟩) (v := .int .i64 1) (by go_simp)
  replace ca1 := ck hb (a := ⟨w1.heap.size, 1, none⟩) (v := .int .u64 0) (by go_simp)
  replace zw1 : w1.heap.size < w4.heap.size := World.block_lt_of_cell? w4 _ ca0
  replace nw1 : ¬ w1.heap.size = w4.heap.size := Nat.ne_of_lt zw1
  replace HB : Below w.heap.size w w4 := bt (by repeat (first | (with_reducible exact HB) | (with_reducible exact Below.refl _ _) | (with_reducible apply bd) | (with_reducible apply ba) | (with_reducible refine bs ?_ (by first | (simp; done) | (simp; omega)) _))) hb
  clear hb
  go_wp2_with fail
  refine (c26p _).mono ?_; rintro e w5 ⟨rfl, hb⟩; (with_reducible (repeat replace hb := undr hb))
  replace ca0 := ck hb (a := ⟨w1.heap.size, 0, none⟩) (v := .int .i64 1) (by go_simp)
  replace ca1 := ck hb (a := ⟨w1.heap.size, 1, none⟩) (v := .int .u64 0) (by go_simp)
  have cb0 := ck hb (a := ⟨w4.heap.size, 0, none⟩) (v := .int .i64 0) (by go_simp)
  have cb1 := ck hb (a := ⟨w4.heap.size, 1, none⟩) (v := .int .u64 0) (by go_simp)
  replace zw1 : w1.heap.size < w5.heap.size := World.block_lt_of_cell? w5 _ ca0
  replace nw1 : ¬ w1.heap.size = w5.heap.size := Nat.ne_of_lt zw1
  have zw4 : w4.heap.size < w5.heap.size := World.block_lt_of_cell? w5 _ cb0
  have nw4 : ¬ w4.heap.size = w5.heap.size := Nat.ne_of_lt zw4
  replace HB : Below w.heap.size w w5 := bt (by repeat (first | (with_reducible exact HB) | (with_reducible exact Below.refl _ _) | (with_reducible apply bd) | (with_reducible apply ba) | (with_reducible refine bs ?_ (by first | (simp; done) | (simp; omega)) _))) hb
  clear hb
  go_wp2_with fail
  refine (c13b _).mono ?_; rintro e w6 ⟨rfl, hb⟩; (with_reducible (repeat replace hb := undr hb))
  replace ca0 := ck hb (a := ⟨w1.heap.size, 0, none⟩) (v := .int .i64 1) (by go_simp)
  replace ca1 := ck hb (a := ⟨w1.heap.size, 1, none⟩) (v := .int .u64 0) (by go_simp)
  replace cb0 := ck hb (a := ⟨w4.heap.size, 0, none⟩) (v := .int .i64 0) (by go_simp)
  replace cb1 := ck hb (a := ⟨w4.heap.size, 1, none⟩) (v := .int .u64 0) (by go_simp)
  replace zw1 : w1.heap.size < w6.heap.size := World.block_lt_of_cell? w6 _ ca0
  replace nw1 : ¬ w1.heap.size = w6.heap.size := Nat.ne_of_lt zw1
  replace zw4 : w4.heap.size < w6.heap.size := World.block_lt_of_cell? w6 _ cb0
  replace nw4 : ¬ w4.heap.size = w6.heap.size := Nat.ne_of_lt zw4
  replace HB : Below w.heap.size w w6 := bt (by repeat (first | (with_reducible exact HB) | (with_reducible exact Below.refl _ _) | (with_reducible apply bd) | (with_reducible apply ba) | (with_reducible refine bs ?_ (by first | (simp; done) | (simp; omega)) _))) hb
  clear hb
  go_wp2_with fail
  refine (c10a _ (tab_below htab (by repeat (first | (with_reducible exact HB) | (with_reducible exact Below.refl _ _) | (with_reducible apply bd) | (with_reducible apply ba) | (with_reducible refine bs ?_ (by first | (simp; done) | (simp; omega)) _))))).mono ?_; rintro e w7 ⟨rfl, hb⟩; (with_reducible (repeat replace hb := undr hb))
  replace ca0 := ck hb (a := ⟨w1.heap.size, 0, none⟩) (v := .int .i64 1) (by go_simp)
  replace ca1 := ck hb (a := ⟨w1.heap.size, 1, none⟩) (v := .int .u64 0) (by go_simp)
  replace cb0 := ck hb (a := ⟨w4.heap.size, 0, none⟩) (v := .int .i64 0) (by go_simp)
  replace cb1 := ck hb (a := ⟨w4.heap.size, 1, none⟩) (v := .int .u64 0) (by go_simp)
  replace zw1 : w1.heap.size < w7.heap.size := World.block_lt_of_cell? w7 _ ca0
  replace nw1 : ¬ w1.heap.size = w7.heap.size := Nat.ne_of_lt zw1
  replace zw4 : w4.heap.size < w7.heap.size := World.block_lt_of_cell? w7 _ cb0
  replace nw4 : ¬ w4.heap.size = w7.heap.size := Nat.ne_of_lt zw4
  replace HB : Below w.heap.size w w7 := bt (by repeat (first | (with_reducible exact HB) | (with_reducible exact Below.refl _ _) | (with_reducible apply bd) | (with_reducible apply ba) | (with_reducible refine bs ?_ (by first | (simp; done) | (simp; omega)) _))) hb
  clear hb
  go_wp2_with fail
  refine (c10b _ (tab_below htab (by repeat (first | (with_reducible exact HB) | (with_reducible exact Below.refl _ _) | (with_reducible apply bd) | (with_reducible apply ba) | (with_reducible refine bs ?_ (by first | (simp; done) | (simp; omega)) _))))).mono ?_; rintro e w8 ⟨rfl, hb⟩; (with_reducible (repeat replace hb := undr hb))
  replace ca0 := ck hb (a := ⟨w1.heap.size, 0, none⟩) (v := .int .i64 1) (by go_simp)
  replace ca1 := ck hb (a := ⟨w1.heap.size, 1, none⟩) (v := .int .u64 0) (by go_simp)
  replace cb0 := ck hb (a := ⟨w4.heap.size, 0, none⟩) (v := .int .i64 0) (by go_simp)
  replace cb1 := ck hb (a := ⟨w4.heap.size, 1, none⟩) (v := .int .u64 0) (by go_simp)
  have cc0 := ck hb (a := ⟨w7.heap.size, 0, none⟩) (v := .int .i64 (-9223372036854775808)) (by go_simp)
  have cc1 := ck hb (a := ⟨w7.heap.size, 1, none⟩) (v := .int .u64 0) (by go_simp)
  replace zw1 : w1.heap.size < w8.heap.size := World.block_lt_of_cell? w8 _ ca0
  replace nw1 : ¬ w1.heap.size = w8.heap.size := Nat.ne_of_lt zw1
  replace zw4 : w4.heap.size < w8.heap.size := World.block_lt_of_cell? w8 _ cb0
  replace nw4 : ¬ w4.heap.size = w8.heap.size := Nat.ne_of_lt zw4
  have zw7 : w7.heap.size < w8.heap.size := World.block_lt_of_cell? w8 _ cc0
  have nw7 : ¬ w7.heap.size = w8.heap.size := Nat.ne_of_lt zw7
  replace HB : Below w.heap.size w w8 := bt (by repeat (first | (with_reducible exact HB) | (with_reducible exact Below.refl _ _) | (with_reducible apply bd) | (with_reducible apply ba) | (with_reducible refine bs ?_ (by first | (simp; done) | (simp; omega)) _))) hb
  clear hb
  go_wp2_with fail
  refine (c10c _ (tab_below htab (by repeat (first | (with_reducible exact HB) | (with_reducible exact Below.refl _ _) | (with_reducible apply bd) | (with_reducible apply ba) | (with_reducible refine bs ?_ (by first | (simp; done) | (simp; omega)) _))))).mono ?_; rintro e w9 ⟨rfl, hb⟩; (with_reducible (repeat replace hb := undr hb))
  replace ca0 := ck hb (a := ⟨w1.heap.size, 0, none⟩) (v := .int .i64 1) (by go_simp)
  replace ca1 := ck hb (a := ⟨w1.heap.size, 1, none⟩) (v := .int .u64 0) (by go_simp)
  replace cb0 := ck hb (a := ⟨w4.heap.size, 0, none⟩) (v := .int .i64 0) (by go_simp)
  replace cb1 := ck hb (a := ⟨w4.heap.size, 1, none⟩) (v := .int .u64 0) (by go_simp)
  replace cc0 := ck hb (a := ⟨w7.heap.size, 0, none⟩) (v := .int .i64 (-9223372036854775808)) (by go_simp)
  replace cc1 := ck hb (a := ⟨w7.heap.size, 1, none⟩) (v := .int .u64 0) (by go_simp)
  replace zw1 : w1.heap.size < w9.heap.size := World.block_lt_of_cell? w9 _ ca0
  replace nw1 : ¬ w1.heap.size = w9.heap.size := Nat.ne_of_lt zw1
  replace zw4 : w4.heap.size < w9.heap.size := World.block_lt_of_cell? w9 _ cb0
  replace nw4 : ¬ w4.heap.size = w9.heap.size := Nat.ne_of_lt zw4
  replace zw7 : w7.heap.size < w9.heap.size := World.block_lt_of_cell? w9 _ cc0
  replace nw7 : ¬ w7.heap.size = w9.heap.size := Nat.ne_of_lt zw7
  replace HB : Below w.heap.size w w9 := bt (by repeat (first | (with_reducible exact HB) | (with_reducible exact Below.refl _ _) | (with_reducible apply bd) | (with_reducible apply ba) | (with_reducible refine bs ?_ (by first | (simp; done) | (simp; omega)) _))) hb
  clear hb
  go_wp2_with fail
  refine (c11 _ (tab_below htab (by repeat (first | (with_reducible exact HB) | (with_reducible exact Below.refl _ _) | (with_reducible apply bd) | (with_reducible apply ba) | (with_reducible refine bs ?_ (by first | (simp; done) | (simp; omega)) _))))).mono ?_; rintro e w10 ⟨rfl, hb⟩; (with_reducible (repeat replace hb := undr hb))
  replace ca0 := ck hb (a := ⟨w1.heap.size, 0, none⟩) (v := .int .i64 1) (by go_simp)
  replace ca1 := ck hb (a := ⟨w1.heap.size, 1, none⟩) (v := .int .u64 0) (by go_simp)
  replace cc0 := ck hb (a := ⟨w7.heap.size, 0, none⟩) (v := .int .i64 (-9223372036854775808)) (by go_simp)
  replace cc1 := ck hb (a := ⟨w7.heap.size, 1, none⟩) (v := .int .u64 0) (by go_simp)
  replace zw1 : w1.heap.size < w10.heap.size := World.block_lt_of_cell? w10 _ ca0
  replace nw1 : ¬ w1.heap.size = w10.heap.size := Nat.ne_of_lt zw1
  replace zw7 : w7.heap.size < w10.heap.size := World.block_lt_of_cell? w10 _ cc0
  replace nw7 : ¬ w7.heap.size = w10.heap.size := Nat.ne_of_lt zw7
  replace HB : Below w.heap.size w w10 := bt (by repeat (first | (with_reducible exact HB) | (with_reducible exact Below.refl _ _) | (with_reducible apply bd) | (with_reducible apply ba) | (with_reducible refine bs ?_ (by first | (simp; done) | (simp; omega)) _))) hb
  clear hb
  go_wp2_with fail
  refine (c15 _).mono ?_; rintro e w11 ⟨rfl, hb⟩; (with_reducible (repeat replace hb := undr hb))
  replace ca0 := ck hb (a := ⟨w1.heap.size, 0, none⟩) (v := .int .i64 1) (by go_simp)
  replace ca1 := ck hb (a := ⟨w1.heap.size, 1, none⟩) (v := .int .u64 0) (by go_simp)
  replace cc0 := ck hb (a := ⟨w7.heap.size, 0, none⟩) (v := .int .i64 (-9223372036854775808)) (by go_simp)
  replace cc1 := ck hb (a := ⟨w7.heap.size, 1, none⟩) (v := .int .u64 0) (by go_simp)
  replace zw1 : w1.heap.size < w11.heap.size := World.block_lt_of_cell? w11 _ ca0
  replace nw1 : ¬ w1.heap.size = w11.heap.size := Nat.ne_of_lt zw1
  replace zw7 : w7.heap.size < w11.heap.size := World.block_lt_of_cell? w11 _ cc0
  replace nw7 : ¬ w7.heap.size = w11.heap.size := Nat.ne_of_lt zw7
  replace HB : Below w.heap.size w w11 := bt (by repeat (first | (with_reducible exact HB) | (with_reducible exact Below.refl _ _) | (with_reducible apply bd) | (with_reducible apply ba) | (with_reducible refine bs ?_ (by first | (simp; done) | (simp; omega)) _))) hb
  clear hb
  go_wp2_with fail
  refine (c23 _).mono ?_; rintro e w12 ⟨rfl, hb⟩; (with_reducible (repeat replace hb := undr hb))
  replace ca0 := ck hb (a := ⟨w1.heap.size, 0, none⟩) (v := .int .i64 1) (by go_simp)
  replace ca1 := ck hb (a := ⟨w1.heap.size, 1, none⟩) (v := .int .u64 0) (by go_simp)
  replace zw1 : w1.heap.size < w12.heap.size := World.block_lt_of_cell? w12 _ ca0
  replace nw1 : ¬ w1.heap.size = w12.heap.size := Nat.ne_of_lt zw1
  replace HB : Below w.heap.size w w12 := bt (by repeat (first | (with_reducible exact HB) | (with_reducible exact Below.refl _ _) | (with_reducible apply bd) | (with_reducible apply ba) | (with_reducible refine bs ?_ (by first | (simp; done) | (simp; omega)) _))) hb
  clear hb
  go_wp2_with fail
  go_ret
  exact ⟨rfl, by repeat (first | (with_reducible exact HB) | (with_reducible exact Below.refl _ _) | (with_reducible apply bd) | (with_reducible apply ba) | (with_reducible refine bs ?_ (by first | (simp; done) | (simp; omega)) _))⟩
end Go.Proofs.YtkamnnkdadfebaaDoor
