import Derived.Test.YtkamnnkdadfebaaDoorR6
import Derived.Test.YtkamnnkdadfebaaDoorR6b
namespace Go.Proofs.YtkamnnkdadfebaaDoor
open Go.RowKit
set_option linter.unusedVariables false
attribute [local go_sem high] eq24 eq37

set_option maxHeartbeats 4000000 in
set_option maxRecDepth 100000 in
theorem wideTells_w (u0 u1 v0 v1 s0 s1 d0 d1 n0 n1 f0 f1 sg cc nn : Int) (LL : List UInt8) (o1 o2 o3 : Bool) (w : World) (htab : Tab w)
    (a1 : ∀ w : World, Calls Tryd.prog 13 #[.agg #[.int .i64 u0, .int .u64 u1], .agg #[.int .i64 v0, .int .u64 v1]] w fun e w' => e = .returned (.tuple #[.agg #[.int .i64 s0, .int .u64 s1], .bool o1]) ∧ Below w.heap.size w w') (a2 : ∀ w : World, Calls Tryd.prog 16 #[.agg #[.int .i64 u0, .int .u64 u1], .agg #[.int .i64 v0, .int .u64 v1]] w fun e w' => e = .returned (.tuple #[.agg #[.int .i64 s0, .int .u64 s1], .bool o1]) ∧ Below w.heap.size w w')
    (a3 : ∀ w : World, Calls Tryd.prog 14 #[.agg #[.int .i64 u0, .int .u64 u1], .agg #[.int .i64 v0, .int .u64 v1]] w fun e w' => e = .returned (.tuple #[.agg #[.int .i64 d0, .int .u64 d1], .bool o2]) ∧ Below w.heap.size w w') (a4 : ∀ w : World, Calls Tryd.prog 18 #[.agg #[.int .i64 u0, .int .u64 u1], .agg #[.int .i64 v0, .int .u64 v1]] w fun e w' => e = .returned (.tuple #[.agg #[.int .i64 d0, .int .u64 d1], .bool o2]) ∧ Below w.heap.size w w')
    (a5 : ∀ w : World, Calls Tryd.prog 19 #[.agg #[.int .i64 u0, .int .u64 u1]] w fun e w' => e = .returned (.tuple #[.agg #[.int .i64 n0, .int .u64 n1], .bool o3]) ∧ Below w.heap.size w w') (a6 : ∀ w : World, Calls Tryd.prog 20 #[.agg #[.int .i64 u0, .int .u64 u1]] w fun e w' => e = .returned (.tuple #[.agg #[.int .i64 n0, .int .u64 n1], .bool o3]) ∧ Below w.heap.size w w')
    (m1 : ∀ w : World, Calls Tryd.prog 15 #[.agg #[.int .i64 u0, .int .u64 u1]] w fun e w' => e = .returned (.int .i64 sg) ∧ Below w.heap.size w w') (m2 : ∀ w : World, Calls Tryd.prog 22 #[.agg #[.int .i64 u0, .int .u64 u1]] w fun e w' => e = .returned (.int .i64 sg) ∧ Below w.heap.size w w') (m3 : ∀ w : World, Calls Tryd.prog 23 #[.agg #[.int .i64 u0, .int .u64 u1], .agg #[.int .i64 v0, .int .u64 v1]] w fun e w' => e = .returned (.int .i64 cc) ∧ Below w.heap.size w w') (m4 : ∀ w : World, Calls Tryd.prog 24 #[.agg #[.int .i64 u0, .int .u64 u1], .agg #[.int .i64 v0, .int .u64 v1]] w fun e w' => e = .returned (.int .i64 cc) ∧ Below w.heap.size w w')
    (m5 : ∀ w : World, Tab w → Calls Tryd.prog 11 #[.agg #[.int .i64 u0, .int .u64 u1]] w fun e w' => e = .returned (.string ⟨LL.toArray⟩) ∧ Below w.heap.size w w') (m6 : ∀ w : World, Calls Tryd.prog 25 #[.agg #[.int .i64 u0, .int .u64 u1]] w fun e w' => e = .returned (.string ⟨LL.toArray⟩) ∧ Below w.heap.size w w') (m7 : ∀ w : World, Calls Tryd.prog 26 #[.int .i64 nn] w fun e w' => e = .returned (.agg #[.int .i64 f0, .int .u64 f1]) ∧ Below w.heap.size w w') (m8 : ∀ w : World, Calls Tryd.prog 27 #[.int .i64 nn] w fun e w' => e = .returned (.agg #[.int .i64 f0, .int .u64 f1]) ∧ Below w.heap.size w w') :
    Calls Tryd.prog 6 #[.agg #[.int .i64 u0, .int .u64 u1], .agg #[.int .i64 v0, .int .u64 v1], .int .i64 nn] w fun e w' => e = .returned (.bool true) ∧ Below w.heap.size w w' := by
  have HB := Below.refl w.heap.size w
  go_enter Tryd.func6, Tryd.ntmps6
  go_wp2_with fail
  refine (a1 _).mono ?_; rintro e w1 ⟨rfl, hb⟩; (with_reducible (repeat replace hb := undr hb))
  have cu0 := ck hb (a := ⟨w.heap.size, 0, none⟩) (v := .int .i64 u0) (by go_simp)
  have cu1 := ck hb (a := ⟨w.heap.size, 1, none⟩) (v := .int .u64 u1) (by go_simp)
  have cv0 := ck hb (a := ⟨w.heap.size + 1, 0, none⟩) (v := .int .i64 v0) (by go_simp)
  have cv1 := ck hb (a := ⟨w.heap.size + 1, 1, none⟩) (v := .int .u64 v1) (by go_simp)
  have zw_0 : w.heap.size < w1.heap.size := World.block_lt_of_cell? w1 _ cu0
  have nw_0 : ¬ w.heap.size = w1.heap.size := Nat.ne_of_lt zw_0
  have zw_1 : w.heap.size + 1 < w1.heap.size := World.block_lt_of_cell? w1 _ cv0
  have nw_1 : ¬ w.heap.size + 1 = w1.heap.size := Nat.ne_of_lt zw_1
  replace HB : Below w.heap.size w w1 := bt (by repeat (first | (with_reducible exact HB) | (with_reducible exact Below.refl _ _) | (with_reducible apply bd) | (with_reducible apply ba) | (with_reducible refine bs ?_ (by first | (simp; done) | (simp; omega)) _))) hb
  clear hb
  go_wp2_with fail
  refine region6_2 u0 u1 v0 v1 s0 s1 w.heap.size (w.heap.size + 1) o1 (w1.alloc (.cells #[.int .i64 s0, .int .u64 s1] 24)) a2 (by kernel_rfl) rfl rfl rfl ⟨?_, ?_, ?_, ?_, Below.refl _ _⟩ (fun ka w2 hS hN => ?_)
  iterate 4 (focus (go_simp; done))
  obtain ⟨-, -, -, -, hb⟩ := hS
  obtain ⟨csb0, csb1, -, -, -⟩ := hN
  simp only [List.setIfInBounds_toArray, List.set_cons_zero, List.set_cons_succ]
  replace cu0 := ck hb (a := ⟨w.heap.size, 0, none⟩) (v := .int .i64 u0) (by first | (go_simp; done) | simpa using cu0)
  replace cu1 := ck hb (a := ⟨w.heap.size, 1, none⟩) (v := .int .u64 u1) (by first | (go_simp; done) | simpa using cu1)
  replace cv0 := ck hb (a := ⟨w.heap.size + 1, 0, none⟩) (v := .int .i64 v0) (by first | (go_simp; done) | simpa using cv0)
  replace cv1 := ck hb (a := ⟨w.heap.size + 1, 1, none⟩) (v := .int .u64 v1) (by first | (go_simp; done) | simpa using cv1)
  have csa0 := ck hb (a := ⟨w1.heap.size, 0, none⟩) (v := .int .i64 s0) (by go_simp)
  have csa1 := ck hb (a := ⟨w1.heap.size, 1, none⟩) (v := .int .u64 s1) (by go_simp)
  replace zw_0 : w.heap.size < w2.heap.size := World.block_lt_of_cell? w2 _ cu0
  replace nw_0 : ¬ w.heap.size = w2.heap.size := Nat.ne_of_lt zw_0
  replace zw_1 : w.heap.size + 1 < w2.heap.size := World.block_lt_of_cell? w2 _ cv0
  replace nw_1 : ¬ w.heap.size + 1 = w2.heap.size := Nat.ne_of_lt zw_1
  have zw1_0 : w1.heap.size < w2.heap.size := World.block_lt_of_cell? w2 _ csa0
  have nw1_0 : ¬ w1.heap.size = w2.heap.size := Nat.ne_of_lt zw1_0
  replace HB : Below w.heap.size w w2 := bt (by repeat (first | (with_reducible exact HB) | (with_reducible exact Below.refl _ _) | (with_reducible apply bd) | (with_reducible apply ba) | (with_reducible refine bs ?_ (by first | (simp; done) | (simp; omega)) _))) hb
  clear hb
  go_wp2_with fail
  refine (a3 _).mono ?_; rintro e w3 ⟨rfl, hb⟩; (with_reducible (repeat replace hb := undr hb))
  replace cu0 := ck hb (a := ⟨w.heap.size, 0, none⟩) (v := .int .i64 u0) (by first | (go_simp; done) | simpa using cu0)
  replace cu1 := ck hb (a := ⟨w.heap.size, 1, none⟩) (v := .int .u64 u1) (by first | (go_simp; done) | simpa using cu1)
  replace cv0 := ck hb (a := ⟨w.heap.size + 1, 0, none⟩) (v := .int .i64 v0) (by first | (go_simp; done) | simpa using cv0)
  replace cv1 := ck hb (a := ⟨w.heap.size + 1, 1, none⟩) (v := .int .u64 v1) (by first | (go_simp; done) | simpa using cv1)
  replace csa0 := ck hb (a := ⟨w1.heap.size, 0, none⟩) (v := .int .i64 s0) (by first | (go_simp; done) | simpa using csa0)
  replace csa1 := ck hb (a := ⟨w1.heap.size, 1, none⟩) (v := .int .u64 s1) (by first | (go_simp; done) | simpa using csa1)
  replace csb0 := ck hb (a := ⟨ka, 0, none⟩) (v := .int .i64 s0) (by first | (go_simp; done) | simpa using csb0)
  replace csb1 := ck hb (a := ⟨ka, 1, none⟩) (v := .int .u64 s1) (by first | (go_simp; done) | simpa using csb1)
  replace zw_0 : w.heap.size < w3.heap.size := World.block_lt_of_cell? w3 _ cu0
  replace nw_0 : ¬ w.heap.size = w3.heap.size := Nat.ne_of_lt zw_0
  replace zw_1 : w.heap.size + 1 < w3.heap.size := World.block_lt_of_cell? w3 _ cv0
  replace nw_1 : ¬ w.heap.size + 1 = w3.heap.size := Nat.ne_of_lt zw_1
  replace zw1_0 : w1.heap.size < w3.heap.size := World.block_lt_of_cell? w3 _ csa0
  replace nw1_0 : ¬ w1.heap.size = w3.heap.size := Nat.ne_of_lt zw1_0
  have zka_0 : ka < w3.heap.size := World.block_lt_of_cell? w3 _ csb0
  have nka_0 : ¬ ka = w3.heap.size := Nat.ne_of_lt zka_0
  replace HB : Below w.heap.size w w3 := bt (by repeat (first | (with_reducible exact HB) | (with_reducible exact Below.refl _ _) | (with_reducible apply bd) | (with_reducible apply ba) | (with_reducible refine bs ?_ (by first | (simp; done) | (simp; omega)) _))) hb
  clear hb
  go_wp2_with fail
  refine region6_4 u0 u1 v0 v1 d0 d1 w.heap.size (w.heap.size + 1) o2 (w3.alloc (.cells #[.int .i64 d0, .int .u64 d1] 24)) a4 (by kernel_rfl) rfl rfl rfl ⟨?_, ?_, ?_, ?_, Below.refl _ _⟩ (fun kc w4 hS hN => ?_)
  iterate 4 (focus (go_simp; done))
  obtain ⟨-, -, -, -, hb⟩ := hS
  obtain ⟨cdb0, cdb1, -, -, -⟩ := hN
  simp only [List.setIfInBounds_toArray, List.set_cons_zero, List.set_cons_succ]
  replace cu0 := ck hb (a := ⟨w.heap.size, 0, none⟩) (v := .int .i64 u0) (by first | (go_simp; done) | simpa using cu0)
  replace cu1 := ck hb (a := ⟨w.heap.size, 1, none⟩) (v := .int .u64 u1) (by first | (go_simp; done) | simpa using cu1)
  replace cv0 := ck hb (a := ⟨w.heap.size + 1, 0, none⟩) (v := .int .i64 v0) (by first | (go_simp; done) | simpa using cv0)
  replace cv1 := ck hb (a := ⟨w.heap.size + 1, 1, none⟩) (v := .int .u64 v1) (by first | (go_simp; done) | simpa using cv1)
  replace csa0 := ck hb (a := ⟨w1.heap.size, 0, none⟩) (v := .int .i64 s0) (by first | (go_simp; done) | simpa using csa0)
  replace csa1 := ck hb (a := ⟨w1.heap.size, 1, none⟩) (v := .int .u64 s1) (by first | (go_simp; done) | simpa using csa1)
  replace csb0 := ck hb (a := ⟨ka, 0, none⟩) (v := .int .i64 s0) (by first | (go_simp; done) | simpa using csb0)
  replace csb1 := ck hb (a := ⟨ka, 1, none⟩) (v := .int .u64 s1) (by first | (go_simp; done) | simpa using csb1)
  have cda0 := ck hb (a := ⟨w3.heap.size, 0, none⟩) (v := .int .i64 d0) (by go_simp)
  have cda1 := ck hb (a := ⟨w3.heap.size, 1, none⟩) (v := .int .u64 d1) (by go_simp)
  replace zw_0 : w.heap.size < w4.heap.size := World.block_lt_of_cell? w4 _ cu0
  replace nw_0 : ¬ w.heap.size = w4.heap.size := Nat.ne_of_lt zw_0
  replace zw_1 : w.heap.size + 1 < w4.heap.size := World.block_lt_of_cell? w4 _ cv0
  replace nw_1 : ¬ w.heap.size + 1 = w4.heap.size := Nat.ne_of_lt zw_1
  replace zw1_0 : w1.heap.size < w4.heap.size := World.block_lt_of_cell? w4 _ csa0
  replace nw1_0 : ¬ w1.heap.size = w4.heap.size := Nat.ne_of_lt zw1_0
  replace zka_0 : ka < w4.heap.size := World.block_lt_of_cell? w4 _ csb0
  replace nka_0 : ¬ ka = w4.heap.size := Nat.ne_of_lt zka_0
  have zw3_0 : w3.heap.size < w4.heap.size := World.block_lt_of_cell? w4 _ cda0
  have nw3_0 : ¬ w3.heap.size = w4.heap.size := Nat.ne_of_lt zw3_0
  replace HB : Below w.heap.size w w4 := bt (by repeat (first | (with_reducible exact HB) | (with_reducible exact Below.refl _ _) | (with_reducible apply bd) | (with_reducible apply ba) | (with_reducible refine bs ?_ (by first | (simp; done) | (simp; omega)) _))) hb
  clear hb
  go_wp2_with fail
  refine (a5 _).mono ?_; rintro e w5 ⟨rfl, hb⟩; (with_reducible (repeat replace hb := undr hb))
  replace cu0 := ck hb (a := ⟨w.heap.size, 0, none⟩) (v := .int .i64 u0) (by first | (go_simp; done) | simpa using cu0)
  replace cu1 := ck hb (a := ⟨w.heap.size, 1, none⟩) (v := .int .u64 u1) (by first | (go_simp; done) | simpa using cu1)
  replace cv0 := ck hb (a := ⟨w.heap.size + 1, 0, none⟩) (v := .int .i64 v0) (by first | (go_simp; done) | simpa using cv0)
  replace cv1 := ck hb (a := ⟨w.heap.size + 1, 1, none⟩) (v := .int .u64 v1) (by first | (go_simp; done) | simpa using cv1)
  replace csa0 := ck hb (a := ⟨w1.heap.size, 0, none⟩) (v := .int .i64 s0) (by first | (go_simp; done) | simpa using csa0)
  replace csa1 := ck hb (a := ⟨w1.heap.size, 1, none⟩) (v := .int .u64 s1) (by first | (go_simp; done) | simpa using csa1)
  replace csb0 := ck hb (a := ⟨ka, 0, none⟩) (v := .int .i64 s0) (by first | (go_simp; done) | simpa using csb0)
  replace csb1 := ck hb (a := ⟨ka, 1, none⟩) (v := .int .u64 s1) (by first | (go_simp; done) | simpa using csb1)
  replace cda0 := ck hb (a := ⟨w3.heap.size, 0, none⟩) (v := .int .i64 d0) (by first | (go_simp; done) | simpa using cda0)
  replace cda1 := ck hb (a := ⟨w3.heap.size, 1, none⟩) (v := .int .u64 d1) (by first | (go_simp; done) | simpa using cda1)
  replace cdb0 := ck hb (a := ⟨kc, 0, none⟩) (v := .int .i64 d0) (by first | (go_simp; done) | simpa using cdb0)
  replace cdb1 := ck hb (a := ⟨kc, 1, none⟩) (v := .int .u64 d1) (by first | (go_simp; done) | simpa using cdb1)
  replace zw_0 : w.heap.size < w5.heap.size := World.block_lt_of_cell? w5 _ cu0
  replace nw_0 : ¬ w.heap.size = w5.heap.size := Nat.ne_of_lt zw_0
  replace zw_1 : w.heap.size + 1 < w5.heap.size := World.block_lt_of_cell? w5 _ cv0
  replace nw_1 : ¬ w.heap.size + 1 = w5.heap.size := Nat.ne_of_lt zw_1
  replace zw1_0 : w1.heap.size < w5.heap.size := World.block_lt_of_cell? w5 _ csa0
  replace nw1_0 : ¬ w1.heap.size = w5.heap.size := Nat.ne_of_lt zw1_0
  replace zka_0 : ka < w5.heap.size := World.block_lt_of_cell? w5 _ csb0
  replace nka_0 : ¬ ka = w5.heap.size := Nat.ne_of_lt zka_0
  replace zw3_0 : w3.heap.size < w5.heap.size := World.block_lt_of_cell? w5 _ cda0
  replace nw3_0 : ¬ w3.heap.size = w5.heap.size := Nat.ne_of_lt zw3_0
  have zkc_0 : kc < w5.heap.size := World.block_lt_of_cell? w5 _ cdb0
  have nkc_0 : ¬ kc = w5.heap.size := Nat.ne_of_lt zkc_0
  replace HB : Below w.heap.size w w5 := bt (by repeat (first | (with_reducible exact HB) | (with_reducible exact Below.refl _ _) | (with_reducible apply bd) | (with_reducible apply ba) | (with_reducible refine bs ?_ (by first | (simp; done) | (simp; omega)) _))) hb
  clear hb
  go_wp2_with fail
  refine (of17 _ _ _).mono ?_; rintro e w6 ⟨rfl, hb⟩; (with_reducible (repeat replace hb := undr hb))
  replace cu0 := ck hb (a := ⟨w.heap.size, 0, none⟩) (v := .int .i64 u0) (by first | (go_simp; done) | simpa using cu0)
  replace cu1 := ck hb (a := ⟨w.heap.size, 1, none⟩) (v := .int .u64 u1) (by first | (go_simp; done) | simpa using cu1)
  replace cv0 := ck hb (a := ⟨w.heap.size + 1, 0, none⟩) (v := .int .i64 v0) (by first | (go_simp; done) | simpa using cv0)
  replace cv1 := ck hb (a := ⟨w.heap.size + 1, 1, none⟩) (v := .int .u64 v1) (by first | (go_simp; done) | simpa using cv1)
  replace csa0 := ck hb (a := ⟨w1.heap.size, 0, none⟩) (v := .int .i64 s0) (by first | (go_simp; done) | simpa using csa0)
  replace csa1 := ck hb (a := ⟨w1.heap.size, 1, none⟩) (v := .int .u64 s1) (by first | (go_simp; done) | simpa using csa1)
  replace csb0 := ck hb (a := ⟨ka, 0, none⟩) (v := .int .i64 s0) (by first | (go_simp; done) | simpa using csb0)
  replace csb1 := ck hb (a := ⟨ka, 1, none⟩) (v := .int .u64 s1) (by first | (go_simp; done) | simpa using csb1)
  replace cda0 := ck hb (a := ⟨w3.heap.size, 0, none⟩) (v := .int .i64 d0) (by first | (go_simp; done) | simpa using cda0)
  replace cda1 := ck hb (a := ⟨w3.heap.size, 1, none⟩) (v := .int .u64 d1) (by first | (go_simp; done) | simpa using cda1)
  replace cdb0 := ck hb (a := ⟨kc, 0, none⟩) (v := .int .i64 d0) (by first | (go_simp; done) | simpa using cdb0)
  replace cdb1 := ck hb (a := ⟨kc, 1, none⟩) (v := .int .u64 d1) (by first | (go_simp; done) | simpa using cdb1)
  have cna0 := ck hb (a := ⟨w5.heap.size, 0, none⟩) (v := .int .i64 n0) (by go_simp)
  have cna1 := ck hb (a := ⟨w5.heap.size, 1, none⟩) (v := .int .u64 n1) (by go_simp)
  replace zw_0 : w.heap.size < w6.heap.size := World.block_lt_of_cell? w6 _ cu0
  replace nw_0 : ¬ w.heap.size = w6.heap.size := Nat.ne_of_lt zw_0
  replace zw_1 : w.heap.size + 1 < w6.heap.size := World.block_lt_of_cell? w6 _ cv0
  replace nw_1 : ¬ w.heap.size + 1 = w6.heap.size := Nat.ne_of_lt zw_1
  replace zw1_0 : w1.heap.size < w6.heap.size := World.block_lt_of_cell? w6 _ csa0
  replace nw1_0 : ¬ w1.heap.size = w6.heap.size := Nat.ne_of_lt zw1_0
  replace zka_0 : ka < w6.heap.size := World.block_lt_of_cell? w6 _ csb0
  replace nka_0 : ¬ ka = w6.heap.size := Nat.ne_of_lt zka_0
  replace zw3_0 : w3.heap.size < w6.heap.size := World.block_lt_of_cell? w6 _ cda0
  replace nw3_0 : ¬ w3.heap.size = w6.heap.size := Nat.ne_of_lt zw3_0
  replace zkc_0 : kc < w6.heap.size := World.block_lt_of_cell? w6 _ cdb0
  replace nkc_0 : ¬ kc = w6.heap.size := Nat.ne_of_lt zkc_0
  have zw5_0 : w5.heap.size < w6.heap.size := World.block_lt_of_cell? w6 _ cna0
  have nw5_0 : ¬ w5.heap.size = w6.heap.size := Nat.ne_of_lt zw5_0
  replace HB : Below w.heap.size w w6 := bt (by repeat (first | (with_reducible exact HB) | (with_reducible exact Below.refl _ _) | (with_reducible apply bd) | (with_reducible apply ba) | (with_reducible refine bs ?_ (by first | (simp; done) | (simp; omega)) _))) hb
  clear hb
  go_wp2_with fail
  refine (a6 _).mono ?_; rintro e w7 ⟨rfl, hb⟩; (with_reducible (repeat replace hb := undr hb))
  replace cu0 := ck hb (a := ⟨w.heap.size, 0, none⟩) (v := .int .i64 u0) (by first | (go_simp; done) | simpa using cu0)
  replace cu1 := ck hb (a := ⟨w.heap.size, 1, none⟩) (v := .int .u64 u1) (by first | (go_simp; done) | simpa using cu1)
  replace cv0 := ck hb (a := ⟨w.heap.size + 1, 0, none⟩) (v := .int .i64 v0) (by first | (go_simp; done) | simpa using cv0)
  replace cv1 := ck hb (a := ⟨w.heap.size + 1, 1, none⟩) (v := .int .u64 v1) (by first | (go_simp; done) | simpa using cv1)
  replace csa0 := ck hb (a := ⟨w1.heap.size, 0, none⟩) (v := .int .i64 s0) (by first | (go_simp; done) | simpa using csa0)
  replace csa1 := ck hb (a := ⟨w1.heap.size, 1, none⟩) (v := .int .u64 s1) (by first | (go_simp; done) | simpa using csa1)
  replace csb0 := ck hb (a := ⟨ka, 0, none⟩) (v := .int .i64 s0) (by first | (go_simp; done) | simpa using csb0)
  replace csb1 := ck hb (a := ⟨ka, 1, none⟩) (v := .int .u64 s1) (by first | (go_simp; done) | simpa using csb1)
  replace cda0 := ck hb (a := ⟨w3.heap.size, 0, none⟩) (v := .int .i64 d0) (by first | (go_simp; done) | simpa using cda0)
  replace cda1 := ck hb (a := ⟨w3.heap.size, 1, none⟩) (v := .int .u64 d1) (by first | (go_simp; done) | simpa using cda1)
  replace cdb0 := ck hb (a := ⟨kc, 0, none⟩) (v := .int .i64 d0) (by first | (go_simp; done) | simpa using cdb0)
  replace cdb1 := ck hb (a := ⟨kc, 1, none⟩) (v := .int .u64 d1) (by first | (go_simp; done) | simpa using cdb1)
  replace cna0 := ck hb (a := ⟨w5.heap.size, 0, none⟩) (v := .int .i64 n0) (by first | (go_simp; done) | simpa using cna0)
  replace cna1 := ck hb (a := ⟨w5.heap.size, 1, none⟩) (v := .int .u64 n1) (by first | (go_simp; done) | simpa using cna1)
  replace zw_0 : w.heap.size < w7.heap.size := World.block_lt_of_cell? w7 _ cu0
  replace nw_0 : ¬ w.heap.size = w7.heap.size := Nat.ne_of_lt zw_0
  replace zw_1 : w.heap.size + 1 < w7.heap.size := World.block_lt_of_cell? w7 _ cv0
  replace nw_1 : ¬ w.heap.size + 1 = w7.heap.size := Nat.ne_of_lt zw_1
  replace zw1_0 : w1.heap.size < w7.heap.size := World.block_lt_of_cell? w7 _ csa0
  replace nw1_0 : ¬ w1.heap.size = w7.heap.size := Nat.ne_of_lt zw1_0
  replace zka_0 : ka < w7.heap.size := World.block_lt_of_cell? w7 _ csb0
  replace nka_0 : ¬ ka = w7.heap.size := Nat.ne_of_lt zka_0
  replace zw3_0 : w3.heap.size < w7.heap.size := World.block_lt_of_cell? w7 _ cda0
  replace nw3_0 : ¬ w3.heap.size = w7.heap.size := Nat.ne_of_lt zw3_0
  replace zkc_0 : kc < w7.heap.size := World.block_lt_of_cell? w7 _ cdb0
  replace nkc_0 : ¬ kc = w7.heap.size := Nat.ne_of_lt zkc_0
  replace zw5_0 : w5.heap.size < w7.heap.size := World.block_lt_of_cell? w7 _ cna0
  replace nw5_0 : ¬ w5.heap.size = w7.heap.size := Nat.ne_of_lt zw5_0
  replace HB : Below w.heap.size w w7 := bt (by repeat (first | (with_reducible exact HB) | (with_reducible exact Below.refl _ _) | (with_reducible apply bd) | (with_reducible apply ba) | (with_reducible refine bs ?_ (by first | (simp; done) | (simp; omega)) _))) hb
  clear hb
  go_wp2_with fail
  refine region6_7 u0 u1 v0 v1 s0 s1 d0 d1 n0 n1 f0 f1 sg cc nn LL w.heap.size (w.heap.size + 1) w1.heap.size ka w3.heap.size kc w5.heap.size w7.heap.size o1 o2 o3 w htab m1 m2 m3 m4 m5 m6 m7 m8 (by kernel_rfl) rfl rfl rfl rfl rfl rfl rfl rfl rfl rfl rfl rfl rfl rfl rfl rfl ⟨?_, ?_, ?_, ?_, ?_, ?_, ?_, ?_, ?_, ?_, ?_, ?_, ?_, ?_, ?_, ?_, ?_⟩ (fun w9 hS => ?_)
  iterate 16 (focus (go_simp; done))
  · exact (by repeat (first | (with_reducible exact HB) | (with_reducible exact Below.refl _ _) | (with_reducible apply bd) | (with_reducible apply ba) | (with_reducible refine bs ?_ (by first | (simp; done) | (simp; omega)) _)))
  obtain ⟨-, -, -, -, -, -, -, -, -, -, -, -, -, -, -, -, HB⟩ := hS
  simp only [List.setIfInBounds_toArray, List.set_cons_zero, List.set_cons_succ]
  go_wp2_with fail
  go_ret
  exact ⟨rfl, by repeat (first | (with_reducible exact HB) | (with_reducible exact Below.refl _ _) | (with_reducible apply bd) | (with_reducible apply ba) | (with_reducible refine bs ?_ (by first | (simp; done) | (simp; omega)) _))⟩

theorem wideTells_walk (u : Int) (hu : fits u = true) (v : Int) (hv : fits v = true) (n : Int) (n1 : -9223372036854775808 ≤ n) (n2 : n ≤ 9223372036854775807) (w : World) (htab : Tab w) :
    Calls Tryd.prog 6 #[.agg #[.int .i64 (hiW u), .int .u64 (loW u)], .agg #[.int .i64 (hiW v), .int .u64 (loW v)], .int .i64 n] w fun e w' => e = .returned (.bool true) ∧ Below w.heap.size w w' :=
  wideTells_w _ _ _ _ _ _ _ _ _ _ _ _ _ _ _ (Lib.itoa u) _ _ _ w htab (fun w => add13 u v w hu hv) (fun w => add16 u v w hu hv) (fun w => sub14 u v w hu hv) (fun w => sub18 u v w hu hv) (fun w => neg19 u w hu) (fun w => neg20 u w hu)
    (fun w => sign15 u w) (fun w => sign22 u w) (fun w => wcmp23 u v w) (fun w => cmp24 u v w) (fun w ht => text11 u (fits_bd hu).1 (fits_bd hu).2 w ht) (fun w => rtext25 u hu w) (fun w => from26 n n1 n2 w) (fun w => from27 n n1 n2 w)
end Go.Proofs.YtkamnnkdadfebaaDoor
