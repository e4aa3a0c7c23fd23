import Derived.Test.YtkamnnkdadfebaaDoorR8
import Derived.Deep.DeepCutAuto
namespace Go.Proofs.YtkamnnkdadfebaaDoor
open Go.RowKit
attribute [local go_sem high] eq24 eq37

set_option maxHeartbeats 4000000 in
set_option maxRecDepth 100000 in
theorem wideOrder_w0 (n m nn sx u0 u1 v0 v1 z0 z1 d0 d1 f0 f1 g0 g1 p q : Int) (ok may : Bool) (w : World) (htab : Tab w)
    (m1 : ∀ w : World, Calls Tryd.prog 23 #[.agg #[.int .i64 u0, .int .u64 u1], .agg #[.int .i64 v0, .int .u64 v1]] w fun e w' => e = .returned (.int .i64 n) ∧ Below w.heap.size w w')
    (m2 : ∀ w : World, Calls Tryd.prog 14 #[.agg #[.int .i64 u0, .int .u64 u1], .agg #[.int .i64 v0, .int .u64 v1]] w fun e w' => e = .returned (.tuple #[.agg #[.int .i64 d0, .int .u64 d1], .bool ok]) ∧ Below w.heap.size w w')
    (m3 : ∀ w : World, Calls Tryd.prog 23 #[.agg #[.int .i64 v0, .int .u64 v1], .agg #[.int .i64 u0, .int .u64 u1]] w fun e w' => e = .returned (.int .i64 m) ∧ Below w.heap.size w w') (e0 : wrap64 (-m) = n) (e1 : (n == 0) = (u0 == v0 && u1 == v1))
    (m4 : ok = true → ∀ w : World, Calls Tryd.prog 15 #[.agg #[.int .i64 d0, .int .u64 d1]] w fun e w' => e = .returned (.int .i64 n) ∧ Below w.heap.size w w')
    (m5 : ∀ w : World, Calls Tryd.prog 23 #[.agg #[.int .i64 v0, .int .u64 v1], .agg #[.int .i64 z0, .int .u64 z1]] w fun e w' => e = .returned (.int .i64 p) ∧ Below w.heap.size w w')
    (m6 : ∀ w : World, Calls Tryd.prog 23 #[.agg #[.int .i64 u0, .int .u64 u1], .agg #[.int .i64 z0, .int .u64 z1]] w fun e w' => e = .returned (.int .i64 q) ∧ Below w.heap.size w w') (e2 : decide (n ≤ 0) = true → decide (p ≤ 0) = true → decide (0 < q) = false)
    (m7 : ∀ w : World, Calls Tryd.prog 19 #[.agg #[.int .i64 u0, .int .u64 u1]] w fun e w' => e = .returned (.tuple #[.agg #[.int .i64 f0, .int .u64 f1], .bool false]) ∧ Below w.heap.size w w')
    (m8 : ∀ w : World, Calls Tryd.prog 19 #[.agg #[.int .i64 v0, .int .u64 v1]] w fun e w' => e = .returned (.tuple #[.agg #[.int .i64 g0, .int .u64 g1], .bool may]) ∧ Below w.heap.size w w')
    
    (m10 : ∀ w : World, Calls Tryd.prog 15 #[.agg #[.int .i64 u0, .int .u64 u1]] w fun e w' => e = .returned (.int .i64 sx) ∧ Below w.heap.size w w') (m11 : ∀ w : World, Calls Tryd.prog 23 #[.agg #[.int .i64 u0, .int .u64 u1], .agg #[.int .i64 0, .int .u64 0]] w fun e w' => e = .returned (.int .i64 sx) ∧ Below w.heap.size w w') :
    Calls Tryd.prog 8 #[.agg #[.int .i64 u0, .int .u64 u1], .agg #[.int .i64 v0, .int .u64 v1], .agg #[.int .i64 z0, .int .u64 z1]] w fun e w' => e = .returned (.bool true) ∧ Below w.heap.size w w' := by
  have HB := Below.refl w.heap.size w
  go_enter Tryd.func8, Tryd.ntmps8
  go_wp2_with fail
  refine (m1 _).mono ?_; rintro e w1 ⟨rfl, hb⟩; (with_reducible (repeat replace hb := undr hb))
  have cx0 := ck hb (a := ⟨w.heap.size, 0, none⟩) (v := .int .i64 u0) (by go_simp)
  have cx1 := ck hb (a := ⟨w.heap.size, 1, none⟩) (v := .int .u64 u1) (by go_simp)
  have cy0 := ck hb (a := ⟨w.heap.size + 1, 0, none⟩) (v := .int .i64 v0) (by go_simp)
  have cy1 := ck hb (a := ⟨w.heap.size + 1, 1, none⟩) (v := .int .u64 v1) (by go_simp)
  have cz0 := ck hb (a := ⟨w.heap.size + 1 + 1, 0, none⟩) (v := .int .i64 z0) (by go_simp)
  have cz1 := ck hb (a := ⟨w.heap.size + 1 + 1, 1, none⟩) (v := .int .u64 z1) (by go_simp)
  have zw_0 : w.heap.size < w1.heap.size := World.block_lt_of_cell? w1 _ cx0
  have nw_0 : ¬ w.heap.size = w1.heap.size := Nat.ne_of_lt zw_0
  have zw_1 : w.heap.size + 1 < w1.heap.size := World.block_lt_of_cell? w1 _ cy0
  have nw_1 : ¬ w.heap.size + 1 = w1.heap.size := Nat.ne_of_lt zw_1
  have zw_2 : w.heap.size + 1 + 1 < w1.heap.size := World.block_lt_of_cell? w1 _ cz0
  have nw_2 : ¬ w.heap.size + 1 + 1 = w1.heap.size := Nat.ne_of_lt zw_2
  replace HB : Below w.heap.size w w1 := bt (by repeat (first | (with_reducible exact HB) | (with_reducible exact Below.refl _ _) | (with_reducible apply bd) | (with_reducible apply ba) | (with_reducible refine bs ?_ (by first | (simp; done) | (simp; omega)) _))) hb
  clear hb
  go_wp2_with fail
  refine (m2 _).mono ?_; rintro e w2 ⟨rfl, hb⟩; (with_reducible (repeat replace hb := undr hb))
  replace cx0 := ck hb (a := ⟨w.heap.size, 0, none⟩) (v := .int .i64 u0) (by first | (go_simp; done) | simpa using cx0)
  replace cx1 := ck hb (a := ⟨w.heap.size, 1, none⟩) (v := .int .u64 u1) (by first | (go_simp; done) | simpa using cx1)
  replace cy0 := ck hb (a := ⟨w.heap.size + 1, 0, none⟩) (v := .int .i64 v0) (by first | (go_simp; done) | simpa using cy0)
  replace cy1 := ck hb (a := ⟨w.heap.size + 1, 1, none⟩) (v := .int .u64 v1) (by first | (go_simp; done) | simpa using cy1)
  replace cz0 := ck hb (a := ⟨w.heap.size + 1 + 1, 0, none⟩) (v := .int .i64 z0) (by first | (go_simp; done) | simpa using cz0)
  replace cz1 := ck hb (a := ⟨w.heap.size + 1 + 1, 1, none⟩) (v := .int .u64 z1) (by first | (go_simp; done) | simpa using cz1)
  replace zw_0 : w.heap.size < w2.heap.size := World.block_lt_of_cell? w2 _ cx0
  replace nw_0 : ¬ w.heap.size = w2.heap.size := Nat.ne_of_lt zw_0
  replace zw_1 : w.heap.size + 1 < w2.heap.size := World.block_lt_of_cell? w2 _ cy0
  replace nw_1 : ¬ w.heap.size + 1 = w2.heap.size := Nat.ne_of_lt zw_1
  replace zw_2 : w.heap.size + 1 + 1 < w2.heap.size := World.block_lt_of_cell? w2 _ cz0
  replace nw_2 : ¬ w.heap.size + 1 + 1 = w2.heap.size := Nat.ne_of_lt zw_2
  replace HB : Below w.heap.size w w2 := bt (by repeat (first | (with_reducible exact HB) | (with_reducible exact Below.refl _ _) | (with_reducible apply bd) | (with_reducible apply ba) | (with_reducible refine bs ?_ (by first | (simp; done) | (simp; omega)) _))) hb
  clear hb
  go_upto_region 3 with fail
  go_cut [61] (fun s61 wx => s61 = .bool false ∧ wx.cell? ⟨w.heap.size, 0, none⟩ = some (.int .i64 u0) ∧ wx.cell? ⟨w.heap.size, 1, none⟩ = some (.int .u64 u1) ∧ wx.cell? ⟨w.heap.size + 1, 0, none⟩ = some (.int .i64 v0) ∧ wx.cell? ⟨w.heap.size + 1, 1, none⟩ = some (.int .u64 v1) ∧ wx.cell? ⟨w.heap.size + 1 + 1, 0, none⟩ = some (.int .i64 z0) ∧ wx.cell? ⟨w.heap.size + 1 + 1, 1, none⟩ = some (.int .u64 z1) ∧ Below w.heap.size w wx)
  case first =>
    cases hok : ok <;> cases hn : decide (n ≤ 0) <;> cases hp : decide (p ≤ 0)
    · subst hok
      go_wp2_with fail
      refine (m3 _).mono ?_; rintro e w3 ⟨rfl, hb⟩; (with_reducible (repeat replace hb := undr hb))
      replace cx0 := ck hb (a := ⟨w.heap.size, 0, none⟩) (v := .int .i64 u0) (by first | (go_simp; done) | simpa using cx0)
      replace cx1 := ck hb (a := ⟨w.heap.size, 1, none⟩) (v := .int .u64 u1) (by first | (go_simp; done) | simpa using cx1)
      replace cy0 := ck hb (a := ⟨w.heap.size + 1, 0, none⟩) (v := .int .i64 v0) (by first | (go_simp; done) | simpa using cy0)
      replace cy1 := ck hb (a := ⟨w.heap.size + 1, 1, none⟩) (v := .int .u64 v1) (by first | (go_simp; done) | simpa using cy1)
      replace cz0 := ck hb (a := ⟨w.heap.size + 1 + 1, 0, none⟩) (v := .int .i64 z0) (by first | (go_simp; done) | simpa using cz0)
      replace cz1 := ck hb (a := ⟨w.heap.size + 1 + 1, 1, none⟩) (v := .int .u64 z1) (by first | (go_simp; done) | simpa using cz1)
      have cd0 := ck hb (a := ⟨w2.heap.size, 0, none⟩) (v := .int .i64 d0) (by go_simp)
      have cd1 := ck hb (a := ⟨w2.heap.size, 1, none⟩) (v := .int .u64 d1) (by go_simp)
      replace zw_0 : w.heap.size < w3.heap.size := World.block_lt_of_cell? w3 _ cx0
      replace nw_0 : ¬ w.heap.size = w3.heap.size := Nat.ne_of_lt zw_0
      replace zw_1 : w.heap.size + 1 < w3.heap.size := World.block_lt_of_cell? w3 _ cy0
      replace nw_1 : ¬ w.heap.size + 1 = w3.heap.size := Nat.ne_of_lt zw_1
      replace zw_2 : w.heap.size + 1 + 1 < w3.heap.size := World.block_lt_of_cell? w3 _ cz0
      replace nw_2 : ¬ w.heap.size + 1 + 1 = w3.heap.size := Nat.ne_of_lt zw_2
      have zw2_0 : w2.heap.size < w3.heap.size := World.block_lt_of_cell? w3 _ cd0
      have nw2_0 : ¬ w2.heap.size = w3.heap.size := Nat.ne_of_lt zw2_0
      replace HB : Below w.heap.size w w3 := bt (by repeat (first | (with_reducible exact HB) | (with_reducible exact Below.refl _ _) | (with_reducible apply bd) | (with_reducible apply ba) | (with_reducible refine bs ?_ (by first | (simp; done) | (simp; omega)) _))) hb
      clear hb
      go_wp2_with fail
      go_meet
      case rel => exact ⟨rfl, by go_simp, by go_simp, by go_simp, by go_simp, by go_simp, by go_simp, by repeat (first | (with_reducible exact HB) | (with_reducible exact Below.refl _ _) | (with_reducible apply bd) | (with_reducible apply ba) | (with_reducible refine bs ?_ (by first | (simp; done) | (simp; omega)) _))⟩
    · subst hok
      go_wp2_with fail
      refine (m3 _).mono ?_; rintro e w3 ⟨rfl, hb⟩; (with_reducible (repeat replace hb := undr hb))
      replace cx0 := ck hb (a := ⟨w.heap.size, 0, none⟩) (v := .int .i64 u0) (by first | (go_simp; done) | simpa using cx0)
      replace cx1 := ck hb (a := ⟨w.heap.size, 1, none⟩) (v := .int .u64 u1) (by first | (go_simp; done) | simpa using cx1)
      replace cy0 := ck hb (a := ⟨w.heap.size + 1, 0, none⟩) (v := .int .i64 v0) (by first | (go_simp; done) | simpa using cy0)
      replace cy1 := ck hb (a := ⟨w.heap.size + 1, 1, none⟩) (v := .int .u64 v1) (by first | (go_simp; done) | simpa using cy1)
      replace cz0 := ck hb (a := ⟨w.heap.size + 1 + 1, 0, none⟩) (v := .int .i64 z0) (by first | (go_simp; done) | simpa using cz0)
      replace cz1 := ck hb (a := ⟨w.heap.size + 1 + 1, 1, none⟩) (v := .int .u64 z1) (by first | (go_simp; done) | simpa using cz1)
      have cd0 := ck hb (a := ⟨w2.heap.size, 0, none⟩) (v := .int .i64 d0) (by go_simp)
      have cd1 := ck hb (a := ⟨w2.heap.size, 1, none⟩) (v := .int .u64 d1) (by go_simp)
      replace zw_0 : w.heap.size < w3.heap.size := World.block_lt_of_cell? w3 _ cx0
      replace nw_0 : ¬ w.heap.size = w3.heap.size := Nat.ne_of_lt zw_0
      replace zw_1 : w.heap.size + 1 < w3.heap.size := World.block_lt_of_cell? w3 _ cy0
      replace nw_1 : ¬ w.heap.size + 1 = w3.heap.size := Nat.ne_of_lt zw_1
      replace zw_2 : w.heap.size + 1 + 1 < w3.heap.size := World.block_lt_of_cell? w3 _ cz0
      replace nw_2 : ¬ w.heap.size + 1 + 1 = w3.heap.size := Nat.ne_of_lt zw_2
      have zw2_0 : w2.heap.size < w3.heap.size := World.block_lt_of_cell? w3 _ cd0
      have nw2_0 : ¬ w2.heap.size = w3.heap.size := Nat.ne_of_lt zw2_0
      replace HB : Below w.heap.size w w3 := bt (by repeat (first | (with_reducible exact HB) | (with_reducible exact Below.refl _ _) | (with_reducible apply bd) | (with_reducible apply ba) | (with_reducible refine bs ?_ (by first | (simp; done) | (simp; omega)) _))) hb
      clear hb
      go_wp2_with fail
      go_meet
      case rel => exact ⟨rfl, by go_simp, by go_simp, by go_simp, by go_simp, by go_simp, by go_simp, by repeat (first | (with_reducible exact HB) | (with_reducible exact Below.refl _ _) | (with_reducible apply bd) | (with_reducible apply ba) | (with_reducible refine bs ?_ (by first | (simp; done) | (simp; omega)) _))⟩
    · subst hok
      go_wp2_with fail
      refine (m3 _).mono ?_; rintro e w3 ⟨rfl, hb⟩; (with_reducible (repeat replace hb := undr hb))
      replace cx0 := ck hb (a := ⟨w.heap.size, 0, none⟩) (v := .int .i64 u0) (by first | (go_simp; done) | simpa using cx0)
      replace cx1 := ck hb (a := ⟨w.heap.size, 1, none⟩) (v := .int .u64 u1) (by first | (go_simp; done) | simpa using cx1)
      replace cy0 := ck hb (a := ⟨w.heap.size + 1, 0, none⟩) (v := .int .i64 v0) (by first | (go_simp; done) | simpa using cy0)
      replace cy1 := ck hb (a := ⟨w.heap.size + 1, 1, none⟩) (v := .int .u64 v1) (by first | (go_simp; done) | simpa using cy1)
      replace cz0 := ck hb (a := ⟨w.heap.size + 1 + 1, 0, none⟩) (v := .int .i64 z0) (by first | (go_simp; done) | simpa using cz0)
      replace cz1 := ck hb (a := ⟨w.heap.size + 1 + 1, 1, none⟩) (v := .int .u64 z1) (by first | (go_simp; done) | simpa using cz1)
      have cd0 := ck hb (a := ⟨w2.heap.size, 0, none⟩) (v := .int .i64 d0) (by go_simp)
      have cd1 := ck hb (a := ⟨w2.heap.size, 1, none⟩) (v := .int .u64 d1) (by go_simp)
      replace zw_0 : w.heap.size < w3.heap.size := World.block_lt_of_cell? w3 _ cx0
      replace nw_0 : ¬ w.heap.size = w3.heap.size := Nat.ne_of_lt zw_0
      replace zw_1 : w.heap.size + 1 < w3.heap.size := World.block_lt_of_cell? w3 _ cy0
      replace nw_1 : ¬ w.heap.size + 1 = w3.heap.size := Nat.ne_of_lt zw_1
      replace zw_2 : w.heap.size + 1 + 1 < w3.heap.size := World.block_lt_of_cell? w3 _ cz0
      replace nw_2 : ¬ w.heap.size + 1 + 1 = w3.heap.size := Nat.ne_of_lt zw_2
      have zw2_0 : w2.heap.size < w3.heap.size := World.block_lt_of_cell? w3 _ cd0
      have nw2_0 : ¬ w2.heap.size = w3.heap.size := Nat.ne_of_lt zw2_0
      replace HB : Below w.heap.size w w3 := bt (by repeat (first | (with_reducible exact HB) | (with_reducible exact Below.refl _ _) | (with_reducible apply bd) | (with_reducible apply ba) | (with_reducible refine bs ?_ (by first | (simp; done) | (simp; omega)) _))) hb
      clear hb
      go_wp2_with fail
      refine (m5 _).mono ?_; rintro e w5 ⟨rfl, hb⟩; (with_reducible (repeat replace hb := undr hb))
      replace cx0 := ck hb (a := ⟨w.heap.size, 0, none⟩) (v := .int .i64 u0) (by first | (go_simp; done) | simpa using cx0)
      replace cx1 := ck hb (a := ⟨w.heap.size, 1, none⟩) (v := .int .u64 u1) (by first | (go_simp; done) | simpa using cx1)
      replace cy0 := ck hb (a := ⟨w.heap.size + 1, 0, none⟩) (v := .int .i64 v0) (by first | (go_simp; done) | simpa using cy0)
      replace cy1 := ck hb (a := ⟨w.heap.size + 1, 1, none⟩) (v := .int .u64 v1) (by first | (go_simp; done) | simpa using cy1)
      replace cz0 := ck hb (a := ⟨w.heap.size + 1 + 1, 0, none⟩) (v := .int .i64 z0) (by first | (go_simp; done) | simpa using cz0)
      replace cz1 := ck hb (a := ⟨w.heap.size + 1 + 1, 1, none⟩) (v := .int .u64 z1) (by first | (go_simp; done) | simpa using cz1)
      replace zw_0 : w.heap.size < w5.heap.size := World.block_lt_of_cell? w5 _ cx0
      replace nw_0 : ¬ w.heap.size = w5.heap.size := Nat.ne_of_lt zw_0
      replace zw_1 : w.heap.size + 1 < w5.heap.size := World.block_lt_of_cell? w5 _ cy0
      replace nw_1 : ¬ w.heap.size + 1 = w5.heap.size := Nat.ne_of_lt zw_1
      replace zw_2 : w.heap.size + 1 + 1 < w5.heap.size := World.block_lt_of_cell? w5 _ cz0
      replace nw_2 : ¬ w.heap.size + 1 + 1 = w5.heap.size := Nat.ne_of_lt zw_2
      replace HB : Below w.heap.size w w5 := bt (by repeat (first | (with_reducible exact HB) | (with_reducible exact Below.refl _ _) | (with_reducible apply bd) | (with_reducible apply ba) | (with_reducible refine bs ?_ (by first | (simp; done) | (simp; omega)) _))) hb
      clear hb
      go_wp2_with fail
      go_meet
      case rel => exact ⟨rfl, by go_simp, by go_simp, by go_simp, by go_simp, by go_simp, by go_simp, by repeat (first | (with_reducible exact HB) | (with_reducible exact Below.refl _ _) | (with_reducible apply bd) | (with_reducible apply ba) | (with_reducible refine bs ?_ (by first | (simp; done) | (simp; omega)) _))⟩
    · subst hok
      go_wp2_with fail
      refine (m3 _).mono ?_; rintro e w3 ⟨rfl, hb⟩; (with_reducible (repeat replace hb := undr hb))
      replace cx0 := ck hb (a := ⟨w.heap.size, 0, none⟩) (v := .int .i64 u0) (by first | (go_simp; done) | simpa using cx0)
      replace cx1 := ck hb (a := ⟨w.heap.size, 1, none⟩) (v := .int .u64 u1) (by first | (go_simp; done) | simpa using cx1)
      replace cy0 := ck hb (a := ⟨w.heap.size + 1, 0, none⟩) (v := .int .i64 v0) (by first | (go_simp; done) | simpa using cy0)
      replace cy1 := ck hb (a := ⟨w.heap.size + 1, 1, none⟩) (v := .int .u64 v1) (by first | (go_simp; done) | simpa using cy1)
      replace cz0 := ck hb (a := ⟨w.heap.size + 1 + 1, 0, none⟩) (v := .int .i64 z0) (by first | (go_simp; done) | simpa using cz0)
      replace cz1 := ck hb (a := ⟨w.heap.size + 1 + 1, 1, none⟩) (v := .int .u64 z1) (by first | (go_simp; done) | simpa using cz1)
      have cd0 := ck hb (a := ⟨w2.heap.size, 0, none⟩) (v := .int .i64 d0) (by go_simp)
      have cd1 := ck hb (a := ⟨w2.heap.size, 1, none⟩) (v := .int .u64 d1) (by go_simp)
      replace zw_0 : w.heap.size < w3.heap.size := World.block_lt_of_cell? w3 _ cx0
      replace nw_0 : ¬ w.heap.size = w3.heap.size := Nat.ne_of_lt zw_0
      replace zw_1 : w.heap.size + 1 < w3.heap.size := World.block_lt_of_cell? w3 _ cy0
      replace nw_1 : ¬ w.heap.size + 1 = w3.heap.size := Nat.ne_of_lt zw_1
      replace zw_2 : w.heap.size + 1 + 1 < w3.heap.size := World.block_lt_of_cell? w3 _ cz0
      replace nw_2 : ¬ w.heap.size + 1 + 1 = w3.heap.size := Nat.ne_of_lt zw_2
      have zw2_0 : w2.heap.size < w3.heap.size := World.block_lt_of_cell? w3 _ cd0
      have nw2_0 : ¬ w2.heap.size = w3.heap.size := Nat.ne_of_lt zw2_0
      replace HB : Below w.heap.size w w3 := bt (by repeat (first | (with_reducible exact HB) | (with_reducible exact Below.refl _ _) | (with_reducible apply bd) | (with_reducible apply ba) | (with_reducible refine bs ?_ (by first | (simp; done) | (simp; omega)) _))) hb
      clear hb
      go_wp2_with fail
      refine (m5 _).mono ?_; rintro e w5 ⟨rfl, hb⟩; (with_reducible (repeat replace hb := undr hb))
      replace cx0 := ck hb (a := ⟨w.heap.size, 0, none⟩) (v := .int .i64 u0) (by first | (go_simp; done) | simpa using cx0)
      replace cx1 := ck hb (a := ⟨w.heap.size, 1, none⟩) (v := .int .u64 u1) (by first | (go_simp; done) | simpa using cx1)
      replace cy0 := ck hb (a := ⟨w.heap.size + 1, 0, none⟩) (v := .int .i64 v0) (by first | (go_simp; done) | simpa using cy0)
      replace cy1 := ck hb (a := ⟨w.heap.size + 1, 1, none⟩) (v := .int .u64 v1) (by first | (go_simp; done) | simpa using cy1)
      replace cz0 := ck hb (a := ⟨w.heap.size + 1 + 1, 0, none⟩) (v := .int .i64 z0) (by first | (go_simp; done) | simpa using cz0)
      replace cz1 := ck hb (a := ⟨w.heap.size + 1 + 1, 1, none⟩) (v := .int .u64 z1) (by first | (go_simp; done) | simpa using cz1)
      replace zw_0 : w.heap.size < w5.heap.size := World.block_lt_of_cell? w5 _ cx0
      replace nw_0 : ¬ w.heap.size = w5.heap.size := Nat.ne_of_lt zw_0
      replace zw_1 : w.heap.size + 1 < w5.heap.size := World.block_lt_of_cell? w5 _ cy0
      replace nw_1 : ¬ w.heap.size + 1 = w5.heap.size := Nat.ne_of_lt zw_1
      replace zw_2 : w.heap.size + 1 + 1 < w5.heap.size := World.block_lt_of_cell? w5 _ cz0
      replace nw_2 : ¬ w.heap.size + 1 + 1 = w5.heap.size := Nat.ne_of_lt zw_2
      replace HB : Below w.heap.size w w5 := bt (by repeat (first | (with_reducible exact HB) | (with_reducible exact Below.refl _ _) | (with_reducible apply bd) | (with_reducible apply ba) | (with_reducible refine bs ?_ (by first | (simp; done) | (simp; omega)) _))) hb
      clear hb
      have e4 := e2 hn hp
      go_wp2_with fail
      refine (m6 _).mono ?_; rintro e w6 ⟨rfl, hb⟩; (with_reducible (repeat replace hb := undr hb))
      replace cx0 := ck hb (a := ⟨w.heap.size, 0, none⟩) (v := .int .i64 u0) (by first | (go_simp; done) | simpa using cx0)
      replace cx1 := ck hb (a := ⟨w.heap.size, 1, none⟩) (v := .int .u64 u1) (by first | (go_simp; done) | simpa using cx1)
      replace cy0 := ck hb (a := ⟨w.heap.size + 1, 0, none⟩) (v := .int .i64 v0) (by first | (go_simp; done) | simpa using cy0)
      replace cy1 := ck hb (a := ⟨w.heap.size + 1, 1, none⟩) (v := .int .u64 v1) (by first | (go_simp; done) | simpa using cy1)
      replace cz0 := ck hb (a := ⟨w.heap.size + 1 + 1, 0, none⟩) (v := .int .i64 z0) (by first | (go_simp; done) | simpa using cz0)
      replace cz1 := ck hb (a := ⟨w.heap.size + 1 + 1, 1, none⟩) (v := .int .u64 z1) (by first | (go_simp; done) | simpa using cz1)
      replace zw_0 : w.heap.size < w6.heap.size := World.block_lt_of_cell? w6 _ cx0
      replace nw_0 : ¬ w.heap.size = w6.heap.size := Nat.ne_of_lt zw_0
      replace zw_1 : w.heap.size + 1 < w6.heap.size := World.block_lt_of_cell? w6 _ cy0
      replace nw_1 : ¬ w.heap.size + 1 = w6.heap.size := Nat.ne_of_lt zw_1
      replace zw_2 : w.heap.size + 1 + 1 < w6.heap.size := World.block_lt_of_cell? w6 _ cz0
      replace nw_2 : ¬ w.heap.size + 1 + 1 = w6.heap.size := Nat.ne_of_lt zw_2
      replace HB : Below w.heap.size w w6 := bt (by repeat (first | (with_reducible exact HB) | (with_reducible exact Below.refl _ _) | (with_reducible apply bd) | (with_reducible apply ba) | (with_reducible refine bs ?_ (by first | (simp; done) | (simp; omega)) _))) hb
      clear hb
      go_wp2_with fail
      go_meet
      case rel => exact ⟨rfl, by go_simp, by go_simp, by go_simp, by go_simp, by go_simp, by go_simp, by repeat (first | (with_reducible exact HB) | (with_reducible exact Below.refl _ _) | (with_reducible apply bd) | (with_reducible apply ba) | (with_reducible refine bs ?_ (by first | (simp; done) | (simp; omega)) _))⟩
    · subst hok
      go_wp2_with fail
      refine (m3 _).mono ?_; rintro e w3 ⟨rfl, hb⟩; (with_reducible (repeat replace hb := undr hb))
      replace cx0 := ck hb (a := ⟨w.heap.size, 0, none⟩) (v := .int .i64 u0) (by first | (go_simp; done) | simpa using cx0)
      replace cx1 := ck hb (a := ⟨w.heap.size, 1, none⟩) (v := .int .u64 u1) (by first | (go_simp; done) | simpa using cx1)
      replace cy0 := ck hb (a := ⟨w.heap.size + 1, 0, none⟩) (v := .int .i64 v0) (by first | (go_simp; done) | simpa using cy0)
      replace cy1 := ck hb (a := ⟨w.heap.size + 1, 1, none⟩) (v := .int .u64 v1) (by first | (go_simp; done) | simpa using cy1)
      replace cz0 := ck hb (a := ⟨w.heap.size + 1 + 1, 0, none⟩) (v := .int .i64 z0) (by first | (go_simp; done) | simpa using cz0)
      replace cz1 := ck hb (a := ⟨w.heap.size + 1 + 1, 1, none⟩) (v := .int .u64 z1) (by first | (go_simp; done) | simpa using cz1)
      have cd0 := ck hb (a := ⟨w2.heap.size, 0, none⟩) (v := .int .i64 d0) (by go_simp)
      have cd1 := ck hb (a := ⟨w2.heap.size, 1, none⟩) (v := .int .u64 d1) (by go_simp)
      replace zw_0 : w.heap.size < w3.heap.size := World.block_lt_of_cell? w3 _ cx0
      replace nw_0 : ¬ w.heap.size = w3.heap.size := Nat.ne_of_lt zw_0
      replace zw_1 : w.heap.size + 1 < w3.heap.size := World.block_lt_of_cell? w3 _ cy0
      replace nw_1 : ¬ w.heap.size + 1 = w3.heap.size := Nat.ne_of_lt zw_1
      replace zw_2 : w.heap.size + 1 + 1 < w3.heap.size := World.block_lt_of_cell? w3 _ cz0
      replace nw_2 : ¬ w.heap.size + 1 + 1 = w3.heap.size := Nat.ne_of_lt zw_2
      have zw2_0 : w2.heap.size < w3.heap.size := World.block_lt_of_cell? w3 _ cd0
      have nw2_0 : ¬ w2.heap.size = w3.heap.size := Nat.ne_of_lt zw2_0
      replace HB : Below w.heap.size w w3 := bt (by repeat (first | (with_reducible exact HB) | (with_reducible exact Below.refl _ _) | (with_reducible apply bd) | (with_reducible apply ba) | (with_reducible refine bs ?_ (by first | (simp; done) | (simp; omega)) _))) hb
      clear hb
      go_wp2_with fail
      refine (m4 (by trivial) _).mono ?_; rintro e w4 ⟨rfl, hb⟩; (with_reducible (repeat replace hb := undr hb))
      replace cx0 := ck hb (a := ⟨w.heap.size, 0, none⟩) (v := .int .i64 u0) (by first | (go_simp; done) | simpa using cx0)
      replace cx1 := ck hb (a := ⟨w.heap.size, 1, none⟩) (v := .int .u64 u1) (by first | (go_simp; done) | simpa using cx1)
      replace cy0 := ck hb (a := ⟨w.heap.size + 1, 0, none⟩) (v := .int .i64 v0) (by first | (go_simp; done) | simpa using cy0)
      replace cy1 := ck hb (a := ⟨w.heap.size + 1, 1, none⟩) (v := .int .u64 v1) (by first | (go_simp; done) | simpa using cy1)
      replace cz0 := ck hb (a := ⟨w.heap.size + 1 + 1, 0, none⟩) (v := .int .i64 z0) (by first | (go_simp; done) | simpa using cz0)
      replace cz1 := ck hb (a := ⟨w.heap.size + 1 + 1, 1, none⟩) (v := .int .u64 z1) (by first | (go_simp; done) | simpa using cz1)
      replace zw_0 : w.heap.size < w4.heap.size := World.block_lt_of_cell? w4 _ cx0
      replace nw_0 : ¬ w.heap.size = w4.heap.size := Nat.ne_of_lt zw_0
      replace zw_1 : w.heap.size + 1 < w4.heap.size := World.block_lt_of_cell? w4 _ cy0
      replace nw_1 : ¬ w.heap.size + 1 = w4.heap.size := Nat.ne_of_lt zw_1
      replace zw_2 : w.heap.size + 1 + 1 < w4.heap.size := World.block_lt_of_cell? w4 _ cz0
      replace nw_2 : ¬ w.heap.size + 1 + 1 = w4.heap.size := Nat.ne_of_lt zw_2
      replace HB : Below w.heap.size w w4 := bt (by repeat (first | (with_reducible exact HB) | (with_reducible exact Below.refl _ _) | (with_reducible apply bd) | (with_reducible apply ba) | (with_reducible refine bs ?_ (by first | (simp; done) | (simp; omega)) _))) hb
      clear hb
      go_wp2_with fail
      go_meet
      case rel => exact ⟨rfl, by go_simp, by go_simp, by go_simp, by go_simp, by go_simp, by go_simp, by repeat (first | (with_reducible exact HB) | (with_reducible exact Below.refl _ _) | (with_reducible apply bd) | (with_reducible apply ba) | (with_reducible refine bs ?_ (by first | (simp; done) | (simp; omega)) _))⟩
    · subst hok
      go_wp2_with fail
      refine (m3 _).mono ?_; rintro e w3 ⟨rfl, hb⟩; (with_reducible (repeat replace hb := undr hb))
      replace cx0 := ck hb (a := ⟨w.heap.size, 0, none⟩) (v := .int .i64 u0) (by first | (go_simp; done) | simpa using cx0)
      replace cx1 := ck hb (a := ⟨w.heap.size, 1, none⟩) (v := .int .u64 u1) (by first | (go_simp; done) | simpa using cx1)
      replace cy0 := ck hb (a := ⟨w.heap.size + 1, 0, none⟩) (v := .int .i64 v0) (by first | (go_simp; done) | simpa using cy0)
      replace cy1 := ck hb (a := ⟨w.heap.size + 1, 1, none⟩) (v := .int .u64 v1) (by first | (go_simp; done) | simpa using cy1)
      replace cz0 := ck hb (a := ⟨w.heap.size + 1 + 1, 0, none⟩) (v := .int .i64 z0) (by first | (go_simp; done) | simpa using cz0)
      replace cz1 := ck hb (a := ⟨w.heap.size + 1 + 1, 1, none⟩) (v := .int .u64 z1) (by first | (go_simp; done) | simpa using cz1)
      have cd0 := ck hb (a := ⟨w2.heap.size, 0, none⟩) (v := .int .i64 d0) (by go_simp)
      have cd1 := ck hb (a := ⟨w2.heap.size, 1, none⟩) (v := .int .u64 d1) (by go_simp)
      replace zw_0 : w.heap.size < w3.heap.size := World.block_lt_of_cell? w3 _ cx0
      replace nw_0 : ¬ w.heap.size = w3.heap.size := Nat.ne_of_lt zw_0
      replace zw_1 : w.heap.size + 1 < w3.heap.size := World.block_lt_of_cell? w3 _ cy0
      replace nw_1 : ¬ w.heap.size + 1 = w3.heap.size := Nat.ne_of_lt zw_1
      replace zw_2 : w.heap.size + 1 + 1 < w3.heap.size := World.block_lt_of_cell? w3 _ cz0
      replace nw_2 : ¬ w.heap.size + 1 + 1 = w3.heap.size := Nat.ne_of_lt zw_2
      have zw2_0 : w2.heap.size < w3.heap.size := World.block_lt_of_cell? w3 _ cd0
      have nw2_0 : ¬ w2.heap.size = w3.heap.size := Nat.ne_of_lt zw2_0
      replace HB : Below w.heap.size w w3 := bt (by repeat (first | (with_reducible exact HB) | (with_reducible exact Below.refl _ _) | (with_reducible apply bd) | (with_reducible apply ba) | (with_reducible refine bs ?_ (by first | (simp; done) | (simp; omega)) _))) hb
      clear hb
      go_wp2_with fail
      refine (m4 (by trivial) _).mono ?_; rintro e w4 ⟨rfl, hb⟩; (with_reducible (repeat replace hb := undr hb))
      replace cx0 := ck hb (a := ⟨w.heap.size, 0, none⟩) (v := .int .i64 u0) (by first | (go_simp; done) | simpa using cx0)
      replace cx1 := ck hb (a := ⟨w.heap.size, 1, none⟩) (v := .int .u64 u1) (by first | (go_simp; done) | simpa using cx1)
      replace cy0 := ck hb (a := ⟨w.heap.size + 1, 0, none⟩) (v := .int .i64 v0) (by first | (go_simp; done) | simpa using cy0)
      replace cy1 := ck hb (a := ⟨w.heap.size + 1, 1, none⟩) (v := .int .u64 v1) (by first | (go_simp; done) | simpa using cy1)
      replace cz0 := ck hb (a := ⟨w.heap.size + 1 + 1, 0, none⟩) (v := .int .i64 z0) (by first | (go_simp; done) | simpa using cz0)
      replace cz1 := ck hb (a := ⟨w.heap.size + 1 + 1, 1, none⟩) (v := .int .u64 z1) (by first | (go_simp; done) | simpa using cz1)
      replace zw_0 : w.heap.size < w4.heap.size := World.block_lt_of_cell? w4 _ cx0
      replace nw_0 : ¬ w.heap.size = w4.heap.size := Nat.ne_of_lt zw_0
      replace zw_1 : w.heap.size + 1 < w4.heap.size := World.block_lt_of_cell? w4 _ cy0
      replace nw_1 : ¬ w.heap.size + 1 = w4.heap.size := Nat.ne_of_lt zw_1
      replace zw_2 : w.heap.size + 1 + 1 < w4.heap.size := World.block_lt_of_cell? w4 _ cz0
      replace nw_2 : ¬ w.heap.size + 1 + 1 = w4.heap.size := Nat.ne_of_lt zw_2
      replace HB : Below w.heap.size w w4 := bt (by repeat (first | (with_reducible exact HB) | (with_reducible exact Below.refl _ _) | (with_reducible apply bd) | (with_reducible apply ba) | (with_reducible refine bs ?_ (by first | (simp; done) | (simp; omega)) _))) hb
      clear hb
      go_wp2_with fail
      go_meet
      case rel => exact ⟨rfl, by go_simp, by go_simp, by go_simp, by go_simp, by go_simp, by go_simp, by repeat (first | (with_reducible exact HB) | (with_reducible exact Below.refl _ _) | (with_reducible apply bd) | (with_reducible apply ba) | (with_reducible refine bs ?_ (by first | (simp; done) | (simp; omega)) _))⟩
    · subst hok
      go_wp2_with fail
      refine (m3 _).mono ?_; rintro e w3 ⟨rfl, hb⟩; (with_reducible (repeat replace hb := undr hb))
      replace cx0 := ck hb (a := ⟨w.heap.size, 0, none⟩) (v := .int .i64 u0) (by first | (go_simp; done) | simpa using cx0)
      replace cx1 := ck hb (a := ⟨w.heap.size, 1, none⟩) (v := .int .u64 u1) (by first | (go_simp; done) | simpa using cx1)
      replace cy0 := ck hb (a := ⟨w.heap.size + 1, 0, none⟩) (v := .int .i64 v0) (by first | (go_simp; done) | simpa using cy0)
      replace cy1 := ck hb (a := ⟨w.heap.size + 1, 1, none⟩) (v := .int .u64 v1) (by first | (go_simp; done) | simpa using cy1)
      replace cz0 := ck hb (a := ⟨w.heap.size + 1 + 1, 0, none⟩) (v := .int .i64 z0) (by first | (go_simp; done) | simpa using cz0)
      replace cz1 := ck hb (a := ⟨w.heap.size + 1 + 1, 1, none⟩) (v := .int .u64 z1) (by first | (go_simp; done) | simpa using cz1)
      have cd0 := ck hb (a := ⟨w2.heap.size, 0, none⟩) (v := .int .i64 d0) (by go_simp)
      have cd1 := ck hb (a := ⟨w2.heap.size, 1, none⟩) (v := .int .u64 d1) (by go_simp)
      replace zw_0 : w.heap.size < w3.heap.size := World.block_lt_of_cell? w3 _ cx0
      replace nw_0 : ¬ w.heap.size = w3.heap.size := Nat.ne_of_lt zw_0
      replace zw_1 : w.heap.size + 1 < w3.heap.size := World.block_lt_of_cell? w3 _ cy0
      replace nw_1 : ¬ w.heap.size + 1 = w3.heap.size := Nat.ne_of_lt zw_1
      replace zw_2 : w.heap.size + 1 + 1 < w3.heap.size := World.block_lt_of_cell? w3 _ cz0
      replace nw_2 : ¬ w.heap.size + 1 + 1 = w3.heap.size := Nat.ne_of_lt zw_2
      have zw2_0 : w2.heap.size < w3.heap.size := World.block_lt_of_cell? w3 _ cd0
      have nw2_0 : ¬ w2.heap.size = w3.heap.size := Nat.ne_of_lt zw2_0
      replace HB : Below w.heap.size w w3 := bt (by repeat (first | (with_reducible exact HB) | (with_reducible exact Below.refl _ _) | (with_reducible apply bd) | (with_reducible apply ba) | (with_reducible refine bs ?_ (by first | (simp; done) | (simp; omega)) _))) hb
      clear hb
      go_wp2_with fail
      refine (m4 (by trivial) _).mono ?_; rintro e w4 ⟨rfl, hb⟩; (with_reducible (repeat replace hb := undr hb))
      replace cx0 := ck hb (a := ⟨w.heap.size, 0, none⟩) (v := .int .i64 u0) (by first | (go_simp; done) | simpa using cx0)
      replace cx1 := ck hb (a := ⟨w.heap.size, 1, none⟩) (v := .int .u64 u1) (by first | (go_simp; done) | simpa using cx1)
      replace cy0 := ck hb (a := ⟨w.heap.size + 1, 0, none⟩) (v := .int .i64 v0) (by first | (go_simp; done) | simpa using cy0)
      replace cy1 := ck hb (a := ⟨w.heap.size + 1, 1, none⟩) (v := .int .u64 v1) (by first | (go_simp; done) | simpa using cy1)
      replace cz0 := ck hb (a := ⟨w.heap.size + 1 + 1, 0, none⟩) (v := .int .i64 z0) (by first | (go_simp; done) | simpa using cz0)
      replace cz1 := ck hb (a := ⟨w.heap.size + 1 + 1, 1, none⟩) (v := .int .u64 z1) (by first | (go_simp; done) | simpa using cz1)
      replace zw_0 : w.heap.size < w4.heap.size := World.block_lt_of_cell? w4 _ cx0
      replace nw_0 : ¬ w.heap.size = w4.heap.size := Nat.ne_of_lt zw_0
      replace zw_1 : w.heap.size + 1 < w4.heap.size := World.block_lt_of_cell? w4 _ cy0
      replace nw_1 : ¬ w.heap.size + 1 = w4.heap.size := Nat.ne_of_lt zw_1
      replace zw_2 : w.heap.size + 1 + 1 < w4.heap.size := World.block_lt_of_cell? w4 _ cz0
      replace nw_2 : ¬ w.heap.size + 1 + 1 = w4.heap.size := Nat.ne_of_lt zw_2
      replace HB : Below w.heap.size w w4 := bt (by repeat (first | (with_reducible exact HB) | (with_reducible exact Below.refl _ _) | (with_reducible apply bd) | (with_reducible apply ba) | (with_reducible refine bs ?_ (by first | (simp; done) | (simp; omega)) _))) hb
      clear hb
      go_wp2_with fail
      refine (m5 _).mono ?_; rintro e w5 ⟨rfl, hb⟩; (with_reducible (repeat replace hb := undr hb))
      replace cx0 := ck hb (a := ⟨w.heap.size, 0, none⟩) (v := .int .i64 u0) (by first | (go_simp; done) | simpa using cx0)
      replace cx1 := ck hb (a := ⟨w.heap.size, 1, none⟩) (v := .int .u64 u1) (by first | (go_simp; done) | simpa using cx1)
      replace cy0 := ck hb (a := ⟨w.heap.size + 1, 0, none⟩) (v := .int .i64 v0) (by first | (go_simp; done) | simpa using cy0)
      replace cy1 := ck hb (a := ⟨w.heap.size + 1, 1, none⟩) (v := .int .u64 v1) (by first | (go_simp; done) | simpa using cy1)
      replace cz0 := ck hb (a := ⟨w.heap.size + 1 + 1, 0, none⟩) (v := .int .i64 z0) (by first | (go_simp; done) | simpa using cz0)
      replace cz1 := ck hb (a := ⟨w.heap.size + 1 + 1, 1, none⟩) (v := .int .u64 z1) (by first | (go_simp; done) | simpa using cz1)
      replace zw_0 : w.heap.size < w5.heap.size := World.block_lt_of_cell? w5 _ cx0
      replace nw_0 : ¬ w.heap.size = w5.heap.size := Nat.ne_of_lt zw_0
      replace zw_1 : w.heap.size + 1 < w5.heap.size := World.block_lt_of_cell? w5 _ cy0
      replace nw_1 : ¬ w.heap.size + 1 = w5.heap.size := Nat.ne_of_lt zw_1
      replace zw_2 : w.heap.size + 1 + 1 < w5.heap.size := World.block_lt_of_cell? w5 _ cz0
      replace nw_2 : ¬ w.heap.size + 1 + 1 = w5.heap.size := Nat.ne_of_lt zw_2
      replace HB : Below w.heap.size w w5 := bt (by repeat (first | (with_reducible exact HB) | (with_reducible exact Below.refl _ _) | (with_reducible apply bd) | (with_reducible apply ba) | (with_reducible refine bs ?_ (by first | (simp; done) | (simp; omega)) _))) hb
      clear hb
      go_wp2_with fail
      go_meet
      case rel => exact ⟨rfl, by go_simp, by go_simp, by go_simp, by go_simp, by go_simp, by go_simp, by repeat (first | (with_reducible exact HB) | (with_reducible exact Below.refl _ _) | (with_reducible apply bd) | (with_reducible apply ba) | (with_reducible refine bs ?_ (by first | (simp; done) | (simp; omega)) _))⟩
    · subst hok
      go_wp2_with fail
      refine (m3 _).mono ?_; rintro e w3 ⟨rfl, hb⟩; (with_reducible (repeat replace hb := undr hb))
      replace cx0 := ck hb (a := ⟨w.heap.size, 0, none⟩) (v := .int .i64 u0) (by first | (go_simp; done) | simpa using cx0)
      replace cx1 := ck hb (a := ⟨w.heap.size, 1, none⟩) (v := .int .u64 u1) (by first | (go_simp; done) | simpa using cx1)
      replace cy0 := ck hb (a := ⟨w.heap.size + 1, 0, none⟩) (v := .int .i64 v0) (by first | (go_simp; done) | simpa using cy0)
      replace cy1 := ck hb (a := ⟨w.heap.size + 1, 1, none⟩) (v := .int .u64 v1) (by first | (go_simp; done) | simpa using cy1)
      replace cz0 := ck hb (a := ⟨w.heap.size + 1 + 1, 0, none⟩) (v := .int .i64 z0) (by first | (go_simp; done) | simpa using cz0)
      replace cz1 := ck hb (a := ⟨w.heap.size + 1 + 1, 1, none⟩) (v := .int .u64 z1) (by first | (go_simp; done) | simpa using cz1)
      have cd0 := ck hb (a := ⟨w2.heap.size, 0, none⟩) (v := .int .i64 d0) (by go_simp)
      have cd1 := ck hb (a := ⟨w2.heap.size, 1, none⟩) (v := .int .u64 d1) (by go_simp)
      replace zw_0 : w.heap.size < w3.heap.size := World.block_lt_of_cell? w3 _ cx0
      replace nw_0 : ¬ w.heap.size = w3.heap.size := Nat.ne_of_lt zw_0
      replace zw_1 : w.heap.size + 1 < w3.heap.size := World.block_lt_of_cell? w3 _ cy0
      replace nw_1 : ¬ w.heap.size + 1 = w3.heap.size := Nat.ne_of_lt zw_1
      replace zw_2 : w.heap.size + 1 + 1 < w3.heap.size := World.block_lt_of_cell? w3 _ cz0
      replace nw_2 : ¬ w.heap.size + 1 + 1 = w3.heap.size := Nat.ne_of_lt zw_2
      have zw2_0 : w2.heap.size < w3.heap.size := World.block_lt_of_cell? w3 _ cd0
      have nw2_0 : ¬ w2.heap.size = w3.heap.size := Nat.ne_of_lt zw2_0
      replace HB : Below w.heap.size w w3 := bt (by repeat (first | (with_reducible exact HB) | (with_reducible exact Below.refl _ _) | (with_reducible apply bd) | (with_reducible apply ba) | (with_reducible refine bs ?_ (by first | (simp; done) | (simp; omega)) _))) hb
      clear hb
      go_wp2_with fail
      refine (m4 (by trivial) _).mono ?_; rintro e w4 ⟨rfl, hb⟩; (with_reducible (repeat replace hb := undr hb))
      replace cx0 := ck hb (a := ⟨w.heap.size, 0, none⟩) (v := .int .i64 u0) (by first | (go_simp; done) | simpa using cx0)
      replace cx1 := ck hb (a := ⟨w.heap.size, 1, none⟩) (v := .int .u64 u1) (by first | (go_simp; done) | simpa using cx1)
      replace cy0 := ck hb (a := ⟨w.heap.size + 1, 0, none⟩) (v := .int .i64 v0) (by first | (go_simp; done) | simpa using cy0)
      replace cy1 := ck hb (a := ⟨w.heap.size + 1, 1, none⟩) (v := .int .u64 v1) (by first | (go_simp; done) | simpa using cy1)
      replace cz0 := ck hb (a := ⟨w.heap.size + 1 + 1, 0, none⟩) (v := .int .i64 z0) (by first | (go_simp; done) | simpa using cz0)
      replace cz1 := ck hb (a := ⟨w.heap.size + 1 + 1, 1, none⟩) (v := .int .u64 z1) (by first | (go_simp; done) | simpa using cz1)
      replace zw_0 : w.heap.size < w4.heap.size := World.block_lt_of_cell? w4 _ cx0
      replace nw_0 : ¬ w.heap.size = w4.heap.size := Nat.ne_of_lt zw_0
      replace zw_1 : w.heap.size + 1 < w4.heap.size := World.block_lt_of_cell? w4 _ cy0
      replace nw_1 : ¬ w.heap.size + 1 = w4.heap.size := Nat.ne_of_lt zw_1
      replace zw_2 : w.heap.size + 1 + 1 < w4.heap.size := World.block_lt_of_cell? w4 _ cz0
      replace nw_2 : ¬ w.heap.size + 1 + 1 = w4.heap.size := Nat.ne_of_lt zw_2
      replace HB : Below w.heap.size w w4 := bt (by repeat (first | (with_reducible exact HB) | (with_reducible exact Below.refl _ _) | (with_reducible apply bd) | (with_reducible apply ba) | (with_reducible refine bs ?_ (by first | (simp; done) | (simp; omega)) _))) hb
      clear hb
      go_wp2_with fail
      refine (m5 _).mono ?_; rintro e w5 ⟨rfl, hb⟩; (with_reducible (repeat replace hb := undr hb))
      replace cx0 := ck hb (a := ⟨w.heap.size, 0, none⟩) (v := .int .i64 u0) (by first | (go_simp; done) | simpa using cx0)
      replace cx1 := ck hb (a := ⟨w.heap.size, 1, none⟩) (v := .int .u64 u1) (by first | (go_simp; done) | simpa using cx1)
      replace cy0 := ck hb (a := ⟨w.heap.size + 1, 0, none⟩) (v := .int .i64 v0) (by first | (go_simp; done) | simpa using cy0)
      replace cy1 := ck hb (a := ⟨w.heap.size + 1, 1, none⟩) (v := .int .u64 v1) (by first | (go_simp; done) | simpa using cy1)
      replace cz0 := ck hb (a := ⟨w.heap.size + 1 + 1, 0, none⟩) (v := .int .i64 z0) (by first | (go_simp; done) | simpa using cz0)
      replace cz1 := ck hb (a := ⟨w.heap.size + 1 + 1, 1, none⟩) (v := .int .u64 z1) (by first | (go_simp; done) | simpa using cz1)
      replace zw_0 : w.heap.size < w5.heap.size := World.block_lt_of_cell? w5 _ cx0
      replace nw_0 : ¬ w.heap.size = w5.heap.size := Nat.ne_of_lt zw_0
      replace zw_1 : w.heap.size + 1 < w5.heap.size := World.block_lt_of_cell? w5 _ cy0
      replace nw_1 : ¬ w.heap.size + 1 = w5.heap.size := Nat.ne_of_lt zw_1
      replace zw_2 : w.heap.size + 1 + 1 < w5.heap.size := World.block_lt_of_cell? w5 _ cz0
      replace nw_2 : ¬ w.heap.size + 1 + 1 = w5.heap.size := Nat.ne_of_lt zw_2
      replace HB : Below w.heap.size w w5 := bt (by repeat (first | (with_reducible exact HB) | (with_reducible exact Below.refl _ _) | (with_reducible apply bd) | (with_reducible apply ba) | (with_reducible refine bs ?_ (by first | (simp; done) | (simp; omega)) _))) hb
      clear hb
      have e4 := e2 hn hp
      go_wp2_with fail
      refine (m6 _).mono ?_; rintro e w6 ⟨rfl, hb⟩; (with_reducible (repeat replace hb := undr hb))
      replace cx0 := ck hb (a := ⟨w.heap.size, 0, none⟩) (v := .int .i64 u0) (by first | (go_simp; done) | simpa using cx0)
      replace cx1 := ck hb (a := ⟨w.heap.size, 1, none⟩) (v := .int .u64 u1) (by first | (go_simp; done) | simpa using cx1)
      replace cy0 := ck hb (a := ⟨w.heap.size + 1, 0, none⟩) (v := .int .i64 v0) (by first | (go_simp; done) | simpa using cy0)
      replace cy1 := ck hb (a := ⟨w.heap.size + 1, 1, none⟩) (v := .int .u64 v1) (by first | (go_simp; done) | simpa using cy1)
      replace cz0 := ck hb (a := ⟨w.heap.size + 1 + 1, 0, none⟩) (v := .int .i64 z0) (by first | (go_simp; done) | simpa using cz0)
      replace cz1 := ck hb (a := ⟨w.heap.size + 1 + 1, 1, none⟩) (v := .int .u64 z1) (by first | (go_simp; done) | simpa using cz1)
      replace zw_0 : w.heap.size < w6.heap.size := World.block_lt_of_cell? w6 _ cx0
      replace nw_0 : ¬ w.heap.size = w6.heap.size := Nat.ne_of_lt zw_0
      replace zw_1 : w.heap.size + 1 < w6.heap.size := World.block_lt_of_cell? w6 _ cy0
      replace nw_1 : ¬ w.heap.size + 1 = w6.heap.size := Nat.ne_of_lt zw_1
      replace zw_2 : w.heap.size + 1 + 1 < w6.heap.size := World.block_lt_of_cell? w6 _ cz0
      replace nw_2 : ¬ w.heap.size + 1 + 1 = w6.heap.size := Nat.ne_of_lt zw_2
      replace HB : Below w.heap.size w w6 := bt (by repeat (first | (with_reducible exact HB) | (with_reducible exact Below.refl _ _) | (with_reducible apply bd) | (with_reducible apply ba) | (with_reducible refine bs ?_ (by first | (simp; done) | (simp; omega)) _))) hb
      clear hb
      go_wp2_with fail
      go_meet
      case rel => exact ⟨rfl, by go_simp, by go_simp, by go_simp, by go_simp, by go_simp, by go_simp, by repeat (first | (with_reducible exact HB) | (with_reducible exact Below.refl _ _) | (with_reducible apply bd) | (with_reducible apply ba) | (with_reducible refine bs ?_ (by first | (simp; done) | (simp; omega)) _))⟩
  case rest =>
    obtain ⟨rfl, cx0, cx1, cy0, cy1, cz0, cz1, HB⟩ := hcut
    go_wp2_with fail
    refine (m7 _).mono ?_; rintro e w7 ⟨rfl, hb⟩; (with_reducible (repeat replace hb := undr hb))
    replace cx0 := ck hb (a := ⟨w.heap.size, 0, none⟩) (v := .int .i64 u0) (by first | (go_simp; done) | simpa using cx0)
    replace cx1 := ck hb (a := ⟨w.heap.size, 1, none⟩) (v := .int .u64 u1) (by first | (go_simp; done) | simpa using cx1)
    replace cy0 := ck hb (a := ⟨w.heap.size + 1, 0, none⟩) (v := .int .i64 v0) (by first | (go_simp; done) | simpa using cy0)
    replace cy1 := ck hb (a := ⟨w.heap.size + 1, 1, none⟩) (v := .int .u64 v1) (by first | (go_simp; done) | simpa using cy1)
    replace cz0 := ck hb (a := ⟨w.heap.size + 1 + 1, 0, none⟩) (v := .int .i64 z0) (by first | (go_simp; done) | simpa using cz0)
    replace cz1 := ck hb (a := ⟨w.heap.size + 1 + 1, 1, none⟩) (v := .int .u64 z1) (by first | (go_simp; done) | simpa using cz1)
    have zw_0 : w.heap.size < w7.heap.size := World.block_lt_of_cell? w7 _ cx0
    have nw_0 : ¬ w.heap.size = w7.heap.size := Nat.ne_of_lt zw_0
    have zw_1 : w.heap.size + 1 < w7.heap.size := World.block_lt_of_cell? w7 _ cy0
    have nw_1 : ¬ w.heap.size + 1 = w7.heap.size := Nat.ne_of_lt zw_1
    have zw_2 : w.heap.size + 1 + 1 < w7.heap.size := World.block_lt_of_cell? w7 _ cz0
    have nw_2 : ¬ w.heap.size + 1 + 1 = w7.heap.size := Nat.ne_of_lt zw_2
    replace HB : Below w.heap.size w w7 := bt (by repeat (first | (with_reducible exact HB) | (with_reducible exact Below.refl _ _) | (with_reducible apply bd) | (with_reducible apply ba) | (with_reducible refine bs ?_ (by first | (simp; done) | (simp; omega)) _))) hb
    clear hb
    go_wp2_with fail
    refine (m8 _).mono ?_; rintro e w8 ⟨rfl, hb⟩; (with_reducible (repeat replace hb := undr hb))
    replace cx0 := ck hb (a := ⟨w.heap.size, 0, none⟩) (v := .int .i64 u0) (by first | (go_simp; done) | simpa using cx0)
    replace cx1 := ck hb (a := ⟨w.heap.size, 1, none⟩) (v := .int .u64 u1) (by first | (go_simp; done) | simpa using cx1)
    replace cy0 := ck hb (a := ⟨w.heap.size + 1, 0, none⟩) (v := .int .i64 v0) (by first | (go_simp; done) | simpa using cy0)
    replace cy1 := ck hb (a := ⟨w.heap.size + 1, 1, none⟩) (v := .int .u64 v1) (by first | (go_simp; done) | simpa using cy1)
    replace cz0 := ck hb (a := ⟨w.heap.size + 1 + 1, 0, none⟩) (v := .int .i64 z0) (by first | (go_simp; done) | simpa using cz0)
    replace cz1 := ck hb (a := ⟨w.heap.size + 1 + 1, 1, none⟩) (v := .int .u64 z1) (by first | (go_simp; done) | simpa using cz1)
    have cf0 := ck hb (a := ⟨w7.heap.size, 0, none⟩) (v := .int .i64 f0) (by go_simp)
    have cf1 := ck hb (a := ⟨w7.heap.size, 1, none⟩) (v := .int .u64 f1) (by go_simp)
    replace zw_0 : w.heap.size < w8.heap.size := World.block_lt_of_cell? w8 _ cx0
    replace nw_0 : ¬ w.heap.size = w8.heap.size := Nat.ne_of_lt zw_0
    replace zw_1 : w.heap.size + 1 < w8.heap.size := World.block_lt_of_cell? w8 _ cy0
    replace nw_1 : ¬ w.heap.size + 1 = w8.heap.size := Nat.ne_of_lt zw_1
    replace zw_2 : w.heap.size + 1 + 1 < w8.heap.size := World.block_lt_of_cell? w8 _ cz0
    replace nw_2 : ¬ w.heap.size + 1 + 1 = w8.heap.size := Nat.ne_of_lt zw_2
    have zw7_0 : w7.heap.size < w8.heap.size := World.block_lt_of_cell? w8 _ cf0
    have nw7_0 : ¬ w7.heap.size = w8.heap.size := Nat.ne_of_lt zw7_0
    replace HB : Below w.heap.size w w8 := bt (by repeat (first | (with_reducible exact HB) | (with_reducible exact Below.refl _ _) | (with_reducible apply bd) | (with_reducible apply ba) | (with_reducible refine bs ?_ (by first | (simp; done) | (simp; omega)) _))) hb
    clear hb
    go_wp2_with fail
    refine region8_7_0 n nn sx u0 u1 f0 f1 g0 g1 w.heap.size w7.heap.size w8.heap.size w htab m10 m11 (by kernel_rfl) rfl rfl rfl rfl rfl rfl ⟨?_, ?_, ?_, ?_, ?_, ?_, ?_⟩ (fun w9 hS => ?_)
    iterate 6 (focus (go_simp; done))
    · exact (by repeat (first | (with_reducible exact HB) | (with_reducible exact Below.refl _ _) | (with_reducible apply bd) | (with_reducible apply ba) | (with_reducible refine bs ?_ (by first | (simp; done) | (simp; omega)) _)))
    obtain ⟨-, -, -, -, -, -, HB⟩ := hS
    simp only [List.setIfInBounds_toArray, List.set_cons_zero, List.set_cons_succ]
    go_wp2_with fail
    go_ret
    exact ⟨rfl, by repeat (first | (with_reducible exact HB) | (with_reducible exact Below.refl _ _) | (with_reducible apply bd) | (with_reducible apply ba) | (with_reducible refine bs ?_ (by first | (simp; done) | (simp; omega)) _))⟩

set_option maxHeartbeats 4000000 in
set_option maxRecDepth 100000 in
theorem wideOrder_w1 (n m nn sx u0 u1 v0 v1 z0 z1 d0 d1 f0 f1 g0 g1 p q : Int) (ok may : Bool) (w : World) (htab : Tab w)
    (m1 : ∀ w : World, Calls Tryd.prog 23 #[.agg #[.int .i64 u0, .int .u64 u1], .agg #[.int .i64 v0, .int .u64 v1]] w fun e w' => e = .returned (.int .i64 n) ∧ Below w.heap.size w w')
    (m2 : ∀ w : World, Calls Tryd.prog 14 #[.agg #[.int .i64 u0, .int .u64 u1], .agg #[.int .i64 v0, .int .u64 v1]] w fun e w' => e = .returned (.tuple #[.agg #[.int .i64 d0, .int .u64 d1], .bool ok]) ∧ Below w.heap.size w w')
    (m3 : ∀ w : World, Calls Tryd.prog 23 #[.agg #[.int .i64 v0, .int .u64 v1], .agg #[.int .i64 u0, .int .u64 u1]] w fun e w' => e = .returned (.int .i64 m) ∧ Below w.heap.size w w') (e0 : wrap64 (-m) = n) (e1 : (n == 0) = (u0 == v0 && u1 == v1))
    (m4 : ok = true → ∀ w : World, Calls Tryd.prog 15 #[.agg #[.int .i64 d0, .int .u64 d1]] w fun e w' => e = .returned (.int .i64 n) ∧ Below w.heap.size w w')
    (m5 : ∀ w : World, Calls Tryd.prog 23 #[.agg #[.int .i64 v0, .int .u64 v1], .agg #[.int .i64 z0, .int .u64 z1]] w fun e w' => e = .returned (.int .i64 p) ∧ Below w.heap.size w w')
    (m6 : ∀ w : World, Calls Tryd.prog 23 #[.agg #[.int .i64 u0, .int .u64 u1], .agg #[.int .i64 z0, .int .u64 z1]] w fun e w' => e = .returned (.int .i64 q) ∧ Below w.heap.size w w') (e2 : decide (n ≤ 0) = true → decide (p ≤ 0) = true → decide (0 < q) = false)
    (m7 : ∀ w : World, Calls Tryd.prog 19 #[.agg #[.int .i64 u0, .int .u64 u1]] w fun e w' => e = .returned (.tuple #[.agg #[.int .i64 f0, .int .u64 f1], .bool true]) ∧ Below w.heap.size w w')
    (m8 : ∀ w : World, Calls Tryd.prog 19 #[.agg #[.int .i64 v0, .int .u64 v1]] w fun e w' => e = .returned (.tuple #[.agg #[.int .i64 g0, .int .u64 g1], .bool false]) ∧ Below w.heap.size w w')
    
    (m10 : ∀ w : World, Calls Tryd.prog 15 #[.agg #[.int .i64 u0, .int .u64 u1]] w fun e w' => e = .returned (.int .i64 sx) ∧ Below w.heap.size w w') (m11 : ∀ w : World, Calls Tryd.prog 23 #[.agg #[.int .i64 u0, .int .u64 u1], .agg #[.int .i64 0, .int .u64 0]] w fun e w' => e = .returned (.int .i64 sx) ∧ Below w.heap.size w w') :
    Calls Tryd.prog 8 #[.agg #[.int .i64 u0, .int .u64 u1], .agg #[.int .i64 v0, .int .u64 v1], .agg #[.int .i64 z0, .int .u64 z1]] w fun e w' => e = .returned (.bool true) ∧ Below w.heap.size w w' := by
  have HB := Below.refl w.heap.size w
  go_enter Tryd.func8, Tryd.ntmps8
  go_wp2_with fail
  refine (m1 _).mono ?_; rintro e w1 ⟨rfl, hb⟩; (with_reducible (repeat replace hb := undr hb))
  have cx0 := ck hb (a := ⟨w.heap.size, 0, none⟩) (v := .int .i64 u0) (by go_simp)
  have cx1 := ck hb (a := ⟨w.heap.size, 1, none⟩) (v := .int .u64 u1) (by go_simp)
  have cy0 := ck hb (a := ⟨w.heap.size + 1, 0, none⟩) (v := .int .i64 v0) (by go_simp)
  have cy1 := ck hb (a := ⟨w.heap.size + 1, 1, none⟩) (v := .int .u64 v1) (by go_simp)
  have cz0 := ck hb (a := ⟨w.heap.size + 1 + 1, 0, none⟩) (v := .int .i64 z0) (by go_simp)
  have cz1 := ck hb (a := ⟨w.heap.size + 1 + 1, 1, none⟩) (v := .int .u64 z1) (by go_simp)
  have zw_0 : w.heap.size < w1.heap.size := World.block_lt_of_cell? w1 _ cx0
  have nw_0 : ¬ w.heap.size = w1.heap.size := Nat.ne_of_lt zw_0
  have zw_1 : w.heap.size + 1 < w1.heap.size := World.block_lt_of_cell? w1 _ cy0
  have nw_1 : ¬ w.heap.size + 1 = w1.heap.size := Nat.ne_of_lt zw_1
  have zw_2 : w.heap.size + 1 + 1 < w1.heap.size := World.block_lt_of_cell? w1 _ cz0
  have nw_2 : ¬ w.heap.size + 1 + 1 = w1.heap.size := Nat.ne_of_lt zw_2
  replace HB : Below w.heap.size w w1 := bt (by repeat (first | (with_reducible exact HB) | (with_reducible exact Below.refl _ _) | (with_reducible apply bd) | (with_reducible apply ba) | (with_reducible refine bs ?_ (by first | (simp; done) | (simp; omega)) _))) hb
  clear hb
  go_wp2_with fail
  refine (m2 _).mono ?_; rintro e w2 ⟨rfl, hb⟩; (with_reducible (repeat replace hb := undr hb))
  replace cx0 := ck hb (a := ⟨w.heap.size, 0, none⟩) (v := .int .i64 u0) (by first | (go_simp; done) | simpa using cx0)
  replace cx1 := ck hb (a := ⟨w.heap.size, 1, none⟩) (v := .int .u64 u1) (by first | (go_simp; done) | simpa using cx1)
  replace cy0 := ck hb (a := ⟨w.heap.size + 1, 0, none⟩) (v := .int .i64 v0) (by first | (go_simp; done) | simpa using cy0)
  replace cy1 := ck hb (a := ⟨w.heap.size + 1, 1, none⟩) (v := .int .u64 v1) (by first | (go_simp; done) | simpa using cy1)
  replace cz0 := ck hb (a := ⟨w.heap.size + 1 + 1, 0, none⟩) (v := .int .i64 z0) (by first | (go_simp; done) | simpa using cz0)
  replace cz1 := ck hb (a := ⟨w.heap.size + 1 + 1, 1, none⟩) (v := .int .u64 z1) (by first | (go_simp; done) | simpa using cz1)
  replace zw_0 : w.heap.size < w2.heap.size := World.block_lt_of_cell? w2 _ cx0
  replace nw_0 : ¬ w.heap.size = w2.heap.size := Nat.ne_of_lt zw_0
  replace zw_1 : w.heap.size + 1 < w2.heap.size := World.block_lt_of_cell? w2 _ cy0
  replace nw_1 : ¬ w.heap.size + 1 = w2.heap.size := Nat.ne_of_lt zw_1
  replace zw_2 : w.heap.size + 1 + 1 < w2.heap.size := World.block_lt_of_cell? w2 _ cz0
  replace nw_2 : ¬ w.heap.size + 1 + 1 = w2.heap.size := Nat.ne_of_lt zw_2
  replace HB : Below w.heap.size w w2 := bt (by repeat (first | (with_reducible exact HB) | (with_reducible exact Below.refl _ _) | (with_reducible apply bd) | (with_reducible apply ba) | (with_reducible refine bs ?_ (by first | (simp; done) | (simp; omega)) _))) hb
  clear hb
  go_upto_region 3 with fail
  go_cut [61] (fun s61 wx => s61 = .bool false ∧ wx.cell? ⟨w.heap.size, 0, none⟩ = some (.int .i64 u0) ∧ wx.cell? ⟨w.heap.size, 1, none⟩ = some (.int .u64 u1) ∧ wx.cell? ⟨w.heap.size + 1, 0, none⟩ = some (.int .i64 v0) ∧ wx.cell? ⟨w.heap.size + 1, 1, none⟩ = some (.int .u64 v1) ∧ wx.cell? ⟨w.heap.size + 1 + 1, 0, none⟩ = some (.int .i64 z0) ∧ wx.cell? ⟨w.heap.size + 1 + 1, 1, none⟩ = some (.int .u64 z1) ∧ Below w.heap.size w wx)
  case first =>
    cases hok : ok <;> cases hn : decide (n ≤ 0) <;> cases hp : decide (p ≤ 0)
    · subst hok
      go_wp2_with fail
      refine (m3 _).mono ?_; rintro e w3 ⟨rfl, hb⟩; (with_reducible (repeat replace hb := undr hb))
      replace cx0 := ck hb (a := ⟨w.heap.size, 0, none⟩) (v := .int .i64 u0) (by first | (go_simp; done) | simpa using cx0)
      replace cx1 := ck hb (a := ⟨w.heap.size, 1, none⟩) (v := .int .u64 u1) (by first | (go_simp; done) | simpa using cx1)
      replace cy0 := ck hb (a := ⟨w.heap.size + 1, 0, none⟩) (v := .int .i64 v0) (by first | (go_simp; done) | simpa using cy0)
      replace cy1 := ck hb (a := ⟨w.heap.size + 1, 1, none⟩) (v := .int .u64 v1) (by first | (go_simp; done) | simpa using cy1)
      replace cz0 := ck hb (a := ⟨w.heap.size + 1 + 1, 0, none⟩) (v := .int .i64 z0) (by first | (go_simp; done) | simpa using cz0)
      replace cz1 := ck hb (a := ⟨w.heap.size + 1 + 1, 1, none⟩) (v := .int .u64 z1) (by first | (go_simp; done) | simpa using cz1)
      have cd0 := ck hb (a := ⟨w2.heap.size, 0, none⟩) (v := .int .i64 d0) (by go_simp)
      have cd1 := ck hb (a := ⟨w2.heap.size, 1, none⟩) (v := .int .u64 d1) (by go_simp)
      replace zw_0 : w.heap.size < w3.heap.size := World.block_lt_of_cell? w3 _ cx0
      replace nw_0 : ¬ w.heap.size = w3.heap.size := Nat.ne_of_lt zw_0
      replace zw_1 : w.heap.size + 1 < w3.heap.size := World.block_lt_of_cell? w3 _ cy0
      replace nw_1 : ¬ w.heap.size + 1 = w3.heap.size := Nat.ne_of_lt zw_1
      replace zw_2 : w.heap.size + 1 + 1 < w3.heap.size := World.block_lt_of_cell? w3 _ cz0
      replace nw_2 : ¬ w.heap.size + 1 + 1 = w3.heap.size := Nat.ne_of_lt zw_2
      have zw2_0 : w2.heap.size < w3.heap.size := World.block_lt_of_cell? w3 _ cd0
      have nw2_0 : ¬ w2.heap.size = w3.heap.size := Nat.ne_of_lt zw2_0
      replace HB : Below w.heap.size w w3 := bt (by repeat (first | (with_reducible exact HB) | (with_reducible exact Below.refl _ _) | (with_reducible apply bd) | (with_reducible apply ba) | (with_reducible refine bs ?_ (by first | (simp; done) | (simp; omega)) _))) hb
      clear hb
      go_wp2_with fail
      go_meet
      case rel => exact ⟨rfl, by go_simp, by go_simp, by go_simp, by go_simp, by go_simp, by go_simp, by repeat (first | (with_reducible exact HB) | (with_reducible exact Below.refl _ _) | (with_reducible apply bd) | (with_reducible apply ba) | (with_reducible refine bs ?_ (by first | (simp; done) | (simp; omega)) _))⟩
    · subst hok
      go_wp2_with fail
      refine (m3 _).mono ?_; rintro e w3 ⟨rfl, hb⟩; (with_reducible (repeat replace hb := undr hb))
      replace cx0 := ck hb (a := ⟨w.heap.size, 0, none⟩) (v := .int .i64 u0) (by first | (go_simp; done) | simpa using cx0)
      replace cx1 := ck hb (a := ⟨w.heap.size, 1, none⟩) (v := .int .u64 u1) (by first | (go_simp; done) | simpa using cx1)
      replace cy0 := ck hb (a := ⟨w.heap.size + 1, 0, none⟩) (v := .int .i64 v0) (by first | (go_simp; done) | simpa using cy0)
      replace cy1 := ck hb (a := ⟨w.heap.size + 1, 1, none⟩) (v := .int .u64 v1) (by first | (go_simp; done) | simpa using cy1)
      replace cz0 := ck hb (a := ⟨w.heap.size + 1 + 1, 0, none⟩) (v := .int .i64 z0) (by first | (go_simp; done) | simpa using cz0)
      replace cz1 := ck hb (a := ⟨w.heap.size + 1 + 1, 1, none⟩) (v := .int .u64 z1) (by first | (go_simp; done) | simpa using cz1)
      have cd0 := ck hb (a := ⟨w2.heap.size, 0, none⟩) (v := .int .i64 d0) (by go_simp)
      have cd1 := ck hb (a := ⟨w2.heap.size, 1, none⟩) (v := .int .u64 d1) (by go_simp)
      replace zw_0 : w.heap.size < w3.heap.size := World.block_lt_of_cell? w3 _ cx0
      replace nw_0 : ¬ w.heap.size = w3.heap.size := Nat.ne_of_lt zw_0
      replace zw_1 : w.heap.size + 1 < w3.heap.size := World.block_lt_of_cell? w3 _ cy0
      replace nw_1 : ¬ w.heap.size + 1 = w3.heap.size := Nat.ne_of_lt zw_1
      replace zw_2 : w.heap.size + 1 + 1 < w3.heap.size := World.block_lt_of_cell? w3 _ cz0
      replace nw_2 : ¬ w.heap.size + 1 + 1 = w3.heap.size := Nat.ne_of_lt zw_2
      have zw2_0 : w2.heap.size < w3.heap.size := World.block_lt_of_cell? w3 _ cd0
      have nw2_0 : ¬ w2.heap.size = w3.heap.size := Nat.ne_of_lt zw2_0
      replace HB : Below w.heap.size w w3 := bt (by repeat (first | (with_reducible exact HB) | (with_reducible exact Below.refl _ _) | (with_reducible apply bd) | (with_reducible apply ba) | (with_reducible refine bs ?_ (by first | (simp; done) | (simp; omega)) _))) hb
      clear hb
      go_wp2_with fail
      go_meet
      case rel => exact ⟨rfl, by go_simp, by go_simp, by go_simp, by go_simp, by go_simp, by go_simp, by repeat (first | (with_reducible exact HB) | (with_reducible exact Below.refl _ _) | (with_reducible apply bd) | (with_reducible apply ba) | (with_reducible refine bs ?_ (by first | (simp; done) | (simp; omega)) _))⟩
    · subst hok
      go_wp2_with fail
      refine (m3 _).mono ?_; rintro e w3 ⟨rfl, hb⟩; (with_reducible (repeat replace hb := undr hb))
      replace cx0 := ck hb (a := ⟨w.heap.size, 0, none⟩) (v := .int .i64 u0) (by first | (go_simp; done) | simpa using cx0)
      replace cx1 := ck hb (a := ⟨w.heap.size, 1, none⟩) (v := .int .u64 u1) (by first | (go_simp; done) | simpa using cx1)
      replace cy0 := ck hb (a := ⟨w.heap.size + 1, 0, none⟩) (v := .int .i64 v0) (by first | (go_simp; done) | simpa using cy0)
      replace cy1 := ck hb (a := ⟨w.heap.size + 1, 1, none⟩) (v := .int .u64 v1) (by first | (go_simp; done) | simpa using cy1)
      replace cz0 := ck hb (a := ⟨w.heap.size + 1 + 1, 0, none⟩) (v := .int .i64 z0) (by first | (go_simp; done) | simpa using cz0)
      replace cz1 := ck hb (a := ⟨w.heap.size + 1 + 1, 1, none⟩) (v := .int .u64 z1) (by first | (go_simp; done) | simpa using cz1)
      have cd0 := ck hb (a := ⟨w2.heap.size, 0, none⟩) (v := .int .i64 d0) (by go_simp)
      have cd1 := ck hb (a := ⟨w2.heap.size, 1, none⟩) (v := .int .u64 d1) (by go_simp)
      replace zw_0 : w.heap.size < w3.heap.size := World.block_lt_of_cell? w3 _ cx0
      replace nw_0 : ¬ w.heap.size = w3.heap.size := Nat.ne_of_lt zw_0
      replace zw_1 : w.heap.size + 1 < w3.heap.size := World.block_lt_of_cell? w3 _ cy0
      replace nw_1 : ¬ w.heap.size + 1 = w3.heap.size := Nat.ne_of_lt zw_1
      replace zw_2 : w.heap.size + 1 + 1 < w3.heap.size := World.block_lt_of_cell? w3 _ cz0
      replace nw_2 : ¬ w.heap.size + 1 + 1 = w3.heap.size := Nat.ne_of_lt zw_2
      have zw2_0 : w2.heap.size < w3.heap.size := World.block_lt_of_cell? w3 _ cd0
      have nw2_0 : ¬ w2.heap.size = w3.heap.size := Nat.ne_of_lt zw2_0
      replace HB : Below w.heap.size w w3 := bt (by repeat (first | (with_reducible exact HB) | (with_reducible exact Below.refl _ _) | (with_reducible apply bd) | (with_reducible apply ba) | (with_reducible refine bs ?_ (by first | (simp; done) | (simp; omega)) _))) hb
      clear hb
      go_wp2_with fail
      refine (m5 _).mono ?_; rintro e w5 ⟨rfl, hb⟩; (with_reducible (repeat replace hb := undr hb))
      replace cx0 := ck hb (a := ⟨w.heap.size, 0, none⟩) (v := .int .i64 u0) (by first | (go_simp; done) | simpa using cx0)
      replace cx1 := ck hb (a := ⟨w.heap.size, 1, none⟩) (v := .int .u64 u1) (by first | (go_simp; done) | simpa using cx1)
      replace cy0 := ck hb (a := ⟨w.heap.size + 1, 0, none⟩) (v := .int .i64 v0) (by first | (go_simp; done) | simpa using cy0)
      replace cy1 := ck hb (a := ⟨w.heap.size + 1, 1, none⟩) (v := .int .u64 v1) (by first | (go_simp; done) | simpa using cy1)
      replace cz0 := ck hb (a := ⟨w.heap.size + 1 + 1, 0, none⟩) (v := .int .i64 z0) (by first | (go_simp; done) | simpa using cz0)
      replace cz1 := ck hb (a := ⟨w.heap.size + 1 + 1, 1, none⟩) (v := .int .u64 z1) (by first | (go_simp; done) | simpa using cz1)
      replace zw_0 : w.heap.size < w5.heap.size := World.block_lt_of_cell? w5 _ cx0
      replace nw_0 : ¬ w.heap.size = w5.heap.size := Nat.ne_of_lt zw_0
      replace zw_1 : w.heap.size + 1 < w5.heap.size := World.block_lt_of_cell? w5 _ cy0
      replace nw_1 : ¬ w.heap.size + 1 = w5.heap.size := Nat.ne_of_lt zw_1
      replace zw_2 : w.heap.size + 1 + 1 < w5.heap.size := World.block_lt_of_cell? w5 _ cz0
      replace nw_2 : ¬ w.heap.size + 1 + 1 = w5.heap.size := Nat.ne_of_lt zw_2
      replace HB : Below w.heap.size w w5 := bt (by repeat (first | (with_reducible exact HB) | (with_reducible exact Below.refl _ _) | (with_reducible apply bd) | (with_reducible apply ba) | (with_reducible refine bs ?_ (by first | (simp; done) | (simp; omega)) _))) hb
      clear hb
      go_wp2_with fail
      go_meet
      case rel => exact ⟨rfl, by go_simp, by go_simp, by go_simp, by go_simp, by go_simp, by go_simp, by repeat (first | (with_reducible exact HB) | (with_reducible exact Below.refl _ _) | (with_reducible apply bd) | (with_reducible apply ba) | (with_reducible refine bs ?_ (by first | (simp; done) | (simp; omega)) _))⟩
    · subst hok
      go_wp2_with fail
      refine (m3 _).mono ?_; rintro e w3 ⟨rfl, hb⟩; (with_reducible (repeat replace hb := undr hb))
      replace cx0 := ck hb (a := ⟨w.heap.size, 0, none⟩) (v := .int .i64 u0) (by first | (go_simp; done) | simpa using cx0)
      replace cx1 := ck hb (a := ⟨w.heap.size, 1, none⟩) (v := .int .u64 u1) (by first | (go_simp; done) | simpa using cx1)
      replace cy0 := ck hb (a := ⟨w.heap.size + 1, 0, none⟩) (v := .int .i64 v0) (by first | (go_simp; done) | simpa using cy0)
      replace cy1 := ck hb (a := ⟨w.heap.size + 1, 1, none⟩) (v := .int .u64 v1) (by first | (go_simp; done) | simpa using cy1)
      replace cz0 := ck hb (a := ⟨w.heap.size + 1 + 1, 0, none⟩) (v := .int .i64 z0) (by first | (go_simp; done) | simpa using cz0)
      replace cz1 := ck hb (a := ⟨w.heap.size + 1 + 1, 1, none⟩) (v := .int .u64 z1) (by first | (go_simp; done) | simpa using cz1)
      have cd0 := ck hb (a := ⟨w2.heap.size, 0, none⟩) (v := .int .i64 d0) (by go_simp)
      have cd1 := ck hb (a := ⟨w2.heap.size, 1, none⟩) (v := .int .u64 d1) (by go_simp)
      replace zw_0 : w.heap.size < w3.heap.size := World.block_lt_of_cell? w3 _ cx0
      replace nw_0 : ¬ w.heap.size = w3.heap.size := Nat.ne_of_lt zw_0
      replace zw_1 : w.heap.size + 1 < w3.heap.size := World.block_lt_of_cell? w3 _ cy0
      replace nw_1 : ¬ w.heap.size + 1 = w3.heap.size := Nat.ne_of_lt zw_1
      replace zw_2 : w.heap.size + 1 + 1 < w3.heap.size := World.block_lt_of_cell? w3 _ cz0
      replace nw_2 : ¬ w.heap.size + 1 + 1 = w3.heap.size := Nat.ne_of_lt zw_2
      have zw2_0 : w2.heap.size < w3.heap.size := World.block_lt_of_cell? w3 _ cd0
      have nw2_0 : ¬ w2.heap.size = w3.heap.size := Nat.ne_of_lt zw2_0
      replace HB : Below w.heap.size w w3 := bt (by repeat (first | (with_reducible exact HB) | (with_reducible exact Below.refl _ _) | (with_reducible apply bd) | (with_reducible apply ba) | (with_reducible refine bs ?_ (by first | (simp; done) | (simp; omega)) _))) hb
      clear hb
      go_wp2_with fail
      refine (m5 _).mono ?_; rintro e w5 ⟨rfl, hb⟩; (with_reducible (repeat replace hb := undr hb))
      replace cx0 := ck hb (a := ⟨w.heap.size, 0, none⟩) (v := .int .i64 u0) (by first | (go_simp; done) | simpa using cx0)
      replace cx1 := ck hb (a := ⟨w.heap.size, 1, none⟩) (v := .int .u64 u1) (by first | (go_simp; done) | simpa using cx1)
      replace cy0 := ck hb (a := ⟨w.heap.size + 1, 0, none⟩) (v := .int .i64 v0) (by first | (go_simp; done) | simpa using cy0)
      replace cy1 := ck hb (a := ⟨w.heap.size + 1, 1, none⟩) (v := .int .u64 v1) (by first | (go_simp; done) | simpa using cy1)
      replace cz0 := ck hb (a := ⟨w.heap.size + 1 + 1, 0, none⟩) (v := .int .i64 z0) (by first | (go_simp; done) | simpa using cz0)
      replace cz1 := ck hb (a := ⟨w.heap.size + 1 + 1, 1, none⟩) (v := .int .u64 z1) (by first | (go_simp; done) | simpa using cz1)
      replace zw_0 : w.heap.size < w5.heap.size := World.block_lt_of_cell? w5 _ cx0
      replace nw_0 : ¬ w.heap.size = w5.heap.size := Nat.ne_of_lt zw_0
      replace zw_1 : w.heap.size + 1 < w5.heap.size := World.block_lt_of_cell? w5 _ cy0
      replace nw_1 : ¬ w.heap.size + 1 = w5.heap.size := Nat.ne_of_lt zw_1
      replace zw_2 : w.heap.size + 1 + 1 < w5.heap.size := World.block_lt_of_cell? w5 _ cz0
      replace nw_2 : ¬ w.heap.size + 1 + 1 = w5.heap.size := Nat.ne_of_lt zw_2
      replace HB : Below w.heap.size w w5 := bt (by repeat (first | (with_reducible exact HB) | (with_reducible exact Below.refl _ _) | (with_reducible apply bd) | (with_reducible apply ba) | (with_reducible refine bs ?_ (by first | (simp; done) | (simp; omega)) _))) hb
      clear hb
      have e4 := e2 hn hp
      go_wp2_with fail
      refine (m6 _).mono ?_; rintro e w6 ⟨rfl, hb⟩; (with_reducible (repeat replace hb := undr hb))
      replace cx0 := ck hb (a := ⟨w.heap.size, 0, none⟩) (v := .int .i64 u0) (by first | (go_simp; done) | simpa using cx0)
      replace cx1 := ck hb (a := ⟨w.heap.size, 1, none⟩) (v := .int .u64 u1) (by first | (go_simp; done) | simpa using cx1)
      replace cy0 := ck hb (a := ⟨w.heap.size + 1, 0, none⟩) (v := .int .i64 v0) (by first | (go_simp; done) | simpa using cy0)
      replace cy1 := ck hb (a := ⟨w.heap.size + 1, 1, none⟩) (v := .int .u64 v1) (by first | (go_simp; done) | simpa using cy1)
      replace cz0 := ck hb (a := ⟨w.heap.size + 1 + 1, 0, none⟩) (v := .int .i64 z0) (by first | (go_simp; done) | simpa using cz0)
      replace cz1 := ck hb (a := ⟨w.heap.size + 1 + 1, 1, none⟩) (v := .int .u64 z1) (by first | (go_simp; done) | simpa using cz1)
      replace zw_0 : w.heap.size < w6.heap.size := World.block_lt_of_cell? w6 _ cx0
      replace nw_0 : ¬ w.heap.size = w6.heap.size := Nat.ne_of_lt zw_0
      replace zw_1 : w.heap.size + 1 < w6.heap.size := World.block_lt_of_cell? w6 _ cy0
      replace nw_1 : ¬ w.heap.size + 1 = w6.heap.size := Nat.ne_of_lt zw_1
      replace zw_2 : w.heap.size + 1 + 1 < w6.heap.size := World.block_lt_of_cell? w6 _ cz0
      replace nw_2 : ¬ w.heap.size + 1 + 1 = w6.heap.size := Nat.ne_of_lt zw_2
      replace HB : Below w.heap.size w w6 := bt (by repeat (first | (with_reducible exact HB) | (with_reducible exact Below.refl _ _) | (with_reducible apply bd) | (with_reducible apply ba) | (with_reducible refine bs ?_ (by first | (simp; done) | (simp; omega)) _))) hb
      clear hb
      go_wp2_with fail
      go_meet
      case rel => exact ⟨rfl, by go_simp, by go_simp, by go_simp, by go_simp, by go_simp, by go_simp, by repeat (first | (with_reducible exact HB) | (with_reducible exact Below.refl _ _) | (with_reducible apply bd) | (with_reducible apply ba) | (with_reducible refine bs ?_ (by first | (simp; done) | (simp; omega)) _))⟩
    · subst hok
      go_wp2_with fail
      refine (m3 _).mono ?_; rintro e w3 ⟨rfl, hb⟩; (with_reducible (repeat replace hb := undr hb))
      replace cx0 := ck hb (a := ⟨w.heap.size, 0, none⟩) (v := .int .i64 u0) (by first | (go_simp; done) | simpa using cx0)
      replace cx1 := ck hb (a := ⟨w.heap.size, 1, none⟩) (v := .int .u64 u1) (by first | (go_simp; done) | simpa using cx1)
      replace cy0 := ck hb (a := ⟨w.heap.size + 1, 0, none⟩) (v := .int .i64 v0) (by first | (go_simp; done) | simpa using cy0)
      replace cy1 := ck hb (a := ⟨w.heap.size + 1, 1, none⟩) (v := .int .u64 v1) (by first | (go_simp; done) | simpa using cy1)
      replace cz0 := ck hb (a := ⟨w.heap.size + 1 + 1, 0, none⟩) (v := .int .i64 z0) (by first | (go_simp; done) | simpa using cz0)
      replace cz1 := ck hb (a := ⟨w.heap.size + 1 + 1, 1, none⟩) (v := .int .u64 z1) (by first | (go_simp; done) | simpa using cz1)
      have cd0 := ck hb (a := ⟨w2.heap.size, 0, none⟩) (v := .int .i64 d0) (by go_simp)
      have cd1 := ck hb (a := ⟨w2.heap.size, 1, none⟩) (v := .int .u64 d1) (by go_simp)
      replace zw_0 : w.heap.size < w3.heap.size := World.block_lt_of_cell? w3 _ cx0
      replace nw_0 : ¬ w.heap.size = w3.heap.size := Nat.ne_of_lt zw_0
      replace zw_1 : w.heap.size + 1 < w3.heap.size := World.block_lt_of_cell? w3 _ cy0
      replace nw_1 : ¬ w.heap.size + 1 = w3.heap.size := Nat.ne_of_lt zw_1
      replace zw_2 : w.heap.size + 1 + 1 < w3.heap.size := World.block_lt_of_cell? w3 _ cz0
      replace nw_2 : ¬ w.heap.size + 1 + 1 = w3.heap.size := Nat.ne_of_lt zw_2
      have zw2_0 : w2.heap.size < w3.heap.size := World.block_lt_of_cell? w3 _ cd0
      have nw2_0 : ¬ w2.heap.size = w3.heap.size := Nat.ne_of_lt zw2_0
      replace HB : Below w.heap.size w w3 := bt (by repeat (first | (with_reducible exact HB) | (with_reducible exact Below.refl _ _) | (with_reducible apply bd) | (with_reducible apply ba) | (with_reducible refine bs ?_ (by first | (simp; done) | (simp; omega)) _))) hb
      clear hb
      go_wp2_with fail
      refine (m4 (by trivial) _).mono ?_; rintro e w4 ⟨rfl, hb⟩; (with_reducible (repeat replace hb := undr hb))
      replace cx0 := ck hb (a := ⟨w.heap.size, 0, none⟩) (v := .int .i64 u0) (by first | (go_simp; done) | simpa using cx0)
      replace cx1 := ck hb (a := ⟨w.heap.size, 1, none⟩) (v := .int .u64 u1) (by first | (go_simp; done) | simpa using cx1)
      replace cy0 := ck hb (a := ⟨w.heap.size + 1, 0, none⟩) (v := .int .i64 v0) (by first | (go_simp; done) | simpa using cy0)
      replace cy1 := ck hb (a := ⟨w.heap.size + 1, 1, none⟩) (v := .int .u64 v1) (by first | (go_simp; done) | simpa using cy1)
      replace cz0 := ck hb (a := ⟨w.heap.size + 1 + 1, 0, none⟩) (v := .int .i64 z0) (by first | (go_simp; done) | simpa using cz0)
      replace cz1 := ck hb (a := ⟨w.heap.size + 1 + 1, 1, none⟩) (v := .int .u64 z1) (by first | (go_simp; done) | simpa using cz1)
      replace zw_0 : w.heap.size < w4.heap.size := World.block_lt_of_cell? w4 _ cx0
      replace nw_0 : ¬ w.heap.size = w4.heap.size := Nat.ne_of_lt zw_0
      replace zw_1 : w.heap.size + 1 < w4.heap.size := World.block_lt_of_cell? w4 _ cy0
      replace nw_1 : ¬ w.heap.size + 1 = w4.heap.size := Nat.ne_of_lt zw_1
      replace zw_2 : w.heap.size + 1 + 1 < w4.heap.size := World.block_lt_of_cell? w4 _ cz0
      replace nw_2 : ¬ w.heap.size + 1 + 1 = w4.heap.size := Nat.ne_of_lt zw_2
      replace HB : Below w.heap.size w w4 := bt (by repeat (first | (with_reducible exact HB) | (with_reducible exact Below.refl _ _) | (with_reducible apply bd) | (with_reducible apply ba) | (with_reducible refine bs ?_ (by first | (simp; done) | (simp; omega)) _))) hb
      clear hb
      go_wp2_with fail
      go_meet
      case rel => exact ⟨rfl, by go_simp, by go_simp, by go_simp, by go_simp, by go_simp, by go_simp, by repeat (first | (with_reducible exact HB) | (with_reducible exact Below.refl _ _) | (with_reducible apply bd) | (with_reducible apply ba) | (with_reducible refine bs ?_ (by first | (simp; done) | (simp; omega)) _))⟩
    · subst hok
      go_wp2_with fail
      refine (m3 _).mono ?_; rintro e w3 ⟨rfl, hb⟩; (with_reducible (repeat replace hb := undr hb))
      replace cx0 := ck hb (a := ⟨w.heap.size, 0, none⟩) (v := .int .i64 u0) (by first | (go_simp; done) | simpa using cx0)
      replace cx1 := ck hb (a := ⟨w.heap.size, 1, none⟩) (v := .int .u64 u1) (by first | (go_simp; done) | simpa using cx1)
      replace cy0 := ck hb (a := ⟨w.heap.size + 1, 0, none⟩) (v := .int .i64 v0) (by first | (go_simp; done) | simpa using cy0)
      replace cy1 := ck hb (a := ⟨w.heap.size + 1, 1, none⟩) (v := .int .u64 v1) (by first | (go_simp; done) | simpa using cy1)
      replace cz0 := ck hb (a := ⟨w.heap.size + 1 + 1, 0, none⟩) (v := .int .i64 z0) (by first | (go_simp; done) | simpa using cz0)
      replace cz1 := ck hb (a := ⟨w.heap.size + 1 + 1, 1, none⟩) (v := .int .u64 z1) (by first | (go_simp; done) | simpa using cz1)
      have cd0 := ck hb (a := ⟨w2.heap.size, 0, none⟩) (v := .int .i64 d0) (by go_simp)
      have cd1 := ck hb (a := ⟨w2.heap.size, 1, none⟩) (v := .int .u64 d1) (by go_simp)
      replace zw_0 : w.heap.size < w3.heap.size := World.block_lt_of_cell? w3 _ cx0
      replace nw_0 : ¬ w.heap.size = w3.heap.size := Nat.ne_of_lt zw_0
      replace zw_1 : w.heap.size + 1 < w3.heap.size := World.block_lt_of_cell? w3 _ cy0
      replace nw_1 : ¬ w.heap.size + 1 = w3.heap.size := Nat.ne_of_lt zw_1
      replace zw_2 : w.heap.size + 1 + 1 < w3.heap.size := World.block_lt_of_cell? w3 _ cz0
      replace nw_2 : ¬ w.heap.size + 1 + 1 = w3.heap.size := Nat.ne_of_lt zw_2
      have zw2_0 : w2.heap.size < w3.heap.size := World.block_lt_of_cell? w3 _ cd0
      have nw2_0 : ¬ w2.heap.size = w3.heap.size := Nat.ne_of_lt zw2_0
      replace HB : Below w.heap.size w w3 := bt (by repeat (first | (with_reducible exact HB) | (with_reducible exact Below.refl _ _) | (with_reducible apply bd) | (with_reducible apply ba) | (with_reducible refine bs ?_ (by first | (simp; done) | (simp; omega)) _))) hb
      clear hb
      go_wp2_with fail
      refine (m4 (by trivial) _).mono ?_; rintro e w4 ⟨rfl, hb⟩; (with_reducible (repeat replace hb := undr hb))
      replace cx0 := ck hb (a := ⟨w.heap.size, 0, none⟩) (v := .int .i64 u0) (by first | (go_simp; done) | simpa using cx0)
      replace cx1 := ck hb (a := ⟨w.heap.size, 1, none⟩) (v := .int .u64 u1) (by first | (go_simp; done) | simpa using cx1)
      replace cy0 := ck hb (a := ⟨w.heap.size + 1, 0, none⟩) (v := .int .i64 v0) (by first | (go_simp; done) | simpa using cy0)
      replace cy1 := ck hb (a := ⟨w.heap.size + 1, 1, none⟩) (v := .int .u64 v1) (by first | (go_simp; done) | simpa using cy1)
      replace cz0 := ck hb (a := ⟨w.heap.size + 1 + 1, 0, none⟩) (v := .int .i64 z0) (by first | (go_simp; done) | simpa using cz0)
      replace cz1 := ck hb (a := ⟨w.heap.size + 1 + 1, 1, none⟩) (v := .int .u64 z1) (by first | (go_simp; done) | simpa using cz1)
      replace zw_0 : w.heap.size < w4.heap.size := World.block_lt_of_cell? w4 _ cx0
      replace nw_0 : ¬ w.heap.size = w4.heap.size := Nat.ne_of_lt zw_0
      replace zw_1 : w.heap.size + 1 < w4.heap.size := World.block_lt_of_cell? w4 _ cy0
      replace nw_1 : ¬ w.heap.size + 1 = w4.heap.size := Nat.ne_of_lt zw_1
      replace zw_2 : w.heap.size + 1 + 1 < w4.heap.size := World.block_lt_of_cell? w4 _ cz0
      replace nw_2 : ¬ w.heap.size + 1 + 1 = w4.heap.size := Nat.ne_of_lt zw_2
      replace HB : Below w.heap.size w w4 := bt (by repeat (first | (with_reducible exact HB) | (with_reducible exact Below.refl _ _) | (with_reducible apply bd) | (with_reducible apply ba) | (with_reducible refine bs ?_ (by first | (simp; done) | (simp; omega)) _))) hb
      clear hb
      go_wp2_with fail
      go_meet
      case rel => exact ⟨rfl, by go_simp, by go_simp, by go_simp, by go_simp, by go_simp, by go_simp, by repeat (first | (with_reducible exact HB) | (with_reducible exact Below.refl _ _) | (with_reducible apply bd) | (with_reducible apply ba) | (with_reducible refine bs ?_ (by first | (simp; done) | (simp; omega)) _))⟩
    · subst hok
      go_wp2_with fail
      refine (m3 _).mono ?_; rintro e w3 ⟨rfl, hb⟩; (with_reducible (repeat replace hb := undr hb))
      replace cx0 := ck hb (a := ⟨w.heap.size, 0, none⟩) (v := .int .i64 u0) (by first | (go_simp; done) | simpa using cx0)
      replace cx1 := ck hb (a := ⟨w.heap.size, 1, none⟩) (v := .int .u64 u1) (by first | (go_simp; done) | simpa using cx1)
      replace cy0 := ck hb (a := ⟨w.heap.size + 1, 0, none⟩) (v := .int .i64 v0) (by first | (go_simp; done) | simpa using cy0)
      replace cy1 := ck hb (a := ⟨w.heap.size + 1, 1, none⟩) (v := .int .u64 v1) (by first | (go_simp; done) | simpa using cy1)
      replace cz0 := ck hb (a := ⟨w.heap.size + 1 + 1, 0, none⟩) (v := .int .i64 z0) (by first | (go_simp; done) | simpa using cz0)
      replace cz1 := ck hb (a := ⟨w.heap.size + 1 + 1, 1, none⟩) (v := .int .u64 z1) (by first | (go_simp; done) | simpa using cz1)
      have cd0 := ck hb (a := ⟨w2.heap.size, 0, none⟩) (v := .int .i64 d0) (by go_simp)
      have cd1 := ck hb (a := ⟨w2.heap.size, 1, none⟩) (v := .int .u64 d1) (by go_simp)
      replace zw_0 : w.heap.size < w3.heap.size := World.block_lt_of_cell? w3 _ cx0
      replace nw_0 : ¬ w.heap.size = w3.heap.size := Nat.ne_of_lt zw_0
      replace zw_1 : w.heap.size + 1 < w3.heap.size := World.block_lt_of_cell? w3 _ cy0
      replace nw_1 : ¬ w.heap.size + 1 = w3.heap.size := Nat.ne_of_lt zw_1
      replace zw_2 : w.heap.size + 1 + 1 < w3.heap.size := World.block_lt_of_cell? w3 _ cz0
      replace nw_2 : ¬ w.heap.size + 1 + 1 = w3.heap.size := Nat.ne_of_lt zw_2
      have zw2_0 : w2.heap.size < w3.heap.size := World.block_lt_of_cell? w3 _ cd0
      have nw2_0 : ¬ w2.heap.size = w3.heap.size := Nat.ne_of_lt zw2_0
      replace HB : Below w.heap.size w w3 := bt (by repeat (first | (with_reducible exact HB) | (with_reducible exact Below.refl _ _) | (with_reducible apply bd) | (with_reducible apply ba) | (with_reducible refine bs ?_ (by first | (simp; done) | (simp; omega)) _))) hb
      clear hb
      go_wp2_with fail
      refine (m4 (by trivial) _).mono ?_; rintro e w4 ⟨rfl, hb⟩; (with_reducible (repeat replace hb := undr hb))
      replace cx0 := ck hb (a := ⟨w.heap.size, 0, none⟩) (v := .int .i64 u0) (by first | (go_simp; done) | simpa using cx0)
      replace cx1 := ck hb (a := ⟨w.heap.size, 1, none⟩) (v := .int .u64 u1) (by first | (go_simp; done) | simpa using cx1)
      replace cy0 := ck hb (a := ⟨w.heap.size + 1, 0, none⟩) (v := .int .i64 v0) (by first | (go_simp; done) | simpa using cy0)
      replace cy1 := ck hb (a := ⟨w.heap.size + 1, 1, none⟩) (v := .int .u64 v1) (by first | (go_simp; done) | simpa using cy1)
      replace cz0 := ck hb (a := ⟨w.heap.size + 1 + 1, 0, none⟩) (v := .int .i64 z0) (by first | (go_simp; done) | simpa using cz0)
      replace cz1 := ck hb (a := ⟨w.heap.size + 1 + 1, 1, none⟩) (v := .int .u64 z1) (by first | (go_simp; done) | simpa using cz1)
      replace zw_0 : w.heap.size < w4.heap.size := World.block_lt_of_cell? w4 _ cx0
      replace nw_0 : ¬ w.heap.size = w4.heap.size := Nat.ne_of_lt zw_0
      replace zw_1 : w.heap.size + 1 < w4.heap.size := World.block_lt_of_cell? w4 _ cy0
      replace nw_1 : ¬ w.heap.size + 1 = w4.heap.size := Nat.ne_of_lt zw_1
      replace zw_2 : w.heap.size + 1 + 1 < w4.heap.size := World.block_lt_of_cell? w4 _ cz0
      replace nw_2 : ¬ w.heap.size + 1 + 1 = w4.heap.size := Nat.ne_of_lt zw_2
      replace HB : Below w.heap.size w w4 := bt (by repeat (first | (with_reducible exact HB) | (with_reducible exact Below.refl _ _) | (with_reducible apply bd) | (with_reducible apply ba) | (with_reducible refine bs ?_ (by first | (simp; done) | (simp; omega)) _))) hb
      clear hb
      go_wp2_with fail
      refine (m5 _).mono ?_; rintro e w5 ⟨rfl, hb⟩; (with_reducible (repeat replace hb := undr hb))
      replace cx0 := ck hb (a := ⟨w.heap.size, 0, none⟩) (v := .int .i64 u0) (by first | (go_simp; done) | simpa using cx0)
      replace cx1 := ck hb (a := ⟨w.heap.size, 1, none⟩) (v := .int .u64 u1) (by first | (go_simp; done) | simpa using cx1)
      replace cy0 := ck hb (a := ⟨w.heap.size + 1, 0, none⟩) (v := .int .i64 v0) (by first | (go_simp; done) | simpa using cy0)
      replace cy1 := ck hb (a := ⟨w.heap.size + 1, 1, none⟩) (v := .int .u64 v1) (by first | (go_simp; done) | simpa using cy1)
      replace cz0 := ck hb (a := ⟨w.heap.size + 1 + 1, 0, none⟩) (v := .int .i64 z0) (by first | (go_simp; done) | simpa using cz0)
      replace cz1 := ck hb (a := ⟨w.heap.size + 1 + 1, 1, none⟩) (v := .int .u64 z1) (by first | (go_simp; done) | simpa using cz1)
      replace zw_0 : w.heap.size < w5.heap.size := World.block_lt_of_cell? w5 _ cx0
      replace nw_0 : ¬ w.heap.size = w5.heap.size := Nat.ne_of_lt zw_0
      replace zw_1 : w.heap.size + 1 < w5.heap.size := World.block_lt_of_cell? w5 _ cy0
      replace nw_1 : ¬ w.heap.size + 1 = w5.heap.size := Nat.ne_of_lt zw_1
      replace zw_2 : w.heap.size + 1 + 1 < w5.heap.size := World.block_lt_of_cell? w5 _ cz0
      replace nw_2 : ¬ w.heap.size + 1 + 1 = w5.heap.size := Nat.ne_of_lt zw_2
      replace HB : Below w.heap.size w w5 := bt (by repeat (first | (with_reducible exact HB) | (with_reducible exact Below.refl _ _) | (with_reducible apply bd) | (with_reducible apply ba) | (with_reducible refine bs ?_ (by first | (simp; done) | (simp; omega)) _))) hb
      clear hb
      go_wp2_with fail
      go_meet
      case rel => exact ⟨rfl, by go_simp, by go_simp, by go_simp, by go_simp, by go_simp, by go_simp, by repeat (first | (with_reducible exact HB) | (with_reducible exact Below.refl _ _) | (with_reducible apply bd) | (with_reducible apply ba) | (with_reducible refine bs ?_ (by first | (simp; done) | (simp; omega)) _))⟩
    · subst hok
      go_wp2_with fail
      refine (m3 _).mono ?_; rintro e w3 ⟨rfl, hb⟩; (with_reducible (repeat replace hb := undr hb))
      replace cx0 := ck hb (a := ⟨w.heap.size, 0, none⟩) (v := .int .i64 u0) (by first | (go_simp; done) | simpa using cx0)
      replace cx1 := ck hb (a := ⟨w.heap.size, 1, none⟩) (v := .int .u64 u1) (by first | (go_simp; done) | simpa using cx1)
      replace cy0 := ck hb (a := ⟨w.heap.size + 1, 0, none⟩) (v := .int .i64 v0) (by first | (go_simp; done) | simpa using cy0)
      replace cy1 := ck hb (a := ⟨w.heap.size + 1, 1, none⟩) (v := .int .u64 v1) (by first | (go_simp; done) | simpa using cy1)
      replace cz0 := ck hb (a := ⟨w.heap.size + 1 + 1, 0, none⟩) (v := .int .i64 z0) (by first | (go_simp; done) | simpa using cz0)
      replace cz1 := ck hb (a := ⟨w.heap.size + 1 + 1, 1, none⟩) (v := .int .u64 z1) (by first | (go_simp; done) | simpa using cz1)
      have cd0 := ck hb (a := ⟨w2.heap.size, 0, none⟩) (v := .int .i64 d0) (by go_simp)
      have cd1 := ck hb (a := ⟨w2.heap.size, 1, none⟩) (v := .int .u64 d1) (by go_simp)
      replace zw_0 : w.heap.size < w3.heap.size := World.block_lt_of_cell? w3 _ cx0
      replace nw_0 : ¬ w.heap.size = w3.heap.size := Nat.ne_of_lt zw_0
      replace zw_1 : w.heap.size + 1 < w3.heap.size := World.block_lt_of_cell? w3 _ cy0
      replace nw_1 : ¬ w.heap.size + 1 = w3.heap.size := Nat.ne_of_lt zw_1
      replace zw_2 : w.heap.size + 1 + 1 < w3.heap.size := World.block_lt_of_cell? w3 _ cz0
      replace nw_2 : ¬ w.heap.size + 1 + 1 = w3.heap.size := Nat.ne_of_lt zw_2
      have zw2_0 : w2.heap.size < w3.heap.size := World.block_lt_of_cell? w3 _ cd0
      have nw2_0 : ¬ w2.heap.size = w3.heap.size := Nat.ne_of_lt zw2_0
      replace HB : Below w.heap.size w w3 := bt (by repeat (first | (with_reducible exact HB) | (with_reducible exact Below.refl _ _) | (with_reducible apply bd) | (with_reducible apply ba) | (with_reducible refine bs ?_ (by first | (simp; done) | (simp; omega)) _))) hb
      clear hb
      go_wp2_with fail
      refine (m4 (by trivial) _).mono ?_; rintro e w4 ⟨rfl, hb⟩; (with_reducible (repeat replace hb := undr hb))
      replace cx0 := ck hb (a := ⟨w.heap.size, 0, none⟩) (v := .int .i64 u0) (by first | (go_simp; done) | simpa using cx0)
      replace cx1 := ck hb (a := ⟨w.heap.size, 1, none⟩) (v := .int .u64 u1) (by first | (go_simp; done) | simpa using cx1)
      replace cy0 := ck hb (a := ⟨w.heap.size + 1, 0, none⟩) (v := .int .i64 v0) (by first | (go_simp; done) | simpa using cy0)
      replace cy1 := ck hb (a := ⟨w.heap.size + 1, 1, none⟩) (v := .int .u64 v1) (by first | (go_simp; done) | simpa using cy1)
      replace cz0 := ck hb (a := ⟨w.heap.size + 1 + 1, 0, none⟩) (v := .int .i64 z0) (by first | (go_simp; done) | simpa using cz0)
      replace cz1 := ck hb (a := ⟨w.heap.size + 1 + 1, 1, none⟩) (v := .int .u64 z1) (by first | (go_simp; done) | simpa using cz1)
      replace zw_0 : w.heap.size < w4.heap.size := World.block_lt_of_cell? w4 _ cx0
      replace nw_0 : ¬ w.heap.size = w4.heap.size := Nat.ne_of_lt zw_0
      replace zw_1 : w.heap.size + 1 < w4.heap.size := World.block_lt_of_cell? w4 _ cy0
      replace nw_1 : ¬ w.heap.size + 1 = w4.heap.size := Nat.ne_of_lt zw_1
      replace zw_2 : w.heap.size + 1 + 1 < w4.heap.size := World.block_lt_of_cell? w4 _ cz0
      replace nw_2 : ¬ w.heap.size + 1 + 1 = w4.heap.size := Nat.ne_of_lt zw_2
      replace HB : Below w.heap.size w w4 := bt (by repeat (first | (with_reducible exact HB) | (with_reducible exact Below.refl _ _) | (with_reducible apply bd) | (with_reducible apply ba) | (with_reducible refine bs ?_ (by first | (simp; done) | (simp; omega)) _))) hb
      clear hb
      go_wp2_with fail
      refine (m5 _).mono ?_; rintro e w5 ⟨rfl, hb⟩; (with_reducible (repeat replace hb := undr hb))
      replace cx0 := ck hb (a := ⟨w.heap.size, 0, none⟩) (v := .int .i64 u0) (by first | (go_simp; done) | simpa using cx0)
      replace cx1 := ck hb (a := ⟨w.heap.size, 1, none⟩) (v := .int .u64 u1) (by first | (go_simp; done) | simpa using cx1)
      replace cy0 := ck hb (a := ⟨w.heap.size + 1, 0, none⟩) (v := .int .i64 v0) (by first | (go_simp; done) | simpa using cy0)
      replace cy1 := ck hb (a := ⟨w.heap.size + 1, 1, none⟩) (v := .int .u64 v1) (by first | (go_simp; done) | simpa using cy1)
      replace cz0 := ck hb (a := ⟨w.heap.size + 1 + 1, 0, none⟩) (v := .int .i64 z0) (by first | (go_simp; done) | simpa using cz0)
      replace cz1 := ck hb (a := ⟨w.heap.size + 1 + 1, 1, none⟩) (v := .int .u64 z1) (by first | (go_simp; done) | simpa using cz1)
      replace zw_0 : w.heap.size < w5.heap.size := World.block_lt_of_cell? w5 _ cx0
      replace nw_0 : ¬ w.heap.size = w5.heap.size := Nat.ne_of_lt zw_0
      replace zw_1 : w.heap.size + 1 < w5.heap.size := World.block_lt_of_cell? w5 _ cy0
      replace nw_1 : ¬ w.heap.size + 1 = w5.heap.size := Nat.ne_of_lt zw_1
      replace zw_2 : w.heap.size + 1 + 1 < w5.heap.size := World.block_lt_of_cell? w5 _ cz0
      replace nw_2 : ¬ w.heap.size + 1 + 1 = w5.heap.size := Nat.ne_of_lt zw_2
      replace HB : Below w.heap.size w w5 := bt (by repeat (first | (with_reducible exact HB) | (with_reducible exact Below.refl _ _) | (with_reducible apply bd) | (with_reducible apply ba) | (with_reducible refine bs ?_ (by first | (simp; done) | (simp; omega)) _))) hb
      clear hb
      have e4 := e2 hn hp
      go_wp2_with fail
      refine (m6 _).mono ?_; rintro e w6 ⟨rfl, hb⟩; (with_reducible (repeat replace hb := undr hb))
      replace cx0 := ck hb (a := ⟨w.heap.size, 0, none⟩) (v := .int .i64 u0) (by first | (go_simp; done) | simpa using cx0)
      replace cx1 := ck hb (a := ⟨w.heap.size, 1, none⟩) (v := .int .u64 u1) (by first | (go_simp; done) | simpa using cx1)
      replace cy0 := ck hb (a := ⟨w.heap.size + 1, 0, none⟩) (v := .int .i64 v0) (by first | (go_simp; done) | simpa using cy0)
      replace cy1 := ck hb (a := ⟨w.heap.size + 1, 1, none⟩) (v := .int .u64 v1) (by first | (go_simp; done) | simpa using cy1)
      replace cz0 := ck hb (a := ⟨w.heap.size + 1 + 1, 0, none⟩) (v := .int .i64 z0) (by first | (go_simp; done) | simpa using cz0)
      replace cz1 := ck hb (a := ⟨w.heap.size + 1 + 1, 1, none⟩) (v := .int .u64 z1) (by first | (go_simp; done) | simpa using cz1)
      replace zw_0 : w.heap.size < w6.heap.size := World.block_lt_of_cell? w6 _ cx0
      replace nw_0 : ¬ w.heap.size = w6.heap.size := Nat.ne_of_lt zw_0
      replace zw_1 : w.heap.size + 1 < w6.heap.size := World.block_lt_of_cell? w6 _ cy0
      replace nw_1 : ¬ w.heap.size + 1 = w6.heap.size := Nat.ne_of_lt zw_1
      replace zw_2 : w.heap.size + 1 + 1 < w6.heap.size := World.block_lt_of_cell? w6 _ cz0
      replace nw_2 : ¬ w.heap.size + 1 + 1 = w6.heap.size := Nat.ne_of_lt zw_2
      replace HB : Below w.heap.size w w6 := bt (by repeat (first | (with_reducible exact HB) | (with_reducible exact Below.refl _ _) | (with_reducible apply bd) | (with_reducible apply ba) | (with_reducible refine bs ?_ (by first | (simp; done) | (simp; omega)) _))) hb
      clear hb
      go_wp2_with fail
      go_meet
      case rel => exact ⟨rfl, by go_simp, by go_simp, by go_simp, by go_simp, by go_simp, by go_simp, by repeat (first | (with_reducible exact HB) | (with_reducible exact Below.refl _ _) | (with_reducible apply bd) | (with_reducible apply ba) | (with_reducible refine bs ?_ (by first | (simp; done) | (simp; omega)) _))⟩
  case rest =>
    obtain ⟨rfl, cx0, cx1, cy0, cy1, cz0, cz1, HB⟩ := hcut
    go_wp2_with fail
    refine (m7 _).mono ?_; rintro e w7 ⟨rfl, hb⟩; (with_reducible (repeat replace hb := undr hb))
    replace cx0 := ck hb (a := ⟨w.heap.size, 0, none⟩) (v := .int .i64 u0) (by first | (go_simp; done) | simpa using cx0)
    replace cx1 := ck hb (a := ⟨w.heap.size, 1, none⟩) (v := .int .u64 u1) (by first | (go_simp; done) | simpa using cx1)
    replace cy0 := ck hb (a := ⟨w.heap.size + 1, 0, none⟩) (v := .int .i64 v0) (by first | (go_simp; done) | simpa using cy0)
    replace cy1 := ck hb (a := ⟨w.heap.size + 1, 1, none⟩) (v := .int .u64 v1) (by first | (go_simp; done) | simpa using cy1)
    replace cz0 := ck hb (a := ⟨w.heap.size + 1 + 1, 0, none⟩) (v := .int .i64 z0) (by first | (go_simp; done) | simpa using cz0)
    replace cz1 := ck hb (a := ⟨w.heap.size + 1 + 1, 1, none⟩) (v := .int .u64 z1) (by first | (go_simp; done) | simpa using cz1)
    have zw_0 : w.heap.size < w7.heap.size := World.block_lt_of_cell? w7 _ cx0
    have nw_0 : ¬ w.heap.size = w7.heap.size := Nat.ne_of_lt zw_0
    have zw_1 : w.heap.size + 1 < w7.heap.size := World.block_lt_of_cell? w7 _ cy0
    have nw_1 : ¬ w.heap.size + 1 = w7.heap.size := Nat.ne_of_lt zw_1
    have zw_2 : w.heap.size + 1 + 1 < w7.heap.size := World.block_lt_of_cell? w7 _ cz0
    have nw_2 : ¬ w.heap.size + 1 + 1 = w7.heap.size := Nat.ne_of_lt zw_2
    replace HB : Below w.heap.size w w7 := bt (by repeat (first | (with_reducible exact HB) | (with_reducible exact Below.refl _ _) | (with_reducible apply bd) | (with_reducible apply ba) | (with_reducible refine bs ?_ (by first | (simp; done) | (simp; omega)) _))) hb
    clear hb
    go_wp2_with fail
    refine (m8 _).mono ?_; rintro e w8 ⟨rfl, hb⟩; (with_reducible (repeat replace hb := undr hb))
    replace cx0 := ck hb (a := ⟨w.heap.size, 0, none⟩) (v := .int .i64 u0) (by first | (go_simp; done) | simpa using cx0)
    replace cx1 := ck hb (a := ⟨w.heap.size, 1, none⟩) (v := .int .u64 u1) (by first | (go_simp; done) | simpa using cx1)
    replace cy0 := ck hb (a := ⟨w.heap.size + 1, 0, none⟩) (v := .int .i64 v0) (by first | (go_simp; done) | simpa using cy0)
    replace cy1 := ck hb (a := ⟨w.heap.size + 1, 1, none⟩) (v := .int .u64 v1) (by first | (go_simp; done) | simpa using cy1)
    replace cz0 := ck hb (a := ⟨w.heap.size + 1 + 1, 0, none⟩) (v := .int .i64 z0) (by first | (go_simp; done) | simpa using cz0)
    replace cz1 := ck hb (a := ⟨w.heap.size + 1 + 1, 1, none⟩) (v := .int .u64 z1) (by first | (go_simp; done) | simpa using cz1)
    have cf0 := ck hb (a := ⟨w7.heap.size, 0, none⟩) (v := .int .i64 f0) (by go_simp)
    have cf1 := ck hb (a := ⟨w7.heap.size, 1, none⟩) (v := .int .u64 f1) (by go_simp)
    replace zw_0 : w.heap.size < w8.heap.size := World.block_lt_of_cell? w8 _ cx0
    replace nw_0 : ¬ w.heap.size = w8.heap.size := Nat.ne_of_lt zw_0
    replace zw_1 : w.heap.size + 1 < w8.heap.size := World.block_lt_of_cell? w8 _ cy0
    replace nw_1 : ¬ w.heap.size + 1 = w8.heap.size := Nat.ne_of_lt zw_1
    replace zw_2 : w.heap.size + 1 + 1 < w8.heap.size := World.block_lt_of_cell? w8 _ cz0
    replace nw_2 : ¬ w.heap.size + 1 + 1 = w8.heap.size := Nat.ne_of_lt zw_2
    have zw7_0 : w7.heap.size < w8.heap.size := World.block_lt_of_cell? w8 _ cf0
    have nw7_0 : ¬ w7.heap.size = w8.heap.size := Nat.ne_of_lt zw7_0
    replace HB : Below w.heap.size w w8 := bt (by repeat (first | (with_reducible exact HB) | (with_reducible exact Below.refl _ _) | (with_reducible apply bd) | (with_reducible apply ba) | (with_reducible refine bs ?_ (by first | (simp; done) | (simp; omega)) _))) hb
    clear hb
    go_wp2_with fail
    refine region8_7_1 n nn sx u0 u1 f0 f1 g0 g1 w.heap.size w7.heap.size w8.heap.size w htab m10 m11 (by kernel_rfl) rfl rfl rfl rfl rfl rfl rfl ⟨?_, ?_, ?_, ?_, ?_, ?_, ?_⟩ (fun w9 hS => ?_)
    iterate 6 (focus (go_simp; done))
    · exact (by repeat (first | (with_reducible exact HB) | (with_reducible exact Below.refl _ _) | (with_reducible apply bd) | (with_reducible apply ba) | (with_reducible refine bs ?_ (by first | (simp; done) | (simp; omega)) _)))
    obtain ⟨-, -, -, -, -, -, HB⟩ := hS
    simp only [List.setIfInBounds_toArray, List.set_cons_zero, List.set_cons_succ]
    go_wp2_with fail
    go_ret
    exact ⟨rfl, by repeat (first | (with_reducible exact HB) | (with_reducible exact Below.refl _ _) | (with_reducible apply bd) | (with_reducible apply ba) | (with_reducible refine bs ?_ (by first | (simp; done) | (simp; omega)) _))⟩

set_option maxHeartbeats 4000000 in
set_option maxRecDepth 100000 in
theorem wideOrder_w2 (n m nn sx u0 u1 v0 v1 z0 z1 d0 d1 f0 f1 g0 g1 p q : Int) (ok may : Bool) (w : World) (htab : Tab w)
    (m1 : ∀ w : World, Calls Tryd.prog 23 #[.agg #[.int .i64 u0, .int .u64 u1], .agg #[.int .i64 v0, .int .u64 v1]] w fun e w' => e = .returned (.int .i64 n) ∧ Below w.heap.size w w')
    (m2 : ∀ w : World, Calls Tryd.prog 14 #[.agg #[.int .i64 u0, .int .u64 u1], .agg #[.int .i64 v0, .int .u64 v1]] w fun e w' => e = .returned (.tuple #[.agg #[.int .i64 d0, .int .u64 d1], .bool ok]) ∧ Below w.heap.size w w')
    (m3 : ∀ w : World, Calls Tryd.prog 23 #[.agg #[.int .i64 v0, .int .u64 v1], .agg #[.int .i64 u0, .int .u64 u1]] w fun e w' => e = .returned (.int .i64 m) ∧ Below w.heap.size w w') (e0 : wrap64 (-m) = n) (e1 : (n == 0) = (u0 == v0 && u1 == v1))
    (m4 : ok = true → ∀ w : World, Calls Tryd.prog 15 #[.agg #[.int .i64 d0, .int .u64 d1]] w fun e w' => e = .returned (.int .i64 n) ∧ Below w.heap.size w w')
    (m5 : ∀ w : World, Calls Tryd.prog 23 #[.agg #[.int .i64 v0, .int .u64 v1], .agg #[.int .i64 z0, .int .u64 z1]] w fun e w' => e = .returned (.int .i64 p) ∧ Below w.heap.size w w')
    (m6 : ∀ w : World, Calls Tryd.prog 23 #[.agg #[.int .i64 u0, .int .u64 u1], .agg #[.int .i64 z0, .int .u64 z1]] w fun e w' => e = .returned (.int .i64 q) ∧ Below w.heap.size w w') (e2 : decide (n ≤ 0) = true → decide (p ≤ 0) = true → decide (0 < q) = false)
    (m7 : ∀ w : World, Calls Tryd.prog 19 #[.agg #[.int .i64 u0, .int .u64 u1]] w fun e w' => e = .returned (.tuple #[.agg #[.int .i64 f0, .int .u64 f1], .bool true]) ∧ Below w.heap.size w w')
    (m8 : ∀ w : World, Calls Tryd.prog 19 #[.agg #[.int .i64 v0, .int .u64 v1]] w fun e w' => e = .returned (.tuple #[.agg #[.int .i64 g0, .int .u64 g1], .bool true]) ∧ Below w.heap.size w w')
    (m9 : ∀ w : World, Calls Tryd.prog 23 #[.agg #[.int .i64 f0, .int .u64 f1], .agg #[.int .i64 g0, .int .u64 g1]] w fun e w' => e = .returned (.int .i64 nn) ∧ Below w.heap.size w w') (e3 : IntKind.i64.wrap (-n) = nn)
    (m10 : ∀ w : World, Calls Tryd.prog 15 #[.agg #[.int .i64 u0, .int .u64 u1]] w fun e w' => e = .returned (.int .i64 sx) ∧ Below w.heap.size w w') (m11 : ∀ w : World, Calls Tryd.prog 23 #[.agg #[.int .i64 u0, .int .u64 u1], .agg #[.int .i64 0, .int .u64 0]] w fun e w' => e = .returned (.int .i64 sx) ∧ Below w.heap.size w w') :
    Calls Tryd.prog 8 #[.agg #[.int .i64 u0, .int .u64 u1], .agg #[.int .i64 v0, .int .u64 v1], .agg #[.int .i64 z0, .int .u64 z1]] w fun e w' => e = .returned (.bool true) ∧ Below w.heap.size w w' := by
  have HB := Below.refl w.heap.size w
  go_enter Tryd.func8, Tryd.ntmps8
  go_wp2_with fail
  refine (m1 _).mono ?_; rintro e w1 ⟨rfl, hb⟩; (with_reducible (repeat replace hb := undr hb))
  have cx0 := ck hb (a := ⟨w.heap.size, 0, none⟩) (v := .int .i64 u0) (by go_simp)
  have cx1 := ck hb (a := ⟨w.heap.size, 1, none⟩) (v := .int .u64 u1) (by go_simp)
  have cy0 := ck hb (a := ⟨w.heap.size + 1, 0, none⟩) (v := .int .i64 v0) (by go_simp)
  have cy1 := ck hb (a := ⟨w.heap.size + 1, 1, none⟩) (v := .int .u64 v1) (by go_simp)
  have cz0 := ck hb (a := ⟨w.heap.size + 1 + 1, 0, none⟩) (v := .int .i64 z0) (by go_simp)
  have cz1 := ck hb (a := ⟨w.heap.size + 1 + 1, 1, none⟩) (v := .int .u64 z1) (by go_simp)
  have zw_0 : w.heap.size < w1.heap.size := World.block_lt_of_cell? w1 _ cx0
  have nw_0 : ¬ w.heap.size = w1.heap.size := Nat.ne_of_lt zw_0
  have zw_1 : w.heap.size + 1 < w1.heap.size := World.block_lt_of_cell? w1 _ cy0
  have nw_1 : ¬ w.heap.size + 1 = w1.heap.size := Nat.ne_of_lt zw_1
  have zw_2 : w.heap.size + 1 + 1 < w1.heap.size := World.block_lt_of_cell? w1 _ cz0
  have nw_2 : ¬ w.heap.size + 1 + 1 = w1.heap.size := Nat.ne_of_lt zw_2
  replace HB : Below w.heap.size w w1 := bt (by repeat (first | (with_reducible exact HB) | (with_reducible exact Below.refl _ _) | (with_reducible apply bd) | (with_reducible apply ba) | (with_reducible refine bs ?_ (by first | (simp; done) | (simp; omega)) _))) hb
  clear hb
  go_wp2_with fail
  refine (m2 _).mono ?_; rintro e w2 ⟨rfl, hb⟩; (with_reducible (repeat replace hb := undr hb))
  replace cx0 := ck hb (a := ⟨w.heap.size, 0, none⟩) (v := .int .i64 u0) (by first | (go_simp; done) | simpa using cx0)
  replace cx1 := ck hb (a := ⟨w.heap.size, 1, none⟩) (v := .int .u64 u1) (by first | (go_simp; done) | simpa using cx1)
  replace cy0 := ck hb (a := ⟨w.heap.size + 1, 0, none⟩) (v := .int .i64 v0) (by first | (go_simp; done) | simpa using cy0)
  replace cy1 := ck hb (a := ⟨w.heap.size + 1, 1, none⟩) (v := .int .u64 v1) (by first | (go_simp; done) | simpa using cy1)
  replace cz0 := ck hb (a := ⟨w.heap.size + 1 + 1, 0, none⟩) (v := .int .i64 z0) (by first | (go_simp; done) | simpa using cz0)
  replace cz1 := ck hb (a := ⟨w.heap.size + 1 + 1, 1, none⟩) (v := .int .u64 z1) (by first | (go_simp; done) | simpa using cz1)
  replace zw_0 : w.heap.size < w2.heap.size := World.block_lt_of_cell? w2 _ cx0
  replace nw_0 : ¬ w.heap.size = w2.heap.size := Nat.ne_of_lt zw_0
  replace zw_1 : w.heap.size + 1 < w2.heap.size := World.block_lt_of_cell? w2 _ cy0
  replace nw_1 : ¬ w.heap.size + 1 = w2.heap.size := Nat.ne_of_lt zw_1
  replace zw_2 : w.heap.size + 1 + 1 < w2.heap.size := World.block_lt_of_cell? w2 _ cz0
  replace nw_2 : ¬ w.heap.size + 1 + 1 = w2.heap.size := Nat.ne_of_lt zw_2
  replace HB : Below w.heap.size w w2 := bt (by repeat (first | (with_reducible exact HB) | (with_reducible exact Below.refl _ _) | (with_reducible apply bd) | (with_reducible apply ba) | (with_reducible refine bs ?_ (by first | (simp; done) | (simp; omega)) _))) hb
  clear hb
  go_upto_region 3 with fail
  go_cut [61] (fun s61 wx => s61 = .bool false ∧ wx.cell? ⟨w.heap.size, 0, none⟩ = some (.int .i64 u0) ∧ wx.cell? ⟨w.heap.size, 1, none⟩ = some (.int .u64 u1) ∧ wx.cell? ⟨w.heap.size + 1, 0, none⟩ = some (.int .i64 v0) ∧ wx.cell? ⟨w.heap.size + 1, 1, none⟩ = some (.int .u64 v1) ∧ wx.cell? ⟨w.heap.size + 1 + 1, 0, none⟩ = some (.int .i64 z0) ∧ wx.cell? ⟨w.heap.size + 1 + 1, 1, none⟩ = some (.int .u64 z1) ∧ Below w.heap.size w wx)
  case first =>
    cases hok : ok <;> cases hn : decide (n ≤ 0) <;> cases hp : decide (p ≤ 0)
    · subst hok
      go_wp2_with fail
      refine (m3 _).mono ?_; rintro e w3 ⟨rfl, hb⟩; (with_reducible (repeat replace hb := undr hb))
      replace cx0 := ck hb (a := ⟨w.heap.size, 0, none⟩) (v := .int .i64 u0) (by first | (go_simp; done) | simpa using cx0)
      replace cx1 := ck hb (a := ⟨w.heap.size, 1, none⟩) (v := .int .u64 u1) (by first | (go_simp; done) | simpa using cx1)
      replace cy0 := ck hb (a := ⟨w.heap.size + 1, 0, none⟩) (v := .int .i64 v0) (by first | (go_simp; done) | simpa using cy0)
      replace cy1 := ck hb (a := ⟨w.heap.size + 1, 1, none⟩) (v := .int .u64 v1) (by first | (go_simp; done) | simpa using cy1)
      replace cz0 := ck hb (a := ⟨w.heap.size + 1 + 1, 0, none⟩) (v := .int .i64 z0) (by first | (go_simp; done) | simpa using cz0)
      replace cz1 := ck hb (a := ⟨w.heap.size + 1 + 1, 1, none⟩) (v := .int .u64 z1) (by first | (go_simp; done) | simpa using cz1)
      have cd0 := ck hb (a := ⟨w2.heap.size, 0, none⟩) (v := .int .i64 d0) (by go_simp)
      have cd1 := ck hb (a := ⟨w2.heap.size, 1, none⟩) (v := .int .u64 d1) (by go_simp)
      replace zw_0 : w.heap.size < w3.heap.size := World.block_lt_of_cell? w3 _ cx0
      replace nw_0 : ¬ w.heap.size = w3.heap.size := Nat.ne_of_lt zw_0
      replace zw_1 : w.heap.size + 1 < w3.heap.size := World.block_lt_of_cell? w3 _ cy0
      replace nw_1 : ¬ w.heap.size + 1 = w3.heap.size := Nat.ne_of_lt zw_1
      replace zw_2 : w.heap.size + 1 + 1 < w3.heap.size := World.block_lt_of_cell? w3 _ cz0
      replace nw_2 : ¬ w.heap.size + 1 + 1 = w3.heap.size := Nat.ne_of_lt zw_2
      have zw2_0 : w2.heap.size < w3.heap.size := World.block_lt_of_cell? w3 _ cd0
      have nw2_0 : ¬ w2.heap.size = w3.heap.size := Nat.ne_of_lt zw2_0
      replace HB : Below w.heap.size w w3 := bt (by repeat (first | (with_reducible exact HB) | (with_reducible exact Below.refl _ _) | (with_reducible apply bd) | (with_reducible apply ba) | (with_reducible refine bs ?_ (by first | (simp; done) | (simp; omega)) _))) hb
      clear hb
      go_wp2_with fail
      go_meet
      case rel => exact ⟨rfl, by go_simp, by go_simp, by go_simp, by go_simp, by go_simp, by go_simp, by repeat (first | (with_reducible exact HB) | (with_reducible exact Below.refl _ _) | (with_reducible apply bd) | (with_reducible apply ba) | (with_reducible refine bs ?_ (by first | (simp; done) | (simp; omega)) _))⟩
    · subst hok
      go_wp2_with fail
      refine (m3 _).mono ?_; rintro e w3 ⟨rfl, hb⟩; (with_reducible (repeat replace hb := undr hb))
      replace cx0 := ck hb (a := ⟨w.heap.size, 0, none⟩) (v := .int .i64 u0) (by first | (go_simp; done) | simpa using cx0)
      replace cx1 := ck hb (a := ⟨w.heap.size, 1, none⟩) (v := .int .u64 u1) (by first | (go_simp; done) | simpa using cx1)
      replace cy0 := ck hb (a := ⟨w.heap.size + 1, 0, none⟩) (v := .int .i64 v0) (by first | (go_simp; done) | simpa using cy0)
      replace cy1 := ck hb (a := ⟨w.heap.size + 1, 1, none⟩) (v := .int .u64 v1) (by first | (go_simp; done) | simpa using cy1)
      replace cz0 := ck hb (a := ⟨w.heap.size + 1 + 1, 0, none⟩) (v := .int .i64 z0) (by first | (go_simp; done) | simpa using cz0)
      replace cz1 := ck hb (a := ⟨w.heap.size + 1 + 1, 1, none⟩) (v := .int .u64 z1) (by first | (go_simp; done) | simpa using cz1)
      have cd0 := ck hb (a := ⟨w2.heap.size, 0, none⟩) (v := .int .i64 d0) (by go_simp)
      have cd1 := ck hb (a := ⟨w2.heap.size, 1, none⟩) (v := .int .u64 d1) (by go_simp)
      replace zw_0 : w.heap.size < w3.heap.size := World.block_lt_of_cell? w3 _ cx0
      replace nw_0 : ¬ w.heap.size = w3.heap.size := Nat.ne_of_lt zw_0
      replace zw_1 : w.heap.size + 1 < w3.heap.size := World.block_lt_of_cell? w3 _ cy0
      replace nw_1 : ¬ w.heap.size + 1 = w3.heap.size := Nat.ne_of_lt zw_1
      replace zw_2 : w.heap.size + 1 + 1 < w3.heap.size := World.block_lt_of_cell? w3 _ cz0
      replace nw_2 : ¬ w.heap.size + 1 + 1 = w3.heap.size := Nat.ne_of_lt zw_2
      have zw2_0 : w2.heap.size < w3.heap.size := World.block_lt_of_cell? w3 _ cd0
      have nw2_0 : ¬ w2.heap.size = w3.heap.size := Nat.ne_of_lt zw2_0
      replace HB : Below w.heap.size w w3 := bt (by repeat (first | (with_reducible exact HB) | (with_reducible exact Below.refl _ _) | (with_reducible apply bd) | (with_reducible apply ba) | (with_reducible refine bs ?_ (by first | (simp; done) | (simp; omega)) _))) hb
      clear hb
      go_wp2_with fail
      go_meet
      case rel => exact ⟨rfl, by go_simp, by go_simp, by go_simp, by go_simp, by go_simp, by go_simp, by repeat (first | (with_reducible exact HB) | (with_reducible exact Below.refl _ _) | (with_reducible apply bd) | (with_reducible apply ba) | (with_reducible refine bs ?_ (by first | (simp; done) | (simp; omega)) _))⟩
    · subst hok
      go_wp2_with fail
      refine (m3 _).mono ?_; rintro e w3 ⟨rfl, hb⟩; (with_reducible (repeat replace hb := undr hb))
      replace cx0 := ck hb (a := ⟨w.heap.size, 0, none⟩) (v := .int .i64 u0) (by first | (go_simp; done) | simpa using cx0)
      replace cx1 := ck hb (a := ⟨w.heap.size, 1, none⟩) (v := .int .u64 u1) (by first | (go_simp; done) | simpa using cx1)
      replace cy0 := ck hb (a := ⟨w.heap.size + 1, 0, none⟩) (v := .int .i64 v0) (by first | (go_simp; done) | simpa using cy0)
      replace cy1 := ck hb (a := ⟨w.heap.size + 1, 1, none⟩) (v := .int .u64 v1) (by first | (go_simp; done) | simpa using cy1)
      replace cz0 := ck hb (a := ⟨w.heap.size + 1 + 1, 0, none⟩) (v := .int .i64 z0) (by first | (go_simp; done) | simpa using cz0)
      replace cz1 := ck hb (a := ⟨w.heap.size + 1 + 1, 1, none⟩) (v := .int .u64 z1) (by first | (go_simp; done) | simpa using cz1)
      have cd0 := ck hb (a := ⟨w2.heap.size, 0, none⟩) (v := .int .i64 d0) (by go_simp)
      have cd1 := ck hb (a := ⟨w2.heap.size, 1, none⟩) (v := .int .u64 d1) (by go_simp)
      replace zw_0 : w.heap.size < w3.heap.size := World.block_lt_of_cell? w3 _ cx0
      replace nw_0 : ¬ w.heap.size = w3.heap.size := Nat.ne_of_lt zw_0
      replace zw_1 : w.heap.size + 1 < w3.heap.size := World.block_lt_of_cell? w3 _ cy0
      replace nw_1 : ¬ w.heap.size + 1 = w3.heap.size := Nat.ne_of_lt zw_1
      replace zw_2 : w.heap.size + 1 + 1 < w3.heap.size := World.block_lt_of_cell? w3 _ cz0
      replace nw_2 : ¬ w.heap.size + 1 + 1 = w3.heap.size := Nat.ne_of_lt zw_2
      have zw2_0 : w2.heap.size < w3.heap.size := World.block_lt_of_cell? w3 _ cd0
      have nw2_0 : ¬ w2.heap.size = w3.heap.size := Nat.ne_of_lt zw2_0
      replace HB : Below w.heap.size w w3 := bt (by repeat (first | (with_reducible exact HB) | (with_reducible exact Below.refl _ _) | (with_reducible apply bd) | (with_reducible apply ba) | (with_reducible refine bs ?_ (by first | (simp; done) | (simp; omega)) _))) hb
      clear hb
      go_wp2_with fail
      refine (m5 _).mono ?_; rintro e w5 ⟨rfl, hb⟩; (with_reducible (repeat replace hb := undr hb))
      replace cx0 := ck hb (a := ⟨w.heap.size, 0, none⟩) (v := .int .i64 u0) (by first | (go_simp; done) | simpa using cx0)
      replace cx1 := ck hb (a := ⟨w.heap.size, 1, none⟩) (v := .int .u64 u1) (by first | (go_simp; done) | simpa using cx1)
      replace cy0 := ck hb (a := ⟨w.heap.size + 1, 0, none⟩) (v := .int .i64 v0) (by first | (go_simp; done) | simpa using cy0)
      replace cy1 := ck hb (a := ⟨w.heap.size + 1, 1, none⟩) (v := .int .u64 v1) (by first | (go_simp; done) | simpa using cy1)
      replace cz0 := ck hb (a := ⟨w.heap.size + 1 + 1, 0, none⟩) (v := .int .i64 z0) (by first | (go_simp; done) | simpa using cz0)
      replace cz1 := ck hb (a := ⟨w.heap.size + 1 + 1, 1, none⟩) (v := .int .u64 z1) (by first | (go_simp; done) | simpa using cz1)
      replace zw_0 : w.heap.size < w5.heap.size := World.block_lt_of_cell? w5 _ cx0
      replace nw_0 : ¬ w.heap.size = w5.heap.size := Nat.ne_of_lt zw_0
      replace zw_1 : w.heap.size + 1 < w5.heap.size := World.block_lt_of_cell? w5 _ cy0
      replace nw_1 : ¬ w.heap.size + 1 = w5.heap.size := Nat.ne_of_lt zw_1
      replace zw_2 : w.heap.size + 1 + 1 < w5.heap.size := World.block_lt_of_cell? w5 _ cz0
      replace nw_2 : ¬ w.heap.size + 1 + 1 = w5.heap.size := Nat.ne_of_lt zw_2
      replace HB : Below w.heap.size w w5 := bt (by repeat (first | (with_reducible exact HB) | (with_reducible exact Below.refl _ _) | (with_reducible apply bd) | (with_reducible apply ba) | (with_reducible refine bs ?_ (by first | (simp; done) | (simp; omega)) _))) hb
      clear hb
      go_wp2_with fail
      go_meet
      case rel => exact ⟨rfl, by go_simp, by go_simp, by go_simp, by go_simp, by go_simp, by go_simp, by repeat (first | (with_reducible exact HB) | (with_reducible exact Below.refl _ _) | (with_reducible apply bd) | (with_reducible apply ba) | (with_reducible refine bs ?_ (by first | (simp; done) | (simp; omega)) _))⟩
    · subst hok
      go_wp2_with fail
      refine (m3 _).mono ?_; rintro e w3 ⟨rfl, hb⟩; (with_reducible (repeat replace hb := undr hb))
      replace cx0 := ck hb (a := ⟨w.heap.size, 0, none⟩) (v := .int .i64 u0) (by first | (go_simp; done) | simpa using cx0)
      replace cx1 := ck hb (a := ⟨w.heap.size, 1, none⟩) (v := .int .u64 u1) (by first | (go_simp; done) | simpa using cx1)
      replace cy0 := ck hb (a := ⟨w.heap.size + 1, 0, none⟩) (v := .int .i64 v0) (by first | (go_simp; done) | simpa using cy0)
      replace cy1 := ck hb (a := ⟨w.heap.size + 1, 1, none⟩) (v := .int .u64 v1) (by first | (go_simp; done) | simpa using cy1)
      replace cz0 := ck hb (a := ⟨w.heap.size + 1 + 1, 0, none⟩) (v := .int .i64 z0) (by first | (go_simp; done) | simpa using cz0)
      replace cz1 := ck hb (a := ⟨w.heap.size + 1 + 1, 1, none⟩) (v := .int .u64 z1) (by first | (go_simp; done) | simpa using cz1)
      have cd0 := ck hb (a := ⟨w2.heap.size, 0, none⟩) (v := .int .i64 d0) (by go_simp)
      have cd1 := ck hb (a := ⟨w2.heap.size, 1, none⟩) (v := .int .u64 d1) (by go_simp)
      replace zw_0 : w.heap.size < w3.heap.size := World.block_lt_of_cell? w3 _ cx0
      replace nw_0 : ¬ w.heap.size = w3.heap.size := Nat.ne_of_lt zw_0
      replace zw_1 : w.heap.size + 1 < w3.heap.size := World.block_lt_of_cell? w3 _ cy0
      replace nw_1 : ¬ w.heap.size + 1 = w3.heap.size := Nat.ne_of_lt zw_1
      replace zw_2 : w.heap.size + 1 + 1 < w3.heap.size := World.block_lt_of_cell? w3 _ cz0
      replace nw_2 : ¬ w.heap.size + 1 + 1 = w3.heap.size := Nat.ne_of_lt zw_2
      have zw2_0 : w2.heap.size < w3.heap.size := World.block_lt_of_cell? w3 _ cd0
      have nw2_0 : ¬ w2.heap.size = w3.heap.size := Nat.ne_of_lt zw2_0
      replace HB : Below w.heap.size w w3 := bt (by repeat (first | (with_reducible exact HB) | (with_reducible exact Below.refl _ _) | (with_reducible apply bd) | (with_reducible apply ba) | (with_reducible refine bs ?_ (by first | (simp; done) | (simp; omega)) _))) hb
      clear hb
      go_wp2_with fail
      refine (m5 _).mono ?_; rintro e w5 ⟨rfl, hb⟩; (with_reducible (repeat replace hb := undr hb))
      replace cx0 := ck hb (a := ⟨w.heap.size, 0, none⟩) (v := .int .i64 u0) (by first | (go_simp; done) | simpa using cx0)
      replace cx1 := ck hb (a := ⟨w.heap.size, 1, none⟩) (v := .int .u64 u1) (by first | (go_simp; done) | simpa using cx1)
      replace cy0 := ck hb (a := ⟨w.heap.size + 1, 0, none⟩) (v := .int .i64 v0) (by first | (go_simp; done) | simpa using cy0)
      replace cy1 := ck hb (a := ⟨w.heap.size + 1, 1, none⟩) (v := .int .u64 v1) (by first | (go_simp; done) | simpa using cy1)
      replace cz0 := ck hb (a := ⟨w.heap.size + 1 + 1, 0, none⟩) (v := .int .i64 z0) (by first | (go_simp; done) | simpa using cz0)
      replace cz1 := ck hb (a := ⟨w.heap.size + 1 + 1, 1, none⟩) (v := .int .u64 z1) (by first | (go_simp; done) | simpa using cz1)
      replace zw_0 : w.heap.size < w5.heap.size := World.block_lt_of_cell? w5 _ cx0
      replace nw_0 : ¬ w.heap.size = w5.heap.size := Nat.ne_of_lt zw_0
      replace zw_1 : w.heap.size + 1 < w5.heap.size := World.block_lt_of_cell? w5 _ cy0
      replace nw_1 : ¬ w.heap.size + 1 = w5.heap.size := Nat.ne_of_lt zw_1
      replace zw_2 : w.heap.size + 1 + 1 < w5.heap.size := World.block_lt_of_cell? w5 _ cz0
      replace nw_2 : ¬ w.heap.size + 1 + 1 = w5.heap.size := Nat.ne_of_lt zw_2
      replace HB : Below w.heap.size w w5 := bt (by repeat (first | (with_reducible exact HB) | (with_reducible exact Below.refl _ _) | (with_reducible apply bd) | (with_reducible apply ba) | (with_reducible refine bs ?_ (by first | (simp; done) | (simp; omega)) _))) hb
      clear hb
      have e4 := e2 hn hp
      go_wp2_with fail
      refine (m6 _).mono ?_; rintro e w6 ⟨rfl, hb⟩; (with_reducible (repeat replace hb := undr hb))
      replace cx0 := ck hb (a := ⟨w.heap.size, 0, none⟩) (v := .int .i64 u0) (by first | (go_simp; done) | simpa using cx0)
      replace cx1 := ck hb (a := ⟨w.heap.size, 1, none⟩) (v := .int .u64 u1) (by first | (go_simp; done) | simpa using cx1)
      replace cy0 := ck hb (a := ⟨w.heap.size + 1, 0, none⟩) (v := .int .i64 v0) (by first | (go_simp; done) | simpa using cy0)
      replace cy1 := ck hb (a := ⟨w.heap.size + 1, 1, none⟩) (v := .int .u64 v1) (by first | (go_simp; done) | simpa using cy1)
      replace cz0 := ck hb (a := ⟨w.heap.size + 1 + 1, 0, none⟩) (v := .int .i64 z0) (by first | (go_simp; done) | simpa using cz0)
      replace cz1 := ck hb (a := ⟨w.heap.size + 1 + 1, 1, none⟩) (v := .int .u64 z1) (by first | (go_simp; done) | simpa using cz1)
      replace zw_0 : w.heap.size < w6.heap.size := World.block_lt_of_cell? w6 _ cx0
      replace nw_0 : ¬ w.heap.size = w6.heap.size := Nat.ne_of_lt zw_0
      replace zw_1 : w.heap.size + 1 < w6.heap.size := World.block_lt_of_cell? w6 _ cy0
      replace nw_1 : ¬ w.heap.size + 1 = w6.heap.size := Nat.ne_of_lt zw_1
      replace zw_2 : w.heap.size + 1 + 1 < w6.heap.size := World.block_lt_of_cell? w6 _ cz0
      replace nw_2 : ¬ w.heap.size + 1 + 1 = w6.heap.size := Nat.ne_of_lt zw_2
      replace HB : Below w.heap.size w w6 := bt (by repeat (first | (with_reducible exact HB) | (with_reducible exact Below.refl _ _) | (with_reducible apply bd) | (with_reducible apply ba) | (with_reducible refine bs ?_ (by first | (simp; done) | (simp; omega)) _))) hb
      clear hb
      go_wp2_with fail
      go_meet
      case rel => exact ⟨rfl, by go_simp, by go_simp, by go_simp, by go_simp, by go_simp, by go_simp, by repeat (first | (with_reducible exact HB) | (with_reducible exact Below.refl _ _) | (with_reducible apply bd) | (with_reducible apply ba) | (with_reducible refine bs ?_ (by first | (simp; done) | (simp; omega)) _))⟩
    · subst hok
      go_wp2_with fail
      refine (m3 _).mono ?_; rintro e w3 ⟨rfl, hb⟩; (with_reducible (repeat replace hb := undr hb))
      replace cx0 := ck hb (a := ⟨w.heap.size, 0, none⟩) (v := .int .i64 u0) (by first | (go_simp; done) | simpa using cx0)
      replace cx1 := ck hb (a := ⟨w.heap.size, 1, none⟩) (v := .int .u64 u1) (by first | (go_simp; done) | simpa using cx1)
      replace cy0 := ck hb (a := ⟨w.heap.size + 1, 0, none⟩) (v := .int .i64 v0) (by first | (go_simp; done) | simpa using cy0)
      replace cy1 := ck hb (a := ⟨w.heap.size + 1, 1, none⟩) (v := .int .u64 v1) (by first | (go_simp; done) | simpa using cy1)
      replace cz0 := ck hb (a := ⟨w.heap.size + 1 + 1, 0, none⟩) (v := .int .i64 z0) (by first | (go_simp; done) | simpa using cz0)
      replace cz1 := ck hb (a := ⟨w.heap.size + 1 + 1, 1, none⟩) (v := .int .u64 z1) (by first | (go_simp; done) | simpa using cz1)
      have cd0 := ck hb (a := ⟨w2.heap.size, 0, none⟩) (v := .int .i64 d0) (by go_simp)
      have cd1 := ck hb (a := ⟨w2.heap.size, 1, none⟩) (v := .int .u64 d1) (by go_simp)
      replace zw_0 : w.heap.size < w3.heap.size := World.block_lt_of_cell? w3 _ cx0
      replace nw_0 : ¬ w.heap.size = w3.heap.size := Nat.ne_of_lt zw_0
      replace zw_1 : w.heap.size + 1 < w3.heap.size := World.block_lt_of_cell? w3 _ cy0
      replace nw_1 : ¬ w.heap.size + 1 = w3.heap.size := Nat.ne_of_lt zw_1
      replace zw_2 : w.heap.size + 1 + 1 < w3.heap.size := World.block_lt_of_cell? w3 _ cz0
      replace nw_2 : ¬ w.heap.size + 1 + 1 = w3.heap.size := Nat.ne_of_lt zw_2
      have zw2_0 : w2.heap.size < w3.heap.size := World.block_lt_of_cell? w3 _ cd0
      have nw2_0 : ¬ w2.heap.size = w3.heap.size := Nat.ne_of_lt zw2_0
      replace HB : Below w.heap.size w w3 := bt (by repeat (first | (with_reducible exact HB) | (with_reducible exact Below.refl _ _) | (with_reducible apply bd) | (with_reducible apply ba) | (with_reducible refine bs ?_ (by first | (simp; done) | (simp; omega)) _))) hb
      clear hb
      go_wp2_with fail
      refine (m4 (by trivial) _).mono ?_; rintro e w4 ⟨rfl, hb⟩; (with_reducible (repeat replace hb := undr hb))
      replace cx0 := ck hb (a := ⟨w.heap.size, 0, none⟩) (v := .int .i64 u0) (by first | (go_simp; done) | simpa using cx0)
      replace cx1 := ck hb (a := ⟨w.heap.size, 1, none⟩) (v := .int .u64 u1) (by first | (go_simp; done) | simpa using cx1)
      replace cy0 := ck hb (a := ⟨w.heap.size + 1, 0, none⟩) (v := .int .i64 v0) (by first | (go_simp; done) | simpa using cy0)
      replace cy1 := ck hb (a := ⟨w.heap.size + 1, 1, none⟩) (v := .int .u64 v1) (by first | (go_simp; done) | simpa using cy1)
      replace cz0 := ck hb (a := ⟨w.heap.size + 1 + 1, 0, none⟩) (v := .int .i64 z0) (by first | (go_simp; done) | simpa using cz0)
      replace cz1 := ck hb (a := ⟨w.heap.size + 1 + 1, 1, none⟩) (v := .int .u64 z1) (by first | (go_simp; done) | simpa using cz1)
      replace zw_0 : w.heap.size < w4.heap.size := World.block_lt_of_cell? w4 _ cx0
      replace nw_0 : ¬ w.heap.size = w4.heap.size := Nat.ne_of_lt zw_0
      replace zw_1 : w.heap.size + 1 < w4.heap.size := World.block_lt_of_cell? w4 _ cy0
      replace nw_1 : ¬ w.heap.size + 1 = w4.heap.size := Nat.ne_of_lt zw_1
      replace zw_2 : w.heap.size + 1 + 1 < w4.heap.size := World.block_lt_of_cell? w4 _ cz0
      replace nw_2 : ¬ w.heap.size + 1 + 1 = w4.heap.size := Nat.ne_of_lt zw_2
      replace HB : Below w.heap.size w w4 := bt (by repeat (first | (with_reducible exact HB) | (with_reducible exact Below.refl _ _) | (with_reducible apply bd) | (with_reducible apply ba) | (with_reducible refine bs ?_ (by first | (simp; done) | (simp; omega)) _))) hb
      clear hb
      go_wp2_with fail
      go_meet
      case rel => exact ⟨rfl, by go_simp, by go_simp, by go_simp, by go_simp, by go_simp, by go_simp, by repeat (first | (with_reducible exact HB) | (with_reducible exact Below.refl _ _) | (with_reducible apply bd) | (with_reducible apply ba) | (with_reducible refine bs ?_ (by first | (simp; done) | (simp; omega)) _))⟩
    · subst hok
      go_wp2_with fail
      refine (m3 _).mono ?_; rintro e w3 ⟨rfl, hb⟩; (with_reducible (repeat replace hb := undr hb))
      replace cx0 := ck hb (a := ⟨w.heap.size, 0, none⟩) (v := .int .i64 u0) (by first | (go_simp; done) | simpa using cx0)
      replace cx1 := ck hb (a := ⟨w.heap.size, 1, none⟩) (v := .int .u64 u1) (by first | (go_simp; done) | simpa using cx1)
      replace cy0 := ck hb (a := ⟨w.heap.size + 1, 0, none⟩) (v := .int .i64 v0) (by first | (go_simp; done) | simpa using cy0)
      replace cy1 := ck hb (a := ⟨w.heap.size + 1, 1, none⟩) (v := .int .u64 v1) (by first | (go_simp; done) | simpa using cy1)
      replace cz0 := ck hb (a := ⟨w.heap.size + 1 + 1, 0, none⟩) (v := .int .i64 z0) (by first | (go_simp; done) | simpa using cz0)
      replace cz1 := ck hb (a := ⟨w.heap.size + 1 + 1, 1, none⟩) (v := .int .u64 z1) (by first | (go_simp; done) | simpa using cz1)
      have cd0 := ck hb (a := ⟨w2.heap.size, 0, none⟩) (v := .int .i64 d0) (by go_simp)
      have cd1 := ck hb (a := ⟨w2.heap.size, 1, none⟩) (v := .int .u64 d1) (by go_simp)
      replace zw_0 : w.heap.size < w3.heap.size := World.block_lt_of_cell? w3 _ cx0
      replace nw_0 : ¬ w.heap.size = w3.heap.size := Nat.ne_of_lt zw_0
      replace zw_1 : w.heap.size + 1 < w3.heap.size := World.block_lt_of_cell? w3 _ cy0
      replace nw_1 : ¬ w.heap.size + 1 = w3.heap.size := Nat.ne_of_lt zw_1
      replace zw_2 : w.heap.size + 1 + 1 < w3.heap.size := World.block_lt_of_cell? w3 _ cz0
      replace nw_2 : ¬ w.heap.size + 1 + 1 = w3.heap.size := Nat.ne_of_lt zw_2
      have zw2_0 : w2.heap.size < w3.heap.size := World.block_lt_of_cell? w3 _ cd0
      have nw2_0 : ¬ w2.heap.size = w3.heap.size := Nat.ne_of_lt zw2_0
      replace HB : Below w.heap.size w w3 := bt (by repeat (first | (with_reducible exact HB) | (with_reducible exact Below.refl _ _) | (with_reducible apply bd) | (with_reducible apply ba) | (with_reducible refine bs ?_ (by first | (simp; done) | (simp; omega)) _))) hb
      clear hb
      go_wp2_with fail
      refine (m4 (by trivial) _).mono ?_; rintro e w4 ⟨rfl, hb⟩; (with_reducible (repeat replace hb := undr hb))
      replace cx0 := ck hb (a := ⟨w.heap.size, 0, none⟩) (v := .int .i64 u0) (by first | (go_simp; done) | simpa using cx0)
      replace cx1 := ck hb (a := ⟨w.heap.size, 1, none⟩) (v := .int .u64 u1) (by first | (go_simp; done) | simpa using cx1)
      replace cy0 := ck hb (a := ⟨w.heap.size + 1, 0, none⟩) (v := .int .i64 v0) (by first | (go_simp; done) | simpa using cy0)
      replace cy1 := ck hb (a := ⟨w.heap.size + 1, 1, none⟩) (v := .int .u64 v1) (by first | (go_simp; done) | simpa using cy1)
      replace cz0 := ck hb (a := ⟨w.heap.size + 1 + 1, 0, none⟩) (v := .int .i64 z0) (by first | (go_simp; done) | simpa using cz0)
      replace cz1 := ck hb (a := ⟨w.heap.size + 1 + 1, 1, none⟩) (v := .int .u64 z1) (by first | (go_simp; done) | simpa using cz1)
      replace zw_0 : w.heap.size < w4.heap.size := World.block_lt_of_cell? w4 _ cx0
      replace nw_0 : ¬ w.heap.size = w4.heap.size := Nat.ne_of_lt zw_0
      replace zw_1 : w.heap.size + 1 < w4.heap.size := World.block_lt_of_cell? w4 _ cy0
      replace nw_1 : ¬ w.heap.size + 1 = w4.heap.size := Nat.ne_of_lt zw_1
      replace zw_2 : w.heap.size + 1 + 1 < w4.heap.size := World.block_lt_of_cell? w4 _ cz0
      replace nw_2 : ¬ w.heap.size + 1 + 1 = w4.heap.size := Nat.ne_of_lt zw_2
      replace HB : Below w.heap.size w w4 := bt (by repeat (first | (with_reducible exact HB) | (with_reducible exact Below.refl _ _) | (with_reducible apply bd) | (with_reducible apply ba) | (with_reducible refine bs ?_ (by first | (simp; done) | (simp; omega)) _))) hb
      clear hb
      go_wp2_with fail
      go_meet
      case rel => exact ⟨rfl, by go_simp, by go_simp, by go_simp, by go_simp, by go_simp, by go_simp, by repeat (first | (with_reducible exact HB) | (with_reducible exact Below.refl _ _) | (with_reducible apply bd) | (with_reducible apply ba) | (with_reducible refine bs ?_ (by first | (simp; done) | (simp; omega)) _))⟩
    · subst hok
      go_wp2_with fail
      refine (m3 _).mono ?_; rintro e w3 ⟨rfl, hb⟩; (with_reducible (repeat replace hb := undr hb))
      replace cx0 := ck hb (a := ⟨w.heap.size, 0, none⟩) (v := .int .i64 u0) (by first | (go_simp; done) | simpa using cx0)
      replace cx1 := ck hb (a := ⟨w.heap.size, 1, none⟩) (v := .int .u64 u1) (by first | (go_simp; done) | simpa using cx1)
      replace cy0 := ck hb (a := ⟨w.heap.size + 1, 0, none⟩) (v := .int .i64 v0) (by first | (go_simp; done) | simpa using cy0)
      replace cy1 := ck hb (a := ⟨w.heap.size + 1, 1, none⟩) (v := .int .u64 v1) (by first | (go_simp; done) | simpa using cy1)
      replace cz0 := ck hb (a := ⟨w.heap.size + 1 + 1, 0, none⟩) (v := .int .i64 z0) (by first | (go_simp; done) | simpa using cz0)
      replace cz1 := ck hb (a := ⟨w.heap.size + 1 + 1, 1, none⟩) (v := .int .u64 z1) (by first | (go_simp; done) | simpa using cz1)
      have cd0 := ck hb (a := ⟨w2.heap.size, 0, none⟩) (v := .int .i64 d0) (by go_simp)
      have cd1 := ck hb (a := ⟨w2.heap.size, 1, none⟩) (v := .int .u64 d1) (by go_simp)
      replace zw_0 : w.heap.size < w3.heap.size := World.block_lt_of_cell? w3 _ cx0
      replace nw_0 : ¬ w.heap.size = w3.heap.size := Nat.ne_of_lt zw_0
      replace zw_1 : w.heap.size + 1 < w3.heap.size := World.block_lt_of_cell? w3 _ cy0
      replace nw_1 : ¬ w.heap.size + 1 = w3.heap.size := Nat.ne_of_lt zw_1
      replace zw_2 : w.heap.size + 1 + 1 < w3.heap.size := World.block_lt_of_cell? w3 _ cz0
      replace nw_2 : ¬ w.heap.size + 1 + 1 = w3.heap.size := Nat.ne_of_lt zw_2
      have zw2_0 : w2.heap.size < w3.heap.size := World.block_lt_of_cell? w3 _ cd0
      have nw2_0 : ¬ w2.heap.size = w3.heap.size := Nat.ne_of_lt zw2_0
      replace HB : Below w.heap.size w w3 := bt (by repeat (first | (with_reducible exact HB) | (with_reducible exact Below.refl _ _) | (with_reducible apply bd) | (with_reducible apply ba) | (with_reducible refine bs ?_ (by first | (simp; done) | (simp; omega)) _))) hb
      clear hb
      go_wp2_with fail
      refine (m4 (by trivial) _).mono ?_; rintro e w4 ⟨rfl, hb⟩; (with_reducible (repeat replace hb := undr hb))
      replace cx0 := ck hb (a := ⟨w.heap.size, 0, none⟩) (v := .int .i64 u0) (by first | (go_simp; done) | simpa using cx0)
      replace cx1 := ck hb (a := ⟨w.heap.size, 1, none⟩) (v := .int .u64 u1) (by first | (go_simp; done) | simpa using cx1)
      replace cy0 := ck hb (a := ⟨w.heap.size + 1, 0, none⟩) (v := .int .i64 v0) (by first | (go_simp; done) | simpa using cy0)
      replace cy1 := ck hb (a := ⟨w.heap.size + 1, 1, none⟩) (v := .int .u64 v1) (by first | (go_simp; done) | simpa using cy1)
      replace cz0 := ck hb (a := ⟨w.heap.size + 1 + 1, 0, none⟩) (v := .int .i64 z0) (by first | (go_simp; done) | simpa using cz0)
      replace cz1 := ck hb (a := ⟨w.heap.size + 1 + 1, 1, none⟩) (v := .int .u64 z1) (by first | (go_simp; done) | simpa using cz1)
      replace zw_0 : w.heap.size < w4.heap.size := World.block_lt_of_cell? w4 _ cx0
      replace nw_0 : ¬ w.heap.size = w4.heap.size := Nat.ne_of_lt zw_0
      replace zw_1 : w.heap.size + 1 < w4.heap.size := World.block_lt_of_cell? w4 _ cy0
      replace nw_1 : ¬ w.heap.size + 1 = w4.heap.size := Nat.ne_of_lt zw_1
      replace zw_2 : w.heap.size + 1 + 1 < w4.heap.size := World.block_lt_of_cell? w4 _ cz0
      replace nw_2 : ¬ w.heap.size + 1 + 1 = w4.heap.size := Nat.ne_of_lt zw_2
      replace HB : Below w.heap.size w w4 := bt (by repeat (first | (with_reducible exact HB) | (with_reducible exact Below.refl _ _) | (with_reducible apply bd) | (with_reducible apply ba) | (with_reducible refine bs ?_ (by first | (simp; done) | (simp; omega)) _))) hb
      clear hb
      go_wp2_with fail
      refine (m5 _).mono ?_; rintro e w5 ⟨rfl, hb⟩; (with_reducible (repeat replace hb := undr hb))
      replace cx0 := ck hb (a := ⟨w.heap.size, 0, none⟩) (v := .int .i64 u0) (by first | (go_simp; done) | simpa using cx0)
      replace cx1 := ck hb (a := ⟨w.heap.size, 1, none⟩) (v := .int .u64 u1) (by first | (go_simp; done) | simpa using cx1)
      replace cy0 := ck hb (a := ⟨w.heap.size + 1, 0, none⟩) (v := .int .i64 v0) (by first | (go_simp; done) | simpa using cy0)
      replace cy1 := ck hb (a := ⟨w.heap.size + 1, 1, none⟩) (v := .int .u64 v1) (by first | (go_simp; done) | simpa using cy1)
      replace cz0 := ck hb (a := ⟨w.heap.size + 1 + 1, 0, none⟩) (v := .int .i64 z0) (by first | (go_simp; done) | simpa using cz0)
      replace cz1 := ck hb (a := ⟨w.heap.size + 1 + 1, 1, none⟩) (v := .int .u64 z1) (by first | (go_simp; done) | simpa using cz1)
      replace zw_0 : w.heap.size < w5.heap.size := World.block_lt_of_cell? w5 _ cx0
      replace nw_0 : ¬ w.heap.size = w5.heap.size := Nat.ne_of_lt zw_0
      replace zw_1 : w.heap.size + 1 < w5.heap.size := World.block_lt_of_cell? w5 _ cy0
      replace nw_1 : ¬ w.heap.size + 1 = w5.heap.size := Nat.ne_of_lt zw_1
      replace zw_2 : w.heap.size + 1 + 1 < w5.heap.size := World.block_lt_of_cell? w5 _ cz0
      replace nw_2 : ¬ w.heap.size + 1 + 1 = w5.heap.size := Nat.ne_of_lt zw_2
      replace HB : Below w.heap.size w w5 := bt (by repeat (first | (with_reducible exact HB) | (with_reducible exact Below.refl _ _) | (with_reducible apply bd) | (with_reducible apply ba) | (with_reducible refine bs ?_ (by first | (simp; done) | (simp; omega)) _))) hb
      clear hb
      go_wp2_with fail
      go_meet
      case rel => exact ⟨rfl, by go_simp, by go_simp, by go_simp, by go_simp, by go_simp, by go_simp, by repeat (first | (with_reducible exact HB) | (with_reducible exact Below.refl _ _) | (with_reducible apply bd) | (with_reducible apply ba) | (with_reducible refine bs ?_ (by first | (simp; done) | (simp; omega)) _))⟩
    · subst hok
      go_wp2_with fail
      refine (m3 _).mono ?_; rintro e w3 ⟨rfl, hb⟩; (with_reducible (repeat replace hb := undr hb))
      replace cx0 := ck hb (a := ⟨w.heap.size, 0, none⟩) (v := .int .i64 u0) (by first | (go_simp; done) | simpa using cx0)
      replace cx1 := ck hb (a := ⟨w.heap.size, 1, none⟩) (v := .int .u64 u1) (by first | (go_simp; done) | simpa using cx1)
      replace cy0 := ck hb (a := ⟨w.heap.size + 1, 0, none⟩) (v := .int .i64 v0) (by first | (go_simp; done) | simpa using cy0)
      replace cy1 := ck hb (a := ⟨w.heap.size + 1, 1, none⟩) (v := .int .u64 v1) (by first | (go_simp; done) | simpa using cy1)
      replace cz0 := ck hb (a := ⟨w.heap.size + 1 + 1, 0, none⟩) (v := .int .i64 z0) (by first | (go_simp; done) | simpa using cz0)
      replace cz1 := ck hb (a := ⟨w.heap.size + 1 + 1, 1, none⟩) (v := .int .u64 z1) (by first | (go_simp; done) | simpa using cz1)
      have cd0 := ck hb (a := ⟨w2.heap.size, 0, none⟩) (v := .int .i64 d0) (by go_simp)
      have cd1 := ck hb (a := ⟨w2.heap.size, 1, none⟩) (v := .int .u64 d1) (by go_simp)
      replace zw_0 : w.heap.size < w3.heap.size := World.block_lt_of_cell? w3 _ cx0
      replace nw_0 : ¬ w.heap.size = w3.heap.size := Nat.ne_of_lt zw_0
      replace zw_1 : w.heap.size + 1 < w3.heap.size := World.block_lt_of_cell? w3 _ cy0
      replace nw_1 : ¬ w.heap.size + 1 = w3.heap.size := Nat.ne_of_lt zw_1
      replace zw_2 : w.heap.size + 1 + 1 < w3.heap.size := World.block_lt_of_cell? w3 _ cz0
      replace nw_2 : ¬ w.heap.size + 1 + 1 = w3.heap.size := Nat.ne_of_lt zw_2
      have zw2_0 : w2.heap.size < w3.heap.size := World.block_lt_of_cell? w3 _ cd0
      have nw2_0 : ¬ w2.heap.size = w3.heap.size := Nat.ne_of_lt zw2_0
      replace HB : Below w.heap.size w w3 := bt (by repeat (first | (with_reducible exact HB) | (with_reducible exact Below.refl _ _) | (with_reducible apply bd) | (with_reducible apply ba) | (with_reducible refine bs ?_ (by first | (simp; done) | (simp; omega)) _))) hb
      clear hb
      go_wp2_with fail
      refine (m4 (by trivial) _).mono ?_; rintro e w4 ⟨rfl, hb⟩; (with_reducible (repeat replace hb := undr hb))
      replace cx0 := ck hb (a := ⟨w.heap.size, 0, none⟩) (v := .int .i64 u0) (by first | (go_simp; done) | simpa using cx0)
      replace cx1 := ck hb (a := ⟨w.heap.size, 1, none⟩) (v := .int .u64 u1) (by first | (go_simp; done) | simpa using cx1)
      replace cy0 := ck hb (a := ⟨w.heap.size + 1, 0, none⟩) (v := .int .i64 v0) (by first | (go_simp; done) | simpa using cy0)
      replace cy1 := ck hb (a := ⟨w.heap.size + 1, 1, none⟩) (v := .int .u64 v1) (by first | (go_simp; done) | simpa using cy1)
      replace cz0 := ck hb (a := ⟨w.heap.size + 1 + 1, 0, none⟩) (v := .int .i64 z0) (by first | (go_simp; done) | simpa using cz0)
      replace cz1 := ck hb (a := ⟨w.heap.size + 1 + 1, 1, none⟩) (v := .int .u64 z1) (by first | (go_simp; done) | simpa using cz1)
      replace zw_0 : w.heap.size < w4.heap.size := World.block_lt_of_cell? w4 _ cx0
      replace nw_0 : ¬ w.heap.size = w4.heap.size := Nat.ne_of_lt zw_0
      replace zw_1 : w.heap.size + 1 < w4.heap.size := World.block_lt_of_cell? w4 _ cy0
      replace nw_1 : ¬ w.heap.size + 1 = w4.heap.size := Nat.ne_of_lt zw_1
      replace zw_2 : w.heap.size + 1 + 1 < w4.heap.size := World.block_lt_of_cell? w4 _ cz0
      replace nw_2 : ¬ w.heap.size + 1 + 1 = w4.heap.size := Nat.ne_of_lt zw_2
      replace HB : Below w.heap.size w w4 := bt (by repeat (first | (with_reducible exact HB) | (with_reducible exact Below.refl _ _) | (with_reducible apply bd) | (with_reducible apply ba) | (with_reducible refine bs ?_ (by first | (simp; done) | (simp; omega)) _))) hb
      clear hb
      go_wp2_with fail
      refine (m5 _).mono ?_; rintro e w5 ⟨rfl, hb⟩; (with_reducible (repeat replace hb := undr hb))
      replace cx0 := ck hb (a := ⟨w.heap.size, 0, none⟩) (v := .int .i64 u0) (by first | (go_simp; done) | simpa using cx0)
      replace cx1 := ck hb (a := ⟨w.heap.size, 1, none⟩) (v := .int .u64 u1) (by first | (go_simp; done) | simpa using cx1)
      replace cy0 := ck hb (a := ⟨w.heap.size + 1, 0, none⟩) (v := .int .i64 v0) (by first | (go_simp; done) | simpa using cy0)
      replace cy1 := ck hb (a := ⟨w.heap.size + 1, 1, none⟩) (v := .int .u64 v1) (by first | (go_simp; done) | simpa using cy1)
      replace cz0 := ck hb (a := ⟨w.heap.size + 1 + 1, 0, none⟩) (v := .int .i64 z0) (by first | (go_simp; done) | simpa using cz0)
      replace cz1 := ck hb (a := ⟨w.heap.size + 1 + 1, 1, none⟩) (v := .int .u64 z1) (by first | (go_simp; done) | simpa using cz1)
      replace zw_0 : w.heap.size < w5.heap.size := World.block_lt_of_cell? w5 _ cx0
      replace nw_0 : ¬ w.heap.size = w5.heap.size := Nat.ne_of_lt zw_0
      replace zw_1 : w.heap.size + 1 < w5.heap.size := World.block_lt_of_cell? w5 _ cy0
      replace nw_1 : ¬ w.heap.size + 1 = w5.heap.size := Nat.ne_of_lt zw_1
      replace zw_2 : w.heap.size + 1 + 1 < w5.heap.size := World.block_lt_of_cell? w5 _ cz0
      replace nw_2 : ¬ w.heap.size + 1 + 1 = w5.heap.size := Nat.ne_of_lt zw_2
      replace HB : Below w.heap.size w w5 := bt (by repeat (first | (with_reducible exact HB) | (with_reducible exact Below.refl _ _) | (with_reducible apply bd) | (with_reducible apply ba) | (with_reducible refine bs ?_ (by first | (simp; done) | (simp; omega)) _))) hb
      clear hb
      have e4 := e2 hn hp
      go_wp2_with fail
      refine (m6 _).mono ?_; rintro e w6 ⟨rfl, hb⟩; (with_reducible (repeat replace hb := undr hb))
      replace cx0 := ck hb (a := ⟨w.heap.size, 0, none⟩) (v := .int .i64 u0) (by first | (go_simp; done) | simpa using cx0)
      replace cx1 := ck hb (a := ⟨w.heap.size, 1, none⟩) (v := .int .u64 u1) (by first | (go_simp; done) | simpa using cx1)
      replace cy0 := ck hb (a := ⟨w.heap.size + 1, 0, none⟩) (v := .int .i64 v0) (by first | (go_simp; done) | simpa using cy0)
      replace cy1 := ck hb (a := ⟨w.heap.size + 1, 1, none⟩) (v := .int .u64 v1) (by first | (go_simp; done) | simpa using cy1)
      replace cz0 := ck hb (a := ⟨w.heap.size + 1 + 1, 0, none⟩) (v := .int .i64 z0) (by first | (go_simp; done) | simpa using cz0)
      replace cz1 := ck hb (a := ⟨w.heap.size + 1 + 1, 1, none⟩) (v := .int .u64 z1) (by first | (go_simp; done) | simpa using cz1)
      replace zw_0 : w.heap.size < w6.heap.size := World.block_lt_of_cell? w6 _ cx0
      replace nw_0 : ¬ w.heap.size = w6.heap.size := Nat.ne_of_lt zw_0
      replace zw_1 : w.heap.size + 1 < w6.heap.size := World.block_lt_of_cell? w6 _ cy0
      replace nw_1 : ¬ w.heap.size + 1 = w6.heap.size := Nat.ne_of_lt zw_1
      replace zw_2 : w.heap.size + 1 + 1 < w6.heap.size := World.block_lt_of_cell? w6 _ cz0
      replace nw_2 : ¬ w.heap.size + 1 + 1 = w6.heap.size := Nat.ne_of_lt zw_2
      replace HB : Below w.heap.size w w6 := bt (by repeat (first | (with_reducible exact HB) | (with_reducible exact Below.refl _ _) | (with_reducible apply bd) | (with_reducible apply ba) | (with_reducible refine bs ?_ (by first | (simp; done) | (simp; omega)) _))) hb
      clear hb
      go_wp2_with fail
      go_meet
      case rel => exact ⟨rfl, by go_simp, by go_simp, by go_simp, by go_simp, by go_simp, by go_simp, by repeat (first | (with_reducible exact HB) | (with_reducible exact Below.refl _ _) | (with_reducible apply bd) | (with_reducible apply ba) | (with_reducible refine bs ?_ (by first | (simp; done) | (simp; omega)) _))⟩
  case rest =>
    obtain ⟨rfl, cx0, cx1, cy0, cy1, cz0, cz1, HB⟩ := hcut
    go_wp2_with fail
    refine (m7 _).mono ?_; rintro e w7 ⟨rfl, hb⟩; (with_reducible (repeat replace hb := undr hb))
    replace cx0 := ck hb (a := ⟨w.heap.size, 0, none⟩) (v := .int .i64 u0) (by first | (go_simp; done) | simpa using cx0)
    replace cx1 := ck hb (a := ⟨w.heap.size, 1, none⟩) (v := .int .u64 u1) (by first | (go_simp; done) | simpa using cx1)
    replace cy0 := ck hb (a := ⟨w.heap.size + 1, 0, none⟩) (v := .int .i64 v0) (by first | (go_simp; done) | simpa using cy0)
    replace cy1 := ck hb (a := ⟨w.heap.size + 1, 1, none⟩) (v := .int .u64 v1) (by first | (go_simp; done) | simpa using cy1)
    replace cz0 := ck hb (a := ⟨w.heap.size + 1 + 1, 0, none⟩) (v := .int .i64 z0) (by first | (go_simp; done) | simpa using cz0)
    replace cz1 := ck hb (a := ⟨w.heap.size + 1 + 1, 1, none⟩) (v := .int .u64 z1) (by first | (go_simp; done) | simpa using cz1)
    have zw_0 : w.heap.size < w7.heap.size := World.block_lt_of_cell? w7 _ cx0
    have nw_0 : ¬ w.heap.size = w7.heap.size := Nat.ne_of_lt zw_0
    have zw_1 : w.heap.size + 1 < w7.heap.size := World.block_lt_of_cell? w7 _ cy0
    have nw_1 : ¬ w.heap.size + 1 = w7.heap.size := Nat.ne_of_lt zw_1
    have zw_2 : w.heap.size + 1 + 1 < w7.heap.size := World.block_lt_of_cell? w7 _ cz0
    have nw_2 : ¬ w.heap.size + 1 + 1 = w7.heap.size := Nat.ne_of_lt zw_2
    replace HB : Below w.heap.size w w7 := bt (by repeat (first | (with_reducible exact HB) | (with_reducible exact Below.refl _ _) | (with_reducible apply bd) | (with_reducible apply ba) | (with_reducible refine bs ?_ (by first | (simp; done) | (simp; omega)) _))) hb
    clear hb
    go_wp2_with fail
    refine (m8 _).mono ?_; rintro e w8 ⟨rfl, hb⟩; (with_reducible (repeat replace hb := undr hb))
    replace cx0 := ck hb (a := ⟨w.heap.size, 0, none⟩) (v := .int .i64 u0) (by first | (go_simp; done) | simpa using cx0)
    replace cx1 := ck hb (a := ⟨w.heap.size, 1, none⟩) (v := .int .u64 u1) (by first | (go_simp; done) | simpa using cx1)
    replace cy0 := ck hb (a := ⟨w.heap.size + 1, 0, none⟩) (v := .int .i64 v0) (by first | (go_simp; done) | simpa using cy0)
    replace cy1 := ck hb (a := ⟨w.heap.size + 1, 1, none⟩) (v := .int .u64 v1) (by first | (go_simp; done) | simpa using cy1)
    replace cz0 := ck hb (a := ⟨w.heap.size + 1 + 1, 0, none⟩) (v := .int .i64 z0) (by first | (go_simp; done) | simpa using cz0)
    replace cz1 := ck hb (a := ⟨w.heap.size + 1 + 1, 1, none⟩) (v := .int .u64 z1) (by first | (go_simp; done) | simpa using cz1)
    have cf0 := ck hb (a := ⟨w7.heap.size, 0, none⟩) (v := .int .i64 f0) (by go_simp)
    have cf1 := ck hb (a := ⟨w7.heap.size, 1, none⟩) (v := .int .u64 f1) (by go_simp)
    replace zw_0 : w.heap.size < w8.heap.size := World.block_lt_of_cell? w8 _ cx0
    replace nw_0 : ¬ w.heap.size = w8.heap.size := Nat.ne_of_lt zw_0
    replace zw_1 : w.heap.size + 1 < w8.heap.size := World.block_lt_of_cell? w8 _ cy0
    replace nw_1 : ¬ w.heap.size + 1 = w8.heap.size := Nat.ne_of_lt zw_1
    replace zw_2 : w.heap.size + 1 + 1 < w8.heap.size := World.block_lt_of_cell? w8 _ cz0
    replace nw_2 : ¬ w.heap.size + 1 + 1 = w8.heap.size := Nat.ne_of_lt zw_2
    have zw7_0 : w7.heap.size < w8.heap.size := World.block_lt_of_cell? w8 _ cf0
    have nw7_0 : ¬ w7.heap.size = w8.heap.size := Nat.ne_of_lt zw7_0
    replace HB : Below w.heap.size w w8 := bt (by repeat (first | (with_reducible exact HB) | (with_reducible exact Below.refl _ _) | (with_reducible apply bd) | (with_reducible apply ba) | (with_reducible refine bs ?_ (by first | (simp; done) | (simp; omega)) _))) hb
    clear hb
    go_wp2_with fail
    refine region8_7_2 n nn sx u0 u1 f0 f1 g0 g1 w.heap.size w7.heap.size w8.heap.size w htab m9 e3 m10 m11 (by kernel_rfl) rfl rfl rfl rfl rfl rfl rfl ⟨?_, ?_, ?_, ?_, ?_, ?_, ?_⟩ (fun w9 hS => ?_)
    iterate 6 (focus (go_simp; done))
    · exact (by repeat (first | (with_reducible exact HB) | (with_reducible exact Below.refl _ _) | (with_reducible apply bd) | (with_reducible apply ba) | (with_reducible refine bs ?_ (by first | (simp; done) | (simp; omega)) _)))
    obtain ⟨-, -, -, -, -, -, HB⟩ := hS
    simp only [List.setIfInBounds_toArray, List.set_cons_zero, List.set_cons_succ]
    go_wp2_with fail
    go_ret
    exact ⟨rfl, by repeat (first | (with_reducible exact HB) | (with_reducible exact Below.refl _ _) | (with_reducible apply bd) | (with_reducible apply ba) | (with_reducible refine bs ?_ (by first | (simp; done) | (simp; omega)) _))⟩


theorem cmpI_anti (u v : Int) : wrap64 (-cmpI v u) = cmpI u v := by unfold wrap64 cmpI; (repeat' split) <;> omega
theorem cmpI_neg (n : Int) (h : -1 ≤ n ∧ n ≤ 1) : IntKind.i64.wrap (-n) = -n := by rw [IntKind.wrap_i64]; omega
theorem cmpI_bd (u v : Int) : -1 ≤ cmpI u v ∧ cmpI u v ≤ 1 := by unfold cmpI; (repeat' split) <;> omega
theorem words_eq (u v : Int) : (cmpI u v == 0) = (hiW u == hiW v && loW u == loW v) := by
  rw [Bool.eq_iff_iff]
  simp only [beq_iff_eq, Bool.and_eq_true]
  unfold cmpI hiW loW
  constructor
  · intro h; (repeat' split at h) <;> omega
  · rintro ⟨h1, h2⟩; (repeat' split) <;> omega

theorem wideOrder_walk (u : Int) (hu : fits u = true) (v : Int) (hv : fits v = true) (z : Int) (hz : fits z = true) (w : World) (htab : Tab w) :
    Calls Tryd.prog 8 #[.agg #[.int .i64 (hiW u), .int .u64 (loW u)], .agg #[.int .i64 (hiW v), .int .u64 (loW v)], .agg #[.int .i64 (hiW z), .int .u64 (loW z)]] w fun e w' => e = .returned (.bool true) ∧ Below w.heap.size w w' := by
  have m1 := fun w => wcmp23 u v w
  have m2 := fun w => sub14 u v w hu hv
  have m3 := fun w => wcmp23 v u w
  have e0 := cmpI_anti u v
  have e1 := words_eq u v
  have m4 : fits (u - v) = true → ∀ w, Calls Tryd.prog 15 #[.agg #[.int .i64 (hiW (cutA (u - v))), .int .u64 (loW (cutA (u - v)))]] w fun e w' => e = .returned (.int .i64 (cmpI u v)) ∧ Below w.heap.size w w' := fun h w => by
    have := sign15 (u - v) w
    rw [cutA_yes h, cmpI_sub u v]; exact this
  have m5 := fun w => wcmp23 v z w
  have m6 := fun w => wcmp23 u z w
  have e2 : decide (cmpI u v ≤ 0) = true → decide (cmpI v z ≤ 0) = true → decide (0 < cmpI u z) = false := fun h1 h2 => by
    have h1 := of_decide_eq_true h1
    have h2 := of_decide_eq_true h2
    refine decide_eq_false ?_
    unfold cmpI at *
    (repeat' split at h1) <;> (repeat' split at h2) <;> (repeat' split) <;> omega
  have m7 := fun w => neg19 u w hu
  have m8 := fun w => neg19 v w hv
  have m10 := fun w => sign15 u w
  have m11 := fun w => wcmp23 u 0 w
  cases a : fits (-u)
  · rw [a] at m7
    exact wideOrder_w0 _ _ 0 _ _ _ _ _ _ _ _ _ _ _ _ _ _ _ _ _ w htab m1 m2 m3 e0 e1 m4 m5 m6 e2 m7 m8 m10 m11
  rw [a] at m7
  cases b : fits (-v)
  · rw [b] at m8
    exact wideOrder_w1 _ _ 0 _ _ _ _ _ _ _ _ _ _ _ _ _ _ _ _ false w htab m1 m2 m3 e0 e1 m4 m5 m6 e2 m7 m8 m10 m11
  rw [b] at m8
  have m9 : ∀ w, Calls Tryd.prog 23 #[.agg #[.int .i64 (hiW (cutA (-u))), .int .u64 (loW (cutA (-u)))], .agg #[.int .i64 (hiW (cutA (-v))), .int .u64 (loW (cutA (-v)))]] w fun e w' => e = .returned (.int .i64 (-cmpI u v)) ∧ Below w.heap.size w w' := fun w => by
    have := wcmp23 (-u) (-v) w
    rw [cutA_yes a, cutA_yes b, show -cmpI u v = cmpI (-u) (-v) by unfold cmpI; (repeat' split) <;> omega]
    exact this
  exact wideOrder_w2 _ _ _ _ _ _ _ _ _ _ _ _ _ _ _ _ _ _ _ false w htab m1 m2 m3 e0 e1 m4 m5 m6 e2 m7 m8 m9 (cmpI_neg _ (cmpI_bd u v)) m10 m11
end Go.Proofs.YtkamnnkdadfebaaDoor
