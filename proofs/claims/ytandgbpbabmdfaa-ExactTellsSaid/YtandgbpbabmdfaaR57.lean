import Derived.Test.YtandgbpbabmdfaaT24
import Derived.Test.YtandgbpbabmdfaaNc
import Derived.Test.YtandgbpbabmdfaaRh
namespace Go.Proofs.Ytandgbpbabmdfaa
open Go.RowKit
attribute [local go_sem high] eq23 eq25 mn_two mx_two mn_three mx_three mx_four

set_option maxHeartbeats 4000000 in
set_option maxRecDepth 100000 in
theorem le76_y (a0 a1 b0 b1 : Int) (w : World) (m : decide (cmpP ⟨a0, a1⟩ ⟨b0, b1⟩ < 0) = true) :
    Calls Try.prog 76 #[.agg #[.int .i64 a0, .int .i64 a1], .agg #[.int .i64 b0, .int .i64 b1]] w fun e w' => e = .returned (.agg #[.int .i64 b0, .int .i64 b1]) ∧ Below w.heap.size w w' := by
  have HB := Below.refl w.heap.size w
  go_enter Try.func76, Try.ntmps76
  go_wp2_with (go_at_call 51; refine (cmp51 _ _ _ _ _).mono ?_; rintro e w1 ⟨rfl, hb⟩; (with_reducible (repeat replace hb := undr hb)); replace xf0 := cf hb (b := w.heap.size + 1 + 1) (o := 0) (by first | exact xz | exact World.block_lt_of_cell? _ _ xc0 | (simp; done) | (simp; omega) | omega) (by go_simp); replace xf1 := cf hb (b := w.heap.size + 1 + 1) (o := 1) (by first | exact xz | exact World.block_lt_of_cell? _ _ xc0 | (simp; done) | (simp; omega) | omega) (by go_simp); replace ac0 := ck hb (a := ⟨w.heap.size, 0, none⟩) (v := .int .i64 a0) (by go_simp); replace ac1 := ck hb (a := ⟨w.heap.size, 1, none⟩) (v := .int .i64 a1) (by go_simp); replace bc0 := ck hb (a := ⟨w.heap.size + 1, 0, none⟩) (v := .int .i64 b0) (by go_simp); replace bc1 := ck hb (a := ⟨w.heap.size + 1, 1, none⟩) (v := .int .i64 b1) (by go_simp); replace xc0 := ck hb (a := ⟨w.heap.size + 1 + 1, 0, none⟩) (v := .int .i64 0) (by go_simp); replace xc1 := ck hb (a := ⟨w.heap.size + 1 + 1, 1, none⟩) (v := .int .i64 0) (by go_simp); replace az : w.heap.size < w1.heap.size := World.block_lt_of_cell? w1 _ ac0; replace an : ¬ w.heap.size = w1.heap.size := Nat.ne_of_lt az; replace bz : w.heap.size + 1 < w1.heap.size := World.block_lt_of_cell? w1 _ bc0; replace bn : ¬ w.heap.size + 1 = w1.heap.size := Nat.ne_of_lt bz; replace bo : w.heap.size < w1.heap.size := Nat.lt_of_succ_lt bz; replace xz : w.heap.size + 1 + 1 < w1.heap.size := World.block_lt_of_cell? w1 _ xc0; replace xn : ¬ w.heap.size + 1 + 1 = w1.heap.size := Nat.ne_of_lt xz; replace xo : w.heap.size + 1 < w1.heap.size := Nat.lt_of_succ_lt xz; replace HB : Below w.heap.size w w1 := bt (by repeat (first | (with_reducible exact HB) | (with_reducible exact Below.refl _ _) | (with_reducible apply bd) | (with_reducible apply ba) | (with_reducible refine bs ?_ (by first | (simp; done) | (simp; omega)) _))) hb; clear hb)
  (try simp only [Exit.inBlock, Exit.then])
  refine bodyPost_ret (v := .agg #[.int .i64 b0, .int .i64 b1]) ?_ ?_ ?_
  · simp [results, Try.results76, go_sem, xc0, xc1]
  · rfl
  exact ⟨rfl, by repeat (first | (with_reducible exact HB) | (with_reducible exact Below.refl _ _) | (with_reducible apply bd) | (with_reducible apply ba) | (with_reducible refine bs ?_ (by first | (simp; done) | (simp; omega)) _))⟩

set_option maxHeartbeats 4000000 in
set_option maxRecDepth 100000 in
theorem le76_n (a0 a1 b0 b1 : Int) (w : World) (m : decide (cmpP ⟨a0, a1⟩ ⟨b0, b1⟩ < 0) = false) :
    Calls Try.prog 76 #[.agg #[.int .i64 a0, .int .i64 a1], .agg #[.int .i64 b0, .int .i64 b1]] w fun e w' => e = .returned (.agg #[.int .i64 a0, .int .i64 a1]) ∧ Below w.heap.size w w' := by
  have HB := Below.refl w.heap.size w
  go_enter Try.func76, Try.ntmps76
  go_wp2_with (go_at_call 51; refine (cmp51 _ _ _ _ _).mono ?_; rintro e w1 ⟨rfl, hb⟩; (with_reducible (repeat replace hb := undr hb)); replace xf0 := cf hb (b := w.heap.size + 1 + 1) (o := 0) (by first | exact xz | exact World.block_lt_of_cell? _ _ xc0 | (simp; done) | (simp; omega) | omega) (by go_simp); replace xf1 := cf hb (b := w.heap.size + 1 + 1) (o := 1) (by first | exact xz | exact World.block_lt_of_cell? _ _ xc0 | (simp; done) | (simp; omega) | omega) (by go_simp); replace ac0 := ck hb (a := ⟨w.heap.size, 0, none⟩) (v := .int .i64 a0) (by go_simp); replace ac1 := ck hb (a := ⟨w.heap.size, 1, none⟩) (v := .int .i64 a1) (by go_simp); replace bc0 := ck hb (a := ⟨w.heap.size + 1, 0, none⟩) (v := .int .i64 b0) (by go_simp); replace bc1 := ck hb (a := ⟨w.heap.size + 1, 1, none⟩) (v := .int .i64 b1) (by go_simp); replace xc0 := ck hb (a := ⟨w.heap.size + 1 + 1, 0, none⟩) (v := .int .i64 0) (by go_simp); replace xc1 := ck hb (a := ⟨w.heap.size + 1 + 1, 1, none⟩) (v := .int .i64 0) (by go_simp); replace az : w.heap.size < w1.heap.size := World.block_lt_of_cell? w1 _ ac0; replace an : ¬ w.heap.size = w1.heap.size := Nat.ne_of_lt az; replace bz : w.heap.size + 1 < w1.heap.size := World.block_lt_of_cell? w1 _ bc0; replace bn : ¬ w.heap.size + 1 = w1.heap.size := Nat.ne_of_lt bz; replace bo : w.heap.size < w1.heap.size := Nat.lt_of_succ_lt bz; replace xz : w.heap.size + 1 + 1 < w1.heap.size := World.block_lt_of_cell? w1 _ xc0; replace xn : ¬ w.heap.size + 1 + 1 = w1.heap.size := Nat.ne_of_lt xz; replace xo : w.heap.size + 1 < w1.heap.size := Nat.lt_of_succ_lt xz; replace HB : Below w.heap.size w w1 := bt (by repeat (first | (with_reducible exact HB) | (with_reducible exact Below.refl _ _) | (with_reducible apply bd) | (with_reducible apply ba) | (with_reducible refine bs ?_ (by first | (simp; done) | (simp; omega)) _))) hb; clear hb)
  (try simp only [Exit.inBlock, Exit.then])
  refine bodyPost_ret (v := .agg #[.int .i64 a0, .int .i64 a1]) ?_ ?_ ?_
  · simp [results, Try.results76, go_sem, xc0, xc1]
  · rfl
  exact ⟨rfl, by repeat (first | (with_reducible exact HB) | (with_reducible exact Below.refl _ _) | (with_reducible apply bd) | (with_reducible apply ba) | (with_reducible refine bs ?_ (by first | (simp; done) | (simp; omega)) _))⟩

set_option maxHeartbeats 4000000 in
set_option maxRecDepth 100000 in
theorem le77_y (a0 a1 b0 b1 : Int) (w : World) (m : decide (cmpP ⟨a0, a1⟩ ⟨b0, b1⟩ < 0) = true) :
    Calls Try.prog 77 #[.agg #[.int .i64 a0, .int .i64 a1], .agg #[.int .i64 b0, .int .i64 b1]] w fun e w' => e = .returned (.agg #[.int .i64 a0, .int .i64 a1]) ∧ Below w.heap.size w w' := by
  have HB := Below.refl w.heap.size w
  go_enter Try.func77, Try.ntmps77
  go_wp2_with (go_at_call 51; refine (cmp51 _ _ _ _ _).mono ?_; rintro e w1 ⟨rfl, hb⟩; (with_reducible (repeat replace hb := undr hb)); replace xf0 := cf hb (b := w.heap.size + 1 + 1) (o := 0) (by first | exact xz | exact World.block_lt_of_cell? _ _ xc0 | (simp; done) | (simp; omega) | omega) (by go_simp); replace xf1 := cf hb (b := w.heap.size + 1 + 1) (o := 1) (by first | exact xz | exact World.block_lt_of_cell? _ _ xc0 | (simp; done) | (simp; omega) | omega) (by go_simp); replace ac0 := ck hb (a := ⟨w.heap.size, 0, none⟩) (v := .int .i64 a0) (by go_simp); replace ac1 := ck hb (a := ⟨w.heap.size, 1, none⟩) (v := .int .i64 a1) (by go_simp); replace bc0 := ck hb (a := ⟨w.heap.size + 1, 0, none⟩) (v := .int .i64 b0) (by go_simp); replace bc1 := ck hb (a := ⟨w.heap.size + 1, 1, none⟩) (v := .int .i64 b1) (by go_simp); replace xc0 := ck hb (a := ⟨w.heap.size + 1 + 1, 0, none⟩) (v := .int .i64 0) (by go_simp); replace xc1 := ck hb (a := ⟨w.heap.size + 1 + 1, 1, none⟩) (v := .int .i64 0) (by go_simp); replace az : w.heap.size < w1.heap.size := World.block_lt_of_cell? w1 _ ac0; replace an : ¬ w.heap.size = w1.heap.size := Nat.ne_of_lt az; replace bz : w.heap.size + 1 < w1.heap.size := World.block_lt_of_cell? w1 _ bc0; replace bn : ¬ w.heap.size + 1 = w1.heap.size := Nat.ne_of_lt bz; replace bo : w.heap.size < w1.heap.size := Nat.lt_of_succ_lt bz; replace xz : w.heap.size + 1 + 1 < w1.heap.size := World.block_lt_of_cell? w1 _ xc0; replace xn : ¬ w.heap.size + 1 + 1 = w1.heap.size := Nat.ne_of_lt xz; replace xo : w.heap.size + 1 < w1.heap.size := Nat.lt_of_succ_lt xz; replace HB : Below w.heap.size w w1 := bt (by repeat (first | (with_reducible exact HB) | (with_reducible exact Below.refl _ _) | (with_reducible apply bd) | (with_reducible apply ba) | (with_reducible refine bs ?_ (by first | (simp; done) | (simp; omega)) _))) hb; clear hb)
  (try simp only [Exit.inBlock, Exit.then])
  refine bodyPost_ret (v := .agg #[.int .i64 a0, .int .i64 a1]) ?_ ?_ ?_
  · simp [results, Try.results77, go_sem, xc0, xc1]
  · rfl
  exact ⟨rfl, by repeat (first | (with_reducible exact HB) | (with_reducible exact Below.refl _ _) | (with_reducible apply bd) | (with_reducible apply ba) | (with_reducible refine bs ?_ (by first | (simp; done) | (simp; omega)) _))⟩

set_option maxHeartbeats 4000000 in
set_option maxRecDepth 100000 in
theorem le77_n (a0 a1 b0 b1 : Int) (w : World) (m : decide (cmpP ⟨a0, a1⟩ ⟨b0, b1⟩ < 0) = false) :
    Calls Try.prog 77 #[.agg #[.int .i64 a0, .int .i64 a1], .agg #[.int .i64 b0, .int .i64 b1]] w fun e w' => e = .returned (.agg #[.int .i64 b0, .int .i64 b1]) ∧ Below w.heap.size w w' := by
  have HB := Below.refl w.heap.size w
  go_enter Try.func77, Try.ntmps77
  go_wp2_with (go_at_call 51; refine (cmp51 _ _ _ _ _).mono ?_; rintro e w1 ⟨rfl, hb⟩; (with_reducible (repeat replace hb := undr hb)); replace xf0 := cf hb (b := w.heap.size + 1 + 1) (o := 0) (by first | exact xz | exact World.block_lt_of_cell? _ _ xc0 | (simp; done) | (simp; omega) | omega) (by go_simp); replace xf1 := cf hb (b := w.heap.size + 1 + 1) (o := 1) (by first | exact xz | exact World.block_lt_of_cell? _ _ xc0 | (simp; done) | (simp; omega) | omega) (by go_simp); replace ac0 := ck hb (a := ⟨w.heap.size, 0, none⟩) (v := .int .i64 a0) (by go_simp); replace ac1 := ck hb (a := ⟨w.heap.size, 1, none⟩) (v := .int .i64 a1) (by go_simp); replace bc0 := ck hb (a := ⟨w.heap.size + 1, 0, none⟩) (v := .int .i64 b0) (by go_simp); replace bc1 := ck hb (a := ⟨w.heap.size + 1, 1, none⟩) (v := .int .i64 b1) (by go_simp); replace xc0 := ck hb (a := ⟨w.heap.size + 1 + 1, 0, none⟩) (v := .int .i64 0) (by go_simp); replace xc1 := ck hb (a := ⟨w.heap.size + 1 + 1, 1, none⟩) (v := .int .i64 0) (by go_simp); replace az : w.heap.size < w1.heap.size := World.block_lt_of_cell? w1 _ ac0; replace an : ¬ w.heap.size = w1.heap.size := Nat.ne_of_lt az; replace bz : w.heap.size + 1 < w1.heap.size := World.block_lt_of_cell? w1 _ bc0; replace bn : ¬ w.heap.size + 1 = w1.heap.size := Nat.ne_of_lt bz; replace bo : w.heap.size < w1.heap.size := Nat.lt_of_succ_lt bz; replace xz : w.heap.size + 1 + 1 < w1.heap.size := World.block_lt_of_cell? w1 _ xc0; replace xn : ¬ w.heap.size + 1 + 1 = w1.heap.size := Nat.ne_of_lt xz; replace xo : w.heap.size + 1 < w1.heap.size := Nat.lt_of_succ_lt xz; replace HB : Below w.heap.size w w1 := bt (by repeat (first | (with_reducible exact HB) | (with_reducible exact Below.refl _ _) | (with_reducible apply bd) | (with_reducible apply ba) | (with_reducible refine bs ?_ (by first | (simp; done) | (simp; omega)) _))) hb; clear hb)
  (try simp only [Exit.inBlock, Exit.then])
  refine bodyPost_ret (v := .agg #[.int .i64 b0, .int .i64 b1]) ?_ ?_ ?_
  · simp [results, Try.results77, go_sem, xc0, xc1]
  · rfl
  exact ⟨rfl, by repeat (first | (with_reducible exact HB) | (with_reducible exact Below.refl _ _) | (with_reducible apply bd) | (with_reducible apply ba) | (with_reducible refine bs ?_ (by first | (simp; done) | (simp; omega)) _))⟩

theorem pick_gr (p q : Pt) : (if cmpP p q < 0 then q else p) = hiP p q := by
  have h1 := cmpP_zero p q
  unfold hiP
  rcases cmpP_cases p q with h | h | h
  · rw [h1.1 h]; split <;> split <;> rfl
  · rw [if_neg (by omega), if_pos (by omega)]
  · rw [if_pos (by omega), if_neg (by omega)]
/-- The greater, the lesser. -/
theorem gr76 (a0 a1 b0 b1 : Int) (w : World) : Calls Try.prog 76 #[.agg #[.int .i64 a0, .int .i64 a1], .agg #[.int .i64 b0, .int .i64 b1]] w fun e w' => e = .returned (.agg #[.int .i64 (hiP ⟨a0, a1⟩ ⟨b0, b1⟩).x, .int .i64 (hiP ⟨a0, a1⟩ ⟨b0, b1⟩).y]) ∧ Below w.heap.size w w' := by
  rw [← pick_gr]
  cases m : decide (cmpP ⟨a0, a1⟩ ⟨b0, b1⟩ < 0)
  · rw [if_neg (of_decide_eq_false m)]; exact le76_n a0 a1 b0 b1 w m
  · rw [if_pos (of_decide_eq_true m)]; exact le76_y a0 a1 b0 b1 w m
theorem le77 (a0 a1 b0 b1 : Int) (w : World) : Calls Try.prog 77 #[.agg #[.int .i64 a0, .int .i64 a1], .agg #[.int .i64 b0, .int .i64 b1]] w fun e w' => e = .returned (.agg #[.int .i64 (loP ⟨a0, a1⟩ ⟨b0, b1⟩).x, .int .i64 (loP ⟨a0, a1⟩ ⟨b0, b1⟩).y]) ∧ Below w.heap.size w w' := by
  rw [← pick_lo]
  cases m : decide (cmpP ⟨a0, a1⟩ ⟨b0, b1⟩ < 0)
  · rw [if_neg (of_decide_eq_false m)]; exact le77_n a0 a1 b0 b1 w m
  · rw [if_pos (of_decide_eq_true m)]; exact le77_y a0 a1 b0 b1 w m

set_option maxHeartbeats 4000000 in
set_option maxRecDepth 100000 in
theorem touch78_0 (p0 p1 a0 a1 b0 b1 : Int) (w : World) (m1 : onS ⟨p0, p1⟩ ⟨a0, a1⟩ ⟨b0, b1⟩ = false) :
    Calls Try.prog 78 #[.agg #[.int .i64 p0, .int .i64 p1], .agg #[.int .i64 a0, .int .i64 a1], .agg #[.int .i64 b0, .int .i64 b1]] w fun e w' => e = .returned (.int .i64 0) ∧ Below w.heap.size w w' := by
  have HB := Below.refl w.heap.size w
  go_enter Try.func78, Try.ntmps78
  go_wp2_with (go_at_call 40; refine (on40 _ _ _ _ _ _ _).mono ?_; rw [m1]; rintro e w1 ⟨rfl, hb⟩; (with_reducible (repeat replace hb := undr hb)); replace pc0 := ck hb (a := ⟨w.heap.size, 0, none⟩) (v := .int .i64 p0) (by go_simp); replace pc1 := ck hb (a := ⟨w.heap.size, 1, none⟩) (v := .int .i64 p1) (by go_simp); replace ac0 := ck hb (a := ⟨w.heap.size + 1, 0, none⟩) (v := .int .i64 a0) (by go_simp); replace ac1 := ck hb (a := ⟨w.heap.size + 1, 1, none⟩) (v := .int .i64 a1) (by go_simp); replace bc0 := ck hb (a := ⟨w.heap.size + 1 + 1, 0, none⟩) (v := .int .i64 b0) (by go_simp); replace bc1 := ck hb (a := ⟨w.heap.size + 1 + 1, 1, none⟩) (v := .int .i64 b1) (by go_simp); replace HB : Below w.heap.size w w1 := bt (by repeat (first | (with_reducible exact HB) | (with_reducible exact Below.refl _ _) | (with_reducible apply bd) | (with_reducible apply ba) | (with_reducible refine bs ?_ (by first | (simp; done) | (simp; omega)) _))) hb; clear hb)
  go_ret
  exact ⟨rfl, by repeat (first | (with_reducible exact HB) | (with_reducible exact Below.refl _ _) | (with_reducible apply bd) | (with_reducible apply ba) | (with_reducible refine bs ?_ (by first | (simp; done) | (simp; omega)) _))⟩

set_option maxHeartbeats 4000000 in
set_option maxRecDepth 100000 in
theorem touch78_1 (p0 p1 a0 a1 b0 b1 : Int) (w : World) (m1 : onS ⟨p0, p1⟩ ⟨a0, a1⟩ ⟨b0, b1⟩ = true) (m2 : (p0 == a0 && p1 == a1) = true) :
    Calls Try.prog 78 #[.agg #[.int .i64 p0, .int .i64 p1], .agg #[.int .i64 a0, .int .i64 a1], .agg #[.int .i64 b0, .int .i64 b1]] w fun e w' => e = .returned (.int .i64 0) ∧ Below w.heap.size w w' := by
  have HB := Below.refl w.heap.size w
  go_enter Try.func78, Try.ntmps78
  go_wp2_with (go_at_call 40; refine (on40 _ _ _ _ _ _ _).mono ?_; rw [m1]; rintro e w1 ⟨rfl, hb⟩; (with_reducible (repeat replace hb := undr hb)); replace pc0 := ck hb (a := ⟨w.heap.size, 0, none⟩) (v := .int .i64 p0) (by go_simp); replace pc1 := ck hb (a := ⟨w.heap.size, 1, none⟩) (v := .int .i64 p1) (by go_simp); replace ac0 := ck hb (a := ⟨w.heap.size + 1, 0, none⟩) (v := .int .i64 a0) (by go_simp); replace ac1 := ck hb (a := ⟨w.heap.size + 1, 1, none⟩) (v := .int .i64 a1) (by go_simp); replace bc0 := ck hb (a := ⟨w.heap.size + 1 + 1, 0, none⟩) (v := .int .i64 b0) (by go_simp); replace bc1 := ck hb (a := ⟨w.heap.size + 1 + 1, 1, none⟩) (v := .int .i64 b1) (by go_simp); replace HB : Below w.heap.size w w1 := bt (by repeat (first | (with_reducible exact HB) | (with_reducible exact Below.refl _ _) | (with_reducible apply bd) | (with_reducible apply ba) | (with_reducible refine bs ?_ (by first | (simp; done) | (simp; omega)) _))) hb; clear hb)
  go_ret
  exact ⟨rfl, by repeat (first | (with_reducible exact HB) | (with_reducible exact Below.refl _ _) | (with_reducible apply bd) | (with_reducible apply ba) | (with_reducible refine bs ?_ (by first | (simp; done) | (simp; omega)) _))⟩

set_option maxHeartbeats 4000000 in
set_option maxRecDepth 100000 in
theorem touch78_2 (p0 p1 a0 a1 b0 b1 : Int) (w : World) (m1 : onS ⟨p0, p1⟩ ⟨a0, a1⟩ ⟨b0, b1⟩ = true) (m2 : (p0 == a0 && p1 == a1) = false) (m3 : (p0 == b0 && p1 == b1) = true) :
    Calls Try.prog 78 #[.agg #[.int .i64 p0, .int .i64 p1], .agg #[.int .i64 a0, .int .i64 a1], .agg #[.int .i64 b0, .int .i64 b1]] w fun e w' => e = .returned (.int .i64 0) ∧ Below w.heap.size w w' := by
  have HB := Below.refl w.heap.size w
  go_enter Try.func78, Try.ntmps78
  go_wp2_with (go_at_call 40; refine (on40 _ _ _ _ _ _ _).mono ?_; rw [m1]; rintro e w1 ⟨rfl, hb⟩; (with_reducible (repeat replace hb := undr hb)); replace pc0 := ck hb (a := ⟨w.heap.size, 0, none⟩) (v := .int .i64 p0) (by go_simp); replace pc1 := ck hb (a := ⟨w.heap.size, 1, none⟩) (v := .int .i64 p1) (by go_simp); replace ac0 := ck hb (a := ⟨w.heap.size + 1, 0, none⟩) (v := .int .i64 a0) (by go_simp); replace ac1 := ck hb (a := ⟨w.heap.size + 1, 1, none⟩) (v := .int .i64 a1) (by go_simp); replace bc0 := ck hb (a := ⟨w.heap.size + 1 + 1, 0, none⟩) (v := .int .i64 b0) (by go_simp); replace bc1 := ck hb (a := ⟨w.heap.size + 1 + 1, 1, none⟩) (v := .int .i64 b1) (by go_simp); replace HB : Below w.heap.size w w1 := bt (by repeat (first | (with_reducible exact HB) | (with_reducible exact Below.refl _ _) | (with_reducible apply bd) | (with_reducible apply ba) | (with_reducible refine bs ?_ (by first | (simp; done) | (simp; omega)) _))) hb; clear hb)
  go_ret
  exact ⟨rfl, by repeat (first | (with_reducible exact HB) | (with_reducible exact Below.refl _ _) | (with_reducible apply bd) | (with_reducible apply ba) | (with_reducible refine bs ?_ (by first | (simp; done) | (simp; omega)) _))⟩

set_option maxHeartbeats 4000000 in
set_option maxRecDepth 100000 in
theorem touch78_3 (p0 p1 a0 a1 b0 b1 : Int) (w : World) (m1 : onS ⟨p0, p1⟩ ⟨a0, a1⟩ ⟨b0, b1⟩ = true) (m2 : (p0 == a0 && p1 == a1) = false) (m3 : (p0 == b0 && p1 == b1) = false) :
    Calls Try.prog 78 #[.agg #[.int .i64 p0, .int .i64 p1], .agg #[.int .i64 a0, .int .i64 a1], .agg #[.int .i64 b0, .int .i64 b1]] w fun e w' => e = .returned (.int .i64 2) ∧ Below w.heap.size w w' := by
  have HB := Below.refl w.heap.size w
  go_enter Try.func78, Try.ntmps78
  go_wp2_with (go_at_call 40; refine (on40 _ _ _ _ _ _ _).mono ?_; rw [m1]; rintro e w1 ⟨rfl, hb⟩; (with_reducible (repeat replace hb := undr hb)); replace pc0 := ck hb (a := ⟨w.heap.size, 0, none⟩) (v := .int .i64 p0) (by go_simp); replace pc1 := ck hb (a := ⟨w.heap.size, 1, none⟩) (v := .int .i64 p1) (by go_simp); replace ac0 := ck hb (a := ⟨w.heap.size + 1, 0, none⟩) (v := .int .i64 a0) (by go_simp); replace ac1 := ck hb (a := ⟨w.heap.size + 1, 1, none⟩) (v := .int .i64 a1) (by go_simp); replace bc0 := ck hb (a := ⟨w.heap.size + 1 + 1, 0, none⟩) (v := .int .i64 b0) (by go_simp); replace bc1 := ck hb (a := ⟨w.heap.size + 1 + 1, 1, none⟩) (v := .int .i64 b1) (by go_simp); replace HB : Below w.heap.size w w1 := bt (by repeat (first | (with_reducible exact HB) | (with_reducible exact Below.refl _ _) | (with_reducible apply bd) | (with_reducible apply ba) | (with_reducible refine bs ?_ (by first | (simp; done) | (simp; omega)) _))) hb; clear hb)
  go_ret
  exact ⟨rfl, by repeat (first | (with_reducible exact HB) | (with_reducible exact Below.refl _ _) | (with_reducible apply bd) | (with_reducible apply ba) | (with_reducible refine bs ?_ (by first | (simp; done) | (simp; omega)) _))⟩

theorem touch78 (p0 p1 a0 a1 b0 b1 : Int) (w : World) :
    Calls Try.prog 78 #[.agg #[.int .i64 p0, .int .i64 p1], .agg #[.int .i64 a0, .int .i64 a1], .agg #[.int .i64 b0, .int .i64 b1]] w fun e w' => e = .returned (.int .i64 (touch ⟨p0, p1⟩ ⟨a0, a1⟩ ⟨b0, b1⟩)) ∧ Below w.heap.size w w' := by
  unfold touch
  cases m1 : onS ⟨p0, p1⟩ ⟨a0, a1⟩ ⟨b0, b1⟩
  · rw [if_neg (by simp)]; exact touch78_0 p0 p1 a0 a1 b0 b1 w m1
  cases m2 : (p0 == a0 && p1 == a1)
  case true => rw [if_neg (fun k => k.2.1 (beq_pt m2))]; exact touch78_1 p0 p1 a0 a1 b0 b1 w m1 m2
  cases m3 : (p0 == b0 && p1 == b1)
  · rw [if_pos ⟨rfl, nbeq_pt m2, nbeq_pt m3⟩]; exact touch78_3 p0 p1 a0 a1 b0 b1 w m1 m2 m3
  · rw [if_neg (fun k => k.2.2 (beq_pt m3))]; exact touch78_2 p0 p1 a0 a1 b0 b1 w m1 m2 m3

/-- What each operation of the region leaves. -/
def region57_3V (a0 a1 b0 b1 c0 c1 d0 d1 o1 o2 o3 o4 : Int) : Nat → Value
  | 0 => .agg #[.int .i64 a0, .int .i64 a1]
  | 1 => .agg #[.int .i64 b0, .int .i64 b1]
  | 2 => .agg #[.int .i64 c0, .int .i64 c1]
  | 3 => .int .i64 o1
  | 4 => .agg #[.int .i64 a0, .int .i64 a1]
  | 5 => .agg #[.int .i64 b0, .int .i64 b1]
  | 6 => .agg #[.int .i64 d0, .int .i64 d1]
  | 7 => .int .i64 o2
  | 8 => .agg #[.int .i64 c0, .int .i64 c1]
  | 9 => .agg #[.int .i64 d0, .int .i64 d1]
  | 10 => .agg #[.int .i64 a0, .int .i64 a1]
  | 11 => .int .i64 o3
  | 12 => .agg #[.int .i64 c0, .int .i64 c1]
  | 13 => .agg #[.int .i64 d0, .int .i64 d1]
  | 14 => .agg #[.int .i64 b0, .int .i64 b1]
  | 15 => .int .i64 o4
  | 16 => .int .i64 o1
  | 17 => .int .i64 o2
  | 18 => .int .i64 o3
  | 19 => .int .i64 o4
  | _ => undef

set_option maxHeartbeats 4000000 in
set_option maxRecDepth 100000 in
theorem region57_3 (a0 a1 b0 b1 c0 c1 d0 d1 o1 o2 o3 o4 : Int) (ka kb kc kd : Nat) (W : World) (h1 : ori ⟨a0, a1⟩ ⟨b0, b1⟩ ⟨c0, c1⟩ = o1) (h2 : ori ⟨a0, a1⟩ ⟨b0, b1⟩ ⟨d0, d1⟩ = o2) (h3 : ori ⟨c0, c1⟩ ⟨d0, d1⟩ ⟨a0, a1⟩ = o3) (h4 : ori ⟨c0, c1⟩ ⟨d0, d1⟩ ⟨b0, b1⟩ = o4) {id : Nat} {ops : Array Oper} {Q : Exit → Act → World → Prop} {a : Act} {w : World}
    (ho : ops = (regOps Try.f57 3)) (hsz : a.tmps.size = 110) (t4 : a.tmps[4]? = some (.pointer (some ⟨ka, 0, none⟩))) (t5 : a.tmps[5]? = some (.pointer (some ⟨kb, 0, none⟩))) (t6 : a.tmps[6]? = some (.pointer (some ⟨kc, 0, none⟩))) (t7 : a.tmps[7]? = some (.pointer (some ⟨kd, 0, none⟩)))
    (h0 : w.drew.cell? ⟨ka, 0, none⟩ = some (.int .i64 a0) ∧ w.drew.cell? ⟨ka, 1, none⟩ = some (.int .i64 a1) ∧ w.drew.cell? ⟨kb, 0, none⟩ = some (.int .i64 b0) ∧ w.drew.cell? ⟨kb, 1, none⟩ = some (.int .i64 b1) ∧ w.drew.cell? ⟨kc, 0, none⟩ = some (.int .i64 c0) ∧ w.drew.cell? ⟨kc, 1, none⟩ = some (.int .i64 c1) ∧ w.drew.cell? ⟨kd, 0, none⟩ = some (.int .i64 d0) ∧ w.drew.cell? ⟨kd, 1, none⟩ = some (.int .i64 d1) ∧ Below W.heap.size W w.drew)
    (he : ∀ w', w'.cell? ⟨ka, 0, none⟩ = some (.int .i64 a0) ∧ w'.cell? ⟨ka, 1, none⟩ = some (.int .i64 a1) ∧ w'.cell? ⟨kb, 0, none⟩ = some (.int .i64 b0) ∧ w'.cell? ⟨kb, 1, none⟩ = some (.int .i64 b1) ∧ w'.cell? ⟨kc, 0, none⟩ = some (.int .i64 c0) ∧ w'.cell? ⟨kc, 1, none⟩ = some (.int .i64 c1) ∧ w'.cell? ⟨kd, 0, none⟩ = some (.int .i64 d0) ∧ w'.cell? ⟨kd, 1, none⟩ = some (.int .i64 d1) ∧ Below W.heap.size W w' → Q .normal ⟨((((((((((((((((((((a.tmps.setIfInBounds 43 (.agg #[.int .i64 a0, .int .i64 a1])).setIfInBounds 44 (.agg #[.int .i64 b0, .int .i64 b1])).setIfInBounds 45 (.agg #[.int .i64 c0, .int .i64 c1])).setIfInBounds 46 (.int .i64 o1)).setIfInBounds 47 (.agg #[.int .i64 a0, .int .i64 a1])).setIfInBounds 48 (.agg #[.int .i64 b0, .int .i64 b1])).setIfInBounds 49 (.agg #[.int .i64 d0, .int .i64 d1])).setIfInBounds 50 (.int .i64 o2)).setIfInBounds 51 (.agg #[.int .i64 c0, .int .i64 c1])).setIfInBounds 52 (.agg #[.int .i64 d0, .int .i64 d1])).setIfInBounds 53 (.agg #[.int .i64 a0, .int .i64 a1])).setIfInBounds 54 (.int .i64 o3)).setIfInBounds 55 (.agg #[.int .i64 c0, .int .i64 c1])).setIfInBounds 56 (.agg #[.int .i64 d0, .int .i64 d1])).setIfInBounds 57 (.agg #[.int .i64 b0, .int .i64 b1])).setIfInBounds 58 (.int .i64 o4)).setIfInBounds 9 (.int .i64 o1)).setIfInBounds 10 (.int .i64 o2)).setIfInBounds 11 (.int .i64 o3)).setIfInBounds 12 (.int .i64 o4)), a.defers⟩ w') :
    (Code.region id ops true).wp Try.prog Q a w := by
  have ht : tidy (regOps Try.f57 3) a.tmps.size = true := by rw [hsz]; kernel_rfl
  refine region_tab (G := Unit) (fun _ => (region57_3V a0 a1 b0 b1 c0 c1 d0 d1 o1 o2 o3 o4  )) (fun _ _ w' => w'.cell? ⟨ka, 0, none⟩ = some (.int .i64 a0) ∧ w'.cell? ⟨ka, 1, none⟩ = some (.int .i64 a1) ∧ w'.cell? ⟨kb, 0, none⟩ = some (.int .i64 b0) ∧ w'.cell? ⟨kb, 1, none⟩ = some (.int .i64 b1) ∧ w'.cell? ⟨kc, 0, none⟩ = some (.int .i64 c0) ∧ w'.cell? ⟨kc, 1, none⟩ = some (.int .i64 c1) ∧ w'.cell? ⟨kd, 0, none⟩ = some (.int .i64 d0) ∧ w'.cell? ⟨kd, 1, none⟩ = some (.int .i64 d1) ∧ Below W.heap.size W w') () (by kernel_rfl) ho ht h0 ?_ ?_
  · intro i o hoi g L b w' hun hpre hT hS
    clear he h0 ho hsz ht
    have hi : i < (regOps Try.f57 3).size := (Array.getElem?_eq_some_iff.1 hoi).1
    rw [show (regOps Try.f57 3).size = 20 by kernel_rfl] at hi
    obtain ⟨ac0, ac1, bc0, bc1, cc0, cc1, ddc0, ddc1, HB⟩ := hS
    have hcases : i = 0 ∨ i = 1 ∨ i = 2 ∨ i = 3 ∨ i = 4 ∨ i = 5 ∨ i = 6 ∨ i = 7 ∨ i = 8 ∨ i = 9 ∨ i = 10 ∨ i = 11 ∨ i = 12 ∨ i = 13 ∨ i = 14 ∨ i = 15 ∨ i = 16 ∨ i = 17 ∨ i = 18 ∨ i = 19 := by omega
    rcases hcases with rfl | rfl | rfl | rfl | rfl | rfl | rfl | rfl | rfl | rfl | rfl | rfl | rfl | rfl | rfl | rfl | rfl | rfl | rfl | rfl
    · have hlit : (regOps Try.f57 3)[0]? = some ({ dst := some 43, op := Op.load 23 (Operand.tmp 4), type := 23, pos := "geom.go:254", after := #[], guard := none }) := by kernel_rfl
      obtain rfl := Option.some.inj (hlit.symm.trans hoi)
      have r4 : b.tmps.getD 4 undef = (.pointer (some ⟨ka, 0, none⟩)) := rd ((hT.old 4 (by kernel_rfl)).trans t4)
      refine op_go hoi (want_all rfl) fun K hK => ?_
      clear hT hpre hun hlit hoi
      go_simp
      exact hK _ _ ⟨(), fun _ _ => rfl, rfl, ac0, ac1, bc0, bc1, cc0, cc1, ddc0, ddc1, HB⟩
    · have hlit : (regOps Try.f57 3)[1]? = some ({ dst := some 44, op := Op.load 23 (Operand.tmp 5), type := 23, pos := "geom.go:254", after := #[], guard := none }) := by kernel_rfl
      obtain rfl := Option.some.inj (hlit.symm.trans hoi)
      have r5 : b.tmps.getD 5 undef = (.pointer (some ⟨kb, 0, none⟩)) := rd ((hT.old 5 (by kernel_rfl)).trans t5)
      refine op_go hoi (want_all rfl) fun K hK => ?_
      clear hT hpre hun hlit hoi
      go_simp
      exact hK _ _ ⟨(), fun _ _ => rfl, rfl, ac0, ac1, bc0, bc1, cc0, cc1, ddc0, ddc1, HB⟩
    · have hlit : (regOps Try.f57 3)[2]? = some ({ dst := some 45, op := Op.load 23 (Operand.tmp 6), type := 23, pos := "geom.go:254", after := #[], guard := none }) := by kernel_rfl
      obtain rfl := Option.some.inj (hlit.symm.trans hoi)
      have r6 : b.tmps.getD 6 undef = (.pointer (some ⟨kc, 0, none⟩)) := rd ((hT.old 6 (by kernel_rfl)).trans t6)
      refine op_go hoi (want_all rfl) fun K hK => ?_
      clear hT hpre hun hlit hoi
      go_simp
      exact hK _ _ ⟨(), fun _ _ => rfl, rfl, ac0, ac1, bc0, bc1, cc0, cc1, ddc0, ddc1, HB⟩
    · have hlit : (regOps Try.f57 3)[3]? = some ({ dst := some 46, op := Op.call { callee := Callee.value (Operand.func 37), args := #[Operand.tmp 43, Operand.tmp 44, Operand.tmp 45], argTypes := #[23, 23, 23] }, type := 3, pos := "geom.go:254", after := #[{ on := 0, ground := Ground.data }, { on := 1, ground := Ground.data }, { on := 2, ground := Ground.data }], guard := none }) := by kernel_rfl
      obtain rfl := Option.some.inj (hlit.symm.trans hoi)
      have r43 : b.tmps.getD 43 undef = (.agg #[.int .i64 a0, .int .i64 a1]) := rd (hT.at 0 (by kernel_rfl) (pre_of hpre 0 (by kernel_rfl)))
      have r44 : b.tmps.getD 44 undef = (.agg #[.int .i64 b0, .int .i64 b1]) := rd (hT.at 1 (by kernel_rfl) (pre_of hpre 1 (by kernel_rfl)))
      have r45 : b.tmps.getD 45 undef = (.agg #[.int .i64 c0, .int .i64 c1]) := rd (hT.at 2 (by kernel_rfl) (pre_of hpre 2 (by kernel_rfl)))
      refine op_go hoi (want_all rfl) fun K hK => ?_
      clear hT hpre hun hlit hoi
      go_simp
      go_at_call 37
      refine (ori37 _ _ _ _ _ _ _).mono ?_; rw [h1]; rintro e w2 ⟨rfl, hb⟩; replace ac0 := ck hb (a := ⟨ka, 0, none⟩) (v := .int .i64 a0) (by go_simp); replace ac1 := ck hb (a := ⟨ka, 1, none⟩) (v := .int .i64 a1) (by go_simp); replace bc0 := ck hb (a := ⟨kb, 0, none⟩) (v := .int .i64 b0) (by go_simp); replace bc1 := ck hb (a := ⟨kb, 1, none⟩) (v := .int .i64 b1) (by go_simp); replace cc0 := ck hb (a := ⟨kc, 0, none⟩) (v := .int .i64 c0) (by go_simp); replace cc1 := ck hb (a := ⟨kc, 1, none⟩) (v := .int .i64 c1) (by go_simp); replace ddc0 := ck hb (a := ⟨kd, 0, none⟩) (v := .int .i64 d0) (by go_simp); replace ddc1 := ck hb (a := ⟨kd, 1, none⟩) (v := .int .i64 d1) (by go_simp); replace HB : Below W.heap.size W w2 := bt HB hb; clear hb
      exact hK _ _ ⟨(), fun _ _ => rfl, rfl, ac0, ac1, bc0, bc1, cc0, cc1, ddc0, ddc1, HB⟩
    · have hlit : (regOps Try.f57 3)[4]? = some ({ dst := some 47, op := Op.load 23 (Operand.tmp 4), type := 23, pos := "geom.go:254", after := #[], guard := none }) := by kernel_rfl
      obtain rfl := Option.some.inj (hlit.symm.trans hoi)
      have r4 : b.tmps.getD 4 undef = (.pointer (some ⟨ka, 0, none⟩)) := rd ((hT.old 4 (by kernel_rfl)).trans t4)
      refine op_go hoi (want_all rfl) fun K hK => ?_
      clear hT hpre hun hlit hoi
      go_simp
      exact hK _ _ ⟨(), fun _ _ => rfl, rfl, ac0, ac1, bc0, bc1, cc0, cc1, ddc0, ddc1, HB⟩
    · have hlit : (regOps Try.f57 3)[5]? = some ({ dst := some 48, op := Op.load 23 (Operand.tmp 5), type := 23, pos := "geom.go:254", after := #[], guard := none }) := by kernel_rfl
      obtain rfl := Option.some.inj (hlit.symm.trans hoi)
      have r5 : b.tmps.getD 5 undef = (.pointer (some ⟨kb, 0, none⟩)) := rd ((hT.old 5 (by kernel_rfl)).trans t5)
      refine op_go hoi (want_all rfl) fun K hK => ?_
      clear hT hpre hun hlit hoi
      go_simp
      exact hK _ _ ⟨(), fun _ _ => rfl, rfl, ac0, ac1, bc0, bc1, cc0, cc1, ddc0, ddc1, HB⟩
    · have hlit : (regOps Try.f57 3)[6]? = some ({ dst := some 49, op := Op.load 23 (Operand.tmp 7), type := 23, pos := "geom.go:254", after := #[], guard := none }) := by kernel_rfl
      obtain rfl := Option.some.inj (hlit.symm.trans hoi)
      have r7 : b.tmps.getD 7 undef = (.pointer (some ⟨kd, 0, none⟩)) := rd ((hT.old 7 (by kernel_rfl)).trans t7)
      refine op_go hoi (want_all rfl) fun K hK => ?_
      clear hT hpre hun hlit hoi
      go_simp
      exact hK _ _ ⟨(), fun _ _ => rfl, rfl, ac0, ac1, bc0, bc1, cc0, cc1, ddc0, ddc1, HB⟩
    · have hlit : (regOps Try.f57 3)[7]? = some ({ dst := some 50, op := Op.call { callee := Callee.value (Operand.func 37), args := #[Operand.tmp 47, Operand.tmp 48, Operand.tmp 49], argTypes := #[23, 23, 23] }, type := 3, pos := "geom.go:254", after := #[{ on := 4, ground := Ground.data }, { on := 5, ground := Ground.data }, { on := 6, ground := Ground.data }, { on := 3, ground := Ground.chain }], guard := none }) := by kernel_rfl
      obtain rfl := Option.some.inj (hlit.symm.trans hoi)
      have r47 : b.tmps.getD 47 undef = (.agg #[.int .i64 a0, .int .i64 a1]) := rd (hT.at 4 (by kernel_rfl) (pre_of hpre 4 (by kernel_rfl)))
      have r48 : b.tmps.getD 48 undef = (.agg #[.int .i64 b0, .int .i64 b1]) := rd (hT.at 5 (by kernel_rfl) (pre_of hpre 5 (by kernel_rfl)))
      have r49 : b.tmps.getD 49 undef = (.agg #[.int .i64 d0, .int .i64 d1]) := rd (hT.at 6 (by kernel_rfl) (pre_of hpre 6 (by kernel_rfl)))
      refine op_go hoi (want_all rfl) fun K hK => ?_
      clear hT hpre hun hlit hoi
      go_simp
      go_at_call 37
      refine (ori37 _ _ _ _ _ _ _).mono ?_; rw [h2]; rintro e w2 ⟨rfl, hb⟩; replace ac0 := ck hb (a := ⟨ka, 0, none⟩) (v := .int .i64 a0) (by go_simp); replace ac1 := ck hb (a := ⟨ka, 1, none⟩) (v := .int .i64 a1) (by go_simp); replace bc0 := ck hb (a := ⟨kb, 0, none⟩) (v := .int .i64 b0) (by go_simp); replace bc1 := ck hb (a := ⟨kb, 1, none⟩) (v := .int .i64 b1) (by go_simp); replace cc0 := ck hb (a := ⟨kc, 0, none⟩) (v := .int .i64 c0) (by go_simp); replace cc1 := ck hb (a := ⟨kc, 1, none⟩) (v := .int .i64 c1) (by go_simp); replace ddc0 := ck hb (a := ⟨kd, 0, none⟩) (v := .int .i64 d0) (by go_simp); replace ddc1 := ck hb (a := ⟨kd, 1, none⟩) (v := .int .i64 d1) (by go_simp); replace HB : Below W.heap.size W w2 := bt HB hb; clear hb
      exact hK _ _ ⟨(), fun _ _ => rfl, rfl, ac0, ac1, bc0, bc1, cc0, cc1, ddc0, ddc1, HB⟩
    · have hlit : (regOps Try.f57 3)[8]? = some ({ dst := some 51, op := Op.load 23 (Operand.tmp 6), type := 23, pos := "geom.go:254", after := #[], guard := none }) := by kernel_rfl
      obtain rfl := Option.some.inj (hlit.symm.trans hoi)
      have r6 : b.tmps.getD 6 undef = (.pointer (some ⟨kc, 0, none⟩)) := rd ((hT.old 6 (by kernel_rfl)).trans t6)
      refine op_go hoi (want_all rfl) fun K hK => ?_
      clear hT hpre hun hlit hoi
      go_simp
      exact hK _ _ ⟨(), fun _ _ => rfl, rfl, ac0, ac1, bc0, bc1, cc0, cc1, ddc0, ddc1, HB⟩
    · have hlit : (regOps Try.f57 3)[9]? = some ({ dst := some 52, op := Op.load 23 (Operand.tmp 7), type := 23, pos := "geom.go:254", after := #[], guard := none }) := by kernel_rfl
      obtain rfl := Option.some.inj (hlit.symm.trans hoi)
      have r7 : b.tmps.getD 7 undef = (.pointer (some ⟨kd, 0, none⟩)) := rd ((hT.old 7 (by kernel_rfl)).trans t7)
      refine op_go hoi (want_all rfl) fun K hK => ?_
      clear hT hpre hun hlit hoi
      go_simp
      exact hK _ _ ⟨(), fun _ _ => rfl, rfl, ac0, ac1, bc0, bc1, cc0, cc1, ddc0, ddc1, HB⟩
    · have hlit : (regOps Try.f57 3)[10]? = some ({ dst := some 53, op := Op.load 23 (Operand.tmp 4), type := 23, pos := "geom.go:254", after := #[], guard := none }) := by kernel_rfl
      obtain rfl := Option.some.inj (hlit.symm.trans hoi)
      have r4 : b.tmps.getD 4 undef = (.pointer (some ⟨ka, 0, none⟩)) := rd ((hT.old 4 (by kernel_rfl)).trans t4)
      refine op_go hoi (want_all rfl) fun K hK => ?_
      clear hT hpre hun hlit hoi
      go_simp
      exact hK _ _ ⟨(), fun _ _ => rfl, rfl, ac0, ac1, bc0, bc1, cc0, cc1, ddc0, ddc1, HB⟩
    · have hlit : (regOps Try.f57 3)[11]? = some ({ dst := some 54, op := Op.call { callee := Callee.value (Operand.func 37), args := #[Operand.tmp 51, Operand.tmp 52, Operand.tmp 53], argTypes := #[23, 23, 23] }, type := 3, pos := "geom.go:254", after := #[{ on := 8, ground := Ground.data }, { on := 9, ground := Ground.data }, { on := 10, ground := Ground.data }, { on := 7, ground := Ground.chain }], guard := none }) := by kernel_rfl
      obtain rfl := Option.some.inj (hlit.symm.trans hoi)
      have r51 : b.tmps.getD 51 undef = (.agg #[.int .i64 c0, .int .i64 c1]) := rd (hT.at 8 (by kernel_rfl) (pre_of hpre 8 (by kernel_rfl)))
      have r52 : b.tmps.getD 52 undef = (.agg #[.int .i64 d0, .int .i64 d1]) := rd (hT.at 9 (by kernel_rfl) (pre_of hpre 9 (by kernel_rfl)))
      have r53 : b.tmps.getD 53 undef = (.agg #[.int .i64 a0, .int .i64 a1]) := rd (hT.at 10 (by kernel_rfl) (pre_of hpre 10 (by kernel_rfl)))
      refine op_go hoi (want_all rfl) fun K hK => ?_
      clear hT hpre hun hlit hoi
      go_simp
      go_at_call 37
      refine (ori37 _ _ _ _ _ _ _).mono ?_; rw [h3]; rintro e w2 ⟨rfl, hb⟩; replace ac0 := ck hb (a := ⟨ka, 0, none⟩) (v := .int .i64 a0) (by go_simp); replace ac1 := ck hb (a := ⟨ka, 1, none⟩) (v := .int .i64 a1) (by go_simp); replace bc0 := ck hb (a := ⟨kb, 0, none⟩) (v := .int .i64 b0) (by go_simp); replace bc1 := ck hb (a := ⟨kb, 1, none⟩) (v := .int .i64 b1) (by go_simp); replace cc0 := ck hb (a := ⟨kc, 0, none⟩) (v := .int .i64 c0) (by go_simp); replace cc1 := ck hb (a := ⟨kc, 1, none⟩) (v := .int .i64 c1) (by go_simp); replace ddc0 := ck hb (a := ⟨kd, 0, none⟩) (v := .int .i64 d0) (by go_simp); replace ddc1 := ck hb (a := ⟨kd, 1, none⟩) (v := .int .i64 d1) (by go_simp); replace HB : Below W.heap.size W w2 := bt HB hb; clear hb
      exact hK _ _ ⟨(), fun _ _ => rfl, rfl, ac0, ac1, bc0, bc1, cc0, cc1, ddc0, ddc1, HB⟩
    · have hlit : (regOps Try.f57 3)[12]? = some ({ dst := some 55, op := Op.load 23 (Operand.tmp 6), type := 23, pos := "geom.go:254", after := #[], guard := none }) := by kernel_rfl
      obtain rfl := Option.some.inj (hlit.symm.trans hoi)
      have r6 : b.tmps.getD 6 undef = (.pointer (some ⟨kc, 0, none⟩)) := rd ((hT.old 6 (by kernel_rfl)).trans t6)
      refine op_go hoi (want_all rfl) fun K hK => ?_
      clear hT hpre hun hlit hoi
      go_simp
      exact hK _ _ ⟨(), fun _ _ => rfl, rfl, ac0, ac1, bc0, bc1, cc0, cc1, ddc0, ddc1, HB⟩
    · have hlit : (regOps Try.f57 3)[13]? = some ({ dst := some 56, op := Op.load 23 (Operand.tmp 7), type := 23, pos := "geom.go:254", after := #[], guard := none }) := by kernel_rfl
      obtain rfl := Option.some.inj (hlit.symm.trans hoi)
      have r7 : b.tmps.getD 7 undef = (.pointer (some ⟨kd, 0, none⟩)) := rd ((hT.old 7 (by kernel_rfl)).trans t7)
      refine op_go hoi (want_all rfl) fun K hK => ?_
      clear hT hpre hun hlit hoi
      go_simp
      exact hK _ _ ⟨(), fun _ _ => rfl, rfl, ac0, ac1, bc0, bc1, cc0, cc1, ddc0, ddc1, HB⟩
    · have hlit : (regOps Try.f57 3)[14]? = some ({ dst := some 57, op := Op.load 23 (Operand.tmp 5), type := 23, pos := "geom.go:254", after := #[], guard := none }) := by kernel_rfl
      obtain rfl := Option.some.inj (hlit.symm.trans hoi)
      have r5 : b.tmps.getD 5 undef = (.pointer (some ⟨kb, 0, none⟩)) := rd ((hT.old 5 (by kernel_rfl)).trans t5)
      refine op_go hoi (want_all rfl) fun K hK => ?_
      clear hT hpre hun hlit hoi
      go_simp
      exact hK _ _ ⟨(), fun _ _ => rfl, rfl, ac0, ac1, bc0, bc1, cc0, cc1, ddc0, ddc1, HB⟩
    · have hlit : (regOps Try.f57 3)[15]? = some ({ dst := some 58, op := Op.call { callee := Callee.value (Operand.func 37), args := #[Operand.tmp 55, Operand.tmp 56, Operand.tmp 57], argTypes := #[23, 23, 23] }, type := 3, pos := "geom.go:254", after := #[{ on := 12, ground := Ground.data }, { on := 13, ground := Ground.data }, { on := 14, ground := Ground.data }, { on := 11, ground := Ground.chain }], guard := none }) := by kernel_rfl
      obtain rfl := Option.some.inj (hlit.symm.trans hoi)
      have r55 : b.tmps.getD 55 undef = (.agg #[.int .i64 c0, .int .i64 c1]) := rd (hT.at 12 (by kernel_rfl) (pre_of hpre 12 (by kernel_rfl)))
      have r56 : b.tmps.getD 56 undef = (.agg #[.int .i64 d0, .int .i64 d1]) := rd (hT.at 13 (by kernel_rfl) (pre_of hpre 13 (by kernel_rfl)))
      have r57 : b.tmps.getD 57 undef = (.agg #[.int .i64 b0, .int .i64 b1]) := rd (hT.at 14 (by kernel_rfl) (pre_of hpre 14 (by kernel_rfl)))
      refine op_go hoi (want_all rfl) fun K hK => ?_
      clear hT hpre hun hlit hoi
      go_simp
      go_at_call 37
      refine (ori37 _ _ _ _ _ _ _).mono ?_; rw [h4]; rintro e w2 ⟨rfl, hb⟩; replace ac0 := ck hb (a := ⟨ka, 0, none⟩) (v := .int .i64 a0) (by go_simp); replace ac1 := ck hb (a := ⟨ka, 1, none⟩) (v := .int .i64 a1) (by go_simp); replace bc0 := ck hb (a := ⟨kb, 0, none⟩) (v := .int .i64 b0) (by go_simp); replace bc1 := ck hb (a := ⟨kb, 1, none⟩) (v := .int .i64 b1) (by go_simp); replace cc0 := ck hb (a := ⟨kc, 0, none⟩) (v := .int .i64 c0) (by go_simp); replace cc1 := ck hb (a := ⟨kc, 1, none⟩) (v := .int .i64 c1) (by go_simp); replace ddc0 := ck hb (a := ⟨kd, 0, none⟩) (v := .int .i64 d0) (by go_simp); replace ddc1 := ck hb (a := ⟨kd, 1, none⟩) (v := .int .i64 d1) (by go_simp); replace HB : Below W.heap.size W w2 := bt HB hb; clear hb
      exact hK _ _ ⟨(), fun _ _ => rfl, rfl, ac0, ac1, bc0, bc1, cc0, cc1, ddc0, ddc1, HB⟩
    · have hlit : (regOps Try.f57 3)[16]? = some ({ dst := some 9, op := Op.assign (Operand.tmp 46), type := 3, pos := "geom.go:254", after := #[{ on := 3, ground := Ground.data }, { on := 15, ground := Ground.chain }, { on := 0, ground := Ground.phase }, { on := 1, ground := Ground.phase }, { on := 2, ground := Ground.phase }, { on := 3, ground := Ground.phase }, { on := 4, ground := Ground.textOnly Departure.lateStores }, { on := 5, ground := Ground.textOnly Departure.lateStores }, { on := 6, ground := Ground.textOnly Departure.lateStores }, { on := 7, ground := Ground.textOnly Departure.lateStoresUnsure }, { on := 8, ground := Ground.textOnly Departure.lateStores }, { on := 9, ground := Ground.textOnly Departure.lateStores }, { on := 10, ground := Ground.textOnly Departure.lateStores }, { on := 11, ground := Ground.textOnly Departure.lateStoresUnsure }, { on := 12, ground := Ground.textOnly Departure.lateStores }, { on := 13, ground := Ground.textOnly Departure.lateStores }, { on := 14, ground := Ground.textOnly Departure.lateStores }, { on := 15, ground := Ground.textOnly Departure.lateStoresUnsure }], guard := none }) := by kernel_rfl
      obtain rfl := Option.some.inj (hlit.symm.trans hoi)
      have r46 : b.tmps.getD 46 undef = (.int .i64 o1) := rd (hT.at 3 (by kernel_rfl) (pre_of hpre 3 (by kernel_rfl)))
      refine op_go hoi (want_all rfl) fun K hK => ?_
      clear hT hpre hun hlit hoi
      go_simp
      exact hK _ _ ⟨(), fun _ _ => rfl, rfl, ac0, ac1, bc0, bc1, cc0, cc1, ddc0, ddc1, HB⟩
    · have hlit : (regOps Try.f57 3)[17]? = some ({ dst := some 10, op := Op.assign (Operand.tmp 50), type := 3, pos := "geom.go:254", after := #[{ on := 7, ground := Ground.data }, { on := 16, ground := Ground.chain }, { on := 0, ground := Ground.phase }, { on := 1, ground := Ground.phase }, { on := 2, ground := Ground.phase }, { on := 3, ground := Ground.phase }, { on := 4, ground := Ground.phase }, { on := 5, ground := Ground.phase }, { on := 6, ground := Ground.phase }, { on := 7, ground := Ground.phase }, { on := 8, ground := Ground.textOnly Departure.lateStores }, { on := 9, ground := Ground.textOnly Departure.lateStores }, { on := 10, ground := Ground.textOnly Departure.lateStores }, { on := 11, ground := Ground.textOnly Departure.lateStoresUnsure }, { on := 12, ground := Ground.textOnly Departure.lateStores }, { on := 13, ground := Ground.textOnly Departure.lateStores }, { on := 14, ground := Ground.textOnly Departure.lateStores }, { on := 15, ground := Ground.textOnly Departure.lateStoresUnsure }, { on := 16, ground := Ground.phase }], guard := none }) := by kernel_rfl
      obtain rfl := Option.some.inj (hlit.symm.trans hoi)
      have r50 : b.tmps.getD 50 undef = (.int .i64 o2) := rd (hT.at 7 (by kernel_rfl) (pre_of hpre 7 (by kernel_rfl)))
      refine op_go hoi (want_all rfl) fun K hK => ?_
      clear hT hpre hun hlit hoi
      go_simp
      exact hK _ _ ⟨(), fun _ _ => rfl, rfl, ac0, ac1, bc0, bc1, cc0, cc1, ddc0, ddc1, HB⟩
    · have hlit : (regOps Try.f57 3)[18]? = some ({ dst := some 11, op := Op.assign (Operand.tmp 54), type := 3, pos := "geom.go:254", after := #[{ on := 11, ground := Ground.data }, { on := 17, ground := Ground.chain }, { on := 0, ground := Ground.phase }, { on := 1, ground := Ground.phase }, { on := 2, ground := Ground.phase }, { on := 3, ground := Ground.phase }, { on := 4, ground := Ground.phase }, { on := 5, ground := Ground.phase }, { on := 6, ground := Ground.phase }, { on := 7, ground := Ground.phase }, { on := 8, ground := Ground.phase }, { on := 9, ground := Ground.phase }, { on := 10, ground := Ground.phase }, { on := 11, ground := Ground.phase }, { on := 12, ground := Ground.textOnly Departure.lateStores }, { on := 13, ground := Ground.textOnly Departure.lateStores }, { on := 14, ground := Ground.textOnly Departure.lateStores }, { on := 15, ground := Ground.textOnly Departure.lateStoresUnsure }, { on := 16, ground := Ground.phase }, { on := 17, ground := Ground.phase }], guard := none }) := by kernel_rfl
      obtain rfl := Option.some.inj (hlit.symm.trans hoi)
      have r54 : b.tmps.getD 54 undef = (.int .i64 o3) := rd (hT.at 11 (by kernel_rfl) (pre_of hpre 11 (by kernel_rfl)))
      refine op_go hoi (want_all rfl) fun K hK => ?_
      clear hT hpre hun hlit hoi
      go_simp
      exact hK _ _ ⟨(), fun _ _ => rfl, rfl, ac0, ac1, bc0, bc1, cc0, cc1, ddc0, ddc1, HB⟩
    · have hlit : (regOps Try.f57 3)[19]? = some ({ dst := some 12, op := Op.assign (Operand.tmp 58), type := 3, pos := "geom.go:254", after := #[{ on := 15, ground := Ground.data }, { on := 18, ground := Ground.chain }, { on := 0, ground := Ground.phase }, { on := 1, ground := Ground.phase }, { on := 2, ground := Ground.phase }, { on := 3, ground := Ground.phase }, { on := 4, ground := Ground.phase }, { on := 5, ground := Ground.phase }, { on := 6, ground := Ground.phase }, { on := 7, ground := Ground.phase }, { on := 8, ground := Ground.phase }, { on := 9, ground := Ground.phase }, { on := 10, ground := Ground.phase }, { on := 11, ground := Ground.phase }, { on := 12, ground := Ground.phase }, { on := 13, ground := Ground.phase }, { on := 14, ground := Ground.phase }, { on := 15, ground := Ground.phase }, { on := 16, ground := Ground.phase }, { on := 17, ground := Ground.phase }, { on := 18, ground := Ground.phase }], guard := none }) := by kernel_rfl
      obtain rfl := Option.some.inj (hlit.symm.trans hoi)
      have r58 : b.tmps.getD 58 undef = (.int .i64 o4) := rd (hT.at 15 (by kernel_rfl) (pre_of hpre 15 (by kernel_rfl)))
      refine op_go hoi (want_all rfl) fun K hK => ?_
      clear hT hpre hun hlit hoi
      go_simp
      exact hK _ _ ⟨(), fun _ _ => rfl, rfl, ac0, ac1, bc0, bc1, cc0, cc1, ddc0, ddc1, HB⟩
  · intro g b w' hT hS
    rw [hT.all ht]
    have hn : (regOps Try.f57 3).size = 20 := by kernel_rfl
    rw [hn]
    exact he w' hS

/-- What each operation of the region leaves. -/
def region57_5V (a0 a1 b0 b1 c0 c1 d0 d1 v0 v1 f0 f1 g0 g1 u0 u1 q0 q1 r0 r1 : Int) (kx ky : Nat) : Nat → Value
  | 0 => .agg #[.int .i64 a0, .int .i64 a1]
  | 1 => .agg #[.int .i64 b0, .int .i64 b1]
  | 2 => .agg #[.int .i64 v0, .int .i64 v1]
  | 3 => .agg #[.int .i64 c0, .int .i64 c1]
  | 4 => .agg #[.int .i64 d0, .int .i64 d1]
  | 5 => .agg #[.int .i64 f0, .int .i64 f1]
  | 6 => .agg #[.int .i64 g0, .int .i64 g1]
  | 7 => .agg #[.int .i64 a0, .int .i64 a1]
  | 8 => .agg #[.int .i64 b0, .int .i64 b1]
  | 9 => .agg #[.int .i64 u0, .int .i64 u1]
  | 10 => .agg #[.int .i64 c0, .int .i64 c1]
  | 11 => .agg #[.int .i64 d0, .int .i64 d1]
  | 12 => .agg #[.int .i64 q0, .int .i64 q1]
  | 13 => .agg #[.int .i64 r0, .int .i64 r1]
  | 14 => .pointer (some ⟨kx, 0, none⟩)
  | 15 => .pointer (some ⟨ky, 0, none⟩)
  | 16 => undef
  | 17 => undef
  | _ => undef

set_option maxHeartbeats 4000000 in
set_option maxRecDepth 100000 in
theorem region57_5 (a0 a1 b0 b1 c0 c1 d0 d1 v0 v1 f0 f1 g0 g1 u0 u1 q0 q1 r0 r1 : Int) (ka kb kc kd : Nat) (W : World) (cl1 : ∀ w : World, Calls Try.prog 77 #[.agg #[.int .i64 a0, .int .i64 a1], .agg #[.int .i64 b0, .int .i64 b1]] w fun e w' => e = .returned (.agg #[.int .i64 v0, .int .i64 v1]) ∧ Below w.heap.size w w') (cl2 : ∀ w : World, Calls Try.prog 77 #[.agg #[.int .i64 c0, .int .i64 c1], .agg #[.int .i64 d0, .int .i64 d1]] w fun e w' => e = .returned (.agg #[.int .i64 f0, .int .i64 f1]) ∧ Below w.heap.size w w') (cl3 : ∀ w : World, Calls Try.prog 76 #[.agg #[.int .i64 v0, .int .i64 v1], .agg #[.int .i64 f0, .int .i64 f1]] w fun e w' => e = .returned (.agg #[.int .i64 g0, .int .i64 g1]) ∧ Below w.heap.size w w') (cl4 : ∀ w : World, Calls Try.prog 76 #[.agg #[.int .i64 a0, .int .i64 a1], .agg #[.int .i64 b0, .int .i64 b1]] w fun e w' => e = .returned (.agg #[.int .i64 u0, .int .i64 u1]) ∧ Below w.heap.size w w') (cl5 : ∀ w : World, Calls Try.prog 76 #[.agg #[.int .i64 c0, .int .i64 c1], .agg #[.int .i64 d0, .int .i64 d1]] w fun e w' => e = .returned (.agg #[.int .i64 q0, .int .i64 q1]) ∧ Below w.heap.size w w') (cl6 : ∀ w : World, Calls Try.prog 77 #[.agg #[.int .i64 u0, .int .i64 u1], .agg #[.int .i64 q0, .int .i64 q1]] w fun e w' => e = .returned (.agg #[.int .i64 r0, .int .i64 r1]) ∧ Below w.heap.size w w') {id : Nat} {ops : Array Oper} {Q : Exit → Act → World → Prop} {a : Act} {w : World}
    (ho : ops = (regOps Try.f57 5)) (hsz : a.tmps.size = 110) (t4 : a.tmps[4]? = some (.pointer (some ⟨ka, 0, none⟩))) (t5 : a.tmps[5]? = some (.pointer (some ⟨kb, 0, none⟩))) (t6 : a.tmps[6]? = some (.pointer (some ⟨kc, 0, none⟩))) (t7 : a.tmps[7]? = some (.pointer (some ⟨kd, 0, none⟩)))
    (h0 : w.cell? ⟨ka, 0, none⟩ = some (.int .i64 a0) ∧ w.cell? ⟨ka, 1, none⟩ = some (.int .i64 a1) ∧ w.cell? ⟨kb, 0, none⟩ = some (.int .i64 b0) ∧ w.cell? ⟨kb, 1, none⟩ = some (.int .i64 b1) ∧ w.cell? ⟨kc, 0, none⟩ = some (.int .i64 c0) ∧ w.cell? ⟨kc, 1, none⟩ = some (.int .i64 c1) ∧ w.cell? ⟨kd, 0, none⟩ = some (.int .i64 d0) ∧ w.cell? ⟨kd, 1, none⟩ = some (.int .i64 d1) ∧ Below W.heap.size W w)
    (he : ∀ kx ky w', w'.cell? ⟨ka, 0, none⟩ = some (.int .i64 a0) ∧ w'.cell? ⟨ka, 1, none⟩ = some (.int .i64 a1) ∧ w'.cell? ⟨kb, 0, none⟩ = some (.int .i64 b0) ∧ w'.cell? ⟨kb, 1, none⟩ = some (.int .i64 b1) ∧ w'.cell? ⟨kc, 0, none⟩ = some (.int .i64 c0) ∧ w'.cell? ⟨kc, 1, none⟩ = some (.int .i64 c1) ∧ w'.cell? ⟨kd, 0, none⟩ = some (.int .i64 d0) ∧ w'.cell? ⟨kd, 1, none⟩ = some (.int .i64 d1) ∧ Below W.heap.size W w' → w'.cell? ⟨kx, 0, none⟩ = some (.int .i64 g0) ∧ w'.cell? ⟨kx, 1, none⟩ = some (.int .i64 g1) ∧ w'.cell? ⟨ky, 0, none⟩ = some (.int .i64 r0) ∧ w'.cell? ⟨ky, 1, none⟩ = some (.int .i64 r1) ∧ w'.frozen? ⟨kx, 0, none⟩ = false ∧ w'.frozen? ⟨kx, 1, none⟩ = false ∧ w'.frozen? ⟨ky, 0, none⟩ = false ∧ w'.frozen? ⟨ky, 1, none⟩ = false ∧ w.heap.size ≤ kx ∧ w.heap.size ≤ ky ∧ kx ≠ ky → Q .normal ⟨((((((((((((((((a.tmps.setIfInBounds 65 (.agg #[.int .i64 a0, .int .i64 a1])).setIfInBounds 66 (.agg #[.int .i64 b0, .int .i64 b1])).setIfInBounds 67 (.agg #[.int .i64 v0, .int .i64 v1])).setIfInBounds 68 (.agg #[.int .i64 c0, .int .i64 c1])).setIfInBounds 69 (.agg #[.int .i64 d0, .int .i64 d1])).setIfInBounds 70 (.agg #[.int .i64 f0, .int .i64 f1])).setIfInBounds 71 (.agg #[.int .i64 g0, .int .i64 g1])).setIfInBounds 72 (.agg #[.int .i64 a0, .int .i64 a1])).setIfInBounds 73 (.agg #[.int .i64 b0, .int .i64 b1])).setIfInBounds 74 (.agg #[.int .i64 u0, .int .i64 u1])).setIfInBounds 75 (.agg #[.int .i64 c0, .int .i64 c1])).setIfInBounds 76 (.agg #[.int .i64 d0, .int .i64 d1])).setIfInBounds 77 (.agg #[.int .i64 q0, .int .i64 q1])).setIfInBounds 78 (.agg #[.int .i64 r0, .int .i64 r1])).setIfInBounds 13 (.pointer (some ⟨kx, 0, none⟩))).setIfInBounds 14 (.pointer (some ⟨ky, 0, none⟩))), a.defers⟩ w') :
    (Code.region id ops true).wp Try.prog Q a w := by
  have ht : tidy (regOps Try.f57 5) a.tmps.size = true := by rw [hsz]; kernel_rfl
  obtain ⟨ac0, ac1, bc0, bc1, cc0, cc1, ddc0, ddc1, HB0⟩ := h0
  have lt_ka := World.block_lt_of_cell? w _ ac0
  have lt_kb := World.block_lt_of_cell? w _ bc0
  have lt_kc := World.block_lt_of_cell? w _ cc0
  have lt_kd := World.block_lt_of_cell? w _ ddc0
  have sz0 := HB0.size
  refine region_tab (G := Nat × Nat) (fun g => (region57_5V a0 a1 b0 b1 c0 c1 d0 d1 v0 v1 f0 f1 g0 g1 u0 u1 q0 q1 r0 r1  g.1 g.2)) (fun g L w' => w'.cell? ⟨ka, 0, none⟩ = some (.int .i64 a0) ∧ w'.cell? ⟨ka, 1, none⟩ = some (.int .i64 a1) ∧ w'.cell? ⟨kb, 0, none⟩ = some (.int .i64 b0) ∧ w'.cell? ⟨kb, 1, none⟩ = some (.int .i64 b1) ∧ w'.cell? ⟨kc, 0, none⟩ = some (.int .i64 c0) ∧ w'.cell? ⟨kc, 1, none⟩ = some (.int .i64 c1) ∧ w'.cell? ⟨kd, 0, none⟩ = some (.int .i64 d0) ∧ w'.cell? ⟨kd, 1, none⟩ = some (.int .i64 d1) ∧ Below W.heap.size W w' ∧ w.heap.size ≤ w'.heap.size ∧ (L 14 = true → w.heap.size ≤ g.1 ∧ w'.frozen? ⟨g.1, 0, none⟩ = false ∧ w'.frozen? ⟨g.1, 1, none⟩ = false ∧ ∃ u0 u1 : Int, w'.cell? ⟨g.1, 0, none⟩ = some (.int .i64 u0) ∧ w'.cell? ⟨g.1, 1, none⟩ = some (.int .i64 u1) ∧ (L 16 = true → u0 = g0 ∧ u1 = g1)) ∧ (L 16 = true → L 14 = true) ∧ (L 15 = true → w.heap.size ≤ g.2 ∧ w'.frozen? ⟨g.2, 0, none⟩ = false ∧ w'.frozen? ⟨g.2, 1, none⟩ = false ∧ ∃ u0 u1 : Int, w'.cell? ⟨g.2, 0, none⟩ = some (.int .i64 u0) ∧ w'.cell? ⟨g.2, 1, none⟩ = some (.int .i64 u1) ∧ (L 17 = true → u0 = r0 ∧ u1 = r1)) ∧ (L 17 = true → L 15 = true) ∧ (L 14 = true → L 15 = true → g.1 ≠ g.2)) (0, 0) (by kernel_rfl) ho ht ⟨ac0, ac1, bc0, bc1, cc0, cc1, ddc0, ddc1, bd HB0, Nat.le_refl _, fun h => (by cases h), fun h => (by cases h), fun h => (by cases h), fun h => (by cases h), fun h => (by cases h)⟩ ?_ ?_
  · intro i o hoi g L b w' hun hpre hT hS
    clear he ac0 ac1 bc0 bc1 cc0 cc1 ddc0 ddc1 ho hsz ht HB0
    have hi : i < (regOps Try.f57 5).size := (Array.getElem?_eq_some_iff.1 hoi).1
    rw [show (regOps Try.f57 5).size = 18 by kernel_rfl] at hi
    obtain ⟨kx, ky⟩ := g
    dsimp only at hT hS
    obtain ⟨ac0, ac1, bc0, bc1, cc0, cc1, ddc0, ddc1, HB, szw, fx, sx, fy, sy, dxy⟩ := hS
    have hcases : i = 0 ∨ i = 1 ∨ i = 2 ∨ i = 3 ∨ i = 4 ∨ i = 5 ∨ i = 6 ∨ i = 7 ∨ i = 8 ∨ i = 9 ∨ i = 10 ∨ i = 11 ∨ i = 12 ∨ i = 13 ∨ i = 14 ∨ i = 15 ∨ i = 16 ∨ i = 17 := by omega
    rcases hcases with rfl | rfl | rfl | rfl | rfl | rfl | rfl | rfl | rfl | rfl | rfl | rfl | rfl | rfl | rfl | rfl | rfl | rfl
    · have hlit : (regOps Try.f57 5)[0]? = some ({ dst := some 65, op := Op.load 23 (Operand.tmp 4), type := 23, pos := "geom.go:256", after := #[], guard := none }) := by kernel_rfl
      obtain rfl := Option.some.inj (hlit.symm.trans hoi)
      have r4 : b.tmps.getD 4 undef = (.pointer (some ⟨ka, 0, none⟩)) := rd ((hT.old 4 (by kernel_rfl)).trans t4)
      refine op_go hoi (want_all rfl) fun K hK => ?_
      clear hT hpre hlit hoi
      go_simp
      exact hK _ _ ⟨(kx, ky), fun _ _ => rfl, rfl, ac0, ac1, bc0, bc1, cc0, cc1, ddc0, ddc1, HB, szw, fx, sx, fy, sy, dxy⟩
    · have hlit : (regOps Try.f57 5)[1]? = some ({ dst := some 66, op := Op.load 23 (Operand.tmp 5), type := 23, pos := "geom.go:256", after := #[], guard := none }) := by kernel_rfl
      obtain rfl := Option.some.inj (hlit.symm.trans hoi)
      have r5 : b.tmps.getD 5 undef = (.pointer (some ⟨kb, 0, none⟩)) := rd ((hT.old 5 (by kernel_rfl)).trans t5)
      refine op_go hoi (want_all rfl) fun K hK => ?_
      clear hT hpre hlit hoi
      go_simp
      exact hK _ _ ⟨(kx, ky), fun _ _ => rfl, rfl, ac0, ac1, bc0, bc1, cc0, cc1, ddc0, ddc1, HB, szw, fx, sx, fy, sy, dxy⟩
    · have hlit : (regOps Try.f57 5)[2]? = some ({ dst := some 67, op := Op.call { callee := Callee.value (Operand.func 77), args := #[Operand.tmp 65, Operand.tmp 66], argTypes := #[23, 23] }, type := 23, pos := "geom.go:256", after := #[{ on := 0, ground := Ground.data }, { on := 1, ground := Ground.data }], guard := none }) := by kernel_rfl
      obtain rfl := Option.some.inj (hlit.symm.trans hoi)
      have r65 : b.tmps.getD 65 undef = (.agg #[.int .i64 a0, .int .i64 a1]) := rd (hT.at 0 (by kernel_rfl) (pre_of hpre 0 (by kernel_rfl)))
      have r66 : b.tmps.getD 66 undef = (.agg #[.int .i64 b0, .int .i64 b1]) := rd (hT.at 1 (by kernel_rfl) (pre_of hpre 1 (by kernel_rfl)))
      refine op_go hoi (want_all rfl) fun K hK => ?_
      clear hT hpre hlit hoi
      go_simp
      go_at_call 77
      refine (cl1 _).mono ?_; rintro e w2 ⟨rfl, hb⟩; replace ac0 := ck hb ac0; replace ac1 := ck hb ac1; replace bc0 := ck hb bc0; replace bc1 := ck hb bc1; replace cc0 := ck hb cc0; replace cc1 := ck hb cc1; replace ddc0 := ck hb ddc0; replace ddc1 := ck hb ddc1; replace szw : w.heap.size ≤ w2.heap.size := Nat.le_trans szw hb.size; replace fx : L 14 = true → w.heap.size ≤ kx ∧ w2.frozen? ⟨kx, 0, none⟩ = false ∧ w2.frozen? ⟨kx, 1, none⟩ = false ∧ ∃ u0 u1 : Int, w2.cell? ⟨kx, 0, none⟩ = some (Value.int .i64 u0) ∧ w2.cell? ⟨kx, 1, none⟩ = some (Value.int .i64 u1) ∧ (L 16 = true → u0 = g0 ∧ u1 = g1) := fun h => (by obtain ⟨ge, fz0, fz1, u0, u1, ce0, ce1, us⟩ := fx h; exact ⟨ge, cf hb (World.block_lt_of_cell? _ _ ce0) fz0, cf hb (World.block_lt_of_cell? _ _ ce1) fz1, u0, u1, ck hb ce0, ck hb ce1, us⟩); replace fy : L 15 = true → w.heap.size ≤ ky ∧ w2.frozen? ⟨ky, 0, none⟩ = false ∧ w2.frozen? ⟨ky, 1, none⟩ = false ∧ ∃ u0 u1 : Int, w2.cell? ⟨ky, 0, none⟩ = some (Value.int .i64 u0) ∧ w2.cell? ⟨ky, 1, none⟩ = some (Value.int .i64 u1) ∧ (L 17 = true → u0 = r0 ∧ u1 = r1) := fun h => (by obtain ⟨ge, fz0, fz1, u0, u1, ce0, ce1, us⟩ := fy h; exact ⟨ge, cf hb (World.block_lt_of_cell? _ _ ce0) fz0, cf hb (World.block_lt_of_cell? _ _ ce1) fz1, u0, u1, ck hb ce0, ck hb ce1, us⟩); replace HB : Below W.heap.size W w2 := bt HB hb; clear hb
      exact hK _ _ ⟨(kx, ky), fun _ _ => rfl, rfl, ac0, ac1, bc0, bc1, cc0, cc1, ddc0, ddc1, HB, szw, fx, sx, fy, sy, dxy⟩
    · have hlit : (regOps Try.f57 5)[3]? = some ({ dst := some 68, op := Op.load 23 (Operand.tmp 6), type := 23, pos := "geom.go:256", after := #[], guard := none }) := by kernel_rfl
      obtain rfl := Option.some.inj (hlit.symm.trans hoi)
      have r6 : b.tmps.getD 6 undef = (.pointer (some ⟨kc, 0, none⟩)) := rd ((hT.old 6 (by kernel_rfl)).trans t6)
      refine op_go hoi (want_all rfl) fun K hK => ?_
      clear hT hpre hlit hoi
      go_simp
      exact hK _ _ ⟨(kx, ky), fun _ _ => rfl, rfl, ac0, ac1, bc0, bc1, cc0, cc1, ddc0, ddc1, HB, szw, fx, sx, fy, sy, dxy⟩
    · have hlit : (regOps Try.f57 5)[4]? = some ({ dst := some 69, op := Op.load 23 (Operand.tmp 7), type := 23, pos := "geom.go:256", after := #[], guard := none }) := by kernel_rfl
      obtain rfl := Option.some.inj (hlit.symm.trans hoi)
      have r7 : b.tmps.getD 7 undef = (.pointer (some ⟨kd, 0, none⟩)) := rd ((hT.old 7 (by kernel_rfl)).trans t7)
      refine op_go hoi (want_all rfl) fun K hK => ?_
      clear hT hpre hlit hoi
      go_simp
      exact hK _ _ ⟨(kx, ky), fun _ _ => rfl, rfl, ac0, ac1, bc0, bc1, cc0, cc1, ddc0, ddc1, HB, szw, fx, sx, fy, sy, dxy⟩
    · have hlit : (regOps Try.f57 5)[5]? = some ({ dst := some 70, op := Op.call { callee := Callee.value (Operand.func 77), args := #[Operand.tmp 68, Operand.tmp 69], argTypes := #[23, 23] }, type := 23, pos := "geom.go:256", after := #[{ on := 3, ground := Ground.data }, { on := 4, ground := Ground.data }, { on := 2, ground := Ground.chain }], guard := none }) := by kernel_rfl
      obtain rfl := Option.some.inj (hlit.symm.trans hoi)
      have r68 : b.tmps.getD 68 undef = (.agg #[.int .i64 c0, .int .i64 c1]) := rd (hT.at 3 (by kernel_rfl) (pre_of hpre 3 (by kernel_rfl)))
      have r69 : b.tmps.getD 69 undef = (.agg #[.int .i64 d0, .int .i64 d1]) := rd (hT.at 4 (by kernel_rfl) (pre_of hpre 4 (by kernel_rfl)))
      refine op_go hoi (want_all rfl) fun K hK => ?_
      clear hT hpre hlit hoi
      go_simp
      go_at_call 77
      refine (cl2 _).mono ?_; rintro e w2 ⟨rfl, hb⟩; replace ac0 := ck hb ac0; replace ac1 := ck hb ac1; replace bc0 := ck hb bc0; replace bc1 := ck hb bc1; replace cc0 := ck hb cc0; replace cc1 := ck hb cc1; replace ddc0 := ck hb ddc0; replace ddc1 := ck hb ddc1; replace szw : w.heap.size ≤ w2.heap.size := Nat.le_trans szw hb.size; replace fx : L 14 = true → w.heap.size ≤ kx ∧ w2.frozen? ⟨kx, 0, none⟩ = false ∧ w2.frozen? ⟨kx, 1, none⟩ = false ∧ ∃ u0 u1 : Int, w2.cell? ⟨kx, 0, none⟩ = some (Value.int .i64 u0) ∧ w2.cell? ⟨kx, 1, none⟩ = some (Value.int .i64 u1) ∧ (L 16 = true → u0 = g0 ∧ u1 = g1) := fun h => (by obtain ⟨ge, fz0, fz1, u0, u1, ce0, ce1, us⟩ := fx h; exact ⟨ge, cf hb (World.block_lt_of_cell? _ _ ce0) fz0, cf hb (World.block_lt_of_cell? _ _ ce1) fz1, u0, u1, ck hb ce0, ck hb ce1, us⟩); replace fy : L 15 = true → w.heap.size ≤ ky ∧ w2.frozen? ⟨ky, 0, none⟩ = false ∧ w2.frozen? ⟨ky, 1, none⟩ = false ∧ ∃ u0 u1 : Int, w2.cell? ⟨ky, 0, none⟩ = some (Value.int .i64 u0) ∧ w2.cell? ⟨ky, 1, none⟩ = some (Value.int .i64 u1) ∧ (L 17 = true → u0 = r0 ∧ u1 = r1) := fun h => (by obtain ⟨ge, fz0, fz1, u0, u1, ce0, ce1, us⟩ := fy h; exact ⟨ge, cf hb (World.block_lt_of_cell? _ _ ce0) fz0, cf hb (World.block_lt_of_cell? _ _ ce1) fz1, u0, u1, ck hb ce0, ck hb ce1, us⟩); replace HB : Below W.heap.size W w2 := bt HB hb; clear hb
      exact hK _ _ ⟨(kx, ky), fun _ _ => rfl, rfl, ac0, ac1, bc0, bc1, cc0, cc1, ddc0, ddc1, HB, szw, fx, sx, fy, sy, dxy⟩
    · have hlit : (regOps Try.f57 5)[6]? = some ({ dst := some 71, op := Op.call { callee := Callee.value (Operand.func 76), args := #[Operand.tmp 67, Operand.tmp 70], argTypes := #[23, 23] }, type := 23, pos := "geom.go:256", after := #[{ on := 2, ground := Ground.data }, { on := 5, ground := Ground.data }, { on := 5, ground := Ground.chain }], guard := none }) := by kernel_rfl
      obtain rfl := Option.some.inj (hlit.symm.trans hoi)
      have r67 : b.tmps.getD 67 undef = (.agg #[.int .i64 v0, .int .i64 v1]) := rd (hT.at 2 (by kernel_rfl) (pre_of hpre 2 (by kernel_rfl)))
      have r70 : b.tmps.getD 70 undef = (.agg #[.int .i64 f0, .int .i64 f1]) := rd (hT.at 5 (by kernel_rfl) (pre_of hpre 5 (by kernel_rfl)))
      refine op_go hoi (want_all rfl) fun K hK => ?_
      clear hT hpre hlit hoi
      go_simp
      go_at_call 76
      refine (cl3 _).mono ?_; rintro e w2 ⟨rfl, hb⟩; replace ac0 := ck hb ac0; replace ac1 := ck hb ac1; replace bc0 := ck hb bc0; replace bc1 := ck hb bc1; replace cc0 := ck hb cc0; replace cc1 := ck hb cc1; replace ddc0 := ck hb ddc0; replace ddc1 := ck hb ddc1; replace szw : w.heap.size ≤ w2.heap.size := Nat.le_trans szw hb.size; replace fx : L 14 = true → w.heap.size ≤ kx ∧ w2.frozen? ⟨kx, 0, none⟩ = false ∧ w2.frozen? ⟨kx, 1, none⟩ = false ∧ ∃ u0 u1 : Int, w2.cell? ⟨kx, 0, none⟩ = some (Value.int .i64 u0) ∧ w2.cell? ⟨kx, 1, none⟩ = some (Value.int .i64 u1) ∧ (L 16 = true → u0 = g0 ∧ u1 = g1) := fun h => (by obtain ⟨ge, fz0, fz1, u0, u1, ce0, ce1, us⟩ := fx h; exact ⟨ge, cf hb (World.block_lt_of_cell? _ _ ce0) fz0, cf hb (World.block_lt_of_cell? _ _ ce1) fz1, u0, u1, ck hb ce0, ck hb ce1, us⟩); replace fy : L 15 = true → w.heap.size ≤ ky ∧ w2.frozen? ⟨ky, 0, none⟩ = false ∧ w2.frozen? ⟨ky, 1, none⟩ = false ∧ ∃ u0 u1 : Int, w2.cell? ⟨ky, 0, none⟩ = some (Value.int .i64 u0) ∧ w2.cell? ⟨ky, 1, none⟩ = some (Value.int .i64 u1) ∧ (L 17 = true → u0 = r0 ∧ u1 = r1) := fun h => (by obtain ⟨ge, fz0, fz1, u0, u1, ce0, ce1, us⟩ := fy h; exact ⟨ge, cf hb (World.block_lt_of_cell? _ _ ce0) fz0, cf hb (World.block_lt_of_cell? _ _ ce1) fz1, u0, u1, ck hb ce0, ck hb ce1, us⟩); replace HB : Below W.heap.size W w2 := bt HB hb; clear hb
      exact hK _ _ ⟨(kx, ky), fun _ _ => rfl, rfl, ac0, ac1, bc0, bc1, cc0, cc1, ddc0, ddc1, HB, szw, fx, sx, fy, sy, dxy⟩
    · have hlit : (regOps Try.f57 5)[7]? = some ({ dst := some 72, op := Op.load 23 (Operand.tmp 4), type := 23, pos := "geom.go:256", after := #[], guard := none }) := by kernel_rfl
      obtain rfl := Option.some.inj (hlit.symm.trans hoi)
      have r4 : b.tmps.getD 4 undef = (.pointer (some ⟨ka, 0, none⟩)) := rd ((hT.old 4 (by kernel_rfl)).trans t4)
      refine op_go hoi (want_all rfl) fun K hK => ?_
      clear hT hpre hlit hoi
      go_simp
      exact hK _ _ ⟨(kx, ky), fun _ _ => rfl, rfl, ac0, ac1, bc0, bc1, cc0, cc1, ddc0, ddc1, HB, szw, fx, sx, fy, sy, dxy⟩
    · have hlit : (regOps Try.f57 5)[8]? = some ({ dst := some 73, op := Op.load 23 (Operand.tmp 5), type := 23, pos := "geom.go:256", after := #[], guard := none }) := by kernel_rfl
      obtain rfl := Option.some.inj (hlit.symm.trans hoi)
      have r5 : b.tmps.getD 5 undef = (.pointer (some ⟨kb, 0, none⟩)) := rd ((hT.old 5 (by kernel_rfl)).trans t5)
      refine op_go hoi (want_all rfl) fun K hK => ?_
      clear hT hpre hlit hoi
      go_simp
      exact hK _ _ ⟨(kx, ky), fun _ _ => rfl, rfl, ac0, ac1, bc0, bc1, cc0, cc1, ddc0, ddc1, HB, szw, fx, sx, fy, sy, dxy⟩
    · have hlit : (regOps Try.f57 5)[9]? = some ({ dst := some 74, op := Op.call { callee := Callee.value (Operand.func 76), args := #[Operand.tmp 72, Operand.tmp 73], argTypes := #[23, 23] }, type := 23, pos := "geom.go:256", after := #[{ on := 7, ground := Ground.data }, { on := 8, ground := Ground.data }, { on := 6, ground := Ground.chain }], guard := none }) := by kernel_rfl
      obtain rfl := Option.some.inj (hlit.symm.trans hoi)
      have r72 : b.tmps.getD 72 undef = (.agg #[.int .i64 a0, .int .i64 a1]) := rd (hT.at 7 (by kernel_rfl) (pre_of hpre 7 (by kernel_rfl)))
      have r73 : b.tmps.getD 73 undef = (.agg #[.int .i64 b0, .int .i64 b1]) := rd (hT.at 8 (by kernel_rfl) (pre_of hpre 8 (by kernel_rfl)))
      refine op_go hoi (want_all rfl) fun K hK => ?_
      clear hT hpre hlit hoi
      go_simp
      go_at_call 76
      refine (cl4 _).mono ?_; rintro e w2 ⟨rfl, hb⟩; replace ac0 := ck hb ac0; replace ac1 := ck hb ac1; replace bc0 := ck hb bc0; replace bc1 := ck hb bc1; replace cc0 := ck hb cc0; replace cc1 := ck hb cc1; replace ddc0 := ck hb ddc0; replace ddc1 := ck hb ddc1; replace szw : w.heap.size ≤ w2.heap.size := Nat.le_trans szw hb.size; replace fx : L 14 = true → w.heap.size ≤ kx ∧ w2.frozen? ⟨kx, 0, none⟩ = false ∧ w2.frozen? ⟨kx, 1, none⟩ = false ∧ ∃ u0 u1 : Int, w2.cell? ⟨kx, 0, none⟩ = some (Value.int .i64 u0) ∧ w2.cell? ⟨kx, 1, none⟩ = some (Value.int .i64 u1) ∧ (L 16 = true → u0 = g0 ∧ u1 = g1) := fun h => (by obtain ⟨ge, fz0, fz1, u0, u1, ce0, ce1, us⟩ := fx h; exact ⟨ge, cf hb (World.block_lt_of_cell? _ _ ce0) fz0, cf hb (World.block_lt_of_cell? _ _ ce1) fz1, u0, u1, ck hb ce0, ck hb ce1, us⟩); replace fy : L 15 = true → w.heap.size ≤ ky ∧ w2.frozen? ⟨ky, 0, none⟩ = false ∧ w2.frozen? ⟨ky, 1, none⟩ = false ∧ ∃ u0 u1 : Int, w2.cell? ⟨ky, 0, none⟩ = some (Value.int .i64 u0) ∧ w2.cell? ⟨ky, 1, none⟩ = some (Value.int .i64 u1) ∧ (L 17 = true → u0 = r0 ∧ u1 = r1) := fun h => (by obtain ⟨ge, fz0, fz1, u0, u1, ce0, ce1, us⟩ := fy h; exact ⟨ge, cf hb (World.block_lt_of_cell? _ _ ce0) fz0, cf hb (World.block_lt_of_cell? _ _ ce1) fz1, u0, u1, ck hb ce0, ck hb ce1, us⟩); replace HB : Below W.heap.size W w2 := bt HB hb; clear hb
      exact hK _ _ ⟨(kx, ky), fun _ _ => rfl, rfl, ac0, ac1, bc0, bc1, cc0, cc1, ddc0, ddc1, HB, szw, fx, sx, fy, sy, dxy⟩
    · have hlit : (regOps Try.f57 5)[10]? = some ({ dst := some 75, op := Op.load 23 (Operand.tmp 6), type := 23, pos := "geom.go:256", after := #[], guard := none }) := by kernel_rfl
      obtain rfl := Option.some.inj (hlit.symm.trans hoi)
      have r6 : b.tmps.getD 6 undef = (.pointer (some ⟨kc, 0, none⟩)) := rd ((hT.old 6 (by kernel_rfl)).trans t6)
      refine op_go hoi (want_all rfl) fun K hK => ?_
      clear hT hpre hlit hoi
      go_simp
      exact hK _ _ ⟨(kx, ky), fun _ _ => rfl, rfl, ac0, ac1, bc0, bc1, cc0, cc1, ddc0, ddc1, HB, szw, fx, sx, fy, sy, dxy⟩
    · have hlit : (regOps Try.f57 5)[11]? = some ({ dst := some 76, op := Op.load 23 (Operand.tmp 7), type := 23, pos := "geom.go:256", after := #[], guard := none }) := by kernel_rfl
      obtain rfl := Option.some.inj (hlit.symm.trans hoi)
      have r7 : b.tmps.getD 7 undef = (.pointer (some ⟨kd, 0, none⟩)) := rd ((hT.old 7 (by kernel_rfl)).trans t7)
      refine op_go hoi (want_all rfl) fun K hK => ?_
      clear hT hpre hlit hoi
      go_simp
      exact hK _ _ ⟨(kx, ky), fun _ _ => rfl, rfl, ac0, ac1, bc0, bc1, cc0, cc1, ddc0, ddc1, HB, szw, fx, sx, fy, sy, dxy⟩
    · have hlit : (regOps Try.f57 5)[12]? = some ({ dst := some 77, op := Op.call { callee := Callee.value (Operand.func 76), args := #[Operand.tmp 75, Operand.tmp 76], argTypes := #[23, 23] }, type := 23, pos := "geom.go:256", after := #[{ on := 10, ground := Ground.data }, { on := 11, ground := Ground.data }, { on := 9, ground := Ground.chain }], guard := none }) := by kernel_rfl
      obtain rfl := Option.some.inj (hlit.symm.trans hoi)
      have r75 : b.tmps.getD 75 undef = (.agg #[.int .i64 c0, .int .i64 c1]) := rd (hT.at 10 (by kernel_rfl) (pre_of hpre 10 (by kernel_rfl)))
      have r76 : b.tmps.getD 76 undef = (.agg #[.int .i64 d0, .int .i64 d1]) := rd (hT.at 11 (by kernel_rfl) (pre_of hpre 11 (by kernel_rfl)))
      refine op_go hoi (want_all rfl) fun K hK => ?_
      clear hT hpre hlit hoi
      go_simp
      go_at_call 76
      refine (cl5 _).mono ?_; rintro e w2 ⟨rfl, hb⟩; replace ac0 := ck hb ac0; replace ac1 := ck hb ac1; replace bc0 := ck hb bc0; replace bc1 := ck hb bc1; replace cc0 := ck hb cc0; replace cc1 := ck hb cc1; replace ddc0 := ck hb ddc0; replace ddc1 := ck hb ddc1; replace szw : w.heap.size ≤ w2.heap.size := Nat.le_trans szw hb.size; replace fx : L 14 = true → w.heap.size ≤ kx ∧ w2.frozen? ⟨kx, 0, none⟩ = false ∧ w2.frozen? ⟨kx, 1, none⟩ = false ∧ ∃ u0 u1 : Int, w2.cell? ⟨kx, 0, none⟩ = some (Value.int .i64 u0) ∧ w2.cell? ⟨kx, 1, none⟩ = some (Value.int .i64 u1) ∧ (L 16 = true → u0 = g0 ∧ u1 = g1) := fun h => (by obtain ⟨ge, fz0, fz1, u0, u1, ce0, ce1, us⟩ := fx h; exact ⟨ge, cf hb (World.block_lt_of_cell? _ _ ce0) fz0, cf hb (World.block_lt_of_cell? _ _ ce1) fz1, u0, u1, ck hb ce0, ck hb ce1, us⟩); replace fy : L 15 = true → w.heap.size ≤ ky ∧ w2.frozen? ⟨ky, 0, none⟩ = false ∧ w2.frozen? ⟨ky, 1, none⟩ = false ∧ ∃ u0 u1 : Int, w2.cell? ⟨ky, 0, none⟩ = some (Value.int .i64 u0) ∧ w2.cell? ⟨ky, 1, none⟩ = some (Value.int .i64 u1) ∧ (L 17 = true → u0 = r0 ∧ u1 = r1) := fun h => (by obtain ⟨ge, fz0, fz1, u0, u1, ce0, ce1, us⟩ := fy h; exact ⟨ge, cf hb (World.block_lt_of_cell? _ _ ce0) fz0, cf hb (World.block_lt_of_cell? _ _ ce1) fz1, u0, u1, ck hb ce0, ck hb ce1, us⟩); replace HB : Below W.heap.size W w2 := bt HB hb; clear hb
      exact hK _ _ ⟨(kx, ky), fun _ _ => rfl, rfl, ac0, ac1, bc0, bc1, cc0, cc1, ddc0, ddc1, HB, szw, fx, sx, fy, sy, dxy⟩
    · have hlit : (regOps Try.f57 5)[13]? = some ({ dst := some 78, op := Op.call { callee := Callee.value (Operand.func 77), args := #[Operand.tmp 74, Operand.tmp 77], argTypes := #[23, 23] }, type := 23, pos := "geom.go:256", after := #[{ on := 9, ground := Ground.data }, { on := 12, ground := Ground.data }, { on := 12, ground := Ground.chain }], guard := none }) := by kernel_rfl
      obtain rfl := Option.some.inj (hlit.symm.trans hoi)
      have r74 : b.tmps.getD 74 undef = (.agg #[.int .i64 u0, .int .i64 u1]) := rd (hT.at 9 (by kernel_rfl) (pre_of hpre 9 (by kernel_rfl)))
      have r77 : b.tmps.getD 77 undef = (.agg #[.int .i64 q0, .int .i64 q1]) := rd (hT.at 12 (by kernel_rfl) (pre_of hpre 12 (by kernel_rfl)))
      refine op_go hoi (want_all rfl) fun K hK => ?_
      clear hT hpre hlit hoi
      go_simp
      go_at_call 77
      refine (cl6 _).mono ?_; rintro e w2 ⟨rfl, hb⟩; replace ac0 := ck hb ac0; replace ac1 := ck hb ac1; replace bc0 := ck hb bc0; replace bc1 := ck hb bc1; replace cc0 := ck hb cc0; replace cc1 := ck hb cc1; replace ddc0 := ck hb ddc0; replace ddc1 := ck hb ddc1; replace szw : w.heap.size ≤ w2.heap.size := Nat.le_trans szw hb.size; replace fx : L 14 = true → w.heap.size ≤ kx ∧ w2.frozen? ⟨kx, 0, none⟩ = false ∧ w2.frozen? ⟨kx, 1, none⟩ = false ∧ ∃ u0 u1 : Int, w2.cell? ⟨kx, 0, none⟩ = some (Value.int .i64 u0) ∧ w2.cell? ⟨kx, 1, none⟩ = some (Value.int .i64 u1) ∧ (L 16 = true → u0 = g0 ∧ u1 = g1) := fun h => (by obtain ⟨ge, fz0, fz1, u0, u1, ce0, ce1, us⟩ := fx h; exact ⟨ge, cf hb (World.block_lt_of_cell? _ _ ce0) fz0, cf hb (World.block_lt_of_cell? _ _ ce1) fz1, u0, u1, ck hb ce0, ck hb ce1, us⟩); replace fy : L 15 = true → w.heap.size ≤ ky ∧ w2.frozen? ⟨ky, 0, none⟩ = false ∧ w2.frozen? ⟨ky, 1, none⟩ = false ∧ ∃ u0 u1 : Int, w2.cell? ⟨ky, 0, none⟩ = some (Value.int .i64 u0) ∧ w2.cell? ⟨ky, 1, none⟩ = some (Value.int .i64 u1) ∧ (L 17 = true → u0 = r0 ∧ u1 = r1) := fun h => (by obtain ⟨ge, fz0, fz1, u0, u1, ce0, ce1, us⟩ := fy h; exact ⟨ge, cf hb (World.block_lt_of_cell? _ _ ce0) fz0, cf hb (World.block_lt_of_cell? _ _ ce1) fz1, u0, u1, ck hb ce0, ck hb ce1, us⟩); replace HB : Below W.heap.size W w2 := bt HB hb; clear hb
      exact hK _ _ ⟨(kx, ky), fun _ _ => rfl, rfl, ac0, ac1, bc0, bc1, cc0, cc1, ddc0, ddc1, HB, szw, fx, sx, fy, sy, dxy⟩
    · have hlit : (regOps Try.f57 5)[14]? = some ({ dst := some 13, op := Op.alloc 23, type := 0, pos := "geom.go:256", after := #[], guard := none }) := by kernel_rfl
      obtain rfl := Option.some.inj (hlit.symm.trans hoi)
      refine op_go hoi (want_all rfl) fun K hK => ?_
      clear hT hpre hlit hoi
      go_simp
      have lw_ac0 := World.block_lt_of_cell? w' _ ac0
      have lw_ac1 := World.block_lt_of_cell? w' _ ac1
      have lw_bc0 := World.block_lt_of_cell? w' _ bc0
      have lw_bc1 := World.block_lt_of_cell? w' _ bc1
      have lw_cc0 := World.block_lt_of_cell? w' _ cc0
      have lw_cc1 := World.block_lt_of_cell? w' _ cc1
      have lw_ddc0 := World.block_lt_of_cell? w' _ ddc0
      have lw_ddc1 := World.block_lt_of_cell? w' _ ddc1
      refine hK _ _ ⟨(w'.heap.size, ky), fun j hj => ?_, rfl, by go_simp, by go_simp, by go_simp, by go_simp, by go_simp, by go_simp, by go_simp, by go_simp, ba HB _, by simp; omega, fun _ => ⟨szw, by go_simp, by go_simp, 0, 0, by go_simp, by go_simp, fun h => absurd ((sx h).symm.trans hun) (by decide)⟩, fun _ => rfl, fun h => (by obtain ⟨ge, fz0, fz1, u0, u1, ce0, ce1, us⟩ := fy h; have lq := World.block_lt_of_cell? _ _ ce0; have lp := Nat.ne_of_lt lq; exact ⟨ge, by go_simp, by go_simp, u0, u1, by go_simp, by go_simp, us⟩), sy, fun _ h => (by obtain ⟨ge, _, _, u0, u1, ce0, ce1, us⟩ := fy h; exact fun e => Nat.ne_of_lt (World.block_lt_of_cell? _ _ ce0) e.symm)⟩
      by_cases e : j = 14
      · subst e; rw [hun] at hj; cases hj
      · unfold region57_5V; split <;> first | rfl | (exact absurd rfl e)
    · have hlit : (regOps Try.f57 5)[15]? = some ({ dst := some 14, op := Op.alloc 23, type := 0, pos := "geom.go:256", after := #[], guard := none }) := by kernel_rfl
      obtain rfl := Option.some.inj (hlit.symm.trans hoi)
      refine op_go hoi (want_all rfl) fun K hK => ?_
      clear hT hpre hlit hoi
      go_simp
      have lw_ac0 := World.block_lt_of_cell? w' _ ac0
      have lw_ac1 := World.block_lt_of_cell? w' _ ac1
      have lw_bc0 := World.block_lt_of_cell? w' _ bc0
      have lw_bc1 := World.block_lt_of_cell? w' _ bc1
      have lw_cc0 := World.block_lt_of_cell? w' _ cc0
      have lw_cc1 := World.block_lt_of_cell? w' _ cc1
      have lw_ddc0 := World.block_lt_of_cell? w' _ ddc0
      have lw_ddc1 := World.block_lt_of_cell? w' _ ddc1
      refine hK _ _ ⟨(kx, w'.heap.size), fun j hj => ?_, rfl, by go_simp, by go_simp, by go_simp, by go_simp, by go_simp, by go_simp, by go_simp, by go_simp, ba HB _, by simp; omega, fun h => (by obtain ⟨ge, fz0, fz1, u0, u1, ce0, ce1, us⟩ := fx h; have lq := World.block_lt_of_cell? _ _ ce0; have lp := Nat.ne_of_lt lq; exact ⟨ge, by go_simp, by go_simp, u0, u1, by go_simp, by go_simp, us⟩), sx, fun _ => ⟨szw, by go_simp, by go_simp, 0, 0, by go_simp, by go_simp, fun h => absurd ((sy h).symm.trans hun) (by decide)⟩, fun _ => rfl, fun h _ => (by obtain ⟨ge, _, _, u0, u1, ce0, ce1, us⟩ := fx h; exact Nat.ne_of_lt (World.block_lt_of_cell? _ _ ce0))⟩
      by_cases e : j = 15
      · subst e; rw [hun] at hj; cases hj
      · unfold region57_5V; split <;> first | rfl | (exact absurd rfl e)
    · have hlit : (regOps Try.f57 5)[16]? = some ({ dst := none, op := Op.store 23 (Operand.tmp 13) (Operand.tmp 71), type := 0, pos := "geom.go:256", after := #[{ on := 14, ground := Ground.data }, { on := 6, ground := Ground.data }, { on := 13, ground := Ground.chain }, { on := 0, ground := Ground.phase }, { on := 1, ground := Ground.phase }, { on := 2, ground := Ground.phase }, { on := 3, ground := Ground.phase }, { on := 4, ground := Ground.phase }, { on := 5, ground := Ground.phase }, { on := 6, ground := Ground.phase }, { on := 7, ground := Ground.textOnly Departure.lateStores }, { on := 8, ground := Ground.textOnly Departure.lateStores }, { on := 9, ground := Ground.textOnly Departure.lateStoresUnsure }, { on := 10, ground := Ground.textOnly Departure.lateStores }, { on := 11, ground := Ground.textOnly Departure.lateStores }, { on := 12, ground := Ground.textOnly Departure.lateStoresUnsure }, { on := 13, ground := Ground.textOnly Departure.lateStoresUnsure }, { on := 14, ground := Ground.phase }, { on := 15, ground := Ground.phase }], guard := none }) := by kernel_rfl
      obtain rfl := Option.some.inj (hlit.symm.trans hoi)
      have r13 : b.tmps.getD 13 undef = (.pointer (some ⟨kx, 0, none⟩)) := rd (hT.at 14 (by kernel_rfl) (pre_of hpre 14 (by kernel_rfl)))
      have r71 : b.tmps.getD 71 undef = (.agg #[.int .i64 g0, .int .i64 g1]) := rd (hT.at 6 (by kernel_rfl) (pre_of hpre 6 (by kernel_rfl)))
      have pr : L 14 = true := pre_of hpre 14 (by kernel_rfl)
      obtain ⟨ge, fz0, fz1, u0, u1, ce0, ce1, -⟩ := fx pr
      have ne_ka : ¬ ka = kx := Nat.ne_of_lt (Nat.lt_of_lt_of_le lt_ka ge)
      have nf_ka : ¬ kx = ka := fun h => ne_ka h.symm
      have ne_kb : ¬ kb = kx := Nat.ne_of_lt (Nat.lt_of_lt_of_le lt_kb ge)
      have nf_kb : ¬ kx = kb := fun h => ne_kb h.symm
      have ne_kc : ¬ kc = kx := Nat.ne_of_lt (Nat.lt_of_lt_of_le lt_kc ge)
      have nf_kc : ¬ kx = kc := fun h => ne_kc h.symm
      have ne_kd : ¬ kd = kx := Nat.ne_of_lt (Nat.lt_of_lt_of_le lt_kd ge)
      have nf_kd : ¬ kx = kd := fun h => ne_kd h.symm
      refine op_go hoi (want_all rfl) fun K hK => ?_
      clear hT hpre hlit hoi
      go_simp
      exact hK _ _ ⟨(kx, ky), fun _ _ => rfl, rfl, by go_simp, by go_simp, by go_simp, by go_simp, by go_simp, by go_simp, by go_simp, by go_simp, bs (bs (HB) (Nat.le_trans sz0 ge) _) (Nat.le_trans sz0 ge) _, by simp; omega, fun _ => ⟨ge, by go_simp, by go_simp, g0, g1, by go_simp, by go_simp, fun _ => ⟨rfl, rfl⟩⟩, fun _ => pr, fun h => (by have nk := dxy pr h; have nj := nk.symm; obtain ⟨gf, gz0, gz1, v0, v1, cg0, cg1, us⟩ := fy h; exact ⟨gf, by go_simp, by go_simp, v0, v1, by go_simp, by go_simp, us⟩), sy, dxy⟩
    · have hlit : (regOps Try.f57 5)[17]? = some ({ dst := none, op := Op.store 23 (Operand.tmp 14) (Operand.tmp 78), type := 0, pos := "geom.go:256", after := #[{ on := 15, ground := Ground.data }, { on := 13, ground := Ground.data }, { on := 16, ground := Ground.chain }, { on := 0, ground := Ground.phase }, { on := 1, ground := Ground.phase }, { on := 2, ground := Ground.phase }, { on := 3, ground := Ground.phase }, { on := 4, ground := Ground.phase }, { on := 5, ground := Ground.phase }, { on := 6, ground := Ground.phase }, { on := 7, ground := Ground.phase }, { on := 8, ground := Ground.phase }, { on := 9, ground := Ground.phase }, { on := 10, ground := Ground.phase }, { on := 11, ground := Ground.phase }, { on := 12, ground := Ground.phase }, { on := 13, ground := Ground.phase }, { on := 14, ground := Ground.phase }, { on := 15, ground := Ground.phase }, { on := 16, ground := Ground.phase }], guard := none }) := by kernel_rfl
      obtain rfl := Option.some.inj (hlit.symm.trans hoi)
      have r14 : b.tmps.getD 14 undef = (.pointer (some ⟨ky, 0, none⟩)) := rd (hT.at 15 (by kernel_rfl) (pre_of hpre 15 (by kernel_rfl)))
      have r78 : b.tmps.getD 78 undef = (.agg #[.int .i64 r0, .int .i64 r1]) := rd (hT.at 13 (by kernel_rfl) (pre_of hpre 13 (by kernel_rfl)))
      have pr : L 15 = true := pre_of hpre 15 (by kernel_rfl)
      obtain ⟨ge, fz0, fz1, u0, u1, ce0, ce1, -⟩ := fy pr
      have ne_ka : ¬ ka = ky := Nat.ne_of_lt (Nat.lt_of_lt_of_le lt_ka ge)
      have nf_ka : ¬ ky = ka := fun h => ne_ka h.symm
      have ne_kb : ¬ kb = ky := Nat.ne_of_lt (Nat.lt_of_lt_of_le lt_kb ge)
      have nf_kb : ¬ ky = kb := fun h => ne_kb h.symm
      have ne_kc : ¬ kc = ky := Nat.ne_of_lt (Nat.lt_of_lt_of_le lt_kc ge)
      have nf_kc : ¬ ky = kc := fun h => ne_kc h.symm
      have ne_kd : ¬ kd = ky := Nat.ne_of_lt (Nat.lt_of_lt_of_le lt_kd ge)
      have nf_kd : ¬ ky = kd := fun h => ne_kd h.symm
      refine op_go hoi (want_all rfl) fun K hK => ?_
      clear hT hpre hlit hoi
      go_simp
      exact hK _ _ ⟨(kx, ky), fun _ _ => rfl, rfl, by go_simp, by go_simp, by go_simp, by go_simp, by go_simp, by go_simp, by go_simp, by go_simp, bs (bs (HB) (Nat.le_trans sz0 ge) _) (Nat.le_trans sz0 ge) _, by simp; omega, fun h => (by have nk := (dxy h pr).symm; have nj := nk.symm; obtain ⟨gf, gz0, gz1, v0, v1, cg0, cg1, us⟩ := fx h; exact ⟨gf, by go_simp, by go_simp, v0, v1, by go_simp, by go_simp, us⟩), sx, fun _ => ⟨ge, by go_simp, by go_simp, r0, r1, by go_simp, by go_simp, fun _ => ⟨rfl, rfl⟩⟩, fun _ => pr, dxy⟩
  · intro g b w' hT hS
    rw [hT.all ht]
    have hn : (regOps Try.f57 5).size = 18 := by kernel_rfl
    rw [hn] at hS ⊢
    obtain ⟨kx, ky⟩ := g
    dsimp only at hS
    obtain ⟨ac0, ac1, bc0, bc1, cc0, cc1, ddc0, ddc1, HB, szw, fx, sx, fy, sy, dxy⟩ := hS
    obtain ⟨gex, fzx0, fzx1, ux0, ux1, cex0, cex1, usx⟩ := fx rfl
    obtain ⟨rfl, rfl⟩ := usx rfl
    obtain ⟨gey, fzy0, fzy1, uy0, uy1, cey0, cey1, usy⟩ := fy rfl
    obtain ⟨rfl, rfl⟩ := usy rfl
    exact he kx ky w' ⟨ac0, ac1, bc0, bc1, cc0, cc1, ddc0, ddc1, HB⟩ ⟨cex0, cex1, cey0, cey1, fzx0, fzx1, fzy0, fzy1, gex, gey, dxy rfl rfl⟩

/-- What each operation of the region leaves. -/
def region57_11V (a0 a1 b0 b1 c0 c1 d0 d1 y1 y2 y3 y4 : Int) : Nat → Value
  | 0 => .agg #[.int .i64 a0, .int .i64 a1]
  | 1 => .agg #[.int .i64 c0, .int .i64 c1]
  | 2 => .agg #[.int .i64 d0, .int .i64 d1]
  | 3 => .int .i64 y1
  | 4 => .agg #[.int .i64 b0, .int .i64 b1]
  | 5 => .agg #[.int .i64 c0, .int .i64 c1]
  | 6 => .agg #[.int .i64 d0, .int .i64 d1]
  | 7 => .int .i64 y2
  | 8 => .agg #[.int .i64 c0, .int .i64 c1]
  | 9 => .agg #[.int .i64 a0, .int .i64 a1]
  | 10 => .agg #[.int .i64 b0, .int .i64 b1]
  | 11 => .int .i64 y3
  | 12 => .agg #[.int .i64 d0, .int .i64 d1]
  | 13 => .agg #[.int .i64 a0, .int .i64 a1]
  | 14 => .agg #[.int .i64 b0, .int .i64 b1]
  | 15 => .int .i64 y4
  | 16 => .int .i64 (mx (mx (mx y1 y2) y3) y4)
  | 17 => .int .i64 (mx (mx (mx y1 y2) y3) y4)
  | _ => undef

set_option maxHeartbeats 4000000 in
set_option maxRecDepth 100000 in
theorem region57_11 (a0 a1 b0 b1 c0 c1 d0 d1 y1 y2 y3 y4 : Int) (ka kb kc kd : Nat) (W : World) (h1 : touch ⟨a0, a1⟩ ⟨c0, c1⟩ ⟨d0, d1⟩ = y1) (h2 : touch ⟨b0, b1⟩ ⟨c0, c1⟩ ⟨d0, d1⟩ = y2) (h3 : touch ⟨c0, c1⟩ ⟨a0, a1⟩ ⟨b0, b1⟩ = y3) (h4 : touch ⟨d0, d1⟩ ⟨a0, a1⟩ ⟨b0, b1⟩ = y4) {id : Nat} {ops : Array Oper} {Q : Exit → Act → World → Prop} {a : Act} {w : World}
    (ho : ops = (regOps Try.f57 11)) (hsz : a.tmps.size = 110) (t4 : a.tmps[4]? = some (.pointer (some ⟨ka, 0, none⟩))) (t5 : a.tmps[5]? = some (.pointer (some ⟨kb, 0, none⟩))) (t6 : a.tmps[6]? = some (.pointer (some ⟨kc, 0, none⟩))) (t7 : a.tmps[7]? = some (.pointer (some ⟨kd, 0, none⟩)))
    (h0 : w.drew.cell? ⟨ka, 0, none⟩ = some (.int .i64 a0) ∧ w.drew.cell? ⟨ka, 1, none⟩ = some (.int .i64 a1) ∧ w.drew.cell? ⟨kb, 0, none⟩ = some (.int .i64 b0) ∧ w.drew.cell? ⟨kb, 1, none⟩ = some (.int .i64 b1) ∧ w.drew.cell? ⟨kc, 0, none⟩ = some (.int .i64 c0) ∧ w.drew.cell? ⟨kc, 1, none⟩ = some (.int .i64 c1) ∧ w.drew.cell? ⟨kd, 0, none⟩ = some (.int .i64 d0) ∧ w.drew.cell? ⟨kd, 1, none⟩ = some (.int .i64 d1) ∧ Below W.heap.size W w.drew)
    (he : ∀ w', w'.cell? ⟨ka, 0, none⟩ = some (.int .i64 a0) ∧ w'.cell? ⟨ka, 1, none⟩ = some (.int .i64 a1) ∧ w'.cell? ⟨kb, 0, none⟩ = some (.int .i64 b0) ∧ w'.cell? ⟨kb, 1, none⟩ = some (.int .i64 b1) ∧ w'.cell? ⟨kc, 0, none⟩ = some (.int .i64 c0) ∧ w'.cell? ⟨kc, 1, none⟩ = some (.int .i64 c1) ∧ w'.cell? ⟨kd, 0, none⟩ = some (.int .i64 d0) ∧ w'.cell? ⟨kd, 1, none⟩ = some (.int .i64 d1) ∧ Below W.heap.size W w' → Q .normal ⟨((((((((((((((((((a.tmps.setIfInBounds 93 (.agg #[.int .i64 a0, .int .i64 a1])).setIfInBounds 94 (.agg #[.int .i64 c0, .int .i64 c1])).setIfInBounds 95 (.agg #[.int .i64 d0, .int .i64 d1])).setIfInBounds 96 (.int .i64 y1)).setIfInBounds 97 (.agg #[.int .i64 b0, .int .i64 b1])).setIfInBounds 98 (.agg #[.int .i64 c0, .int .i64 c1])).setIfInBounds 99 (.agg #[.int .i64 d0, .int .i64 d1])).setIfInBounds 100 (.int .i64 y2)).setIfInBounds 101 (.agg #[.int .i64 c0, .int .i64 c1])).setIfInBounds 102 (.agg #[.int .i64 a0, .int .i64 a1])).setIfInBounds 103 (.agg #[.int .i64 b0, .int .i64 b1])).setIfInBounds 104 (.int .i64 y3)).setIfInBounds 105 (.agg #[.int .i64 d0, .int .i64 d1])).setIfInBounds 106 (.agg #[.int .i64 a0, .int .i64 a1])).setIfInBounds 107 (.agg #[.int .i64 b0, .int .i64 b1])).setIfInBounds 108 (.int .i64 y4)).setIfInBounds 109 (.int .i64 (mx (mx (mx y1 y2) y3) y4))).setIfInBounds 8 (.int .i64 (mx (mx (mx y1 y2) y3) y4))), a.defers⟩ w') :
    (Code.region id ops true).wp Try.prog Q a w := by
  have ht : tidy (regOps Try.f57 11) a.tmps.size = true := by rw [hsz]; kernel_rfl
  refine region_tab (G := Unit) (fun _ => (region57_11V a0 a1 b0 b1 c0 c1 d0 d1 y1 y2 y3 y4  )) (fun _ _ w' => w'.cell? ⟨ka, 0, none⟩ = some (.int .i64 a0) ∧ w'.cell? ⟨ka, 1, none⟩ = some (.int .i64 a1) ∧ w'.cell? ⟨kb, 0, none⟩ = some (.int .i64 b0) ∧ w'.cell? ⟨kb, 1, none⟩ = some (.int .i64 b1) ∧ w'.cell? ⟨kc, 0, none⟩ = some (.int .i64 c0) ∧ w'.cell? ⟨kc, 1, none⟩ = some (.int .i64 c1) ∧ w'.cell? ⟨kd, 0, none⟩ = some (.int .i64 d0) ∧ w'.cell? ⟨kd, 1, none⟩ = some (.int .i64 d1) ∧ Below W.heap.size W w') () (by kernel_rfl) ho ht h0 ?_ ?_
  · intro i o hoi g L b w' hun hpre hT hS
    clear he h0 ho hsz ht
    have hi : i < (regOps Try.f57 11).size := (Array.getElem?_eq_some_iff.1 hoi).1
    rw [show (regOps Try.f57 11).size = 18 by kernel_rfl] at hi
    obtain ⟨ac0, ac1, bc0, bc1, cc0, cc1, ddc0, ddc1, HB⟩ := hS
    have hcases : i = 0 ∨ i = 1 ∨ i = 2 ∨ i = 3 ∨ i = 4 ∨ i = 5 ∨ i = 6 ∨ i = 7 ∨ i = 8 ∨ i = 9 ∨ i = 10 ∨ i = 11 ∨ i = 12 ∨ i = 13 ∨ i = 14 ∨ i = 15 ∨ i = 16 ∨ i = 17 := by omega
    rcases hcases with rfl | rfl | rfl | rfl | rfl | rfl | rfl | rfl | rfl | rfl | rfl | rfl | rfl | rfl | rfl | rfl | rfl | rfl
    · have hlit : (regOps Try.f57 11)[0]? = some ({ dst := some 93, op := Op.load 23 (Operand.tmp 4), type := 23, pos := "geom.go:265", after := #[], guard := none }) := by kernel_rfl
      obtain rfl := Option.some.inj (hlit.symm.trans hoi)
      have r4 : b.tmps.getD 4 undef = (.pointer (some ⟨ka, 0, none⟩)) := rd ((hT.old 4 (by kernel_rfl)).trans t4)
      refine op_go hoi (want_all rfl) fun K hK => ?_
      clear hT hpre hun hlit hoi
      go_simp
      exact hK _ _ ⟨(), fun _ _ => rfl, rfl, ac0, ac1, bc0, bc1, cc0, cc1, ddc0, ddc1, HB⟩
    · have hlit : (regOps Try.f57 11)[1]? = some ({ dst := some 94, op := Op.load 23 (Operand.tmp 6), type := 23, pos := "geom.go:265", after := #[], guard := none }) := by kernel_rfl
      obtain rfl := Option.some.inj (hlit.symm.trans hoi)
      have r6 : b.tmps.getD 6 undef = (.pointer (some ⟨kc, 0, none⟩)) := rd ((hT.old 6 (by kernel_rfl)).trans t6)
      refine op_go hoi (want_all rfl) fun K hK => ?_
      clear hT hpre hun hlit hoi
      go_simp
      exact hK _ _ ⟨(), fun _ _ => rfl, rfl, ac0, ac1, bc0, bc1, cc0, cc1, ddc0, ddc1, HB⟩
    · have hlit : (regOps Try.f57 11)[2]? = some ({ dst := some 95, op := Op.load 23 (Operand.tmp 7), type := 23, pos := "geom.go:265", after := #[], guard := none }) := by kernel_rfl
      obtain rfl := Option.some.inj (hlit.symm.trans hoi)
      have r7 : b.tmps.getD 7 undef = (.pointer (some ⟨kd, 0, none⟩)) := rd ((hT.old 7 (by kernel_rfl)).trans t7)
      refine op_go hoi (want_all rfl) fun K hK => ?_
      clear hT hpre hun hlit hoi
      go_simp
      exact hK _ _ ⟨(), fun _ _ => rfl, rfl, ac0, ac1, bc0, bc1, cc0, cc1, ddc0, ddc1, HB⟩
    · have hlit : (regOps Try.f57 11)[3]? = some ({ dst := some 96, op := Op.call { callee := Callee.value (Operand.func 78), args := #[Operand.tmp 93, Operand.tmp 94, Operand.tmp 95], argTypes := #[23, 23, 23] }, type := 3, pos := "geom.go:265", after := #[{ on := 0, ground := Ground.data }, { on := 1, ground := Ground.data }, { on := 2, ground := Ground.data }], guard := none }) := by kernel_rfl
      obtain rfl := Option.some.inj (hlit.symm.trans hoi)
      have r93 : b.tmps.getD 93 undef = (.agg #[.int .i64 a0, .int .i64 a1]) := rd (hT.at 0 (by kernel_rfl) (pre_of hpre 0 (by kernel_rfl)))
      have r94 : b.tmps.getD 94 undef = (.agg #[.int .i64 c0, .int .i64 c1]) := rd (hT.at 1 (by kernel_rfl) (pre_of hpre 1 (by kernel_rfl)))
      have r95 : b.tmps.getD 95 undef = (.agg #[.int .i64 d0, .int .i64 d1]) := rd (hT.at 2 (by kernel_rfl) (pre_of hpre 2 (by kernel_rfl)))
      refine op_go hoi (want_all rfl) fun K hK => ?_
      clear hT hpre hun hlit hoi
      go_simp
      go_at_call 78
      refine (touch78 _ _ _ _ _ _ _).mono ?_; rw [h1]; rintro e w2 ⟨rfl, hb⟩; replace ac0 := ck hb (a := ⟨ka, 0, none⟩) (v := .int .i64 a0) (by go_simp); replace ac1 := ck hb (a := ⟨ka, 1, none⟩) (v := .int .i64 a1) (by go_simp); replace bc0 := ck hb (a := ⟨kb, 0, none⟩) (v := .int .i64 b0) (by go_simp); replace bc1 := ck hb (a := ⟨kb, 1, none⟩) (v := .int .i64 b1) (by go_simp); replace cc0 := ck hb (a := ⟨kc, 0, none⟩) (v := .int .i64 c0) (by go_simp); replace cc1 := ck hb (a := ⟨kc, 1, none⟩) (v := .int .i64 c1) (by go_simp); replace ddc0 := ck hb (a := ⟨kd, 0, none⟩) (v := .int .i64 d0) (by go_simp); replace ddc1 := ck hb (a := ⟨kd, 1, none⟩) (v := .int .i64 d1) (by go_simp); replace HB : Below W.heap.size W w2 := bt HB hb; clear hb
      exact hK _ _ ⟨(), fun _ _ => rfl, rfl, ac0, ac1, bc0, bc1, cc0, cc1, ddc0, ddc1, HB⟩
    · have hlit : (regOps Try.f57 11)[4]? = some ({ dst := some 97, op := Op.load 23 (Operand.tmp 5), type := 23, pos := "geom.go:265", after := #[], guard := none }) := by kernel_rfl
      obtain rfl := Option.some.inj (hlit.symm.trans hoi)
      have r5 : b.tmps.getD 5 undef = (.pointer (some ⟨kb, 0, none⟩)) := rd ((hT.old 5 (by kernel_rfl)).trans t5)
      refine op_go hoi (want_all rfl) fun K hK => ?_
      clear hT hpre hun hlit hoi
      go_simp
      exact hK _ _ ⟨(), fun _ _ => rfl, rfl, ac0, ac1, bc0, bc1, cc0, cc1, ddc0, ddc1, HB⟩
    · have hlit : (regOps Try.f57 11)[5]? = some ({ dst := some 98, op := Op.load 23 (Operand.tmp 6), type := 23, pos := "geom.go:265", after := #[], guard := none }) := by kernel_rfl
      obtain rfl := Option.some.inj (hlit.symm.trans hoi)
      have r6 : b.tmps.getD 6 undef = (.pointer (some ⟨kc, 0, none⟩)) := rd ((hT.old 6 (by kernel_rfl)).trans t6)
      refine op_go hoi (want_all rfl) fun K hK => ?_
      clear hT hpre hun hlit hoi
      go_simp
      exact hK _ _ ⟨(), fun _ _ => rfl, rfl, ac0, ac1, bc0, bc1, cc0, cc1, ddc0, ddc1, HB⟩
    · have hlit : (regOps Try.f57 11)[6]? = some ({ dst := some 99, op := Op.load 23 (Operand.tmp 7), type := 23, pos := "geom.go:265", after := #[], guard := none }) := by kernel_rfl
      obtain rfl := Option.some.inj (hlit.symm.trans hoi)
      have r7 : b.tmps.getD 7 undef = (.pointer (some ⟨kd, 0, none⟩)) := rd ((hT.old 7 (by kernel_rfl)).trans t7)
      refine op_go hoi (want_all rfl) fun K hK => ?_
      clear hT hpre hun hlit hoi
      go_simp
      exact hK _ _ ⟨(), fun _ _ => rfl, rfl, ac0, ac1, bc0, bc1, cc0, cc1, ddc0, ddc1, HB⟩
    · have hlit : (regOps Try.f57 11)[7]? = some ({ dst := some 100, op := Op.call { callee := Callee.value (Operand.func 78), args := #[Operand.tmp 97, Operand.tmp 98, Operand.tmp 99], argTypes := #[23, 23, 23] }, type := 3, pos := "geom.go:265", after := #[{ on := 4, ground := Ground.data }, { on := 5, ground := Ground.data }, { on := 6, ground := Ground.data }, { on := 3, ground := Ground.chain }], guard := none }) := by kernel_rfl
      obtain rfl := Option.some.inj (hlit.symm.trans hoi)
      have r97 : b.tmps.getD 97 undef = (.agg #[.int .i64 b0, .int .i64 b1]) := rd (hT.at 4 (by kernel_rfl) (pre_of hpre 4 (by kernel_rfl)))
      have r98 : b.tmps.getD 98 undef = (.agg #[.int .i64 c0, .int .i64 c1]) := rd (hT.at 5 (by kernel_rfl) (pre_of hpre 5 (by kernel_rfl)))
      have r99 : b.tmps.getD 99 undef = (.agg #[.int .i64 d0, .int .i64 d1]) := rd (hT.at 6 (by kernel_rfl) (pre_of hpre 6 (by kernel_rfl)))
      refine op_go hoi (want_all rfl) fun K hK => ?_
      clear hT hpre hun hlit hoi
      go_simp
      go_at_call 78
      refine (touch78 _ _ _ _ _ _ _).mono ?_; rw [h2]; rintro e w2 ⟨rfl, hb⟩; replace ac0 := ck hb (a := ⟨ka, 0, none⟩) (v := .int .i64 a0) (by go_simp); replace ac1 := ck hb (a := ⟨ka, 1, none⟩) (v := .int .i64 a1) (by go_simp); replace bc0 := ck hb (a := ⟨kb, 0, none⟩) (v := .int .i64 b0) (by go_simp); replace bc1 := ck hb (a := ⟨kb, 1, none⟩) (v := .int .i64 b1) (by go_simp); replace cc0 := ck hb (a := ⟨kc, 0, none⟩) (v := .int .i64 c0) (by go_simp); replace cc1 := ck hb (a := ⟨kc, 1, none⟩) (v := .int .i64 c1) (by go_simp); replace ddc0 := ck hb (a := ⟨kd, 0, none⟩) (v := .int .i64 d0) (by go_simp); replace ddc1 := ck hb (a := ⟨kd, 1, none⟩) (v := .int .i64 d1) (by go_simp); replace HB : Below W.heap.size W w2 := bt HB hb; clear hb
      exact hK _ _ ⟨(), fun _ _ => rfl, rfl, ac0, ac1, bc0, bc1, cc0, cc1, ddc0, ddc1, HB⟩
    · have hlit : (regOps Try.f57 11)[8]? = some ({ dst := some 101, op := Op.load 23 (Operand.tmp 6), type := 23, pos := "geom.go:265", after := #[], guard := none }) := by kernel_rfl
      obtain rfl := Option.some.inj (hlit.symm.trans hoi)
      have r6 : b.tmps.getD 6 undef = (.pointer (some ⟨kc, 0, none⟩)) := rd ((hT.old 6 (by kernel_rfl)).trans t6)
      refine op_go hoi (want_all rfl) fun K hK => ?_
      clear hT hpre hun hlit hoi
      go_simp
      exact hK _ _ ⟨(), fun _ _ => rfl, rfl, ac0, ac1, bc0, bc1, cc0, cc1, ddc0, ddc1, HB⟩
    · have hlit : (regOps Try.f57 11)[9]? = some ({ dst := some 102, op := Op.load 23 (Operand.tmp 4), type := 23, pos := "geom.go:265", after := #[], guard := none }) := by kernel_rfl
      obtain rfl := Option.some.inj (hlit.symm.trans hoi)
      have r4 : b.tmps.getD 4 undef = (.pointer (some ⟨ka, 0, none⟩)) := rd ((hT.old 4 (by kernel_rfl)).trans t4)
      refine op_go hoi (want_all rfl) fun K hK => ?_
      clear hT hpre hun hlit hoi
      go_simp
      exact hK _ _ ⟨(), fun _ _ => rfl, rfl, ac0, ac1, bc0, bc1, cc0, cc1, ddc0, ddc1, HB⟩
    · have hlit : (regOps Try.f57 11)[10]? = some ({ dst := some 103, op := Op.load 23 (Operand.tmp 5), type := 23, pos := "geom.go:265", after := #[], guard := none }) := by kernel_rfl
      obtain rfl := Option.some.inj (hlit.symm.trans hoi)
      have r5 : b.tmps.getD 5 undef = (.pointer (some ⟨kb, 0, none⟩)) := rd ((hT.old 5 (by kernel_rfl)).trans t5)
      refine op_go hoi (want_all rfl) fun K hK => ?_
      clear hT hpre hun hlit hoi
      go_simp
      exact hK _ _ ⟨(), fun _ _ => rfl, rfl, ac0, ac1, bc0, bc1, cc0, cc1, ddc0, ddc1, HB⟩
    · have hlit : (regOps Try.f57 11)[11]? = some ({ dst := some 104, op := Op.call { callee := Callee.value (Operand.func 78), args := #[Operand.tmp 101, Operand.tmp 102, Operand.tmp 103], argTypes := #[23, 23, 23] }, type := 3, pos := "geom.go:265", after := #[{ on := 8, ground := Ground.data }, { on := 9, ground := Ground.data }, { on := 10, ground := Ground.data }, { on := 7, ground := Ground.chain }], guard := none }) := by kernel_rfl
      obtain rfl := Option.some.inj (hlit.symm.trans hoi)
      have r101 : b.tmps.getD 101 undef = (.agg #[.int .i64 c0, .int .i64 c1]) := rd (hT.at 8 (by kernel_rfl) (pre_of hpre 8 (by kernel_rfl)))
      have r102 : b.tmps.getD 102 undef = (.agg #[.int .i64 a0, .int .i64 a1]) := rd (hT.at 9 (by kernel_rfl) (pre_of hpre 9 (by kernel_rfl)))
      have r103 : b.tmps.getD 103 undef = (.agg #[.int .i64 b0, .int .i64 b1]) := rd (hT.at 10 (by kernel_rfl) (pre_of hpre 10 (by kernel_rfl)))
      refine op_go hoi (want_all rfl) fun K hK => ?_
      clear hT hpre hun hlit hoi
      go_simp
      go_at_call 78
      refine (touch78 _ _ _ _ _ _ _).mono ?_; rw [h3]; rintro e w2 ⟨rfl, hb⟩; replace ac0 := ck hb (a := ⟨ka, 0, none⟩) (v := .int .i64 a0) (by go_simp); replace ac1 := ck hb (a := ⟨ka, 1, none⟩) (v := .int .i64 a1) (by go_simp); replace bc0 := ck hb (a := ⟨kb, 0, none⟩) (v := .int .i64 b0) (by go_simp); replace bc1 := ck hb (a := ⟨kb, 1, none⟩) (v := .int .i64 b1) (by go_simp); replace cc0 := ck hb (a := ⟨kc, 0, none⟩) (v := .int .i64 c0) (by go_simp); replace cc1 := ck hb (a := ⟨kc, 1, none⟩) (v := .int .i64 c1) (by go_simp); replace ddc0 := ck hb (a := ⟨kd, 0, none⟩) (v := .int .i64 d0) (by go_simp); replace ddc1 := ck hb (a := ⟨kd, 1, none⟩) (v := .int .i64 d1) (by go_simp); replace HB : Below W.heap.size W w2 := bt HB hb; clear hb
      exact hK _ _ ⟨(), fun _ _ => rfl, rfl, ac0, ac1, bc0, bc1, cc0, cc1, ddc0, ddc1, HB⟩
    · have hlit : (regOps Try.f57 11)[12]? = some ({ dst := some 105, op := Op.load 23 (Operand.tmp 7), type := 23, pos := "geom.go:265", after := #[], guard := none }) := by kernel_rfl
      obtain rfl := Option.some.inj (hlit.symm.trans hoi)
      have r7 : b.tmps.getD 7 undef = (.pointer (some ⟨kd, 0, none⟩)) := rd ((hT.old 7 (by kernel_rfl)).trans t7)
      refine op_go hoi (want_all rfl) fun K hK => ?_
      clear hT hpre hun hlit hoi
      go_simp
      exact hK _ _ ⟨(), fun _ _ => rfl, rfl, ac0, ac1, bc0, bc1, cc0, cc1, ddc0, ddc1, HB⟩
    · have hlit : (regOps Try.f57 11)[13]? = some ({ dst := some 106, op := Op.load 23 (Operand.tmp 4), type := 23, pos := "geom.go:265", after := #[], guard := none }) := by kernel_rfl
      obtain rfl := Option.some.inj (hlit.symm.trans hoi)
      have r4 : b.tmps.getD 4 undef = (.pointer (some ⟨ka, 0, none⟩)) := rd ((hT.old 4 (by kernel_rfl)).trans t4)
      refine op_go hoi (want_all rfl) fun K hK => ?_
      clear hT hpre hun hlit hoi
      go_simp
      exact hK _ _ ⟨(), fun _ _ => rfl, rfl, ac0, ac1, bc0, bc1, cc0, cc1, ddc0, ddc1, HB⟩
    · have hlit : (regOps Try.f57 11)[14]? = some ({ dst := some 107, op := Op.load 23 (Operand.tmp 5), type := 23, pos := "geom.go:265", after := #[], guard := none }) := by kernel_rfl
      obtain rfl := Option.some.inj (hlit.symm.trans hoi)
      have r5 : b.tmps.getD 5 undef = (.pointer (some ⟨kb, 0, none⟩)) := rd ((hT.old 5 (by kernel_rfl)).trans t5)
      refine op_go hoi (want_all rfl) fun K hK => ?_
      clear hT hpre hun hlit hoi
      go_simp
      exact hK _ _ ⟨(), fun _ _ => rfl, rfl, ac0, ac1, bc0, bc1, cc0, cc1, ddc0, ddc1, HB⟩
    · have hlit : (regOps Try.f57 11)[15]? = some ({ dst := some 108, op := Op.call { callee := Callee.value (Operand.func 78), args := #[Operand.tmp 105, Operand.tmp 106, Operand.tmp 107], argTypes := #[23, 23, 23] }, type := 3, pos := "geom.go:265", after := #[{ on := 12, ground := Ground.data }, { on := 13, ground := Ground.data }, { on := 14, ground := Ground.data }, { on := 11, ground := Ground.chain }], guard := none }) := by kernel_rfl
      obtain rfl := Option.some.inj (hlit.symm.trans hoi)
      have r105 : b.tmps.getD 105 undef = (.agg #[.int .i64 d0, .int .i64 d1]) := rd (hT.at 12 (by kernel_rfl) (pre_of hpre 12 (by kernel_rfl)))
      have r106 : b.tmps.getD 106 undef = (.agg #[.int .i64 a0, .int .i64 a1]) := rd (hT.at 13 (by kernel_rfl) (pre_of hpre 13 (by kernel_rfl)))
      have r107 : b.tmps.getD 107 undef = (.agg #[.int .i64 b0, .int .i64 b1]) := rd (hT.at 14 (by kernel_rfl) (pre_of hpre 14 (by kernel_rfl)))
      refine op_go hoi (want_all rfl) fun K hK => ?_
      clear hT hpre hun hlit hoi
      go_simp
      go_at_call 78
      refine (touch78 _ _ _ _ _ _ _).mono ?_; rw [h4]; rintro e w2 ⟨rfl, hb⟩; replace ac0 := ck hb (a := ⟨ka, 0, none⟩) (v := .int .i64 a0) (by go_simp); replace ac1 := ck hb (a := ⟨ka, 1, none⟩) (v := .int .i64 a1) (by go_simp); replace bc0 := ck hb (a := ⟨kb, 0, none⟩) (v := .int .i64 b0) (by go_simp); replace bc1 := ck hb (a := ⟨kb, 1, none⟩) (v := .int .i64 b1) (by go_simp); replace cc0 := ck hb (a := ⟨kc, 0, none⟩) (v := .int .i64 c0) (by go_simp); replace cc1 := ck hb (a := ⟨kc, 1, none⟩) (v := .int .i64 c1) (by go_simp); replace ddc0 := ck hb (a := ⟨kd, 0, none⟩) (v := .int .i64 d0) (by go_simp); replace ddc1 := ck hb (a := ⟨kd, 1, none⟩) (v := .int .i64 d1) (by go_simp); replace HB : Below W.heap.size W w2 := bt HB hb; clear hb
      exact hK _ _ ⟨(), fun _ _ => rfl, rfl, ac0, ac1, bc0, bc1, cc0, cc1, ddc0, ddc1, HB⟩
    · have hlit : (regOps Try.f57 11)[16]? = some ({ dst := some 109, op := Op.call { callee := Callee.builtin Builtin.max, args := #[Operand.tmp 96, Operand.tmp 100, Operand.tmp 104, Operand.tmp 108], argTypes := #[3, 3, 3, 3] }, type := 3, pos := "geom.go:265", after := #[{ on := 3, ground := Ground.data }, { on := 7, ground := Ground.data }, { on := 11, ground := Ground.data }, { on := 15, ground := Ground.data }], guard := none }) := by kernel_rfl
      obtain rfl := Option.some.inj (hlit.symm.trans hoi)
      have r96 : b.tmps.getD 96 undef = (.int .i64 y1) := rd (hT.at 3 (by kernel_rfl) (pre_of hpre 3 (by kernel_rfl)))
      have r100 : b.tmps.getD 100 undef = (.int .i64 y2) := rd (hT.at 7 (by kernel_rfl) (pre_of hpre 7 (by kernel_rfl)))
      have r104 : b.tmps.getD 104 undef = (.int .i64 y3) := rd (hT.at 11 (by kernel_rfl) (pre_of hpre 11 (by kernel_rfl)))
      have r108 : b.tmps.getD 108 undef = (.int .i64 y4) := rd (hT.at 15 (by kernel_rfl) (pre_of hpre 15 (by kernel_rfl)))
      refine op_go hoi (want_all rfl) fun K hK => ?_
      clear hT hpre hun hlit hoi
      go_simp
      exact hK _ _ ⟨(), fun _ _ => rfl, rfl, ac0, ac1, bc0, bc1, cc0, cc1, ddc0, ddc1, HB⟩
    · have hlit : (regOps Try.f57 11)[17]? = some ({ dst := some 8, op := Op.assign (Operand.tmp 109), type := 3, pos := "geom.go:265", after := #[{ on := 16, ground := Ground.data }, { on := 15, ground := Ground.chain }, { on := 0, ground := Ground.phase }, { on := 1, ground := Ground.phase }, { on := 2, ground := Ground.phase }, { on := 3, ground := Ground.phase }, { on := 4, ground := Ground.phase }, { on := 5, ground := Ground.phase }, { on := 6, ground := Ground.phase }, { on := 7, ground := Ground.phase }, { on := 8, ground := Ground.phase }, { on := 9, ground := Ground.phase }, { on := 10, ground := Ground.phase }, { on := 11, ground := Ground.phase }, { on := 12, ground := Ground.phase }, { on := 13, ground := Ground.phase }, { on := 14, ground := Ground.phase }, { on := 15, ground := Ground.phase }, { on := 16, ground := Ground.phase }], guard := none }) := by kernel_rfl
      obtain rfl := Option.some.inj (hlit.symm.trans hoi)
      have r109 : b.tmps.getD 109 undef = (.int .i64 (mx (mx (mx y1 y2) y3) y4)) := rd (hT.at 16 (by kernel_rfl) (pre_of hpre 16 (by kernel_rfl)))
      refine op_go hoi (want_all rfl) fun K hK => ?_
      clear hT hpre hun hlit hoi
      go_simp
      exact hK _ _ ⟨(), fun _ _ => rfl, rfl, ac0, ac1, bc0, bc1, cc0, cc1, ddc0, ddc1, HB⟩
  · intro g b w' hT hS
    rw [hT.all ht]
    have hn : (regOps Try.f57 11).size = 18 := by kernel_rfl
    rw [hn]
    exact he w' hS

end Go.Proofs.Ytandgbpbabmdfaa
