import Derived.Test.YtandgbpbabmdfaaT17
namespace Go.Proofs.Ytandgbpbabmdfaa
open Go.RowKit
attribute [local go_sem high] eq23 eq25 mn_two mx_two mn_three mx_three mx_four

set_option maxHeartbeats 1000000 in
set_option maxRecDepth 100000 in
theorem awake47 (w : World) :
    Calls Try.prog 47 #[] w fun e w' => e = .returned (.bool true) ∧ Below w.heap.size w w' := by
  have e1 : win 0 0 1 0 = true := by decide
  have e2 : win 2 0 1 0 = false := by decide
  have e3 : ovl ⟨⟨0, 0⟩, ⟨4, 0⟩, ⟨0, 4⟩⟩ 2 2 3 3 = true := by decide
  have e4 : ovl ⟨⟨0, 0⟩, ⟨4, 0⟩, ⟨0, 4⟩⟩ 3 2 3 3 = false := by decide
  have e5 : along ⟨⟨0, 0⟩, ⟨4, 0⟩, ⟨0, 4⟩⟩ ⟨0, 0⟩ ⟨4, 0⟩ = true := by decide
  have e6 : along ⟨⟨0, 0⟩, ⟨4, 0⟩, ⟨0, 4⟩⟩ ⟨4, 4⟩ ⟨4, 0⟩ = false := by decide
  have e7 : along ⟨⟨0, 0⟩, ⟨4, 0⟩, ⟨0, 4⟩⟩ ⟨0, 0⟩ ⟨0, 0⟩ = false := by decide
  have e8 : along ⟨⟨0, 0⟩, ⟨4, 0⟩, ⟨0, 4⟩⟩ ⟨4, 1⟩ ⟨0, 1⟩ = true := by decide
  have HB := Below.refl w.heap.size w
  go_enter Try.func47, Try.ntmps47
  go_wp2_with (first | (go_at_call 41; refine (win41 _ _ _ _ _).mono ?_; (first | rw [e1] | rw [e2]); rintro e w1 ⟨rfl, hb⟩; (with_reducible (repeat replace hb := undr hb)); replace xc0 := ck hb (a := ⟨w.heap.size, 0, none⟩) (v := .int .i64 0) (by go_simp); replace xc1 := ck hb (a := ⟨w.heap.size, 1, none⟩) (v := .int .i64 0) (by go_simp); replace xc2 := ck hb (a := ⟨w.heap.size, 2, none⟩) (v := .int .i64 4) (by go_simp); replace xc3 := ck hb (a := ⟨w.heap.size, 3, none⟩) (v := .int .i64 0) (by go_simp); replace xc4 := ck hb (a := ⟨w.heap.size, 4, none⟩) (v := .int .i64 0) (by go_simp); replace xc5 := ck hb (a := ⟨w.heap.size, 5, none⟩) (v := .int .i64 4) (by go_simp); replace xz : w.heap.size < w1.heap.size := World.block_lt_of_cell? w1 _ xc0; replace xn : ¬ w.heap.size = w1.heap.size := Nat.ne_of_lt xz; replace HB : Below w.heap.size w w1 := bt (by repeat (first | (with_reducible exact HB) | (with_reducible exact Below.refl _ _) | (with_reducible apply bd) | (with_reducible apply ba) | (with_reducible refine bs ?_ (by first | (simp; done) | (simp; omega)) _))) hb; clear hb) | (go_at_call 43; refine (ovl43 _ _ _ _ _ _ _ _ _ _ _).mono ?_; (first | rw [e3] | rw [e4]); rintro e w1 ⟨rfl, hb⟩; (with_reducible (repeat replace hb := undr hb)); replace xc0 := ck hb (a := ⟨w.heap.size, 0, none⟩) (v := .int .i64 0) (by go_simp); replace xc1 := ck hb (a := ⟨w.heap.size, 1, none⟩) (v := .int .i64 0) (by go_simp); replace xc2 := ck hb (a := ⟨w.heap.size, 2, none⟩) (v := .int .i64 4) (by go_simp); replace xc3 := ck hb (a := ⟨w.heap.size, 3, none⟩) (v := .int .i64 0) (by go_simp); replace xc4 := ck hb (a := ⟨w.heap.size, 4, none⟩) (v := .int .i64 0) (by go_simp); replace xc5 := ck hb (a := ⟨w.heap.size, 5, none⟩) (v := .int .i64 4) (by go_simp); replace xz : w.heap.size < w1.heap.size := World.block_lt_of_cell? w1 _ xc0; replace xn : ¬ w.heap.size = w1.heap.size := Nat.ne_of_lt xz; replace HB : Below w.heap.size w w1 := bt (by repeat (first | (with_reducible exact HB) | (with_reducible exact Below.refl _ _) | (with_reducible apply bd) | (with_reducible apply ba) | (with_reducible refine bs ?_ (by first | (simp; done) | (simp; omega)) _))) hb; clear hb) | (go_at_call 45; refine (along45 _ _ _ _ _ _ _ _ _ _ _).mono ?_; (first | rw [e5] | rw [e6] | rw [e7] | rw [e8]); rintro e w1 ⟨rfl, hb⟩; (with_reducible (repeat replace hb := undr hb)); replace xc0 := ck hb (a := ⟨w.heap.size, 0, none⟩) (v := .int .i64 0) (by go_simp); replace xc1 := ck hb (a := ⟨w.heap.size, 1, none⟩) (v := .int .i64 0) (by go_simp); replace xc2 := ck hb (a := ⟨w.heap.size, 2, none⟩) (v := .int .i64 4) (by go_simp); replace xc3 := ck hb (a := ⟨w.heap.size, 3, none⟩) (v := .int .i64 0) (by go_simp); replace xc4 := ck hb (a := ⟨w.heap.size, 4, none⟩) (v := .int .i64 0) (by go_simp); replace xc5 := ck hb (a := ⟨w.heap.size, 5, none⟩) (v := .int .i64 4) (by go_simp); replace xz : w.heap.size < w1.heap.size := World.block_lt_of_cell? w1 _ xc0; replace xn : ¬ w.heap.size = w1.heap.size := Nat.ne_of_lt xz; replace HB : Below w.heap.size w w1 := bt (by repeat (first | (with_reducible exact HB) | (with_reducible exact Below.refl _ _) | (with_reducible apply bd) | (with_reducible apply ba) | (with_reducible refine bs ?_ (by first | (simp; done) | (simp; omega)) _))) hb; clear hb))
  go_ret
  exact ⟨rfl, by repeat (first | (with_reducible exact HB) | (with_reducible exact Below.refl _ _) | (with_reducible apply bd) | (with_reducible apply ba) | (with_reducible refine bs ?_ (by first | (simp; done) | (simp; omega)) _))⟩

end Go.Proofs.Ytandgbpbabmdfaa
