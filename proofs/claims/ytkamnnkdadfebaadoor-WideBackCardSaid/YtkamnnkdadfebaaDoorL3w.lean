import Derived.Test.YtkamnnkdadfebaaDoorB7
namespace Go.Proofs.YtkamnnkdadfebaaDoor
open Go.RowKit
attribute [local go_sem high] eq24 eq37

set_option maxHeartbeats 4000000 in
set_option maxRecDepth 100000 in
theorem wideBack_walk (u : Int) (hu : fits u = true) (S : List UInt8) (w : World) (htab : Tab w) :
    Calls Tryd.prog 3 #[.agg #[.int .i64 (hiW u), .int .u64 (loW u)], .string ⟨S.toArray⟩] w fun e w' => e = .returned (.bool true) ∧ Below w.heap.size w w' := by
  have HB := Below.refl w.heap.size w
  have hlen : ∀ w, (Builtin.len_ #[9] 3 #[.string ⟨S.toArray⟩]).run Tryd.prog w = .ok (.int .i64 S.length) w := fun w => by go_simp
  have hP := parseW_text S
  have C1 : ∀ w, Tab w → Calls Tryd.prog 11 #[.agg #[.int .i64 (hiW u), .int .u64 (loW u)]] w fun e w' => e = .returned (.string ⟨(Lib.itoa u).toArray⟩) ∧ Below w.heap.size w w' := fun w ht => text11 u (fits_bd hu).1 (fits_bd hu).2 w ht
  have C2 : ∀ w, Tab w → Calls Tryd.prog 10 #[.string ⟨(Lib.itoa u).toArray⟩] w fun e w' => e = .returned (.tuple #[.agg #[.int .i64 (hiW u), .int .u64 (loW u)], .int .i64 0]) ∧ Below w.heap.size w w' := fun w ht => by
    have h := parse10 (Lib.itoa u) w ht
    rw [parseW_itoa u hu] at h
    exact h
  clear hu
  generalize Lib.itoa u = L at *
  generalize hiW u = a at *
  generalize loW u = b at *
  by_cases hl : 60 < S.length
  · have t1 : decide ((60 : Int) < (S.length : Int)) = true := decide_eq_true (by omega)
    clear C1 C2 hP
    go_enter Tryd.func3, Tryd.ntmps3
    go_wp2_with fail
    refine (awake9 _ (tab_below htab (by repeat (first | (with_reducible exact HB) | (with_reducible exact Below.refl _ _) | (with_reducible apply bd) | (with_reducible apply ba) | (with_reducible refine bs ?_ (by first | (simp; done) | (simp; omega)) _))))).mono ?_; rintro e w1 ⟨rfl, hb⟩; (with_reducible (repeat replace hb := undr hb))
    replace HB : Below w.heap.size w w1 := bt (by repeat (first | (with_reducible exact HB) | (with_reducible exact Below.refl _ _) | (with_reducible apply bd) | (with_reducible apply ba) | (with_reducible refine bs ?_ (by first | (simp; done) | (simp; omega)) _))) hb
    clear hb
    go_wp2_with fail
    go_ret
    exact ⟨rfl, by repeat (first | (with_reducible exact HB) | (with_reducible exact Below.refl _ _) | (with_reducible apply bd) | (with_reducible apply ba) | (with_reducible refine bs ?_ (by first | (simp; done) | (simp; omega)) _))⟩
  · have t1 : decide ((60 : Int) < (S.length : Int)) = false := decide_eq_false (by omega)
    have C3 := fun w ht => parse10 S w ht
    cases hz : parseW S with
    | none =>
      rw [hz] at C3
      replace C3 : ∀ w, Tab w → Calls Tryd.prog 10 #[.string ⟨S.toArray⟩] w fun e w' => e = .returned (.tuple #[.agg #[.int .i64 0, .int .u64 0], .int .i64 2]) ∧ Below w.heap.size w w' := C3
      clear hP hz
      go_enter Tryd.func3, Tryd.ntmps3
      go_wp2_with fail
      refine (C1 _ (tab_below htab (by repeat (first | (with_reducible exact HB) | (with_reducible exact Below.refl _ _) | (with_reducible apply bd) | (with_reducible apply ba) | (with_reducible refine bs ?_ (by first | (simp; done) | (simp; omega)) _))))).mono ?_; rintro e w1 ⟨rfl, hb⟩; (with_reducible (repeat replace hb := undr hb))
      have cx0 := ck hb (a := ⟨w.heap.size, 0, none⟩) (v := .int .i64 a) (by go_simp)
      have cx1 := ck hb (a := ⟨w.heap.size, 1, none⟩) (v := .int .u64 b) (by go_simp)
      have zw_0 : w.heap.size < w1.heap.size := World.block_lt_of_cell? w1 _ cx0
      have nw_0 : ¬ w.heap.size = w1.heap.size := Nat.ne_of_lt zw_0
      replace HB : Below w.heap.size w w1 := bt (by repeat (first | (with_reducible exact HB) | (with_reducible exact Below.refl _ _) | (with_reducible apply bd) | (with_reducible apply ba) | (with_reducible refine bs ?_ (by first | (simp; done) | (simp; omega)) _))) hb
      clear hb
      go_wp2_with fail
      refine (C2 _ (tab_below htab (by repeat (first | (with_reducible exact HB) | (with_reducible exact Below.refl _ _) | (with_reducible apply bd) | (with_reducible apply ba) | (with_reducible refine bs ?_ (by first | (simp; done) | (simp; omega)) _))))).mono ?_; rintro e w2 ⟨rfl, hb⟩; (with_reducible (repeat replace hb := undr hb))
      replace cx0 := ck hb (a := ⟨w.heap.size, 0, none⟩) (v := .int .i64 a) (by first | (go_simp; done) | simpa using cx0)
      replace cx1 := ck hb (a := ⟨w.heap.size, 1, none⟩) (v := .int .u64 b) (by first | (go_simp; done) | simpa using cx1)
      replace zw_0 : w.heap.size < w2.heap.size := World.block_lt_of_cell? w2 _ cx0
      replace nw_0 : ¬ w.heap.size = w2.heap.size := Nat.ne_of_lt zw_0
      replace HB : Below w.heap.size w w2 := bt (by repeat (first | (with_reducible exact HB) | (with_reducible exact Below.refl _ _) | (with_reducible apply bd) | (with_reducible apply ba) | (with_reducible refine bs ?_ (by first | (simp; done) | (simp; omega)) _))) hb
      clear hb
      go_wp2_with fail
      refine (C3 _ (tab_below htab (by repeat (first | (with_reducible exact HB) | (with_reducible exact Below.refl _ _) | (with_reducible apply bd) | (with_reducible apply ba) | (with_reducible refine bs ?_ (by first | (simp; done) | (simp; omega)) _))))).mono ?_; rintro e w3 ⟨rfl, hb⟩; (with_reducible (repeat replace hb := undr hb))
      replace cx0 := ck hb (a := ⟨w.heap.size, 0, none⟩) (v := .int .i64 a) (by first | (go_simp; done) | simpa using cx0)
      replace cx1 := ck hb (a := ⟨w.heap.size, 1, none⟩) (v := .int .u64 b) (by first | (go_simp; done) | simpa using cx1)
      have cy0 := ck hb (a := ⟨w2.heap.size, 0, none⟩) (v := .int .i64 a) (by go_simp)
      have cy1 := ck hb (a := ⟨w2.heap.size, 1, none⟩) (v := .int .u64 b) (by go_simp)
      replace zw_0 : w.heap.size < w3.heap.size := World.block_lt_of_cell? w3 _ cx0
      replace nw_0 : ¬ w.heap.size = w3.heap.size := Nat.ne_of_lt zw_0
      have zw2_0 : w2.heap.size < w3.heap.size := World.block_lt_of_cell? w3 _ cy0
      have nw2_0 : ¬ w2.heap.size = w3.heap.size := Nat.ne_of_lt zw2_0
      replace HB : Below w.heap.size w w3 := bt (by repeat (first | (with_reducible exact HB) | (with_reducible exact Below.refl _ _) | (with_reducible apply bd) | (with_reducible apply ba) | (with_reducible refine bs ?_ (by first | (simp; done) | (simp; omega)) _))) hb
      clear hb
      go_wp2_with fail
      refine (awake9 _ (tab_below htab (by repeat (first | (with_reducible exact HB) | (with_reducible exact Below.refl _ _) | (with_reducible apply bd) | (with_reducible apply ba) | (with_reducible refine bs ?_ (by first | (simp; done) | (simp; omega)) _))))).mono ?_; rintro e w5 ⟨rfl, hb⟩; (with_reducible (repeat replace hb := undr hb))
      replace HB : Below w.heap.size w w5 := bt (by repeat (first | (with_reducible exact HB) | (with_reducible exact Below.refl _ _) | (with_reducible apply bd) | (with_reducible apply ba) | (with_reducible refine bs ?_ (by first | (simp; done) | (simp; omega)) _))) hb
      clear hb
      go_wp2_with fail
      go_ret
      exact ⟨rfl, by repeat (first | (with_reducible exact HB) | (with_reducible exact Below.refl _ _) | (with_reducible apply bd) | (with_reducible apply ba) | (with_reducible refine bs ?_ (by first | (simp; done) | (simp; omega)) _))⟩
    | some z =>
      rw [hz] at C3
      obtain ⟨e1, e2⟩ := hP z hz
      replace C3 : ∀ w, Tab w → Calls Tryd.prog 10 #[.string ⟨S.toArray⟩] w fun e w' => e = .returned (.tuple #[.agg #[.int .i64 (hiW z), .int .u64 (loW z)], .int .i64 0]) ∧ Below w.heap.size w w' := C3
      have C4 : ∀ w, Tab w → Calls Tryd.prog 11 #[.agg #[.int .i64 (hiW z), .int .u64 (loW z)]] w fun e w' => e = .returned (.string ⟨S.toArray⟩) ∧ Below w.heap.size w w' := fun w ht => by
        have h := text11 z (fits_bd e2).1 (fits_bd e2).2 w ht
        rw [e1] at h; exact h
      clear hP hz e1 e2
      generalize hiW z = p at *
      generalize loW z = q at *
      go_enter Tryd.func3, Tryd.ntmps3
      go_wp2_with fail
      refine (C1 _ (tab_below htab (by repeat (first | (with_reducible exact HB) | (with_reducible exact Below.refl _ _) | (with_reducible apply bd) | (with_reducible apply ba) | (with_reducible refine bs ?_ (by first | (simp; done) | (simp; omega)) _))))).mono ?_; rintro e w1 ⟨rfl, hb⟩; (with_reducible (repeat replace hb := undr hb))
      have cx0 := ck hb (a := ⟨w.heap.size, 0, none⟩) (v := .int .i64 a) (by go_simp)
      have cx1 := ck hb (a := ⟨w.heap.size, 1, none⟩) (v := .int .u64 b) (by go_simp)
      have zw_0 : w.heap.size < w1.heap.size := World.block_lt_of_cell? w1 _ cx0
      have nw_0 : ¬ w.heap.size = w1.heap.size := Nat.ne_of_lt zw_0
      replace HB : Below w.heap.size w w1 := bt (by repeat (first | (with_reducible exact HB) | (with_reducible exact Below.refl _ _) | (with_reducible apply bd) | (with_reducible apply ba) | (with_reducible refine bs ?_ (by first | (simp; done) | (simp; omega)) _))) hb
      clear hb
      go_wp2_with fail
      refine (C2 _ (tab_below htab (by repeat (first | (with_reducible exact HB) | (with_reducible exact Below.refl _ _) | (with_reducible apply bd) | (with_reducible apply ba) | (with_reducible refine bs ?_ (by first | (simp; done) | (simp; omega)) _))))).mono ?_; rintro e w2 ⟨rfl, hb⟩; (with_reducible (repeat replace hb := undr hb))
      replace cx0 := ck hb (a := ⟨w.heap.size, 0, none⟩) (v := .int .i64 a) (by first | (go_simp; done) | simpa using cx0)
      replace cx1 := ck hb (a := ⟨w.heap.size, 1, none⟩) (v := .int .u64 b) (by first | (go_simp; done) | simpa using cx1)
      replace zw_0 : w.heap.size < w2.heap.size := World.block_lt_of_cell? w2 _ cx0
      replace nw_0 : ¬ w.heap.size = w2.heap.size := Nat.ne_of_lt zw_0
      replace HB : Below w.heap.size w w2 := bt (by repeat (first | (with_reducible exact HB) | (with_reducible exact Below.refl _ _) | (with_reducible apply bd) | (with_reducible apply ba) | (with_reducible refine bs ?_ (by first | (simp; done) | (simp; omega)) _))) hb
      clear hb
      go_wp2_with fail
      refine (C3 _ (tab_below htab (by repeat (first | (with_reducible exact HB) | (with_reducible exact Below.refl _ _) | (with_reducible apply bd) | (with_reducible apply ba) | (with_reducible refine bs ?_ (by first | (simp; done) | (simp; omega)) _))))).mono ?_; rintro e w3 ⟨rfl, hb⟩; (with_reducible (repeat replace hb := undr hb))
      replace cx0 := ck hb (a := ⟨w.heap.size, 0, none⟩) (v := .int .i64 a) (by first | (go_simp; done) | simpa using cx0)
      replace cx1 := ck hb (a := ⟨w.heap.size, 1, none⟩) (v := .int .u64 b) (by first | (go_simp; done) | simpa using cx1)
      have cy0 := ck hb (a := ⟨w2.heap.size, 0, none⟩) (v := .int .i64 a) (by go_simp)
      have cy1 := ck hb (a := ⟨w2.heap.size, 1, none⟩) (v := .int .u64 b) (by go_simp)
      replace zw_0 : w.heap.size < w3.heap.size := World.block_lt_of_cell? w3 _ cx0
      replace nw_0 : ¬ w.heap.size = w3.heap.size := Nat.ne_of_lt zw_0
      have zw2_0 : w2.heap.size < w3.heap.size := World.block_lt_of_cell? w3 _ cy0
      have nw2_0 : ¬ w2.heap.size = w3.heap.size := Nat.ne_of_lt zw2_0
      replace HB : Below w.heap.size w w3 := bt (by repeat (first | (with_reducible exact HB) | (with_reducible exact Below.refl _ _) | (with_reducible apply bd) | (with_reducible apply ba) | (with_reducible refine bs ?_ (by first | (simp; done) | (simp; omega)) _))) hb
      clear hb
      go_wp2_with fail
      refine (C4 _ (tab_below htab (by repeat (first | (with_reducible exact HB) | (with_reducible exact Below.refl _ _) | (with_reducible apply bd) | (with_reducible apply ba) | (with_reducible refine bs ?_ (by first | (simp; done) | (simp; omega)) _))))).mono ?_; rintro e w4 ⟨rfl, hb⟩; (with_reducible (repeat replace hb := undr hb))
      replace HB : Below w.heap.size w w4 := bt (by repeat (first | (with_reducible exact HB) | (with_reducible exact Below.refl _ _) | (with_reducible apply bd) | (with_reducible apply ba) | (with_reducible refine bs ?_ (by first | (simp; done) | (simp; omega)) _))) hb
      clear hb
      go_wp2_with fail
      refine (awake9 _ (tab_below htab (by repeat (first | (with_reducible exact HB) | (with_reducible exact Below.refl _ _) | (with_reducible apply bd) | (with_reducible apply ba) | (with_reducible refine bs ?_ (by first | (simp; done) | (simp; omega)) _))))).mono ?_; rintro e w5 ⟨rfl, hb⟩; (with_reducible (repeat replace hb := undr hb))
      replace HB : Below w.heap.size w w5 := bt (by repeat (first | (with_reducible exact HB) | (with_reducible exact Below.refl _ _) | (with_reducible apply bd) | (with_reducible apply ba) | (with_reducible refine bs ?_ (by first | (simp; done) | (simp; omega)) _))) hb
      clear hb
      go_wp2_with fail
      go_ret
      exact ⟨rfl, by repeat (first | (with_reducible exact HB) | (with_reducible exact Below.refl _ _) | (with_reducible apply bd) | (with_reducible apply ba) | (with_reducible refine bs ?_ (by first | (simp; done) | (simp; omega)) _))⟩
end Go.Proofs.YtkamnnkdadfebaaDoor
