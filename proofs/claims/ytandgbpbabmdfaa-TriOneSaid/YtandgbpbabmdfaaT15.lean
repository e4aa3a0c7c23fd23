import Derived.Test.YtandgbpbabmdfaaT14
import Derived.Test.YtandgbpbabmdfaaMr
namespace Go.Proofs.Ytandgbpbabmdfaa
open Go.RowKit
attribute [local go_sem high] eq23 eq25 mn_two mx_two mn_three mx_three mx_four

theorem cf {w w1 : World} (hb : Below w.heap.size w w1) {b o : Nat} (hl : b < w.heap.size) (h : w.frozen? ⟨b, o, none⟩ = false) : w1.frozen? ⟨b, o, none⟩ = false := (hb.frozen (p := ⟨b, o, none⟩) hl).trans h

set_option maxHeartbeats 1000000 in
set_option maxRecDepth 100000 in
theorem compare89 (a b : Int) (w : World) :
    Calls Try.prog 89 #[.int .i64 a, .int .i64 b] w fun e w' => e = .returned (.int .i64 (cmpI a b)) ∧ w = w' := by
  rcases Int.lt_trichotomy a b with h | h | h
  · have H := Lib.hid (cmpI_lt h)
    have h1 : decide (a < b) = true := decide_eq_true h
    clear h
    go_enter Try.func89, Try.ntmps89
    go_wp2
    go_ret
    exact ⟨by rw [H.out]; rfl, rfl⟩
  · have H := Lib.hid (cmpI_eq h)
    have h1 : decide (a < b) = false := decide_eq_false (by omega)
    have h2 : decide (b < a) = false := decide_eq_false (by omega)
    clear h
    go_enter Try.func89, Try.ntmps89
    go_wp2
    go_ret
    exact ⟨by rw [H.out]; rfl, rfl⟩
  · have H := Lib.hid (cmpI_gt h)
    have h1 : decide (a < b) = false := decide_eq_false (by omega)
    have h2 : decide (b < a) = true := decide_eq_true h
    clear h
    go_enter Try.func89, Try.ntmps89
    go_wp2
    go_ret
    exact ⟨by rw [H.out]; rfl, rfl⟩

set_option maxHeartbeats 1000000 in
set_option maxRecDepth 100000 in
theorem compare90 (a b : Int) (w : World) :
    Calls Try.prog 90 #[.int .u64 a, .int .u64 b] w fun e w' => e = .returned (.int .i64 (cmpI a b)) ∧ w = w' := by
  rcases Int.lt_trichotomy a b with h | h | h
  · have H := Lib.hid (cmpI_lt h)
    have h1 : decide (a < b) = true := decide_eq_true h
    clear h
    go_enter Try.func90, Try.ntmps90
    go_wp2
    go_ret
    exact ⟨by rw [H.out]; rfl, rfl⟩
  · have H := Lib.hid (cmpI_eq h)
    have h1 : decide (a < b) = false := decide_eq_false (by omega)
    have h2 : decide (b < a) = false := decide_eq_false (by omega)
    clear h
    go_enter Try.func90, Try.ntmps90
    go_wp2
    go_ret
    exact ⟨by rw [H.out]; rfl, rfl⟩
  · have H := Lib.hid (cmpI_gt h)
    have h1 : decide (a < b) = false := decide_eq_false (by omega)
    have h2 : decide (b < a) = true := decide_eq_true h
    clear h
    go_enter Try.func90, Try.ntmps90
    go_wp2
    go_ret
    exact ⟨by rw [H.out]; rfl, rfl⟩

set_option maxHeartbeats 1000000 in
set_option maxRecDepth 100000 in
theorem wcmp80 (u v : Int) (w : World) :
    Calls Try.prog 80 #[.agg #[.int .i64 (hiW u), .int .u64 (loW u)], .agg #[.int .i64 (hiW v), .int .u64 (loW v)]] w fun e w' => e = .returned (.int .i64 (cmpI u v)) ∧ Below w.heap.size w w' := by
  rw [← wide_cmp]
  generalize hiW u = a
  generalize loW u = b
  generalize hiW v = c
  generalize loW v = d
  have HB := Below.refl w.heap.size w
  go_enter Try.func80, Try.ntmps80
  go_wp2_with fail
  go_region_held3 (fun w' => w'.cell? ⟨w.heap.size, 0, none⟩ = some (.int .i64 a) ∧ w'.cell? ⟨w.heap.size, 1, none⟩ = some (.int .u64 b) ∧ w'.cell? ⟨w.heap.size + 1, 0, none⟩ = some (.int .i64 c) ∧ w'.cell? ⟨w.heap.size + 1, 1, none⟩ = some (.int .u64 d)) ((repeat' apply And.intro) <;> go_simp) (first | (go_at_call 89; refine (compare89 _ _ _).mono ?_; rintro e w' ⟨rfl, rfl⟩) | (go_at_call 90; refine (compare90 _ _ _).mono ?_; rintro e w' ⟨rfl, rfl⟩) | (go_at_call 59; refine (or2_calls _ _ (cmpI a c) (cmpI b d) _ (by go_simp) (by go_simp)).mono ?_; rintro e w' ⟨rfl, rfl⟩))
  all_goals
    go_wp2
    go_ret
    exact ⟨rfl, by repeat (first | (with_reducible exact HB) | (with_reducible exact Below.refl _ _) | (with_reducible apply bd) | (with_reducible apply ba) | (with_reducible refine bs ?_ (by first | (simp; done) | (simp; omega)) _))⟩

set_option maxHeartbeats 1000000 in
set_option maxRecDepth 100000 in
theorem less65 (pn po qn qo : Int) (w : World) (h1 : -1152921504606846976 ≤ pn) (h2 : pn ≤ 1152921504606846976) (h3 : -1152921504606846976 ≤ po) (h4 : po ≤ 1152921504606846976)
    (h5 : -1152921504606846976 ≤ qn) (h6 : qn ≤ 1152921504606846976) (h7 : -1152921504606846976 ≤ qo) (h8 : qo ≤ 1152921504606846976) :
    Calls Try.prog 65 #[.agg #[.int .i64 pn, .int .i64 po], .agg #[.int .i64 qn, .int .i64 qo]] w fun e w' => e = .returned (.bool (lessP pn po qn qo)) ∧ Below w.heap.size w w' := by
  have HB := Below.refl w.heap.size w
  go_enter Try.func65, Try.ntmps65
  go_wp2_with fail
  go_region_held3 (fun w' => w'.cell? ⟨w.heap.size, 0, none⟩ = some (.int .i64 pn) ∧ w'.cell? ⟨w.heap.size, 1, none⟩ = some (.int .i64 po) ∧ w'.cell? ⟨w.heap.size + 1, 0, none⟩ = some (.int .i64 qn) ∧ w'.cell? ⟨w.heap.size + 1, 1, none⟩ = some (.int .i64 qo)) ((repeat' apply And.intro) <;> go_simp) (first | (go_at_call 79; refine (mul79 _ _ (by omega) (by omega) (by omega) (by omega) _).mono ?_; rintro e w1 ⟨rfl, hb⟩; (with_reducible (repeat replace hb := undr hb)); replace bpc0 := ck hb (a := ⟨w.heap.size, 0, none⟩) (v := .int .i64 pn) (by go_simp); replace bpc1 := ck hb (a := ⟨w.heap.size, 1, none⟩) (v := .int .i64 po) (by go_simp); replace bqc0 := ck hb (a := ⟨w.heap.size + 1, 0, none⟩) (v := .int .i64 qn) (by go_simp); replace bqc1 := ck hb (a := ⟨w.heap.size + 1, 1, none⟩) (v := .int .i64 qo) (by go_simp); replace bpz : w.heap.size < w1.heap.size := World.block_lt_of_cell? w1 _ bpc0; replace bpn : ¬ w.heap.size = w1.heap.size := Nat.ne_of_lt bpz; replace bqz : w.heap.size + 1 < w1.heap.size := World.block_lt_of_cell? w1 _ bqc0; replace bqn : ¬ w.heap.size + 1 = w1.heap.size := Nat.ne_of_lt bqz; replace bqo : w.heap.size < w1.heap.size := Nat.lt_of_succ_lt bqz; replace HB : Below w.heap.size w w1 := bt (by repeat (first | (with_reducible exact HB) | (with_reducible exact Below.refl _ _) | (with_reducible apply bd) | (with_reducible apply ba) | (with_reducible refine bs ?_ (by first | (simp; done) | (simp; omega)) _))) hb; clear hb) | (go_at_call 80; refine (wcmp80 _ _ _).mono ?_; rintro e w1 ⟨rfl, hb⟩; (with_reducible (repeat replace hb := undr hb)); replace bpc0 := ck hb (a := ⟨w.heap.size, 0, none⟩) (v := .int .i64 pn) (by go_simp); replace bpc1 := ck hb (a := ⟨w.heap.size, 1, none⟩) (v := .int .i64 po) (by go_simp); replace bqc0 := ck hb (a := ⟨w.heap.size + 1, 0, none⟩) (v := .int .i64 qn) (by go_simp); replace bqc1 := ck hb (a := ⟨w.heap.size + 1, 1, none⟩) (v := .int .i64 qo) (by go_simp); replace bpz : w.heap.size < w1.heap.size := World.block_lt_of_cell? w1 _ bpc0; replace bpn : ¬ w.heap.size = w1.heap.size := Nat.ne_of_lt bpz; replace bqz : w.heap.size + 1 < w1.heap.size := World.block_lt_of_cell? w1 _ bqc0; replace bqn : ¬ w.heap.size + 1 = w1.heap.size := Nat.ne_of_lt bqz; replace bqo : w.heap.size < w1.heap.size := Nat.lt_of_succ_lt bqz; replace HB : Below w.heap.size w w1 := bt (by repeat (first | (with_reducible exact HB) | (with_reducible exact Below.refl _ _) | (with_reducible apply bd) | (with_reducible apply ba) | (with_reducible refine bs ?_ (by first | (simp; done) | (simp; omega)) _))) hb; clear hb))
  all_goals
    go_wp2
    go_ret
    exact ⟨rfl, by repeat (first | (with_reducible exact HB) | (with_reducible exact Below.refl _ _) | (with_reducible apply bd) | (with_reducible apply ba) | (with_reducible refine bs ?_ (by first | (simp; done) | (simp; omega)) _))⟩

end Go.Proofs.Ytandgbpbabmdfaa
