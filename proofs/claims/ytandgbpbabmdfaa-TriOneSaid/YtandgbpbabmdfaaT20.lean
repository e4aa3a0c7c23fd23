import Derived.Test.YtandgbpbabmdfaaT15
namespace Go.Proofs.Ytandgbpbabmdfaa
open Go.RowKit
attribute [local go_sem high] eq23 eq25 mn_two mx_two mn_three mx_three mx_four

set_option maxHeartbeats 1000000 in
set_option maxRecDepth 100000 in
theorem add83w (a b c d s l z : Int) (w : World) (bu bv bh : Bool) (k1 : ∀ w, (callFunc 91 #[.int .u64 b, .int .u64 d, .int .u64 0]).run Try.prog w = .ok (.value (.tuple #[.int .u64 l, .int .u64 z])) w)
    (H2 : wrap64 (wrap64 (a + c) + wrap64 z) = s) (h1 : decide (a < 0) = bu) (h2 : decide (c < 0) = bv) (h3 : decide (s < 0) = bh) (hb : ¬ (bu = bv ∧ bh ≠ bu)) :
    Calls Try.prog 83 #[.agg #[.int .i64 a, .int .u64 b], .agg #[.int .i64 c, .int .u64 d]] w fun e w' => e = .returned (.tuple #[.agg #[.int .i64 s, .int .u64 l], .bool true]) ∧ Below w.heap.size w w' := by
  have HB := Below.refl w.heap.size w
  have hcases : (bu = true ∧ bv = true ∧ bh = true) ∨ (bu = false ∧ bv = false ∧ bh = false) ∨ (bu = true ∧ bv = false) ∨ (bu = false ∧ bv = true) := by
    cases bu <;> cases bv <;> cases bh <;> simp at hb ⊢
  clear hb
  rcases hcases with ⟨rfl, rfl, rfl⟩ | ⟨rfl, rfl, rfl⟩ | ⟨rfl, rfl⟩ | ⟨rfl, rfl⟩
  all_goals
    go_enter Try.func83, Try.ntmps83
    go_wp2
    (try simp only [Exit.inBlock, Exit.then])
    refine bodyPost_ret (v := .tuple #[.agg #[.int .i64 s, .int .u64 l], .bool true]) ?_ ?_ ?_
    · simp [results, Try.results83, go_sem]
    · rfl
    exact ⟨rfl, by repeat (first | (with_reducible exact HB) | (with_reducible exact Below.refl _ _) | (with_reducible apply bd) | (with_reducible apply ba) | (with_reducible refine bs ?_ (by first | (simp; done) | (simp; omega)) _))⟩

theorem add83 (u v : Int) (w : World) (h1 : -170141183460469231731687303715884105728 ≤ u) (h2 : u < 170141183460469231731687303715884105728) (h3 : -170141183460469231731687303715884105728 ≤ v) (h4 : v < 170141183460469231731687303715884105728) (h5 : -170141183460469231731687303715884105728 ≤ u + v) (h6 : u + v < 170141183460469231731687303715884105728) :
    Calls Try.prog 83 #[.agg #[.int .i64 (hiW u), .int .u64 (loW u)], .agg #[.int .i64 (hiW v), .int .u64 (loW v)]] w fun e w' => e = .returned (.tuple #[.agg #[.int .i64 (hiW (u + v)), .int .u64 (loW (u + v))], .bool true]) ∧ Below w.heap.size w w' := by
  have b1 := loW_bd u
  have b2 := loW_bd v
  have e1 : addD (loW u) (loW v) 0 = loW (u + v) := by unfold addD loW; omega
  have e2 : wrap64 (wrap64 (hiW u + hiW v) + wrap64 (addC (loW u) (loW v) 0)) = hiW (u + v) := by
    unfold wrap64 addC hiW loW; omega
  refine add83w _ _ _ _ _ _ (addC (loW u) (loW v) 0) w _ _ _ (fun w => ?_) e2 rfl rfl rfl ?_
  · have := add91 (loW u) (loW v) 0 b1.1 b2.1 (by omega) (by omega) w
    rw [e1] at this; exact this
  · unfold hiW
    simp only [decide_eq_decide, ne_eq]
    rintro ⟨g1, g2⟩
    apply g2
    omega

set_option maxHeartbeats 1000000 in
set_option maxRecDepth 100000 in
theorem sign84 (u : Int) (w : World) :
    Calls Try.prog 84 #[.agg #[.int .i64 (hiW u), .int .u64 (loW u)]] w fun e w' => e = .returned (.int .i64 (cmpI u 0)) ∧ Below w.heap.size w w' := by
  have H : ∀ w : World, Calls Try.prog 80 #[.agg #[.int .i64 (hiW u), .int .u64 (loW u)], .agg #[.int .i64 0, .int .u64 0]] w fun e w' => e = .returned (.int .i64 (cmpI u 0)) ∧ Below w.heap.size w w' := fun w => wcmp80 u 0 w
  generalize hiW u = a at *
  generalize loW u = b at *
  have HB := Below.refl w.heap.size w
  go_enter Try.func84, Try.ntmps84
  go_wp2_with (go_at_call 80; refine (H _).mono ?_; rintro e w1 ⟨rfl, hb⟩; (with_reducible (repeat replace hb := undr hb)); replace HB : Below w.heap.size w w1 := bt (by repeat (first | (with_reducible exact HB) | (with_reducible exact Below.refl _ _) | (with_reducible apply bd) | (with_reducible apply ba) | (with_reducible refine bs ?_ (by first | (simp; done) | (simp; omega)) _))) hb; clear hb)
  go_ret
  exact ⟨rfl, by repeat (first | (with_reducible exact HB) | (with_reducible exact Below.refl _ _) | (with_reducible apply bd) | (with_reducible apply ba) | (with_reducible refine bs ?_ (by first | (simp; done) | (simp; omega)) _))⟩

end Go.Proofs.Ytandgbpbabmdfaa
