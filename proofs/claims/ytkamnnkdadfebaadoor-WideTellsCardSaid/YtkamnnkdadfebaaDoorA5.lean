import Derived.Test.YtkamnnkdadfebaaDoorA2
namespace Go.Proofs.YtkamnnkdadfebaaDoor
open Go.RowKit
attribute [local go_sem high] eq24 eq37

set_option maxHeartbeats 1000000 in
set_option maxRecDepth 100000 in
theorem sign15 (u : Int) (w : World) :
    Calls Tryd.prog 15 #[.agg #[.int .i64 (hiW u), .int .u64 (loW u)]] w fun e w' => e = .returned (.int .i64 (cmpI u 0)) ∧ Below w.heap.size w w' := by
  have H : ∀ w : World, Calls Tryd.prog 23 #[.agg #[.int .i64 (hiW u), .int .u64 (loW u)], .agg #[.int .i64 0, .int .u64 0]] w fun e w' => e = .returned (.int .i64 (cmpI u 0)) ∧ Below w.heap.size w w' := fun w => wcmp23 u 0 w
  generalize hiW u = a at *
  generalize loW u = b at *
  have HB := Below.refl w.heap.size w
  go_enter Tryd.func15, Tryd.ntmps15
  go_wp2_with (go_at_call 23; refine (H _).mono ?_; rintro e w1 ⟨rfl, hb⟩; (with_reducible (repeat replace hb := undr hb)); replace HB : Below w.heap.size w w1 := bt (by repeat (first | (with_reducible exact HB) | (with_reducible exact Below.refl _ _) | (with_reducible apply bd) | (with_reducible apply ba) | (with_reducible refine bs ?_ (by first | (simp; done) | (simp; omega)) _))) hb; clear hb)
  go_ret
  exact ⟨rfl, by repeat (first | (with_reducible exact HB) | (with_reducible exact Below.refl _ _) | (with_reducible apply bd) | (with_reducible apply ba) | (with_reducible refine bs ?_ (by first | (simp; done) | (simp; omega)) _))⟩

end Go.Proofs.YtkamnnkdadfebaaDoor
