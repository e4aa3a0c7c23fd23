import Derived.Test.YtandgbpbabmdfaaProg
import Derived.Test.YtandgbpbabmdfaaMa
import Derived.WalkKit
import Derived.RegionTactic
import Derived.ChangeAlike
import Derived.Outline
import Derived.Lib.Hide
namespace Go.Proofs.Ytandgbpbabmdfaa
open Go.RowKit

set_option maxHeartbeats 400000 in
set_option maxRecDepth 100000 in
theorem compare_calls (a b : Int) (w : World) :
    Calls Try.prog 68 #[.int .i64 a, .int .i64 b] w fun e w' => e = .returned (.int .i64 (cmpI a b)) ∧ w = w' := by
  rcases Int.lt_trichotomy a b with h | h | h
  · have H := Lib.hid (cmpI_lt h)
    have h1 : decide (a < b) = true := decide_eq_true h
    clear h
    go_enter Try.func68, Try.ntmps68
    go_wp2
    go_ret
    exact ⟨by rw [H.out]; rfl, rfl⟩
  · have H := Lib.hid (cmpI_eq h)
    have h1 : decide (a < b) = false := decide_eq_false (by omega)
    have h2 : decide (b < a) = false := decide_eq_false (by omega)
    clear h
    go_enter Try.func68, Try.ntmps68
    go_wp2
    go_ret
    exact ⟨by rw [H.out]; rfl, rfl⟩
  · have H := Lib.hid (cmpI_gt h)
    have h1 : decide (a < b) = false := decide_eq_false (by omega)
    have h2 : decide (b < a) = true := decide_eq_true h
    clear h
    go_enter Try.func68, Try.ntmps68
    go_wp2
    go_ret
    exact ⟨by rw [H.out]; rfl, rfl⟩
end Go.Proofs.Ytandgbpbabmdfaa
