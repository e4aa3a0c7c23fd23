import Derived.Test.YtandgbpbabmdfaaT10
import Derived.Laws.Cover1
namespace Go.Proofs.Ytandgbpbabmdfaa
open Go.RowKit

/-- The lesser, the greater of two. -/
def mn (a b : Int) : Int := if b < a then b else a
def mx (a b : Int) : Int := if b > a then b else a
theorem mn_eq (a b : Int) : mn a b = min a b := by unfold mn; omega
theorem mx_eq (a b : Int) : mx a b = max a b := by unfold mx; omega

section
variable {P : Program} (w : World) (ts : Array TypeId) (t : TypeId) (k k1 k2 k3 : IntKind) (x y z u : Int)
theorem mn_two : (Builtin.min_ ts t #[.int k x, .int k1 y]).run P w = .ok (.int k (mn x y)) w := run_min_int2 ..
theorem mx_two : (Builtin.max_ ts t #[.int k x, .int k1 y]).run P w = .ok (.int k (mx x y)) w := run_max_int2 ..
theorem mn_three : (Builtin.min_ ts t #[.int k x, .int k1 y, .int k2 z]).run P w = .ok (.int k (mn (mn x y) z)) w := run_min_int3 ..
theorem mx_three : (Builtin.max_ ts t #[.int k x, .int k1 y, .int k2 z]).run P w = .ok (.int k (mx (mx x y) z)) w := run_max_int3 ..
theorem mx_four : (Builtin.max_ ts t #[.int k x, .int k1 y, .int k2 z, .int k3 u]).run P w = .ok (.int k (mx (mx (mx x y) z) u)) w := by
  simp [Builtin.max_, Builtin.max2, mx]
end
end Go.Proofs.Ytandgbpbabmdfaa
