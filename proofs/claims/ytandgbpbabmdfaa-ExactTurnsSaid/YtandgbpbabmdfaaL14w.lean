import Derived.Test.YtandgbpbabmdfaaL14a
import Derived.Test.YtandgbpbabmdfaaL14b
import Derived.Test.YtandgbpbabmdfaaNb
import Derived.IntWalk
namespace Go.Proofs.Ytandgbpbabmdfaa
open Go.RowKit
attribute [local go_sem high] eq23 eq25 mn_two mx_two mn_three mx_three mx_four

theorem neg_small2 {k : Int} (h : k = 0 ∨ k = 1 ∨ k = -1) : IntKind.i64.wrap (- -k) = k := by rcases h with h | h | h <;> rw [h] <;> rfl

theorem exactTurns_walk (a0 a1 b0 b1 c0 c1 d0 d1 u v : Int) (w : World) :
    Calls Try.prog 14 #[.agg #[.int .i64 a0, .int .i64 a1], .agg #[.int .i64 b0, .int .i64 b1], .agg #[.int .i64 c0, .int .i64 c1], .agg #[.int .i64 d0, .int .i64 d1], .int .i64 u, .int .i64 v] w fun e w' => e = .returned (.bool true) ∧ Below w.heap.size w w' := by
  have g1 : ori ⟨b0, b1⟩ ⟨c0, c1⟩ ⟨a0, a1⟩ = ori ⟨a0, a1⟩ ⟨b0, b1⟩ ⟨c0, c1⟩ := ori_rot _ _ _
  have n1 : IntKind.i64.wrap (-ori ⟨b0, b1⟩ ⟨a0, a1⟩ ⟨c0, c1⟩) = ori ⟨a0, a1⟩ ⟨b0, b1⟩ ⟨c0, c1⟩ := by rw [ori_swap ⟨a0, a1⟩ ⟨b0, b1⟩ ⟨c0, c1⟩]; exact neg_small2 (ori_cases _ _ _)
  have g3 := circ_turn ⟨a0, a1⟩ ⟨b0, b1⟩ ⟨c0, c1⟩ ⟨d0, d1⟩
  have n2 : IntKind.i64.wrap (-circ ⟨b0, b1⟩ ⟨a0, a1⟩ ⟨c0, c1⟩ ⟨d0, d1⟩) = circ ⟨a0, a1⟩ ⟨b0, b1⟩ ⟨c0, c1⟩ ⟨d0, d1⟩ := by rw [circ_swap ⟨a0, a1⟩ ⟨b0, b1⟩ ⟨c0, c1⟩ ⟨d0, d1⟩]; exact neg_small2 (circ_cases _ _ _ _)
  cases v0 : val ⟨a0, a1⟩
  · exact exactTurns_v0 a0 a1 b0 b1 c0 c1 d0 d1 u v _ _ _ _ w rfl rfl g1 rfl n1 g3 rfl n2 v0
  by_cases hq : u < -1073741824 ∨ 1073741824 < u ∨ v < -1073741824 ∨ 1073741824 < v
  · exact exactTurns_out a0 a1 b0 b1 c0 c1 d0 d1 u v _ _ _ _ w rfl rfl g1 rfl n1 g3 rfl n2 v0 hq
  have t1 : decide (u < -1073741824) = false := decide_eq_false (by omega)
  have t2 : decide (1073741824 < u) = false := decide_eq_false (by omega)
  have t3 : decide (v < -1073741824) = false := decide_eq_false (by omega)
  have t4 : decide (1073741824 < v) = false := decide_eq_false (by omega)
  have b0' := val_xy v0
  have q00 : IntKind.i64.wrap (a0 + u) = a0 + u := IntWalk.i64_in _ (by omega)
  have q01 : IntKind.i64.wrap (a1 + v) = a1 + v := IntWalk.i64_in _ (by omega)
  cases m0 : val ⟨a0 + u, a1 + v⟩
  · exact exactTurns_m0 a0 a1 b0 b1 c0 c1 d0 d1 _ _ u v _ _ _ _ w rfl rfl g1 rfl n1 g3 rfl n2 t1 t2 t3 t4 v0 q00 q01 m0
  cases v1 : val ⟨b0, b1⟩
  · exact exactTurns_v1 a0 a1 b0 b1 c0 c1 d0 d1 _ _ u v _ _ _ _ w rfl rfl g1 rfl n1 g3 rfl n2 t1 t2 t3 t4 v0 q00 q01 m0 v1
  have b1' := val_xy v1
  have q10 : IntKind.i64.wrap (b0 + u) = b0 + u := IntWalk.i64_in _ (by omega)
  have q11 : IntKind.i64.wrap (b1 + v) = b1 + v := IntWalk.i64_in _ (by omega)
  cases m1 : val ⟨b0 + u, b1 + v⟩
  · exact exactTurns_m1 a0 a1 b0 b1 c0 c1 d0 d1 _ _ _ _ u v _ _ _ _ w rfl rfl g1 rfl n1 g3 rfl n2 t1 t2 t3 t4 v0 q00 q01 m0 v1 q10 q11 m1
  cases v2 : val ⟨c0, c1⟩
  · exact exactTurns_v2 a0 a1 b0 b1 c0 c1 d0 d1 _ _ _ _ u v _ _ _ _ w rfl rfl g1 rfl n1 g3 rfl n2 t1 t2 t3 t4 v0 q00 q01 m0 v1 q10 q11 m1 v2
  have b2' := val_xy v2
  have q20 : IntKind.i64.wrap (c0 + u) = c0 + u := IntWalk.i64_in _ (by omega)
  have q21 : IntKind.i64.wrap (c1 + v) = c1 + v := IntWalk.i64_in _ (by omega)
  cases m2 : val ⟨c0 + u, c1 + v⟩
  · exact exactTurns_m2 a0 a1 b0 b1 c0 c1 d0 d1 _ _ _ _ _ _ u v _ _ _ _ w rfl rfl g1 rfl n1 g3 rfl n2 t1 t2 t3 t4 v0 q00 q01 m0 v1 q10 q11 m1 v2 q20 q21 m2
  cases v3 : val ⟨d0, d1⟩
  · exact exactTurns_v3 a0 a1 b0 b1 c0 c1 d0 d1 _ _ _ _ _ _ u v _ _ _ _ w rfl rfl g1 rfl n1 g3 rfl n2 t1 t2 t3 t4 v0 q00 q01 m0 v1 q10 q11 m1 v2 q20 q21 m2 v3
  have b3' := val_xy v3
  have q30 : IntKind.i64.wrap (d0 + u) = d0 + u := IntWalk.i64_in _ (by omega)
  have q31 : IntKind.i64.wrap (d1 + v) = d1 + v := IntWalk.i64_in _ (by omega)
  cases m3 : val ⟨d0 + u, d1 + v⟩
  · exact exactTurns_m3 a0 a1 b0 b1 c0 c1 d0 d1 _ _ _ _ _ _ _ _ u v _ _ _ _ w rfl rfl g1 rfl n1 g3 rfl n2 t1 t2 t3 t4 v0 q00 q01 m0 v1 q10 q11 m1 v2 q20 q21 m2 v3 q30 q31 m3
  exact exactTurns_yes a0 a1 b0 b1 c0 c1 d0 d1 _ _ _ _ _ _ _ _ u v _ _ _ _ _ w rfl rfl g1 rfl n1 g3 rfl n2 t1 t2 t3 t4 v0 q00 q01 m0 v1 q10 q11 m1 v2 q20 q21 m2 v3 q30 q31 m3 (ori_mv (u := u) (v := v) (a := ⟨a0, a1⟩) (b := ⟨b0, b1⟩) (c := ⟨c0, c1⟩) v0 m0 v1 m1 v2 m2) (circ_mv (u := u) (v := v) (a := ⟨a0, a1⟩) (b := ⟨b0, b1⟩) (c := ⟨c0, c1⟩) (d := ⟨d0, d1⟩) v0 m0 v1 m1 v2 m2 v3 m3) rfl (meet_mv (u := u) (v := v) (a := ⟨a0, a1⟩) (b := ⟨b0, b1⟩) (c := ⟨c0, c1⟩) (d := ⟨d0, d1⟩) v0 m0 v1 m1 v2 m2 v3 m3)

end Go.Proofs.Ytandgbpbabmdfaa
