import Derived.Test.YtandgbpbabmdfaaT13
import Derived.Test.YtandgbpbabmdfaaRg
namespace Go.Proofs.Ytandgbpbabmdfaa
open Go.RowKit
attribute [local go_sem high] eq23 eq25 mn_two mx_two mn_three mx_three mx_four

/-- What each operation of the region leaves. -/
def region3V (d0 d1 e0 e1 f0 f1 g0 g1 q0 q1 r0 r1 i j m0 m1 m2 m3 m4 m5 : Int) (ok : Bool) : Nat → Value
  | 0 => .agg #[.int .i64 m0, .int .i64 m1, .int .i64 m2, .int .i64 m3, .int .i64 m4, .int .i64 m5]
  | 1 => .agg #[.int .i64 m0, .int .i64 m1, .int .i64 m2, .int .i64 m3, .int .i64 m4, .int .i64 m5]
  | 2 => .bool true
  | 3 => .bool true
  | 4 => .bool ok
  | 5 => .bool ok
  | 6 => .bool true
  | 7 => .bool true
  | 8 => .bool true
  | 9 => .agg #[.int .i64 d0, .int .i64 d1, .int .i64 e0, .int .i64 e1, .int .i64 f0, .int .i64 f1]
  | 10 => .bool (valT ⟨⟨d0, d1⟩, ⟨e0, e1⟩, ⟨f0, f1⟩⟩)
  | 11 => .agg #[.int .i64 d0, .int .i64 d1, .int .i64 e0, .int .i64 e1, .int .i64 f0, .int .i64 f1]
  | 12 => .bool (valT ⟨⟨d0, d1⟩, ⟨e0, e1⟩, ⟨f0, f1⟩⟩)
  | 13 => .bool true
  | 14 => .bool true
  | 15 => .bool true
  | 16 => .agg #[.int .i64 m0, .int .i64 m1, .int .i64 m2, .int .i64 m3, .int .i64 m4, .int .i64 m5]
  | 17 => .agg #[.int .i64 d0, .int .i64 d1, .int .i64 e0, .int .i64 e1, .int .i64 f0, .int .i64 f1]
  | 18 => .int .i64 (cmpT ⟨⟨m0, m1⟩, ⟨m2, m3⟩, ⟨m4, m5⟩⟩ ⟨⟨d0, d1⟩, ⟨e0, e1⟩, ⟨f0, f1⟩⟩)
  | 19 => .agg #[.int .i64 m0, .int .i64 m1, .int .i64 m2, .int .i64 m3, .int .i64 m4, .int .i64 m5]
  | 20 => .agg #[.int .i64 d0, .int .i64 d1, .int .i64 e0, .int .i64 e1, .int .i64 f0, .int .i64 f1]
  | 21 => .int .i64 (cmpT ⟨⟨m0, m1⟩, ⟨m2, m3⟩, ⟨m4, m5⟩⟩ ⟨⟨d0, d1⟩, ⟨e0, e1⟩, ⟨f0, f1⟩⟩)
  | 22 => .bool true
  | 23 => .bool true
  | 24 => .bool true
  | 25 => .agg #[.int .i64 d0, .int .i64 d1, .int .i64 e0, .int .i64 e1, .int .i64 f0, .int .i64 f1]
  | 26 => .int .i64 i
  | 27 => .agg #[.int .i64 q0, .int .i64 q1]
  | 28 => .agg #[.int .i64 d0, .int .i64 d1, .int .i64 e0, .int .i64 e1, .int .i64 f0, .int .i64 f1]
  | 29 => .int .i64 j
  | 30 => .agg #[.int .i64 q0, .int .i64 q1]
  | 31 => .bool true
  | 32 => .bool true
  | 33 => .bool true
  | 34 => .agg #[.int .i64 q0, .int .i64 q1]
  | 35 => .agg #[.int .i64 d0, .int .i64 d1, .int .i64 e0, .int .i64 e1, .int .i64 f0, .int .i64 f1]
  | 36 => .int .i64 j
  | 37 => .agg #[.int .i64 q0, .int .i64 q1]
  | 38 => .bool true
  | 39 => .bool true
  | 40 => .bool true
  | 41 => .agg #[.int .i64 r0, .int .i64 r1]
  | 42 => .agg #[.int .i64 d0, .int .i64 d1, .int .i64 e0, .int .i64 e1, .int .i64 f0, .int .i64 f1]
  | 43 => .int .i64 j
  | 44 => .int .i64 (j + 1)
  | 45 => .agg #[.int .i64 r0, .int .i64 r1]
  | 46 => .bool true
  | 47 => .bool true
  | 48 => .bool true
  | 49 => .agg #[.int .i64 d0, .int .i64 d1, .int .i64 e0, .int .i64 e1, .int .i64 f0, .int .i64 f1]
  | 50 => .agg #[.int .i64 g0, .int .i64 g1]
  | 51 => .bool (has ⟨⟨d0, d1⟩, ⟨e0, e1⟩, ⟨f0, f1⟩⟩ ⟨g0, g1⟩)
  | 52 => .agg #[.int .i64 d0, .int .i64 d1, .int .i64 e0, .int .i64 e1, .int .i64 f0, .int .i64 f1]
  | 53 => .agg #[.int .i64 g0, .int .i64 g1]
  | 54 => .bool (has ⟨⟨d0, d1⟩, ⟨e0, e1⟩, ⟨f0, f1⟩⟩ ⟨g0, g1⟩)
  | 55 => .bool true
  | 56 => .bool true
  | 57 => .bool true
  | 58 => .agg #[.int .i64 d0, .int .i64 d1, .int .i64 e0, .int .i64 e1, .int .i64 f0, .int .i64 f1]
  | 59 => .agg #[.int .i64 g0, .int .i64 g1]
  | 60 => .bool (ins ⟨⟨d0, d1⟩, ⟨e0, e1⟩, ⟨f0, f1⟩⟩ ⟨g0, g1⟩)
  | 61 => .agg #[.int .i64 d0, .int .i64 d1, .int .i64 e0, .int .i64 e1, .int .i64 f0, .int .i64 f1]
  | 62 => .agg #[.int .i64 g0, .int .i64 g1]
  | 63 => .bool (ins ⟨⟨d0, d1⟩, ⟨e0, e1⟩, ⟨f0, f1⟩⟩ ⟨g0, g1⟩)
  | 64 => .bool true
  | 65 => .bool true
  | 66 => .bool true
  | 67 => .agg #[.int .i64 m0, .int .i64 m1, .int .i64 m2, .int .i64 m3, .int .i64 m4, .int .i64 m5]
  | 68 => .agg #[.int .i64 g0, .int .i64 g1]
  | 69 => .bool (has ⟨⟨m0, m1⟩, ⟨m2, m3⟩, ⟨m4, m5⟩⟩ ⟨g0, g1⟩)
  | 70 => .agg #[.int .i64 m0, .int .i64 m1, .int .i64 m2, .int .i64 m3, .int .i64 m4, .int .i64 m5]
  | 71 => .agg #[.int .i64 g0, .int .i64 g1]
  | 72 => .bool (has ⟨⟨m0, m1⟩, ⟨m2, m3⟩, ⟨m4, m5⟩⟩ ⟨g0, g1⟩)
  | 73 => .bool true
  | 74 => .bool true
  | 75 => .bool true
  | 76 => .agg #[.int .i64 m0, .int .i64 m1, .int .i64 m2, .int .i64 m3, .int .i64 m4, .int .i64 m5]
  | 77 => .agg #[.int .i64 g0, .int .i64 g1]
  | 78 => .bool (ins ⟨⟨m0, m1⟩, ⟨m2, m3⟩, ⟨m4, m5⟩⟩ ⟨g0, g1⟩)
  | 79 => .agg #[.int .i64 m0, .int .i64 m1, .int .i64 m2, .int .i64 m3, .int .i64 m4, .int .i64 m5]
  | 80 => .agg #[.int .i64 g0, .int .i64 g1]
  | 81 => .bool (ins ⟨⟨m0, m1⟩, ⟨m2, m3⟩, ⟨m4, m5⟩⟩ ⟨g0, g1⟩)
  | 82 => .bool true
  | 83 => .bool true
  | 84 => .bool true
  | 85 => .agg #[.int .i64 d0, .int .i64 d1, .int .i64 e0, .int .i64 e1, .int .i64 f0, .int .i64 f1]
  | 86 => .int .i64 (twT ⟨⟨d0, d1⟩, ⟨e0, e1⟩, ⟨f0, f1⟩⟩)
  | 87 => .agg #[.int .i64 d0, .int .i64 d1, .int .i64 e0, .int .i64 e1, .int .i64 f0, .int .i64 f1]
  | 88 => .int .i64 (twT ⟨⟨d0, d1⟩, ⟨e0, e1⟩, ⟨f0, f1⟩⟩)
  | 89 => .bool true
  | 90 => .bool true
  | 91 => .bool true
  | 92 => .bool true
  | 93 => .bool true
  | 94 => .bool true
  | _ => undef

set_option maxHeartbeats 4000000 in
set_option maxRecDepth 100000 in
theorem region3 (d0 d1 e0 e1 f0 f1 g0 g1 q0 q1 r0 r1 i j m0 m1 m2 m3 m4 m5 : Int) (kt kp kx ky kq kr : Nat) (ok : Bool) (W : World) (m7 : cor ⟨⟨d0, d1⟩, ⟨e0, e1⟩, ⟨f0, f1⟩⟩ i = ⟨q0, q1⟩) (m8 : cor ⟨⟨d0, d1⟩, ⟨e0, e1⟩, ⟨f0, f1⟩⟩ j = ⟨q0, q1⟩) (m9 : cor ⟨⟨d0, d1⟩, ⟨e0, e1⟩, ⟨f0, f1⟩⟩ (j + 1) = ⟨r0, r1⟩) (eq1 : IntKind.i64.wrap (j + 1) = j + 1) {id : Nat} {ops : Array Oper} {Q : Exit → Act → World → Prop} {a : Act} {w : World}
    (ho : ops = (regOps Try.f3 5)) (hsz : a.tmps.size = 136) (t13 : a.tmps[13]? = some (.pointer (some ⟨kx, 0, none⟩))) (t15 : a.tmps[15]? = some (.pointer (some ⟨ky, 0, none⟩))) (t14 : a.tmps[14]? = some (.bool ok)) (t16 : a.tmps[16]? = some (.bool ok)) (t9 : a.tmps[9]? = some (.pointer (some ⟨kt, 0, none⟩))) (t10 : a.tmps[10]? = some (.pointer (some ⟨kp, 0, none⟩))) (t5 : a.tmps[5]? = some (.int .i64 i)) (t19 : a.tmps[19]? = some (.int .i64 j)) (t17 : a.tmps[17]? = some (.pointer (some ⟨kq, 0, none⟩))) (t18 : a.tmps[18]? = some (.pointer (some ⟨kr, 0, none⟩)))
    (h0 : w.drew.cell? ⟨kt, 0, none⟩ = some (.int .i64 d0) ∧ w.drew.cell? ⟨kt, 1, none⟩ = some (.int .i64 d1) ∧ w.drew.cell? ⟨kt, 2, none⟩ = some (.int .i64 e0) ∧ w.drew.cell? ⟨kt, 3, none⟩ = some (.int .i64 e1) ∧ w.drew.cell? ⟨kt, 4, none⟩ = some (.int .i64 f0) ∧ w.drew.cell? ⟨kt, 5, none⟩ = some (.int .i64 f1) ∧ w.drew.cell? ⟨kp, 0, none⟩ = some (.int .i64 g0) ∧ w.drew.cell? ⟨kp, 1, none⟩ = some (.int .i64 g1) ∧ w.drew.cell? ⟨kx, 0, none⟩ = some (.int .i64 m0) ∧ w.drew.cell? ⟨kx, 1, none⟩ = some (.int .i64 m1) ∧ w.drew.cell? ⟨kx, 2, none⟩ = some (.int .i64 m2) ∧ w.drew.cell? ⟨kx, 3, none⟩ = some (.int .i64 m3) ∧ w.drew.cell? ⟨kx, 4, none⟩ = some (.int .i64 m4) ∧ w.drew.cell? ⟨kx, 5, none⟩ = some (.int .i64 m5) ∧ w.drew.cell? ⟨ky, 0, none⟩ = some (.int .i64 m0) ∧ w.drew.cell? ⟨ky, 1, none⟩ = some (.int .i64 m1) ∧ w.drew.cell? ⟨ky, 2, none⟩ = some (.int .i64 m2) ∧ w.drew.cell? ⟨ky, 3, none⟩ = some (.int .i64 m3) ∧ w.drew.cell? ⟨ky, 4, none⟩ = some (.int .i64 m4) ∧ w.drew.cell? ⟨ky, 5, none⟩ = some (.int .i64 m5) ∧ w.drew.cell? ⟨kq, 0, none⟩ = some (.int .i64 q0) ∧ w.drew.cell? ⟨kq, 1, none⟩ = some (.int .i64 q1) ∧ w.drew.cell? ⟨kr, 0, none⟩ = some (.int .i64 r0) ∧ w.drew.cell? ⟨kr, 1, none⟩ = some (.int .i64 r1) ∧ Below W.heap.size W w.drew)
    (he : ∀ w', w'.cell? ⟨kt, 0, none⟩ = some (.int .i64 d0) ∧ w'.cell? ⟨kt, 1, none⟩ = some (.int .i64 d1) ∧ w'.cell? ⟨kt, 2, none⟩ = some (.int .i64 e0) ∧ w'.cell? ⟨kt, 3, none⟩ = some (.int .i64 e1) ∧ w'.cell? ⟨kt, 4, none⟩ = some (.int .i64 f0) ∧ w'.cell? ⟨kt, 5, none⟩ = some (.int .i64 f1) ∧ w'.cell? ⟨kp, 0, none⟩ = some (.int .i64 g0) ∧ w'.cell? ⟨kp, 1, none⟩ = some (.int .i64 g1) ∧ w'.cell? ⟨kx, 0, none⟩ = some (.int .i64 m0) ∧ w'.cell? ⟨kx, 1, none⟩ = some (.int .i64 m1) ∧ w'.cell? ⟨kx, 2, none⟩ = some (.int .i64 m2) ∧ w'.cell? ⟨kx, 3, none⟩ = some (.int .i64 m3) ∧ w'.cell? ⟨kx, 4, none⟩ = some (.int .i64 m4) ∧ w'.cell? ⟨kx, 5, none⟩ = some (.int .i64 m5) ∧ w'.cell? ⟨ky, 0, none⟩ = some (.int .i64 m0) ∧ w'.cell? ⟨ky, 1, none⟩ = some (.int .i64 m1) ∧ w'.cell? ⟨ky, 2, none⟩ = some (.int .i64 m2) ∧ w'.cell? ⟨ky, 3, none⟩ = some (.int .i64 m3) ∧ w'.cell? ⟨ky, 4, none⟩ = some (.int .i64 m4) ∧ w'.cell? ⟨ky, 5, none⟩ = some (.int .i64 m5) ∧ w'.cell? ⟨kq, 0, none⟩ = some (.int .i64 q0) ∧ w'.cell? ⟨kq, 1, none⟩ = some (.int .i64 q1) ∧ w'.cell? ⟨kr, 0, none⟩ = some (.int .i64 r0) ∧ w'.cell? ⟨kr, 1, none⟩ = some (.int .i64 r1) ∧ Below W.heap.size W w' → Q .normal ⟨(((((((((((((((((((((((((((((((((((((((((((((((((((((((((((((((((((((((((((((((((((((((((((((((a.tmps.setIfInBounds 42 (.agg #[.int .i64 m0, .int .i64 m1, .int .i64 m2, .int .i64 m3, .int .i64 m4, .int .i64 m5])).setIfInBounds 43 (.agg #[.int .i64 m0, .int .i64 m1, .int .i64 m2, .int .i64 m3, .int .i64 m4, .int .i64 m5])).setIfInBounds 44 (.bool true)).setIfInBounds 45 (.bool true)).setIfInBounds 46 (.bool ok)).setIfInBounds 47 (.bool ok)).setIfInBounds 48 (.bool true)).setIfInBounds 49 (.bool true)).setIfInBounds 50 (.bool true)).setIfInBounds 51 (.agg #[.int .i64 d0, .int .i64 d1, .int .i64 e0, .int .i64 e1, .int .i64 f0, .int .i64 f1])).setIfInBounds 52 (.bool (valT ⟨⟨d0, d1⟩, ⟨e0, e1⟩, ⟨f0, f1⟩⟩))).setIfInBounds 53 (.agg #[.int .i64 d0, .int .i64 d1, .int .i64 e0, .int .i64 e1, .int .i64 f0, .int .i64 f1])).setIfInBounds 54 (.bool (valT ⟨⟨d0, d1⟩, ⟨e0, e1⟩, ⟨f0, f1⟩⟩))).setIfInBounds 55 (.bool true)).setIfInBounds 56 (.bool true)).setIfInBounds 57 (.bool true)).setIfInBounds 58 (.agg #[.int .i64 m0, .int .i64 m1, .int .i64 m2, .int .i64 m3, .int .i64 m4, .int .i64 m5])).setIfInBounds 59 (.agg #[.int .i64 d0, .int .i64 d1, .int .i64 e0, .int .i64 e1, .int .i64 f0, .int .i64 f1])).setIfInBounds 60 (.int .i64 (cmpT ⟨⟨m0, m1⟩, ⟨m2, m3⟩, ⟨m4, m5⟩⟩ ⟨⟨d0, d1⟩, ⟨e0, e1⟩, ⟨f0, f1⟩⟩))).setIfInBounds 61 (.agg #[.int .i64 m0, .int .i64 m1, .int .i64 m2, .int .i64 m3, .int .i64 m4, .int .i64 m5])).setIfInBounds 62 (.agg #[.int .i64 d0, .int .i64 d1, .int .i64 e0, .int .i64 e1, .int .i64 f0, .int .i64 f1])).setIfInBounds 63 (.int .i64 (cmpT ⟨⟨m0, m1⟩, ⟨m2, m3⟩, ⟨m4, m5⟩⟩ ⟨⟨d0, d1⟩, ⟨e0, e1⟩, ⟨f0, f1⟩⟩))).setIfInBounds 64 (.bool true)).setIfInBounds 65 (.bool true)).setIfInBounds 66 (.bool true)).setIfInBounds 67 (.agg #[.int .i64 d0, .int .i64 d1, .int .i64 e0, .int .i64 e1, .int .i64 f0, .int .i64 f1])).setIfInBounds 68 (.int .i64 i)).setIfInBounds 69 (.agg #[.int .i64 q0, .int .i64 q1])).setIfInBounds 70 (.agg #[.int .i64 d0, .int .i64 d1, .int .i64 e0, .int .i64 e1, .int .i64 f0, .int .i64 f1])).setIfInBounds 71 (.int .i64 j)).setIfInBounds 72 (.agg #[.int .i64 q0, .int .i64 q1])).setIfInBounds 73 (.bool true)).setIfInBounds 74 (.bool true)).setIfInBounds 75 (.bool true)).setIfInBounds 76 (.agg #[.int .i64 q0, .int .i64 q1])).setIfInBounds 77 (.agg #[.int .i64 d0, .int .i64 d1, .int .i64 e0, .int .i64 e1, .int .i64 f0, .int .i64 f1])).setIfInBounds 78 (.int .i64 j)).setIfInBounds 79 (.agg #[.int .i64 q0, .int .i64 q1])).setIfInBounds 80 (.bool true)).setIfInBounds 81 (.bool true)).setIfInBounds 82 (.bool true)).setIfInBounds 83 (.agg #[.int .i64 r0, .int .i64 r1])).setIfInBounds 84 (.agg #[.int .i64 d0, .int .i64 d1, .int .i64 e0, .int .i64 e1, .int .i64 f0, .int .i64 f1])).setIfInBounds 85 (.int .i64 j)).setIfInBounds 86 (.int .i64 (j + 1))).setIfInBounds 87 (.agg #[.int .i64 r0, .int .i64 r1])).setIfInBounds 88 (.bool true)).setIfInBounds 89 (.bool true)).setIfInBounds 90 (.bool true)).setIfInBounds 91 (.agg #[.int .i64 d0, .int .i64 d1, .int .i64 e0, .int .i64 e1, .int .i64 f0, .int .i64 f1])).setIfInBounds 92 (.agg #[.int .i64 g0, .int .i64 g1])).setIfInBounds 93 (.bool (has ⟨⟨d0, d1⟩, ⟨e0, e1⟩, ⟨f0, f1⟩⟩ ⟨g0, g1⟩))).setIfInBounds 94 (.agg #[.int .i64 d0, .int .i64 d1, .int .i64 e0, .int .i64 e1, .int .i64 f0, .int .i64 f1])).setIfInBounds 95 (.agg #[.int .i64 g0, .int .i64 g1])).setIfInBounds 96 (.bool (has ⟨⟨d0, d1⟩, ⟨e0, e1⟩, ⟨f0, f1⟩⟩ ⟨g0, g1⟩))).setIfInBounds 97 (.bool true)).setIfInBounds 98 (.bool true)).setIfInBounds 99 (.bool true)).setIfInBounds 100 (.agg #[.int .i64 d0, .int .i64 d1, .int .i64 e0, .int .i64 e1, .int .i64 f0, .int .i64 f1])).setIfInBounds 101 (.agg #[.int .i64 g0, .int .i64 g1])).setIfInBounds 102 (.bool (ins ⟨⟨d0, d1⟩, ⟨e0, e1⟩, ⟨f0, f1⟩⟩ ⟨g0, g1⟩))).setIfInBounds 103 (.agg #[.int .i64 d0, .int .i64 d1, .int .i64 e0, .int .i64 e1, .int .i64 f0, .int .i64 f1])).setIfInBounds 104 (.agg #[.int .i64 g0, .int .i64 g1])).setIfInBounds 105 (.bool (ins ⟨⟨d0, d1⟩, ⟨e0, e1⟩, ⟨f0, f1⟩⟩ ⟨g0, g1⟩))).setIfInBounds 106 (.bool true)).setIfInBounds 107 (.bool true)).setIfInBounds 108 (.bool true)).setIfInBounds 109 (.agg #[.int .i64 m0, .int .i64 m1, .int .i64 m2, .int .i64 m3, .int .i64 m4, .int .i64 m5])).setIfInBounds 110 (.agg #[.int .i64 g0, .int .i64 g1])).setIfInBounds 111 (.bool (has ⟨⟨m0, m1⟩, ⟨m2, m3⟩, ⟨m4, m5⟩⟩ ⟨g0, g1⟩))).setIfInBounds 112 (.agg #[.int .i64 m0, .int .i64 m1, .int .i64 m2, .int .i64 m3, .int .i64 m4, .int .i64 m5])).setIfInBounds 113 (.agg #[.int .i64 g0, .int .i64 g1])).setIfInBounds 114 (.bool (has ⟨⟨m0, m1⟩, ⟨m2, m3⟩, ⟨m4, m5⟩⟩ ⟨g0, g1⟩))).setIfInBounds 115 (.bool true)).setIfInBounds 116 (.bool true)).setIfInBounds 117 (.bool true)).setIfInBounds 118 (.agg #[.int .i64 m0, .int .i64 m1, .int .i64 m2, .int .i64 m3, .int .i64 m4, .int .i64 m5])).setIfInBounds 119 (.agg #[.int .i64 g0, .int .i64 g1])).setIfInBounds 120 (.bool (ins ⟨⟨m0, m1⟩, ⟨m2, m3⟩, ⟨m4, m5⟩⟩ ⟨g0, g1⟩))).setIfInBounds 121 (.agg #[.int .i64 m0, .int .i64 m1, .int .i64 m2, .int .i64 m3, .int .i64 m4, .int .i64 m5])).setIfInBounds 122 (.agg #[.int .i64 g0, .int .i64 g1])).setIfInBounds 123 (.bool (ins ⟨⟨m0, m1⟩, ⟨m2, m3⟩, ⟨m4, m5⟩⟩ ⟨g0, g1⟩))).setIfInBounds 124 (.bool true)).setIfInBounds 125 (.bool true)).setIfInBounds 126 (.bool true)).setIfInBounds 127 (.agg #[.int .i64 d0, .int .i64 d1, .int .i64 e0, .int .i64 e1, .int .i64 f0, .int .i64 f1])).setIfInBounds 128 (.int .i64 (twT ⟨⟨d0, d1⟩, ⟨e0, e1⟩, ⟨f0, f1⟩⟩))).setIfInBounds 129 (.agg #[.int .i64 d0, .int .i64 d1, .int .i64 e0, .int .i64 e1, .int .i64 f0, .int .i64 f1])).setIfInBounds 130 (.int .i64 (twT ⟨⟨d0, d1⟩, ⟨e0, e1⟩, ⟨f0, f1⟩⟩))).setIfInBounds 131 (.bool true)).setIfInBounds 132 (.bool true)).setIfInBounds 133 (.bool true)).setIfInBounds 134 (.bool true)).setIfInBounds 135 (.bool true)).setIfInBounds 12 (.bool true)), a.defers⟩ w') :
    (Code.region id ops true).wp Try.prog Q a w := by
  have ht : tidy (regOps Try.f3 5) a.tmps.size = true := by rw [hsz]; kernel_rfl
  refine region_tab (G := Unit) (fun _ => (region3V d0 d1 e0 e1 f0 f1 g0 g1 q0 q1 r0 r1 i j m0 m1 m2 m3 m4 m5  ok)) (fun _ _ w' => w'.cell? ⟨kt, 0, none⟩ = some (.int .i64 d0) ∧ w'.cell? ⟨kt, 1, none⟩ = some (.int .i64 d1) ∧ w'.cell? ⟨kt, 2, none⟩ = some (.int .i64 e0) ∧ w'.cell? ⟨kt, 3, none⟩ = some (.int .i64 e1) ∧ w'.cell? ⟨kt, 4, none⟩ = some (.int .i64 f0) ∧ w'.cell? ⟨kt, 5, none⟩ = some (.int .i64 f1) ∧ w'.cell? ⟨kp, 0, none⟩ = some (.int .i64 g0) ∧ w'.cell? ⟨kp, 1, none⟩ = some (.int .i64 g1) ∧ w'.cell? ⟨kx, 0, none⟩ = some (.int .i64 m0) ∧ w'.cell? ⟨kx, 1, none⟩ = some (.int .i64 m1) ∧ w'.cell? ⟨kx, 2, none⟩ = some (.int .i64 m2) ∧ w'.cell? ⟨kx, 3, none⟩ = some (.int .i64 m3) ∧ w'.cell? ⟨kx, 4, none⟩ = some (.int .i64 m4) ∧ w'.cell? ⟨kx, 5, none⟩ = some (.int .i64 m5) ∧ w'.cell? ⟨ky, 0, none⟩ = some (.int .i64 m0) ∧ w'.cell? ⟨ky, 1, none⟩ = some (.int .i64 m1) ∧ w'.cell? ⟨ky, 2, none⟩ = some (.int .i64 m2) ∧ w'.cell? ⟨ky, 3, none⟩ = some (.int .i64 m3) ∧ w'.cell? ⟨ky, 4, none⟩ = some (.int .i64 m4) ∧ w'.cell? ⟨ky, 5, none⟩ = some (.int .i64 m5) ∧ w'.cell? ⟨kq, 0, none⟩ = some (.int .i64 q0) ∧ w'.cell? ⟨kq, 1, none⟩ = some (.int .i64 q1) ∧ w'.cell? ⟨kr, 0, none⟩ = some (.int .i64 r0) ∧ w'.cell? ⟨kr, 1, none⟩ = some (.int .i64 r1) ∧ Below W.heap.size W w') () (by kernel_rfl) ho ht h0 ?_ ?_
  · intro i o hoi g L b w' hun hpre hT hS
    clear he h0 ho hsz ht
    have hi : i < (regOps Try.f3 5).size := (Array.getElem?_eq_some_iff.1 hoi).1
    rw [show (regOps Try.f3 5).size = 95 by kernel_rfl] at hi
    obtain ⟨tc0, tc1, tc2, tc3, tc4, tc5, pc0, pc1, xc0, xc1, xc2, xc3, xc4, xc5, yc0, yc1, yc2, yc3, yc4, yc5, qc0, qc1, rc0, rc1, HB⟩ := hS
    have hcases : i = 0 ∨ i = 1 ∨ i = 2 ∨ i = 3 ∨ i = 4 ∨ i = 5 ∨ i = 6 ∨ i = 7 ∨ i = 8 ∨ i = 9 ∨ i = 10 ∨ i = 11 ∨ i = 12 ∨ i = 13 ∨ i = 14 ∨ i = 15 ∨ i = 16 ∨ i = 17 ∨ i = 18 ∨ i = 19 ∨ i = 20 ∨ i = 21 ∨ i = 22 ∨ i = 23 ∨ i = 24 ∨ i = 25 ∨ i = 26 ∨ i = 27 ∨ i = 28 ∨ i = 29 ∨ i = 30 ∨ i = 31 ∨ i = 32 ∨ i = 33 ∨ i = 34 ∨ i = 35 ∨ i = 36 ∨ i = 37 ∨ i = 38 ∨ i = 39 ∨ i = 40 ∨ i = 41 ∨ i = 42 ∨ i = 43 ∨ i = 44 ∨ i = 45 ∨ i = 46 ∨ i = 47 ∨ i = 48 ∨ i = 49 ∨ i = 50 ∨ i = 51 ∨ i = 52 ∨ i = 53 ∨ i = 54 ∨ i = 55 ∨ i = 56 ∨ i = 57 ∨ i = 58 ∨ i = 59 ∨ i = 60 ∨ i = 61 ∨ i = 62 ∨ i = 63 ∨ i = 64 ∨ i = 65 ∨ i = 66 ∨ i = 67 ∨ i = 68 ∨ i = 69 ∨ i = 70 ∨ i = 71 ∨ i = 72 ∨ i = 73 ∨ i = 74 ∨ i = 75 ∨ i = 76 ∨ i = 77 ∨ i = 78 ∨ i = 79 ∨ i = 80 ∨ i = 81 ∨ i = 82 ∨ i = 83 ∨ i = 84 ∨ i = 85 ∨ i = 86 ∨ i = 87 ∨ i = 88 ∨ i = 89 ∨ i = 90 ∨ i = 91 ∨ i = 92 ∨ i = 93 ∨ i = 94 := by omega
    rcases hcases with rfl | rfl | rfl | rfl | rfl | rfl | rfl | rfl | rfl | rfl | rfl | rfl | rfl | rfl | rfl | rfl | rfl | rfl | rfl | rfl | rfl | rfl | rfl | rfl | rfl | rfl | rfl | rfl | rfl | rfl | rfl | rfl | rfl | rfl | rfl | rfl | rfl | rfl | rfl | rfl | rfl | rfl | rfl | rfl | rfl | rfl | rfl | rfl | rfl | rfl | rfl | rfl | rfl | rfl | rfl | rfl | rfl | rfl | rfl | rfl | rfl | rfl | rfl | rfl | rfl | rfl | rfl | rfl | rfl | rfl | rfl | rfl | rfl | rfl | rfl | rfl | rfl | rfl | rfl | rfl | rfl | rfl | rfl | rfl | rfl | rfl | rfl | rfl | rfl | rfl | rfl | rfl | rfl | rfl | rfl
    · have hlit : (regOps Try.f3 5)[0]? = some ({ dst := some 42, op := Op.load 25 (Operand.tmp 13), type := 25, pos := "law.go:25", after := #[], guard := none }) := by kernel_rfl
      obtain rfl := Option.some.inj (hlit.symm.trans hoi)
      have r13 : b.tmps.getD 13 undef = (.pointer (some ⟨kx, 0, none⟩)) := rd ((hT.old 13 (by kernel_rfl)).trans t13)
      refine op_go hoi (want_all rfl) fun K hK => ?_
      clear hT hpre hun hlit hoi
      go_simp
      exact hK _ _ ⟨(), fun _ _ => rfl, rfl, tc0, tc1, tc2, tc3, tc4, tc5, pc0, pc1, xc0, xc1, xc2, xc3, xc4, xc5, yc0, yc1, yc2, yc3, yc4, yc5, qc0, qc1, rc0, rc1, HB⟩
    · have hlit : (regOps Try.f3 5)[1]? = some ({ dst := some 43, op := Op.load 25 (Operand.tmp 15), type := 25, pos := "law.go:25", after := #[], guard := none }) := by kernel_rfl
      obtain rfl := Option.some.inj (hlit.symm.trans hoi)
      have r15 : b.tmps.getD 15 undef = (.pointer (some ⟨ky, 0, none⟩)) := rd ((hT.old 15 (by kernel_rfl)).trans t15)
      refine op_go hoi (want_all rfl) fun K hK => ?_
      clear hT hpre hun hlit hoi
      go_simp
      exact hK _ _ ⟨(), fun _ _ => rfl, rfl, tc0, tc1, tc2, tc3, tc4, tc5, pc0, pc1, xc0, xc1, xc2, xc3, xc4, xc5, yc0, yc1, yc2, yc3, yc4, yc5, qc0, qc1, rc0, rc1, HB⟩
    · have hlit : (regOps Try.f3 5)[2]? = some ({ dst := some 44, op := Op.binOp BinOp.eql 25 (Operand.tmp 42) (Operand.tmp 43) 25, type := 4, pos := "law.go:25", after := #[{ on := 0, ground := Ground.data }, { on := 1, ground := Ground.data }], guard := none }) := by kernel_rfl
      obtain rfl := Option.some.inj (hlit.symm.trans hoi)
      have r42 : b.tmps.getD 42 undef = (.agg #[.int .i64 m0, .int .i64 m1, .int .i64 m2, .int .i64 m3, .int .i64 m4, .int .i64 m5]) := rd (hT.at 0 (by kernel_rfl) (pre_of hpre 0 (by kernel_rfl)))
      have r43 : b.tmps.getD 43 undef = (.agg #[.int .i64 m0, .int .i64 m1, .int .i64 m2, .int .i64 m3, .int .i64 m4, .int .i64 m5]) := rd (hT.at 1 (by kernel_rfl) (pre_of hpre 1 (by kernel_rfl)))
      refine op_go hoi (want_all rfl) fun K hK => ?_
      clear hT hpre hun hlit hoi
      go_simp
      exact hK _ _ ⟨(), fun _ _ => rfl, rfl, tc0, tc1, tc2, tc3, tc4, tc5, pc0, pc1, xc0, xc1, xc2, xc3, xc4, xc5, yc0, yc1, yc2, yc3, yc4, yc5, qc0, qc1, rc0, rc1, HB⟩
    · have hlit : (regOps Try.f3 5)[3]? = some ({ dst := some 45, op := Op.move (Operand.tmp 44), type := 4, pos := "law.go:25", after := #[{ on := 2, ground := Ground.data }], guard := none }) := by kernel_rfl
      obtain rfl := Option.some.inj (hlit.symm.trans hoi)
      have r44 : b.tmps.getD 44 undef = (.bool true) := rd (hT.at 2 (by kernel_rfl) (pre_of hpre 2 (by kernel_rfl)))
      refine op_go hoi (want_all rfl) fun K hK => ?_
      clear hT hpre hun hlit hoi
      go_simp
      exact hK _ _ ⟨(), fun _ _ => rfl, rfl, tc0, tc1, tc2, tc3, tc4, tc5, pc0, pc1, xc0, xc1, xc2, xc3, xc4, xc5, yc0, yc1, yc2, yc3, yc4, yc5, qc0, qc1, rc0, rc1, HB⟩
    · have hlit : (regOps Try.f3 5)[4]? = some ({ dst := some 46, op := Op.move (Operand.tmp 14), type := 4, pos := "law.go:25", after := #[{ on := 3, ground := Ground.guard }], guard := some (3, true) }) := by kernel_rfl
      obtain rfl := Option.some.inj (hlit.symm.trans hoi)
      have r14 : b.tmps.getD 14 undef = (.bool ok) := rd ((hT.old 14 (by kernel_rfl)).trans t14)
      refine op_go hoi (want_yes rfl (d := 45) (by kernel_rfl) (hT.at 3 (by kernel_rfl) (pre_of hpre 3 (by kernel_rfl)))) fun K hK => ?_
      clear hT hpre hun hlit hoi
      go_simp
      exact hK _ _ ⟨(), fun _ _ => rfl, rfl, tc0, tc1, tc2, tc3, tc4, tc5, pc0, pc1, xc0, xc1, xc2, xc3, xc4, xc5, yc0, yc1, yc2, yc3, yc4, yc5, qc0, qc1, rc0, rc1, HB⟩
    · have hlit : (regOps Try.f3 5)[5]? = some ({ dst := some 47, op := Op.move (Operand.tmp 16), type := 4, pos := "law.go:25", after := #[{ on := 3, ground := Ground.guard }], guard := some (3, true) }) := by kernel_rfl
      obtain rfl := Option.some.inj (hlit.symm.trans hoi)
      have r16 : b.tmps.getD 16 undef = (.bool ok) := rd ((hT.old 16 (by kernel_rfl)).trans t16)
      refine op_go hoi (want_yes rfl (d := 45) (by kernel_rfl) (hT.at 3 (by kernel_rfl) (pre_of hpre 3 (by kernel_rfl)))) fun K hK => ?_
      clear hT hpre hun hlit hoi
      go_simp
      exact hK _ _ ⟨(), fun _ _ => rfl, rfl, tc0, tc1, tc2, tc3, tc4, tc5, pc0, pc1, xc0, xc1, xc2, xc3, xc4, xc5, yc0, yc1, yc2, yc3, yc4, yc5, qc0, qc1, rc0, rc1, HB⟩
    · have hlit : (regOps Try.f3 5)[6]? = some ({ dst := some 48, op := Op.binOp BinOp.eql 4 (Operand.tmp 46) (Operand.tmp 47) 4, type := 4, pos := "law.go:25", after := #[{ on := 4, ground := Ground.data }, { on := 5, ground := Ground.data }, { on := 3, ground := Ground.guard }], guard := some (3, true) }) := by kernel_rfl
      obtain rfl := Option.some.inj (hlit.symm.trans hoi)
      have r46 : b.tmps.getD 46 undef = (.bool ok) := rd (hT.at 4 (by kernel_rfl) (pre_of hpre 4 (by kernel_rfl)))
      have r47 : b.tmps.getD 47 undef = (.bool ok) := rd (hT.at 5 (by kernel_rfl) (pre_of hpre 5 (by kernel_rfl)))
      refine op_go hoi (want_yes rfl (d := 45) (by kernel_rfl) (hT.at 3 (by kernel_rfl) (pre_of hpre 3 (by kernel_rfl)))) fun K hK => ?_
      clear hT hpre hun hlit hoi
      go_simp
      exact hK _ _ ⟨(), fun _ _ => rfl, rfl, tc0, tc1, tc2, tc3, tc4, tc5, pc0, pc1, xc0, xc1, xc2, xc3, xc4, xc5, yc0, yc1, yc2, yc3, yc4, yc5, qc0, qc1, rc0, rc1, HB⟩
    · have hlit : (regOps Try.f3 5)[7]? = some ({ dst := some 49, op := Op.pick (Operand.tmp 45) (Operand.tmp 48) (Operand.const (Value.bool false)), type := 4, pos := "law.go:25", after := #[{ on := 3, ground := Ground.data }, { on := 6, ground := Ground.data }], guard := none }) := by kernel_rfl
      obtain rfl := Option.some.inj (hlit.symm.trans hoi)
      have r45 : b.tmps.getD 45 undef = (.bool true) := rd (hT.at 3 (by kernel_rfl) (pre_of hpre 3 (by kernel_rfl)))
      have r48 : b.tmps.getD 48 undef = (.bool true) := rd (hT.at 6 (by kernel_rfl) (pre_of hpre 6 (by kernel_rfl)))
      refine op_go hoi (want_all rfl) fun K hK => ?_
      clear hT hpre hun hlit hoi
      go_simp
      exact hK _ _ ⟨(), fun _ _ => rfl, rfl, tc0, tc1, tc2, tc3, tc4, tc5, pc0, pc1, xc0, xc1, xc2, xc3, xc4, xc5, yc0, yc1, yc2, yc3, yc4, yc5, qc0, qc1, rc0, rc1, HB⟩
    · have hlit : (regOps Try.f3 5)[8]? = some ({ dst := some 50, op := Op.move (Operand.tmp 49), type := 4, pos := "law.go:25", after := #[{ on := 7, ground := Ground.data }, { on := 3, ground := Ground.chain }], guard := none }) := by kernel_rfl
      obtain rfl := Option.some.inj (hlit.symm.trans hoi)
      have r49 : b.tmps.getD 49 undef = (.bool true) := rd (hT.at 7 (by kernel_rfl) (pre_of hpre 7 (by kernel_rfl)))
      refine op_go hoi (want_all rfl) fun K hK => ?_
      clear hT hpre hun hlit hoi
      go_simp
      exact hK _ _ ⟨(), fun _ _ => rfl, rfl, tc0, tc1, tc2, tc3, tc4, tc5, pc0, pc1, xc0, xc1, xc2, xc3, xc4, xc5, yc0, yc1, yc2, yc3, yc4, yc5, qc0, qc1, rc0, rc1, HB⟩
    · have hlit : (regOps Try.f3 5)[9]? = some ({ dst := some 51, op := Op.load 25 (Operand.tmp 9), type := 25, pos := "law.go:25", after := #[{ on := 8, ground := Ground.guard }], guard := some (8, true) }) := by kernel_rfl
      obtain rfl := Option.some.inj (hlit.symm.trans hoi)
      have r9 : b.tmps.getD 9 undef = (.pointer (some ⟨kt, 0, none⟩)) := rd ((hT.old 9 (by kernel_rfl)).trans t9)
      refine op_go hoi (want_yes rfl (d := 50) (by kernel_rfl) (hT.at 8 (by kernel_rfl) (pre_of hpre 8 (by kernel_rfl)))) fun K hK => ?_
      clear hT hpre hun hlit hoi
      go_simp
      exact hK _ _ ⟨(), fun _ _ => rfl, rfl, tc0, tc1, tc2, tc3, tc4, tc5, pc0, pc1, xc0, xc1, xc2, xc3, xc4, xc5, yc0, yc1, yc2, yc3, yc4, yc5, qc0, qc1, rc0, rc1, HB⟩
    · have hlit : (regOps Try.f3 5)[10]? = some ({ dst := some 52, op := Op.call { callee := Callee.value (Operand.func 24), args := #[Operand.tmp 51], argTypes := #[25] }, type := 4, pos := "law.go:25", after := #[{ on := 9, ground := Ground.data }, { on := 8, ground := Ground.chain }, { on := 8, ground := Ground.guard }], guard := some (8, true) }) := by kernel_rfl
      obtain rfl := Option.some.inj (hlit.symm.trans hoi)
      have r51 : b.tmps.getD 51 undef = (.agg #[.int .i64 d0, .int .i64 d1, .int .i64 e0, .int .i64 e1, .int .i64 f0, .int .i64 f1]) := rd (hT.at 9 (by kernel_rfl) (pre_of hpre 9 (by kernel_rfl)))
      refine op_go hoi (want_yes rfl (d := 50) (by kernel_rfl) (hT.at 8 (by kernel_rfl) (pre_of hpre 8 (by kernel_rfl)))) fun K hK => ?_
      clear hT hpre hun hlit hoi
      go_simp
      go_at_call 24
      refine (valT24 _ _ _ _ _ _ _).mono ?_; rintro e w2 ⟨rfl, hb⟩; replace tc0 := ck hb (a := ⟨kt, 0, none⟩) (v := .int .i64 d0) (by go_simp); replace tc1 := ck hb (a := ⟨kt, 1, none⟩) (v := .int .i64 d1) (by go_simp); replace tc2 := ck hb (a := ⟨kt, 2, none⟩) (v := .int .i64 e0) (by go_simp); replace tc3 := ck hb (a := ⟨kt, 3, none⟩) (v := .int .i64 e1) (by go_simp); replace tc4 := ck hb (a := ⟨kt, 4, none⟩) (v := .int .i64 f0) (by go_simp); replace tc5 := ck hb (a := ⟨kt, 5, none⟩) (v := .int .i64 f1) (by go_simp); replace pc0 := ck hb (a := ⟨kp, 0, none⟩) (v := .int .i64 g0) (by go_simp); replace pc1 := ck hb (a := ⟨kp, 1, none⟩) (v := .int .i64 g1) (by go_simp); replace xc0 := ck hb (a := ⟨kx, 0, none⟩) (v := .int .i64 m0) (by go_simp); replace xc1 := ck hb (a := ⟨kx, 1, none⟩) (v := .int .i64 m1) (by go_simp); replace xc2 := ck hb (a := ⟨kx, 2, none⟩) (v := .int .i64 m2) (by go_simp); replace xc3 := ck hb (a := ⟨kx, 3, none⟩) (v := .int .i64 m3) (by go_simp); replace xc4 := ck hb (a := ⟨kx, 4, none⟩) (v := .int .i64 m4) (by go_simp); replace xc5 := ck hb (a := ⟨kx, 5, none⟩) (v := .int .i64 m5) (by go_simp); replace yc0 := ck hb (a := ⟨ky, 0, none⟩) (v := .int .i64 m0) (by go_simp); replace yc1 := ck hb (a := ⟨ky, 1, none⟩) (v := .int .i64 m1) (by go_simp); replace yc2 := ck hb (a := ⟨ky, 2, none⟩) (v := .int .i64 m2) (by go_simp); replace yc3 := ck hb (a := ⟨ky, 3, none⟩) (v := .int .i64 m3) (by go_simp); replace yc4 := ck hb (a := ⟨ky, 4, none⟩) (v := .int .i64 m4) (by go_simp); replace yc5 := ck hb (a := ⟨ky, 5, none⟩) (v := .int .i64 m5) (by go_simp); replace qc0 := ck hb (a := ⟨kq, 0, none⟩) (v := .int .i64 q0) (by go_simp); replace qc1 := ck hb (a := ⟨kq, 1, none⟩) (v := .int .i64 q1) (by go_simp); replace rc0 := ck hb (a := ⟨kr, 0, none⟩) (v := .int .i64 r0) (by go_simp); replace rc1 := ck hb (a := ⟨kr, 1, none⟩) (v := .int .i64 r1) (by go_simp); replace HB : Below W.heap.size W w2 := bt HB hb; clear hb
      exact hK _ _ ⟨(), fun _ _ => rfl, rfl, tc0, tc1, tc2, tc3, tc4, tc5, pc0, pc1, xc0, xc1, xc2, xc3, xc4, xc5, yc0, yc1, yc2, yc3, yc4, yc5, qc0, qc1, rc0, rc1, HB⟩
    · have hlit : (regOps Try.f3 5)[11]? = some ({ dst := some 53, op := Op.load 25 (Operand.tmp 9), type := 25, pos := "law.go:25", after := #[{ on := 8, ground := Ground.guard }], guard := some (8, true) }) := by kernel_rfl
      obtain rfl := Option.some.inj (hlit.symm.trans hoi)
      have r9 : b.tmps.getD 9 undef = (.pointer (some ⟨kt, 0, none⟩)) := rd ((hT.old 9 (by kernel_rfl)).trans t9)
      refine op_go hoi (want_yes rfl (d := 50) (by kernel_rfl) (hT.at 8 (by kernel_rfl) (pre_of hpre 8 (by kernel_rfl)))) fun K hK => ?_
      clear hT hpre hun hlit hoi
      go_simp
      exact hK _ _ ⟨(), fun _ _ => rfl, rfl, tc0, tc1, tc2, tc3, tc4, tc5, pc0, pc1, xc0, xc1, xc2, xc3, xc4, xc5, yc0, yc1, yc2, yc3, yc4, yc5, qc0, qc1, rc0, rc1, HB⟩
    · have hlit : (regOps Try.f3 5)[12]? = some ({ dst := some 54, op := Op.call { callee := Callee.value (Operand.func 25), args := #[Operand.tmp 53], argTypes := #[25] }, type := 4, pos := "law.go:25", after := #[{ on := 11, ground := Ground.data }, { on := 10, ground := Ground.chain }, { on := 8, ground := Ground.guard }], guard := some (8, true) }) := by kernel_rfl
      obtain rfl := Option.some.inj (hlit.symm.trans hoi)
      have r53 : b.tmps.getD 53 undef = (.agg #[.int .i64 d0, .int .i64 d1, .int .i64 e0, .int .i64 e1, .int .i64 f0, .int .i64 f1]) := rd (hT.at 11 (by kernel_rfl) (pre_of hpre 11 (by kernel_rfl)))
      refine op_go hoi (want_yes rfl (d := 50) (by kernel_rfl) (hT.at 8 (by kernel_rfl) (pre_of hpre 8 (by kernel_rfl)))) fun K hK => ?_
      clear hT hpre hun hlit hoi
      go_simp
      go_at_call 25
      refine (valT25 _ _ _ _ _ _ _).mono ?_; rintro e w2 ⟨rfl, hb⟩; replace tc0 := ck hb (a := ⟨kt, 0, none⟩) (v := .int .i64 d0) (by go_simp); replace tc1 := ck hb (a := ⟨kt, 1, none⟩) (v := .int .i64 d1) (by go_simp); replace tc2 := ck hb (a := ⟨kt, 2, none⟩) (v := .int .i64 e0) (by go_simp); replace tc3 := ck hb (a := ⟨kt, 3, none⟩) (v := .int .i64 e1) (by go_simp); replace tc4 := ck hb (a := ⟨kt, 4, none⟩) (v := .int .i64 f0) (by go_simp); replace tc5 := ck hb (a := ⟨kt, 5, none⟩) (v := .int .i64 f1) (by go_simp); replace pc0 := ck hb (a := ⟨kp, 0, none⟩) (v := .int .i64 g0) (by go_simp); replace pc1 := ck hb (a := ⟨kp, 1, none⟩) (v := .int .i64 g1) (by go_simp); replace xc0 := ck hb (a := ⟨kx, 0, none⟩) (v := .int .i64 m0) (by go_simp); replace xc1 := ck hb (a := ⟨kx, 1, none⟩) (v := .int .i64 m1) (by go_simp); replace xc2 := ck hb (a := ⟨kx, 2, none⟩) (v := .int .i64 m2) (by go_simp); replace xc3 := ck hb (a := ⟨kx, 3, none⟩) (v := .int .i64 m3) (by go_simp); replace xc4 := ck hb (a := ⟨kx, 4, none⟩) (v := .int .i64 m4) (by go_simp); replace xc5 := ck hb (a := ⟨kx, 5, none⟩) (v := .int .i64 m5) (by go_simp); replace yc0 := ck hb (a := ⟨ky, 0, none⟩) (v := .int .i64 m0) (by go_simp); replace yc1 := ck hb (a := ⟨ky, 1, none⟩) (v := .int .i64 m1) (by go_simp); replace yc2 := ck hb (a := ⟨ky, 2, none⟩) (v := .int .i64 m2) (by go_simp); replace yc3 := ck hb (a := ⟨ky, 3, none⟩) (v := .int .i64 m3) (by go_simp); replace yc4 := ck hb (a := ⟨ky, 4, none⟩) (v := .int .i64 m4) (by go_simp); replace yc5 := ck hb (a := ⟨ky, 5, none⟩) (v := .int .i64 m5) (by go_simp); replace qc0 := ck hb (a := ⟨kq, 0, none⟩) (v := .int .i64 q0) (by go_simp); replace qc1 := ck hb (a := ⟨kq, 1, none⟩) (v := .int .i64 q1) (by go_simp); replace rc0 := ck hb (a := ⟨kr, 0, none⟩) (v := .int .i64 r0) (by go_simp); replace rc1 := ck hb (a := ⟨kr, 1, none⟩) (v := .int .i64 r1) (by go_simp); replace HB : Below W.heap.size W w2 := bt HB hb; clear hb
      exact hK _ _ ⟨(), fun _ _ => rfl, rfl, tc0, tc1, tc2, tc3, tc4, tc5, pc0, pc1, xc0, xc1, xc2, xc3, xc4, xc5, yc0, yc1, yc2, yc3, yc4, yc5, qc0, qc1, rc0, rc1, HB⟩
    · have hlit : (regOps Try.f3 5)[13]? = some ({ dst := some 55, op := Op.binOp BinOp.eql 4 (Operand.tmp 52) (Operand.tmp 54) 4, type := 4, pos := "law.go:25", after := #[{ on := 10, ground := Ground.data }, { on := 12, ground := Ground.data }, { on := 8, ground := Ground.guard }], guard := some (8, true) }) := by kernel_rfl
      obtain rfl := Option.some.inj (hlit.symm.trans hoi)
      have r52 : b.tmps.getD 52 undef = (.bool (valT ⟨⟨d0, d1⟩, ⟨e0, e1⟩, ⟨f0, f1⟩⟩)) := rd (hT.at 10 (by kernel_rfl) (pre_of hpre 10 (by kernel_rfl)))
      have r54 : b.tmps.getD 54 undef = (.bool (valT ⟨⟨d0, d1⟩, ⟨e0, e1⟩, ⟨f0, f1⟩⟩)) := rd (hT.at 12 (by kernel_rfl) (pre_of hpre 12 (by kernel_rfl)))
      refine op_go hoi (want_yes rfl (d := 50) (by kernel_rfl) (hT.at 8 (by kernel_rfl) (pre_of hpre 8 (by kernel_rfl)))) fun K hK => ?_
      clear hT hpre hun hlit hoi
      go_simp
      exact hK _ _ ⟨(), fun _ _ => rfl, rfl, tc0, tc1, tc2, tc3, tc4, tc5, pc0, pc1, xc0, xc1, xc2, xc3, xc4, xc5, yc0, yc1, yc2, yc3, yc4, yc5, qc0, qc1, rc0, rc1, HB⟩
    · have hlit : (regOps Try.f3 5)[14]? = some ({ dst := some 56, op := Op.pick (Operand.tmp 50) (Operand.tmp 55) (Operand.const (Value.bool false)), type := 4, pos := "law.go:25", after := #[{ on := 8, ground := Ground.data }, { on := 13, ground := Ground.data }], guard := none }) := by kernel_rfl
      obtain rfl := Option.some.inj (hlit.symm.trans hoi)
      have r50 : b.tmps.getD 50 undef = (.bool true) := rd (hT.at 8 (by kernel_rfl) (pre_of hpre 8 (by kernel_rfl)))
      have r55 : b.tmps.getD 55 undef = (.bool true) := rd (hT.at 13 (by kernel_rfl) (pre_of hpre 13 (by kernel_rfl)))
      refine op_go hoi (want_all rfl) fun K hK => ?_
      clear hT hpre hun hlit hoi
      go_simp
      exact hK _ _ ⟨(), fun _ _ => rfl, rfl, tc0, tc1, tc2, tc3, tc4, tc5, pc0, pc1, xc0, xc1, xc2, xc3, xc4, xc5, yc0, yc1, yc2, yc3, yc4, yc5, qc0, qc1, rc0, rc1, HB⟩
    · have hlit : (regOps Try.f3 5)[15]? = some ({ dst := some 57, op := Op.move (Operand.tmp 56), type := 4, pos := "law.go:25", after := #[{ on := 14, ground := Ground.data }, { on := 12, ground := Ground.chain }], guard := none }) := by kernel_rfl
      obtain rfl := Option.some.inj (hlit.symm.trans hoi)
      have r56 : b.tmps.getD 56 undef = (.bool true) := rd (hT.at 14 (by kernel_rfl) (pre_of hpre 14 (by kernel_rfl)))
      refine op_go hoi (want_all rfl) fun K hK => ?_
      clear hT hpre hun hlit hoi
      go_simp
      exact hK _ _ ⟨(), fun _ _ => rfl, rfl, tc0, tc1, tc2, tc3, tc4, tc5, pc0, pc1, xc0, xc1, xc2, xc3, xc4, xc5, yc0, yc1, yc2, yc3, yc4, yc5, qc0, qc1, rc0, rc1, HB⟩
    · have hlit : (regOps Try.f3 5)[16]? = some ({ dst := some 58, op := Op.load 25 (Operand.tmp 13), type := 25, pos := "law.go:25", after := #[{ on := 15, ground := Ground.guard }], guard := some (15, true) }) := by kernel_rfl
      obtain rfl := Option.some.inj (hlit.symm.trans hoi)
      have r13 : b.tmps.getD 13 undef = (.pointer (some ⟨kx, 0, none⟩)) := rd ((hT.old 13 (by kernel_rfl)).trans t13)
      refine op_go hoi (want_yes rfl (d := 57) (by kernel_rfl) (hT.at 15 (by kernel_rfl) (pre_of hpre 15 (by kernel_rfl)))) fun K hK => ?_
      clear hT hpre hun hlit hoi
      go_simp
      exact hK _ _ ⟨(), fun _ _ => rfl, rfl, tc0, tc1, tc2, tc3, tc4, tc5, pc0, pc1, xc0, xc1, xc2, xc3, xc4, xc5, yc0, yc1, yc2, yc3, yc4, yc5, qc0, qc1, rc0, rc1, HB⟩
    · have hlit : (regOps Try.f3 5)[17]? = some ({ dst := some 59, op := Op.load 25 (Operand.tmp 9), type := 25, pos := "law.go:25", after := #[{ on := 15, ground := Ground.guard }], guard := some (15, true) }) := by kernel_rfl
      obtain rfl := Option.some.inj (hlit.symm.trans hoi)
      have r9 : b.tmps.getD 9 undef = (.pointer (some ⟨kt, 0, none⟩)) := rd ((hT.old 9 (by kernel_rfl)).trans t9)
      refine op_go hoi (want_yes rfl (d := 57) (by kernel_rfl) (hT.at 15 (by kernel_rfl) (pre_of hpre 15 (by kernel_rfl)))) fun K hK => ?_
      clear hT hpre hun hlit hoi
      go_simp
      exact hK _ _ ⟨(), fun _ _ => rfl, rfl, tc0, tc1, tc2, tc3, tc4, tc5, pc0, pc1, xc0, xc1, xc2, xc3, xc4, xc5, yc0, yc1, yc2, yc3, yc4, yc5, qc0, qc1, rc0, rc1, HB⟩
    · have hlit : (regOps Try.f3 5)[18]? = some ({ dst := some 60, op := Op.call { callee := Callee.value (Operand.func 26), args := #[Operand.tmp 58, Operand.tmp 59], argTypes := #[25, 25] }, type := 3, pos := "law.go:25", after := #[{ on := 16, ground := Ground.data }, { on := 17, ground := Ground.data }, { on := 15, ground := Ground.chain }, { on := 15, ground := Ground.guard }], guard := some (15, true) }) := by kernel_rfl
      obtain rfl := Option.some.inj (hlit.symm.trans hoi)
      have r58 : b.tmps.getD 58 undef = (.agg #[.int .i64 m0, .int .i64 m1, .int .i64 m2, .int .i64 m3, .int .i64 m4, .int .i64 m5]) := rd (hT.at 16 (by kernel_rfl) (pre_of hpre 16 (by kernel_rfl)))
      have r59 : b.tmps.getD 59 undef = (.agg #[.int .i64 d0, .int .i64 d1, .int .i64 e0, .int .i64 e1, .int .i64 f0, .int .i64 f1]) := rd (hT.at 17 (by kernel_rfl) (pre_of hpre 17 (by kernel_rfl)))
      refine op_go hoi (want_yes rfl (d := 57) (by kernel_rfl) (hT.at 15 (by kernel_rfl) (pre_of hpre 15 (by kernel_rfl)))) fun K hK => ?_
      clear hT hpre hun hlit hoi
      go_simp
      go_at_call 26
      refine (cmpT26 _ _ _ _ _ _ _ _ _ _ _ _ _).mono ?_; rintro e w2 ⟨rfl, hb⟩; replace tc0 := ck hb (a := ⟨kt, 0, none⟩) (v := .int .i64 d0) (by go_simp); replace tc1 := ck hb (a := ⟨kt, 1, none⟩) (v := .int .i64 d1) (by go_simp); replace tc2 := ck hb (a := ⟨kt, 2, none⟩) (v := .int .i64 e0) (by go_simp); replace tc3 := ck hb (a := ⟨kt, 3, none⟩) (v := .int .i64 e1) (by go_simp); replace tc4 := ck hb (a := ⟨kt, 4, none⟩) (v := .int .i64 f0) (by go_simp); replace tc5 := ck hb (a := ⟨kt, 5, none⟩) (v := .int .i64 f1) (by go_simp); replace pc0 := ck hb (a := ⟨kp, 0, none⟩) (v := .int .i64 g0) (by go_simp); replace pc1 := ck hb (a := ⟨kp, 1, none⟩) (v := .int .i64 g1) (by go_simp); replace xc0 := ck hb (a := ⟨kx, 0, none⟩) (v := .int .i64 m0) (by go_simp); replace xc1 := ck hb (a := ⟨kx, 1, none⟩) (v := .int .i64 m1) (by go_simp); replace xc2 := ck hb (a := ⟨kx, 2, none⟩) (v := .int .i64 m2) (by go_simp); replace xc3 := ck hb (a := ⟨kx, 3, none⟩) (v := .int .i64 m3) (by go_simp); replace xc4 := ck hb (a := ⟨kx, 4, none⟩) (v := .int .i64 m4) (by go_simp); replace xc5 := ck hb (a := ⟨kx, 5, none⟩) (v := .int .i64 m5) (by go_simp); replace yc0 := ck hb (a := ⟨ky, 0, none⟩) (v := .int .i64 m0) (by go_simp); replace yc1 := ck hb (a := ⟨ky, 1, none⟩) (v := .int .i64 m1) (by go_simp); replace yc2 := ck hb (a := ⟨ky, 2, none⟩) (v := .int .i64 m2) (by go_simp); replace yc3 := ck hb (a := ⟨ky, 3, none⟩) (v := .int .i64 m3) (by go_simp); replace yc4 := ck hb (a := ⟨ky, 4, none⟩) (v := .int .i64 m4) (by go_simp); replace yc5 := ck hb (a := ⟨ky, 5, none⟩) (v := .int .i64 m5) (by go_simp); replace qc0 := ck hb (a := ⟨kq, 0, none⟩) (v := .int .i64 q0) (by go_simp); replace qc1 := ck hb (a := ⟨kq, 1, none⟩) (v := .int .i64 q1) (by go_simp); replace rc0 := ck hb (a := ⟨kr, 0, none⟩) (v := .int .i64 r0) (by go_simp); replace rc1 := ck hb (a := ⟨kr, 1, none⟩) (v := .int .i64 r1) (by go_simp); replace HB : Below W.heap.size W w2 := bt HB hb; clear hb
      exact hK _ _ ⟨(), fun _ _ => rfl, rfl, tc0, tc1, tc2, tc3, tc4, tc5, pc0, pc1, xc0, xc1, xc2, xc3, xc4, xc5, yc0, yc1, yc2, yc3, yc4, yc5, qc0, qc1, rc0, rc1, HB⟩
    · have hlit : (regOps Try.f3 5)[19]? = some ({ dst := some 61, op := Op.load 25 (Operand.tmp 13), type := 25, pos := "law.go:25", after := #[{ on := 15, ground := Ground.guard }], guard := some (15, true) }) := by kernel_rfl
      obtain rfl := Option.some.inj (hlit.symm.trans hoi)
      have r13 : b.tmps.getD 13 undef = (.pointer (some ⟨kx, 0, none⟩)) := rd ((hT.old 13 (by kernel_rfl)).trans t13)
      refine op_go hoi (want_yes rfl (d := 57) (by kernel_rfl) (hT.at 15 (by kernel_rfl) (pre_of hpre 15 (by kernel_rfl)))) fun K hK => ?_
      clear hT hpre hun hlit hoi
      go_simp
      exact hK _ _ ⟨(), fun _ _ => rfl, rfl, tc0, tc1, tc2, tc3, tc4, tc5, pc0, pc1, xc0, xc1, xc2, xc3, xc4, xc5, yc0, yc1, yc2, yc3, yc4, yc5, qc0, qc1, rc0, rc1, HB⟩
    · have hlit : (regOps Try.f3 5)[20]? = some ({ dst := some 62, op := Op.load 25 (Operand.tmp 9), type := 25, pos := "law.go:25", after := #[{ on := 15, ground := Ground.guard }], guard := some (15, true) }) := by kernel_rfl
      obtain rfl := Option.some.inj (hlit.symm.trans hoi)
      have r9 : b.tmps.getD 9 undef = (.pointer (some ⟨kt, 0, none⟩)) := rd ((hT.old 9 (by kernel_rfl)).trans t9)
      refine op_go hoi (want_yes rfl (d := 57) (by kernel_rfl) (hT.at 15 (by kernel_rfl) (pre_of hpre 15 (by kernel_rfl)))) fun K hK => ?_
      clear hT hpre hun hlit hoi
      go_simp
      exact hK _ _ ⟨(), fun _ _ => rfl, rfl, tc0, tc1, tc2, tc3, tc4, tc5, pc0, pc1, xc0, xc1, xc2, xc3, xc4, xc5, yc0, yc1, yc2, yc3, yc4, yc5, qc0, qc1, rc0, rc1, HB⟩
    · have hlit : (regOps Try.f3 5)[21]? = some ({ dst := some 63, op := Op.call { callee := Callee.value (Operand.func 27), args := #[Operand.tmp 61, Operand.tmp 62], argTypes := #[25, 25] }, type := 3, pos := "law.go:25", after := #[{ on := 19, ground := Ground.data }, { on := 20, ground := Ground.data }, { on := 18, ground := Ground.chain }, { on := 15, ground := Ground.guard }], guard := some (15, true) }) := by kernel_rfl
      obtain rfl := Option.some.inj (hlit.symm.trans hoi)
      have r61 : b.tmps.getD 61 undef = (.agg #[.int .i64 m0, .int .i64 m1, .int .i64 m2, .int .i64 m3, .int .i64 m4, .int .i64 m5]) := rd (hT.at 19 (by kernel_rfl) (pre_of hpre 19 (by kernel_rfl)))
      have r62 : b.tmps.getD 62 undef = (.agg #[.int .i64 d0, .int .i64 d1, .int .i64 e0, .int .i64 e1, .int .i64 f0, .int .i64 f1]) := rd (hT.at 20 (by kernel_rfl) (pre_of hpre 20 (by kernel_rfl)))
      refine op_go hoi (want_yes rfl (d := 57) (by kernel_rfl) (hT.at 15 (by kernel_rfl) (pre_of hpre 15 (by kernel_rfl)))) fun K hK => ?_
      clear hT hpre hun hlit hoi
      go_simp
      go_at_call 27
      refine (cmpT27 _ _ _ _ _ _ _ _ _ _ _ _ _).mono ?_; rintro e w2 ⟨rfl, hb⟩; replace tc0 := ck hb (a := ⟨kt, 0, none⟩) (v := .int .i64 d0) (by go_simp); replace tc1 := ck hb (a := ⟨kt, 1, none⟩) (v := .int .i64 d1) (by go_simp); replace tc2 := ck hb (a := ⟨kt, 2, none⟩) (v := .int .i64 e0) (by go_simp); replace tc3 := ck hb (a := ⟨kt, 3, none⟩) (v := .int .i64 e1) (by go_simp); replace tc4 := ck hb (a := ⟨kt, 4, none⟩) (v := .int .i64 f0) (by go_simp); replace tc5 := ck hb (a := ⟨kt, 5, none⟩) (v := .int .i64 f1) (by go_simp); replace pc0 := ck hb (a := ⟨kp, 0, none⟩) (v := .int .i64 g0) (by go_simp); replace pc1 := ck hb (a := ⟨kp, 1, none⟩) (v := .int .i64 g1) (by go_simp); replace xc0 := ck hb (a := ⟨kx, 0, none⟩) (v := .int .i64 m0) (by go_simp); replace xc1 := ck hb (a := ⟨kx, 1, none⟩) (v := .int .i64 m1) (by go_simp); replace xc2 := ck hb (a := ⟨kx, 2, none⟩) (v := .int .i64 m2) (by go_simp); replace xc3 := ck hb (a := ⟨kx, 3, none⟩) (v := .int .i64 m3) (by go_simp); replace xc4 := ck hb (a := ⟨kx, 4, none⟩) (v := .int .i64 m4) (by go_simp); replace xc5 := ck hb (a := ⟨kx, 5, none⟩) (v := .int .i64 m5) (by go_simp); replace yc0 := ck hb (a := ⟨ky, 0, none⟩) (v := .int .i64 m0) (by go_simp); replace yc1 := ck hb (a := ⟨ky, 1, none⟩) (v := .int .i64 m1) (by go_simp); replace yc2 := ck hb (a := ⟨ky, 2, none⟩) (v := .int .i64 m2) (by go_simp); replace yc3 := ck hb (a := ⟨ky, 3, none⟩) (v := .int .i64 m3) (by go_simp); replace yc4 := ck hb (a := ⟨ky, 4, none⟩) (v := .int .i64 m4) (by go_simp); replace yc5 := ck hb (a := ⟨ky, 5, none⟩) (v := .int .i64 m5) (by go_simp); replace qc0 := ck hb (a := ⟨kq, 0, none⟩) (v := .int .i64 q0) (by go_simp); replace qc1 := ck hb (a := ⟨kq, 1, none⟩) (v := .int .i64 q1) (by go_simp); replace rc0 := ck hb (a := ⟨kr, 0, none⟩) (v := .int .i64 r0) (by go_simp); replace rc1 := ck hb (a := ⟨kr, 1, none⟩) (v := .int .i64 r1) (by go_simp); replace HB : Below W.heap.size W w2 := bt HB hb; clear hb
      exact hK _ _ ⟨(), fun _ _ => rfl, rfl, tc0, tc1, tc2, tc3, tc4, tc5, pc0, pc1, xc0, xc1, xc2, xc3, xc4, xc5, yc0, yc1, yc2, yc3, yc4, yc5, qc0, qc1, rc0, rc1, HB⟩
    · have hlit : (regOps Try.f3 5)[22]? = some ({ dst := some 64, op := Op.binOp BinOp.eql 3 (Operand.tmp 60) (Operand.tmp 63) 3, type := 4, pos := "law.go:25", after := #[{ on := 18, ground := Ground.data }, { on := 21, ground := Ground.data }, { on := 15, ground := Ground.guard }], guard := some (15, true) }) := by kernel_rfl
      obtain rfl := Option.some.inj (hlit.symm.trans hoi)
      have r60 : b.tmps.getD 60 undef = (.int .i64 (cmpT ⟨⟨m0, m1⟩, ⟨m2, m3⟩, ⟨m4, m5⟩⟩ ⟨⟨d0, d1⟩, ⟨e0, e1⟩, ⟨f0, f1⟩⟩)) := rd (hT.at 18 (by kernel_rfl) (pre_of hpre 18 (by kernel_rfl)))
      have r63 : b.tmps.getD 63 undef = (.int .i64 (cmpT ⟨⟨m0, m1⟩, ⟨m2, m3⟩, ⟨m4, m5⟩⟩ ⟨⟨d0, d1⟩, ⟨e0, e1⟩, ⟨f0, f1⟩⟩)) := rd (hT.at 21 (by kernel_rfl) (pre_of hpre 21 (by kernel_rfl)))
      refine op_go hoi (want_yes rfl (d := 57) (by kernel_rfl) (hT.at 15 (by kernel_rfl) (pre_of hpre 15 (by kernel_rfl)))) fun K hK => ?_
      clear hT hpre hun hlit hoi
      go_simp
      exact hK _ _ ⟨(), fun _ _ => rfl, rfl, tc0, tc1, tc2, tc3, tc4, tc5, pc0, pc1, xc0, xc1, xc2, xc3, xc4, xc5, yc0, yc1, yc2, yc3, yc4, yc5, qc0, qc1, rc0, rc1, HB⟩
    · have hlit : (regOps Try.f3 5)[23]? = some ({ dst := some 65, op := Op.pick (Operand.tmp 57) (Operand.tmp 64) (Operand.const (Value.bool false)), type := 4, pos := "law.go:25", after := #[{ on := 15, ground := Ground.data }, { on := 22, ground := Ground.data }], guard := none }) := by kernel_rfl
      obtain rfl := Option.some.inj (hlit.symm.trans hoi)
      have r57 : b.tmps.getD 57 undef = (.bool true) := rd (hT.at 15 (by kernel_rfl) (pre_of hpre 15 (by kernel_rfl)))
      have r64 : b.tmps.getD 64 undef = (.bool true) := rd (hT.at 22 (by kernel_rfl) (pre_of hpre 22 (by kernel_rfl)))
      refine op_go hoi (want_all rfl) fun K hK => ?_
      clear hT hpre hun hlit hoi
      go_simp
      exact hK _ _ ⟨(), fun _ _ => rfl, rfl, tc0, tc1, tc2, tc3, tc4, tc5, pc0, pc1, xc0, xc1, xc2, xc3, xc4, xc5, yc0, yc1, yc2, yc3, yc4, yc5, qc0, qc1, rc0, rc1, HB⟩
    · have hlit : (regOps Try.f3 5)[24]? = some ({ dst := some 66, op := Op.move (Operand.tmp 65), type := 4, pos := "law.go:25", after := #[{ on := 23, ground := Ground.data }, { on := 21, ground := Ground.chain }], guard := none }) := by kernel_rfl
      obtain rfl := Option.some.inj (hlit.symm.trans hoi)
      have r65 : b.tmps.getD 65 undef = (.bool true) := rd (hT.at 23 (by kernel_rfl) (pre_of hpre 23 (by kernel_rfl)))
      refine op_go hoi (want_all rfl) fun K hK => ?_
      clear hT hpre hun hlit hoi
      go_simp
      exact hK _ _ ⟨(), fun _ _ => rfl, rfl, tc0, tc1, tc2, tc3, tc4, tc5, pc0, pc1, xc0, xc1, xc2, xc3, xc4, xc5, yc0, yc1, yc2, yc3, yc4, yc5, qc0, qc1, rc0, rc1, HB⟩
    · have hlit : (regOps Try.f3 5)[25]? = some ({ dst := some 67, op := Op.load 25 (Operand.tmp 9), type := 25, pos := "law.go:25", after := #[{ on := 24, ground := Ground.guard }], guard := some (24, true) }) := by kernel_rfl
      obtain rfl := Option.some.inj (hlit.symm.trans hoi)
      have r9 : b.tmps.getD 9 undef = (.pointer (some ⟨kt, 0, none⟩)) := rd ((hT.old 9 (by kernel_rfl)).trans t9)
      refine op_go hoi (want_yes rfl (d := 66) (by kernel_rfl) (hT.at 24 (by kernel_rfl) (pre_of hpre 24 (by kernel_rfl)))) fun K hK => ?_
      clear hT hpre hun hlit hoi
      go_simp
      exact hK _ _ ⟨(), fun _ _ => rfl, rfl, tc0, tc1, tc2, tc3, tc4, tc5, pc0, pc1, xc0, xc1, xc2, xc3, xc4, xc5, yc0, yc1, yc2, yc3, yc4, yc5, qc0, qc1, rc0, rc1, HB⟩
    · have hlit : (regOps Try.f3 5)[26]? = some ({ dst := some 68, op := Op.move (Operand.tmp 5), type := 3, pos := "law.go:25", after := #[{ on := 24, ground := Ground.guard }], guard := some (24, true) }) := by kernel_rfl
      obtain rfl := Option.some.inj (hlit.symm.trans hoi)
      have r5 : b.tmps.getD 5 undef = (.int .i64 i) := rd ((hT.old 5 (by kernel_rfl)).trans t5)
      refine op_go hoi (want_yes rfl (d := 66) (by kernel_rfl) (hT.at 24 (by kernel_rfl) (pre_of hpre 24 (by kernel_rfl)))) fun K hK => ?_
      clear hT hpre hun hlit hoi
      go_simp
      exact hK _ _ ⟨(), fun _ _ => rfl, rfl, tc0, tc1, tc2, tc3, tc4, tc5, pc0, pc1, xc0, xc1, xc2, xc3, xc4, xc5, yc0, yc1, yc2, yc3, yc4, yc5, qc0, qc1, rc0, rc1, HB⟩
    · have hlit : (regOps Try.f3 5)[27]? = some ({ dst := some 69, op := Op.call { callee := Callee.value (Operand.func 28), args := #[Operand.tmp 67, Operand.tmp 68], argTypes := #[25, 3] }, type := 23, pos := "law.go:25", after := #[{ on := 25, ground := Ground.data }, { on := 26, ground := Ground.data }, { on := 24, ground := Ground.chain }, { on := 24, ground := Ground.guard }], guard := some (24, true) }) := by kernel_rfl
      obtain rfl := Option.some.inj (hlit.symm.trans hoi)
      have r67 : b.tmps.getD 67 undef = (.agg #[.int .i64 d0, .int .i64 d1, .int .i64 e0, .int .i64 e1, .int .i64 f0, .int .i64 f1]) := rd (hT.at 25 (by kernel_rfl) (pre_of hpre 25 (by kernel_rfl)))
      have r68 : b.tmps.getD 68 undef = (.int .i64 i) := rd (hT.at 26 (by kernel_rfl) (pre_of hpre 26 (by kernel_rfl)))
      refine op_go hoi (want_yes rfl (d := 66) (by kernel_rfl) (hT.at 24 (by kernel_rfl) (pre_of hpre 24 (by kernel_rfl)))) fun K hK => ?_
      clear hT hpre hun hlit hoi
      go_simp
      go_at_call 28
      refine (cor28 _ _ _ _ _ _ _ _).mono ?_; rw [m7]; rintro e w2 ⟨rfl, hb⟩; replace tc0 := ck hb (a := ⟨kt, 0, none⟩) (v := .int .i64 d0) (by go_simp); replace tc1 := ck hb (a := ⟨kt, 1, none⟩) (v := .int .i64 d1) (by go_simp); replace tc2 := ck hb (a := ⟨kt, 2, none⟩) (v := .int .i64 e0) (by go_simp); replace tc3 := ck hb (a := ⟨kt, 3, none⟩) (v := .int .i64 e1) (by go_simp); replace tc4 := ck hb (a := ⟨kt, 4, none⟩) (v := .int .i64 f0) (by go_simp); replace tc5 := ck hb (a := ⟨kt, 5, none⟩) (v := .int .i64 f1) (by go_simp); replace pc0 := ck hb (a := ⟨kp, 0, none⟩) (v := .int .i64 g0) (by go_simp); replace pc1 := ck hb (a := ⟨kp, 1, none⟩) (v := .int .i64 g1) (by go_simp); replace xc0 := ck hb (a := ⟨kx, 0, none⟩) (v := .int .i64 m0) (by go_simp); replace xc1 := ck hb (a := ⟨kx, 1, none⟩) (v := .int .i64 m1) (by go_simp); replace xc2 := ck hb (a := ⟨kx, 2, none⟩) (v := .int .i64 m2) (by go_simp); replace xc3 := ck hb (a := ⟨kx, 3, none⟩) (v := .int .i64 m3) (by go_simp); replace xc4 := ck hb (a := ⟨kx, 4, none⟩) (v := .int .i64 m4) (by go_simp); replace xc5 := ck hb (a := ⟨kx, 5, none⟩) (v := .int .i64 m5) (by go_simp); replace yc0 := ck hb (a := ⟨ky, 0, none⟩) (v := .int .i64 m0) (by go_simp); replace yc1 := ck hb (a := ⟨ky, 1, none⟩) (v := .int .i64 m1) (by go_simp); replace yc2 := ck hb (a := ⟨ky, 2, none⟩) (v := .int .i64 m2) (by go_simp); replace yc3 := ck hb (a := ⟨ky, 3, none⟩) (v := .int .i64 m3) (by go_simp); replace yc4 := ck hb (a := ⟨ky, 4, none⟩) (v := .int .i64 m4) (by go_simp); replace yc5 := ck hb (a := ⟨ky, 5, none⟩) (v := .int .i64 m5) (by go_simp); replace qc0 := ck hb (a := ⟨kq, 0, none⟩) (v := .int .i64 q0) (by go_simp); replace qc1 := ck hb (a := ⟨kq, 1, none⟩) (v := .int .i64 q1) (by go_simp); replace rc0 := ck hb (a := ⟨kr, 0, none⟩) (v := .int .i64 r0) (by go_simp); replace rc1 := ck hb (a := ⟨kr, 1, none⟩) (v := .int .i64 r1) (by go_simp); replace HB : Below W.heap.size W w2 := bt HB hb; clear hb
      exact hK _ _ ⟨(), fun _ _ => rfl, rfl, tc0, tc1, tc2, tc3, tc4, tc5, pc0, pc1, xc0, xc1, xc2, xc3, xc4, xc5, yc0, yc1, yc2, yc3, yc4, yc5, qc0, qc1, rc0, rc1, HB⟩
    · have hlit : (regOps Try.f3 5)[28]? = some ({ dst := some 70, op := Op.load 25 (Operand.tmp 9), type := 25, pos := "law.go:25", after := #[{ on := 24, ground := Ground.guard }], guard := some (24, true) }) := by kernel_rfl
      obtain rfl := Option.some.inj (hlit.symm.trans hoi)
      have r9 : b.tmps.getD 9 undef = (.pointer (some ⟨kt, 0, none⟩)) := rd ((hT.old 9 (by kernel_rfl)).trans t9)
      refine op_go hoi (want_yes rfl (d := 66) (by kernel_rfl) (hT.at 24 (by kernel_rfl) (pre_of hpre 24 (by kernel_rfl)))) fun K hK => ?_
      clear hT hpre hun hlit hoi
      go_simp
      exact hK _ _ ⟨(), fun _ _ => rfl, rfl, tc0, tc1, tc2, tc3, tc4, tc5, pc0, pc1, xc0, xc1, xc2, xc3, xc4, xc5, yc0, yc1, yc2, yc3, yc4, yc5, qc0, qc1, rc0, rc1, HB⟩
    · have hlit : (regOps Try.f3 5)[29]? = some ({ dst := some 71, op := Op.move (Operand.tmp 19), type := 3, pos := "law.go:25", after := #[{ on := 24, ground := Ground.guard }], guard := some (24, true) }) := by kernel_rfl
      obtain rfl := Option.some.inj (hlit.symm.trans hoi)
      have r19 : b.tmps.getD 19 undef = (.int .i64 j) := rd ((hT.old 19 (by kernel_rfl)).trans t19)
      refine op_go hoi (want_yes rfl (d := 66) (by kernel_rfl) (hT.at 24 (by kernel_rfl) (pre_of hpre 24 (by kernel_rfl)))) fun K hK => ?_
      clear hT hpre hun hlit hoi
      go_simp
      exact hK _ _ ⟨(), fun _ _ => rfl, rfl, tc0, tc1, tc2, tc3, tc4, tc5, pc0, pc1, xc0, xc1, xc2, xc3, xc4, xc5, yc0, yc1, yc2, yc3, yc4, yc5, qc0, qc1, rc0, rc1, HB⟩
    · have hlit : (regOps Try.f3 5)[30]? = some ({ dst := some 72, op := Op.call { callee := Callee.value (Operand.func 29), args := #[Operand.tmp 70, Operand.tmp 71], argTypes := #[25, 3] }, type := 23, pos := "law.go:25", after := #[{ on := 28, ground := Ground.data }, { on := 29, ground := Ground.data }, { on := 27, ground := Ground.chain }, { on := 24, ground := Ground.guard }], guard := some (24, true) }) := by kernel_rfl
      obtain rfl := Option.some.inj (hlit.symm.trans hoi)
      have r70 : b.tmps.getD 70 undef = (.agg #[.int .i64 d0, .int .i64 d1, .int .i64 e0, .int .i64 e1, .int .i64 f0, .int .i64 f1]) := rd (hT.at 28 (by kernel_rfl) (pre_of hpre 28 (by kernel_rfl)))
      have r71 : b.tmps.getD 71 undef = (.int .i64 j) := rd (hT.at 29 (by kernel_rfl) (pre_of hpre 29 (by kernel_rfl)))
      refine op_go hoi (want_yes rfl (d := 66) (by kernel_rfl) (hT.at 24 (by kernel_rfl) (pre_of hpre 24 (by kernel_rfl)))) fun K hK => ?_
      clear hT hpre hun hlit hoi
      go_simp
      go_at_call 29
      refine (cor29 _ _ _ _ _ _ _ _).mono ?_; rw [m8]; rintro e w2 ⟨rfl, hb⟩; replace tc0 := ck hb (a := ⟨kt, 0, none⟩) (v := .int .i64 d0) (by go_simp); replace tc1 := ck hb (a := ⟨kt, 1, none⟩) (v := .int .i64 d1) (by go_simp); replace tc2 := ck hb (a := ⟨kt, 2, none⟩) (v := .int .i64 e0) (by go_simp); replace tc3 := ck hb (a := ⟨kt, 3, none⟩) (v := .int .i64 e1) (by go_simp); replace tc4 := ck hb (a := ⟨kt, 4, none⟩) (v := .int .i64 f0) (by go_simp); replace tc5 := ck hb (a := ⟨kt, 5, none⟩) (v := .int .i64 f1) (by go_simp); replace pc0 := ck hb (a := ⟨kp, 0, none⟩) (v := .int .i64 g0) (by go_simp); replace pc1 := ck hb (a := ⟨kp, 1, none⟩) (v := .int .i64 g1) (by go_simp); replace xc0 := ck hb (a := ⟨kx, 0, none⟩) (v := .int .i64 m0) (by go_simp); replace xc1 := ck hb (a := ⟨kx, 1, none⟩) (v := .int .i64 m1) (by go_simp); replace xc2 := ck hb (a := ⟨kx, 2, none⟩) (v := .int .i64 m2) (by go_simp); replace xc3 := ck hb (a := ⟨kx, 3, none⟩) (v := .int .i64 m3) (by go_simp); replace xc4 := ck hb (a := ⟨kx, 4, none⟩) (v := .int .i64 m4) (by go_simp); replace xc5 := ck hb (a := ⟨kx, 5, none⟩) (v := .int .i64 m5) (by go_simp); replace yc0 := ck hb (a := ⟨ky, 0, none⟩) (v := .int .i64 m0) (by go_simp); replace yc1 := ck hb (a := ⟨ky, 1, none⟩) (v := .int .i64 m1) (by go_simp); replace yc2 := ck hb (a := ⟨ky, 2, none⟩) (v := .int .i64 m2) (by go_simp); replace yc3 := ck hb (a := ⟨ky, 3, none⟩) (v := .int .i64 m3) (by go_simp); replace yc4 := ck hb (a := ⟨ky, 4, none⟩) (v := .int .i64 m4) (by go_simp); replace yc5 := ck hb (a := ⟨ky, 5, none⟩) (v := .int .i64 m5) (by go_simp); replace qc0 := ck hb (a := ⟨kq, 0, none⟩) (v := .int .i64 q0) (by go_simp); replace qc1 := ck hb (a := ⟨kq, 1, none⟩) (v := .int .i64 q1) (by go_simp); replace rc0 := ck hb (a := ⟨kr, 0, none⟩) (v := .int .i64 r0) (by go_simp); replace rc1 := ck hb (a := ⟨kr, 1, none⟩) (v := .int .i64 r1) (by go_simp); replace HB : Below W.heap.size W w2 := bt HB hb; clear hb
      exact hK _ _ ⟨(), fun _ _ => rfl, rfl, tc0, tc1, tc2, tc3, tc4, tc5, pc0, pc1, xc0, xc1, xc2, xc3, xc4, xc5, yc0, yc1, yc2, yc3, yc4, yc5, qc0, qc1, rc0, rc1, HB⟩
    · have hlit : (regOps Try.f3 5)[31]? = some ({ dst := some 73, op := Op.binOp BinOp.eql 23 (Operand.tmp 69) (Operand.tmp 72) 23, type := 4, pos := "law.go:25", after := #[{ on := 27, ground := Ground.data }, { on := 30, ground := Ground.data }, { on := 24, ground := Ground.guard }], guard := some (24, true) }) := by kernel_rfl
      obtain rfl := Option.some.inj (hlit.symm.trans hoi)
      have r69 : b.tmps.getD 69 undef = (.agg #[.int .i64 q0, .int .i64 q1]) := rd (hT.at 27 (by kernel_rfl) (pre_of hpre 27 (by kernel_rfl)))
      have r72 : b.tmps.getD 72 undef = (.agg #[.int .i64 q0, .int .i64 q1]) := rd (hT.at 30 (by kernel_rfl) (pre_of hpre 30 (by kernel_rfl)))
      refine op_go hoi (want_yes rfl (d := 66) (by kernel_rfl) (hT.at 24 (by kernel_rfl) (pre_of hpre 24 (by kernel_rfl)))) fun K hK => ?_
      clear hT hpre hun hlit hoi
      go_simp
      exact hK _ _ ⟨(), fun _ _ => rfl, rfl, tc0, tc1, tc2, tc3, tc4, tc5, pc0, pc1, xc0, xc1, xc2, xc3, xc4, xc5, yc0, yc1, yc2, yc3, yc4, yc5, qc0, qc1, rc0, rc1, HB⟩
    · have hlit : (regOps Try.f3 5)[32]? = some ({ dst := some 74, op := Op.pick (Operand.tmp 66) (Operand.tmp 73) (Operand.const (Value.bool false)), type := 4, pos := "law.go:25", after := #[{ on := 24, ground := Ground.data }, { on := 31, ground := Ground.data }], guard := none }) := by kernel_rfl
      obtain rfl := Option.some.inj (hlit.symm.trans hoi)
      have r66 : b.tmps.getD 66 undef = (.bool true) := rd (hT.at 24 (by kernel_rfl) (pre_of hpre 24 (by kernel_rfl)))
      have r73 : b.tmps.getD 73 undef = (.bool true) := rd (hT.at 31 (by kernel_rfl) (pre_of hpre 31 (by kernel_rfl)))
      refine op_go hoi (want_all rfl) fun K hK => ?_
      clear hT hpre hun hlit hoi
      go_simp
      exact hK _ _ ⟨(), fun _ _ => rfl, rfl, tc0, tc1, tc2, tc3, tc4, tc5, pc0, pc1, xc0, xc1, xc2, xc3, xc4, xc5, yc0, yc1, yc2, yc3, yc4, yc5, qc0, qc1, rc0, rc1, HB⟩
    · have hlit : (regOps Try.f3 5)[33]? = some ({ dst := some 75, op := Op.move (Operand.tmp 74), type := 4, pos := "law.go:25", after := #[{ on := 32, ground := Ground.data }, { on := 30, ground := Ground.chain }], guard := none }) := by kernel_rfl
      obtain rfl := Option.some.inj (hlit.symm.trans hoi)
      have r74 : b.tmps.getD 74 undef = (.bool true) := rd (hT.at 32 (by kernel_rfl) (pre_of hpre 32 (by kernel_rfl)))
      refine op_go hoi (want_all rfl) fun K hK => ?_
      clear hT hpre hun hlit hoi
      go_simp
      exact hK _ _ ⟨(), fun _ _ => rfl, rfl, tc0, tc1, tc2, tc3, tc4, tc5, pc0, pc1, xc0, xc1, xc2, xc3, xc4, xc5, yc0, yc1, yc2, yc3, yc4, yc5, qc0, qc1, rc0, rc1, HB⟩
    · have hlit : (regOps Try.f3 5)[34]? = some ({ dst := some 76, op := Op.load 23 (Operand.tmp 17), type := 23, pos := "law.go:25", after := #[{ on := 33, ground := Ground.guard }], guard := some (33, true) }) := by kernel_rfl
      obtain rfl := Option.some.inj (hlit.symm.trans hoi)
      have r17 : b.tmps.getD 17 undef = (.pointer (some ⟨kq, 0, none⟩)) := rd ((hT.old 17 (by kernel_rfl)).trans t17)
      refine op_go hoi (want_yes rfl (d := 75) (by kernel_rfl) (hT.at 33 (by kernel_rfl) (pre_of hpre 33 (by kernel_rfl)))) fun K hK => ?_
      clear hT hpre hun hlit hoi
      go_simp
      exact hK _ _ ⟨(), fun _ _ => rfl, rfl, tc0, tc1, tc2, tc3, tc4, tc5, pc0, pc1, xc0, xc1, xc2, xc3, xc4, xc5, yc0, yc1, yc2, yc3, yc4, yc5, qc0, qc1, rc0, rc1, HB⟩
    · have hlit : (regOps Try.f3 5)[35]? = some ({ dst := some 77, op := Op.load 25 (Operand.tmp 9), type := 25, pos := "law.go:25", after := #[{ on := 33, ground := Ground.guard }], guard := some (33, true) }) := by kernel_rfl
      obtain rfl := Option.some.inj (hlit.symm.trans hoi)
      have r9 : b.tmps.getD 9 undef = (.pointer (some ⟨kt, 0, none⟩)) := rd ((hT.old 9 (by kernel_rfl)).trans t9)
      refine op_go hoi (want_yes rfl (d := 75) (by kernel_rfl) (hT.at 33 (by kernel_rfl) (pre_of hpre 33 (by kernel_rfl)))) fun K hK => ?_
      clear hT hpre hun hlit hoi
      go_simp
      exact hK _ _ ⟨(), fun _ _ => rfl, rfl, tc0, tc1, tc2, tc3, tc4, tc5, pc0, pc1, xc0, xc1, xc2, xc3, xc4, xc5, yc0, yc1, yc2, yc3, yc4, yc5, qc0, qc1, rc0, rc1, HB⟩
    · have hlit : (regOps Try.f3 5)[36]? = some ({ dst := some 78, op := Op.move (Operand.tmp 19), type := 3, pos := "law.go:25", after := #[{ on := 33, ground := Ground.guard }], guard := some (33, true) }) := by kernel_rfl
      obtain rfl := Option.some.inj (hlit.symm.trans hoi)
      have r19 : b.tmps.getD 19 undef = (.int .i64 j) := rd ((hT.old 19 (by kernel_rfl)).trans t19)
      refine op_go hoi (want_yes rfl (d := 75) (by kernel_rfl) (hT.at 33 (by kernel_rfl) (pre_of hpre 33 (by kernel_rfl)))) fun K hK => ?_
      clear hT hpre hun hlit hoi
      go_simp
      exact hK _ _ ⟨(), fun _ _ => rfl, rfl, tc0, tc1, tc2, tc3, tc4, tc5, pc0, pc1, xc0, xc1, xc2, xc3, xc4, xc5, yc0, yc1, yc2, yc3, yc4, yc5, qc0, qc1, rc0, rc1, HB⟩
    · have hlit : (regOps Try.f3 5)[37]? = some ({ dst := some 79, op := Op.call { callee := Callee.value (Operand.func 29), args := #[Operand.tmp 77, Operand.tmp 78], argTypes := #[25, 3] }, type := 23, pos := "law.go:25", after := #[{ on := 35, ground := Ground.data }, { on := 36, ground := Ground.data }, { on := 33, ground := Ground.chain }, { on := 33, ground := Ground.guard }], guard := some (33, true) }) := by kernel_rfl
      obtain rfl := Option.some.inj (hlit.symm.trans hoi)
      have r77 : b.tmps.getD 77 undef = (.agg #[.int .i64 d0, .int .i64 d1, .int .i64 e0, .int .i64 e1, .int .i64 f0, .int .i64 f1]) := rd (hT.at 35 (by kernel_rfl) (pre_of hpre 35 (by kernel_rfl)))
      have r78 : b.tmps.getD 78 undef = (.int .i64 j) := rd (hT.at 36 (by kernel_rfl) (pre_of hpre 36 (by kernel_rfl)))
      refine op_go hoi (want_yes rfl (d := 75) (by kernel_rfl) (hT.at 33 (by kernel_rfl) (pre_of hpre 33 (by kernel_rfl)))) fun K hK => ?_
      clear hT hpre hun hlit hoi
      go_simp
      go_at_call 29
      refine (cor29 _ _ _ _ _ _ _ _).mono ?_; rw [m8]; rintro e w2 ⟨rfl, hb⟩; replace tc0 := ck hb (a := ⟨kt, 0, none⟩) (v := .int .i64 d0) (by go_simp); replace tc1 := ck hb (a := ⟨kt, 1, none⟩) (v := .int .i64 d1) (by go_simp); replace tc2 := ck hb (a := ⟨kt, 2, none⟩) (v := .int .i64 e0) (by go_simp); replace tc3 := ck hb (a := ⟨kt, 3, none⟩) (v := .int .i64 e1) (by go_simp); replace tc4 := ck hb (a := ⟨kt, 4, none⟩) (v := .int .i64 f0) (by go_simp); replace tc5 := ck hb (a := ⟨kt, 5, none⟩) (v := .int .i64 f1) (by go_simp); replace pc0 := ck hb (a := ⟨kp, 0, none⟩) (v := .int .i64 g0) (by go_simp); replace pc1 := ck hb (a := ⟨kp, 1, none⟩) (v := .int .i64 g1) (by go_simp); replace xc0 := ck hb (a := ⟨kx, 0, none⟩) (v := .int .i64 m0) (by go_simp); replace xc1 := ck hb (a := ⟨kx, 1, none⟩) (v := .int .i64 m1) (by go_simp); replace xc2 := ck hb (a := ⟨kx, 2, none⟩) (v := .int .i64 m2) (by go_simp); replace xc3 := ck hb (a := ⟨kx, 3, none⟩) (v := .int .i64 m3) (by go_simp); replace xc4 := ck hb (a := ⟨kx, 4, none⟩) (v := .int .i64 m4) (by go_simp); replace xc5 := ck hb (a := ⟨kx, 5, none⟩) (v := .int .i64 m5) (by go_simp); replace yc0 := ck hb (a := ⟨ky, 0, none⟩) (v := .int .i64 m0) (by go_simp); replace yc1 := ck hb (a := ⟨ky, 1, none⟩) (v := .int .i64 m1) (by go_simp); replace yc2 := ck hb (a := ⟨ky, 2, none⟩) (v := .int .i64 m2) (by go_simp); replace yc3 := ck hb (a := ⟨ky, 3, none⟩) (v := .int .i64 m3) (by go_simp); replace yc4 := ck hb (a := ⟨ky, 4, none⟩) (v := .int .i64 m4) (by go_simp); replace yc5 := ck hb (a := ⟨ky, 5, none⟩) (v := .int .i64 m5) (by go_simp); replace qc0 := ck hb (a := ⟨kq, 0, none⟩) (v := .int .i64 q0) (by go_simp); replace qc1 := ck hb (a := ⟨kq, 1, none⟩) (v := .int .i64 q1) (by go_simp); replace rc0 := ck hb (a := ⟨kr, 0, none⟩) (v := .int .i64 r0) (by go_simp); replace rc1 := ck hb (a := ⟨kr, 1, none⟩) (v := .int .i64 r1) (by go_simp); replace HB : Below W.heap.size W w2 := bt HB hb; clear hb
      exact hK _ _ ⟨(), fun _ _ => rfl, rfl, tc0, tc1, tc2, tc3, tc4, tc5, pc0, pc1, xc0, xc1, xc2, xc3, xc4, xc5, yc0, yc1, yc2, yc3, yc4, yc5, qc0, qc1, rc0, rc1, HB⟩
    · have hlit : (regOps Try.f3 5)[38]? = some ({ dst := some 80, op := Op.binOp BinOp.eql 23 (Operand.tmp 76) (Operand.tmp 79) 23, type := 4, pos := "law.go:25", after := #[{ on := 34, ground := Ground.data }, { on := 37, ground := Ground.data }, { on := 33, ground := Ground.guard }], guard := some (33, true) }) := by kernel_rfl
      obtain rfl := Option.some.inj (hlit.symm.trans hoi)
      have r76 : b.tmps.getD 76 undef = (.agg #[.int .i64 q0, .int .i64 q1]) := rd (hT.at 34 (by kernel_rfl) (pre_of hpre 34 (by kernel_rfl)))
      have r79 : b.tmps.getD 79 undef = (.agg #[.int .i64 q0, .int .i64 q1]) := rd (hT.at 37 (by kernel_rfl) (pre_of hpre 37 (by kernel_rfl)))
      refine op_go hoi (want_yes rfl (d := 75) (by kernel_rfl) (hT.at 33 (by kernel_rfl) (pre_of hpre 33 (by kernel_rfl)))) fun K hK => ?_
      clear hT hpre hun hlit hoi
      go_simp
      exact hK _ _ ⟨(), fun _ _ => rfl, rfl, tc0, tc1, tc2, tc3, tc4, tc5, pc0, pc1, xc0, xc1, xc2, xc3, xc4, xc5, yc0, yc1, yc2, yc3, yc4, yc5, qc0, qc1, rc0, rc1, HB⟩
    · have hlit : (regOps Try.f3 5)[39]? = some ({ dst := some 81, op := Op.pick (Operand.tmp 75) (Operand.tmp 80) (Operand.const (Value.bool false)), type := 4, pos := "law.go:25", after := #[{ on := 33, ground := Ground.data }, { on := 38, ground := Ground.data }], guard := none }) := by kernel_rfl
      obtain rfl := Option.some.inj (hlit.symm.trans hoi)
      have r75 : b.tmps.getD 75 undef = (.bool true) := rd (hT.at 33 (by kernel_rfl) (pre_of hpre 33 (by kernel_rfl)))
      have r80 : b.tmps.getD 80 undef = (.bool true) := rd (hT.at 38 (by kernel_rfl) (pre_of hpre 38 (by kernel_rfl)))
      refine op_go hoi (want_all rfl) fun K hK => ?_
      clear hT hpre hun hlit hoi
      go_simp
      exact hK _ _ ⟨(), fun _ _ => rfl, rfl, tc0, tc1, tc2, tc3, tc4, tc5, pc0, pc1, xc0, xc1, xc2, xc3, xc4, xc5, yc0, yc1, yc2, yc3, yc4, yc5, qc0, qc1, rc0, rc1, HB⟩
    · have hlit : (regOps Try.f3 5)[40]? = some ({ dst := some 82, op := Op.move (Operand.tmp 81), type := 4, pos := "law.go:25", after := #[{ on := 39, ground := Ground.data }, { on := 37, ground := Ground.chain }], guard := none }) := by kernel_rfl
      obtain rfl := Option.some.inj (hlit.symm.trans hoi)
      have r81 : b.tmps.getD 81 undef = (.bool true) := rd (hT.at 39 (by kernel_rfl) (pre_of hpre 39 (by kernel_rfl)))
      refine op_go hoi (want_all rfl) fun K hK => ?_
      clear hT hpre hun hlit hoi
      go_simp
      exact hK _ _ ⟨(), fun _ _ => rfl, rfl, tc0, tc1, tc2, tc3, tc4, tc5, pc0, pc1, xc0, xc1, xc2, xc3, xc4, xc5, yc0, yc1, yc2, yc3, yc4, yc5, qc0, qc1, rc0, rc1, HB⟩
    · have hlit : (regOps Try.f3 5)[41]? = some ({ dst := some 83, op := Op.load 23 (Operand.tmp 18), type := 23, pos := "law.go:25", after := #[{ on := 40, ground := Ground.guard }], guard := some (40, true) }) := by kernel_rfl
      obtain rfl := Option.some.inj (hlit.symm.trans hoi)
      have r18 : b.tmps.getD 18 undef = (.pointer (some ⟨kr, 0, none⟩)) := rd ((hT.old 18 (by kernel_rfl)).trans t18)
      refine op_go hoi (want_yes rfl (d := 82) (by kernel_rfl) (hT.at 40 (by kernel_rfl) (pre_of hpre 40 (by kernel_rfl)))) fun K hK => ?_
      clear hT hpre hun hlit hoi
      go_simp
      exact hK _ _ ⟨(), fun _ _ => rfl, rfl, tc0, tc1, tc2, tc3, tc4, tc5, pc0, pc1, xc0, xc1, xc2, xc3, xc4, xc5, yc0, yc1, yc2, yc3, yc4, yc5, qc0, qc1, rc0, rc1, HB⟩
    · have hlit : (regOps Try.f3 5)[42]? = some ({ dst := some 84, op := Op.load 25 (Operand.tmp 9), type := 25, pos := "law.go:25", after := #[{ on := 40, ground := Ground.guard }], guard := some (40, true) }) := by kernel_rfl
      obtain rfl := Option.some.inj (hlit.symm.trans hoi)
      have r9 : b.tmps.getD 9 undef = (.pointer (some ⟨kt, 0, none⟩)) := rd ((hT.old 9 (by kernel_rfl)).trans t9)
      refine op_go hoi (want_yes rfl (d := 82) (by kernel_rfl) (hT.at 40 (by kernel_rfl) (pre_of hpre 40 (by kernel_rfl)))) fun K hK => ?_
      clear hT hpre hun hlit hoi
      go_simp
      exact hK _ _ ⟨(), fun _ _ => rfl, rfl, tc0, tc1, tc2, tc3, tc4, tc5, pc0, pc1, xc0, xc1, xc2, xc3, xc4, xc5, yc0, yc1, yc2, yc3, yc4, yc5, qc0, qc1, rc0, rc1, HB⟩
    · have hlit : (regOps Try.f3 5)[43]? = some ({ dst := some 85, op := Op.move (Operand.tmp 19), type := 3, pos := "law.go:25", after := #[{ on := 40, ground := Ground.guard }], guard := some (40, true) }) := by kernel_rfl
      obtain rfl := Option.some.inj (hlit.symm.trans hoi)
      have r19 : b.tmps.getD 19 undef = (.int .i64 j) := rd ((hT.old 19 (by kernel_rfl)).trans t19)
      refine op_go hoi (want_yes rfl (d := 82) (by kernel_rfl) (hT.at 40 (by kernel_rfl) (pre_of hpre 40 (by kernel_rfl)))) fun K hK => ?_
      clear hT hpre hun hlit hoi
      go_simp
      exact hK _ _ ⟨(), fun _ _ => rfl, rfl, tc0, tc1, tc2, tc3, tc4, tc5, pc0, pc1, xc0, xc1, xc2, xc3, xc4, xc5, yc0, yc1, yc2, yc3, yc4, yc5, qc0, qc1, rc0, rc1, HB⟩
    · have hlit : (regOps Try.f3 5)[44]? = some ({ dst := some 86, op := Op.binOp BinOp.add 3 (Operand.tmp 85) (Operand.const (Value.int IntKind.i64 1)) 3, type := 3, pos := "law.go:25", after := #[{ on := 43, ground := Ground.data }, { on := 40, ground := Ground.guard }], guard := some (40, true) }) := by kernel_rfl
      obtain rfl := Option.some.inj (hlit.symm.trans hoi)
      have r85 : b.tmps.getD 85 undef = (.int .i64 j) := rd (hT.at 43 (by kernel_rfl) (pre_of hpre 43 (by kernel_rfl)))
      refine op_go hoi (want_yes rfl (d := 82) (by kernel_rfl) (hT.at 40 (by kernel_rfl) (pre_of hpre 40 (by kernel_rfl)))) fun K hK => ?_
      clear hT hpre hun hlit hoi
      go_simp
      exact hK _ _ ⟨(), fun _ _ => rfl, rfl, tc0, tc1, tc2, tc3, tc4, tc5, pc0, pc1, xc0, xc1, xc2, xc3, xc4, xc5, yc0, yc1, yc2, yc3, yc4, yc5, qc0, qc1, rc0, rc1, HB⟩
    · have hlit : (regOps Try.f3 5)[45]? = some ({ dst := some 87, op := Op.call { callee := Callee.value (Operand.func 29), args := #[Operand.tmp 84, Operand.tmp 86], argTypes := #[25, 3] }, type := 23, pos := "law.go:25", after := #[{ on := 42, ground := Ground.data }, { on := 44, ground := Ground.data }, { on := 40, ground := Ground.chain }, { on := 40, ground := Ground.guard }], guard := some (40, true) }) := by kernel_rfl
      obtain rfl := Option.some.inj (hlit.symm.trans hoi)
      have r84 : b.tmps.getD 84 undef = (.agg #[.int .i64 d0, .int .i64 d1, .int .i64 e0, .int .i64 e1, .int .i64 f0, .int .i64 f1]) := rd (hT.at 42 (by kernel_rfl) (pre_of hpre 42 (by kernel_rfl)))
      have r86 : b.tmps.getD 86 undef = (.int .i64 (j + 1)) := rd (hT.at 44 (by kernel_rfl) (pre_of hpre 44 (by kernel_rfl)))
      refine op_go hoi (want_yes rfl (d := 82) (by kernel_rfl) (hT.at 40 (by kernel_rfl) (pre_of hpre 40 (by kernel_rfl)))) fun K hK => ?_
      clear hT hpre hun hlit hoi
      go_simp
      go_at_call 29
      refine (cor29 _ _ _ _ _ _ _ _).mono ?_; rw [m9]; rintro e w2 ⟨rfl, hb⟩; replace tc0 := ck hb (a := ⟨kt, 0, none⟩) (v := .int .i64 d0) (by go_simp); replace tc1 := ck hb (a := ⟨kt, 1, none⟩) (v := .int .i64 d1) (by go_simp); replace tc2 := ck hb (a := ⟨kt, 2, none⟩) (v := .int .i64 e0) (by go_simp); replace tc3 := ck hb (a := ⟨kt, 3, none⟩) (v := .int .i64 e1) (by go_simp); replace tc4 := ck hb (a := ⟨kt, 4, none⟩) (v := .int .i64 f0) (by go_simp); replace tc5 := ck hb (a := ⟨kt, 5, none⟩) (v := .int .i64 f1) (by go_simp); replace pc0 := ck hb (a := ⟨kp, 0, none⟩) (v := .int .i64 g0) (by go_simp); replace pc1 := ck hb (a := ⟨kp, 1, none⟩) (v := .int .i64 g1) (by go_simp); replace xc0 := ck hb (a := ⟨kx, 0, none⟩) (v := .int .i64 m0) (by go_simp); replace xc1 := ck hb (a := ⟨kx, 1, none⟩) (v := .int .i64 m1) (by go_simp); replace xc2 := ck hb (a := ⟨kx, 2, none⟩) (v := .int .i64 m2) (by go_simp); replace xc3 := ck hb (a := ⟨kx, 3, none⟩) (v := .int .i64 m3) (by go_simp); replace xc4 := ck hb (a := ⟨kx, 4, none⟩) (v := .int .i64 m4) (by go_simp); replace xc5 := ck hb (a := ⟨kx, 5, none⟩) (v := .int .i64 m5) (by go_simp); replace yc0 := ck hb (a := ⟨ky, 0, none⟩) (v := .int .i64 m0) (by go_simp); replace yc1 := ck hb (a := ⟨ky, 1, none⟩) (v := .int .i64 m1) (by go_simp); replace yc2 := ck hb (a := ⟨ky, 2, none⟩) (v := .int .i64 m2) (by go_simp); replace yc3 := ck hb (a := ⟨ky, 3, none⟩) (v := .int .i64 m3) (by go_simp); replace yc4 := ck hb (a := ⟨ky, 4, none⟩) (v := .int .i64 m4) (by go_simp); replace yc5 := ck hb (a := ⟨ky, 5, none⟩) (v := .int .i64 m5) (by go_simp); replace qc0 := ck hb (a := ⟨kq, 0, none⟩) (v := .int .i64 q0) (by go_simp); replace qc1 := ck hb (a := ⟨kq, 1, none⟩) (v := .int .i64 q1) (by go_simp); replace rc0 := ck hb (a := ⟨kr, 0, none⟩) (v := .int .i64 r0) (by go_simp); replace rc1 := ck hb (a := ⟨kr, 1, none⟩) (v := .int .i64 r1) (by go_simp); replace HB : Below W.heap.size W w2 := bt HB hb; clear hb
      exact hK _ _ ⟨(), fun _ _ => rfl, rfl, tc0, tc1, tc2, tc3, tc4, tc5, pc0, pc1, xc0, xc1, xc2, xc3, xc4, xc5, yc0, yc1, yc2, yc3, yc4, yc5, qc0, qc1, rc0, rc1, HB⟩
    · have hlit : (regOps Try.f3 5)[46]? = some ({ dst := some 88, op := Op.binOp BinOp.eql 23 (Operand.tmp 83) (Operand.tmp 87) 23, type := 4, pos := "law.go:25", after := #[{ on := 41, ground := Ground.data }, { on := 45, ground := Ground.data }, { on := 40, ground := Ground.guard }], guard := some (40, true) }) := by kernel_rfl
      obtain rfl := Option.some.inj (hlit.symm.trans hoi)
      have r83 : b.tmps.getD 83 undef = (.agg #[.int .i64 r0, .int .i64 r1]) := rd (hT.at 41 (by kernel_rfl) (pre_of hpre 41 (by kernel_rfl)))
      have r87 : b.tmps.getD 87 undef = (.agg #[.int .i64 r0, .int .i64 r1]) := rd (hT.at 45 (by kernel_rfl) (pre_of hpre 45 (by kernel_rfl)))
      refine op_go hoi (want_yes rfl (d := 82) (by kernel_rfl) (hT.at 40 (by kernel_rfl) (pre_of hpre 40 (by kernel_rfl)))) fun K hK => ?_
      clear hT hpre hun hlit hoi
      go_simp
      exact hK _ _ ⟨(), fun _ _ => rfl, rfl, tc0, tc1, tc2, tc3, tc4, tc5, pc0, pc1, xc0, xc1, xc2, xc3, xc4, xc5, yc0, yc1, yc2, yc3, yc4, yc5, qc0, qc1, rc0, rc1, HB⟩
    · have hlit : (regOps Try.f3 5)[47]? = some ({ dst := some 89, op := Op.pick (Operand.tmp 82) (Operand.tmp 88) (Operand.const (Value.bool false)), type := 4, pos := "law.go:25", after := #[{ on := 40, ground := Ground.data }, { on := 46, ground := Ground.data }], guard := none }) := by kernel_rfl
      obtain rfl := Option.some.inj (hlit.symm.trans hoi)
      have r82 : b.tmps.getD 82 undef = (.bool true) := rd (hT.at 40 (by kernel_rfl) (pre_of hpre 40 (by kernel_rfl)))
      have r88 : b.tmps.getD 88 undef = (.bool true) := rd (hT.at 46 (by kernel_rfl) (pre_of hpre 46 (by kernel_rfl)))
      refine op_go hoi (want_all rfl) fun K hK => ?_
      clear hT hpre hun hlit hoi
      go_simp
      exact hK _ _ ⟨(), fun _ _ => rfl, rfl, tc0, tc1, tc2, tc3, tc4, tc5, pc0, pc1, xc0, xc1, xc2, xc3, xc4, xc5, yc0, yc1, yc2, yc3, yc4, yc5, qc0, qc1, rc0, rc1, HB⟩
    · have hlit : (regOps Try.f3 5)[48]? = some ({ dst := some 90, op := Op.move (Operand.tmp 89), type := 4, pos := "law.go:25", after := #[{ on := 47, ground := Ground.data }, { on := 45, ground := Ground.chain }], guard := none }) := by kernel_rfl
      obtain rfl := Option.some.inj (hlit.symm.trans hoi)
      have r89 : b.tmps.getD 89 undef = (.bool true) := rd (hT.at 47 (by kernel_rfl) (pre_of hpre 47 (by kernel_rfl)))
      refine op_go hoi (want_all rfl) fun K hK => ?_
      clear hT hpre hun hlit hoi
      go_simp
      exact hK _ _ ⟨(), fun _ _ => rfl, rfl, tc0, tc1, tc2, tc3, tc4, tc5, pc0, pc1, xc0, xc1, xc2, xc3, xc4, xc5, yc0, yc1, yc2, yc3, yc4, yc5, qc0, qc1, rc0, rc1, HB⟩
    · have hlit : (regOps Try.f3 5)[49]? = some ({ dst := some 91, op := Op.load 25 (Operand.tmp 9), type := 25, pos := "law.go:25", after := #[{ on := 48, ground := Ground.guard }], guard := some (48, true) }) := by kernel_rfl
      obtain rfl := Option.some.inj (hlit.symm.trans hoi)
      have r9 : b.tmps.getD 9 undef = (.pointer (some ⟨kt, 0, none⟩)) := rd ((hT.old 9 (by kernel_rfl)).trans t9)
      refine op_go hoi (want_yes rfl (d := 90) (by kernel_rfl) (hT.at 48 (by kernel_rfl) (pre_of hpre 48 (by kernel_rfl)))) fun K hK => ?_
      clear hT hpre hun hlit hoi
      go_simp
      exact hK _ _ ⟨(), fun _ _ => rfl, rfl, tc0, tc1, tc2, tc3, tc4, tc5, pc0, pc1, xc0, xc1, xc2, xc3, xc4, xc5, yc0, yc1, yc2, yc3, yc4, yc5, qc0, qc1, rc0, rc1, HB⟩
    · have hlit : (regOps Try.f3 5)[50]? = some ({ dst := some 92, op := Op.load 23 (Operand.tmp 10), type := 23, pos := "law.go:25", after := #[{ on := 48, ground := Ground.guard }], guard := some (48, true) }) := by kernel_rfl
      obtain rfl := Option.some.inj (hlit.symm.trans hoi)
      have r10 : b.tmps.getD 10 undef = (.pointer (some ⟨kp, 0, none⟩)) := rd ((hT.old 10 (by kernel_rfl)).trans t10)
      refine op_go hoi (want_yes rfl (d := 90) (by kernel_rfl) (hT.at 48 (by kernel_rfl) (pre_of hpre 48 (by kernel_rfl)))) fun K hK => ?_
      clear hT hpre hun hlit hoi
      go_simp
      exact hK _ _ ⟨(), fun _ _ => rfl, rfl, tc0, tc1, tc2, tc3, tc4, tc5, pc0, pc1, xc0, xc1, xc2, xc3, xc4, xc5, yc0, yc1, yc2, yc3, yc4, yc5, qc0, qc1, rc0, rc1, HB⟩
    · have hlit : (regOps Try.f3 5)[51]? = some ({ dst := some 93, op := Op.call { callee := Callee.value (Operand.func 30), args := #[Operand.tmp 91, Operand.tmp 92], argTypes := #[25, 23] }, type := 4, pos := "law.go:25", after := #[{ on := 49, ground := Ground.data }, { on := 50, ground := Ground.data }, { on := 48, ground := Ground.chain }, { on := 48, ground := Ground.guard }], guard := some (48, true) }) := by kernel_rfl
      obtain rfl := Option.some.inj (hlit.symm.trans hoi)
      have r91 : b.tmps.getD 91 undef = (.agg #[.int .i64 d0, .int .i64 d1, .int .i64 e0, .int .i64 e1, .int .i64 f0, .int .i64 f1]) := rd (hT.at 49 (by kernel_rfl) (pre_of hpre 49 (by kernel_rfl)))
      have r92 : b.tmps.getD 92 undef = (.agg #[.int .i64 g0, .int .i64 g1]) := rd (hT.at 50 (by kernel_rfl) (pre_of hpre 50 (by kernel_rfl)))
      refine op_go hoi (want_yes rfl (d := 90) (by kernel_rfl) (hT.at 48 (by kernel_rfl) (pre_of hpre 48 (by kernel_rfl)))) fun K hK => ?_
      clear hT hpre hun hlit hoi
      go_simp
      go_at_call 30
      refine (has30 _ _ _ _ _ _ _ _ _).mono ?_; rintro e w2 ⟨rfl, hb⟩; replace tc0 := ck hb (a := ⟨kt, 0, none⟩) (v := .int .i64 d0) (by go_simp); replace tc1 := ck hb (a := ⟨kt, 1, none⟩) (v := .int .i64 d1) (by go_simp); replace tc2 := ck hb (a := ⟨kt, 2, none⟩) (v := .int .i64 e0) (by go_simp); replace tc3 := ck hb (a := ⟨kt, 3, none⟩) (v := .int .i64 e1) (by go_simp); replace tc4 := ck hb (a := ⟨kt, 4, none⟩) (v := .int .i64 f0) (by go_simp); replace tc5 := ck hb (a := ⟨kt, 5, none⟩) (v := .int .i64 f1) (by go_simp); replace pc0 := ck hb (a := ⟨kp, 0, none⟩) (v := .int .i64 g0) (by go_simp); replace pc1 := ck hb (a := ⟨kp, 1, none⟩) (v := .int .i64 g1) (by go_simp); replace xc0 := ck hb (a := ⟨kx, 0, none⟩) (v := .int .i64 m0) (by go_simp); replace xc1 := ck hb (a := ⟨kx, 1, none⟩) (v := .int .i64 m1) (by go_simp); replace xc2 := ck hb (a := ⟨kx, 2, none⟩) (v := .int .i64 m2) (by go_simp); replace xc3 := ck hb (a := ⟨kx, 3, none⟩) (v := .int .i64 m3) (by go_simp); replace xc4 := ck hb (a := ⟨kx, 4, none⟩) (v := .int .i64 m4) (by go_simp); replace xc5 := ck hb (a := ⟨kx, 5, none⟩) (v := .int .i64 m5) (by go_simp); replace yc0 := ck hb (a := ⟨ky, 0, none⟩) (v := .int .i64 m0) (by go_simp); replace yc1 := ck hb (a := ⟨ky, 1, none⟩) (v := .int .i64 m1) (by go_simp); replace yc2 := ck hb (a := ⟨ky, 2, none⟩) (v := .int .i64 m2) (by go_simp); replace yc3 := ck hb (a := ⟨ky, 3, none⟩) (v := .int .i64 m3) (by go_simp); replace yc4 := ck hb (a := ⟨ky, 4, none⟩) (v := .int .i64 m4) (by go_simp); replace yc5 := ck hb (a := ⟨ky, 5, none⟩) (v := .int .i64 m5) (by go_simp); replace qc0 := ck hb (a := ⟨kq, 0, none⟩) (v := .int .i64 q0) (by go_simp); replace qc1 := ck hb (a := ⟨kq, 1, none⟩) (v := .int .i64 q1) (by go_simp); replace rc0 := ck hb (a := ⟨kr, 0, none⟩) (v := .int .i64 r0) (by go_simp); replace rc1 := ck hb (a := ⟨kr, 1, none⟩) (v := .int .i64 r1) (by go_simp); replace HB : Below W.heap.size W w2 := bt HB hb; clear hb
      exact hK _ _ ⟨(), fun _ _ => rfl, rfl, tc0, tc1, tc2, tc3, tc4, tc5, pc0, pc1, xc0, xc1, xc2, xc3, xc4, xc5, yc0, yc1, yc2, yc3, yc4, yc5, qc0, qc1, rc0, rc1, HB⟩
    · have hlit : (regOps Try.f3 5)[52]? = some ({ dst := some 94, op := Op.load 25 (Operand.tmp 9), type := 25, pos := "law.go:25", after := #[{ on := 48, ground := Ground.guard }], guard := some (48, true) }) := by kernel_rfl
      obtain rfl := Option.some.inj (hlit.symm.trans hoi)
      have r9 : b.tmps.getD 9 undef = (.pointer (some ⟨kt, 0, none⟩)) := rd ((hT.old 9 (by kernel_rfl)).trans t9)
      refine op_go hoi (want_yes rfl (d := 90) (by kernel_rfl) (hT.at 48 (by kernel_rfl) (pre_of hpre 48 (by kernel_rfl)))) fun K hK => ?_
      clear hT hpre hun hlit hoi
      go_simp
      exact hK _ _ ⟨(), fun _ _ => rfl, rfl, tc0, tc1, tc2, tc3, tc4, tc5, pc0, pc1, xc0, xc1, xc2, xc3, xc4, xc5, yc0, yc1, yc2, yc3, yc4, yc5, qc0, qc1, rc0, rc1, HB⟩
    · have hlit : (regOps Try.f3 5)[53]? = some ({ dst := some 95, op := Op.load 23 (Operand.tmp 10), type := 23, pos := "law.go:25", after := #[{ on := 48, ground := Ground.guard }], guard := some (48, true) }) := by kernel_rfl
      obtain rfl := Option.some.inj (hlit.symm.trans hoi)
      have r10 : b.tmps.getD 10 undef = (.pointer (some ⟨kp, 0, none⟩)) := rd ((hT.old 10 (by kernel_rfl)).trans t10)
      refine op_go hoi (want_yes rfl (d := 90) (by kernel_rfl) (hT.at 48 (by kernel_rfl) (pre_of hpre 48 (by kernel_rfl)))) fun K hK => ?_
      clear hT hpre hun hlit hoi
      go_simp
      exact hK _ _ ⟨(), fun _ _ => rfl, rfl, tc0, tc1, tc2, tc3, tc4, tc5, pc0, pc1, xc0, xc1, xc2, xc3, xc4, xc5, yc0, yc1, yc2, yc3, yc4, yc5, qc0, qc1, rc0, rc1, HB⟩
    · have hlit : (regOps Try.f3 5)[54]? = some ({ dst := some 96, op := Op.call { callee := Callee.value (Operand.func 31), args := #[Operand.tmp 94, Operand.tmp 95], argTypes := #[25, 23] }, type := 4, pos := "law.go:25", after := #[{ on := 52, ground := Ground.data }, { on := 53, ground := Ground.data }, { on := 51, ground := Ground.chain }, { on := 48, ground := Ground.guard }], guard := some (48, true) }) := by kernel_rfl
      obtain rfl := Option.some.inj (hlit.symm.trans hoi)
      have r94 : b.tmps.getD 94 undef = (.agg #[.int .i64 d0, .int .i64 d1, .int .i64 e0, .int .i64 e1, .int .i64 f0, .int .i64 f1]) := rd (hT.at 52 (by kernel_rfl) (pre_of hpre 52 (by kernel_rfl)))
      have r95 : b.tmps.getD 95 undef = (.agg #[.int .i64 g0, .int .i64 g1]) := rd (hT.at 53 (by kernel_rfl) (pre_of hpre 53 (by kernel_rfl)))
      refine op_go hoi (want_yes rfl (d := 90) (by kernel_rfl) (hT.at 48 (by kernel_rfl) (pre_of hpre 48 (by kernel_rfl)))) fun K hK => ?_
      clear hT hpre hun hlit hoi
      go_simp
      go_at_call 31
      refine (has31 _ _ _ _ _ _ _ _ _).mono ?_; rintro e w2 ⟨rfl, hb⟩; replace tc0 := ck hb (a := ⟨kt, 0, none⟩) (v := .int .i64 d0) (by go_simp); replace tc1 := ck hb (a := ⟨kt, 1, none⟩) (v := .int .i64 d1) (by go_simp); replace tc2 := ck hb (a := ⟨kt, 2, none⟩) (v := .int .i64 e0) (by go_simp); replace tc3 := ck hb (a := ⟨kt, 3, none⟩) (v := .int .i64 e1) (by go_simp); replace tc4 := ck hb (a := ⟨kt, 4, none⟩) (v := .int .i64 f0) (by go_simp); replace tc5 := ck hb (a := ⟨kt, 5, none⟩) (v := .int .i64 f1) (by go_simp); replace pc0 := ck hb (a := ⟨kp, 0, none⟩) (v := .int .i64 g0) (by go_simp); replace pc1 := ck hb (a := ⟨kp, 1, none⟩) (v := .int .i64 g1) (by go_simp); replace xc0 := ck hb (a := ⟨kx, 0, none⟩) (v := .int .i64 m0) (by go_simp); replace xc1 := ck hb (a := ⟨kx, 1, none⟩) (v := .int .i64 m1) (by go_simp); replace xc2 := ck hb (a := ⟨kx, 2, none⟩) (v := .int .i64 m2) (by go_simp); replace xc3 := ck hb (a := ⟨kx, 3, none⟩) (v := .int .i64 m3) (by go_simp); replace xc4 := ck hb (a := ⟨kx, 4, none⟩) (v := .int .i64 m4) (by go_simp); replace xc5 := ck hb (a := ⟨kx, 5, none⟩) (v := .int .i64 m5) (by go_simp); replace yc0 := ck hb (a := ⟨ky, 0, none⟩) (v := .int .i64 m0) (by go_simp); replace yc1 := ck hb (a := ⟨ky, 1, none⟩) (v := .int .i64 m1) (by go_simp); replace yc2 := ck hb (a := ⟨ky, 2, none⟩) (v := .int .i64 m2) (by go_simp); replace yc3 := ck hb (a := ⟨ky, 3, none⟩) (v := .int .i64 m3) (by go_simp); replace yc4 := ck hb (a := ⟨ky, 4, none⟩) (v := .int .i64 m4) (by go_simp); replace yc5 := ck hb (a := ⟨ky, 5, none⟩) (v := .int .i64 m5) (by go_simp); replace qc0 := ck hb (a := ⟨kq, 0, none⟩) (v := .int .i64 q0) (by go_simp); replace qc1 := ck hb (a := ⟨kq, 1, none⟩) (v := .int .i64 q1) (by go_simp); replace rc0 := ck hb (a := ⟨kr, 0, none⟩) (v := .int .i64 r0) (by go_simp); replace rc1 := ck hb (a := ⟨kr, 1, none⟩) (v := .int .i64 r1) (by go_simp); replace HB : Below W.heap.size W w2 := bt HB hb; clear hb
      exact hK _ _ ⟨(), fun _ _ => rfl, rfl, tc0, tc1, tc2, tc3, tc4, tc5, pc0, pc1, xc0, xc1, xc2, xc3, xc4, xc5, yc0, yc1, yc2, yc3, yc4, yc5, qc0, qc1, rc0, rc1, HB⟩
    · have hlit : (regOps Try.f3 5)[55]? = some ({ dst := some 97, op := Op.binOp BinOp.eql 4 (Operand.tmp 93) (Operand.tmp 96) 4, type := 4, pos := "law.go:25", after := #[{ on := 51, ground := Ground.data }, { on := 54, ground := Ground.data }, { on := 48, ground := Ground.guard }], guard := some (48, true) }) := by kernel_rfl
      obtain rfl := Option.some.inj (hlit.symm.trans hoi)
      have r93 : b.tmps.getD 93 undef = (.bool (has ⟨⟨d0, d1⟩, ⟨e0, e1⟩, ⟨f0, f1⟩⟩ ⟨g0, g1⟩)) := rd (hT.at 51 (by kernel_rfl) (pre_of hpre 51 (by kernel_rfl)))
      have r96 : b.tmps.getD 96 undef = (.bool (has ⟨⟨d0, d1⟩, ⟨e0, e1⟩, ⟨f0, f1⟩⟩ ⟨g0, g1⟩)) := rd (hT.at 54 (by kernel_rfl) (pre_of hpre 54 (by kernel_rfl)))
      refine op_go hoi (want_yes rfl (d := 90) (by kernel_rfl) (hT.at 48 (by kernel_rfl) (pre_of hpre 48 (by kernel_rfl)))) fun K hK => ?_
      clear hT hpre hun hlit hoi
      go_simp
      exact hK _ _ ⟨(), fun _ _ => rfl, rfl, tc0, tc1, tc2, tc3, tc4, tc5, pc0, pc1, xc0, xc1, xc2, xc3, xc4, xc5, yc0, yc1, yc2, yc3, yc4, yc5, qc0, qc1, rc0, rc1, HB⟩
    · have hlit : (regOps Try.f3 5)[56]? = some ({ dst := some 98, op := Op.pick (Operand.tmp 90) (Operand.tmp 97) (Operand.const (Value.bool false)), type := 4, pos := "law.go:25", after := #[{ on := 48, ground := Ground.data }, { on := 55, ground := Ground.data }], guard := none }) := by kernel_rfl
      obtain rfl := Option.some.inj (hlit.symm.trans hoi)
      have r90 : b.tmps.getD 90 undef = (.bool true) := rd (hT.at 48 (by kernel_rfl) (pre_of hpre 48 (by kernel_rfl)))
      have r97 : b.tmps.getD 97 undef = (.bool true) := rd (hT.at 55 (by kernel_rfl) (pre_of hpre 55 (by kernel_rfl)))
      refine op_go hoi (want_all rfl) fun K hK => ?_
      clear hT hpre hun hlit hoi
      go_simp
      exact hK _ _ ⟨(), fun _ _ => rfl, rfl, tc0, tc1, tc2, tc3, tc4, tc5, pc0, pc1, xc0, xc1, xc2, xc3, xc4, xc5, yc0, yc1, yc2, yc3, yc4, yc5, qc0, qc1, rc0, rc1, HB⟩
    · have hlit : (regOps Try.f3 5)[57]? = some ({ dst := some 99, op := Op.move (Operand.tmp 98), type := 4, pos := "law.go:25", after := #[{ on := 56, ground := Ground.data }, { on := 54, ground := Ground.chain }], guard := none }) := by kernel_rfl
      obtain rfl := Option.some.inj (hlit.symm.trans hoi)
      have r98 : b.tmps.getD 98 undef = (.bool true) := rd (hT.at 56 (by kernel_rfl) (pre_of hpre 56 (by kernel_rfl)))
      refine op_go hoi (want_all rfl) fun K hK => ?_
      clear hT hpre hun hlit hoi
      go_simp
      exact hK _ _ ⟨(), fun _ _ => rfl, rfl, tc0, tc1, tc2, tc3, tc4, tc5, pc0, pc1, xc0, xc1, xc2, xc3, xc4, xc5, yc0, yc1, yc2, yc3, yc4, yc5, qc0, qc1, rc0, rc1, HB⟩
    · have hlit : (regOps Try.f3 5)[58]? = some ({ dst := some 100, op := Op.load 25 (Operand.tmp 9), type := 25, pos := "law.go:25", after := #[{ on := 57, ground := Ground.guard }], guard := some (57, true) }) := by kernel_rfl
      obtain rfl := Option.some.inj (hlit.symm.trans hoi)
      have r9 : b.tmps.getD 9 undef = (.pointer (some ⟨kt, 0, none⟩)) := rd ((hT.old 9 (by kernel_rfl)).trans t9)
      refine op_go hoi (want_yes rfl (d := 99) (by kernel_rfl) (hT.at 57 (by kernel_rfl) (pre_of hpre 57 (by kernel_rfl)))) fun K hK => ?_
      clear hT hpre hun hlit hoi
      go_simp
      exact hK _ _ ⟨(), fun _ _ => rfl, rfl, tc0, tc1, tc2, tc3, tc4, tc5, pc0, pc1, xc0, xc1, xc2, xc3, xc4, xc5, yc0, yc1, yc2, yc3, yc4, yc5, qc0, qc1, rc0, rc1, HB⟩
    · have hlit : (regOps Try.f3 5)[59]? = some ({ dst := some 101, op := Op.load 23 (Operand.tmp 10), type := 23, pos := "law.go:25", after := #[{ on := 57, ground := Ground.guard }], guard := some (57, true) }) := by kernel_rfl
      obtain rfl := Option.some.inj (hlit.symm.trans hoi)
      have r10 : b.tmps.getD 10 undef = (.pointer (some ⟨kp, 0, none⟩)) := rd ((hT.old 10 (by kernel_rfl)).trans t10)
      refine op_go hoi (want_yes rfl (d := 99) (by kernel_rfl) (hT.at 57 (by kernel_rfl) (pre_of hpre 57 (by kernel_rfl)))) fun K hK => ?_
      clear hT hpre hun hlit hoi
      go_simp
      exact hK _ _ ⟨(), fun _ _ => rfl, rfl, tc0, tc1, tc2, tc3, tc4, tc5, pc0, pc1, xc0, xc1, xc2, xc3, xc4, xc5, yc0, yc1, yc2, yc3, yc4, yc5, qc0, qc1, rc0, rc1, HB⟩
    · have hlit : (regOps Try.f3 5)[60]? = some ({ dst := some 102, op := Op.call { callee := Callee.value (Operand.func 32), args := #[Operand.tmp 100, Operand.tmp 101], argTypes := #[25, 23] }, type := 4, pos := "law.go:25", after := #[{ on := 58, ground := Ground.data }, { on := 59, ground := Ground.data }, { on := 57, ground := Ground.chain }, { on := 57, ground := Ground.guard }], guard := some (57, true) }) := by kernel_rfl
      obtain rfl := Option.some.inj (hlit.symm.trans hoi)
      have r100 : b.tmps.getD 100 undef = (.agg #[.int .i64 d0, .int .i64 d1, .int .i64 e0, .int .i64 e1, .int .i64 f0, .int .i64 f1]) := rd (hT.at 58 (by kernel_rfl) (pre_of hpre 58 (by kernel_rfl)))
      have r101 : b.tmps.getD 101 undef = (.agg #[.int .i64 g0, .int .i64 g1]) := rd (hT.at 59 (by kernel_rfl) (pre_of hpre 59 (by kernel_rfl)))
      refine op_go hoi (want_yes rfl (d := 99) (by kernel_rfl) (hT.at 57 (by kernel_rfl) (pre_of hpre 57 (by kernel_rfl)))) fun K hK => ?_
      clear hT hpre hun hlit hoi
      go_simp
      go_at_call 32
      refine (ins32 _ _ _ _ _ _ _ _ _).mono ?_; rintro e w2 ⟨rfl, hb⟩; replace tc0 := ck hb (a := ⟨kt, 0, none⟩) (v := .int .i64 d0) (by go_simp); replace tc1 := ck hb (a := ⟨kt, 1, none⟩) (v := .int .i64 d1) (by go_simp); replace tc2 := ck hb (a := ⟨kt, 2, none⟩) (v := .int .i64 e0) (by go_simp); replace tc3 := ck hb (a := ⟨kt, 3, none⟩) (v := .int .i64 e1) (by go_simp); replace tc4 := ck hb (a := ⟨kt, 4, none⟩) (v := .int .i64 f0) (by go_simp); replace tc5 := ck hb (a := ⟨kt, 5, none⟩) (v := .int .i64 f1) (by go_simp); replace pc0 := ck hb (a := ⟨kp, 0, none⟩) (v := .int .i64 g0) (by go_simp); replace pc1 := ck hb (a := ⟨kp, 1, none⟩) (v := .int .i64 g1) (by go_simp); replace xc0 := ck hb (a := ⟨kx, 0, none⟩) (v := .int .i64 m0) (by go_simp); replace xc1 := ck hb (a := ⟨kx, 1, none⟩) (v := .int .i64 m1) (by go_simp); replace xc2 := ck hb (a := ⟨kx, 2, none⟩) (v := .int .i64 m2) (by go_simp); replace xc3 := ck hb (a := ⟨kx, 3, none⟩) (v := .int .i64 m3) (by go_simp); replace xc4 := ck hb (a := ⟨kx, 4, none⟩) (v := .int .i64 m4) (by go_simp); replace xc5 := ck hb (a := ⟨kx, 5, none⟩) (v := .int .i64 m5) (by go_simp); replace yc0 := ck hb (a := ⟨ky, 0, none⟩) (v := .int .i64 m0) (by go_simp); replace yc1 := ck hb (a := ⟨ky, 1, none⟩) (v := .int .i64 m1) (by go_simp); replace yc2 := ck hb (a := ⟨ky, 2, none⟩) (v := .int .i64 m2) (by go_simp); replace yc3 := ck hb (a := ⟨ky, 3, none⟩) (v := .int .i64 m3) (by go_simp); replace yc4 := ck hb (a := ⟨ky, 4, none⟩) (v := .int .i64 m4) (by go_simp); replace yc5 := ck hb (a := ⟨ky, 5, none⟩) (v := .int .i64 m5) (by go_simp); replace qc0 := ck hb (a := ⟨kq, 0, none⟩) (v := .int .i64 q0) (by go_simp); replace qc1 := ck hb (a := ⟨kq, 1, none⟩) (v := .int .i64 q1) (by go_simp); replace rc0 := ck hb (a := ⟨kr, 0, none⟩) (v := .int .i64 r0) (by go_simp); replace rc1 := ck hb (a := ⟨kr, 1, none⟩) (v := .int .i64 r1) (by go_simp); replace HB : Below W.heap.size W w2 := bt HB hb; clear hb
      exact hK _ _ ⟨(), fun _ _ => rfl, rfl, tc0, tc1, tc2, tc3, tc4, tc5, pc0, pc1, xc0, xc1, xc2, xc3, xc4, xc5, yc0, yc1, yc2, yc3, yc4, yc5, qc0, qc1, rc0, rc1, HB⟩
    · have hlit : (regOps Try.f3 5)[61]? = some ({ dst := some 103, op := Op.load 25 (Operand.tmp 9), type := 25, pos := "law.go:25", after := #[{ on := 57, ground := Ground.guard }], guard := some (57, true) }) := by kernel_rfl
      obtain rfl := Option.some.inj (hlit.symm.trans hoi)
      have r9 : b.tmps.getD 9 undef = (.pointer (some ⟨kt, 0, none⟩)) := rd ((hT.old 9 (by kernel_rfl)).trans t9)
      refine op_go hoi (want_yes rfl (d := 99) (by kernel_rfl) (hT.at 57 (by kernel_rfl) (pre_of hpre 57 (by kernel_rfl)))) fun K hK => ?_
      clear hT hpre hun hlit hoi
      go_simp
      exact hK _ _ ⟨(), fun _ _ => rfl, rfl, tc0, tc1, tc2, tc3, tc4, tc5, pc0, pc1, xc0, xc1, xc2, xc3, xc4, xc5, yc0, yc1, yc2, yc3, yc4, yc5, qc0, qc1, rc0, rc1, HB⟩
    · have hlit : (regOps Try.f3 5)[62]? = some ({ dst := some 104, op := Op.load 23 (Operand.tmp 10), type := 23, pos := "law.go:25", after := #[{ on := 57, ground := Ground.guard }], guard := some (57, true) }) := by kernel_rfl
      obtain rfl := Option.some.inj (hlit.symm.trans hoi)
      have r10 : b.tmps.getD 10 undef = (.pointer (some ⟨kp, 0, none⟩)) := rd ((hT.old 10 (by kernel_rfl)).trans t10)
      refine op_go hoi (want_yes rfl (d := 99) (by kernel_rfl) (hT.at 57 (by kernel_rfl) (pre_of hpre 57 (by kernel_rfl)))) fun K hK => ?_
      clear hT hpre hun hlit hoi
      go_simp
      exact hK _ _ ⟨(), fun _ _ => rfl, rfl, tc0, tc1, tc2, tc3, tc4, tc5, pc0, pc1, xc0, xc1, xc2, xc3, xc4, xc5, yc0, yc1, yc2, yc3, yc4, yc5, qc0, qc1, rc0, rc1, HB⟩
    · have hlit : (regOps Try.f3 5)[63]? = some ({ dst := some 105, op := Op.call { callee := Callee.value (Operand.func 33), args := #[Operand.tmp 103, Operand.tmp 104], argTypes := #[25, 23] }, type := 4, pos := "law.go:25", after := #[{ on := 61, ground := Ground.data }, { on := 62, ground := Ground.data }, { on := 60, ground := Ground.chain }, { on := 57, ground := Ground.guard }], guard := some (57, true) }) := by kernel_rfl
      obtain rfl := Option.some.inj (hlit.symm.trans hoi)
      have r103 : b.tmps.getD 103 undef = (.agg #[.int .i64 d0, .int .i64 d1, .int .i64 e0, .int .i64 e1, .int .i64 f0, .int .i64 f1]) := rd (hT.at 61 (by kernel_rfl) (pre_of hpre 61 (by kernel_rfl)))
      have r104 : b.tmps.getD 104 undef = (.agg #[.int .i64 g0, .int .i64 g1]) := rd (hT.at 62 (by kernel_rfl) (pre_of hpre 62 (by kernel_rfl)))
      refine op_go hoi (want_yes rfl (d := 99) (by kernel_rfl) (hT.at 57 (by kernel_rfl) (pre_of hpre 57 (by kernel_rfl)))) fun K hK => ?_
      clear hT hpre hun hlit hoi
      go_simp
      go_at_call 33
      refine (ins33 _ _ _ _ _ _ _ _ _).mono ?_; rintro e w2 ⟨rfl, hb⟩; replace tc0 := ck hb (a := ⟨kt, 0, none⟩) (v := .int .i64 d0) (by go_simp); replace tc1 := ck hb (a := ⟨kt, 1, none⟩) (v := .int .i64 d1) (by go_simp); replace tc2 := ck hb (a := ⟨kt, 2, none⟩) (v := .int .i64 e0) (by go_simp); replace tc3 := ck hb (a := ⟨kt, 3, none⟩) (v := .int .i64 e1) (by go_simp); replace tc4 := ck hb (a := ⟨kt, 4, none⟩) (v := .int .i64 f0) (by go_simp); replace tc5 := ck hb (a := ⟨kt, 5, none⟩) (v := .int .i64 f1) (by go_simp); replace pc0 := ck hb (a := ⟨kp, 0, none⟩) (v := .int .i64 g0) (by go_simp); replace pc1 := ck hb (a := ⟨kp, 1, none⟩) (v := .int .i64 g1) (by go_simp); replace xc0 := ck hb (a := ⟨kx, 0, none⟩) (v := .int .i64 m0) (by go_simp); replace xc1 := ck hb (a := ⟨kx, 1, none⟩) (v := .int .i64 m1) (by go_simp); replace xc2 := ck hb (a := ⟨kx, 2, none⟩) (v := .int .i64 m2) (by go_simp); replace xc3 := ck hb (a := ⟨kx, 3, none⟩) (v := .int .i64 m3) (by go_simp); replace xc4 := ck hb (a := ⟨kx, 4, none⟩) (v := .int .i64 m4) (by go_simp); replace xc5 := ck hb (a := ⟨kx, 5, none⟩) (v := .int .i64 m5) (by go_simp); replace yc0 := ck hb (a := ⟨ky, 0, none⟩) (v := .int .i64 m0) (by go_simp); replace yc1 := ck hb (a := ⟨ky, 1, none⟩) (v := .int .i64 m1) (by go_simp); replace yc2 := ck hb (a := ⟨ky, 2, none⟩) (v := .int .i64 m2) (by go_simp); replace yc3 := ck hb (a := ⟨ky, 3, none⟩) (v := .int .i64 m3) (by go_simp); replace yc4 := ck hb (a := ⟨ky, 4, none⟩) (v := .int .i64 m4) (by go_simp); replace yc5 := ck hb (a := ⟨ky, 5, none⟩) (v := .int .i64 m5) (by go_simp); replace qc0 := ck hb (a := ⟨kq, 0, none⟩) (v := .int .i64 q0) (by go_simp); replace qc1 := ck hb (a := ⟨kq, 1, none⟩) (v := .int .i64 q1) (by go_simp); replace rc0 := ck hb (a := ⟨kr, 0, none⟩) (v := .int .i64 r0) (by go_simp); replace rc1 := ck hb (a := ⟨kr, 1, none⟩) (v := .int .i64 r1) (by go_simp); replace HB : Below W.heap.size W w2 := bt HB hb; clear hb
      exact hK _ _ ⟨(), fun _ _ => rfl, rfl, tc0, tc1, tc2, tc3, tc4, tc5, pc0, pc1, xc0, xc1, xc2, xc3, xc4, xc5, yc0, yc1, yc2, yc3, yc4, yc5, qc0, qc1, rc0, rc1, HB⟩
    · have hlit : (regOps Try.f3 5)[64]? = some ({ dst := some 106, op := Op.binOp BinOp.eql 4 (Operand.tmp 102) (Operand.tmp 105) 4, type := 4, pos := "law.go:25", after := #[{ on := 60, ground := Ground.data }, { on := 63, ground := Ground.data }, { on := 57, ground := Ground.guard }], guard := some (57, true) }) := by kernel_rfl
      obtain rfl := Option.some.inj (hlit.symm.trans hoi)
      have r102 : b.tmps.getD 102 undef = (.bool (ins ⟨⟨d0, d1⟩, ⟨e0, e1⟩, ⟨f0, f1⟩⟩ ⟨g0, g1⟩)) := rd (hT.at 60 (by kernel_rfl) (pre_of hpre 60 (by kernel_rfl)))
      have r105 : b.tmps.getD 105 undef = (.bool (ins ⟨⟨d0, d1⟩, ⟨e0, e1⟩, ⟨f0, f1⟩⟩ ⟨g0, g1⟩)) := rd (hT.at 63 (by kernel_rfl) (pre_of hpre 63 (by kernel_rfl)))
      refine op_go hoi (want_yes rfl (d := 99) (by kernel_rfl) (hT.at 57 (by kernel_rfl) (pre_of hpre 57 (by kernel_rfl)))) fun K hK => ?_
      clear hT hpre hun hlit hoi
      go_simp
      exact hK _ _ ⟨(), fun _ _ => rfl, rfl, tc0, tc1, tc2, tc3, tc4, tc5, pc0, pc1, xc0, xc1, xc2, xc3, xc4, xc5, yc0, yc1, yc2, yc3, yc4, yc5, qc0, qc1, rc0, rc1, HB⟩
    · have hlit : (regOps Try.f3 5)[65]? = some ({ dst := some 107, op := Op.pick (Operand.tmp 99) (Operand.tmp 106) (Operand.const (Value.bool false)), type := 4, pos := "law.go:25", after := #[{ on := 57, ground := Ground.data }, { on := 64, ground := Ground.data }], guard := none }) := by kernel_rfl
      obtain rfl := Option.some.inj (hlit.symm.trans hoi)
      have r99 : b.tmps.getD 99 undef = (.bool true) := rd (hT.at 57 (by kernel_rfl) (pre_of hpre 57 (by kernel_rfl)))
      have r106 : b.tmps.getD 106 undef = (.bool true) := rd (hT.at 64 (by kernel_rfl) (pre_of hpre 64 (by kernel_rfl)))
      refine op_go hoi (want_all rfl) fun K hK => ?_
      clear hT hpre hun hlit hoi
      go_simp
      exact hK _ _ ⟨(), fun _ _ => rfl, rfl, tc0, tc1, tc2, tc3, tc4, tc5, pc0, pc1, xc0, xc1, xc2, xc3, xc4, xc5, yc0, yc1, yc2, yc3, yc4, yc5, qc0, qc1, rc0, rc1, HB⟩
    · have hlit : (regOps Try.f3 5)[66]? = some ({ dst := some 108, op := Op.move (Operand.tmp 107), type := 4, pos := "law.go:25", after := #[{ on := 65, ground := Ground.data }, { on := 63, ground := Ground.chain }], guard := none }) := by kernel_rfl
      obtain rfl := Option.some.inj (hlit.symm.trans hoi)
      have r107 : b.tmps.getD 107 undef = (.bool true) := rd (hT.at 65 (by kernel_rfl) (pre_of hpre 65 (by kernel_rfl)))
      refine op_go hoi (want_all rfl) fun K hK => ?_
      clear hT hpre hun hlit hoi
      go_simp
      exact hK _ _ ⟨(), fun _ _ => rfl, rfl, tc0, tc1, tc2, tc3, tc4, tc5, pc0, pc1, xc0, xc1, xc2, xc3, xc4, xc5, yc0, yc1, yc2, yc3, yc4, yc5, qc0, qc1, rc0, rc1, HB⟩
    · have hlit : (regOps Try.f3 5)[67]? = some ({ dst := some 109, op := Op.load 25 (Operand.tmp 13), type := 25, pos := "law.go:25", after := #[{ on := 66, ground := Ground.guard }], guard := some (66, true) }) := by kernel_rfl
      obtain rfl := Option.some.inj (hlit.symm.trans hoi)
      have r13 : b.tmps.getD 13 undef = (.pointer (some ⟨kx, 0, none⟩)) := rd ((hT.old 13 (by kernel_rfl)).trans t13)
      refine op_go hoi (want_yes rfl (d := 108) (by kernel_rfl) (hT.at 66 (by kernel_rfl) (pre_of hpre 66 (by kernel_rfl)))) fun K hK => ?_
      clear hT hpre hun hlit hoi
      go_simp
      exact hK _ _ ⟨(), fun _ _ => rfl, rfl, tc0, tc1, tc2, tc3, tc4, tc5, pc0, pc1, xc0, xc1, xc2, xc3, xc4, xc5, yc0, yc1, yc2, yc3, yc4, yc5, qc0, qc1, rc0, rc1, HB⟩
    · have hlit : (regOps Try.f3 5)[68]? = some ({ dst := some 110, op := Op.load 23 (Operand.tmp 10), type := 23, pos := "law.go:25", after := #[{ on := 66, ground := Ground.guard }], guard := some (66, true) }) := by kernel_rfl
      obtain rfl := Option.some.inj (hlit.symm.trans hoi)
      have r10 : b.tmps.getD 10 undef = (.pointer (some ⟨kp, 0, none⟩)) := rd ((hT.old 10 (by kernel_rfl)).trans t10)
      refine op_go hoi (want_yes rfl (d := 108) (by kernel_rfl) (hT.at 66 (by kernel_rfl) (pre_of hpre 66 (by kernel_rfl)))) fun K hK => ?_
      clear hT hpre hun hlit hoi
      go_simp
      exact hK _ _ ⟨(), fun _ _ => rfl, rfl, tc0, tc1, tc2, tc3, tc4, tc5, pc0, pc1, xc0, xc1, xc2, xc3, xc4, xc5, yc0, yc1, yc2, yc3, yc4, yc5, qc0, qc1, rc0, rc1, HB⟩
    · have hlit : (regOps Try.f3 5)[69]? = some ({ dst := some 111, op := Op.call { callee := Callee.value (Operand.func 30), args := #[Operand.tmp 109, Operand.tmp 110], argTypes := #[25, 23] }, type := 4, pos := "law.go:25", after := #[{ on := 67, ground := Ground.data }, { on := 68, ground := Ground.data }, { on := 66, ground := Ground.chain }, { on := 66, ground := Ground.guard }], guard := some (66, true) }) := by kernel_rfl
      obtain rfl := Option.some.inj (hlit.symm.trans hoi)
      have r109 : b.tmps.getD 109 undef = (.agg #[.int .i64 m0, .int .i64 m1, .int .i64 m2, .int .i64 m3, .int .i64 m4, .int .i64 m5]) := rd (hT.at 67 (by kernel_rfl) (pre_of hpre 67 (by kernel_rfl)))
      have r110 : b.tmps.getD 110 undef = (.agg #[.int .i64 g0, .int .i64 g1]) := rd (hT.at 68 (by kernel_rfl) (pre_of hpre 68 (by kernel_rfl)))
      refine op_go hoi (want_yes rfl (d := 108) (by kernel_rfl) (hT.at 66 (by kernel_rfl) (pre_of hpre 66 (by kernel_rfl)))) fun K hK => ?_
      clear hT hpre hun hlit hoi
      go_simp
      go_at_call 30
      refine (has30 _ _ _ _ _ _ _ _ _).mono ?_; rintro e w2 ⟨rfl, hb⟩; replace tc0 := ck hb (a := ⟨kt, 0, none⟩) (v := .int .i64 d0) (by go_simp); replace tc1 := ck hb (a := ⟨kt, 1, none⟩) (v := .int .i64 d1) (by go_simp); replace tc2 := ck hb (a := ⟨kt, 2, none⟩) (v := .int .i64 e0) (by go_simp); replace tc3 := ck hb (a := ⟨kt, 3, none⟩) (v := .int .i64 e1) (by go_simp); replace tc4 := ck hb (a := ⟨kt, 4, none⟩) (v := .int .i64 f0) (by go_simp); replace tc5 := ck hb (a := ⟨kt, 5, none⟩) (v := .int .i64 f1) (by go_simp); replace pc0 := ck hb (a := ⟨kp, 0, none⟩) (v := .int .i64 g0) (by go_simp); replace pc1 := ck hb (a := ⟨kp, 1, none⟩) (v := .int .i64 g1) (by go_simp); replace xc0 := ck hb (a := ⟨kx, 0, none⟩) (v := .int .i64 m0) (by go_simp); replace xc1 := ck hb (a := ⟨kx, 1, none⟩) (v := .int .i64 m1) (by go_simp); replace xc2 := ck hb (a := ⟨kx, 2, none⟩) (v := .int .i64 m2) (by go_simp); replace xc3 := ck hb (a := ⟨kx, 3, none⟩) (v := .int .i64 m3) (by go_simp); replace xc4 := ck hb (a := ⟨kx, 4, none⟩) (v := .int .i64 m4) (by go_simp); replace xc5 := ck hb (a := ⟨kx, 5, none⟩) (v := .int .i64 m5) (by go_simp); replace yc0 := ck hb (a := ⟨ky, 0, none⟩) (v := .int .i64 m0) (by go_simp); replace yc1 := ck hb (a := ⟨ky, 1, none⟩) (v := .int .i64 m1) (by go_simp); replace yc2 := ck hb (a := ⟨ky, 2, none⟩) (v := .int .i64 m2) (by go_simp); replace yc3 := ck hb (a := ⟨ky, 3, none⟩) (v := .int .i64 m3) (by go_simp); replace yc4 := ck hb (a := ⟨ky, 4, none⟩) (v := .int .i64 m4) (by go_simp); replace yc5 := ck hb (a := ⟨ky, 5, none⟩) (v := .int .i64 m5) (by go_simp); replace qc0 := ck hb (a := ⟨kq, 0, none⟩) (v := .int .i64 q0) (by go_simp); replace qc1 := ck hb (a := ⟨kq, 1, none⟩) (v := .int .i64 q1) (by go_simp); replace rc0 := ck hb (a := ⟨kr, 0, none⟩) (v := .int .i64 r0) (by go_simp); replace rc1 := ck hb (a := ⟨kr, 1, none⟩) (v := .int .i64 r1) (by go_simp); replace HB : Below W.heap.size W w2 := bt HB hb; clear hb
      exact hK _ _ ⟨(), fun _ _ => rfl, rfl, tc0, tc1, tc2, tc3, tc4, tc5, pc0, pc1, xc0, xc1, xc2, xc3, xc4, xc5, yc0, yc1, yc2, yc3, yc4, yc5, qc0, qc1, rc0, rc1, HB⟩
    · have hlit : (regOps Try.f3 5)[70]? = some ({ dst := some 112, op := Op.load 25 (Operand.tmp 13), type := 25, pos := "law.go:25", after := #[{ on := 66, ground := Ground.guard }], guard := some (66, true) }) := by kernel_rfl
      obtain rfl := Option.some.inj (hlit.symm.trans hoi)
      have r13 : b.tmps.getD 13 undef = (.pointer (some ⟨kx, 0, none⟩)) := rd ((hT.old 13 (by kernel_rfl)).trans t13)
      refine op_go hoi (want_yes rfl (d := 108) (by kernel_rfl) (hT.at 66 (by kernel_rfl) (pre_of hpre 66 (by kernel_rfl)))) fun K hK => ?_
      clear hT hpre hun hlit hoi
      go_simp
      exact hK _ _ ⟨(), fun _ _ => rfl, rfl, tc0, tc1, tc2, tc3, tc4, tc5, pc0, pc1, xc0, xc1, xc2, xc3, xc4, xc5, yc0, yc1, yc2, yc3, yc4, yc5, qc0, qc1, rc0, rc1, HB⟩
    · have hlit : (regOps Try.f3 5)[71]? = some ({ dst := some 113, op := Op.load 23 (Operand.tmp 10), type := 23, pos := "law.go:25", after := #[{ on := 66, ground := Ground.guard }], guard := some (66, true) }) := by kernel_rfl
      obtain rfl := Option.some.inj (hlit.symm.trans hoi)
      have r10 : b.tmps.getD 10 undef = (.pointer (some ⟨kp, 0, none⟩)) := rd ((hT.old 10 (by kernel_rfl)).trans t10)
      refine op_go hoi (want_yes rfl (d := 108) (by kernel_rfl) (hT.at 66 (by kernel_rfl) (pre_of hpre 66 (by kernel_rfl)))) fun K hK => ?_
      clear hT hpre hun hlit hoi
      go_simp
      exact hK _ _ ⟨(), fun _ _ => rfl, rfl, tc0, tc1, tc2, tc3, tc4, tc5, pc0, pc1, xc0, xc1, xc2, xc3, xc4, xc5, yc0, yc1, yc2, yc3, yc4, yc5, qc0, qc1, rc0, rc1, HB⟩
    · have hlit : (regOps Try.f3 5)[72]? = some ({ dst := some 114, op := Op.call { callee := Callee.value (Operand.func 31), args := #[Operand.tmp 112, Operand.tmp 113], argTypes := #[25, 23] }, type := 4, pos := "law.go:25", after := #[{ on := 70, ground := Ground.data }, { on := 71, ground := Ground.data }, { on := 69, ground := Ground.chain }, { on := 66, ground := Ground.guard }], guard := some (66, true) }) := by kernel_rfl
      obtain rfl := Option.some.inj (hlit.symm.trans hoi)
      have r112 : b.tmps.getD 112 undef = (.agg #[.int .i64 m0, .int .i64 m1, .int .i64 m2, .int .i64 m3, .int .i64 m4, .int .i64 m5]) := rd (hT.at 70 (by kernel_rfl) (pre_of hpre 70 (by kernel_rfl)))
      have r113 : b.tmps.getD 113 undef = (.agg #[.int .i64 g0, .int .i64 g1]) := rd (hT.at 71 (by kernel_rfl) (pre_of hpre 71 (by kernel_rfl)))
      refine op_go hoi (want_yes rfl (d := 108) (by kernel_rfl) (hT.at 66 (by kernel_rfl) (pre_of hpre 66 (by kernel_rfl)))) fun K hK => ?_
      clear hT hpre hun hlit hoi
      go_simp
      go_at_call 31
      refine (has31 _ _ _ _ _ _ _ _ _).mono ?_; rintro e w2 ⟨rfl, hb⟩; replace tc0 := ck hb (a := ⟨kt, 0, none⟩) (v := .int .i64 d0) (by go_simp); replace tc1 := ck hb (a := ⟨kt, 1, none⟩) (v := .int .i64 d1) (by go_simp); replace tc2 := ck hb (a := ⟨kt, 2, none⟩) (v := .int .i64 e0) (by go_simp); replace tc3 := ck hb (a := ⟨kt, 3, none⟩) (v := .int .i64 e1) (by go_simp); replace tc4 := ck hb (a := ⟨kt, 4, none⟩) (v := .int .i64 f0) (by go_simp); replace tc5 := ck hb (a := ⟨kt, 5, none⟩) (v := .int .i64 f1) (by go_simp); replace pc0 := ck hb (a := ⟨kp, 0, none⟩) (v := .int .i64 g0) (by go_simp); replace pc1 := ck hb (a := ⟨kp, 1, none⟩) (v := .int .i64 g1) (by go_simp); replace xc0 := ck hb (a := ⟨kx, 0, none⟩) (v := .int .i64 m0) (by go_simp); replace xc1 := ck hb (a := ⟨kx, 1, none⟩) (v := .int .i64 m1) (by go_simp); replace xc2 := ck hb (a := ⟨kx, 2, none⟩) (v := .int .i64 m2) (by go_simp); replace xc3 := ck hb (a := ⟨kx, 3, none⟩) (v := .int .i64 m3) (by go_simp); replace xc4 := ck hb (a := ⟨kx, 4, none⟩) (v := .int .i64 m4) (by go_simp); replace xc5 := ck hb (a := ⟨kx, 5, none⟩) (v := .int .i64 m5) (by go_simp); replace yc0 := ck hb (a := ⟨ky, 0, none⟩) (v := .int .i64 m0) (by go_simp); replace yc1 := ck hb (a := ⟨ky, 1, none⟩) (v := .int .i64 m1) (by go_simp); replace yc2 := ck hb (a := ⟨ky, 2, none⟩) (v := .int .i64 m2) (by go_simp); replace yc3 := ck hb (a := ⟨ky, 3, none⟩) (v := .int .i64 m3) (by go_simp); replace yc4 := ck hb (a := ⟨ky, 4, none⟩) (v := .int .i64 m4) (by go_simp); replace yc5 := ck hb (a := ⟨ky, 5, none⟩) (v := .int .i64 m5) (by go_simp); replace qc0 := ck hb (a := ⟨kq, 0, none⟩) (v := .int .i64 q0) (by go_simp); replace qc1 := ck hb (a := ⟨kq, 1, none⟩) (v := .int .i64 q1) (by go_simp); replace rc0 := ck hb (a := ⟨kr, 0, none⟩) (v := .int .i64 r0) (by go_simp); replace rc1 := ck hb (a := ⟨kr, 1, none⟩) (v := .int .i64 r1) (by go_simp); replace HB : Below W.heap.size W w2 := bt HB hb; clear hb
      exact hK _ _ ⟨(), fun _ _ => rfl, rfl, tc0, tc1, tc2, tc3, tc4, tc5, pc0, pc1, xc0, xc1, xc2, xc3, xc4, xc5, yc0, yc1, yc2, yc3, yc4, yc5, qc0, qc1, rc0, rc1, HB⟩
    · have hlit : (regOps Try.f3 5)[73]? = some ({ dst := some 115, op := Op.binOp BinOp.eql 4 (Operand.tmp 111) (Operand.tmp 114) 4, type := 4, pos := "law.go:25", after := #[{ on := 69, ground := Ground.data }, { on := 72, ground := Ground.data }, { on := 66, ground := Ground.guard }], guard := some (66, true) }) := by kernel_rfl
      obtain rfl := Option.some.inj (hlit.symm.trans hoi)
      have r111 : b.tmps.getD 111 undef = (.bool (has ⟨⟨m0, m1⟩, ⟨m2, m3⟩, ⟨m4, m5⟩⟩ ⟨g0, g1⟩)) := rd (hT.at 69 (by kernel_rfl) (pre_of hpre 69 (by kernel_rfl)))
      have r114 : b.tmps.getD 114 undef = (.bool (has ⟨⟨m0, m1⟩, ⟨m2, m3⟩, ⟨m4, m5⟩⟩ ⟨g0, g1⟩)) := rd (hT.at 72 (by kernel_rfl) (pre_of hpre 72 (by kernel_rfl)))
      refine op_go hoi (want_yes rfl (d := 108) (by kernel_rfl) (hT.at 66 (by kernel_rfl) (pre_of hpre 66 (by kernel_rfl)))) fun K hK => ?_
      clear hT hpre hun hlit hoi
      go_simp
      exact hK _ _ ⟨(), fun _ _ => rfl, rfl, tc0, tc1, tc2, tc3, tc4, tc5, pc0, pc1, xc0, xc1, xc2, xc3, xc4, xc5, yc0, yc1, yc2, yc3, yc4, yc5, qc0, qc1, rc0, rc1, HB⟩
    · have hlit : (regOps Try.f3 5)[74]? = some ({ dst := some 116, op := Op.pick (Operand.tmp 108) (Operand.tmp 115) (Operand.const (Value.bool false)), type := 4, pos := "law.go:25", after := #[{ on := 66, ground := Ground.data }, { on := 73, ground := Ground.data }], guard := none }) := by kernel_rfl
      obtain rfl := Option.some.inj (hlit.symm.trans hoi)
      have r108 : b.tmps.getD 108 undef = (.bool true) := rd (hT.at 66 (by kernel_rfl) (pre_of hpre 66 (by kernel_rfl)))
      have r115 : b.tmps.getD 115 undef = (.bool true) := rd (hT.at 73 (by kernel_rfl) (pre_of hpre 73 (by kernel_rfl)))
      refine op_go hoi (want_all rfl) fun K hK => ?_
      clear hT hpre hun hlit hoi
      go_simp
      exact hK _ _ ⟨(), fun _ _ => rfl, rfl, tc0, tc1, tc2, tc3, tc4, tc5, pc0, pc1, xc0, xc1, xc2, xc3, xc4, xc5, yc0, yc1, yc2, yc3, yc4, yc5, qc0, qc1, rc0, rc1, HB⟩
    · have hlit : (regOps Try.f3 5)[75]? = some ({ dst := some 117, op := Op.move (Operand.tmp 116), type := 4, pos := "law.go:25", after := #[{ on := 74, ground := Ground.data }, { on := 72, ground := Ground.chain }], guard := none }) := by kernel_rfl
      obtain rfl := Option.some.inj (hlit.symm.trans hoi)
      have r116 : b.tmps.getD 116 undef = (.bool true) := rd (hT.at 74 (by kernel_rfl) (pre_of hpre 74 (by kernel_rfl)))
      refine op_go hoi (want_all rfl) fun K hK => ?_
      clear hT hpre hun hlit hoi
      go_simp
      exact hK _ _ ⟨(), fun _ _ => rfl, rfl, tc0, tc1, tc2, tc3, tc4, tc5, pc0, pc1, xc0, xc1, xc2, xc3, xc4, xc5, yc0, yc1, yc2, yc3, yc4, yc5, qc0, qc1, rc0, rc1, HB⟩
    · have hlit : (regOps Try.f3 5)[76]? = some ({ dst := some 118, op := Op.load 25 (Operand.tmp 13), type := 25, pos := "law.go:25", after := #[{ on := 75, ground := Ground.guard }], guard := some (75, true) }) := by kernel_rfl
      obtain rfl := Option.some.inj (hlit.symm.trans hoi)
      have r13 : b.tmps.getD 13 undef = (.pointer (some ⟨kx, 0, none⟩)) := rd ((hT.old 13 (by kernel_rfl)).trans t13)
      refine op_go hoi (want_yes rfl (d := 117) (by kernel_rfl) (hT.at 75 (by kernel_rfl) (pre_of hpre 75 (by kernel_rfl)))) fun K hK => ?_
      clear hT hpre hun hlit hoi
      go_simp
      exact hK _ _ ⟨(), fun _ _ => rfl, rfl, tc0, tc1, tc2, tc3, tc4, tc5, pc0, pc1, xc0, xc1, xc2, xc3, xc4, xc5, yc0, yc1, yc2, yc3, yc4, yc5, qc0, qc1, rc0, rc1, HB⟩
    · have hlit : (regOps Try.f3 5)[77]? = some ({ dst := some 119, op := Op.load 23 (Operand.tmp 10), type := 23, pos := "law.go:25", after := #[{ on := 75, ground := Ground.guard }], guard := some (75, true) }) := by kernel_rfl
      obtain rfl := Option.some.inj (hlit.symm.trans hoi)
      have r10 : b.tmps.getD 10 undef = (.pointer (some ⟨kp, 0, none⟩)) := rd ((hT.old 10 (by kernel_rfl)).trans t10)
      refine op_go hoi (want_yes rfl (d := 117) (by kernel_rfl) (hT.at 75 (by kernel_rfl) (pre_of hpre 75 (by kernel_rfl)))) fun K hK => ?_
      clear hT hpre hun hlit hoi
      go_simp
      exact hK _ _ ⟨(), fun _ _ => rfl, rfl, tc0, tc1, tc2, tc3, tc4, tc5, pc0, pc1, xc0, xc1, xc2, xc3, xc4, xc5, yc0, yc1, yc2, yc3, yc4, yc5, qc0, qc1, rc0, rc1, HB⟩
    · have hlit : (regOps Try.f3 5)[78]? = some ({ dst := some 120, op := Op.call { callee := Callee.value (Operand.func 32), args := #[Operand.tmp 118, Operand.tmp 119], argTypes := #[25, 23] }, type := 4, pos := "law.go:25", after := #[{ on := 76, ground := Ground.data }, { on := 77, ground := Ground.data }, { on := 75, ground := Ground.chain }, { on := 75, ground := Ground.guard }], guard := some (75, true) }) := by kernel_rfl
      obtain rfl := Option.some.inj (hlit.symm.trans hoi)
      have r118 : b.tmps.getD 118 undef = (.agg #[.int .i64 m0, .int .i64 m1, .int .i64 m2, .int .i64 m3, .int .i64 m4, .int .i64 m5]) := rd (hT.at 76 (by kernel_rfl) (pre_of hpre 76 (by kernel_rfl)))
      have r119 : b.tmps.getD 119 undef = (.agg #[.int .i64 g0, .int .i64 g1]) := rd (hT.at 77 (by kernel_rfl) (pre_of hpre 77 (by kernel_rfl)))
      refine op_go hoi (want_yes rfl (d := 117) (by kernel_rfl) (hT.at 75 (by kernel_rfl) (pre_of hpre 75 (by kernel_rfl)))) fun K hK => ?_
      clear hT hpre hun hlit hoi
      go_simp
      go_at_call 32
      refine (ins32 _ _ _ _ _ _ _ _ _).mono ?_; rintro e w2 ⟨rfl, hb⟩; replace tc0 := ck hb (a := ⟨kt, 0, none⟩) (v := .int .i64 d0) (by go_simp); replace tc1 := ck hb (a := ⟨kt, 1, none⟩) (v := .int .i64 d1) (by go_simp); replace tc2 := ck hb (a := ⟨kt, 2, none⟩) (v := .int .i64 e0) (by go_simp); replace tc3 := ck hb (a := ⟨kt, 3, none⟩) (v := .int .i64 e1) (by go_simp); replace tc4 := ck hb (a := ⟨kt, 4, none⟩) (v := .int .i64 f0) (by go_simp); replace tc5 := ck hb (a := ⟨kt, 5, none⟩) (v := .int .i64 f1) (by go_simp); replace pc0 := ck hb (a := ⟨kp, 0, none⟩) (v := .int .i64 g0) (by go_simp); replace pc1 := ck hb (a := ⟨kp, 1, none⟩) (v := .int .i64 g1) (by go_simp); replace xc0 := ck hb (a := ⟨kx, 0, none⟩) (v := .int .i64 m0) (by go_simp); replace xc1 := ck hb (a := ⟨kx, 1, none⟩) (v := .int .i64 m1) (by go_simp); replace xc2 := ck hb (a := ⟨kx, 2, none⟩) (v := .int .i64 m2) (by go_simp); replace xc3 := ck hb (a := ⟨kx, 3, none⟩) (v := .int .i64 m3) (by go_simp); replace xc4 := ck hb (a := ⟨kx, 4, none⟩) (v := .int .i64 m4) (by go_simp); replace xc5 := ck hb (a := ⟨kx, 5, none⟩) (v := .int .i64 m5) (by go_simp); replace yc0 := ck hb (a := ⟨ky, 0, none⟩) (v := .int .i64 m0) (by go_simp); replace yc1 := ck hb (a := ⟨ky, 1, none⟩) (v := .int .i64 m1) (by go_simp); replace yc2 := ck hb (a := ⟨ky, 2, none⟩) (v := .int .i64 m2) (by go_simp); replace yc3 := ck hb (a := ⟨ky, 3, none⟩) (v := .int .i64 m3) (by go_simp); replace yc4 := ck hb (a := ⟨ky, 4, none⟩) (v := .int .i64 m4) (by go_simp); replace yc5 := ck hb (a := ⟨ky, 5, none⟩) (v := .int .i64 m5) (by go_simp); replace qc0 := ck hb (a := ⟨kq, 0, none⟩) (v := .int .i64 q0) (by go_simp); replace qc1 := ck hb (a := ⟨kq, 1, none⟩) (v := .int .i64 q1) (by go_simp); replace rc0 := ck hb (a := ⟨kr, 0, none⟩) (v := .int .i64 r0) (by go_simp); replace rc1 := ck hb (a := ⟨kr, 1, none⟩) (v := .int .i64 r1) (by go_simp); replace HB : Below W.heap.size W w2 := bt HB hb; clear hb
      exact hK _ _ ⟨(), fun _ _ => rfl, rfl, tc0, tc1, tc2, tc3, tc4, tc5, pc0, pc1, xc0, xc1, xc2, xc3, xc4, xc5, yc0, yc1, yc2, yc3, yc4, yc5, qc0, qc1, rc0, rc1, HB⟩
    · have hlit : (regOps Try.f3 5)[79]? = some ({ dst := some 121, op := Op.load 25 (Operand.tmp 13), type := 25, pos := "law.go:25", after := #[{ on := 75, ground := Ground.guard }], guard := some (75, true) }) := by kernel_rfl
      obtain rfl := Option.some.inj (hlit.symm.trans hoi)
      have r13 : b.tmps.getD 13 undef = (.pointer (some ⟨kx, 0, none⟩)) := rd ((hT.old 13 (by kernel_rfl)).trans t13)
      refine op_go hoi (want_yes rfl (d := 117) (by kernel_rfl) (hT.at 75 (by kernel_rfl) (pre_of hpre 75 (by kernel_rfl)))) fun K hK => ?_
      clear hT hpre hun hlit hoi
      go_simp
      exact hK _ _ ⟨(), fun _ _ => rfl, rfl, tc0, tc1, tc2, tc3, tc4, tc5, pc0, pc1, xc0, xc1, xc2, xc3, xc4, xc5, yc0, yc1, yc2, yc3, yc4, yc5, qc0, qc1, rc0, rc1, HB⟩
    · have hlit : (regOps Try.f3 5)[80]? = some ({ dst := some 122, op := Op.load 23 (Operand.tmp 10), type := 23, pos := "law.go:25", after := #[{ on := 75, ground := Ground.guard }], guard := some (75, true) }) := by kernel_rfl
      obtain rfl := Option.some.inj (hlit.symm.trans hoi)
      have r10 : b.tmps.getD 10 undef = (.pointer (some ⟨kp, 0, none⟩)) := rd ((hT.old 10 (by kernel_rfl)).trans t10)
      refine op_go hoi (want_yes rfl (d := 117) (by kernel_rfl) (hT.at 75 (by kernel_rfl) (pre_of hpre 75 (by kernel_rfl)))) fun K hK => ?_
      clear hT hpre hun hlit hoi
      go_simp
      exact hK _ _ ⟨(), fun _ _ => rfl, rfl, tc0, tc1, tc2, tc3, tc4, tc5, pc0, pc1, xc0, xc1, xc2, xc3, xc4, xc5, yc0, yc1, yc2, yc3, yc4, yc5, qc0, qc1, rc0, rc1, HB⟩
    · have hlit : (regOps Try.f3 5)[81]? = some ({ dst := some 123, op := Op.call { callee := Callee.value (Operand.func 33), args := #[Operand.tmp 121, Operand.tmp 122], argTypes := #[25, 23] }, type := 4, pos := "law.go:25", after := #[{ on := 79, ground := Ground.data }, { on := 80, ground := Ground.data }, { on := 78, ground := Ground.chain }, { on := 75, ground := Ground.guard }], guard := some (75, true) }) := by kernel_rfl
      obtain rfl := Option.some.inj (hlit.symm.trans hoi)
      have r121 : b.tmps.getD 121 undef = (.agg #[.int .i64 m0, .int .i64 m1, .int .i64 m2, .int .i64 m3, .int .i64 m4, .int .i64 m5]) := rd (hT.at 79 (by kernel_rfl) (pre_of hpre 79 (by kernel_rfl)))
      have r122 : b.tmps.getD 122 undef = (.agg #[.int .i64 g0, .int .i64 g1]) := rd (hT.at 80 (by kernel_rfl) (pre_of hpre 80 (by kernel_rfl)))
      refine op_go hoi (want_yes rfl (d := 117) (by kernel_rfl) (hT.at 75 (by kernel_rfl) (pre_of hpre 75 (by kernel_rfl)))) fun K hK => ?_
      clear hT hpre hun hlit hoi
      go_simp
      go_at_call 33
      refine (ins33 _ _ _ _ _ _ _ _ _).mono ?_; rintro e w2 ⟨rfl, hb⟩; replace tc0 := ck hb (a := ⟨kt, 0, none⟩) (v := .int .i64 d0) (by go_simp); replace tc1 := ck hb (a := ⟨kt, 1, none⟩) (v := .int .i64 d1) (by go_simp); replace tc2 := ck hb (a := ⟨kt, 2, none⟩) (v := .int .i64 e0) (by go_simp); replace tc3 := ck hb (a := ⟨kt, 3, none⟩) (v := .int .i64 e1) (by go_simp); replace tc4 := ck hb (a := ⟨kt, 4, none⟩) (v := .int .i64 f0) (by go_simp); replace tc5 := ck hb (a := ⟨kt, 5, none⟩) (v := .int .i64 f1) (by go_simp); replace pc0 := ck hb (a := ⟨kp, 0, none⟩) (v := .int .i64 g0) (by go_simp); replace pc1 := ck hb (a := ⟨kp, 1, none⟩) (v := .int .i64 g1) (by go_simp); replace xc0 := ck hb (a := ⟨kx, 0, none⟩) (v := .int .i64 m0) (by go_simp); replace xc1 := ck hb (a := ⟨kx, 1, none⟩) (v := .int .i64 m1) (by go_simp); replace xc2 := ck hb (a := ⟨kx, 2, none⟩) (v := .int .i64 m2) (by go_simp); replace xc3 := ck hb (a := ⟨kx, 3, none⟩) (v := .int .i64 m3) (by go_simp); replace xc4 := ck hb (a := ⟨kx, 4, none⟩) (v := .int .i64 m4) (by go_simp); replace xc5 := ck hb (a := ⟨kx, 5, none⟩) (v := .int .i64 m5) (by go_simp); replace yc0 := ck hb (a := ⟨ky, 0, none⟩) (v := .int .i64 m0) (by go_simp); replace yc1 := ck hb (a := ⟨ky, 1, none⟩) (v := .int .i64 m1) (by go_simp); replace yc2 := ck hb (a := ⟨ky, 2, none⟩) (v := .int .i64 m2) (by go_simp); replace yc3 := ck hb (a := ⟨ky, 3, none⟩) (v := .int .i64 m3) (by go_simp); replace yc4 := ck hb (a := ⟨ky, 4, none⟩) (v := .int .i64 m4) (by go_simp); replace yc5 := ck hb (a := ⟨ky, 5, none⟩) (v := .int .i64 m5) (by go_simp); replace qc0 := ck hb (a := ⟨kq, 0, none⟩) (v := .int .i64 q0) (by go_simp); replace qc1 := ck hb (a := ⟨kq, 1, none⟩) (v := .int .i64 q1) (by go_simp); replace rc0 := ck hb (a := ⟨kr, 0, none⟩) (v := .int .i64 r0) (by go_simp); replace rc1 := ck hb (a := ⟨kr, 1, none⟩) (v := .int .i64 r1) (by go_simp); replace HB : Below W.heap.size W w2 := bt HB hb; clear hb
      exact hK _ _ ⟨(), fun _ _ => rfl, rfl, tc0, tc1, tc2, tc3, tc4, tc5, pc0, pc1, xc0, xc1, xc2, xc3, xc4, xc5, yc0, yc1, yc2, yc3, yc4, yc5, qc0, qc1, rc0, rc1, HB⟩
    · have hlit : (regOps Try.f3 5)[82]? = some ({ dst := some 124, op := Op.binOp BinOp.eql 4 (Operand.tmp 120) (Operand.tmp 123) 4, type := 4, pos := "law.go:25", after := #[{ on := 78, ground := Ground.data }, { on := 81, ground := Ground.data }, { on := 75, ground := Ground.guard }], guard := some (75, true) }) := by kernel_rfl
      obtain rfl := Option.some.inj (hlit.symm.trans hoi)
      have r120 : b.tmps.getD 120 undef = (.bool (ins ⟨⟨m0, m1⟩, ⟨m2, m3⟩, ⟨m4, m5⟩⟩ ⟨g0, g1⟩)) := rd (hT.at 78 (by kernel_rfl) (pre_of hpre 78 (by kernel_rfl)))
      have r123 : b.tmps.getD 123 undef = (.bool (ins ⟨⟨m0, m1⟩, ⟨m2, m3⟩, ⟨m4, m5⟩⟩ ⟨g0, g1⟩)) := rd (hT.at 81 (by kernel_rfl) (pre_of hpre 81 (by kernel_rfl)))
      refine op_go hoi (want_yes rfl (d := 117) (by kernel_rfl) (hT.at 75 (by kernel_rfl) (pre_of hpre 75 (by kernel_rfl)))) fun K hK => ?_
      clear hT hpre hun hlit hoi
      go_simp
      exact hK _ _ ⟨(), fun _ _ => rfl, rfl, tc0, tc1, tc2, tc3, tc4, tc5, pc0, pc1, xc0, xc1, xc2, xc3, xc4, xc5, yc0, yc1, yc2, yc3, yc4, yc5, qc0, qc1, rc0, rc1, HB⟩
    · have hlit : (regOps Try.f3 5)[83]? = some ({ dst := some 125, op := Op.pick (Operand.tmp 117) (Operand.tmp 124) (Operand.const (Value.bool false)), type := 4, pos := "law.go:25", after := #[{ on := 75, ground := Ground.data }, { on := 82, ground := Ground.data }], guard := none }) := by kernel_rfl
      obtain rfl := Option.some.inj (hlit.symm.trans hoi)
      have r117 : b.tmps.getD 117 undef = (.bool true) := rd (hT.at 75 (by kernel_rfl) (pre_of hpre 75 (by kernel_rfl)))
      have r124 : b.tmps.getD 124 undef = (.bool true) := rd (hT.at 82 (by kernel_rfl) (pre_of hpre 82 (by kernel_rfl)))
      refine op_go hoi (want_all rfl) fun K hK => ?_
      clear hT hpre hun hlit hoi
      go_simp
      exact hK _ _ ⟨(), fun _ _ => rfl, rfl, tc0, tc1, tc2, tc3, tc4, tc5, pc0, pc1, xc0, xc1, xc2, xc3, xc4, xc5, yc0, yc1, yc2, yc3, yc4, yc5, qc0, qc1, rc0, rc1, HB⟩
    · have hlit : (regOps Try.f3 5)[84]? = some ({ dst := some 126, op := Op.move (Operand.tmp 125), type := 4, pos := "law.go:25", after := #[{ on := 83, ground := Ground.data }, { on := 81, ground := Ground.chain }], guard := none }) := by kernel_rfl
      obtain rfl := Option.some.inj (hlit.symm.trans hoi)
      have r125 : b.tmps.getD 125 undef = (.bool true) := rd (hT.at 83 (by kernel_rfl) (pre_of hpre 83 (by kernel_rfl)))
      refine op_go hoi (want_all rfl) fun K hK => ?_
      clear hT hpre hun hlit hoi
      go_simp
      exact hK _ _ ⟨(), fun _ _ => rfl, rfl, tc0, tc1, tc2, tc3, tc4, tc5, pc0, pc1, xc0, xc1, xc2, xc3, xc4, xc5, yc0, yc1, yc2, yc3, yc4, yc5, qc0, qc1, rc0, rc1, HB⟩
    · have hlit : (regOps Try.f3 5)[85]? = some ({ dst := some 127, op := Op.load 25 (Operand.tmp 9), type := 25, pos := "law.go:25", after := #[{ on := 84, ground := Ground.guard }], guard := some (84, true) }) := by kernel_rfl
      obtain rfl := Option.some.inj (hlit.symm.trans hoi)
      have r9 : b.tmps.getD 9 undef = (.pointer (some ⟨kt, 0, none⟩)) := rd ((hT.old 9 (by kernel_rfl)).trans t9)
      refine op_go hoi (want_yes rfl (d := 126) (by kernel_rfl) (hT.at 84 (by kernel_rfl) (pre_of hpre 84 (by kernel_rfl)))) fun K hK => ?_
      clear hT hpre hun hlit hoi
      go_simp
      exact hK _ _ ⟨(), fun _ _ => rfl, rfl, tc0, tc1, tc2, tc3, tc4, tc5, pc0, pc1, xc0, xc1, xc2, xc3, xc4, xc5, yc0, yc1, yc2, yc3, yc4, yc5, qc0, qc1, rc0, rc1, HB⟩
    · have hlit : (regOps Try.f3 5)[86]? = some ({ dst := some 128, op := Op.call { callee := Callee.value (Operand.func 34), args := #[Operand.tmp 127], argTypes := #[25] }, type := 3, pos := "law.go:25", after := #[{ on := 85, ground := Ground.data }, { on := 84, ground := Ground.chain }, { on := 84, ground := Ground.guard }], guard := some (84, true) }) := by kernel_rfl
      obtain rfl := Option.some.inj (hlit.symm.trans hoi)
      have r127 : b.tmps.getD 127 undef = (.agg #[.int .i64 d0, .int .i64 d1, .int .i64 e0, .int .i64 e1, .int .i64 f0, .int .i64 f1]) := rd (hT.at 85 (by kernel_rfl) (pre_of hpre 85 (by kernel_rfl)))
      refine op_go hoi (want_yes rfl (d := 126) (by kernel_rfl) (hT.at 84 (by kernel_rfl) (pre_of hpre 84 (by kernel_rfl)))) fun K hK => ?_
      clear hT hpre hun hlit hoi
      go_simp
      go_at_call 34
      refine (twT34 _ _ _ _ _ _ _).mono ?_; rintro e w2 ⟨rfl, hb⟩; replace tc0 := ck hb (a := ⟨kt, 0, none⟩) (v := .int .i64 d0) (by go_simp); replace tc1 := ck hb (a := ⟨kt, 1, none⟩) (v := .int .i64 d1) (by go_simp); replace tc2 := ck hb (a := ⟨kt, 2, none⟩) (v := .int .i64 e0) (by go_simp); replace tc3 := ck hb (a := ⟨kt, 3, none⟩) (v := .int .i64 e1) (by go_simp); replace tc4 := ck hb (a := ⟨kt, 4, none⟩) (v := .int .i64 f0) (by go_simp); replace tc5 := ck hb (a := ⟨kt, 5, none⟩) (v := .int .i64 f1) (by go_simp); replace pc0 := ck hb (a := ⟨kp, 0, none⟩) (v := .int .i64 g0) (by go_simp); replace pc1 := ck hb (a := ⟨kp, 1, none⟩) (v := .int .i64 g1) (by go_simp); replace xc0 := ck hb (a := ⟨kx, 0, none⟩) (v := .int .i64 m0) (by go_simp); replace xc1 := ck hb (a := ⟨kx, 1, none⟩) (v := .int .i64 m1) (by go_simp); replace xc2 := ck hb (a := ⟨kx, 2, none⟩) (v := .int .i64 m2) (by go_simp); replace xc3 := ck hb (a := ⟨kx, 3, none⟩) (v := .int .i64 m3) (by go_simp); replace xc4 := ck hb (a := ⟨kx, 4, none⟩) (v := .int .i64 m4) (by go_simp); replace xc5 := ck hb (a := ⟨kx, 5, none⟩) (v := .int .i64 m5) (by go_simp); replace yc0 := ck hb (a := ⟨ky, 0, none⟩) (v := .int .i64 m0) (by go_simp); replace yc1 := ck hb (a := ⟨ky, 1, none⟩) (v := .int .i64 m1) (by go_simp); replace yc2 := ck hb (a := ⟨ky, 2, none⟩) (v := .int .i64 m2) (by go_simp); replace yc3 := ck hb (a := ⟨ky, 3, none⟩) (v := .int .i64 m3) (by go_simp); replace yc4 := ck hb (a := ⟨ky, 4, none⟩) (v := .int .i64 m4) (by go_simp); replace yc5 := ck hb (a := ⟨ky, 5, none⟩) (v := .int .i64 m5) (by go_simp); replace qc0 := ck hb (a := ⟨kq, 0, none⟩) (v := .int .i64 q0) (by go_simp); replace qc1 := ck hb (a := ⟨kq, 1, none⟩) (v := .int .i64 q1) (by go_simp); replace rc0 := ck hb (a := ⟨kr, 0, none⟩) (v := .int .i64 r0) (by go_simp); replace rc1 := ck hb (a := ⟨kr, 1, none⟩) (v := .int .i64 r1) (by go_simp); replace HB : Below W.heap.size W w2 := bt HB hb; clear hb
      exact hK _ _ ⟨(), fun _ _ => rfl, rfl, tc0, tc1, tc2, tc3, tc4, tc5, pc0, pc1, xc0, xc1, xc2, xc3, xc4, xc5, yc0, yc1, yc2, yc3, yc4, yc5, qc0, qc1, rc0, rc1, HB⟩
    · have hlit : (regOps Try.f3 5)[87]? = some ({ dst := some 129, op := Op.load 25 (Operand.tmp 9), type := 25, pos := "law.go:25", after := #[{ on := 84, ground := Ground.guard }], guard := some (84, true) }) := by kernel_rfl
      obtain rfl := Option.some.inj (hlit.symm.trans hoi)
      have r9 : b.tmps.getD 9 undef = (.pointer (some ⟨kt, 0, none⟩)) := rd ((hT.old 9 (by kernel_rfl)).trans t9)
      refine op_go hoi (want_yes rfl (d := 126) (by kernel_rfl) (hT.at 84 (by kernel_rfl) (pre_of hpre 84 (by kernel_rfl)))) fun K hK => ?_
      clear hT hpre hun hlit hoi
      go_simp
      exact hK _ _ ⟨(), fun _ _ => rfl, rfl, tc0, tc1, tc2, tc3, tc4, tc5, pc0, pc1, xc0, xc1, xc2, xc3, xc4, xc5, yc0, yc1, yc2, yc3, yc4, yc5, qc0, qc1, rc0, rc1, HB⟩
    · have hlit : (regOps Try.f3 5)[88]? = some ({ dst := some 130, op := Op.call { callee := Callee.value (Operand.func 35), args := #[Operand.tmp 129], argTypes := #[25] }, type := 3, pos := "law.go:25", after := #[{ on := 87, ground := Ground.data }, { on := 86, ground := Ground.chain }, { on := 84, ground := Ground.guard }], guard := some (84, true) }) := by kernel_rfl
      obtain rfl := Option.some.inj (hlit.symm.trans hoi)
      have r129 : b.tmps.getD 129 undef = (.agg #[.int .i64 d0, .int .i64 d1, .int .i64 e0, .int .i64 e1, .int .i64 f0, .int .i64 f1]) := rd (hT.at 87 (by kernel_rfl) (pre_of hpre 87 (by kernel_rfl)))
      refine op_go hoi (want_yes rfl (d := 126) (by kernel_rfl) (hT.at 84 (by kernel_rfl) (pre_of hpre 84 (by kernel_rfl)))) fun K hK => ?_
      clear hT hpre hun hlit hoi
      go_simp
      go_at_call 35
      refine (twT35 _ _ _ _ _ _ _).mono ?_; rintro e w2 ⟨rfl, hb⟩; replace tc0 := ck hb (a := ⟨kt, 0, none⟩) (v := .int .i64 d0) (by go_simp); replace tc1 := ck hb (a := ⟨kt, 1, none⟩) (v := .int .i64 d1) (by go_simp); replace tc2 := ck hb (a := ⟨kt, 2, none⟩) (v := .int .i64 e0) (by go_simp); replace tc3 := ck hb (a := ⟨kt, 3, none⟩) (v := .int .i64 e1) (by go_simp); replace tc4 := ck hb (a := ⟨kt, 4, none⟩) (v := .int .i64 f0) (by go_simp); replace tc5 := ck hb (a := ⟨kt, 5, none⟩) (v := .int .i64 f1) (by go_simp); replace pc0 := ck hb (a := ⟨kp, 0, none⟩) (v := .int .i64 g0) (by go_simp); replace pc1 := ck hb (a := ⟨kp, 1, none⟩) (v := .int .i64 g1) (by go_simp); replace xc0 := ck hb (a := ⟨kx, 0, none⟩) (v := .int .i64 m0) (by go_simp); replace xc1 := ck hb (a := ⟨kx, 1, none⟩) (v := .int .i64 m1) (by go_simp); replace xc2 := ck hb (a := ⟨kx, 2, none⟩) (v := .int .i64 m2) (by go_simp); replace xc3 := ck hb (a := ⟨kx, 3, none⟩) (v := .int .i64 m3) (by go_simp); replace xc4 := ck hb (a := ⟨kx, 4, none⟩) (v := .int .i64 m4) (by go_simp); replace xc5 := ck hb (a := ⟨kx, 5, none⟩) (v := .int .i64 m5) (by go_simp); replace yc0 := ck hb (a := ⟨ky, 0, none⟩) (v := .int .i64 m0) (by go_simp); replace yc1 := ck hb (a := ⟨ky, 1, none⟩) (v := .int .i64 m1) (by go_simp); replace yc2 := ck hb (a := ⟨ky, 2, none⟩) (v := .int .i64 m2) (by go_simp); replace yc3 := ck hb (a := ⟨ky, 3, none⟩) (v := .int .i64 m3) (by go_simp); replace yc4 := ck hb (a := ⟨ky, 4, none⟩) (v := .int .i64 m4) (by go_simp); replace yc5 := ck hb (a := ⟨ky, 5, none⟩) (v := .int .i64 m5) (by go_simp); replace qc0 := ck hb (a := ⟨kq, 0, none⟩) (v := .int .i64 q0) (by go_simp); replace qc1 := ck hb (a := ⟨kq, 1, none⟩) (v := .int .i64 q1) (by go_simp); replace rc0 := ck hb (a := ⟨kr, 0, none⟩) (v := .int .i64 r0) (by go_simp); replace rc1 := ck hb (a := ⟨kr, 1, none⟩) (v := .int .i64 r1) (by go_simp); replace HB : Below W.heap.size W w2 := bt HB hb; clear hb
      exact hK _ _ ⟨(), fun _ _ => rfl, rfl, tc0, tc1, tc2, tc3, tc4, tc5, pc0, pc1, xc0, xc1, xc2, xc3, xc4, xc5, yc0, yc1, yc2, yc3, yc4, yc5, qc0, qc1, rc0, rc1, HB⟩
    · have hlit : (regOps Try.f3 5)[89]? = some ({ dst := some 131, op := Op.binOp BinOp.eql 3 (Operand.tmp 128) (Operand.tmp 130) 3, type := 4, pos := "law.go:25", after := #[{ on := 86, ground := Ground.data }, { on := 88, ground := Ground.data }, { on := 84, ground := Ground.guard }], guard := some (84, true) }) := by kernel_rfl
      obtain rfl := Option.some.inj (hlit.symm.trans hoi)
      have r128 : b.tmps.getD 128 undef = (.int .i64 (twT ⟨⟨d0, d1⟩, ⟨e0, e1⟩, ⟨f0, f1⟩⟩)) := rd (hT.at 86 (by kernel_rfl) (pre_of hpre 86 (by kernel_rfl)))
      have r130 : b.tmps.getD 130 undef = (.int .i64 (twT ⟨⟨d0, d1⟩, ⟨e0, e1⟩, ⟨f0, f1⟩⟩)) := rd (hT.at 88 (by kernel_rfl) (pre_of hpre 88 (by kernel_rfl)))
      refine op_go hoi (want_yes rfl (d := 126) (by kernel_rfl) (hT.at 84 (by kernel_rfl) (pre_of hpre 84 (by kernel_rfl)))) fun K hK => ?_
      clear hT hpre hun hlit hoi
      go_simp
      exact hK _ _ ⟨(), fun _ _ => rfl, rfl, tc0, tc1, tc2, tc3, tc4, tc5, pc0, pc1, xc0, xc1, xc2, xc3, xc4, xc5, yc0, yc1, yc2, yc3, yc4, yc5, qc0, qc1, rc0, rc1, HB⟩
    · have hlit : (regOps Try.f3 5)[90]? = some ({ dst := some 132, op := Op.pick (Operand.tmp 126) (Operand.tmp 131) (Operand.const (Value.bool false)), type := 4, pos := "law.go:25", after := #[{ on := 84, ground := Ground.data }, { on := 89, ground := Ground.data }], guard := none }) := by kernel_rfl
      obtain rfl := Option.some.inj (hlit.symm.trans hoi)
      have r126 : b.tmps.getD 126 undef = (.bool true) := rd (hT.at 84 (by kernel_rfl) (pre_of hpre 84 (by kernel_rfl)))
      have r131 : b.tmps.getD 131 undef = (.bool true) := rd (hT.at 89 (by kernel_rfl) (pre_of hpre 89 (by kernel_rfl)))
      refine op_go hoi (want_all rfl) fun K hK => ?_
      clear hT hpre hun hlit hoi
      go_simp
      exact hK _ _ ⟨(), fun _ _ => rfl, rfl, tc0, tc1, tc2, tc3, tc4, tc5, pc0, pc1, xc0, xc1, xc2, xc3, xc4, xc5, yc0, yc1, yc2, yc3, yc4, yc5, qc0, qc1, rc0, rc1, HB⟩
    · have hlit : (regOps Try.f3 5)[91]? = some ({ dst := some 133, op := Op.move (Operand.tmp 132), type := 4, pos := "law.go:25", after := #[{ on := 90, ground := Ground.data }, { on := 88, ground := Ground.chain }], guard := none }) := by kernel_rfl
      obtain rfl := Option.some.inj (hlit.symm.trans hoi)
      have r132 : b.tmps.getD 132 undef = (.bool true) := rd (hT.at 90 (by kernel_rfl) (pre_of hpre 90 (by kernel_rfl)))
      refine op_go hoi (want_all rfl) fun K hK => ?_
      clear hT hpre hun hlit hoi
      go_simp
      exact hK _ _ ⟨(), fun _ _ => rfl, rfl, tc0, tc1, tc2, tc3, tc4, tc5, pc0, pc1, xc0, xc1, xc2, xc3, xc4, xc5, yc0, yc1, yc2, yc3, yc4, yc5, qc0, qc1, rc0, rc1, HB⟩
    · have hlit : (regOps Try.f3 5)[92]? = some ({ dst := some 134, op := Op.call { callee := Callee.value (Operand.func 36), args := #[], argTypes := #[] }, type := 4, pos := "law.go:25", after := #[{ on := 91, ground := Ground.chain }, { on := 91, ground := Ground.guard }], guard := some (91, true) }) := by kernel_rfl
      obtain rfl := Option.some.inj (hlit.symm.trans hoi)
      refine op_go hoi (want_yes rfl (d := 133) (by kernel_rfl) (hT.at 91 (by kernel_rfl) (pre_of hpre 91 (by kernel_rfl)))) fun K hK => ?_
      clear hT hpre hun hlit hoi
      go_simp
      go_at_call 36
      refine (awake36 _).mono ?_; rintro e w2 ⟨rfl, hb⟩; replace tc0 := ck hb (a := ⟨kt, 0, none⟩) (v := .int .i64 d0) (by go_simp); replace tc1 := ck hb (a := ⟨kt, 1, none⟩) (v := .int .i64 d1) (by go_simp); replace tc2 := ck hb (a := ⟨kt, 2, none⟩) (v := .int .i64 e0) (by go_simp); replace tc3 := ck hb (a := ⟨kt, 3, none⟩) (v := .int .i64 e1) (by go_simp); replace tc4 := ck hb (a := ⟨kt, 4, none⟩) (v := .int .i64 f0) (by go_simp); replace tc5 := ck hb (a := ⟨kt, 5, none⟩) (v := .int .i64 f1) (by go_simp); replace pc0 := ck hb (a := ⟨kp, 0, none⟩) (v := .int .i64 g0) (by go_simp); replace pc1 := ck hb (a := ⟨kp, 1, none⟩) (v := .int .i64 g1) (by go_simp); replace xc0 := ck hb (a := ⟨kx, 0, none⟩) (v := .int .i64 m0) (by go_simp); replace xc1 := ck hb (a := ⟨kx, 1, none⟩) (v := .int .i64 m1) (by go_simp); replace xc2 := ck hb (a := ⟨kx, 2, none⟩) (v := .int .i64 m2) (by go_simp); replace xc3 := ck hb (a := ⟨kx, 3, none⟩) (v := .int .i64 m3) (by go_simp); replace xc4 := ck hb (a := ⟨kx, 4, none⟩) (v := .int .i64 m4) (by go_simp); replace xc5 := ck hb (a := ⟨kx, 5, none⟩) (v := .int .i64 m5) (by go_simp); replace yc0 := ck hb (a := ⟨ky, 0, none⟩) (v := .int .i64 m0) (by go_simp); replace yc1 := ck hb (a := ⟨ky, 1, none⟩) (v := .int .i64 m1) (by go_simp); replace yc2 := ck hb (a := ⟨ky, 2, none⟩) (v := .int .i64 m2) (by go_simp); replace yc3 := ck hb (a := ⟨ky, 3, none⟩) (v := .int .i64 m3) (by go_simp); replace yc4 := ck hb (a := ⟨ky, 4, none⟩) (v := .int .i64 m4) (by go_simp); replace yc5 := ck hb (a := ⟨ky, 5, none⟩) (v := .int .i64 m5) (by go_simp); replace qc0 := ck hb (a := ⟨kq, 0, none⟩) (v := .int .i64 q0) (by go_simp); replace qc1 := ck hb (a := ⟨kq, 1, none⟩) (v := .int .i64 q1) (by go_simp); replace rc0 := ck hb (a := ⟨kr, 0, none⟩) (v := .int .i64 r0) (by go_simp); replace rc1 := ck hb (a := ⟨kr, 1, none⟩) (v := .int .i64 r1) (by go_simp); replace HB : Below W.heap.size W w2 := bt HB hb; clear hb
      exact hK _ _ ⟨(), fun _ _ => rfl, rfl, tc0, tc1, tc2, tc3, tc4, tc5, pc0, pc1, xc0, xc1, xc2, xc3, xc4, xc5, yc0, yc1, yc2, yc3, yc4, yc5, qc0, qc1, rc0, rc1, HB⟩
    · have hlit : (regOps Try.f3 5)[93]? = some ({ dst := some 135, op := Op.pick (Operand.tmp 133) (Operand.tmp 134) (Operand.const (Value.bool false)), type := 4, pos := "law.go:25", after := #[{ on := 91, ground := Ground.data }, { on := 92, ground := Ground.data }], guard := none }) := by kernel_rfl
      obtain rfl := Option.some.inj (hlit.symm.trans hoi)
      have r133 : b.tmps.getD 133 undef = (.bool true) := rd (hT.at 91 (by kernel_rfl) (pre_of hpre 91 (by kernel_rfl)))
      have r134 : b.tmps.getD 134 undef = (.bool true) := rd (hT.at 92 (by kernel_rfl) (pre_of hpre 92 (by kernel_rfl)))
      refine op_go hoi (want_all rfl) fun K hK => ?_
      clear hT hpre hun hlit hoi
      go_simp
      exact hK _ _ ⟨(), fun _ _ => rfl, rfl, tc0, tc1, tc2, tc3, tc4, tc5, pc0, pc1, xc0, xc1, xc2, xc3, xc4, xc5, yc0, yc1, yc2, yc3, yc4, yc5, qc0, qc1, rc0, rc1, HB⟩
    · have hlit : (regOps Try.f3 5)[94]? = some ({ dst := some 12, op := Op.assign (Operand.tmp 135), type := 4, pos := "law.go:25", after := #[{ on := 93, ground := Ground.data }, { on := 92, ground := Ground.chain }, { on := 0, ground := Ground.phase }, { on := 1, ground := Ground.phase }, { on := 2, ground := Ground.phase }, { on := 3, ground := Ground.phase }, { on := 4, ground := Ground.phase }, { on := 5, ground := Ground.phase }, { on := 6, ground := Ground.phase }, { on := 7, ground := Ground.phase }, { on := 8, ground := Ground.phase }, { on := 9, ground := Ground.phase }, { on := 10, ground := Ground.phase }, { on := 11, ground := Ground.phase }, { on := 12, ground := Ground.phase }, { on := 13, ground := Ground.phase }, { on := 14, ground := Ground.phase }, { on := 15, ground := Ground.phase }, { on := 16, ground := Ground.phase }, { on := 17, ground := Ground.phase }, { on := 18, ground := Ground.phase }, { on := 19, ground := Ground.phase }, { on := 20, ground := Ground.phase }, { on := 21, ground := Ground.phase }, { on := 22, ground := Ground.phase }, { on := 23, ground := Ground.phase }, { on := 24, ground := Ground.phase }, { on := 25, ground := Ground.phase }, { on := 26, ground := Ground.phase }, { on := 27, ground := Ground.phase }, { on := 28, ground := Ground.phase }, { on := 29, ground := Ground.phase }, { on := 30, ground := Ground.phase }, { on := 31, ground := Ground.phase }, { on := 32, ground := Ground.phase }, { on := 33, ground := Ground.phase }, { on := 34, ground := Ground.phase }, { on := 35, ground := Ground.phase }, { on := 36, ground := Ground.phase }, { on := 37, ground := Ground.phase }, { on := 38, ground := Ground.phase }, { on := 39, ground := Ground.phase }, { on := 40, ground := Ground.phase }, { on := 41, ground := Ground.phase }, { on := 42, ground := Ground.phase }, { on := 43, ground := Ground.phase }, { on := 44, ground := Ground.phase }, { on := 45, ground := Ground.phase }, { on := 46, ground := Ground.phase }, { on := 47, ground := Ground.phase }, { on := 48, ground := Ground.phase }, { on := 49, ground := Ground.phase }, { on := 50, ground := Ground.phase }, { on := 51, ground := Ground.phase }, { on := 52, ground := Ground.phase }, { on := 53, ground := Ground.phase }, { on := 54, ground := Ground.phase }, { on := 55, ground := Ground.phase }, { on := 56, ground := Ground.phase }, { on := 57, ground := Ground.phase }, { on := 58, ground := Ground.phase }, { on := 59, ground := Ground.phase }, { on := 60, ground := Ground.phase }, { on := 61, ground := Ground.phase }, { on := 62, ground := Ground.phase }, { on := 63, ground := Ground.phase }, { on := 64, ground := Ground.phase }, { on := 65, ground := Ground.phase }, { on := 66, ground := Ground.phase }, { on := 67, ground := Ground.phase }, { on := 68, ground := Ground.phase }, { on := 69, ground := Ground.phase }, { on := 70, ground := Ground.phase }, { on := 71, ground := Ground.phase }, { on := 72, ground := Ground.phase }, { on := 73, ground := Ground.phase }, { on := 74, ground := Ground.phase }, { on := 75, ground := Ground.phase }, { on := 76, ground := Ground.phase }, { on := 77, ground := Ground.phase }, { on := 78, ground := Ground.phase }, { on := 79, ground := Ground.phase }, { on := 80, ground := Ground.phase }, { on := 81, ground := Ground.phase }, { on := 82, ground := Ground.phase }, { on := 83, ground := Ground.phase }, { on := 84, ground := Ground.phase }, { on := 85, ground := Ground.phase }, { on := 86, ground := Ground.phase }, { on := 87, ground := Ground.phase }, { on := 88, ground := Ground.phase }, { on := 89, ground := Ground.phase }, { on := 90, ground := Ground.phase }, { on := 91, ground := Ground.phase }, { on := 92, ground := Ground.phase }, { on := 93, ground := Ground.phase }], guard := none }) := by kernel_rfl
      obtain rfl := Option.some.inj (hlit.symm.trans hoi)
      have r135 : b.tmps.getD 135 undef = (.bool true) := rd (hT.at 93 (by kernel_rfl) (pre_of hpre 93 (by kernel_rfl)))
      refine op_go hoi (want_all rfl) fun K hK => ?_
      clear hT hpre hun hlit hoi
      go_simp
      exact hK _ _ ⟨(), fun _ _ => rfl, rfl, tc0, tc1, tc2, tc3, tc4, tc5, pc0, pc1, xc0, xc1, xc2, xc3, xc4, xc5, yc0, yc1, yc2, yc3, yc4, yc5, qc0, qc1, rc0, rc1, HB⟩
  · intro g b w' hT hS
    rw [hT.all ht]
    have hn : (regOps Try.f3 5).size = 95 := by kernel_rfl
    rw [hn]
    exact he w' hS

end Go.Proofs.Ytandgbpbabmdfaa
