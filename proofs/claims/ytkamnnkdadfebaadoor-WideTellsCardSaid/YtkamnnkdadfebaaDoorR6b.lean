import Derived.Test.YtkamnnkdadfebaaDoorRg
import Derived.Test.YtkamnnkdadfebaaDoorB8
import Derived.Test.YtkamnnkdadfebaaDoorR21
import Derived.Test.YtkamnnkdadfebaaDoorB7
import Derived.Test.YtkamnnkdadfebaaDoorB9
namespace Go.Proofs.YtkamnnkdadfebaaDoor
open Go.RowKit
set_option linter.unusedVariables false
attribute [local go_sem high] eq24 eq37


/-- What each operation of the region leaves. -/
def region6_7V (u0 u1 v0 v1 s0 s1 d0 d1 n0 n1 f0 f1 sg cc nn : Int) (LL : List UInt8) (o1 o2 o3 : Bool) : Nat → Value
  | 0 => .agg #[.int .i64 s0, .int .u64 s1]
  | 1 => .bool o1
  | 2 => .agg #[.int .i64 s0, .int .u64 s1]
  | 3 => .bool o1
  | 4 => .bool true
  | 5 => .bool true
  | 6 => .agg #[.int .i64 d0, .int .u64 d1]
  | 7 => .bool o2
  | 8 => .agg #[.int .i64 d0, .int .u64 d1]
  | 9 => .bool o2
  | 10 => .bool true
  | 11 => .bool true
  | 12 => .bool true
  | 13 => .agg #[.int .i64 n0, .int .u64 n1]
  | 14 => .bool o3
  | 15 => .agg #[.int .i64 n0, .int .u64 n1]
  | 16 => .bool o3
  | 17 => .bool true
  | 18 => .bool true
  | 19 => .bool true
  | 20 => .agg #[.int .i64 u0, .int .u64 u1]
  | 21 => .int .i64 sg
  | 22 => .agg #[.int .i64 u0, .int .u64 u1]
  | 23 => .agg #[.int .i64 u0, .int .u64 u1]
  | 24 => .int .i64 sg
  | 25 => .bool true
  | 26 => .bool true
  | 27 => .bool true
  | 28 => .agg #[.int .i64 u0, .int .u64 u1]
  | 29 => .agg #[.int .i64 v0, .int .u64 v1]
  | 30 => .int .i64 cc
  | 31 => .agg #[.int .i64 u0, .int .u64 u1]
  | 32 => .agg #[.int .i64 u0, .int .u64 u1]
  | 33 => .agg #[.int .i64 v0, .int .u64 v1]
  | 34 => .agg #[.int .i64 v0, .int .u64 v1]
  | 35 => .int .i64 cc
  | 36 => .bool true
  | 37 => .bool true
  | 38 => .bool true
  | 39 => .agg #[.int .i64 u0, .int .u64 u1]
  | 40 => .string ⟨LL.toArray⟩
  | 41 => .agg #[.int .i64 u0, .int .u64 u1]
  | 42 => .agg #[.int .i64 u0, .int .u64 u1]
  | 43 => .string ⟨LL.toArray⟩
  | 44 => .bool true
  | 45 => .bool true
  | 46 => .bool true
  | 47 => .int .i64 nn
  | 48 => .agg #[.int .i64 f0, .int .u64 f1]
  | 49 => .agg #[.int .i64 f0, .int .u64 f1]
  | 50 => .int .i64 nn
  | 51 => .agg #[.int .i64 f0, .int .u64 f1]
  | 52 => .bool true
  | 53 => .bool true
  | 54 => .bool true
  | 55 => .bool true
  | 56 => .bool true
  | 57 => .bool true
  | _ => undef

set_option maxHeartbeats 4000000 in
set_option maxRecDepth 100000 in
theorem region6_7 (u0 u1 v0 v1 s0 s1 d0 d1 n0 n1 f0 f1 sg cc nn : Int) (LL : List UInt8) (ku kv ka kb kc kd ke kf : Nat) (o1 o2 o3 : Bool) (W : World) (htab : Tab W) (m1 : ∀ w : World, Calls Tryd.prog 15 #[.agg #[.int .i64 u0, .int .u64 u1]] w fun e w' => e = .returned (.int .i64 sg) ∧ Below w.heap.size w w') (m2 : ∀ w : World, Calls Tryd.prog 22 #[.agg #[.int .i64 u0, .int .u64 u1]] w fun e w' => e = .returned (.int .i64 sg) ∧ Below w.heap.size w w') (m3 : ∀ w : World, Calls Tryd.prog 23 #[.agg #[.int .i64 u0, .int .u64 u1], .agg #[.int .i64 v0, .int .u64 v1]] w fun e w' => e = .returned (.int .i64 cc) ∧ Below w.heap.size w w') (m4 : ∀ w : World, Calls Tryd.prog 24 #[.agg #[.int .i64 u0, .int .u64 u1], .agg #[.int .i64 v0, .int .u64 v1]] w fun e w' => e = .returned (.int .i64 cc) ∧ Below w.heap.size w w') (m5 : ∀ w : World, Tab w → Calls Tryd.prog 11 #[.agg #[.int .i64 u0, .int .u64 u1]] w fun e w' => e = .returned (.string ⟨LL.toArray⟩) ∧ Below w.heap.size w w') (m6 : ∀ w : World, Calls Tryd.prog 25 #[.agg #[.int .i64 u0, .int .u64 u1]] w fun e w' => e = .returned (.string ⟨LL.toArray⟩) ∧ Below w.heap.size w w') (m7 : ∀ w : World, Calls Tryd.prog 26 #[.int .i64 nn] w fun e w' => e = .returned (.agg #[.int .i64 f0, .int .u64 f1]) ∧ Below w.heap.size w w') (m8 : ∀ w : World, Calls Tryd.prog 27 #[.int .i64 nn] w fun e w' => e = .returned (.agg #[.int .i64 f0, .int .u64 f1]) ∧ Below w.heap.size w w') {id : Nat} {ops : Array Oper} {Q : Exit → Act → World → Prop} {a : Act} {w : World}
    (ho : ops = (regOps Tryd.f6 7)) (hsz : a.tmps.size = 115) (t7 : a.tmps[7]? = some (.pointer (some ⟨ka, 0, none⟩))) (t8 : a.tmps[8]? = some (.bool o1)) (t9 : a.tmps[9]? = some (.pointer (some ⟨kb, 0, none⟩))) (t10 : a.tmps[10]? = some (.bool o1)) (t11 : a.tmps[11]? = some (.pointer (some ⟨kc, 0, none⟩))) (t12 : a.tmps[12]? = some (.bool o2)) (t13 : a.tmps[13]? = some (.pointer (some ⟨kd, 0, none⟩))) (t14 : a.tmps[14]? = some (.bool o2)) (t15 : a.tmps[15]? = some (.pointer (some ⟨ke, 0, none⟩))) (t16 : a.tmps[16]? = some (.bool o3)) (t17 : a.tmps[17]? = some (.pointer (some ⟨kf, 0, none⟩))) (t18 : a.tmps[18]? = some (.bool o3)) (t3 : a.tmps[3]? = some (.pointer (some ⟨ku, 0, none⟩))) (t4 : a.tmps[4]? = some (.pointer (some ⟨kv, 0, none⟩))) (t2 : a.tmps[2]? = some (.int .i64 nn))
    (h0 : w.drew.cell? ⟨ku, 0, none⟩ = some (.int .i64 u0) ∧ w.drew.cell? ⟨ku, 1, none⟩ = some (.int .u64 u1) ∧ w.drew.cell? ⟨kv, 0, none⟩ = some (.int .i64 v0) ∧ w.drew.cell? ⟨kv, 1, none⟩ = some (.int .u64 v1) ∧ w.drew.cell? ⟨ka, 0, none⟩ = some (.int .i64 s0) ∧ w.drew.cell? ⟨ka, 1, none⟩ = some (.int .u64 s1) ∧ w.drew.cell? ⟨kb, 0, none⟩ = some (.int .i64 s0) ∧ w.drew.cell? ⟨kb, 1, none⟩ = some (.int .u64 s1) ∧ w.drew.cell? ⟨kc, 0, none⟩ = some (.int .i64 d0) ∧ w.drew.cell? ⟨kc, 1, none⟩ = some (.int .u64 d1) ∧ w.drew.cell? ⟨kd, 0, none⟩ = some (.int .i64 d0) ∧ w.drew.cell? ⟨kd, 1, none⟩ = some (.int .u64 d1) ∧ w.drew.cell? ⟨ke, 0, none⟩ = some (.int .i64 n0) ∧ w.drew.cell? ⟨ke, 1, none⟩ = some (.int .u64 n1) ∧ w.drew.cell? ⟨kf, 0, none⟩ = some (.int .i64 n0) ∧ w.drew.cell? ⟨kf, 1, none⟩ = some (.int .u64 n1) ∧ Below W.heap.size W w.drew)
    (he : ∀ w', w'.cell? ⟨ku, 0, none⟩ = some (.int .i64 u0) ∧ w'.cell? ⟨ku, 1, none⟩ = some (.int .u64 u1) ∧ w'.cell? ⟨kv, 0, none⟩ = some (.int .i64 v0) ∧ w'.cell? ⟨kv, 1, none⟩ = some (.int .u64 v1) ∧ w'.cell? ⟨ka, 0, none⟩ = some (.int .i64 s0) ∧ w'.cell? ⟨ka, 1, none⟩ = some (.int .u64 s1) ∧ w'.cell? ⟨kb, 0, none⟩ = some (.int .i64 s0) ∧ w'.cell? ⟨kb, 1, none⟩ = some (.int .u64 s1) ∧ w'.cell? ⟨kc, 0, none⟩ = some (.int .i64 d0) ∧ w'.cell? ⟨kc, 1, none⟩ = some (.int .u64 d1) ∧ w'.cell? ⟨kd, 0, none⟩ = some (.int .i64 d0) ∧ w'.cell? ⟨kd, 1, none⟩ = some (.int .u64 d1) ∧ w'.cell? ⟨ke, 0, none⟩ = some (.int .i64 n0) ∧ w'.cell? ⟨ke, 1, none⟩ = some (.int .u64 n1) ∧ w'.cell? ⟨kf, 0, none⟩ = some (.int .i64 n0) ∧ w'.cell? ⟨kf, 1, none⟩ = some (.int .u64 n1) ∧ Below W.heap.size W w' → Q .normal ⟨((((((((((((((((((((((((((((((((((((((((((((((((((((((((((a.tmps.setIfInBounds 58 (.agg #[.int .i64 s0, .int .u64 s1])).setIfInBounds 59 (.bool o1)).setIfInBounds 60 (.agg #[.int .i64 s0, .int .u64 s1])).setIfInBounds 61 (.bool o1)).setIfInBounds 62 (.bool true)).setIfInBounds 63 (.bool true)).setIfInBounds 64 (.agg #[.int .i64 d0, .int .u64 d1])).setIfInBounds 65 (.bool o2)).setIfInBounds 66 (.agg #[.int .i64 d0, .int .u64 d1])).setIfInBounds 67 (.bool o2)).setIfInBounds 68 (.bool true)).setIfInBounds 69 (.bool true)).setIfInBounds 70 (.bool true)).setIfInBounds 71 (.agg #[.int .i64 n0, .int .u64 n1])).setIfInBounds 72 (.bool o3)).setIfInBounds 73 (.agg #[.int .i64 n0, .int .u64 n1])).setIfInBounds 74 (.bool o3)).setIfInBounds 75 (.bool true)).setIfInBounds 76 (.bool true)).setIfInBounds 77 (.bool true)).setIfInBounds 78 (.agg #[.int .i64 u0, .int .u64 u1])).setIfInBounds 79 (.int .i64 sg)).setIfInBounds 80 (.agg #[.int .i64 u0, .int .u64 u1])).setIfInBounds 81 (.agg #[.int .i64 u0, .int .u64 u1])).setIfInBounds 82 (.int .i64 sg)).setIfInBounds 83 (.bool true)).setIfInBounds 84 (.bool true)).setIfInBounds 85 (.bool true)).setIfInBounds 86 (.agg #[.int .i64 u0, .int .u64 u1])).setIfInBounds 87 (.agg #[.int .i64 v0, .int .u64 v1])).setIfInBounds 88 (.int .i64 cc)).setIfInBounds 89 (.agg #[.int .i64 u0, .int .u64 u1])).setIfInBounds 90 (.agg #[.int .i64 u0, .int .u64 u1])).setIfInBounds 91 (.agg #[.int .i64 v0, .int .u64 v1])).setIfInBounds 92 (.agg #[.int .i64 v0, .int .u64 v1])).setIfInBounds 93 (.int .i64 cc)).setIfInBounds 94 (.bool true)).setIfInBounds 95 (.bool true)).setIfInBounds 96 (.bool true)).setIfInBounds 97 (.agg #[.int .i64 u0, .int .u64 u1])).setIfInBounds 98 (.string ⟨LL.toArray⟩)).setIfInBounds 99 (.agg #[.int .i64 u0, .int .u64 u1])).setIfInBounds 100 (.agg #[.int .i64 u0, .int .u64 u1])).setIfInBounds 101 (.string ⟨LL.toArray⟩)).setIfInBounds 102 (.bool true)).setIfInBounds 103 (.bool true)).setIfInBounds 104 (.bool true)).setIfInBounds 105 (.int .i64 nn)).setIfInBounds 106 (.agg #[.int .i64 f0, .int .u64 f1])).setIfInBounds 107 (.agg #[.int .i64 f0, .int .u64 f1])).setIfInBounds 108 (.int .i64 nn)).setIfInBounds 109 (.agg #[.int .i64 f0, .int .u64 f1])).setIfInBounds 110 (.bool true)).setIfInBounds 111 (.bool true)).setIfInBounds 112 (.bool true)).setIfInBounds 113 (.bool true)).setIfInBounds 114 (.bool true)).setIfInBounds 6 (.bool true)), a.defers⟩ w') :
    (Code.region id ops true).wp Tryd.prog Q a w := by
  have ht : tidy (regOps Tryd.f6 7) a.tmps.size = true := by rw [hsz]; kernel_rfl
  refine region_tab (G := Unit) (fun _ => (region6_7V u0 u1 v0 v1 s0 s1 d0 d1 n0 n1 f0 f1 sg cc nn LL  o1 o2 o3)) (fun _ _ w' => w'.cell? ⟨ku, 0, none⟩ = some (.int .i64 u0) ∧ w'.cell? ⟨ku, 1, none⟩ = some (.int .u64 u1) ∧ w'.cell? ⟨kv, 0, none⟩ = some (.int .i64 v0) ∧ w'.cell? ⟨kv, 1, none⟩ = some (.int .u64 v1) ∧ w'.cell? ⟨ka, 0, none⟩ = some (.int .i64 s0) ∧ w'.cell? ⟨ka, 1, none⟩ = some (.int .u64 s1) ∧ w'.cell? ⟨kb, 0, none⟩ = some (.int .i64 s0) ∧ w'.cell? ⟨kb, 1, none⟩ = some (.int .u64 s1) ∧ w'.cell? ⟨kc, 0, none⟩ = some (.int .i64 d0) ∧ w'.cell? ⟨kc, 1, none⟩ = some (.int .u64 d1) ∧ w'.cell? ⟨kd, 0, none⟩ = some (.int .i64 d0) ∧ w'.cell? ⟨kd, 1, none⟩ = some (.int .u64 d1) ∧ w'.cell? ⟨ke, 0, none⟩ = some (.int .i64 n0) ∧ w'.cell? ⟨ke, 1, none⟩ = some (.int .u64 n1) ∧ w'.cell? ⟨kf, 0, none⟩ = some (.int .i64 n0) ∧ w'.cell? ⟨kf, 1, none⟩ = some (.int .u64 n1) ∧ Below W.heap.size W w') () (by kernel_rfl) ho ht h0 ?_ ?_
  · intro i o hoi g L b w' hun hpre hT hS
    clear he h0 ho hsz ht
    have hi : i < (regOps Tryd.f6 7).size := (Array.getElem?_eq_some_iff.1 hoi).1
    rw [show (regOps Tryd.f6 7).size = 58 by kernel_rfl] at hi
    obtain ⟨uc0, uc1, vc0, vc1, sac0, sac1, sbc0, sbc1, dac0, dac1, dbc0, dbc1, nac0, nac1, nbc0, nbc1, HB⟩ := hS
    have hcases : i = 0 ∨ i = 1 ∨ i = 2 ∨ i = 3 ∨ i = 4 ∨ i = 5 ∨ i = 6 ∨ i = 7 ∨ i = 8 ∨ i = 9 ∨ i = 10 ∨ i = 11 ∨ i = 12 ∨ i = 13 ∨ i = 14 ∨ i = 15 ∨ i = 16 ∨ i = 17 ∨ i = 18 ∨ i = 19 ∨ i = 20 ∨ i = 21 ∨ i = 22 ∨ i = 23 ∨ i = 24 ∨ i = 25 ∨ i = 26 ∨ i = 27 ∨ i = 28 ∨ i = 29 ∨ i = 30 ∨ i = 31 ∨ i = 32 ∨ i = 33 ∨ i = 34 ∨ i = 35 ∨ i = 36 ∨ i = 37 ∨ i = 38 ∨ i = 39 ∨ i = 40 ∨ i = 41 ∨ i = 42 ∨ i = 43 ∨ i = 44 ∨ i = 45 ∨ i = 46 ∨ i = 47 ∨ i = 48 ∨ i = 49 ∨ i = 50 ∨ i = 51 ∨ i = 52 ∨ i = 53 ∨ i = 54 ∨ i = 55 ∨ i = 56 ∨ i = 57 := by omega
    rcases hcases with rfl | rfl | rfl | rfl | rfl | rfl | rfl | rfl | rfl | rfl | rfl | rfl | rfl | rfl | rfl | rfl | rfl | rfl | rfl | rfl | rfl | rfl | rfl | rfl | rfl | rfl | rfl | rfl | rfl | rfl | rfl | rfl | rfl | rfl | rfl | rfl | rfl | rfl | rfl | rfl | rfl | rfl | rfl | rfl | rfl | rfl | rfl | rfl | rfl | rfl | rfl | rfl | rfl | rfl | rfl | rfl | rfl | rfl
    · have hlit : (regOps Tryd.f6 7)[0]? = some ({ dst := some 58, op := Op.load 24 (Operand.tmp 7), type := 24, pos := "law.go:35", after := #[], guard := none }) := by kernel_rfl
      obtain rfl := Option.some.inj (hlit.symm.trans hoi)
      have r7 : b.tmps.getD 7 undef = (.pointer (some ⟨ka, 0, none⟩)) := rd ((hT.old 7 (by kernel_rfl)).trans t7)
      refine op_go hoi (want_all rfl) fun K hK => ?_
      clear hT hpre hun hlit hoi
      go_simp
      exact hK _ _ ⟨(), fun _ _ => rfl, rfl, uc0, uc1, vc0, vc1, sac0, sac1, sbc0, sbc1, dac0, dac1, dbc0, dbc1, nac0, nac1, nbc0, nbc1, HB⟩
    · have hlit : (regOps Tryd.f6 7)[1]? = some ({ dst := some 59, op := Op.move (Operand.tmp 8), type := 4, pos := "law.go:35", after := #[], guard := none }) := by kernel_rfl
      obtain rfl := Option.some.inj (hlit.symm.trans hoi)
      have r8 : b.tmps.getD 8 undef = (.bool o1) := rd ((hT.old 8 (by kernel_rfl)).trans t8)
      refine op_go hoi (want_all rfl) fun K hK => ?_
      clear hT hpre hun hlit hoi
      go_simp
      exact hK _ _ ⟨(), fun _ _ => rfl, rfl, uc0, uc1, vc0, vc1, sac0, sac1, sbc0, sbc1, dac0, dac1, dbc0, dbc1, nac0, nac1, nbc0, nbc1, HB⟩
    · have hlit : (regOps Tryd.f6 7)[2]? = some ({ dst := some 60, op := Op.load 37 (Operand.tmp 9), type := 37, pos := "law.go:35", after := #[], guard := none }) := by kernel_rfl
      obtain rfl := Option.some.inj (hlit.symm.trans hoi)
      have r9 : b.tmps.getD 9 undef = (.pointer (some ⟨kb, 0, none⟩)) := rd ((hT.old 9 (by kernel_rfl)).trans t9)
      refine op_go hoi (want_all rfl) fun K hK => ?_
      clear hT hpre hun hlit hoi
      go_simp
      exact hK _ _ ⟨(), fun _ _ => rfl, rfl, uc0, uc1, vc0, vc1, sac0, sac1, sbc0, sbc1, dac0, dac1, dbc0, dbc1, nac0, nac1, nbc0, nbc1, HB⟩
    · have hlit : (regOps Tryd.f6 7)[3]? = some ({ dst := some 61, op := Op.move (Operand.tmp 10), type := 4, pos := "law.go:35", after := #[], guard := none }) := by kernel_rfl
      obtain rfl := Option.some.inj (hlit.symm.trans hoi)
      have r10 : b.tmps.getD 10 undef = (.bool o1) := rd ((hT.old 10 (by kernel_rfl)).trans t10)
      refine op_go hoi (want_all rfl) fun K hK => ?_
      clear hT hpre hun hlit hoi
      go_simp
      exact hK _ _ ⟨(), fun _ _ => rfl, rfl, uc0, uc1, vc0, vc1, sac0, sac1, sbc0, sbc1, dac0, dac1, dbc0, dbc1, nac0, nac1, nbc0, nbc1, HB⟩
    · have hlit : (regOps Tryd.f6 7)[4]? = some ({ dst := some 62, op := Op.call { callee := Callee.value (Operand.func 21), args := #[Operand.tmp 58, Operand.tmp 59, Operand.tmp 60, Operand.tmp 61], argTypes := #[24, 4, 37, 4] }, type := 4, pos := "law.go:35", after := #[{ on := 0, ground := Ground.data }, { on := 1, ground := Ground.data }, { on := 2, ground := Ground.data }, { on := 3, ground := Ground.data }], guard := none }) := by kernel_rfl
      obtain rfl := Option.some.inj (hlit.symm.trans hoi)
      have r58 : b.tmps.getD 58 undef = (.agg #[.int .i64 s0, .int .u64 s1]) := rd (hT.at 0 (by kernel_rfl) (pre_of hpre 0 (by kernel_rfl)))
      have r59 : b.tmps.getD 59 undef = (.bool o1) := rd (hT.at 1 (by kernel_rfl) (pre_of hpre 1 (by kernel_rfl)))
      have r60 : b.tmps.getD 60 undef = (.agg #[.int .i64 s0, .int .u64 s1]) := rd (hT.at 2 (by kernel_rfl) (pre_of hpre 2 (by kernel_rfl)))
      have r61 : b.tmps.getD 61 undef = (.bool o1) := rd (hT.at 3 (by kernel_rfl) (pre_of hpre 3 (by kernel_rfl)))
      refine op_go hoi (want_all rfl) fun K hK => ?_
      clear hT hpre hun hlit hoi
      go_simp
      go_at_call 21
      refine (same21 _ _ _ _).mono ?_; rintro e w2 ⟨rfl, hb⟩; replace uc0 := ck hb (a := ⟨ku, 0, none⟩) (v := .int .i64 u0) (by go_simp); replace uc1 := ck hb (a := ⟨ku, 1, none⟩) (v := .int .u64 u1) (by go_simp); replace vc0 := ck hb (a := ⟨kv, 0, none⟩) (v := .int .i64 v0) (by go_simp); replace vc1 := ck hb (a := ⟨kv, 1, none⟩) (v := .int .u64 v1) (by go_simp); replace sac0 := ck hb (a := ⟨ka, 0, none⟩) (v := .int .i64 s0) (by go_simp); replace sac1 := ck hb (a := ⟨ka, 1, none⟩) (v := .int .u64 s1) (by go_simp); replace sbc0 := ck hb (a := ⟨kb, 0, none⟩) (v := .int .i64 s0) (by go_simp); replace sbc1 := ck hb (a := ⟨kb, 1, none⟩) (v := .int .u64 s1) (by go_simp); replace dac0 := ck hb (a := ⟨kc, 0, none⟩) (v := .int .i64 d0) (by go_simp); replace dac1 := ck hb (a := ⟨kc, 1, none⟩) (v := .int .u64 d1) (by go_simp); replace dbc0 := ck hb (a := ⟨kd, 0, none⟩) (v := .int .i64 d0) (by go_simp); replace dbc1 := ck hb (a := ⟨kd, 1, none⟩) (v := .int .u64 d1) (by go_simp); replace nac0 := ck hb (a := ⟨ke, 0, none⟩) (v := .int .i64 n0) (by go_simp); replace nac1 := ck hb (a := ⟨ke, 1, none⟩) (v := .int .u64 n1) (by go_simp); replace nbc0 := ck hb (a := ⟨kf, 0, none⟩) (v := .int .i64 n0) (by go_simp); replace nbc1 := ck hb (a := ⟨kf, 1, none⟩) (v := .int .u64 n1) (by go_simp); replace HB : Below W.heap.size W w2 := bt HB hb; clear hb
      exact hK _ _ ⟨(), fun _ _ => rfl, rfl, uc0, uc1, vc0, vc1, sac0, sac1, sbc0, sbc1, dac0, dac1, dbc0, dbc1, nac0, nac1, nbc0, nbc1, HB⟩
    · have hlit : (regOps Tryd.f6 7)[5]? = some ({ dst := some 63, op := Op.move (Operand.tmp 62), type := 4, pos := "law.go:35", after := #[{ on := 4, ground := Ground.data }, { on := 4, ground := Ground.chain }], guard := none }) := by kernel_rfl
      obtain rfl := Option.some.inj (hlit.symm.trans hoi)
      have r62 : b.tmps.getD 62 undef = (.bool true) := rd (hT.at 4 (by kernel_rfl) (pre_of hpre 4 (by kernel_rfl)))
      refine op_go hoi (want_all rfl) fun K hK => ?_
      clear hT hpre hun hlit hoi
      go_simp
      exact hK _ _ ⟨(), fun _ _ => rfl, rfl, uc0, uc1, vc0, vc1, sac0, sac1, sbc0, sbc1, dac0, dac1, dbc0, dbc1, nac0, nac1, nbc0, nbc1, HB⟩
    · have hlit : (regOps Tryd.f6 7)[6]? = some ({ dst := some 64, op := Op.load 24 (Operand.tmp 11), type := 24, pos := "law.go:35", after := #[{ on := 5, ground := Ground.guard }], guard := some (5, true) }) := by kernel_rfl
      obtain rfl := Option.some.inj (hlit.symm.trans hoi)
      have r11 : b.tmps.getD 11 undef = (.pointer (some ⟨kc, 0, none⟩)) := rd ((hT.old 11 (by kernel_rfl)).trans t11)
      refine op_go hoi (want_yes rfl (d := 63) (by kernel_rfl) (hT.at 5 (by kernel_rfl) (pre_of hpre 5 (by kernel_rfl)))) fun K hK => ?_
      clear hT hpre hun hlit hoi
      go_simp
      exact hK _ _ ⟨(), fun _ _ => rfl, rfl, uc0, uc1, vc0, vc1, sac0, sac1, sbc0, sbc1, dac0, dac1, dbc0, dbc1, nac0, nac1, nbc0, nbc1, HB⟩
    · have hlit : (regOps Tryd.f6 7)[7]? = some ({ dst := some 65, op := Op.move (Operand.tmp 12), type := 4, pos := "law.go:35", after := #[{ on := 5, ground := Ground.guard }], guard := some (5, true) }) := by kernel_rfl
      obtain rfl := Option.some.inj (hlit.symm.trans hoi)
      have r12 : b.tmps.getD 12 undef = (.bool o2) := rd ((hT.old 12 (by kernel_rfl)).trans t12)
      refine op_go hoi (want_yes rfl (d := 63) (by kernel_rfl) (hT.at 5 (by kernel_rfl) (pre_of hpre 5 (by kernel_rfl)))) fun K hK => ?_
      clear hT hpre hun hlit hoi
      go_simp
      exact hK _ _ ⟨(), fun _ _ => rfl, rfl, uc0, uc1, vc0, vc1, sac0, sac1, sbc0, sbc1, dac0, dac1, dbc0, dbc1, nac0, nac1, nbc0, nbc1, HB⟩
    · have hlit : (regOps Tryd.f6 7)[8]? = some ({ dst := some 66, op := Op.load 37 (Operand.tmp 13), type := 37, pos := "law.go:35", after := #[{ on := 5, ground := Ground.guard }], guard := some (5, true) }) := by kernel_rfl
      obtain rfl := Option.some.inj (hlit.symm.trans hoi)
      have r13 : b.tmps.getD 13 undef = (.pointer (some ⟨kd, 0, none⟩)) := rd ((hT.old 13 (by kernel_rfl)).trans t13)
      refine op_go hoi (want_yes rfl (d := 63) (by kernel_rfl) (hT.at 5 (by kernel_rfl) (pre_of hpre 5 (by kernel_rfl)))) fun K hK => ?_
      clear hT hpre hun hlit hoi
      go_simp
      exact hK _ _ ⟨(), fun _ _ => rfl, rfl, uc0, uc1, vc0, vc1, sac0, sac1, sbc0, sbc1, dac0, dac1, dbc0, dbc1, nac0, nac1, nbc0, nbc1, HB⟩
    · have hlit : (regOps Tryd.f6 7)[9]? = some ({ dst := some 67, op := Op.move (Operand.tmp 14), type := 4, pos := "law.go:35", after := #[{ on := 5, ground := Ground.guard }], guard := some (5, true) }) := by kernel_rfl
      obtain rfl := Option.some.inj (hlit.symm.trans hoi)
      have r14 : b.tmps.getD 14 undef = (.bool o2) := rd ((hT.old 14 (by kernel_rfl)).trans t14)
      refine op_go hoi (want_yes rfl (d := 63) (by kernel_rfl) (hT.at 5 (by kernel_rfl) (pre_of hpre 5 (by kernel_rfl)))) fun K hK => ?_
      clear hT hpre hun hlit hoi
      go_simp
      exact hK _ _ ⟨(), fun _ _ => rfl, rfl, uc0, uc1, vc0, vc1, sac0, sac1, sbc0, sbc1, dac0, dac1, dbc0, dbc1, nac0, nac1, nbc0, nbc1, HB⟩
    · have hlit : (regOps Tryd.f6 7)[10]? = some ({ dst := some 68, op := Op.call { callee := Callee.value (Operand.func 21), args := #[Operand.tmp 64, Operand.tmp 65, Operand.tmp 66, Operand.tmp 67], argTypes := #[24, 4, 37, 4] }, type := 4, pos := "law.go:35", after := #[{ on := 6, ground := Ground.data }, { on := 7, ground := Ground.data }, { on := 8, ground := Ground.data }, { on := 9, ground := Ground.data }, { on := 5, ground := Ground.chain }, { on := 5, ground := Ground.guard }], guard := some (5, true) }) := by kernel_rfl
      obtain rfl := Option.some.inj (hlit.symm.trans hoi)
      have r64 : b.tmps.getD 64 undef = (.agg #[.int .i64 d0, .int .u64 d1]) := rd (hT.at 6 (by kernel_rfl) (pre_of hpre 6 (by kernel_rfl)))
      have r65 : b.tmps.getD 65 undef = (.bool o2) := rd (hT.at 7 (by kernel_rfl) (pre_of hpre 7 (by kernel_rfl)))
      have r66 : b.tmps.getD 66 undef = (.agg #[.int .i64 d0, .int .u64 d1]) := rd (hT.at 8 (by kernel_rfl) (pre_of hpre 8 (by kernel_rfl)))
      have r67 : b.tmps.getD 67 undef = (.bool o2) := rd (hT.at 9 (by kernel_rfl) (pre_of hpre 9 (by kernel_rfl)))
      refine op_go hoi (want_yes rfl (d := 63) (by kernel_rfl) (hT.at 5 (by kernel_rfl) (pre_of hpre 5 (by kernel_rfl)))) fun K hK => ?_
      clear hT hpre hun hlit hoi
      go_simp
      go_at_call 21
      refine (same21 _ _ _ _).mono ?_; rintro e w2 ⟨rfl, hb⟩; replace uc0 := ck hb (a := ⟨ku, 0, none⟩) (v := .int .i64 u0) (by go_simp); replace uc1 := ck hb (a := ⟨ku, 1, none⟩) (v := .int .u64 u1) (by go_simp); replace vc0 := ck hb (a := ⟨kv, 0, none⟩) (v := .int .i64 v0) (by go_simp); replace vc1 := ck hb (a := ⟨kv, 1, none⟩) (v := .int .u64 v1) (by go_simp); replace sac0 := ck hb (a := ⟨ka, 0, none⟩) (v := .int .i64 s0) (by go_simp); replace sac1 := ck hb (a := ⟨ka, 1, none⟩) (v := .int .u64 s1) (by go_simp); replace sbc0 := ck hb (a := ⟨kb, 0, none⟩) (v := .int .i64 s0) (by go_simp); replace sbc1 := ck hb (a := ⟨kb, 1, none⟩) (v := .int .u64 s1) (by go_simp); replace dac0 := ck hb (a := ⟨kc, 0, none⟩) (v := .int .i64 d0) (by go_simp); replace dac1 := ck hb (a := ⟨kc, 1, none⟩) (v := .int .u64 d1) (by go_simp); replace dbc0 := ck hb (a := ⟨kd, 0, none⟩) (v := .int .i64 d0) (by go_simp); replace dbc1 := ck hb (a := ⟨kd, 1, none⟩) (v := .int .u64 d1) (by go_simp); replace nac0 := ck hb (a := ⟨ke, 0, none⟩) (v := .int .i64 n0) (by go_simp); replace nac1 := ck hb (a := ⟨ke, 1, none⟩) (v := .int .u64 n1) (by go_simp); replace nbc0 := ck hb (a := ⟨kf, 0, none⟩) (v := .int .i64 n0) (by go_simp); replace nbc1 := ck hb (a := ⟨kf, 1, none⟩) (v := .int .u64 n1) (by go_simp); replace HB : Below W.heap.size W w2 := bt HB hb; clear hb
      exact hK _ _ ⟨(), fun _ _ => rfl, rfl, uc0, uc1, vc0, vc1, sac0, sac1, sbc0, sbc1, dac0, dac1, dbc0, dbc1, nac0, nac1, nbc0, nbc1, HB⟩
    · have hlit : (regOps Tryd.f6 7)[11]? = some ({ dst := some 69, op := Op.pick (Operand.tmp 63) (Operand.tmp 68) (Operand.const (Value.bool false)), type := 4, pos := "law.go:35", after := #[{ on := 5, ground := Ground.data }, { on := 10, ground := Ground.data }], guard := none }) := by kernel_rfl
      obtain rfl := Option.some.inj (hlit.symm.trans hoi)
      have r63 : b.tmps.getD 63 undef = (.bool true) := rd (hT.at 5 (by kernel_rfl) (pre_of hpre 5 (by kernel_rfl)))
      have r68 : b.tmps.getD 68 undef = (.bool true) := rd (hT.at 10 (by kernel_rfl) (pre_of hpre 10 (by kernel_rfl)))
      refine op_go hoi (want_all rfl) fun K hK => ?_
      clear hT hpre hun hlit hoi
      go_simp
      exact hK _ _ ⟨(), fun _ _ => rfl, rfl, uc0, uc1, vc0, vc1, sac0, sac1, sbc0, sbc1, dac0, dac1, dbc0, dbc1, nac0, nac1, nbc0, nbc1, HB⟩
    · have hlit : (regOps Tryd.f6 7)[12]? = some ({ dst := some 70, op := Op.move (Operand.tmp 69), type := 4, pos := "law.go:35", after := #[{ on := 11, ground := Ground.data }, { on := 10, ground := Ground.chain }], guard := none }) := by kernel_rfl
      obtain rfl := Option.some.inj (hlit.symm.trans hoi)
      have r69 : b.tmps.getD 69 undef = (.bool true) := rd (hT.at 11 (by kernel_rfl) (pre_of hpre 11 (by kernel_rfl)))
      refine op_go hoi (want_all rfl) fun K hK => ?_
      clear hT hpre hun hlit hoi
      go_simp
      exact hK _ _ ⟨(), fun _ _ => rfl, rfl, uc0, uc1, vc0, vc1, sac0, sac1, sbc0, sbc1, dac0, dac1, dbc0, dbc1, nac0, nac1, nbc0, nbc1, HB⟩
    · have hlit : (regOps Tryd.f6 7)[13]? = some ({ dst := some 71, op := Op.load 24 (Operand.tmp 15), type := 24, pos := "law.go:35", after := #[{ on := 12, ground := Ground.guard }], guard := some (12, true) }) := by kernel_rfl
      obtain rfl := Option.some.inj (hlit.symm.trans hoi)
      have r15 : b.tmps.getD 15 undef = (.pointer (some ⟨ke, 0, none⟩)) := rd ((hT.old 15 (by kernel_rfl)).trans t15)
      refine op_go hoi (want_yes rfl (d := 70) (by kernel_rfl) (hT.at 12 (by kernel_rfl) (pre_of hpre 12 (by kernel_rfl)))) fun K hK => ?_
      clear hT hpre hun hlit hoi
      go_simp
      exact hK _ _ ⟨(), fun _ _ => rfl, rfl, uc0, uc1, vc0, vc1, sac0, sac1, sbc0, sbc1, dac0, dac1, dbc0, dbc1, nac0, nac1, nbc0, nbc1, HB⟩
    · have hlit : (regOps Tryd.f6 7)[14]? = some ({ dst := some 72, op := Op.move (Operand.tmp 16), type := 4, pos := "law.go:35", after := #[{ on := 12, ground := Ground.guard }], guard := some (12, true) }) := by kernel_rfl
      obtain rfl := Option.some.inj (hlit.symm.trans hoi)
      have r16 : b.tmps.getD 16 undef = (.bool o3) := rd ((hT.old 16 (by kernel_rfl)).trans t16)
      refine op_go hoi (want_yes rfl (d := 70) (by kernel_rfl) (hT.at 12 (by kernel_rfl) (pre_of hpre 12 (by kernel_rfl)))) fun K hK => ?_
      clear hT hpre hun hlit hoi
      go_simp
      exact hK _ _ ⟨(), fun _ _ => rfl, rfl, uc0, uc1, vc0, vc1, sac0, sac1, sbc0, sbc1, dac0, dac1, dbc0, dbc1, nac0, nac1, nbc0, nbc1, HB⟩
    · have hlit : (regOps Tryd.f6 7)[15]? = some ({ dst := some 73, op := Op.load 37 (Operand.tmp 17), type := 37, pos := "law.go:35", after := #[{ on := 12, ground := Ground.guard }], guard := some (12, true) }) := by kernel_rfl
      obtain rfl := Option.some.inj (hlit.symm.trans hoi)
      have r17 : b.tmps.getD 17 undef = (.pointer (some ⟨kf, 0, none⟩)) := rd ((hT.old 17 (by kernel_rfl)).trans t17)
      refine op_go hoi (want_yes rfl (d := 70) (by kernel_rfl) (hT.at 12 (by kernel_rfl) (pre_of hpre 12 (by kernel_rfl)))) fun K hK => ?_
      clear hT hpre hun hlit hoi
      go_simp
      exact hK _ _ ⟨(), fun _ _ => rfl, rfl, uc0, uc1, vc0, vc1, sac0, sac1, sbc0, sbc1, dac0, dac1, dbc0, dbc1, nac0, nac1, nbc0, nbc1, HB⟩
    · have hlit : (regOps Tryd.f6 7)[16]? = some ({ dst := some 74, op := Op.move (Operand.tmp 18), type := 4, pos := "law.go:35", after := #[{ on := 12, ground := Ground.guard }], guard := some (12, true) }) := by kernel_rfl
      obtain rfl := Option.some.inj (hlit.symm.trans hoi)
      have r18 : b.tmps.getD 18 undef = (.bool o3) := rd ((hT.old 18 (by kernel_rfl)).trans t18)
      refine op_go hoi (want_yes rfl (d := 70) (by kernel_rfl) (hT.at 12 (by kernel_rfl) (pre_of hpre 12 (by kernel_rfl)))) fun K hK => ?_
      clear hT hpre hun hlit hoi
      go_simp
      exact hK _ _ ⟨(), fun _ _ => rfl, rfl, uc0, uc1, vc0, vc1, sac0, sac1, sbc0, sbc1, dac0, dac1, dbc0, dbc1, nac0, nac1, nbc0, nbc1, HB⟩
    · have hlit : (regOps Tryd.f6 7)[17]? = some ({ dst := some 75, op := Op.call { callee := Callee.value (Operand.func 21), args := #[Operand.tmp 71, Operand.tmp 72, Operand.tmp 73, Operand.tmp 74], argTypes := #[24, 4, 37, 4] }, type := 4, pos := "law.go:35", after := #[{ on := 13, ground := Ground.data }, { on := 14, ground := Ground.data }, { on := 15, ground := Ground.data }, { on := 16, ground := Ground.data }, { on := 12, ground := Ground.chain }, { on := 12, ground := Ground.guard }], guard := some (12, true) }) := by kernel_rfl
      obtain rfl := Option.some.inj (hlit.symm.trans hoi)
      have r71 : b.tmps.getD 71 undef = (.agg #[.int .i64 n0, .int .u64 n1]) := rd (hT.at 13 (by kernel_rfl) (pre_of hpre 13 (by kernel_rfl)))
      have r72 : b.tmps.getD 72 undef = (.bool o3) := rd (hT.at 14 (by kernel_rfl) (pre_of hpre 14 (by kernel_rfl)))
      have r73 : b.tmps.getD 73 undef = (.agg #[.int .i64 n0, .int .u64 n1]) := rd (hT.at 15 (by kernel_rfl) (pre_of hpre 15 (by kernel_rfl)))
      have r74 : b.tmps.getD 74 undef = (.bool o3) := rd (hT.at 16 (by kernel_rfl) (pre_of hpre 16 (by kernel_rfl)))
      refine op_go hoi (want_yes rfl (d := 70) (by kernel_rfl) (hT.at 12 (by kernel_rfl) (pre_of hpre 12 (by kernel_rfl)))) fun K hK => ?_
      clear hT hpre hun hlit hoi
      go_simp
      go_at_call 21
      refine (same21 _ _ _ _).mono ?_; rintro e w2 ⟨rfl, hb⟩; replace uc0 := ck hb (a := ⟨ku, 0, none⟩) (v := .int .i64 u0) (by go_simp); replace uc1 := ck hb (a := ⟨ku, 1, none⟩) (v := .int .u64 u1) (by go_simp); replace vc0 := ck hb (a := ⟨kv, 0, none⟩) (v := .int .i64 v0) (by go_simp); replace vc1 := ck hb (a := ⟨kv, 1, none⟩) (v := .int .u64 v1) (by go_simp); replace sac0 := ck hb (a := ⟨ka, 0, none⟩) (v := .int .i64 s0) (by go_simp); replace sac1 := ck hb (a := ⟨ka, 1, none⟩) (v := .int .u64 s1) (by go_simp); replace sbc0 := ck hb (a := ⟨kb, 0, none⟩) (v := .int .i64 s0) (by go_simp); replace sbc1 := ck hb (a := ⟨kb, 1, none⟩) (v := .int .u64 s1) (by go_simp); replace dac0 := ck hb (a := ⟨kc, 0, none⟩) (v := .int .i64 d0) (by go_simp); replace dac1 := ck hb (a := ⟨kc, 1, none⟩) (v := .int .u64 d1) (by go_simp); replace dbc0 := ck hb (a := ⟨kd, 0, none⟩) (v := .int .i64 d0) (by go_simp); replace dbc1 := ck hb (a := ⟨kd, 1, none⟩) (v := .int .u64 d1) (by go_simp); replace nac0 := ck hb (a := ⟨ke, 0, none⟩) (v := .int .i64 n0) (by go_simp); replace nac1 := ck hb (a := ⟨ke, 1, none⟩) (v := .int .u64 n1) (by go_simp); replace nbc0 := ck hb (a := ⟨kf, 0, none⟩) (v := .int .i64 n0) (by go_simp); replace nbc1 := ck hb (a := ⟨kf, 1, none⟩) (v := .int .u64 n1) (by go_simp); replace HB : Below W.heap.size W w2 := bt HB hb; clear hb
      exact hK _ _ ⟨(), fun _ _ => rfl, rfl, uc0, uc1, vc0, vc1, sac0, sac1, sbc0, sbc1, dac0, dac1, dbc0, dbc1, nac0, nac1, nbc0, nbc1, HB⟩
    · have hlit : (regOps Tryd.f6 7)[18]? = some ({ dst := some 76, op := Op.pick (Operand.tmp 70) (Operand.tmp 75) (Operand.const (Value.bool false)), type := 4, pos := "law.go:35", after := #[{ on := 12, ground := Ground.data }, { on := 17, ground := Ground.data }], guard := none }) := by kernel_rfl
      obtain rfl := Option.some.inj (hlit.symm.trans hoi)
      have r70 : b.tmps.getD 70 undef = (.bool true) := rd (hT.at 12 (by kernel_rfl) (pre_of hpre 12 (by kernel_rfl)))
      have r75 : b.tmps.getD 75 undef = (.bool true) := rd (hT.at 17 (by kernel_rfl) (pre_of hpre 17 (by kernel_rfl)))
      refine op_go hoi (want_all rfl) fun K hK => ?_
      clear hT hpre hun hlit hoi
      go_simp
      exact hK _ _ ⟨(), fun _ _ => rfl, rfl, uc0, uc1, vc0, vc1, sac0, sac1, sbc0, sbc1, dac0, dac1, dbc0, dbc1, nac0, nac1, nbc0, nbc1, HB⟩
    · have hlit : (regOps Tryd.f6 7)[19]? = some ({ dst := some 77, op := Op.move (Operand.tmp 76), type := 4, pos := "law.go:35", after := #[{ on := 18, ground := Ground.data }, { on := 17, ground := Ground.chain }], guard := none }) := by kernel_rfl
      obtain rfl := Option.some.inj (hlit.symm.trans hoi)
      have r76 : b.tmps.getD 76 undef = (.bool true) := rd (hT.at 18 (by kernel_rfl) (pre_of hpre 18 (by kernel_rfl)))
      refine op_go hoi (want_all rfl) fun K hK => ?_
      clear hT hpre hun hlit hoi
      go_simp
      exact hK _ _ ⟨(), fun _ _ => rfl, rfl, uc0, uc1, vc0, vc1, sac0, sac1, sbc0, sbc1, dac0, dac1, dbc0, dbc1, nac0, nac1, nbc0, nbc1, HB⟩
    · have hlit : (regOps Tryd.f6 7)[20]? = some ({ dst := some 78, op := Op.load 24 (Operand.tmp 3), type := 24, pos := "law.go:35", after := #[{ on := 19, ground := Ground.guard }], guard := some (19, true) }) := by kernel_rfl
      obtain rfl := Option.some.inj (hlit.symm.trans hoi)
      have r3 : b.tmps.getD 3 undef = (.pointer (some ⟨ku, 0, none⟩)) := rd ((hT.old 3 (by kernel_rfl)).trans t3)
      refine op_go hoi (want_yes rfl (d := 77) (by kernel_rfl) (hT.at 19 (by kernel_rfl) (pre_of hpre 19 (by kernel_rfl)))) fun K hK => ?_
      clear hT hpre hun hlit hoi
      go_simp
      exact hK _ _ ⟨(), fun _ _ => rfl, rfl, uc0, uc1, vc0, vc1, sac0, sac1, sbc0, sbc1, dac0, dac1, dbc0, dbc1, nac0, nac1, nbc0, nbc1, HB⟩
    · have hlit : (regOps Tryd.f6 7)[21]? = some ({ dst := some 79, op := Op.call { callee := Callee.value (Operand.func 15), args := #[Operand.tmp 78], argTypes := #[24] }, type := 3, pos := "law.go:35", after := #[{ on := 20, ground := Ground.data }, { on := 19, ground := Ground.chain }, { on := 19, ground := Ground.guard }], guard := some (19, true) }) := by kernel_rfl
      obtain rfl := Option.some.inj (hlit.symm.trans hoi)
      have r78 : b.tmps.getD 78 undef = (.agg #[.int .i64 u0, .int .u64 u1]) := rd (hT.at 20 (by kernel_rfl) (pre_of hpre 20 (by kernel_rfl)))
      refine op_go hoi (want_yes rfl (d := 77) (by kernel_rfl) (hT.at 19 (by kernel_rfl) (pre_of hpre 19 (by kernel_rfl)))) fun K hK => ?_
      clear hT hpre hun hlit hoi
      go_simp
      go_at_call 15
      refine (m1 _).mono ?_; rintro e w2 ⟨rfl, hb⟩; replace uc0 := ck hb (a := ⟨ku, 0, none⟩) (v := .int .i64 u0) (by go_simp); replace uc1 := ck hb (a := ⟨ku, 1, none⟩) (v := .int .u64 u1) (by go_simp); replace vc0 := ck hb (a := ⟨kv, 0, none⟩) (v := .int .i64 v0) (by go_simp); replace vc1 := ck hb (a := ⟨kv, 1, none⟩) (v := .int .u64 v1) (by go_simp); replace sac0 := ck hb (a := ⟨ka, 0, none⟩) (v := .int .i64 s0) (by go_simp); replace sac1 := ck hb (a := ⟨ka, 1, none⟩) (v := .int .u64 s1) (by go_simp); replace sbc0 := ck hb (a := ⟨kb, 0, none⟩) (v := .int .i64 s0) (by go_simp); replace sbc1 := ck hb (a := ⟨kb, 1, none⟩) (v := .int .u64 s1) (by go_simp); replace dac0 := ck hb (a := ⟨kc, 0, none⟩) (v := .int .i64 d0) (by go_simp); replace dac1 := ck hb (a := ⟨kc, 1, none⟩) (v := .int .u64 d1) (by go_simp); replace dbc0 := ck hb (a := ⟨kd, 0, none⟩) (v := .int .i64 d0) (by go_simp); replace dbc1 := ck hb (a := ⟨kd, 1, none⟩) (v := .int .u64 d1) (by go_simp); replace nac0 := ck hb (a := ⟨ke, 0, none⟩) (v := .int .i64 n0) (by go_simp); replace nac1 := ck hb (a := ⟨ke, 1, none⟩) (v := .int .u64 n1) (by go_simp); replace nbc0 := ck hb (a := ⟨kf, 0, none⟩) (v := .int .i64 n0) (by go_simp); replace nbc1 := ck hb (a := ⟨kf, 1, none⟩) (v := .int .u64 n1) (by go_simp); replace HB : Below W.heap.size W w2 := bt HB hb; clear hb
      exact hK _ _ ⟨(), fun _ _ => rfl, rfl, uc0, uc1, vc0, vc1, sac0, sac1, sbc0, sbc1, dac0, dac1, dbc0, dbc1, nac0, nac1, nbc0, nbc1, HB⟩
    · have hlit : (regOps Tryd.f6 7)[22]? = some ({ dst := some 80, op := Op.load 24 (Operand.tmp 3), type := 24, pos := "law.go:35", after := #[{ on := 19, ground := Ground.guard }], guard := some (19, true) }) := by kernel_rfl
      obtain rfl := Option.some.inj (hlit.symm.trans hoi)
      have r3 : b.tmps.getD 3 undef = (.pointer (some ⟨ku, 0, none⟩)) := rd ((hT.old 3 (by kernel_rfl)).trans t3)
      refine op_go hoi (want_yes rfl (d := 77) (by kernel_rfl) (hT.at 19 (by kernel_rfl) (pre_of hpre 19 (by kernel_rfl)))) fun K hK => ?_
      clear hT hpre hun hlit hoi
      go_simp
      exact hK _ _ ⟨(), fun _ _ => rfl, rfl, uc0, uc1, vc0, vc1, sac0, sac1, sbc0, sbc1, dac0, dac1, dbc0, dbc1, nac0, nac1, nbc0, nbc1, HB⟩
    · have hlit : (regOps Tryd.f6 7)[23]? = some ({ dst := some 81, op := Op.call { callee := Callee.value (Operand.func 17), args := #[Operand.tmp 80], argTypes := #[24] }, type := 37, pos := "law.go:35", after := #[{ on := 22, ground := Ground.data }, { on := 21, ground := Ground.chain }, { on := 19, ground := Ground.guard }], guard := some (19, true) }) := by kernel_rfl
      obtain rfl := Option.some.inj (hlit.symm.trans hoi)
      have r80 : b.tmps.getD 80 undef = (.agg #[.int .i64 u0, .int .u64 u1]) := rd (hT.at 22 (by kernel_rfl) (pre_of hpre 22 (by kernel_rfl)))
      refine op_go hoi (want_yes rfl (d := 77) (by kernel_rfl) (hT.at 19 (by kernel_rfl) (pre_of hpre 19 (by kernel_rfl)))) fun K hK => ?_
      clear hT hpre hun hlit hoi
      go_simp
      go_at_call 17
      refine (of17 _ _ _).mono ?_; rintro e w2 ⟨rfl, hb⟩; replace uc0 := ck hb (a := ⟨ku, 0, none⟩) (v := .int .i64 u0) (by go_simp); replace uc1 := ck hb (a := ⟨ku, 1, none⟩) (v := .int .u64 u1) (by go_simp); replace vc0 := ck hb (a := ⟨kv, 0, none⟩) (v := .int .i64 v0) (by go_simp); replace vc1 := ck hb (a := ⟨kv, 1, none⟩) (v := .int .u64 v1) (by go_simp); replace sac0 := ck hb (a := ⟨ka, 0, none⟩) (v := .int .i64 s0) (by go_simp); replace sac1 := ck hb (a := ⟨ka, 1, none⟩) (v := .int .u64 s1) (by go_simp); replace sbc0 := ck hb (a := ⟨kb, 0, none⟩) (v := .int .i64 s0) (by go_simp); replace sbc1 := ck hb (a := ⟨kb, 1, none⟩) (v := .int .u64 s1) (by go_simp); replace dac0 := ck hb (a := ⟨kc, 0, none⟩) (v := .int .i64 d0) (by go_simp); replace dac1 := ck hb (a := ⟨kc, 1, none⟩) (v := .int .u64 d1) (by go_simp); replace dbc0 := ck hb (a := ⟨kd, 0, none⟩) (v := .int .i64 d0) (by go_simp); replace dbc1 := ck hb (a := ⟨kd, 1, none⟩) (v := .int .u64 d1) (by go_simp); replace nac0 := ck hb (a := ⟨ke, 0, none⟩) (v := .int .i64 n0) (by go_simp); replace nac1 := ck hb (a := ⟨ke, 1, none⟩) (v := .int .u64 n1) (by go_simp); replace nbc0 := ck hb (a := ⟨kf, 0, none⟩) (v := .int .i64 n0) (by go_simp); replace nbc1 := ck hb (a := ⟨kf, 1, none⟩) (v := .int .u64 n1) (by go_simp); replace HB : Below W.heap.size W w2 := bt HB hb; clear hb
      exact hK _ _ ⟨(), fun _ _ => rfl, rfl, uc0, uc1, vc0, vc1, sac0, sac1, sbc0, sbc1, dac0, dac1, dbc0, dbc1, nac0, nac1, nbc0, nbc1, HB⟩
    · have hlit : (regOps Tryd.f6 7)[24]? = some ({ dst := some 82, op := Op.call { callee := Callee.value (Operand.func 22), args := #[Operand.tmp 81], argTypes := #[37] }, type := 3, pos := "law.go:35", after := #[{ on := 23, ground := Ground.data }, { on := 23, ground := Ground.chain }, { on := 19, ground := Ground.guard }], guard := some (19, true) }) := by kernel_rfl
      obtain rfl := Option.some.inj (hlit.symm.trans hoi)
      have r81 : b.tmps.getD 81 undef = (.agg #[.int .i64 u0, .int .u64 u1]) := rd (hT.at 23 (by kernel_rfl) (pre_of hpre 23 (by kernel_rfl)))
      refine op_go hoi (want_yes rfl (d := 77) (by kernel_rfl) (hT.at 19 (by kernel_rfl) (pre_of hpre 19 (by kernel_rfl)))) fun K hK => ?_
      clear hT hpre hun hlit hoi
      go_simp
      go_at_call 22
      refine (m2 _).mono ?_; rintro e w2 ⟨rfl, hb⟩; replace uc0 := ck hb (a := ⟨ku, 0, none⟩) (v := .int .i64 u0) (by go_simp); replace uc1 := ck hb (a := ⟨ku, 1, none⟩) (v := .int .u64 u1) (by go_simp); replace vc0 := ck hb (a := ⟨kv, 0, none⟩) (v := .int .i64 v0) (by go_simp); replace vc1 := ck hb (a := ⟨kv, 1, none⟩) (v := .int .u64 v1) (by go_simp); replace sac0 := ck hb (a := ⟨ka, 0, none⟩) (v := .int .i64 s0) (by go_simp); replace sac1 := ck hb (a := ⟨ka, 1, none⟩) (v := .int .u64 s1) (by go_simp); replace sbc0 := ck hb (a := ⟨kb, 0, none⟩) (v := .int .i64 s0) (by go_simp); replace sbc1 := ck hb (a := ⟨kb, 1, none⟩) (v := .int .u64 s1) (by go_simp); replace dac0 := ck hb (a := ⟨kc, 0, none⟩) (v := .int .i64 d0) (by go_simp); replace dac1 := ck hb (a := ⟨kc, 1, none⟩) (v := .int .u64 d1) (by go_simp); replace dbc0 := ck hb (a := ⟨kd, 0, none⟩) (v := .int .i64 d0) (by go_simp); replace dbc1 := ck hb (a := ⟨kd, 1, none⟩) (v := .int .u64 d1) (by go_simp); replace nac0 := ck hb (a := ⟨ke, 0, none⟩) (v := .int .i64 n0) (by go_simp); replace nac1 := ck hb (a := ⟨ke, 1, none⟩) (v := .int .u64 n1) (by go_simp); replace nbc0 := ck hb (a := ⟨kf, 0, none⟩) (v := .int .i64 n0) (by go_simp); replace nbc1 := ck hb (a := ⟨kf, 1, none⟩) (v := .int .u64 n1) (by go_simp); replace HB : Below W.heap.size W w2 := bt HB hb; clear hb
      exact hK _ _ ⟨(), fun _ _ => rfl, rfl, uc0, uc1, vc0, vc1, sac0, sac1, sbc0, sbc1, dac0, dac1, dbc0, dbc1, nac0, nac1, nbc0, nbc1, HB⟩
    · have hlit : (regOps Tryd.f6 7)[25]? = some ({ dst := some 83, op := Op.binOp BinOp.eql 3 (Operand.tmp 79) (Operand.tmp 82) 3, type := 4, pos := "law.go:35", after := #[{ on := 21, ground := Ground.data }, { on := 24, ground := Ground.data }, { on := 19, ground := Ground.guard }], guard := some (19, true) }) := by kernel_rfl
      obtain rfl := Option.some.inj (hlit.symm.trans hoi)
      have r79 : b.tmps.getD 79 undef = (.int .i64 sg) := rd (hT.at 21 (by kernel_rfl) (pre_of hpre 21 (by kernel_rfl)))
      have r82 : b.tmps.getD 82 undef = (.int .i64 sg) := rd (hT.at 24 (by kernel_rfl) (pre_of hpre 24 (by kernel_rfl)))
      refine op_go hoi (want_yes rfl (d := 77) (by kernel_rfl) (hT.at 19 (by kernel_rfl) (pre_of hpre 19 (by kernel_rfl)))) fun K hK => ?_
      clear hT hpre hun hlit hoi
      go_simp
      exact hK _ _ ⟨(), fun _ _ => rfl, rfl, uc0, uc1, vc0, vc1, sac0, sac1, sbc0, sbc1, dac0, dac1, dbc0, dbc1, nac0, nac1, nbc0, nbc1, HB⟩
    · have hlit : (regOps Tryd.f6 7)[26]? = some ({ dst := some 84, op := Op.pick (Operand.tmp 77) (Operand.tmp 83) (Operand.const (Value.bool false)), type := 4, pos := "law.go:35", after := #[{ on := 19, ground := Ground.data }, { on := 25, ground := Ground.data }], guard := none }) := by kernel_rfl
      obtain rfl := Option.some.inj (hlit.symm.trans hoi)
      have r77 : b.tmps.getD 77 undef = (.bool true) := rd (hT.at 19 (by kernel_rfl) (pre_of hpre 19 (by kernel_rfl)))
      have r83 : b.tmps.getD 83 undef = (.bool true) := rd (hT.at 25 (by kernel_rfl) (pre_of hpre 25 (by kernel_rfl)))
      refine op_go hoi (want_all rfl) fun K hK => ?_
      clear hT hpre hun hlit hoi
      go_simp
      exact hK _ _ ⟨(), fun _ _ => rfl, rfl, uc0, uc1, vc0, vc1, sac0, sac1, sbc0, sbc1, dac0, dac1, dbc0, dbc1, nac0, nac1, nbc0, nbc1, HB⟩
    · have hlit : (regOps Tryd.f6 7)[27]? = some ({ dst := some 85, op := Op.move (Operand.tmp 84), type := 4, pos := "law.go:35", after := #[{ on := 26, ground := Ground.data }, { on := 24, ground := Ground.chain }], guard := none }) := by kernel_rfl
      obtain rfl := Option.some.inj (hlit.symm.trans hoi)
      have r84 : b.tmps.getD 84 undef = (.bool true) := rd (hT.at 26 (by kernel_rfl) (pre_of hpre 26 (by kernel_rfl)))
      refine op_go hoi (want_all rfl) fun K hK => ?_
      clear hT hpre hun hlit hoi
      go_simp
      exact hK _ _ ⟨(), fun _ _ => rfl, rfl, uc0, uc1, vc0, vc1, sac0, sac1, sbc0, sbc1, dac0, dac1, dbc0, dbc1, nac0, nac1, nbc0, nbc1, HB⟩
    · have hlit : (regOps Tryd.f6 7)[28]? = some ({ dst := some 86, op := Op.load 24 (Operand.tmp 3), type := 24, pos := "law.go:35", after := #[{ on := 27, ground := Ground.guard }], guard := some (27, true) }) := by kernel_rfl
      obtain rfl := Option.some.inj (hlit.symm.trans hoi)
      have r3 : b.tmps.getD 3 undef = (.pointer (some ⟨ku, 0, none⟩)) := rd ((hT.old 3 (by kernel_rfl)).trans t3)
      refine op_go hoi (want_yes rfl (d := 85) (by kernel_rfl) (hT.at 27 (by kernel_rfl) (pre_of hpre 27 (by kernel_rfl)))) fun K hK => ?_
      clear hT hpre hun hlit hoi
      go_simp
      exact hK _ _ ⟨(), fun _ _ => rfl, rfl, uc0, uc1, vc0, vc1, sac0, sac1, sbc0, sbc1, dac0, dac1, dbc0, dbc1, nac0, nac1, nbc0, nbc1, HB⟩
    · have hlit : (regOps Tryd.f6 7)[29]? = some ({ dst := some 87, op := Op.load 24 (Operand.tmp 4), type := 24, pos := "law.go:35", after := #[{ on := 27, ground := Ground.guard }], guard := some (27, true) }) := by kernel_rfl
      obtain rfl := Option.some.inj (hlit.symm.trans hoi)
      have r4 : b.tmps.getD 4 undef = (.pointer (some ⟨kv, 0, none⟩)) := rd ((hT.old 4 (by kernel_rfl)).trans t4)
      refine op_go hoi (want_yes rfl (d := 85) (by kernel_rfl) (hT.at 27 (by kernel_rfl) (pre_of hpre 27 (by kernel_rfl)))) fun K hK => ?_
      clear hT hpre hun hlit hoi
      go_simp
      exact hK _ _ ⟨(), fun _ _ => rfl, rfl, uc0, uc1, vc0, vc1, sac0, sac1, sbc0, sbc1, dac0, dac1, dbc0, dbc1, nac0, nac1, nbc0, nbc1, HB⟩
    · have hlit : (regOps Tryd.f6 7)[30]? = some ({ dst := some 88, op := Op.call { callee := Callee.value (Operand.func 23), args := #[Operand.tmp 86, Operand.tmp 87], argTypes := #[24, 24] }, type := 3, pos := "law.go:35", after := #[{ on := 28, ground := Ground.data }, { on := 29, ground := Ground.data }, { on := 27, ground := Ground.chain }, { on := 27, ground := Ground.guard }], guard := some (27, true) }) := by kernel_rfl
      obtain rfl := Option.some.inj (hlit.symm.trans hoi)
      have r86 : b.tmps.getD 86 undef = (.agg #[.int .i64 u0, .int .u64 u1]) := rd (hT.at 28 (by kernel_rfl) (pre_of hpre 28 (by kernel_rfl)))
      have r87 : b.tmps.getD 87 undef = (.agg #[.int .i64 v0, .int .u64 v1]) := rd (hT.at 29 (by kernel_rfl) (pre_of hpre 29 (by kernel_rfl)))
      refine op_go hoi (want_yes rfl (d := 85) (by kernel_rfl) (hT.at 27 (by kernel_rfl) (pre_of hpre 27 (by kernel_rfl)))) fun K hK => ?_
      clear hT hpre hun hlit hoi
      go_simp
      go_at_call 23
      refine (m3 _).mono ?_; rintro e w2 ⟨rfl, hb⟩; replace uc0 := ck hb (a := ⟨ku, 0, none⟩) (v := .int .i64 u0) (by go_simp); replace uc1 := ck hb (a := ⟨ku, 1, none⟩) (v := .int .u64 u1) (by go_simp); replace vc0 := ck hb (a := ⟨kv, 0, none⟩) (v := .int .i64 v0) (by go_simp); replace vc1 := ck hb (a := ⟨kv, 1, none⟩) (v := .int .u64 v1) (by go_simp); replace sac0 := ck hb (a := ⟨ka, 0, none⟩) (v := .int .i64 s0) (by go_simp); replace sac1 := ck hb (a := ⟨ka, 1, none⟩) (v := .int .u64 s1) (by go_simp); replace sbc0 := ck hb (a := ⟨kb, 0, none⟩) (v := .int .i64 s0) (by go_simp); replace sbc1 := ck hb (a := ⟨kb, 1, none⟩) (v := .int .u64 s1) (by go_simp); replace dac0 := ck hb (a := ⟨kc, 0, none⟩) (v := .int .i64 d0) (by go_simp); replace dac1 := ck hb (a := ⟨kc, 1, none⟩) (v := .int .u64 d1) (by go_simp); replace dbc0 := ck hb (a := ⟨kd, 0, none⟩) (v := .int .i64 d0) (by go_simp); replace dbc1 := ck hb (a := ⟨kd, 1, none⟩) (v := .int .u64 d1) (by go_simp); replace nac0 := ck hb (a := ⟨ke, 0, none⟩) (v := .int .i64 n0) (by go_simp); replace nac1 := ck hb (a := ⟨ke, 1, none⟩) (v := .int .u64 n1) (by go_simp); replace nbc0 := ck hb (a := ⟨kf, 0, none⟩) (v := .int .i64 n0) (by go_simp); replace nbc1 := ck hb (a := ⟨kf, 1, none⟩) (v := .int .u64 n1) (by go_simp); replace HB : Below W.heap.size W w2 := bt HB hb; clear hb
      exact hK _ _ ⟨(), fun _ _ => rfl, rfl, uc0, uc1, vc0, vc1, sac0, sac1, sbc0, sbc1, dac0, dac1, dbc0, dbc1, nac0, nac1, nbc0, nbc1, HB⟩
    · have hlit : (regOps Tryd.f6 7)[31]? = some ({ dst := some 89, op := Op.load 24 (Operand.tmp 3), type := 24, pos := "law.go:35", after := #[{ on := 27, ground := Ground.guard }], guard := some (27, true) }) := by kernel_rfl
      obtain rfl := Option.some.inj (hlit.symm.trans hoi)
      have r3 : b.tmps.getD 3 undef = (.pointer (some ⟨ku, 0, none⟩)) := rd ((hT.old 3 (by kernel_rfl)).trans t3)
      refine op_go hoi (want_yes rfl (d := 85) (by kernel_rfl) (hT.at 27 (by kernel_rfl) (pre_of hpre 27 (by kernel_rfl)))) fun K hK => ?_
      clear hT hpre hun hlit hoi
      go_simp
      exact hK _ _ ⟨(), fun _ _ => rfl, rfl, uc0, uc1, vc0, vc1, sac0, sac1, sbc0, sbc1, dac0, dac1, dbc0, dbc1, nac0, nac1, nbc0, nbc1, HB⟩
    · have hlit : (regOps Tryd.f6 7)[32]? = some ({ dst := some 90, op := Op.call { callee := Callee.value (Operand.func 17), args := #[Operand.tmp 89], argTypes := #[24] }, type := 37, pos := "law.go:35", after := #[{ on := 31, ground := Ground.data }, { on := 30, ground := Ground.chain }, { on := 27, ground := Ground.guard }], guard := some (27, true) }) := by kernel_rfl
      obtain rfl := Option.some.inj (hlit.symm.trans hoi)
      have r89 : b.tmps.getD 89 undef = (.agg #[.int .i64 u0, .int .u64 u1]) := rd (hT.at 31 (by kernel_rfl) (pre_of hpre 31 (by kernel_rfl)))
      refine op_go hoi (want_yes rfl (d := 85) (by kernel_rfl) (hT.at 27 (by kernel_rfl) (pre_of hpre 27 (by kernel_rfl)))) fun K hK => ?_
      clear hT hpre hun hlit hoi
      go_simp
      go_at_call 17
      refine (of17 _ _ _).mono ?_; rintro e w2 ⟨rfl, hb⟩; replace uc0 := ck hb (a := ⟨ku, 0, none⟩) (v := .int .i64 u0) (by go_simp); replace uc1 := ck hb (a := ⟨ku, 1, none⟩) (v := .int .u64 u1) (by go_simp); replace vc0 := ck hb (a := ⟨kv, 0, none⟩) (v := .int .i64 v0) (by go_simp); replace vc1 := ck hb (a := ⟨kv, 1, none⟩) (v := .int .u64 v1) (by go_simp); replace sac0 := ck hb (a := ⟨ka, 0, none⟩) (v := .int .i64 s0) (by go_simp); replace sac1 := ck hb (a := ⟨ka, 1, none⟩) (v := .int .u64 s1) (by go_simp); replace sbc0 := ck hb (a := ⟨kb, 0, none⟩) (v := .int .i64 s0) (by go_simp); replace sbc1 := ck hb (a := ⟨kb, 1, none⟩) (v := .int .u64 s1) (by go_simp); replace dac0 := ck hb (a := ⟨kc, 0, none⟩) (v := .int .i64 d0) (by go_simp); replace dac1 := ck hb (a := ⟨kc, 1, none⟩) (v := .int .u64 d1) (by go_simp); replace dbc0 := ck hb (a := ⟨kd, 0, none⟩) (v := .int .i64 d0) (by go_simp); replace dbc1 := ck hb (a := ⟨kd, 1, none⟩) (v := .int .u64 d1) (by go_simp); replace nac0 := ck hb (a := ⟨ke, 0, none⟩) (v := .int .i64 n0) (by go_simp); replace nac1 := ck hb (a := ⟨ke, 1, none⟩) (v := .int .u64 n1) (by go_simp); replace nbc0 := ck hb (a := ⟨kf, 0, none⟩) (v := .int .i64 n0) (by go_simp); replace nbc1 := ck hb (a := ⟨kf, 1, none⟩) (v := .int .u64 n1) (by go_simp); replace HB : Below W.heap.size W w2 := bt HB hb; clear hb
      exact hK _ _ ⟨(), fun _ _ => rfl, rfl, uc0, uc1, vc0, vc1, sac0, sac1, sbc0, sbc1, dac0, dac1, dbc0, dbc1, nac0, nac1, nbc0, nbc1, HB⟩
    · have hlit : (regOps Tryd.f6 7)[33]? = some ({ dst := some 91, op := Op.load 24 (Operand.tmp 4), type := 24, pos := "law.go:35", after := #[{ on := 27, ground := Ground.guard }], guard := some (27, true) }) := by kernel_rfl
      obtain rfl := Option.some.inj (hlit.symm.trans hoi)
      have r4 : b.tmps.getD 4 undef = (.pointer (some ⟨kv, 0, none⟩)) := rd ((hT.old 4 (by kernel_rfl)).trans t4)
      refine op_go hoi (want_yes rfl (d := 85) (by kernel_rfl) (hT.at 27 (by kernel_rfl) (pre_of hpre 27 (by kernel_rfl)))) fun K hK => ?_
      clear hT hpre hun hlit hoi
      go_simp
      exact hK _ _ ⟨(), fun _ _ => rfl, rfl, uc0, uc1, vc0, vc1, sac0, sac1, sbc0, sbc1, dac0, dac1, dbc0, dbc1, nac0, nac1, nbc0, nbc1, HB⟩
    · have hlit : (regOps Tryd.f6 7)[34]? = some ({ dst := some 92, op := Op.call { callee := Callee.value (Operand.func 17), args := #[Operand.tmp 91], argTypes := #[24] }, type := 37, pos := "law.go:35", after := #[{ on := 33, ground := Ground.data }, { on := 32, ground := Ground.chain }, { on := 27, ground := Ground.guard }], guard := some (27, true) }) := by kernel_rfl
      obtain rfl := Option.some.inj (hlit.symm.trans hoi)
      have r91 : b.tmps.getD 91 undef = (.agg #[.int .i64 v0, .int .u64 v1]) := rd (hT.at 33 (by kernel_rfl) (pre_of hpre 33 (by kernel_rfl)))
      refine op_go hoi (want_yes rfl (d := 85) (by kernel_rfl) (hT.at 27 (by kernel_rfl) (pre_of hpre 27 (by kernel_rfl)))) fun K hK => ?_
      clear hT hpre hun hlit hoi
      go_simp
      go_at_call 17
      refine (of17 _ _ _).mono ?_; rintro e w2 ⟨rfl, hb⟩; replace uc0 := ck hb (a := ⟨ku, 0, none⟩) (v := .int .i64 u0) (by go_simp); replace uc1 := ck hb (a := ⟨ku, 1, none⟩) (v := .int .u64 u1) (by go_simp); replace vc0 := ck hb (a := ⟨kv, 0, none⟩) (v := .int .i64 v0) (by go_simp); replace vc1 := ck hb (a := ⟨kv, 1, none⟩) (v := .int .u64 v1) (by go_simp); replace sac0 := ck hb (a := ⟨ka, 0, none⟩) (v := .int .i64 s0) (by go_simp); replace sac1 := ck hb (a := ⟨ka, 1, none⟩) (v := .int .u64 s1) (by go_simp); replace sbc0 := ck hb (a := ⟨kb, 0, none⟩) (v := .int .i64 s0) (by go_simp); replace sbc1 := ck hb (a := ⟨kb, 1, none⟩) (v := .int .u64 s1) (by go_simp); replace dac0 := ck hb (a := ⟨kc, 0, none⟩) (v := .int .i64 d0) (by go_simp); replace dac1 := ck hb (a := ⟨kc, 1, none⟩) (v := .int .u64 d1) (by go_simp); replace dbc0 := ck hb (a := ⟨kd, 0, none⟩) (v := .int .i64 d0) (by go_simp); replace dbc1 := ck hb (a := ⟨kd, 1, none⟩) (v := .int .u64 d1) (by go_simp); replace nac0 := ck hb (a := ⟨ke, 0, none⟩) (v := .int .i64 n0) (by go_simp); replace nac1 := ck hb (a := ⟨ke, 1, none⟩) (v := .int .u64 n1) (by go_simp); replace nbc0 := ck hb (a := ⟨kf, 0, none⟩) (v := .int .i64 n0) (by go_simp); replace nbc1 := ck hb (a := ⟨kf, 1, none⟩) (v := .int .u64 n1) (by go_simp); replace HB : Below W.heap.size W w2 := bt HB hb; clear hb
      exact hK _ _ ⟨(), fun _ _ => rfl, rfl, uc0, uc1, vc0, vc1, sac0, sac1, sbc0, sbc1, dac0, dac1, dbc0, dbc1, nac0, nac1, nbc0, nbc1, HB⟩
    · have hlit : (regOps Tryd.f6 7)[35]? = some ({ dst := some 93, op := Op.call { callee := Callee.value (Operand.func 24), args := #[Operand.tmp 90, Operand.tmp 92], argTypes := #[37, 37] }, type := 3, pos := "law.go:35", after := #[{ on := 32, ground := Ground.data }, { on := 34, ground := Ground.data }, { on := 34, ground := Ground.chain }, { on := 27, ground := Ground.guard }], guard := some (27, true) }) := by kernel_rfl
      obtain rfl := Option.some.inj (hlit.symm.trans hoi)
      have r90 : b.tmps.getD 90 undef = (.agg #[.int .i64 u0, .int .u64 u1]) := rd (hT.at 32 (by kernel_rfl) (pre_of hpre 32 (by kernel_rfl)))
      have r92 : b.tmps.getD 92 undef = (.agg #[.int .i64 v0, .int .u64 v1]) := rd (hT.at 34 (by kernel_rfl) (pre_of hpre 34 (by kernel_rfl)))
      refine op_go hoi (want_yes rfl (d := 85) (by kernel_rfl) (hT.at 27 (by kernel_rfl) (pre_of hpre 27 (by kernel_rfl)))) fun K hK => ?_
      clear hT hpre hun hlit hoi
      go_simp
      go_at_call 24
      refine (m4 _).mono ?_; rintro e w2 ⟨rfl, hb⟩; replace uc0 := ck hb (a := ⟨ku, 0, none⟩) (v := .int .i64 u0) (by go_simp); replace uc1 := ck hb (a := ⟨ku, 1, none⟩) (v := .int .u64 u1) (by go_simp); replace vc0 := ck hb (a := ⟨kv, 0, none⟩) (v := .int .i64 v0) (by go_simp); replace vc1 := ck hb (a := ⟨kv, 1, none⟩) (v := .int .u64 v1) (by go_simp); replace sac0 := ck hb (a := ⟨ka, 0, none⟩) (v := .int .i64 s0) (by go_simp); replace sac1 := ck hb (a := ⟨ka, 1, none⟩) (v := .int .u64 s1) (by go_simp); replace sbc0 := ck hb (a := ⟨kb, 0, none⟩) (v := .int .i64 s0) (by go_simp); replace sbc1 := ck hb (a := ⟨kb, 1, none⟩) (v := .int .u64 s1) (by go_simp); replace dac0 := ck hb (a := ⟨kc, 0, none⟩) (v := .int .i64 d0) (by go_simp); replace dac1 := ck hb (a := ⟨kc, 1, none⟩) (v := .int .u64 d1) (by go_simp); replace dbc0 := ck hb (a := ⟨kd, 0, none⟩) (v := .int .i64 d0) (by go_simp); replace dbc1 := ck hb (a := ⟨kd, 1, none⟩) (v := .int .u64 d1) (by go_simp); replace nac0 := ck hb (a := ⟨ke, 0, none⟩) (v := .int .i64 n0) (by go_simp); replace nac1 := ck hb (a := ⟨ke, 1, none⟩) (v := .int .u64 n1) (by go_simp); replace nbc0 := ck hb (a := ⟨kf, 0, none⟩) (v := .int .i64 n0) (by go_simp); replace nbc1 := ck hb (a := ⟨kf, 1, none⟩) (v := .int .u64 n1) (by go_simp); replace HB : Below W.heap.size W w2 := bt HB hb; clear hb
      exact hK _ _ ⟨(), fun _ _ => rfl, rfl, uc0, uc1, vc0, vc1, sac0, sac1, sbc0, sbc1, dac0, dac1, dbc0, dbc1, nac0, nac1, nbc0, nbc1, HB⟩
    · have hlit : (regOps Tryd.f6 7)[36]? = some ({ dst := some 94, op := Op.binOp BinOp.eql 3 (Operand.tmp 88) (Operand.tmp 93) 3, type := 4, pos := "law.go:35", after := #[{ on := 30, ground := Ground.data }, { on := 35, ground := Ground.data }, { on := 27, ground := Ground.guard }], guard := some (27, true) }) := by kernel_rfl
      obtain rfl := Option.some.inj (hlit.symm.trans hoi)
      have r88 : b.tmps.getD 88 undef = (.int .i64 cc) := rd (hT.at 30 (by kernel_rfl) (pre_of hpre 30 (by kernel_rfl)))
      have r93 : b.tmps.getD 93 undef = (.int .i64 cc) := rd (hT.at 35 (by kernel_rfl) (pre_of hpre 35 (by kernel_rfl)))
      refine op_go hoi (want_yes rfl (d := 85) (by kernel_rfl) (hT.at 27 (by kernel_rfl) (pre_of hpre 27 (by kernel_rfl)))) fun K hK => ?_
      clear hT hpre hun hlit hoi
      go_simp
      exact hK _ _ ⟨(), fun _ _ => rfl, rfl, uc0, uc1, vc0, vc1, sac0, sac1, sbc0, sbc1, dac0, dac1, dbc0, dbc1, nac0, nac1, nbc0, nbc1, HB⟩
    · have hlit : (regOps Tryd.f6 7)[37]? = some ({ dst := some 95, op := Op.pick (Operand.tmp 85) (Operand.tmp 94) (Operand.const (Value.bool false)), type := 4, pos := "law.go:35", after := #[{ on := 27, ground := Ground.data }, { on := 36, ground := Ground.data }], guard := none }) := by kernel_rfl
      obtain rfl := Option.some.inj (hlit.symm.trans hoi)
      have r85 : b.tmps.getD 85 undef = (.bool true) := rd (hT.at 27 (by kernel_rfl) (pre_of hpre 27 (by kernel_rfl)))
      have r94 : b.tmps.getD 94 undef = (.bool true) := rd (hT.at 36 (by kernel_rfl) (pre_of hpre 36 (by kernel_rfl)))
      refine op_go hoi (want_all rfl) fun K hK => ?_
      clear hT hpre hun hlit hoi
      go_simp
      exact hK _ _ ⟨(), fun _ _ => rfl, rfl, uc0, uc1, vc0, vc1, sac0, sac1, sbc0, sbc1, dac0, dac1, dbc0, dbc1, nac0, nac1, nbc0, nbc1, HB⟩
    · have hlit : (regOps Tryd.f6 7)[38]? = some ({ dst := some 96, op := Op.move (Operand.tmp 95), type := 4, pos := "law.go:35", after := #[{ on := 37, ground := Ground.data }, { on := 35, ground := Ground.chain }], guard := none }) := by kernel_rfl
      obtain rfl := Option.some.inj (hlit.symm.trans hoi)
      have r95 : b.tmps.getD 95 undef = (.bool true) := rd (hT.at 37 (by kernel_rfl) (pre_of hpre 37 (by kernel_rfl)))
      refine op_go hoi (want_all rfl) fun K hK => ?_
      clear hT hpre hun hlit hoi
      go_simp
      exact hK _ _ ⟨(), fun _ _ => rfl, rfl, uc0, uc1, vc0, vc1, sac0, sac1, sbc0, sbc1, dac0, dac1, dbc0, dbc1, nac0, nac1, nbc0, nbc1, HB⟩
    · have hlit : (regOps Tryd.f6 7)[39]? = some ({ dst := some 97, op := Op.load 24 (Operand.tmp 3), type := 24, pos := "law.go:35", after := #[{ on := 38, ground := Ground.guard }], guard := some (38, true) }) := by kernel_rfl
      obtain rfl := Option.some.inj (hlit.symm.trans hoi)
      have r3 : b.tmps.getD 3 undef = (.pointer (some ⟨ku, 0, none⟩)) := rd ((hT.old 3 (by kernel_rfl)).trans t3)
      refine op_go hoi (want_yes rfl (d := 96) (by kernel_rfl) (hT.at 38 (by kernel_rfl) (pre_of hpre 38 (by kernel_rfl)))) fun K hK => ?_
      clear hT hpre hun hlit hoi
      go_simp
      exact hK _ _ ⟨(), fun _ _ => rfl, rfl, uc0, uc1, vc0, vc1, sac0, sac1, sbc0, sbc1, dac0, dac1, dbc0, dbc1, nac0, nac1, nbc0, nbc1, HB⟩
    · have hlit : (regOps Tryd.f6 7)[40]? = some ({ dst := some 98, op := Op.call { callee := Callee.value (Operand.func 11), args := #[Operand.tmp 97], argTypes := #[24] }, type := 9, pos := "law.go:35", after := #[{ on := 39, ground := Ground.data }, { on := 38, ground := Ground.chain }, { on := 38, ground := Ground.guard }], guard := some (38, true) }) := by kernel_rfl
      obtain rfl := Option.some.inj (hlit.symm.trans hoi)
      have r97 : b.tmps.getD 97 undef = (.agg #[.int .i64 u0, .int .u64 u1]) := rd (hT.at 39 (by kernel_rfl) (pre_of hpre 39 (by kernel_rfl)))
      refine op_go hoi (want_yes rfl (d := 96) (by kernel_rfl) (hT.at 38 (by kernel_rfl) (pre_of hpre 38 (by kernel_rfl)))) fun K hK => ?_
      clear hT hpre hun hlit hoi
      go_simp
      go_at_call 11
      refine (m5 _ (tab_below htab HB)).mono ?_; rintro e w2 ⟨rfl, hb⟩; replace uc0 := ck hb (a := ⟨ku, 0, none⟩) (v := .int .i64 u0) (by go_simp); replace uc1 := ck hb (a := ⟨ku, 1, none⟩) (v := .int .u64 u1) (by go_simp); replace vc0 := ck hb (a := ⟨kv, 0, none⟩) (v := .int .i64 v0) (by go_simp); replace vc1 := ck hb (a := ⟨kv, 1, none⟩) (v := .int .u64 v1) (by go_simp); replace sac0 := ck hb (a := ⟨ka, 0, none⟩) (v := .int .i64 s0) (by go_simp); replace sac1 := ck hb (a := ⟨ka, 1, none⟩) (v := .int .u64 s1) (by go_simp); replace sbc0 := ck hb (a := ⟨kb, 0, none⟩) (v := .int .i64 s0) (by go_simp); replace sbc1 := ck hb (a := ⟨kb, 1, none⟩) (v := .int .u64 s1) (by go_simp); replace dac0 := ck hb (a := ⟨kc, 0, none⟩) (v := .int .i64 d0) (by go_simp); replace dac1 := ck hb (a := ⟨kc, 1, none⟩) (v := .int .u64 d1) (by go_simp); replace dbc0 := ck hb (a := ⟨kd, 0, none⟩) (v := .int .i64 d0) (by go_simp); replace dbc1 := ck hb (a := ⟨kd, 1, none⟩) (v := .int .u64 d1) (by go_simp); replace nac0 := ck hb (a := ⟨ke, 0, none⟩) (v := .int .i64 n0) (by go_simp); replace nac1 := ck hb (a := ⟨ke, 1, none⟩) (v := .int .u64 n1) (by go_simp); replace nbc0 := ck hb (a := ⟨kf, 0, none⟩) (v := .int .i64 n0) (by go_simp); replace nbc1 := ck hb (a := ⟨kf, 1, none⟩) (v := .int .u64 n1) (by go_simp); replace HB : Below W.heap.size W w2 := bt HB hb; clear hb
      exact hK _ _ ⟨(), fun _ _ => rfl, rfl, uc0, uc1, vc0, vc1, sac0, sac1, sbc0, sbc1, dac0, dac1, dbc0, dbc1, nac0, nac1, nbc0, nbc1, HB⟩
    · have hlit : (regOps Tryd.f6 7)[41]? = some ({ dst := some 99, op := Op.load 24 (Operand.tmp 3), type := 24, pos := "law.go:35", after := #[{ on := 38, ground := Ground.guard }], guard := some (38, true) }) := by kernel_rfl
      obtain rfl := Option.some.inj (hlit.symm.trans hoi)
      have r3 : b.tmps.getD 3 undef = (.pointer (some ⟨ku, 0, none⟩)) := rd ((hT.old 3 (by kernel_rfl)).trans t3)
      refine op_go hoi (want_yes rfl (d := 96) (by kernel_rfl) (hT.at 38 (by kernel_rfl) (pre_of hpre 38 (by kernel_rfl)))) fun K hK => ?_
      clear hT hpre hun hlit hoi
      go_simp
      exact hK _ _ ⟨(), fun _ _ => rfl, rfl, uc0, uc1, vc0, vc1, sac0, sac1, sbc0, sbc1, dac0, dac1, dbc0, dbc1, nac0, nac1, nbc0, nbc1, HB⟩
    · have hlit : (regOps Tryd.f6 7)[42]? = some ({ dst := some 100, op := Op.call { callee := Callee.value (Operand.func 17), args := #[Operand.tmp 99], argTypes := #[24] }, type := 37, pos := "law.go:35", after := #[{ on := 41, ground := Ground.data }, { on := 40, ground := Ground.chain }, { on := 38, ground := Ground.guard }], guard := some (38, true) }) := by kernel_rfl
      obtain rfl := Option.some.inj (hlit.symm.trans hoi)
      have r99 : b.tmps.getD 99 undef = (.agg #[.int .i64 u0, .int .u64 u1]) := rd (hT.at 41 (by kernel_rfl) (pre_of hpre 41 (by kernel_rfl)))
      refine op_go hoi (want_yes rfl (d := 96) (by kernel_rfl) (hT.at 38 (by kernel_rfl) (pre_of hpre 38 (by kernel_rfl)))) fun K hK => ?_
      clear hT hpre hun hlit hoi
      go_simp
      go_at_call 17
      refine (of17 _ _ _).mono ?_; rintro e w2 ⟨rfl, hb⟩; replace uc0 := ck hb (a := ⟨ku, 0, none⟩) (v := .int .i64 u0) (by go_simp); replace uc1 := ck hb (a := ⟨ku, 1, none⟩) (v := .int .u64 u1) (by go_simp); replace vc0 := ck hb (a := ⟨kv, 0, none⟩) (v := .int .i64 v0) (by go_simp); replace vc1 := ck hb (a := ⟨kv, 1, none⟩) (v := .int .u64 v1) (by go_simp); replace sac0 := ck hb (a := ⟨ka, 0, none⟩) (v := .int .i64 s0) (by go_simp); replace sac1 := ck hb (a := ⟨ka, 1, none⟩) (v := .int .u64 s1) (by go_simp); replace sbc0 := ck hb (a := ⟨kb, 0, none⟩) (v := .int .i64 s0) (by go_simp); replace sbc1 := ck hb (a := ⟨kb, 1, none⟩) (v := .int .u64 s1) (by go_simp); replace dac0 := ck hb (a := ⟨kc, 0, none⟩) (v := .int .i64 d0) (by go_simp); replace dac1 := ck hb (a := ⟨kc, 1, none⟩) (v := .int .u64 d1) (by go_simp); replace dbc0 := ck hb (a := ⟨kd, 0, none⟩) (v := .int .i64 d0) (by go_simp); replace dbc1 := ck hb (a := ⟨kd, 1, none⟩) (v := .int .u64 d1) (by go_simp); replace nac0 := ck hb (a := ⟨ke, 0, none⟩) (v := .int .i64 n0) (by go_simp); replace nac1 := ck hb (a := ⟨ke, 1, none⟩) (v := .int .u64 n1) (by go_simp); replace nbc0 := ck hb (a := ⟨kf, 0, none⟩) (v := .int .i64 n0) (by go_simp); replace nbc1 := ck hb (a := ⟨kf, 1, none⟩) (v := .int .u64 n1) (by go_simp); replace HB : Below W.heap.size W w2 := bt HB hb; clear hb
      exact hK _ _ ⟨(), fun _ _ => rfl, rfl, uc0, uc1, vc0, vc1, sac0, sac1, sbc0, sbc1, dac0, dac1, dbc0, dbc1, nac0, nac1, nbc0, nbc1, HB⟩
    · have hlit : (regOps Tryd.f6 7)[43]? = some ({ dst := some 101, op := Op.call { callee := Callee.value (Operand.func 25), args := #[Operand.tmp 100], argTypes := #[37] }, type := 9, pos := "law.go:35", after := #[{ on := 42, ground := Ground.data }, { on := 42, ground := Ground.chain }, { on := 38, ground := Ground.guard }], guard := some (38, true) }) := by kernel_rfl
      obtain rfl := Option.some.inj (hlit.symm.trans hoi)
      have r100 : b.tmps.getD 100 undef = (.agg #[.int .i64 u0, .int .u64 u1]) := rd (hT.at 42 (by kernel_rfl) (pre_of hpre 42 (by kernel_rfl)))
      refine op_go hoi (want_yes rfl (d := 96) (by kernel_rfl) (hT.at 38 (by kernel_rfl) (pre_of hpre 38 (by kernel_rfl)))) fun K hK => ?_
      clear hT hpre hun hlit hoi
      go_simp
      go_at_call 25
      refine (m6 _).mono ?_; rintro e w2 ⟨rfl, hb⟩; replace uc0 := ck hb (a := ⟨ku, 0, none⟩) (v := .int .i64 u0) (by go_simp); replace uc1 := ck hb (a := ⟨ku, 1, none⟩) (v := .int .u64 u1) (by go_simp); replace vc0 := ck hb (a := ⟨kv, 0, none⟩) (v := .int .i64 v0) (by go_simp); replace vc1 := ck hb (a := ⟨kv, 1, none⟩) (v := .int .u64 v1) (by go_simp); replace sac0 := ck hb (a := ⟨ka, 0, none⟩) (v := .int .i64 s0) (by go_simp); replace sac1 := ck hb (a := ⟨ka, 1, none⟩) (v := .int .u64 s1) (by go_simp); replace sbc0 := ck hb (a := ⟨kb, 0, none⟩) (v := .int .i64 s0) (by go_simp); replace sbc1 := ck hb (a := ⟨kb, 1, none⟩) (v := .int .u64 s1) (by go_simp); replace dac0 := ck hb (a := ⟨kc, 0, none⟩) (v := .int .i64 d0) (by go_simp); replace dac1 := ck hb (a := ⟨kc, 1, none⟩) (v := .int .u64 d1) (by go_simp); replace dbc0 := ck hb (a := ⟨kd, 0, none⟩) (v := .int .i64 d0) (by go_simp); replace dbc1 := ck hb (a := ⟨kd, 1, none⟩) (v := .int .u64 d1) (by go_simp); replace nac0 := ck hb (a := ⟨ke, 0, none⟩) (v := .int .i64 n0) (by go_simp); replace nac1 := ck hb (a := ⟨ke, 1, none⟩) (v := .int .u64 n1) (by go_simp); replace nbc0 := ck hb (a := ⟨kf, 0, none⟩) (v := .int .i64 n0) (by go_simp); replace nbc1 := ck hb (a := ⟨kf, 1, none⟩) (v := .int .u64 n1) (by go_simp); replace HB : Below W.heap.size W w2 := bt HB hb; clear hb
      exact hK _ _ ⟨(), fun _ _ => rfl, rfl, uc0, uc1, vc0, vc1, sac0, sac1, sbc0, sbc1, dac0, dac1, dbc0, dbc1, nac0, nac1, nbc0, nbc1, HB⟩
    · have hlit : (regOps Tryd.f6 7)[44]? = some ({ dst := some 102, op := Op.binOp BinOp.eql 9 (Operand.tmp 98) (Operand.tmp 101) 9, type := 4, pos := "law.go:35", after := #[{ on := 40, ground := Ground.data }, { on := 43, ground := Ground.data }, { on := 38, ground := Ground.guard }], guard := some (38, true) }) := by kernel_rfl
      obtain rfl := Option.some.inj (hlit.symm.trans hoi)
      have r98 : b.tmps.getD 98 undef = (.string ⟨LL.toArray⟩) := rd (hT.at 40 (by kernel_rfl) (pre_of hpre 40 (by kernel_rfl)))
      have r101 : b.tmps.getD 101 undef = (.string ⟨LL.toArray⟩) := rd (hT.at 43 (by kernel_rfl) (pre_of hpre 43 (by kernel_rfl)))
      refine op_go hoi (want_yes rfl (d := 96) (by kernel_rfl) (hT.at 38 (by kernel_rfl) (pre_of hpre 38 (by kernel_rfl)))) fun K hK => ?_
      clear hT hpre hun hlit hoi
      go_simp
      exact hK _ _ ⟨(), fun _ _ => rfl, rfl, uc0, uc1, vc0, vc1, sac0, sac1, sbc0, sbc1, dac0, dac1, dbc0, dbc1, nac0, nac1, nbc0, nbc1, HB⟩
    · have hlit : (regOps Tryd.f6 7)[45]? = some ({ dst := some 103, op := Op.pick (Operand.tmp 96) (Operand.tmp 102) (Operand.const (Value.bool false)), type := 4, pos := "law.go:35", after := #[{ on := 38, ground := Ground.data }, { on := 44, ground := Ground.data }], guard := none }) := by kernel_rfl
      obtain rfl := Option.some.inj (hlit.symm.trans hoi)
      have r96 : b.tmps.getD 96 undef = (.bool true) := rd (hT.at 38 (by kernel_rfl) (pre_of hpre 38 (by kernel_rfl)))
      have r102 : b.tmps.getD 102 undef = (.bool true) := rd (hT.at 44 (by kernel_rfl) (pre_of hpre 44 (by kernel_rfl)))
      refine op_go hoi (want_all rfl) fun K hK => ?_
      clear hT hpre hun hlit hoi
      go_simp
      exact hK _ _ ⟨(), fun _ _ => rfl, rfl, uc0, uc1, vc0, vc1, sac0, sac1, sbc0, sbc1, dac0, dac1, dbc0, dbc1, nac0, nac1, nbc0, nbc1, HB⟩
    · have hlit : (regOps Tryd.f6 7)[46]? = some ({ dst := some 104, op := Op.move (Operand.tmp 103), type := 4, pos := "law.go:35", after := #[{ on := 45, ground := Ground.data }, { on := 43, ground := Ground.chain }], guard := none }) := by kernel_rfl
      obtain rfl := Option.some.inj (hlit.symm.trans hoi)
      have r103 : b.tmps.getD 103 undef = (.bool true) := rd (hT.at 45 (by kernel_rfl) (pre_of hpre 45 (by kernel_rfl)))
      refine op_go hoi (want_all rfl) fun K hK => ?_
      clear hT hpre hun hlit hoi
      go_simp
      exact hK _ _ ⟨(), fun _ _ => rfl, rfl, uc0, uc1, vc0, vc1, sac0, sac1, sbc0, sbc1, dac0, dac1, dbc0, dbc1, nac0, nac1, nbc0, nbc1, HB⟩
    · have hlit : (regOps Tryd.f6 7)[47]? = some ({ dst := some 105, op := Op.move (Operand.tmp 2), type := 3, pos := "law.go:35", after := #[{ on := 46, ground := Ground.guard }], guard := some (46, true) }) := by kernel_rfl
      obtain rfl := Option.some.inj (hlit.symm.trans hoi)
      have r2 : b.tmps.getD 2 undef = (.int .i64 nn) := rd ((hT.old 2 (by kernel_rfl)).trans t2)
      refine op_go hoi (want_yes rfl (d := 104) (by kernel_rfl) (hT.at 46 (by kernel_rfl) (pre_of hpre 46 (by kernel_rfl)))) fun K hK => ?_
      clear hT hpre hun hlit hoi
      go_simp
      exact hK _ _ ⟨(), fun _ _ => rfl, rfl, uc0, uc1, vc0, vc1, sac0, sac1, sbc0, sbc1, dac0, dac1, dbc0, dbc1, nac0, nac1, nbc0, nbc1, HB⟩
    · have hlit : (regOps Tryd.f6 7)[48]? = some ({ dst := some 106, op := Op.call { callee := Callee.value (Operand.func 26), args := #[Operand.tmp 105], argTypes := #[3] }, type := 24, pos := "law.go:35", after := #[{ on := 47, ground := Ground.data }, { on := 46, ground := Ground.chain }, { on := 46, ground := Ground.guard }], guard := some (46, true) }) := by kernel_rfl
      obtain rfl := Option.some.inj (hlit.symm.trans hoi)
      have r105 : b.tmps.getD 105 undef = (.int .i64 nn) := rd (hT.at 47 (by kernel_rfl) (pre_of hpre 47 (by kernel_rfl)))
      refine op_go hoi (want_yes rfl (d := 104) (by kernel_rfl) (hT.at 46 (by kernel_rfl) (pre_of hpre 46 (by kernel_rfl)))) fun K hK => ?_
      clear hT hpre hun hlit hoi
      go_simp
      go_at_call 26
      refine (m7 _).mono ?_; rintro e w2 ⟨rfl, hb⟩; replace uc0 := ck hb (a := ⟨ku, 0, none⟩) (v := .int .i64 u0) (by go_simp); replace uc1 := ck hb (a := ⟨ku, 1, none⟩) (v := .int .u64 u1) (by go_simp); replace vc0 := ck hb (a := ⟨kv, 0, none⟩) (v := .int .i64 v0) (by go_simp); replace vc1 := ck hb (a := ⟨kv, 1, none⟩) (v := .int .u64 v1) (by go_simp); replace sac0 := ck hb (a := ⟨ka, 0, none⟩) (v := .int .i64 s0) (by go_simp); replace sac1 := ck hb (a := ⟨ka, 1, none⟩) (v := .int .u64 s1) (by go_simp); replace sbc0 := ck hb (a := ⟨kb, 0, none⟩) (v := .int .i64 s0) (by go_simp); replace sbc1 := ck hb (a := ⟨kb, 1, none⟩) (v := .int .u64 s1) (by go_simp); replace dac0 := ck hb (a := ⟨kc, 0, none⟩) (v := .int .i64 d0) (by go_simp); replace dac1 := ck hb (a := ⟨kc, 1, none⟩) (v := .int .u64 d1) (by go_simp); replace dbc0 := ck hb (a := ⟨kd, 0, none⟩) (v := .int .i64 d0) (by go_simp); replace dbc1 := ck hb (a := ⟨kd, 1, none⟩) (v := .int .u64 d1) (by go_simp); replace nac0 := ck hb (a := ⟨ke, 0, none⟩) (v := .int .i64 n0) (by go_simp); replace nac1 := ck hb (a := ⟨ke, 1, none⟩) (v := .int .u64 n1) (by go_simp); replace nbc0 := ck hb (a := ⟨kf, 0, none⟩) (v := .int .i64 n0) (by go_simp); replace nbc1 := ck hb (a := ⟨kf, 1, none⟩) (v := .int .u64 n1) (by go_simp); replace HB : Below W.heap.size W w2 := bt HB hb; clear hb
      exact hK _ _ ⟨(), fun _ _ => rfl, rfl, uc0, uc1, vc0, vc1, sac0, sac1, sbc0, sbc1, dac0, dac1, dbc0, dbc1, nac0, nac1, nbc0, nbc1, HB⟩
    · have hlit : (regOps Tryd.f6 7)[49]? = some ({ dst := some 107, op := Op.call { callee := Callee.value (Operand.func 17), args := #[Operand.tmp 106], argTypes := #[24] }, type := 37, pos := "law.go:35", after := #[{ on := 48, ground := Ground.data }, { on := 48, ground := Ground.chain }, { on := 46, ground := Ground.guard }], guard := some (46, true) }) := by kernel_rfl
      obtain rfl := Option.some.inj (hlit.symm.trans hoi)
      have r106 : b.tmps.getD 106 undef = (.agg #[.int .i64 f0, .int .u64 f1]) := rd (hT.at 48 (by kernel_rfl) (pre_of hpre 48 (by kernel_rfl)))
      refine op_go hoi (want_yes rfl (d := 104) (by kernel_rfl) (hT.at 46 (by kernel_rfl) (pre_of hpre 46 (by kernel_rfl)))) fun K hK => ?_
      clear hT hpre hun hlit hoi
      go_simp
      go_at_call 17
      refine (of17 _ _ _).mono ?_; rintro e w2 ⟨rfl, hb⟩; replace uc0 := ck hb (a := ⟨ku, 0, none⟩) (v := .int .i64 u0) (by go_simp); replace uc1 := ck hb (a := ⟨ku, 1, none⟩) (v := .int .u64 u1) (by go_simp); replace vc0 := ck hb (a := ⟨kv, 0, none⟩) (v := .int .i64 v0) (by go_simp); replace vc1 := ck hb (a := ⟨kv, 1, none⟩) (v := .int .u64 v1) (by go_simp); replace sac0 := ck hb (a := ⟨ka, 0, none⟩) (v := .int .i64 s0) (by go_simp); replace sac1 := ck hb (a := ⟨ka, 1, none⟩) (v := .int .u64 s1) (by go_simp); replace sbc0 := ck hb (a := ⟨kb, 0, none⟩) (v := .int .i64 s0) (by go_simp); replace sbc1 := ck hb (a := ⟨kb, 1, none⟩) (v := .int .u64 s1) (by go_simp); replace dac0 := ck hb (a := ⟨kc, 0, none⟩) (v := .int .i64 d0) (by go_simp); replace dac1 := ck hb (a := ⟨kc, 1, none⟩) (v := .int .u64 d1) (by go_simp); replace dbc0 := ck hb (a := ⟨kd, 0, none⟩) (v := .int .i64 d0) (by go_simp); replace dbc1 := ck hb (a := ⟨kd, 1, none⟩) (v := .int .u64 d1) (by go_simp); replace nac0 := ck hb (a := ⟨ke, 0, none⟩) (v := .int .i64 n0) (by go_simp); replace nac1 := ck hb (a := ⟨ke, 1, none⟩) (v := .int .u64 n1) (by go_simp); replace nbc0 := ck hb (a := ⟨kf, 0, none⟩) (v := .int .i64 n0) (by go_simp); replace nbc1 := ck hb (a := ⟨kf, 1, none⟩) (v := .int .u64 n1) (by go_simp); replace HB : Below W.heap.size W w2 := bt HB hb; clear hb
      exact hK _ _ ⟨(), fun _ _ => rfl, rfl, uc0, uc1, vc0, vc1, sac0, sac1, sbc0, sbc1, dac0, dac1, dbc0, dbc1, nac0, nac1, nbc0, nbc1, HB⟩
    · have hlit : (regOps Tryd.f6 7)[50]? = some ({ dst := some 108, op := Op.move (Operand.tmp 2), type := 3, pos := "law.go:35", after := #[{ on := 46, ground := Ground.guard }], guard := some (46, true) }) := by kernel_rfl
      obtain rfl := Option.some.inj (hlit.symm.trans hoi)
      have r2 : b.tmps.getD 2 undef = (.int .i64 nn) := rd ((hT.old 2 (by kernel_rfl)).trans t2)
      refine op_go hoi (want_yes rfl (d := 104) (by kernel_rfl) (hT.at 46 (by kernel_rfl) (pre_of hpre 46 (by kernel_rfl)))) fun K hK => ?_
      clear hT hpre hun hlit hoi
      go_simp
      exact hK _ _ ⟨(), fun _ _ => rfl, rfl, uc0, uc1, vc0, vc1, sac0, sac1, sbc0, sbc1, dac0, dac1, dbc0, dbc1, nac0, nac1, nbc0, nbc1, HB⟩
    · have hlit : (regOps Tryd.f6 7)[51]? = some ({ dst := some 109, op := Op.call { callee := Callee.value (Operand.func 27), args := #[Operand.tmp 108], argTypes := #[3] }, type := 37, pos := "law.go:35", after := #[{ on := 50, ground := Ground.data }, { on := 49, ground := Ground.chain }, { on := 46, ground := Ground.guard }], guard := some (46, true) }) := by kernel_rfl
      obtain rfl := Option.some.inj (hlit.symm.trans hoi)
      have r108 : b.tmps.getD 108 undef = (.int .i64 nn) := rd (hT.at 50 (by kernel_rfl) (pre_of hpre 50 (by kernel_rfl)))
      refine op_go hoi (want_yes rfl (d := 104) (by kernel_rfl) (hT.at 46 (by kernel_rfl) (pre_of hpre 46 (by kernel_rfl)))) fun K hK => ?_
      clear hT hpre hun hlit hoi
      go_simp
      go_at_call 27
      refine (m8 _).mono ?_; rintro e w2 ⟨rfl, hb⟩; replace uc0 := ck hb (a := ⟨ku, 0, none⟩) (v := .int .i64 u0) (by go_simp); replace uc1 := ck hb (a := ⟨ku, 1, none⟩) (v := .int .u64 u1) (by go_simp); replace vc0 := ck hb (a := ⟨kv, 0, none⟩) (v := .int .i64 v0) (by go_simp); replace vc1 := ck hb (a := ⟨kv, 1, none⟩) (v := .int .u64 v1) (by go_simp); replace sac0 := ck hb (a := ⟨ka, 0, none⟩) (v := .int .i64 s0) (by go_simp); replace sac1 := ck hb (a := ⟨ka, 1, none⟩) (v := .int .u64 s1) (by go_simp); replace sbc0 := ck hb (a := ⟨kb, 0, none⟩) (v := .int .i64 s0) (by go_simp); replace sbc1 := ck hb (a := ⟨kb, 1, none⟩) (v := .int .u64 s1) (by go_simp); replace dac0 := ck hb (a := ⟨kc, 0, none⟩) (v := .int .i64 d0) (by go_simp); replace dac1 := ck hb (a := ⟨kc, 1, none⟩) (v := .int .u64 d1) (by go_simp); replace dbc0 := ck hb (a := ⟨kd, 0, none⟩) (v := .int .i64 d0) (by go_simp); replace dbc1 := ck hb (a := ⟨kd, 1, none⟩) (v := .int .u64 d1) (by go_simp); replace nac0 := ck hb (a := ⟨ke, 0, none⟩) (v := .int .i64 n0) (by go_simp); replace nac1 := ck hb (a := ⟨ke, 1, none⟩) (v := .int .u64 n1) (by go_simp); replace nbc0 := ck hb (a := ⟨kf, 0, none⟩) (v := .int .i64 n0) (by go_simp); replace nbc1 := ck hb (a := ⟨kf, 1, none⟩) (v := .int .u64 n1) (by go_simp); replace HB : Below W.heap.size W w2 := bt HB hb; clear hb
      exact hK _ _ ⟨(), fun _ _ => rfl, rfl, uc0, uc1, vc0, vc1, sac0, sac1, sbc0, sbc1, dac0, dac1, dbc0, dbc1, nac0, nac1, nbc0, nbc1, HB⟩
    · have hlit : (regOps Tryd.f6 7)[52]? = some ({ dst := some 110, op := Op.binOp BinOp.eql 37 (Operand.tmp 107) (Operand.tmp 109) 37, type := 4, pos := "law.go:35", after := #[{ on := 49, ground := Ground.data }, { on := 51, ground := Ground.data }, { on := 46, ground := Ground.guard }], guard := some (46, true) }) := by kernel_rfl
      obtain rfl := Option.some.inj (hlit.symm.trans hoi)
      have r107 : b.tmps.getD 107 undef = (.agg #[.int .i64 f0, .int .u64 f1]) := rd (hT.at 49 (by kernel_rfl) (pre_of hpre 49 (by kernel_rfl)))
      have r109 : b.tmps.getD 109 undef = (.agg #[.int .i64 f0, .int .u64 f1]) := rd (hT.at 51 (by kernel_rfl) (pre_of hpre 51 (by kernel_rfl)))
      refine op_go hoi (want_yes rfl (d := 104) (by kernel_rfl) (hT.at 46 (by kernel_rfl) (pre_of hpre 46 (by kernel_rfl)))) fun K hK => ?_
      clear hT hpre hun hlit hoi
      go_simp
      exact hK _ _ ⟨(), fun _ _ => rfl, rfl, uc0, uc1, vc0, vc1, sac0, sac1, sbc0, sbc1, dac0, dac1, dbc0, dbc1, nac0, nac1, nbc0, nbc1, HB⟩
    · have hlit : (regOps Tryd.f6 7)[53]? = some ({ dst := some 111, op := Op.pick (Operand.tmp 104) (Operand.tmp 110) (Operand.const (Value.bool false)), type := 4, pos := "law.go:35", after := #[{ on := 46, ground := Ground.data }, { on := 52, ground := Ground.data }], guard := none }) := by kernel_rfl
      obtain rfl := Option.some.inj (hlit.symm.trans hoi)
      have r104 : b.tmps.getD 104 undef = (.bool true) := rd (hT.at 46 (by kernel_rfl) (pre_of hpre 46 (by kernel_rfl)))
      have r110 : b.tmps.getD 110 undef = (.bool true) := rd (hT.at 52 (by kernel_rfl) (pre_of hpre 52 (by kernel_rfl)))
      refine op_go hoi (want_all rfl) fun K hK => ?_
      clear hT hpre hun hlit hoi
      go_simp
      exact hK _ _ ⟨(), fun _ _ => rfl, rfl, uc0, uc1, vc0, vc1, sac0, sac1, sbc0, sbc1, dac0, dac1, dbc0, dbc1, nac0, nac1, nbc0, nbc1, HB⟩
    · have hlit : (regOps Tryd.f6 7)[54]? = some ({ dst := some 112, op := Op.move (Operand.tmp 111), type := 4, pos := "law.go:35", after := #[{ on := 53, ground := Ground.data }, { on := 51, ground := Ground.chain }], guard := none }) := by kernel_rfl
      obtain rfl := Option.some.inj (hlit.symm.trans hoi)
      have r111 : b.tmps.getD 111 undef = (.bool true) := rd (hT.at 53 (by kernel_rfl) (pre_of hpre 53 (by kernel_rfl)))
      refine op_go hoi (want_all rfl) fun K hK => ?_
      clear hT hpre hun hlit hoi
      go_simp
      exact hK _ _ ⟨(), fun _ _ => rfl, rfl, uc0, uc1, vc0, vc1, sac0, sac1, sbc0, sbc1, dac0, dac1, dbc0, dbc1, nac0, nac1, nbc0, nbc1, HB⟩
    · have hlit : (regOps Tryd.f6 7)[55]? = some ({ dst := some 113, op := Op.call { callee := Callee.value (Operand.func 9), args := #[], argTypes := #[] }, type := 4, pos := "law.go:35", after := #[{ on := 54, ground := Ground.chain }, { on := 54, ground := Ground.guard }], guard := some (54, true) }) := by kernel_rfl
      obtain rfl := Option.some.inj (hlit.symm.trans hoi)
      refine op_go hoi (want_yes rfl (d := 112) (by kernel_rfl) (hT.at 54 (by kernel_rfl) (pre_of hpre 54 (by kernel_rfl)))) fun K hK => ?_
      clear hT hpre hun hlit hoi
      go_simp
      go_at_call 9
      refine (awake9 _ (tab_below htab HB)).mono ?_; rintro e w2 ⟨rfl, hb⟩; replace uc0 := ck hb (a := ⟨ku, 0, none⟩) (v := .int .i64 u0) (by go_simp); replace uc1 := ck hb (a := ⟨ku, 1, none⟩) (v := .int .u64 u1) (by go_simp); replace vc0 := ck hb (a := ⟨kv, 0, none⟩) (v := .int .i64 v0) (by go_simp); replace vc1 := ck hb (a := ⟨kv, 1, none⟩) (v := .int .u64 v1) (by go_simp); replace sac0 := ck hb (a := ⟨ka, 0, none⟩) (v := .int .i64 s0) (by go_simp); replace sac1 := ck hb (a := ⟨ka, 1, none⟩) (v := .int .u64 s1) (by go_simp); replace sbc0 := ck hb (a := ⟨kb, 0, none⟩) (v := .int .i64 s0) (by go_simp); replace sbc1 := ck hb (a := ⟨kb, 1, none⟩) (v := .int .u64 s1) (by go_simp); replace dac0 := ck hb (a := ⟨kc, 0, none⟩) (v := .int .i64 d0) (by go_simp); replace dac1 := ck hb (a := ⟨kc, 1, none⟩) (v := .int .u64 d1) (by go_simp); replace dbc0 := ck hb (a := ⟨kd, 0, none⟩) (v := .int .i64 d0) (by go_simp); replace dbc1 := ck hb (a := ⟨kd, 1, none⟩) (v := .int .u64 d1) (by go_simp); replace nac0 := ck hb (a := ⟨ke, 0, none⟩) (v := .int .i64 n0) (by go_simp); replace nac1 := ck hb (a := ⟨ke, 1, none⟩) (v := .int .u64 n1) (by go_simp); replace nbc0 := ck hb (a := ⟨kf, 0, none⟩) (v := .int .i64 n0) (by go_simp); replace nbc1 := ck hb (a := ⟨kf, 1, none⟩) (v := .int .u64 n1) (by go_simp); replace HB : Below W.heap.size W w2 := bt HB hb; clear hb
      exact hK _ _ ⟨(), fun _ _ => rfl, rfl, uc0, uc1, vc0, vc1, sac0, sac1, sbc0, sbc1, dac0, dac1, dbc0, dbc1, nac0, nac1, nbc0, nbc1, HB⟩
    · have hlit : (regOps Tryd.f6 7)[56]? = some ({ dst := some 114, op := Op.pick (Operand.tmp 112) (Operand.tmp 113) (Operand.const (Value.bool false)), type := 4, pos := "law.go:35", after := #[{ on := 54, ground := Ground.data }, { on := 55, ground := Ground.data }], guard := none }) := by kernel_rfl
      obtain rfl := Option.some.inj (hlit.symm.trans hoi)
      have r112 : b.tmps.getD 112 undef = (.bool true) := rd (hT.at 54 (by kernel_rfl) (pre_of hpre 54 (by kernel_rfl)))
      have r113 : b.tmps.getD 113 undef = (.bool true) := rd (hT.at 55 (by kernel_rfl) (pre_of hpre 55 (by kernel_rfl)))
      refine op_go hoi (want_all rfl) fun K hK => ?_
      clear hT hpre hun hlit hoi
      go_simp
      exact hK _ _ ⟨(), fun _ _ => rfl, rfl, uc0, uc1, vc0, vc1, sac0, sac1, sbc0, sbc1, dac0, dac1, dbc0, dbc1, nac0, nac1, nbc0, nbc1, HB⟩
    · have hlit : (regOps Tryd.f6 7)[57]? = some ({ dst := some 6, op := Op.assign (Operand.tmp 114), type := 4, pos := "law.go:35", after := #[{ on := 56, ground := Ground.data }, { on := 55, ground := Ground.chain }, { on := 0, ground := Ground.phase }, { on := 1, ground := Ground.phase }, { on := 2, ground := Ground.phase }, { on := 3, ground := Ground.phase }, { on := 4, ground := Ground.phase }, { on := 5, ground := Ground.phase }, { on := 6, ground := Ground.phase }, { on := 7, ground := Ground.phase }, { on := 8, ground := Ground.phase }, { on := 9, ground := Ground.phase }, { on := 10, ground := Ground.phase }, { on := 11, ground := Ground.phase }, { on := 12, ground := Ground.phase }, { on := 13, ground := Ground.phase }, { on := 14, ground := Ground.phase }, { on := 15, ground := Ground.phase }, { on := 16, ground := Ground.phase }, { on := 17, ground := Ground.phase }, { on := 18, ground := Ground.phase }, { on := 19, ground := Ground.phase }, { on := 20, ground := Ground.phase }, { on := 21, ground := Ground.phase }, { on := 22, ground := Ground.phase }, { on := 23, ground := Ground.phase }, { on := 24, ground := Ground.phase }, { on := 25, ground := Ground.phase }, { on := 26, ground := Ground.phase }, { on := 27, ground := Ground.phase }, { on := 28, ground := Ground.phase }, { on := 29, ground := Ground.phase }, { on := 30, ground := Ground.phase }, { on := 31, ground := Ground.phase }, { on := 32, ground := Ground.phase }, { on := 33, ground := Ground.phase }, { on := 34, ground := Ground.phase }, { on := 35, ground := Ground.phase }, { on := 36, ground := Ground.phase }, { on := 37, ground := Ground.phase }, { on := 38, ground := Ground.phase }, { on := 39, ground := Ground.phase }, { on := 40, ground := Ground.phase }, { on := 41, ground := Ground.phase }, { on := 42, ground := Ground.phase }, { on := 43, ground := Ground.phase }, { on := 44, ground := Ground.phase }, { on := 45, ground := Ground.phase }, { on := 46, ground := Ground.phase }, { on := 47, ground := Ground.phase }, { on := 48, ground := Ground.phase }, { on := 49, ground := Ground.phase }, { on := 50, ground := Ground.phase }, { on := 51, ground := Ground.phase }, { on := 52, ground := Ground.phase }, { on := 53, ground := Ground.phase }, { on := 54, ground := Ground.phase }, { on := 55, ground := Ground.phase }, { on := 56, ground := Ground.phase }], guard := none }) := by kernel_rfl
      obtain rfl := Option.some.inj (hlit.symm.trans hoi)
      have r114 : b.tmps.getD 114 undef = (.bool true) := rd (hT.at 56 (by kernel_rfl) (pre_of hpre 56 (by kernel_rfl)))
      refine op_go hoi (want_all rfl) fun K hK => ?_
      clear hT hpre hun hlit hoi
      go_simp
      exact hK _ _ ⟨(), fun _ _ => rfl, rfl, uc0, uc1, vc0, vc1, sac0, sac1, sbc0, sbc1, dac0, dac1, dbc0, dbc1, nac0, nac1, nbc0, nbc1, HB⟩
  · intro g b w' hT hS
    rw [hT.all ht]
    have hn : (regOps Tryd.f6 7).size = 58 := by kernel_rfl
    rw [hn]
    exact he w' hS
end Go.Proofs.YtkamnnkdadfebaaDoor
