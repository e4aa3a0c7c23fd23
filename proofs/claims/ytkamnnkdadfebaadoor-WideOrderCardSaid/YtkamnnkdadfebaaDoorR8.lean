import Derived.Test.YtkamnnkdadfebaaDoorRg
import Derived.Test.YtkamnnkdadfebaaDoorB7
namespace Go.Proofs.YtkamnnkdadfebaaDoor
open Go.RowKit
attribute [local go_sem high] eq24 eq37


/-- What each operation of the region leaves. -/
def region8_7_0V (sx u0 u1 : Int) : Nat → Value
  | 0 => .bool false
  | 1 => .bool true
  | 2 => .bool true
  | 3 => undef
  | 4 => undef
  | 5 => .bool true
  | 6 => .bool true
  | 7 => undef
  | 8 => undef
  | 9 => undef
  | 10 => undef
  | 11 => undef
  | 12 => undef
  | 13 => .bool true
  | 14 => .bool true
  | 15 => .agg #[.int .i64 u0, .int .u64 u1]
  | 16 => .int .i64 sx
  | 17 => .agg #[.int .i64 u0, .int .u64 u1]
  | 18 => .agg #[.int .i64 0, .int .u64 0]
  | 19 => .int .i64 sx
  | 20 => .bool true
  | 21 => .bool true
  | 22 => .bool true
  | 23 => .bool true
  | 24 => .bool true
  | 25 => .bool true
  | _ => undef

set_option maxHeartbeats 4000000 in
set_option maxRecDepth 100000 in
theorem region8_7_0 (n nn sx u0 u1 f0 f1 g0 g1 : Int) (kx ka kb : Nat) (W : World) (htab : Tab W) (m2 : ∀ w : World, Calls Tryd.prog 15 #[.agg #[.int .i64 u0, .int .u64 u1]] w fun e w' => e = .returned (.int .i64 sx) ∧ Below w.heap.size w w') (m3 : ∀ w : World, Calls Tryd.prog 23 #[.agg #[.int .i64 u0, .int .u64 u1], .agg #[.int .i64 0, .int .u64 0]] w fun e w' => e = .returned (.int .i64 sx) ∧ Below w.heap.size w w') {id : Nat} {ops : Array Oper} {Q : Exit → Act → World → Prop} {a : Act} {w : World}
    (ho : ops = (regOps Tryd.f8 7)) (hsz : a.tmps.size = 97) (t7 : a.tmps[7]? = some (.int .i64 n)) (t3 : a.tmps[3]? = some (.pointer (some ⟨kx, 0, none⟩))) (t10 : a.tmps[10]? = some (.pointer (some ⟨ka, 0, none⟩))) (t12 : a.tmps[12]? = some (.pointer (some ⟨kb, 0, none⟩))) (t11 : a.tmps[11]? = some (.bool false))
    (h0 : w.drew.cell? ⟨kx, 0, none⟩ = some (.int .i64 u0) ∧ w.drew.cell? ⟨kx, 1, none⟩ = some (.int .u64 u1) ∧ w.drew.cell? ⟨ka, 0, none⟩ = some (.int .i64 f0) ∧ w.drew.cell? ⟨ka, 1, none⟩ = some (.int .u64 f1) ∧ w.drew.cell? ⟨kb, 0, none⟩ = some (.int .i64 g0) ∧ w.drew.cell? ⟨kb, 1, none⟩ = some (.int .u64 g1) ∧ Below W.heap.size W w.drew)
    (he : ∀ w', w'.cell? ⟨kx, 0, none⟩ = some (.int .i64 u0) ∧ w'.cell? ⟨kx, 1, none⟩ = some (.int .u64 u1) ∧ w'.cell? ⟨ka, 0, none⟩ = some (.int .i64 f0) ∧ w'.cell? ⟨ka, 1, none⟩ = some (.int .u64 f1) ∧ w'.cell? ⟨kb, 0, none⟩ = some (.int .i64 g0) ∧ w'.cell? ⟨kb, 1, none⟩ = some (.int .u64 g1) ∧ Below W.heap.size W w' → Q .normal ⟨((((((((((((((((((((((((((a.tmps.setIfInBounds 72 (.bool false)).setIfInBounds 73 (.bool true)).setIfInBounds 74 (.bool true)).setIfInBounds 75 (undef)).setIfInBounds 76 (undef)).setIfInBounds 77 (.bool true)).setIfInBounds 78 (.bool true)).setIfInBounds 79 (undef)).setIfInBounds 80 (undef)).setIfInBounds 81 (undef)).setIfInBounds 82 (undef)).setIfInBounds 83 (undef)).setIfInBounds 84 (undef)).setIfInBounds 85 (.bool true)).setIfInBounds 86 (.bool true)).setIfInBounds 87 (.agg #[.int .i64 u0, .int .u64 u1])).setIfInBounds 88 (.int .i64 sx)).setIfInBounds 89 (.agg #[.int .i64 u0, .int .u64 u1])).setIfInBounds 90 (.agg #[.int .i64 0, .int .u64 0])).setIfInBounds 91 (.int .i64 sx)).setIfInBounds 92 (.bool true)).setIfInBounds 93 (.bool true)).setIfInBounds 94 (.bool true)).setIfInBounds 95 (.bool true)).setIfInBounds 96 (.bool true)).setIfInBounds 6 (.bool true)), a.defers⟩ w') :
    (Code.region id ops true).wp Tryd.prog Q a w := by
  have ht : tidy (regOps Tryd.f8 7) a.tmps.size = true := by rw [hsz]; kernel_rfl
  refine region_tab (G := Unit) (fun _ => (region8_7_0V sx u0 u1  )) (fun _ _ w' => w'.cell? ⟨kx, 0, none⟩ = some (.int .i64 u0) ∧ w'.cell? ⟨kx, 1, none⟩ = some (.int .u64 u1) ∧ w'.cell? ⟨ka, 0, none⟩ = some (.int .i64 f0) ∧ w'.cell? ⟨ka, 1, none⟩ = some (.int .u64 f1) ∧ w'.cell? ⟨kb, 0, none⟩ = some (.int .i64 g0) ∧ w'.cell? ⟨kb, 1, none⟩ = some (.int .u64 g1) ∧ Below W.heap.size W w') () (by kernel_rfl) ho ht h0 ?_ ?_
  · intro i o hoi g L b w' hun hpre hT hS
    clear he h0 ho hsz ht
    have hi : i < (regOps Tryd.f8 7).size := (Array.getElem?_eq_some_iff.1 hoi).1
    rw [show (regOps Tryd.f8 7).size = 26 by kernel_rfl] at hi
    obtain ⟨uc0, uc1, fc0, fc1, gc0, gc1, HB⟩ := hS
    have hcases : i = 0 ∨ i = 1 ∨ i = 2 ∨ i = 3 ∨ i = 4 ∨ i = 5 ∨ i = 6 ∨ i = 7 ∨ i = 8 ∨ i = 9 ∨ i = 10 ∨ i = 11 ∨ i = 12 ∨ i = 13 ∨ i = 14 ∨ i = 15 ∨ i = 16 ∨ i = 17 ∨ i = 18 ∨ i = 19 ∨ i = 20 ∨ i = 21 ∨ i = 22 ∨ i = 23 ∨ i = 24 ∨ i = 25 := by omega
    rcases hcases with rfl | rfl | rfl | rfl | rfl | rfl | rfl | rfl | rfl | rfl | rfl | rfl | rfl | rfl | rfl | rfl | rfl | rfl | rfl | rfl | rfl | rfl | rfl | rfl | rfl | rfl
    · have hlit : (regOps Tryd.f8 7)[0]? = some ({ dst := some 72, op := Op.move (Operand.tmp 11), type := 4, pos := "law.go:80", after := #[], guard := none }) := by kernel_rfl
      obtain rfl := Option.some.inj (hlit.symm.trans hoi)
      have r11 : b.tmps.getD 11 undef = (.bool false) := rd ((hT.old 11 (by kernel_rfl)).trans t11)
      refine op_go hoi (want_all rfl) fun K hK => ?_
      clear hT hpre hun hlit hoi
      go_simp
      exact hK _ _ ⟨(), fun _ _ => rfl, rfl, uc0, uc1, fc0, fc1, gc0, gc1, HB⟩
    · have hlit : (regOps Tryd.f8 7)[1]? = some ({ dst := some 73, op := Op.unOp UnOp.not 4 (Operand.tmp 72), type := 4, pos := "law.go:80", after := #[{ on := 0, ground := Ground.data }], guard := none }) := by kernel_rfl
      obtain rfl := Option.some.inj (hlit.symm.trans hoi)
      have r72 : b.tmps.getD 72 undef = (.bool false) := rd (hT.at 0 (by kernel_rfl) (pre_of hpre 0 (by kernel_rfl)))
      refine op_go hoi (want_all rfl) fun K hK => ?_
      clear hT hpre hun hlit hoi
      go_simp
      exact hK _ _ ⟨(), fun _ _ => rfl, rfl, uc0, uc1, fc0, fc1, gc0, gc1, HB⟩
    · have hlit : (regOps Tryd.f8 7)[2]? = some ({ dst := some 74, op := Op.move (Operand.tmp 73), type := 4, pos := "law.go:80", after := #[{ on := 1, ground := Ground.data }], guard := none }) := by kernel_rfl
      obtain rfl := Option.some.inj (hlit.symm.trans hoi)
      have r73 : b.tmps.getD 73 undef = (.bool true) := rd (hT.at 1 (by kernel_rfl) (pre_of hpre 1 (by kernel_rfl)))
      refine op_go hoi (want_all rfl) fun K hK => ?_
      clear hT hpre hun hlit hoi
      go_simp
      exact hK _ _ ⟨(), fun _ _ => rfl, rfl, uc0, uc1, fc0, fc1, gc0, gc1, HB⟩
    · have hlit : (regOps Tryd.f8 7)[3]? = some ({ dst := some 75, op := Op.move (Operand.tmp 13), type := 4, pos := "law.go:80", after := #[{ on := 2, ground := Ground.guard }], guard := some (2, false) }) := by kernel_rfl
      obtain rfl := Option.some.inj (hlit.symm.trans hoi)
      exact op_not hoi (want_no rfl (d := 74) (by kernel_rfl) (hT.at 2 (by kernel_rfl) (pre_of hpre 2 (by kernel_rfl)))) ⟨(), fun _ _ => rfl, rfl, uc0, uc1, fc0, fc1, gc0, gc1, HB⟩
    · have hlit : (regOps Tryd.f8 7)[4]? = some ({ dst := some 76, op := Op.unOp UnOp.not 4 (Operand.tmp 75), type := 4, pos := "law.go:80", after := #[{ on := 3, ground := Ground.data }, { on := 2, ground := Ground.guard }], guard := some (2, false) }) := by kernel_rfl
      obtain rfl := Option.some.inj (hlit.symm.trans hoi)
      exact op_not hoi (want_no rfl (d := 74) (by kernel_rfl) (hT.at 2 (by kernel_rfl) (pre_of hpre 2 (by kernel_rfl)))) ⟨(), fun _ _ => rfl, rfl, uc0, uc1, fc0, fc1, gc0, gc1, HB⟩
    · have hlit : (regOps Tryd.f8 7)[5]? = some ({ dst := some 77, op := Op.pick (Operand.tmp 74) (Operand.const (Value.bool true)) (Operand.tmp 76), type := 4, pos := "law.go:80", after := #[{ on := 2, ground := Ground.data }, { on := 4, ground := Ground.data }], guard := none }) := by kernel_rfl
      obtain rfl := Option.some.inj (hlit.symm.trans hoi)
      have r74 : b.tmps.getD 74 undef = (.bool true) := rd (hT.at 2 (by kernel_rfl) (pre_of hpre 2 (by kernel_rfl)))
      have r76 : b.tmps.getD 76 undef = (undef) := rd (hT.at 4 (by kernel_rfl) (pre_of hpre 4 (by kernel_rfl)))
      refine op_go hoi (want_all rfl) fun K hK => ?_
      clear hT hpre hun hlit hoi
      go_simp
      exact hK _ _ ⟨(), fun _ _ => rfl, rfl, uc0, uc1, fc0, fc1, gc0, gc1, HB⟩
    · have hlit : (regOps Tryd.f8 7)[6]? = some ({ dst := some 78, op := Op.move (Operand.tmp 77), type := 4, pos := "law.go:80", after := #[{ on := 5, ground := Ground.data }, { on := 2, ground := Ground.chain }], guard := none }) := by kernel_rfl
      obtain rfl := Option.some.inj (hlit.symm.trans hoi)
      have r77 : b.tmps.getD 77 undef = (.bool true) := rd (hT.at 5 (by kernel_rfl) (pre_of hpre 5 (by kernel_rfl)))
      refine op_go hoi (want_all rfl) fun K hK => ?_
      clear hT hpre hun hlit hoi
      go_simp
      exact hK _ _ ⟨(), fun _ _ => rfl, rfl, uc0, uc1, fc0, fc1, gc0, gc1, HB⟩
    · have hlit : (regOps Tryd.f8 7)[7]? = some ({ dst := some 79, op := Op.load 24 (Operand.tmp 10), type := 24, pos := "law.go:80", after := #[{ on := 6, ground := Ground.guard }], guard := some (6, false) }) := by kernel_rfl
      obtain rfl := Option.some.inj (hlit.symm.trans hoi)
      exact op_not hoi (want_no rfl (d := 78) (by kernel_rfl) (hT.at 6 (by kernel_rfl) (pre_of hpre 6 (by kernel_rfl)))) ⟨(), fun _ _ => rfl, rfl, uc0, uc1, fc0, fc1, gc0, gc1, HB⟩
    · have hlit : (regOps Tryd.f8 7)[8]? = some ({ dst := some 80, op := Op.load 24 (Operand.tmp 12), type := 24, pos := "law.go:80", after := #[{ on := 6, ground := Ground.guard }], guard := some (6, false) }) := by kernel_rfl
      obtain rfl := Option.some.inj (hlit.symm.trans hoi)
      exact op_not hoi (want_no rfl (d := 78) (by kernel_rfl) (hT.at 6 (by kernel_rfl) (pre_of hpre 6 (by kernel_rfl)))) ⟨(), fun _ _ => rfl, rfl, uc0, uc1, fc0, fc1, gc0, gc1, HB⟩
    · have hlit : (regOps Tryd.f8 7)[9]? = some ({ dst := some 81, op := Op.call { callee := Callee.value (Operand.func 23), args := #[Operand.tmp 79, Operand.tmp 80], argTypes := #[24, 24] }, type := 3, pos := "law.go:80", after := #[{ on := 7, ground := Ground.data }, { on := 8, ground := Ground.data }, { on := 6, ground := Ground.chain }, { on := 6, ground := Ground.guard }], guard := some (6, false) }) := by kernel_rfl
      obtain rfl := Option.some.inj (hlit.symm.trans hoi)
      exact op_not hoi (want_no rfl (d := 78) (by kernel_rfl) (hT.at 6 (by kernel_rfl) (pre_of hpre 6 (by kernel_rfl)))) ⟨(), fun _ _ => rfl, rfl, uc0, uc1, fc0, fc1, gc0, gc1, HB⟩
    · have hlit : (regOps Tryd.f8 7)[10]? = some ({ dst := some 82, op := Op.move (Operand.tmp 7), type := 3, pos := "law.go:80", after := #[{ on := 6, ground := Ground.guard }], guard := some (6, false) }) := by kernel_rfl
      obtain rfl := Option.some.inj (hlit.symm.trans hoi)
      exact op_not hoi (want_no rfl (d := 78) (by kernel_rfl) (hT.at 6 (by kernel_rfl) (pre_of hpre 6 (by kernel_rfl)))) ⟨(), fun _ _ => rfl, rfl, uc0, uc1, fc0, fc1, gc0, gc1, HB⟩
    · have hlit : (regOps Tryd.f8 7)[11]? = some ({ dst := some 83, op := Op.unOp UnOp.neg 3 (Operand.tmp 82), type := 3, pos := "law.go:80", after := #[{ on := 10, ground := Ground.data }, { on := 6, ground := Ground.guard }], guard := some (6, false) }) := by kernel_rfl
      obtain rfl := Option.some.inj (hlit.symm.trans hoi)
      exact op_not hoi (want_no rfl (d := 78) (by kernel_rfl) (hT.at 6 (by kernel_rfl) (pre_of hpre 6 (by kernel_rfl)))) ⟨(), fun _ _ => rfl, rfl, uc0, uc1, fc0, fc1, gc0, gc1, HB⟩
    · have hlit : (regOps Tryd.f8 7)[12]? = some ({ dst := some 84, op := Op.binOp BinOp.eql 3 (Operand.tmp 81) (Operand.tmp 83) 3, type := 4, pos := "law.go:80", after := #[{ on := 9, ground := Ground.data }, { on := 11, ground := Ground.data }, { on := 6, ground := Ground.guard }], guard := some (6, false) }) := by kernel_rfl
      obtain rfl := Option.some.inj (hlit.symm.trans hoi)
      exact op_not hoi (want_no rfl (d := 78) (by kernel_rfl) (hT.at 6 (by kernel_rfl) (pre_of hpre 6 (by kernel_rfl)))) ⟨(), fun _ _ => rfl, rfl, uc0, uc1, fc0, fc1, gc0, gc1, HB⟩
    · have hlit : (regOps Tryd.f8 7)[13]? = some ({ dst := some 85, op := Op.pick (Operand.tmp 78) (Operand.const (Value.bool true)) (Operand.tmp 84), type := 4, pos := "law.go:80", after := #[{ on := 6, ground := Ground.data }, { on := 12, ground := Ground.data }], guard := none }) := by kernel_rfl
      obtain rfl := Option.some.inj (hlit.symm.trans hoi)
      have r78 : b.tmps.getD 78 undef = (.bool true) := rd (hT.at 6 (by kernel_rfl) (pre_of hpre 6 (by kernel_rfl)))
      have r84 : b.tmps.getD 84 undef = (undef) := rd (hT.at 12 (by kernel_rfl) (pre_of hpre 12 (by kernel_rfl)))
      refine op_go hoi (want_all rfl) fun K hK => ?_
      clear hT hpre hun hlit hoi
      go_simp
      exact hK _ _ ⟨(), fun _ _ => rfl, rfl, uc0, uc1, fc0, fc1, gc0, gc1, HB⟩
    · have hlit : (regOps Tryd.f8 7)[14]? = some ({ dst := some 86, op := Op.move (Operand.tmp 85), type := 4, pos := "law.go:80", after := #[{ on := 13, ground := Ground.data }, { on := 9, ground := Ground.chain }], guard := none }) := by kernel_rfl
      obtain rfl := Option.some.inj (hlit.symm.trans hoi)
      have r85 : b.tmps.getD 85 undef = (.bool true) := rd (hT.at 13 (by kernel_rfl) (pre_of hpre 13 (by kernel_rfl)))
      refine op_go hoi (want_all rfl) fun K hK => ?_
      clear hT hpre hun hlit hoi
      go_simp
      exact hK _ _ ⟨(), fun _ _ => rfl, rfl, uc0, uc1, fc0, fc1, gc0, gc1, HB⟩
    · have hlit : (regOps Tryd.f8 7)[15]? = some ({ dst := some 87, op := Op.load 24 (Operand.tmp 3), type := 24, pos := "law.go:80", after := #[{ on := 14, ground := Ground.guard }], guard := some (14, true) }) := by kernel_rfl
      obtain rfl := Option.some.inj (hlit.symm.trans hoi)
      have r3 : b.tmps.getD 3 undef = (.pointer (some ⟨kx, 0, none⟩)) := rd ((hT.old 3 (by kernel_rfl)).trans t3)
      refine op_go hoi (want_yes rfl (d := 86) (by kernel_rfl) (hT.at 14 (by kernel_rfl) (pre_of hpre 14 (by kernel_rfl)))) fun K hK => ?_
      clear hT hpre hun hlit hoi
      go_simp
      exact hK _ _ ⟨(), fun _ _ => rfl, rfl, uc0, uc1, fc0, fc1, gc0, gc1, HB⟩
    · have hlit : (regOps Tryd.f8 7)[16]? = some ({ dst := some 88, op := Op.call { callee := Callee.value (Operand.func 15), args := #[Operand.tmp 87], argTypes := #[24] }, type := 3, pos := "law.go:80", after := #[{ on := 15, ground := Ground.data }, { on := 14, ground := Ground.chain }, { on := 14, ground := Ground.guard }], guard := some (14, true) }) := by kernel_rfl
      obtain rfl := Option.some.inj (hlit.symm.trans hoi)
      have r87 : b.tmps.getD 87 undef = (.agg #[.int .i64 u0, .int .u64 u1]) := rd (hT.at 15 (by kernel_rfl) (pre_of hpre 15 (by kernel_rfl)))
      refine op_go hoi (want_yes rfl (d := 86) (by kernel_rfl) (hT.at 14 (by kernel_rfl) (pre_of hpre 14 (by kernel_rfl)))) fun K hK => ?_
      clear hT hpre hun hlit hoi
      go_simp
      go_at_call 15
      refine (m2 _).mono ?_; rintro e w2 ⟨rfl, hb⟩; replace uc0 := ck hb (a := ⟨kx, 0, none⟩) (v := .int .i64 u0) (by go_simp); replace uc1 := ck hb (a := ⟨kx, 1, none⟩) (v := .int .u64 u1) (by go_simp); replace fc0 := ck hb (a := ⟨ka, 0, none⟩) (v := .int .i64 f0) (by go_simp); replace fc1 := ck hb (a := ⟨ka, 1, none⟩) (v := .int .u64 f1) (by go_simp); replace gc0 := ck hb (a := ⟨kb, 0, none⟩) (v := .int .i64 g0) (by go_simp); replace gc1 := ck hb (a := ⟨kb, 1, none⟩) (v := .int .u64 g1) (by go_simp); replace HB : Below W.heap.size W w2 := bt HB hb; clear hb
      exact hK _ _ ⟨(), fun _ _ => rfl, rfl, uc0, uc1, fc0, fc1, gc0, gc1, HB⟩
    · have hlit : (regOps Tryd.f8 7)[17]? = some ({ dst := some 89, op := Op.load 24 (Operand.tmp 3), type := 24, pos := "law.go:80", after := #[{ on := 14, ground := Ground.guard }], guard := some (14, true) }) := by kernel_rfl
      obtain rfl := Option.some.inj (hlit.symm.trans hoi)
      have r3 : b.tmps.getD 3 undef = (.pointer (some ⟨kx, 0, none⟩)) := rd ((hT.old 3 (by kernel_rfl)).trans t3)
      refine op_go hoi (want_yes rfl (d := 86) (by kernel_rfl) (hT.at 14 (by kernel_rfl) (pre_of hpre 14 (by kernel_rfl)))) fun K hK => ?_
      clear hT hpre hun hlit hoi
      go_simp
      exact hK _ _ ⟨(), fun _ _ => rfl, rfl, uc0, uc1, fc0, fc1, gc0, gc1, HB⟩
    · have hlit : (regOps Tryd.f8 7)[18]? = some ({ dst := some 90, op := Op.build 24 #[], type := 24, pos := "law.go:80", after := #[{ on := 14, ground := Ground.guard }], guard := some (14, true) }) := by kernel_rfl
      obtain rfl := Option.some.inj (hlit.symm.trans hoi)
      refine op_go hoi (want_yes rfl (d := 86) (by kernel_rfl) (hT.at 14 (by kernel_rfl) (pre_of hpre 14 (by kernel_rfl)))) fun K hK => ?_
      clear hT hpre hun hlit hoi
      go_simp
      exact hK _ _ ⟨(), fun _ _ => rfl, rfl, uc0, uc1, fc0, fc1, gc0, gc1, HB⟩
    · have hlit : (regOps Tryd.f8 7)[19]? = some ({ dst := some 91, op := Op.call { callee := Callee.value (Operand.func 23), args := #[Operand.tmp 89, Operand.tmp 90], argTypes := #[24, 24] }, type := 3, pos := "law.go:80", after := #[{ on := 17, ground := Ground.data }, { on := 18, ground := Ground.data }, { on := 16, ground := Ground.chain }, { on := 14, ground := Ground.guard }], guard := some (14, true) }) := by kernel_rfl
      obtain rfl := Option.some.inj (hlit.symm.trans hoi)
      have r89 : b.tmps.getD 89 undef = (.agg #[.int .i64 u0, .int .u64 u1]) := rd (hT.at 17 (by kernel_rfl) (pre_of hpre 17 (by kernel_rfl)))
      have r90 : b.tmps.getD 90 undef = (.agg #[.int .i64 0, .int .u64 0]) := rd (hT.at 18 (by kernel_rfl) (pre_of hpre 18 (by kernel_rfl)))
      refine op_go hoi (want_yes rfl (d := 86) (by kernel_rfl) (hT.at 14 (by kernel_rfl) (pre_of hpre 14 (by kernel_rfl)))) fun K hK => ?_
      clear hT hpre hun hlit hoi
      go_simp
      go_at_call 23
      refine (m3 _).mono ?_; rintro e w2 ⟨rfl, hb⟩; replace uc0 := ck hb (a := ⟨kx, 0, none⟩) (v := .int .i64 u0) (by go_simp); replace uc1 := ck hb (a := ⟨kx, 1, none⟩) (v := .int .u64 u1) (by go_simp); replace fc0 := ck hb (a := ⟨ka, 0, none⟩) (v := .int .i64 f0) (by go_simp); replace fc1 := ck hb (a := ⟨ka, 1, none⟩) (v := .int .u64 f1) (by go_simp); replace gc0 := ck hb (a := ⟨kb, 0, none⟩) (v := .int .i64 g0) (by go_simp); replace gc1 := ck hb (a := ⟨kb, 1, none⟩) (v := .int .u64 g1) (by go_simp); replace HB : Below W.heap.size W w2 := bt HB hb; clear hb
      exact hK _ _ ⟨(), fun _ _ => rfl, rfl, uc0, uc1, fc0, fc1, gc0, gc1, HB⟩
    · have hlit : (regOps Tryd.f8 7)[20]? = some ({ dst := some 92, op := Op.binOp BinOp.eql 3 (Operand.tmp 88) (Operand.tmp 91) 3, type := 4, pos := "law.go:80", after := #[{ on := 16, ground := Ground.data }, { on := 19, ground := Ground.data }, { on := 14, ground := Ground.guard }], guard := some (14, true) }) := by kernel_rfl
      obtain rfl := Option.some.inj (hlit.symm.trans hoi)
      have r88 : b.tmps.getD 88 undef = (.int .i64 sx) := rd (hT.at 16 (by kernel_rfl) (pre_of hpre 16 (by kernel_rfl)))
      have r91 : b.tmps.getD 91 undef = (.int .i64 sx) := rd (hT.at 19 (by kernel_rfl) (pre_of hpre 19 (by kernel_rfl)))
      refine op_go hoi (want_yes rfl (d := 86) (by kernel_rfl) (hT.at 14 (by kernel_rfl) (pre_of hpre 14 (by kernel_rfl)))) fun K hK => ?_
      clear hT hpre hun hlit hoi
      go_simp
      exact hK _ _ ⟨(), fun _ _ => rfl, rfl, uc0, uc1, fc0, fc1, gc0, gc1, HB⟩
    · have hlit : (regOps Tryd.f8 7)[21]? = some ({ dst := some 93, op := Op.pick (Operand.tmp 86) (Operand.tmp 92) (Operand.const (Value.bool false)), type := 4, pos := "law.go:80", after := #[{ on := 14, ground := Ground.data }, { on := 20, ground := Ground.data }], guard := none }) := by kernel_rfl
      obtain rfl := Option.some.inj (hlit.symm.trans hoi)
      have r86 : b.tmps.getD 86 undef = (.bool true) := rd (hT.at 14 (by kernel_rfl) (pre_of hpre 14 (by kernel_rfl)))
      have r92 : b.tmps.getD 92 undef = (.bool true) := rd (hT.at 20 (by kernel_rfl) (pre_of hpre 20 (by kernel_rfl)))
      refine op_go hoi (want_all rfl) fun K hK => ?_
      clear hT hpre hun hlit hoi
      go_simp
      exact hK _ _ ⟨(), fun _ _ => rfl, rfl, uc0, uc1, fc0, fc1, gc0, gc1, HB⟩
    · have hlit : (regOps Tryd.f8 7)[22]? = some ({ dst := some 94, op := Op.move (Operand.tmp 93), type := 4, pos := "law.go:80", after := #[{ on := 21, ground := Ground.data }, { on := 19, ground := Ground.chain }], guard := none }) := by kernel_rfl
      obtain rfl := Option.some.inj (hlit.symm.trans hoi)
      have r93 : b.tmps.getD 93 undef = (.bool true) := rd (hT.at 21 (by kernel_rfl) (pre_of hpre 21 (by kernel_rfl)))
      refine op_go hoi (want_all rfl) fun K hK => ?_
      clear hT hpre hun hlit hoi
      go_simp
      exact hK _ _ ⟨(), fun _ _ => rfl, rfl, uc0, uc1, fc0, fc1, gc0, gc1, HB⟩
    · have hlit : (regOps Tryd.f8 7)[23]? = some ({ dst := some 95, op := Op.call { callee := Callee.value (Operand.func 9), args := #[], argTypes := #[] }, type := 4, pos := "law.go:80", after := #[{ on := 22, ground := Ground.chain }, { on := 22, ground := Ground.guard }], guard := some (22, true) }) := by kernel_rfl
      obtain rfl := Option.some.inj (hlit.symm.trans hoi)
      refine op_go hoi (want_yes rfl (d := 94) (by kernel_rfl) (hT.at 22 (by kernel_rfl) (pre_of hpre 22 (by kernel_rfl)))) fun K hK => ?_
      clear hT hpre hun hlit hoi
      go_simp
      go_at_call 9
      refine (awake9 _ (tab_below htab HB)).mono ?_; rintro e w2 ⟨rfl, hb⟩; replace uc0 := ck hb (a := ⟨kx, 0, none⟩) (v := .int .i64 u0) (by go_simp); replace uc1 := ck hb (a := ⟨kx, 1, none⟩) (v := .int .u64 u1) (by go_simp); replace fc0 := ck hb (a := ⟨ka, 0, none⟩) (v := .int .i64 f0) (by go_simp); replace fc1 := ck hb (a := ⟨ka, 1, none⟩) (v := .int .u64 f1) (by go_simp); replace gc0 := ck hb (a := ⟨kb, 0, none⟩) (v := .int .i64 g0) (by go_simp); replace gc1 := ck hb (a := ⟨kb, 1, none⟩) (v := .int .u64 g1) (by go_simp); replace HB : Below W.heap.size W w2 := bt HB hb; clear hb
      exact hK _ _ ⟨(), fun _ _ => rfl, rfl, uc0, uc1, fc0, fc1, gc0, gc1, HB⟩
    · have hlit : (regOps Tryd.f8 7)[24]? = some ({ dst := some 96, op := Op.pick (Operand.tmp 94) (Operand.tmp 95) (Operand.const (Value.bool false)), type := 4, pos := "law.go:80", after := #[{ on := 22, ground := Ground.data }, { on := 23, ground := Ground.data }], guard := none }) := by kernel_rfl
      obtain rfl := Option.some.inj (hlit.symm.trans hoi)
      have r94 : b.tmps.getD 94 undef = (.bool true) := rd (hT.at 22 (by kernel_rfl) (pre_of hpre 22 (by kernel_rfl)))
      have r95 : b.tmps.getD 95 undef = (.bool true) := rd (hT.at 23 (by kernel_rfl) (pre_of hpre 23 (by kernel_rfl)))
      refine op_go hoi (want_all rfl) fun K hK => ?_
      clear hT hpre hun hlit hoi
      go_simp
      exact hK _ _ ⟨(), fun _ _ => rfl, rfl, uc0, uc1, fc0, fc1, gc0, gc1, HB⟩
    · have hlit : (regOps Tryd.f8 7)[25]? = some ({ dst := some 6, op := Op.assign (Operand.tmp 96), type := 4, pos := "law.go:80", after := #[{ on := 24, ground := Ground.data }, { on := 23, ground := Ground.chain }, { on := 0, ground := Ground.phase }, { on := 1, ground := Ground.phase }, { on := 2, ground := Ground.phase }, { on := 3, ground := Ground.phase }, { on := 4, ground := Ground.phase }, { on := 5, ground := Ground.phase }, { on := 6, ground := Ground.phase }, { on := 7, ground := Ground.phase }, { on := 8, ground := Ground.phase }, { on := 9, ground := Ground.phase }, { on := 10, ground := Ground.phase }, { on := 11, ground := Ground.phase }, { on := 12, ground := Ground.phase }, { on := 13, ground := Ground.phase }, { on := 14, ground := Ground.phase }, { on := 15, ground := Ground.phase }, { on := 16, ground := Ground.phase }, { on := 17, ground := Ground.phase }, { on := 18, ground := Ground.phase }, { on := 19, ground := Ground.phase }, { on := 20, ground := Ground.phase }, { on := 21, ground := Ground.phase }, { on := 22, ground := Ground.phase }, { on := 23, ground := Ground.phase }, { on := 24, ground := Ground.phase }], guard := none }) := by kernel_rfl
      obtain rfl := Option.some.inj (hlit.symm.trans hoi)
      have r96 : b.tmps.getD 96 undef = (.bool true) := rd (hT.at 24 (by kernel_rfl) (pre_of hpre 24 (by kernel_rfl)))
      refine op_go hoi (want_all rfl) fun K hK => ?_
      clear hT hpre hun hlit hoi
      go_simp
      exact hK _ _ ⟨(), fun _ _ => rfl, rfl, uc0, uc1, fc0, fc1, gc0, gc1, HB⟩
  · intro g b w' hT hS
    rw [hT.all ht]
    have hn : (regOps Tryd.f8 7).size = 26 := by kernel_rfl
    rw [hn]
    exact he w' hS

/-- What each operation of the region leaves. -/
def region8_7_1V (sx u0 u1 : Int) : Nat → Value
  | 0 => .bool true
  | 1 => .bool false
  | 2 => .bool false
  | 3 => .bool false
  | 4 => .bool true
  | 5 => .bool true
  | 6 => .bool true
  | 7 => undef
  | 8 => undef
  | 9 => undef
  | 10 => undef
  | 11 => undef
  | 12 => undef
  | 13 => .bool true
  | 14 => .bool true
  | 15 => .agg #[.int .i64 u0, .int .u64 u1]
  | 16 => .int .i64 sx
  | 17 => .agg #[.int .i64 u0, .int .u64 u1]
  | 18 => .agg #[.int .i64 0, .int .u64 0]
  | 19 => .int .i64 sx
  | 20 => .bool true
  | 21 => .bool true
  | 22 => .bool true
  | 23 => .bool true
  | 24 => .bool true
  | 25 => .bool true
  | _ => undef

set_option maxHeartbeats 4000000 in
set_option maxRecDepth 100000 in
theorem region8_7_1 (n nn sx u0 u1 f0 f1 g0 g1 : Int) (kx ka kb : Nat) (W : World) (htab : Tab W) (m2 : ∀ w : World, Calls Tryd.prog 15 #[.agg #[.int .i64 u0, .int .u64 u1]] w fun e w' => e = .returned (.int .i64 sx) ∧ Below w.heap.size w w') (m3 : ∀ w : World, Calls Tryd.prog 23 #[.agg #[.int .i64 u0, .int .u64 u1], .agg #[.int .i64 0, .int .u64 0]] w fun e w' => e = .returned (.int .i64 sx) ∧ Below w.heap.size w w') {id : Nat} {ops : Array Oper} {Q : Exit → Act → World → Prop} {a : Act} {w : World}
    (ho : ops = (regOps Tryd.f8 7)) (hsz : a.tmps.size = 97) (t7 : a.tmps[7]? = some (.int .i64 n)) (t3 : a.tmps[3]? = some (.pointer (some ⟨kx, 0, none⟩))) (t10 : a.tmps[10]? = some (.pointer (some ⟨ka, 0, none⟩))) (t12 : a.tmps[12]? = some (.pointer (some ⟨kb, 0, none⟩))) (t11 : a.tmps[11]? = some (.bool true)) (t13 : a.tmps[13]? = some (.bool false))
    (h0 : w.drew.cell? ⟨kx, 0, none⟩ = some (.int .i64 u0) ∧ w.drew.cell? ⟨kx, 1, none⟩ = some (.int .u64 u1) ∧ w.drew.cell? ⟨ka, 0, none⟩ = some (.int .i64 f0) ∧ w.drew.cell? ⟨ka, 1, none⟩ = some (.int .u64 f1) ∧ w.drew.cell? ⟨kb, 0, none⟩ = some (.int .i64 g0) ∧ w.drew.cell? ⟨kb, 1, none⟩ = some (.int .u64 g1) ∧ Below W.heap.size W w.drew)
    (he : ∀ w', w'.cell? ⟨kx, 0, none⟩ = some (.int .i64 u0) ∧ w'.cell? ⟨kx, 1, none⟩ = some (.int .u64 u1) ∧ w'.cell? ⟨ka, 0, none⟩ = some (.int .i64 f0) ∧ w'.cell? ⟨ka, 1, none⟩ = some (.int .u64 f1) ∧ w'.cell? ⟨kb, 0, none⟩ = some (.int .i64 g0) ∧ w'.cell? ⟨kb, 1, none⟩ = some (.int .u64 g1) ∧ Below W.heap.size W w' → Q .normal ⟨((((((((((((((((((((((((((a.tmps.setIfInBounds 72 (.bool true)).setIfInBounds 73 (.bool false)).setIfInBounds 74 (.bool false)).setIfInBounds 75 (.bool false)).setIfInBounds 76 (.bool true)).setIfInBounds 77 (.bool true)).setIfInBounds 78 (.bool true)).setIfInBounds 79 (undef)).setIfInBounds 80 (undef)).setIfInBounds 81 (undef)).setIfInBounds 82 (undef)).setIfInBounds 83 (undef)).setIfInBounds 84 (undef)).setIfInBounds 85 (.bool true)).setIfInBounds 86 (.bool true)).setIfInBounds 87 (.agg #[.int .i64 u0, .int .u64 u1])).setIfInBounds 88 (.int .i64 sx)).setIfInBounds 89 (.agg #[.int .i64 u0, .int .u64 u1])).setIfInBounds 90 (.agg #[.int .i64 0, .int .u64 0])).setIfInBounds 91 (.int .i64 sx)).setIfInBounds 92 (.bool true)).setIfInBounds 93 (.bool true)).setIfInBounds 94 (.bool true)).setIfInBounds 95 (.bool true)).setIfInBounds 96 (.bool true)).setIfInBounds 6 (.bool true)), a.defers⟩ w') :
    (Code.region id ops true).wp Tryd.prog Q a w := by
  have ht : tidy (regOps Tryd.f8 7) a.tmps.size = true := by rw [hsz]; kernel_rfl
  refine region_tab (G := Unit) (fun _ => (region8_7_1V sx u0 u1  )) (fun _ _ w' => w'.cell? ⟨kx, 0, none⟩ = some (.int .i64 u0) ∧ w'.cell? ⟨kx, 1, none⟩ = some (.int .u64 u1) ∧ w'.cell? ⟨ka, 0, none⟩ = some (.int .i64 f0) ∧ w'.cell? ⟨ka, 1, none⟩ = some (.int .u64 f1) ∧ w'.cell? ⟨kb, 0, none⟩ = some (.int .i64 g0) ∧ w'.cell? ⟨kb, 1, none⟩ = some (.int .u64 g1) ∧ Below W.heap.size W w') () (by kernel_rfl) ho ht h0 ?_ ?_
  · intro i o hoi g L b w' hun hpre hT hS
    clear he h0 ho hsz ht
    have hi : i < (regOps Tryd.f8 7).size := (Array.getElem?_eq_some_iff.1 hoi).1
    rw [show (regOps Tryd.f8 7).size = 26 by kernel_rfl] at hi
    obtain ⟨uc0, uc1, fc0, fc1, gc0, gc1, HB⟩ := hS
    have hcases : i = 0 ∨ i = 1 ∨ i = 2 ∨ i = 3 ∨ i = 4 ∨ i = 5 ∨ i = 6 ∨ i = 7 ∨ i = 8 ∨ i = 9 ∨ i = 10 ∨ i = 11 ∨ i = 12 ∨ i = 13 ∨ i = 14 ∨ i = 15 ∨ i = 16 ∨ i = 17 ∨ i = 18 ∨ i = 19 ∨ i = 20 ∨ i = 21 ∨ i = 22 ∨ i = 23 ∨ i = 24 ∨ i = 25 := by omega
    rcases hcases with rfl | rfl | rfl | rfl | rfl | rfl | rfl | rfl | rfl | rfl | rfl | rfl | rfl | rfl | rfl | rfl | rfl | rfl | rfl | rfl | rfl | rfl | rfl | rfl | rfl | rfl
    · have hlit : (regOps Tryd.f8 7)[0]? = some ({ dst := some 72, op := Op.move (Operand.tmp 11), type := 4, pos := "law.go:80", after := #[], guard := none }) := by kernel_rfl
      obtain rfl := Option.some.inj (hlit.symm.trans hoi)
      have r11 : b.tmps.getD 11 undef = (.bool true) := rd ((hT.old 11 (by kernel_rfl)).trans t11)
      refine op_go hoi (want_all rfl) fun K hK => ?_
      clear hT hpre hun hlit hoi
      go_simp
      exact hK _ _ ⟨(), fun _ _ => rfl, rfl, uc0, uc1, fc0, fc1, gc0, gc1, HB⟩
    · have hlit : (regOps Tryd.f8 7)[1]? = some ({ dst := some 73, op := Op.unOp UnOp.not 4 (Operand.tmp 72), type := 4, pos := "law.go:80", after := #[{ on := 0, ground := Ground.data }], guard := none }) := by kernel_rfl
      obtain rfl := Option.some.inj (hlit.symm.trans hoi)
      have r72 : b.tmps.getD 72 undef = (.bool true) := rd (hT.at 0 (by kernel_rfl) (pre_of hpre 0 (by kernel_rfl)))
      refine op_go hoi (want_all rfl) fun K hK => ?_
      clear hT hpre hun hlit hoi
      go_simp
      exact hK _ _ ⟨(), fun _ _ => rfl, rfl, uc0, uc1, fc0, fc1, gc0, gc1, HB⟩
    · have hlit : (regOps Tryd.f8 7)[2]? = some ({ dst := some 74, op := Op.move (Operand.tmp 73), type := 4, pos := "law.go:80", after := #[{ on := 1, ground := Ground.data }], guard := none }) := by kernel_rfl
      obtain rfl := Option.some.inj (hlit.symm.trans hoi)
      have r73 : b.tmps.getD 73 undef = (.bool false) := rd (hT.at 1 (by kernel_rfl) (pre_of hpre 1 (by kernel_rfl)))
      refine op_go hoi (want_all rfl) fun K hK => ?_
      clear hT hpre hun hlit hoi
      go_simp
      exact hK _ _ ⟨(), fun _ _ => rfl, rfl, uc0, uc1, fc0, fc1, gc0, gc1, HB⟩
    · have hlit : (regOps Tryd.f8 7)[3]? = some ({ dst := some 75, op := Op.move (Operand.tmp 13), type := 4, pos := "law.go:80", after := #[{ on := 2, ground := Ground.guard }], guard := some (2, false) }) := by kernel_rfl
      obtain rfl := Option.some.inj (hlit.symm.trans hoi)
      have r13 : b.tmps.getD 13 undef = (.bool false) := rd ((hT.old 13 (by kernel_rfl)).trans t13)
      refine op_go hoi (want_yes rfl (d := 74) (by kernel_rfl) (hT.at 2 (by kernel_rfl) (pre_of hpre 2 (by kernel_rfl)))) fun K hK => ?_
      clear hT hpre hun hlit hoi
      go_simp
      exact hK _ _ ⟨(), fun _ _ => rfl, rfl, uc0, uc1, fc0, fc1, gc0, gc1, HB⟩
    · have hlit : (regOps Tryd.f8 7)[4]? = some ({ dst := some 76, op := Op.unOp UnOp.not 4 (Operand.tmp 75), type := 4, pos := "law.go:80", after := #[{ on := 3, ground := Ground.data }, { on := 2, ground := Ground.guard }], guard := some (2, false) }) := by kernel_rfl
      obtain rfl := Option.some.inj (hlit.symm.trans hoi)
      have r75 : b.tmps.getD 75 undef = (.bool false) := rd (hT.at 3 (by kernel_rfl) (pre_of hpre 3 (by kernel_rfl)))
      refine op_go hoi (want_yes rfl (d := 74) (by kernel_rfl) (hT.at 2 (by kernel_rfl) (pre_of hpre 2 (by kernel_rfl)))) fun K hK => ?_
      clear hT hpre hun hlit hoi
      go_simp
      exact hK _ _ ⟨(), fun _ _ => rfl, rfl, uc0, uc1, fc0, fc1, gc0, gc1, HB⟩
    · have hlit : (regOps Tryd.f8 7)[5]? = some ({ dst := some 77, op := Op.pick (Operand.tmp 74) (Operand.const (Value.bool true)) (Operand.tmp 76), type := 4, pos := "law.go:80", after := #[{ on := 2, ground := Ground.data }, { on := 4, ground := Ground.data }], guard := none }) := by kernel_rfl
      obtain rfl := Option.some.inj (hlit.symm.trans hoi)
      have r74 : b.tmps.getD 74 undef = (.bool false) := rd (hT.at 2 (by kernel_rfl) (pre_of hpre 2 (by kernel_rfl)))
      have r76 : b.tmps.getD 76 undef = (.bool true) := rd (hT.at 4 (by kernel_rfl) (pre_of hpre 4 (by kernel_rfl)))
      refine op_go hoi (want_all rfl) fun K hK => ?_
      clear hT hpre hun hlit hoi
      go_simp
      exact hK _ _ ⟨(), fun _ _ => rfl, rfl, uc0, uc1, fc0, fc1, gc0, gc1, HB⟩
    · have hlit : (regOps Tryd.f8 7)[6]? = some ({ dst := some 78, op := Op.move (Operand.tmp 77), type := 4, pos := "law.go:80", after := #[{ on := 5, ground := Ground.data }, { on := 2, ground := Ground.chain }], guard := none }) := by kernel_rfl
      obtain rfl := Option.some.inj (hlit.symm.trans hoi)
      have r77 : b.tmps.getD 77 undef = (.bool true) := rd (hT.at 5 (by kernel_rfl) (pre_of hpre 5 (by kernel_rfl)))
      refine op_go hoi (want_all rfl) fun K hK => ?_
      clear hT hpre hun hlit hoi
      go_simp
      exact hK _ _ ⟨(), fun _ _ => rfl, rfl, uc0, uc1, fc0, fc1, gc0, gc1, HB⟩
    · have hlit : (regOps Tryd.f8 7)[7]? = some ({ dst := some 79, op := Op.load 24 (Operand.tmp 10), type := 24, pos := "law.go:80", after := #[{ on := 6, ground := Ground.guard }], guard := some (6, false) }) := by kernel_rfl
      obtain rfl := Option.some.inj (hlit.symm.trans hoi)
      exact op_not hoi (want_no rfl (d := 78) (by kernel_rfl) (hT.at 6 (by kernel_rfl) (pre_of hpre 6 (by kernel_rfl)))) ⟨(), fun _ _ => rfl, rfl, uc0, uc1, fc0, fc1, gc0, gc1, HB⟩
    · have hlit : (regOps Tryd.f8 7)[8]? = some ({ dst := some 80, op := Op.load 24 (Operand.tmp 12), type := 24, pos := "law.go:80", after := #[{ on := 6, ground := Ground.guard }], guard := some (6, false) }) := by kernel_rfl
      obtain rfl := Option.some.inj (hlit.symm.trans hoi)
      exact op_not hoi (want_no rfl (d := 78) (by kernel_rfl) (hT.at 6 (by kernel_rfl) (pre_of hpre 6 (by kernel_rfl)))) ⟨(), fun _ _ => rfl, rfl, uc0, uc1, fc0, fc1, gc0, gc1, HB⟩
    · have hlit : (regOps Tryd.f8 7)[9]? = some ({ dst := some 81, op := Op.call { callee := Callee.value (Operand.func 23), args := #[Operand.tmp 79, Operand.tmp 80], argTypes := #[24, 24] }, type := 3, pos := "law.go:80", after := #[{ on := 7, ground := Ground.data }, { on := 8, ground := Ground.data }, { on := 6, ground := Ground.chain }, { on := 6, ground := Ground.guard }], guard := some (6, false) }) := by kernel_rfl
      obtain rfl := Option.some.inj (hlit.symm.trans hoi)
      exact op_not hoi (want_no rfl (d := 78) (by kernel_rfl) (hT.at 6 (by kernel_rfl) (pre_of hpre 6 (by kernel_rfl)))) ⟨(), fun _ _ => rfl, rfl, uc0, uc1, fc0, fc1, gc0, gc1, HB⟩
    · have hlit : (regOps Tryd.f8 7)[10]? = some ({ dst := some 82, op := Op.move (Operand.tmp 7), type := 3, pos := "law.go:80", after := #[{ on := 6, ground := Ground.guard }], guard := some (6, false) }) := by kernel_rfl
      obtain rfl := Option.some.inj (hlit.symm.trans hoi)
      exact op_not hoi (want_no rfl (d := 78) (by kernel_rfl) (hT.at 6 (by kernel_rfl) (pre_of hpre 6 (by kernel_rfl)))) ⟨(), fun _ _ => rfl, rfl, uc0, uc1, fc0, fc1, gc0, gc1, HB⟩
    · have hlit : (regOps Tryd.f8 7)[11]? = some ({ dst := some 83, op := Op.unOp UnOp.neg 3 (Operand.tmp 82), type := 3, pos := "law.go:80", after := #[{ on := 10, ground := Ground.data }, { on := 6, ground := Ground.guard }], guard := some (6, false) }) := by kernel_rfl
      obtain rfl := Option.some.inj (hlit.symm.trans hoi)
      exact op_not hoi (want_no rfl (d := 78) (by kernel_rfl) (hT.at 6 (by kernel_rfl) (pre_of hpre 6 (by kernel_rfl)))) ⟨(), fun _ _ => rfl, rfl, uc0, uc1, fc0, fc1, gc0, gc1, HB⟩
    · have hlit : (regOps Tryd.f8 7)[12]? = some ({ dst := some 84, op := Op.binOp BinOp.eql 3 (Operand.tmp 81) (Operand.tmp 83) 3, type := 4, pos := "law.go:80", after := #[{ on := 9, ground := Ground.data }, { on := 11, ground := Ground.data }, { on := 6, ground := Ground.guard }], guard := some (6, false) }) := by kernel_rfl
      obtain rfl := Option.some.inj (hlit.symm.trans hoi)
      exact op_not hoi (want_no rfl (d := 78) (by kernel_rfl) (hT.at 6 (by kernel_rfl) (pre_of hpre 6 (by kernel_rfl)))) ⟨(), fun _ _ => rfl, rfl, uc0, uc1, fc0, fc1, gc0, gc1, HB⟩
    · have hlit : (regOps Tryd.f8 7)[13]? = some ({ dst := some 85, op := Op.pick (Operand.tmp 78) (Operand.const (Value.bool true)) (Operand.tmp 84), type := 4, pos := "law.go:80", after := #[{ on := 6, ground := Ground.data }, { on := 12, ground := Ground.data }], guard := none }) := by kernel_rfl
      obtain rfl := Option.some.inj (hlit.symm.trans hoi)
      have r78 : b.tmps.getD 78 undef = (.bool true) := rd (hT.at 6 (by kernel_rfl) (pre_of hpre 6 (by kernel_rfl)))
      have r84 : b.tmps.getD 84 undef = (undef) := rd (hT.at 12 (by kernel_rfl) (pre_of hpre 12 (by kernel_rfl)))
      refine op_go hoi (want_all rfl) fun K hK => ?_
      clear hT hpre hun hlit hoi
      go_simp
      exact hK _ _ ⟨(), fun _ _ => rfl, rfl, uc0, uc1, fc0, fc1, gc0, gc1, HB⟩
    · have hlit : (regOps Tryd.f8 7)[14]? = some ({ dst := some 86, op := Op.move (Operand.tmp 85), type := 4, pos := "law.go:80", after := #[{ on := 13, ground := Ground.data }, { on := 9, ground := Ground.chain }], guard := none }) := by kernel_rfl
      obtain rfl := Option.some.inj (hlit.symm.trans hoi)
      have r85 : b.tmps.getD 85 undef = (.bool true) := rd (hT.at 13 (by kernel_rfl) (pre_of hpre 13 (by kernel_rfl)))
      refine op_go hoi (want_all rfl) fun K hK => ?_
      clear hT hpre hun hlit hoi
      go_simp
      exact hK _ _ ⟨(), fun _ _ => rfl, rfl, uc0, uc1, fc0, fc1, gc0, gc1, HB⟩
    · have hlit : (regOps Tryd.f8 7)[15]? = some ({ dst := some 87, op := Op.load 24 (Operand.tmp 3), type := 24, pos := "law.go:80", after := #[{ on := 14, ground := Ground.guard }], guard := some (14, true) }) := by kernel_rfl
      obtain rfl := Option.some.inj (hlit.symm.trans hoi)
      have r3 : b.tmps.getD 3 undef = (.pointer (some ⟨kx, 0, none⟩)) := rd ((hT.old 3 (by kernel_rfl)).trans t3)
      refine op_go hoi (want_yes rfl (d := 86) (by kernel_rfl) (hT.at 14 (by kernel_rfl) (pre_of hpre 14 (by kernel_rfl)))) fun K hK => ?_
      clear hT hpre hun hlit hoi
      go_simp
      exact hK _ _ ⟨(), fun _ _ => rfl, rfl, uc0, uc1, fc0, fc1, gc0, gc1, HB⟩
    · have hlit : (regOps Tryd.f8 7)[16]? = some ({ dst := some 88, op := Op.call { callee := Callee.value (Operand.func 15), args := #[Operand.tmp 87], argTypes := #[24] }, type := 3, pos := "law.go:80", after := #[{ on := 15, ground := Ground.data }, { on := 14, ground := Ground.chain }, { on := 14, ground := Ground.guard }], guard := some (14, true) }) := by kernel_rfl
      obtain rfl := Option.some.inj (hlit.symm.trans hoi)
      have r87 : b.tmps.getD 87 undef = (.agg #[.int .i64 u0, .int .u64 u1]) := rd (hT.at 15 (by kernel_rfl) (pre_of hpre 15 (by kernel_rfl)))
      refine op_go hoi (want_yes rfl (d := 86) (by kernel_rfl) (hT.at 14 (by kernel_rfl) (pre_of hpre 14 (by kernel_rfl)))) fun K hK => ?_
      clear hT hpre hun hlit hoi
      go_simp
      go_at_call 15
      refine (m2 _).mono ?_; rintro e w2 ⟨rfl, hb⟩; replace uc0 := ck hb (a := ⟨kx, 0, none⟩) (v := .int .i64 u0) (by go_simp); replace uc1 := ck hb (a := ⟨kx, 1, none⟩) (v := .int .u64 u1) (by go_simp); replace fc0 := ck hb (a := ⟨ka, 0, none⟩) (v := .int .i64 f0) (by go_simp); replace fc1 := ck hb (a := ⟨ka, 1, none⟩) (v := .int .u64 f1) (by go_simp); replace gc0 := ck hb (a := ⟨kb, 0, none⟩) (v := .int .i64 g0) (by go_simp); replace gc1 := ck hb (a := ⟨kb, 1, none⟩) (v := .int .u64 g1) (by go_simp); replace HB : Below W.heap.size W w2 := bt HB hb; clear hb
      exact hK _ _ ⟨(), fun _ _ => rfl, rfl, uc0, uc1, fc0, fc1, gc0, gc1, HB⟩
    · have hlit : (regOps Tryd.f8 7)[17]? = some ({ dst := some 89, op := Op.load 24 (Operand.tmp 3), type := 24, pos := "law.go:80", after := #[{ on := 14, ground := Ground.guard }], guard := some (14, true) }) := by kernel_rfl
      obtain rfl := Option.some.inj (hlit.symm.trans hoi)
      have r3 : b.tmps.getD 3 undef = (.pointer (some ⟨kx, 0, none⟩)) := rd ((hT.old 3 (by kernel_rfl)).trans t3)
      refine op_go hoi (want_yes rfl (d := 86) (by kernel_rfl) (hT.at 14 (by kernel_rfl) (pre_of hpre 14 (by kernel_rfl)))) fun K hK => ?_
      clear hT hpre hun hlit hoi
      go_simp
      exact hK _ _ ⟨(), fun _ _ => rfl, rfl, uc0, uc1, fc0, fc1, gc0, gc1, HB⟩
    · have hlit : (regOps Tryd.f8 7)[18]? = some ({ dst := some 90, op := Op.build 24 #[], type := 24, pos := "law.go:80", after := #[{ on := 14, ground := Ground.guard }], guard := some (14, true) }) := by kernel_rfl
      obtain rfl := Option.some.inj (hlit.symm.trans hoi)
      refine op_go hoi (want_yes rfl (d := 86) (by kernel_rfl) (hT.at 14 (by kernel_rfl) (pre_of hpre 14 (by kernel_rfl)))) fun K hK => ?_
      clear hT hpre hun hlit hoi
      go_simp
      exact hK _ _ ⟨(), fun _ _ => rfl, rfl, uc0, uc1, fc0, fc1, gc0, gc1, HB⟩
    · have hlit : (regOps Tryd.f8 7)[19]? = some ({ dst := some 91, op := Op.call { callee := Callee.value (Operand.func 23), args := #[Operand.tmp 89, Operand.tmp 90], argTypes := #[24, 24] }, type := 3, pos := "law.go:80", after := #[{ on := 17, ground := Ground.data }, { on := 18, ground := Ground.data }, { on := 16, ground := Ground.chain }, { on := 14, ground := Ground.guard }], guard := some (14, true) }) := by kernel_rfl
      obtain rfl := Option.some.inj (hlit.symm.trans hoi)
      have r89 : b.tmps.getD 89 undef = (.agg #[.int .i64 u0, .int .u64 u1]) := rd (hT.at 17 (by kernel_rfl) (pre_of hpre 17 (by kernel_rfl)))
      have r90 : b.tmps.getD 90 undef = (.agg #[.int .i64 0, .int .u64 0]) := rd (hT.at 18 (by kernel_rfl) (pre_of hpre 18 (by kernel_rfl)))
      refine op_go hoi (want_yes rfl (d := 86) (by kernel_rfl) (hT.at 14 (by kernel_rfl) (pre_of hpre 14 (by kernel_rfl)))) fun K hK => ?_
      clear hT hpre hun hlit hoi
      go_simp
      go_at_call 23
      refine (m3 _).mono ?_; rintro e w2 ⟨rfl, hb⟩; replace uc0 := ck hb (a := ⟨kx, 0, none⟩) (v := .int .i64 u0) (by go_simp); replace uc1 := ck hb (a := ⟨kx, 1, none⟩) (v := .int .u64 u1) (by go_simp); replace fc0 := ck hb (a := ⟨ka, 0, none⟩) (v := .int .i64 f0) (by go_simp); replace fc1 := ck hb (a := ⟨ka, 1, none⟩) (v := .int .u64 f1) (by go_simp); replace gc0 := ck hb (a := ⟨kb, 0, none⟩) (v := .int .i64 g0) (by go_simp); replace gc1 := ck hb (a := ⟨kb, 1, none⟩) (v := .int .u64 g1) (by go_simp); replace HB : Below W.heap.size W w2 := bt HB hb; clear hb
      exact hK _ _ ⟨(), fun _ _ => rfl, rfl, uc0, uc1, fc0, fc1, gc0, gc1, HB⟩
    · have hlit : (regOps Tryd.f8 7)[20]? = some ({ dst := some 92, op := Op.binOp BinOp.eql 3 (Operand.tmp 88) (Operand.tmp 91) 3, type := 4, pos := "law.go:80", after := #[{ on := 16, ground := Ground.data }, { on := 19, ground := Ground.data }, { on := 14, ground := Ground.guard }], guard := some (14, true) }) := by kernel_rfl
      obtain rfl := Option.some.inj (hlit.symm.trans hoi)
      have r88 : b.tmps.getD 88 undef = (.int .i64 sx) := rd (hT.at 16 (by kernel_rfl) (pre_of hpre 16 (by kernel_rfl)))
      have r91 : b.tmps.getD 91 undef = (.int .i64 sx) := rd (hT.at 19 (by kernel_rfl) (pre_of hpre 19 (by kernel_rfl)))
      refine op_go hoi (want_yes rfl (d := 86) (by kernel_rfl) (hT.at 14 (by kernel_rfl) (pre_of hpre 14 (by kernel_rfl)))) fun K hK => ?_
      clear hT hpre hun hlit hoi
      go_simp
      exact hK _ _ ⟨(), fun _ _ => rfl, rfl, uc0, uc1, fc0, fc1, gc0, gc1, HB⟩
    · have hlit : (regOps Tryd.f8 7)[21]? = some ({ dst := some 93, op := Op.pick (Operand.tmp 86) (Operand.tmp 92) (Operand.const (Value.bool false)), type := 4, pos := "law.go:80", after := #[{ on := 14, ground := Ground.data }, { on := 20, ground := Ground.data }], guard := none }) := by kernel_rfl
      obtain rfl := Option.some.inj (hlit.symm.trans hoi)
      have r86 : b.tmps.getD 86 undef = (.bool true) := rd (hT.at 14 (by kernel_rfl) (pre_of hpre 14 (by kernel_rfl)))
      have r92 : b.tmps.getD 92 undef = (.bool true) := rd (hT.at 20 (by kernel_rfl) (pre_of hpre 20 (by kernel_rfl)))
      refine op_go hoi (want_all rfl) fun K hK => ?_
      clear hT hpre hun hlit hoi
      go_simp
      exact hK _ _ ⟨(), fun _ _ => rfl, rfl, uc0, uc1, fc0, fc1, gc0, gc1, HB⟩
    · have hlit : (regOps Tryd.f8 7)[22]? = some ({ dst := some 94, op := Op.move (Operand.tmp 93), type := 4, pos := "law.go:80", after := #[{ on := 21, ground := Ground.data }, { on := 19, ground := Ground.chain }], guard := none }) := by kernel_rfl
      obtain rfl := Option.some.inj (hlit.symm.trans hoi)
      have r93 : b.tmps.getD 93 undef = (.bool true) := rd (hT.at 21 (by kernel_rfl) (pre_of hpre 21 (by kernel_rfl)))
      refine op_go hoi (want_all rfl) fun K hK => ?_
      clear hT hpre hun hlit hoi
      go_simp
      exact hK _ _ ⟨(), fun _ _ => rfl, rfl, uc0, uc1, fc0, fc1, gc0, gc1, HB⟩
    · have hlit : (regOps Tryd.f8 7)[23]? = some ({ dst := some 95, op := Op.call { callee := Callee.value (Operand.func 9), args := #[], argTypes := #[] }, type := 4, pos := "law.go:80", after := #[{ on := 22, ground := Ground.chain }, { on := 22, ground := Ground.guard }], guard := some (22, true) }) := by kernel_rfl
      obtain rfl := Option.some.inj (hlit.symm.trans hoi)
      refine op_go hoi (want_yes rfl (d := 94) (by kernel_rfl) (hT.at 22 (by kernel_rfl) (pre_of hpre 22 (by kernel_rfl)))) fun K hK => ?_
      clear hT hpre hun hlit hoi
      go_simp
      go_at_call 9
      refine (awake9 _ (tab_below htab HB)).mono ?_; rintro e w2 ⟨rfl, hb⟩; replace uc0 := ck hb (a := ⟨kx, 0, none⟩) (v := .int .i64 u0) (by go_simp); replace uc1 := ck hb (a := ⟨kx, 1, none⟩) (v := .int .u64 u1) (by go_simp); replace fc0 := ck hb (a := ⟨ka, 0, none⟩) (v := .int .i64 f0) (by go_simp); replace fc1 := ck hb (a := ⟨ka, 1, none⟩) (v := .int .u64 f1) (by go_simp); replace gc0 := ck hb (a := ⟨kb, 0, none⟩) (v := .int .i64 g0) (by go_simp); replace gc1 := ck hb (a := ⟨kb, 1, none⟩) (v := .int .u64 g1) (by go_simp); replace HB : Below W.heap.size W w2 := bt HB hb; clear hb
      exact hK _ _ ⟨(), fun _ _ => rfl, rfl, uc0, uc1, fc0, fc1, gc0, gc1, HB⟩
    · have hlit : (regOps Tryd.f8 7)[24]? = some ({ dst := some 96, op := Op.pick (Operand.tmp 94) (Operand.tmp 95) (Operand.const (Value.bool false)), type := 4, pos := "law.go:80", after := #[{ on := 22, ground := Ground.data }, { on := 23, ground := Ground.data }], guard := none }) := by kernel_rfl
      obtain rfl := Option.some.inj (hlit.symm.trans hoi)
      have r94 : b.tmps.getD 94 undef = (.bool true) := rd (hT.at 22 (by kernel_rfl) (pre_of hpre 22 (by kernel_rfl)))
      have r95 : b.tmps.getD 95 undef = (.bool true) := rd (hT.at 23 (by kernel_rfl) (pre_of hpre 23 (by kernel_rfl)))
      refine op_go hoi (want_all rfl) fun K hK => ?_
      clear hT hpre hun hlit hoi
      go_simp
      exact hK _ _ ⟨(), fun _ _ => rfl, rfl, uc0, uc1, fc0, fc1, gc0, gc1, HB⟩
    · have hlit : (regOps Tryd.f8 7)[25]? = some ({ dst := some 6, op := Op.assign (Operand.tmp 96), type := 4, pos := "law.go:80", after := #[{ on := 24, ground := Ground.data }, { on := 23, ground := Ground.chain }, { on := 0, ground := Ground.phase }, { on := 1, ground := Ground.phase }, { on := 2, ground := Ground.phase }, { on := 3, ground := Ground.phase }, { on := 4, ground := Ground.phase }, { on := 5, ground := Ground.phase }, { on := 6, ground := Ground.phase }, { on := 7, ground := Ground.phase }, { on := 8, ground := Ground.phase }, { on := 9, ground := Ground.phase }, { on := 10, ground := Ground.phase }, { on := 11, ground := Ground.phase }, { on := 12, ground := Ground.phase }, { on := 13, ground := Ground.phase }, { on := 14, ground := Ground.phase }, { on := 15, ground := Ground.phase }, { on := 16, ground := Ground.phase }, { on := 17, ground := Ground.phase }, { on := 18, ground := Ground.phase }, { on := 19, ground := Ground.phase }, { on := 20, ground := Ground.phase }, { on := 21, ground := Ground.phase }, { on := 22, ground := Ground.phase }, { on := 23, ground := Ground.phase }, { on := 24, ground := Ground.phase }], guard := none }) := by kernel_rfl
      obtain rfl := Option.some.inj (hlit.symm.trans hoi)
      have r96 : b.tmps.getD 96 undef = (.bool true) := rd (hT.at 24 (by kernel_rfl) (pre_of hpre 24 (by kernel_rfl)))
      refine op_go hoi (want_all rfl) fun K hK => ?_
      clear hT hpre hun hlit hoi
      go_simp
      exact hK _ _ ⟨(), fun _ _ => rfl, rfl, uc0, uc1, fc0, fc1, gc0, gc1, HB⟩
  · intro g b w' hT hS
    rw [hT.all ht]
    have hn : (regOps Tryd.f8 7).size = 26 := by kernel_rfl
    rw [hn]
    exact he w' hS

/-- What each operation of the region leaves. -/
def region8_7_2V (n nn sx u0 u1 f0 f1 g0 g1 : Int) : Nat → Value
  | 0 => .bool true
  | 1 => .bool false
  | 2 => .bool false
  | 3 => .bool true
  | 4 => .bool false
  | 5 => .bool false
  | 6 => .bool false
  | 7 => .agg #[.int .i64 f0, .int .u64 f1]
  | 8 => .agg #[.int .i64 g0, .int .u64 g1]
  | 9 => .int .i64 nn
  | 10 => .int .i64 n
  | 11 => .int .i64 nn
  | 12 => .bool true
  | 13 => .bool true
  | 14 => .bool true
  | 15 => .agg #[.int .i64 u0, .int .u64 u1]
  | 16 => .int .i64 sx
  | 17 => .agg #[.int .i64 u0, .int .u64 u1]
  | 18 => .agg #[.int .i64 0, .int .u64 0]
  | 19 => .int .i64 sx
  | 20 => .bool true
  | 21 => .bool true
  | 22 => .bool true
  | 23 => .bool true
  | 24 => .bool true
  | 25 => .bool true
  | _ => undef

set_option maxHeartbeats 4000000 in
set_option maxRecDepth 100000 in
theorem region8_7_2 (n nn sx u0 u1 f0 f1 g0 g1 : Int) (kx ka kb : Nat) (W : World) (htab : Tab W) (m1 : ∀ w : World, Calls Tryd.prog 23 #[.agg #[.int .i64 f0, .int .u64 f1], .agg #[.int .i64 g0, .int .u64 g1]] w fun e w' => e = .returned (.int .i64 nn) ∧ Below w.heap.size w w') (e1 : IntKind.i64.wrap (-n) = nn) (m2 : ∀ w : World, Calls Tryd.prog 15 #[.agg #[.int .i64 u0, .int .u64 u1]] w fun e w' => e = .returned (.int .i64 sx) ∧ Below w.heap.size w w') (m3 : ∀ w : World, Calls Tryd.prog 23 #[.agg #[.int .i64 u0, .int .u64 u1], .agg #[.int .i64 0, .int .u64 0]] w fun e w' => e = .returned (.int .i64 sx) ∧ Below w.heap.size w w') {id : Nat} {ops : Array Oper} {Q : Exit → Act → World → Prop} {a : Act} {w : World}
    (ho : ops = (regOps Tryd.f8 7)) (hsz : a.tmps.size = 97) (t7 : a.tmps[7]? = some (.int .i64 n)) (t3 : a.tmps[3]? = some (.pointer (some ⟨kx, 0, none⟩))) (t10 : a.tmps[10]? = some (.pointer (some ⟨ka, 0, none⟩))) (t12 : a.tmps[12]? = some (.pointer (some ⟨kb, 0, none⟩))) (t11 : a.tmps[11]? = some (.bool true)) (t13 : a.tmps[13]? = some (.bool true))
    (h0 : w.drew.cell? ⟨kx, 0, none⟩ = some (.int .i64 u0) ∧ w.drew.cell? ⟨kx, 1, none⟩ = some (.int .u64 u1) ∧ w.drew.cell? ⟨ka, 0, none⟩ = some (.int .i64 f0) ∧ w.drew.cell? ⟨ka, 1, none⟩ = some (.int .u64 f1) ∧ w.drew.cell? ⟨kb, 0, none⟩ = some (.int .i64 g0) ∧ w.drew.cell? ⟨kb, 1, none⟩ = some (.int .u64 g1) ∧ Below W.heap.size W w.drew)
    (he : ∀ w', w'.cell? ⟨kx, 0, none⟩ = some (.int .i64 u0) ∧ w'.cell? ⟨kx, 1, none⟩ = some (.int .u64 u1) ∧ w'.cell? ⟨ka, 0, none⟩ = some (.int .i64 f0) ∧ w'.cell? ⟨ka, 1, none⟩ = some (.int .u64 f1) ∧ w'.cell? ⟨kb, 0, none⟩ = some (.int .i64 g0) ∧ w'.cell? ⟨kb, 1, none⟩ = some (.int .u64 g1) ∧ Below W.heap.size W w' → Q .normal ⟨((((((((((((((((((((((((((a.tmps.setIfInBounds 72 (.bool true)).setIfInBounds 73 (.bool false)).setIfInBounds 74 (.bool false)).setIfInBounds 75 (.bool true)).setIfInBounds 76 (.bool false)).setIfInBounds 77 (.bool false)).setIfInBounds 78 (.bool false)).setIfInBounds 79 (.agg #[.int .i64 f0, .int .u64 f1])).setIfInBounds 80 (.agg #[.int .i64 g0, .int .u64 g1])).setIfInBounds 81 (.int .i64 nn)).setIfInBounds 82 (.int .i64 n)).setIfInBounds 83 (.int .i64 nn)).setIfInBounds 84 (.bool true)).setIfInBounds 85 (.bool true)).setIfInBounds 86 (.bool true)).setIfInBounds 87 (.agg #[.int .i64 u0, .int .u64 u1])).setIfInBounds 88 (.int .i64 sx)).setIfInBounds 89 (.agg #[.int .i64 u0, .int .u64 u1])).setIfInBounds 90 (.agg #[.int .i64 0, .int .u64 0])).setIfInBounds 91 (.int .i64 sx)).setIfInBounds 92 (.bool true)).setIfInBounds 93 (.bool true)).setIfInBounds 94 (.bool true)).setIfInBounds 95 (.bool true)).setIfInBounds 96 (.bool true)).setIfInBounds 6 (.bool true)), a.defers⟩ w') :
    (Code.region id ops true).wp Tryd.prog Q a w := by
  have ht : tidy (regOps Tryd.f8 7) a.tmps.size = true := by rw [hsz]; kernel_rfl
  refine region_tab (G := Unit) (fun _ => (region8_7_2V n nn sx u0 u1 f0 f1 g0 g1  )) (fun _ _ w' => w'.cell? ⟨kx, 0, none⟩ = some (.int .i64 u0) ∧ w'.cell? ⟨kx, 1, none⟩ = some (.int .u64 u1) ∧ w'.cell? ⟨ka, 0, none⟩ = some (.int .i64 f0) ∧ w'.cell? ⟨ka, 1, none⟩ = some (.int .u64 f1) ∧ w'.cell? ⟨kb, 0, none⟩ = some (.int .i64 g0) ∧ w'.cell? ⟨kb, 1, none⟩ = some (.int .u64 g1) ∧ Below W.heap.size W w') () (by kernel_rfl) ho ht h0 ?_ ?_
  · intro i o hoi g L b w' hun hpre hT hS
    clear he h0 ho hsz ht
    have hi : i < (regOps Tryd.f8 7).size := (Array.getElem?_eq_some_iff.1 hoi).1
    rw [show (regOps Tryd.f8 7).size = 26 by kernel_rfl] at hi
    obtain ⟨uc0, uc1, fc0, fc1, gc0, gc1, HB⟩ := hS
    have hcases : i = 0 ∨ i = 1 ∨ i = 2 ∨ i = 3 ∨ i = 4 ∨ i = 5 ∨ i = 6 ∨ i = 7 ∨ i = 8 ∨ i = 9 ∨ i = 10 ∨ i = 11 ∨ i = 12 ∨ i = 13 ∨ i = 14 ∨ i = 15 ∨ i = 16 ∨ i = 17 ∨ i = 18 ∨ i = 19 ∨ i = 20 ∨ i = 21 ∨ i = 22 ∨ i = 23 ∨ i = 24 ∨ i = 25 := by omega
    rcases hcases with rfl | rfl | rfl | rfl | rfl | rfl | rfl | rfl | rfl | rfl | rfl | rfl | rfl | rfl | rfl | rfl | rfl | rfl | rfl | rfl | rfl | rfl | rfl | rfl | rfl | rfl
    · have hlit : (regOps Tryd.f8 7)[0]? = some ({ dst := some 72, op := Op.move (Operand.tmp 11), type := 4, pos := "law.go:80", after := #[], guard := none }) := by kernel_rfl
      obtain rfl := Option.some.inj (hlit.symm.trans hoi)
      have r11 : b.tmps.getD 11 undef = (.bool true) := rd ((hT.old 11 (by kernel_rfl)).trans t11)
      refine op_go hoi (want_all rfl) fun K hK => ?_
      clear hT hpre hun hlit hoi
      go_simp
      exact hK _ _ ⟨(), fun _ _ => rfl, rfl, uc0, uc1, fc0, fc1, gc0, gc1, HB⟩
    · have hlit : (regOps Tryd.f8 7)[1]? = some ({ dst := some 73, op := Op.unOp UnOp.not 4 (Operand.tmp 72), type := 4, pos := "law.go:80", after := #[{ on := 0, ground := Ground.data }], guard := none }) := by kernel_rfl
      obtain rfl := Option.some.inj (hlit.symm.trans hoi)
      have r72 : b.tmps.getD 72 undef = (.bool true) := rd (hT.at 0 (by kernel_rfl) (pre_of hpre 0 (by kernel_rfl)))
      refine op_go hoi (want_all rfl) fun K hK => ?_
      clear hT hpre hun hlit hoi
      go_simp
      exact hK _ _ ⟨(), fun _ _ => rfl, rfl, uc0, uc1, fc0, fc1, gc0, gc1, HB⟩
    · have hlit : (regOps Tryd.f8 7)[2]? = some ({ dst := some 74, op := Op.move (Operand.tmp 73), type := 4, pos := "law.go:80", after := #[{ on := 1, ground := Ground.data }], guard := none }) := by kernel_rfl
      obtain rfl := Option.some.inj (hlit.symm.trans hoi)
      have r73 : b.tmps.getD 73 undef = (.bool false) := rd (hT.at 1 (by kernel_rfl) (pre_of hpre 1 (by kernel_rfl)))
      refine op_go hoi (want_all rfl) fun K hK => ?_
      clear hT hpre hun hlit hoi
      go_simp
      exact hK _ _ ⟨(), fun _ _ => rfl, rfl, uc0, uc1, fc0, fc1, gc0, gc1, HB⟩
    · have hlit : (regOps Tryd.f8 7)[3]? = some ({ dst := some 75, op := Op.move (Operand.tmp 13), type := 4, pos := "law.go:80", after := #[{ on := 2, ground := Ground.guard }], guard := some (2, false) }) := by kernel_rfl
      obtain rfl := Option.some.inj (hlit.symm.trans hoi)
      have r13 : b.tmps.getD 13 undef = (.bool true) := rd ((hT.old 13 (by kernel_rfl)).trans t13)
      refine op_go hoi (want_yes rfl (d := 74) (by kernel_rfl) (hT.at 2 (by kernel_rfl) (pre_of hpre 2 (by kernel_rfl)))) fun K hK => ?_
      clear hT hpre hun hlit hoi
      go_simp
      exact hK _ _ ⟨(), fun _ _ => rfl, rfl, uc0, uc1, fc0, fc1, gc0, gc1, HB⟩
    · have hlit : (regOps Tryd.f8 7)[4]? = some ({ dst := some 76, op := Op.unOp UnOp.not 4 (Operand.tmp 75), type := 4, pos := "law.go:80", after := #[{ on := 3, ground := Ground.data }, { on := 2, ground := Ground.guard }], guard := some (2, false) }) := by kernel_rfl
      obtain rfl := Option.some.inj (hlit.symm.trans hoi)
      have r75 : b.tmps.getD 75 undef = (.bool true) := rd (hT.at 3 (by kernel_rfl) (pre_of hpre 3 (by kernel_rfl)))
      refine op_go hoi (want_yes rfl (d := 74) (by kernel_rfl) (hT.at 2 (by kernel_rfl) (pre_of hpre 2 (by kernel_rfl)))) fun K hK => ?_
      clear hT hpre hun hlit hoi
      go_simp
      exact hK _ _ ⟨(), fun _ _ => rfl, rfl, uc0, uc1, fc0, fc1, gc0, gc1, HB⟩
    · have hlit : (regOps Tryd.f8 7)[5]? = some ({ dst := some 77, op := Op.pick (Operand.tmp 74) (Operand.const (Value.bool true)) (Operand.tmp 76), type := 4, pos := "law.go:80", after := #[{ on := 2, ground := Ground.data }, { on := 4, ground := Ground.data }], guard := none }) := by kernel_rfl
      obtain rfl := Option.some.inj (hlit.symm.trans hoi)
      have r74 : b.tmps.getD 74 undef = (.bool false) := rd (hT.at 2 (by kernel_rfl) (pre_of hpre 2 (by kernel_rfl)))
      have r76 : b.tmps.getD 76 undef = (.bool false) := rd (hT.at 4 (by kernel_rfl) (pre_of hpre 4 (by kernel_rfl)))
      refine op_go hoi (want_all rfl) fun K hK => ?_
      clear hT hpre hun hlit hoi
      go_simp
      exact hK _ _ ⟨(), fun _ _ => rfl, rfl, uc0, uc1, fc0, fc1, gc0, gc1, HB⟩
    · have hlit : (regOps Tryd.f8 7)[6]? = some ({ dst := some 78, op := Op.move (Operand.tmp 77), type := 4, pos := "law.go:80", after := #[{ on := 5, ground := Ground.data }, { on := 2, ground := Ground.chain }], guard := none }) := by kernel_rfl
      obtain rfl := Option.some.inj (hlit.symm.trans hoi)
      have r77 : b.tmps.getD 77 undef = (.bool false) := rd (hT.at 5 (by kernel_rfl) (pre_of hpre 5 (by kernel_rfl)))
      refine op_go hoi (want_all rfl) fun K hK => ?_
      clear hT hpre hun hlit hoi
      go_simp
      exact hK _ _ ⟨(), fun _ _ => rfl, rfl, uc0, uc1, fc0, fc1, gc0, gc1, HB⟩
    · have hlit : (regOps Tryd.f8 7)[7]? = some ({ dst := some 79, op := Op.load 24 (Operand.tmp 10), type := 24, pos := "law.go:80", after := #[{ on := 6, ground := Ground.guard }], guard := some (6, false) }) := by kernel_rfl
      obtain rfl := Option.some.inj (hlit.symm.trans hoi)
      have r10 : b.tmps.getD 10 undef = (.pointer (some ⟨ka, 0, none⟩)) := rd ((hT.old 10 (by kernel_rfl)).trans t10)
      refine op_go hoi (want_yes rfl (d := 78) (by kernel_rfl) (hT.at 6 (by kernel_rfl) (pre_of hpre 6 (by kernel_rfl)))) fun K hK => ?_
      clear hT hpre hun hlit hoi
      go_simp
      exact hK _ _ ⟨(), fun _ _ => rfl, rfl, uc0, uc1, fc0, fc1, gc0, gc1, HB⟩
    · have hlit : (regOps Tryd.f8 7)[8]? = some ({ dst := some 80, op := Op.load 24 (Operand.tmp 12), type := 24, pos := "law.go:80", after := #[{ on := 6, ground := Ground.guard }], guard := some (6, false) }) := by kernel_rfl
      obtain rfl := Option.some.inj (hlit.symm.trans hoi)
      have r12 : b.tmps.getD 12 undef = (.pointer (some ⟨kb, 0, none⟩)) := rd ((hT.old 12 (by kernel_rfl)).trans t12)
      refine op_go hoi (want_yes rfl (d := 78) (by kernel_rfl) (hT.at 6 (by kernel_rfl) (pre_of hpre 6 (by kernel_rfl)))) fun K hK => ?_
      clear hT hpre hun hlit hoi
      go_simp
      exact hK _ _ ⟨(), fun _ _ => rfl, rfl, uc0, uc1, fc0, fc1, gc0, gc1, HB⟩
    · have hlit : (regOps Tryd.f8 7)[9]? = some ({ dst := some 81, op := Op.call { callee := Callee.value (Operand.func 23), args := #[Operand.tmp 79, Operand.tmp 80], argTypes := #[24, 24] }, type := 3, pos := "law.go:80", after := #[{ on := 7, ground := Ground.data }, { on := 8, ground := Ground.data }, { on := 6, ground := Ground.chain }, { on := 6, ground := Ground.guard }], guard := some (6, false) }) := by kernel_rfl
      obtain rfl := Option.some.inj (hlit.symm.trans hoi)
      have r79 : b.tmps.getD 79 undef = (.agg #[.int .i64 f0, .int .u64 f1]) := rd (hT.at 7 (by kernel_rfl) (pre_of hpre 7 (by kernel_rfl)))
      have r80 : b.tmps.getD 80 undef = (.agg #[.int .i64 g0, .int .u64 g1]) := rd (hT.at 8 (by kernel_rfl) (pre_of hpre 8 (by kernel_rfl)))
      refine op_go hoi (want_yes rfl (d := 78) (by kernel_rfl) (hT.at 6 (by kernel_rfl) (pre_of hpre 6 (by kernel_rfl)))) fun K hK => ?_
      clear hT hpre hun hlit hoi
      go_simp
      go_at_call 23
      refine (m1 _).mono ?_; rintro e w2 ⟨rfl, hb⟩; replace uc0 := ck hb (a := ⟨kx, 0, none⟩) (v := .int .i64 u0) (by go_simp); replace uc1 := ck hb (a := ⟨kx, 1, none⟩) (v := .int .u64 u1) (by go_simp); replace fc0 := ck hb (a := ⟨ka, 0, none⟩) (v := .int .i64 f0) (by go_simp); replace fc1 := ck hb (a := ⟨ka, 1, none⟩) (v := .int .u64 f1) (by go_simp); replace gc0 := ck hb (a := ⟨kb, 0, none⟩) (v := .int .i64 g0) (by go_simp); replace gc1 := ck hb (a := ⟨kb, 1, none⟩) (v := .int .u64 g1) (by go_simp); replace HB : Below W.heap.size W w2 := bt HB hb; clear hb
      exact hK _ _ ⟨(), fun _ _ => rfl, rfl, uc0, uc1, fc0, fc1, gc0, gc1, HB⟩
    · have hlit : (regOps Tryd.f8 7)[10]? = some ({ dst := some 82, op := Op.move (Operand.tmp 7), type := 3, pos := "law.go:80", after := #[{ on := 6, ground := Ground.guard }], guard := some (6, false) }) := by kernel_rfl
      obtain rfl := Option.some.inj (hlit.symm.trans hoi)
      have r7 : b.tmps.getD 7 undef = (.int .i64 n) := rd ((hT.old 7 (by kernel_rfl)).trans t7)
      refine op_go hoi (want_yes rfl (d := 78) (by kernel_rfl) (hT.at 6 (by kernel_rfl) (pre_of hpre 6 (by kernel_rfl)))) fun K hK => ?_
      clear hT hpre hun hlit hoi
      go_simp
      exact hK _ _ ⟨(), fun _ _ => rfl, rfl, uc0, uc1, fc0, fc1, gc0, gc1, HB⟩
    · have hlit : (regOps Tryd.f8 7)[11]? = some ({ dst := some 83, op := Op.unOp UnOp.neg 3 (Operand.tmp 82), type := 3, pos := "law.go:80", after := #[{ on := 10, ground := Ground.data }, { on := 6, ground := Ground.guard }], guard := some (6, false) }) := by kernel_rfl
      obtain rfl := Option.some.inj (hlit.symm.trans hoi)
      have r82 : b.tmps.getD 82 undef = (.int .i64 n) := rd (hT.at 10 (by kernel_rfl) (pre_of hpre 10 (by kernel_rfl)))
      refine op_go hoi (want_yes rfl (d := 78) (by kernel_rfl) (hT.at 6 (by kernel_rfl) (pre_of hpre 6 (by kernel_rfl)))) fun K hK => ?_
      clear hT hpre hun hlit hoi
      go_simp
      exact hK _ _ ⟨(), fun _ _ => rfl, rfl, uc0, uc1, fc0, fc1, gc0, gc1, HB⟩
    · have hlit : (regOps Tryd.f8 7)[12]? = some ({ dst := some 84, op := Op.binOp BinOp.eql 3 (Operand.tmp 81) (Operand.tmp 83) 3, type := 4, pos := "law.go:80", after := #[{ on := 9, ground := Ground.data }, { on := 11, ground := Ground.data }, { on := 6, ground := Ground.guard }], guard := some (6, false) }) := by kernel_rfl
      obtain rfl := Option.some.inj (hlit.symm.trans hoi)
      have r81 : b.tmps.getD 81 undef = (.int .i64 nn) := rd (hT.at 9 (by kernel_rfl) (pre_of hpre 9 (by kernel_rfl)))
      have r83 : b.tmps.getD 83 undef = (.int .i64 nn) := rd (hT.at 11 (by kernel_rfl) (pre_of hpre 11 (by kernel_rfl)))
      refine op_go hoi (want_yes rfl (d := 78) (by kernel_rfl) (hT.at 6 (by kernel_rfl) (pre_of hpre 6 (by kernel_rfl)))) fun K hK => ?_
      clear hT hpre hun hlit hoi
      go_simp
      exact hK _ _ ⟨(), fun _ _ => rfl, rfl, uc0, uc1, fc0, fc1, gc0, gc1, HB⟩
    · have hlit : (regOps Tryd.f8 7)[13]? = some ({ dst := some 85, op := Op.pick (Operand.tmp 78) (Operand.const (Value.bool true)) (Operand.tmp 84), type := 4, pos := "law.go:80", after := #[{ on := 6, ground := Ground.data }, { on := 12, ground := Ground.data }], guard := none }) := by kernel_rfl
      obtain rfl := Option.some.inj (hlit.symm.trans hoi)
      have r78 : b.tmps.getD 78 undef = (.bool false) := rd (hT.at 6 (by kernel_rfl) (pre_of hpre 6 (by kernel_rfl)))
      have r84 : b.tmps.getD 84 undef = (.bool true) := rd (hT.at 12 (by kernel_rfl) (pre_of hpre 12 (by kernel_rfl)))
      refine op_go hoi (want_all rfl) fun K hK => ?_
      clear hT hpre hun hlit hoi
      go_simp
      exact hK _ _ ⟨(), fun _ _ => rfl, rfl, uc0, uc1, fc0, fc1, gc0, gc1, HB⟩
    · have hlit : (regOps Tryd.f8 7)[14]? = some ({ dst := some 86, op := Op.move (Operand.tmp 85), type := 4, pos := "law.go:80", after := #[{ on := 13, ground := Ground.data }, { on := 9, ground := Ground.chain }], guard := none }) := by kernel_rfl
      obtain rfl := Option.some.inj (hlit.symm.trans hoi)
      have r85 : b.tmps.getD 85 undef = (.bool true) := rd (hT.at 13 (by kernel_rfl) (pre_of hpre 13 (by kernel_rfl)))
      refine op_go hoi (want_all rfl) fun K hK => ?_
      clear hT hpre hun hlit hoi
      go_simp
      exact hK _ _ ⟨(), fun _ _ => rfl, rfl, uc0, uc1, fc0, fc1, gc0, gc1, HB⟩
    · have hlit : (regOps Tryd.f8 7)[15]? = some ({ dst := some 87, op := Op.load 24 (Operand.tmp 3), type := 24, pos := "law.go:80", after := #[{ on := 14, ground := Ground.guard }], guard := some (14, true) }) := by kernel_rfl
      obtain rfl := Option.some.inj (hlit.symm.trans hoi)
      have r3 : b.tmps.getD 3 undef = (.pointer (some ⟨kx, 0, none⟩)) := rd ((hT.old 3 (by kernel_rfl)).trans t3)
      refine op_go hoi (want_yes rfl (d := 86) (by kernel_rfl) (hT.at 14 (by kernel_rfl) (pre_of hpre 14 (by kernel_rfl)))) fun K hK => ?_
      clear hT hpre hun hlit hoi
      go_simp
      exact hK _ _ ⟨(), fun _ _ => rfl, rfl, uc0, uc1, fc0, fc1, gc0, gc1, HB⟩
    · have hlit : (regOps Tryd.f8 7)[16]? = some ({ dst := some 88, op := Op.call { callee := Callee.value (Operand.func 15), args := #[Operand.tmp 87], argTypes := #[24] }, type := 3, pos := "law.go:80", after := #[{ on := 15, ground := Ground.data }, { on := 14, ground := Ground.chain }, { on := 14, ground := Ground.guard }], guard := some (14, true) }) := by kernel_rfl
      obtain rfl := Option.some.inj (hlit.symm.trans hoi)
      have r87 : b.tmps.getD 87 undef = (.agg #[.int .i64 u0, .int .u64 u1]) := rd (hT.at 15 (by kernel_rfl) (pre_of hpre 15 (by kernel_rfl)))
      refine op_go hoi (want_yes rfl (d := 86) (by kernel_rfl) (hT.at 14 (by kernel_rfl) (pre_of hpre 14 (by kernel_rfl)))) fun K hK => ?_
      clear hT hpre hun hlit hoi
      go_simp
      go_at_call 15
      refine (m2 _).mono ?_; rintro e w2 ⟨rfl, hb⟩; replace uc0 := ck hb (a := ⟨kx, 0, none⟩) (v := .int .i64 u0) (by go_simp); replace uc1 := ck hb (a := ⟨kx, 1, none⟩) (v := .int .u64 u1) (by go_simp); replace fc0 := ck hb (a := ⟨ka, 0, none⟩) (v := .int .i64 f0) (by go_simp); replace fc1 := ck hb (a := ⟨ka, 1, none⟩) (v := .int .u64 f1) (by go_simp); replace gc0 := ck hb (a := ⟨kb, 0, none⟩) (v := .int .i64 g0) (by go_simp); replace gc1 := ck hb (a := ⟨kb, 1, none⟩) (v := .int .u64 g1) (by go_simp); replace HB : Below W.heap.size W w2 := bt HB hb; clear hb
      exact hK _ _ ⟨(), fun _ _ => rfl, rfl, uc0, uc1, fc0, fc1, gc0, gc1, HB⟩
    · have hlit : (regOps Tryd.f8 7)[17]? = some ({ dst := some 89, op := Op.load 24 (Operand.tmp 3), type := 24, pos := "law.go:80", after := #[{ on := 14, ground := Ground.guard }], guard := some (14, true) }) := by kernel_rfl
      obtain rfl := Option.some.inj (hlit.symm.trans hoi)
      have r3 : b.tmps.getD 3 undef = (.pointer (some ⟨kx, 0, none⟩)) := rd ((hT.old 3 (by kernel_rfl)).trans t3)
      refine op_go hoi (want_yes rfl (d := 86) (by kernel_rfl) (hT.at 14 (by kernel_rfl) (pre_of hpre 14 (by kernel_rfl)))) fun K hK => ?_
      clear hT hpre hun hlit hoi
      go_simp
      exact hK _ _ ⟨(), fun _ _ => rfl, rfl, uc0, uc1, fc0, fc1, gc0, gc1, HB⟩
    · have hlit : (regOps Tryd.f8 7)[18]? = some ({ dst := some 90, op := Op.build 24 #[], type := 24, pos := "law.go:80", after := #[{ on := 14, ground := Ground.guard }], guard := some (14, true) }) := by kernel_rfl
      obtain rfl := Option.some.inj (hlit.symm.trans hoi)
      refine op_go hoi (want_yes rfl (d := 86) (by kernel_rfl) (hT.at 14 (by kernel_rfl) (pre_of hpre 14 (by kernel_rfl)))) fun K hK => ?_
      clear hT hpre hun hlit hoi
      go_simp
      exact hK _ _ ⟨(), fun _ _ => rfl, rfl, uc0, uc1, fc0, fc1, gc0, gc1, HB⟩
    · have hlit : (regOps Tryd.f8 7)[19]? = some ({ dst := some 91, op := Op.call { callee := Callee.value (Operand.func 23), args := #[Operand.tmp 89, Operand.tmp 90], argTypes := #[24, 24] }, type := 3, pos := "law.go:80", after := #[{ on := 17, ground := Ground.data }, { on := 18, ground := Ground.data }, { on := 16, ground := Ground.chain }, { on := 14, ground := Ground.guard }], guard := some (14, true) }) := by kernel_rfl
      obtain rfl := Option.some.inj (hlit.symm.trans hoi)
      have r89 : b.tmps.getD 89 undef = (.agg #[.int .i64 u0, .int .u64 u1]) := rd (hT.at 17 (by kernel_rfl) (pre_of hpre 17 (by kernel_rfl)))
      have r90 : b.tmps.getD 90 undef = (.agg #[.int .i64 0, .int .u64 0]) := rd (hT.at 18 (by kernel_rfl) (pre_of hpre 18 (by kernel_rfl)))
      refine op_go hoi (want_yes rfl (d := 86) (by kernel_rfl) (hT.at 14 (by kernel_rfl) (pre_of hpre 14 (by kernel_rfl)))) fun K hK => ?_
      clear hT hpre hun hlit hoi
      go_simp
      go_at_call 23
      refine (m3 _).mono ?_; rintro e w2 ⟨rfl, hb⟩; replace uc0 := ck hb (a := ⟨kx, 0, none⟩) (v := .int .i64 u0) (by go_simp); replace uc1 := ck hb (a := ⟨kx, 1, none⟩) (v := .int .u64 u1) (by go_simp); replace fc0 := ck hb (a := ⟨ka, 0, none⟩) (v := .int .i64 f0) (by go_simp); replace fc1 := ck hb (a := ⟨ka, 1, none⟩) (v := .int .u64 f1) (by go_simp); replace gc0 := ck hb (a := ⟨kb, 0, none⟩) (v := .int .i64 g0) (by go_simp); replace gc1 := ck hb (a := ⟨kb, 1, none⟩) (v := .int .u64 g1) (by go_simp); replace HB : Below W.heap.size W w2 := bt HB hb; clear hb
      exact hK _ _ ⟨(), fun _ _ => rfl, rfl, uc0, uc1, fc0, fc1, gc0, gc1, HB⟩
    · have hlit : (regOps Tryd.f8 7)[20]? = some ({ dst := some 92, op := Op.binOp BinOp.eql 3 (Operand.tmp 88) (Operand.tmp 91) 3, type := 4, pos := "law.go:80", after := #[{ on := 16, ground := Ground.data }, { on := 19, ground := Ground.data }, { on := 14, ground := Ground.guard }], guard := some (14, true) }) := by kernel_rfl
      obtain rfl := Option.some.inj (hlit.symm.trans hoi)
      have r88 : b.tmps.getD 88 undef = (.int .i64 sx) := rd (hT.at 16 (by kernel_rfl) (pre_of hpre 16 (by kernel_rfl)))
      have r91 : b.tmps.getD 91 undef = (.int .i64 sx) := rd (hT.at 19 (by kernel_rfl) (pre_of hpre 19 (by kernel_rfl)))
      refine op_go hoi (want_yes rfl (d := 86) (by kernel_rfl) (hT.at 14 (by kernel_rfl) (pre_of hpre 14 (by kernel_rfl)))) fun K hK => ?_
      clear hT hpre hun hlit hoi
      go_simp
      exact hK _ _ ⟨(), fun _ _ => rfl, rfl, uc0, uc1, fc0, fc1, gc0, gc1, HB⟩
    · have hlit : (regOps Tryd.f8 7)[21]? = some ({ dst := some 93, op := Op.pick (Operand.tmp 86) (Operand.tmp 92) (Operand.const (Value.bool false)), type := 4, pos := "law.go:80", after := #[{ on := 14, ground := Ground.data }, { on := 20, ground := Ground.data }], guard := none }) := by kernel_rfl
      obtain rfl := Option.some.inj (hlit.symm.trans hoi)
      have r86 : b.tmps.getD 86 undef = (.bool true) := rd (hT.at 14 (by kernel_rfl) (pre_of hpre 14 (by kernel_rfl)))
      have r92 : b.tmps.getD 92 undef = (.bool true) := rd (hT.at 20 (by kernel_rfl) (pre_of hpre 20 (by kernel_rfl)))
      refine op_go hoi (want_all rfl) fun K hK => ?_
      clear hT hpre hun hlit hoi
      go_simp
      exact hK _ _ ⟨(), fun _ _ => rfl, rfl, uc0, uc1, fc0, fc1, gc0, gc1, HB⟩
    · have hlit : (regOps Tryd.f8 7)[22]? = some ({ dst := some 94, op := Op.move (Operand.tmp 93), type := 4, pos := "law.go:80", after := #[{ on := 21, ground := Ground.data }, { on := 19, ground := Ground.chain }], guard := none }) := by kernel_rfl
      obtain rfl := Option.some.inj (hlit.symm.trans hoi)
      have r93 : b.tmps.getD 93 undef = (.bool true) := rd (hT.at 21 (by kernel_rfl) (pre_of hpre 21 (by kernel_rfl)))
      refine op_go hoi (want_all rfl) fun K hK => ?_
      clear hT hpre hun hlit hoi
      go_simp
      exact hK _ _ ⟨(), fun _ _ => rfl, rfl, uc0, uc1, fc0, fc1, gc0, gc1, HB⟩
    · have hlit : (regOps Tryd.f8 7)[23]? = some ({ dst := some 95, op := Op.call { callee := Callee.value (Operand.func 9), args := #[], argTypes := #[] }, type := 4, pos := "law.go:80", after := #[{ on := 22, ground := Ground.chain }, { on := 22, ground := Ground.guard }], guard := some (22, true) }) := by kernel_rfl
      obtain rfl := Option.some.inj (hlit.symm.trans hoi)
      refine op_go hoi (want_yes rfl (d := 94) (by kernel_rfl) (hT.at 22 (by kernel_rfl) (pre_of hpre 22 (by kernel_rfl)))) fun K hK => ?_
      clear hT hpre hun hlit hoi
      go_simp
      go_at_call 9
      refine (awake9 _ (tab_below htab HB)).mono ?_; rintro e w2 ⟨rfl, hb⟩; replace uc0 := ck hb (a := ⟨kx, 0, none⟩) (v := .int .i64 u0) (by go_simp); replace uc1 := ck hb (a := ⟨kx, 1, none⟩) (v := .int .u64 u1) (by go_simp); replace fc0 := ck hb (a := ⟨ka, 0, none⟩) (v := .int .i64 f0) (by go_simp); replace fc1 := ck hb (a := ⟨ka, 1, none⟩) (v := .int .u64 f1) (by go_simp); replace gc0 := ck hb (a := ⟨kb, 0, none⟩) (v := .int .i64 g0) (by go_simp); replace gc1 := ck hb (a := ⟨kb, 1, none⟩) (v := .int .u64 g1) (by go_simp); replace HB : Below W.heap.size W w2 := bt HB hb; clear hb
      exact hK _ _ ⟨(), fun _ _ => rfl, rfl, uc0, uc1, fc0, fc1, gc0, gc1, HB⟩
    · have hlit : (regOps Tryd.f8 7)[24]? = some ({ dst := some 96, op := Op.pick (Operand.tmp 94) (Operand.tmp 95) (Operand.const (Value.bool false)), type := 4, pos := "law.go:80", after := #[{ on := 22, ground := Ground.data }, { on := 23, ground := Ground.data }], guard := none }) := by kernel_rfl
      obtain rfl := Option.some.inj (hlit.symm.trans hoi)
      have r94 : b.tmps.getD 94 undef = (.bool true) := rd (hT.at 22 (by kernel_rfl) (pre_of hpre 22 (by kernel_rfl)))
      have r95 : b.tmps.getD 95 undef = (.bool true) := rd (hT.at 23 (by kernel_rfl) (pre_of hpre 23 (by kernel_rfl)))
      refine op_go hoi (want_all rfl) fun K hK => ?_
      clear hT hpre hun hlit hoi
      go_simp
      exact hK _ _ ⟨(), fun _ _ => rfl, rfl, uc0, uc1, fc0, fc1, gc0, gc1, HB⟩
    · have hlit : (regOps Tryd.f8 7)[25]? = some ({ dst := some 6, op := Op.assign (Operand.tmp 96), type := 4, pos := "law.go:80", after := #[{ on := 24, ground := Ground.data }, { on := 23, ground := Ground.chain }, { on := 0, ground := Ground.phase }, { on := 1, ground := Ground.phase }, { on := 2, ground := Ground.phase }, { on := 3, ground := Ground.phase }, { on := 4, ground := Ground.phase }, { on := 5, ground := Ground.phase }, { on := 6, ground := Ground.phase }, { on := 7, ground := Ground.phase }, { on := 8, ground := Ground.phase }, { on := 9, ground := Ground.phase }, { on := 10, ground := Ground.phase }, { on := 11, ground := Ground.phase }, { on := 12, ground := Ground.phase }, { on := 13, ground := Ground.phase }, { on := 14, ground := Ground.phase }, { on := 15, ground := Ground.phase }, { on := 16, ground := Ground.phase }, { on := 17, ground := Ground.phase }, { on := 18, ground := Ground.phase }, { on := 19, ground := Ground.phase }, { on := 20, ground := Ground.phase }, { on := 21, ground := Ground.phase }, { on := 22, ground := Ground.phase }, { on := 23, ground := Ground.phase }, { on := 24, ground := Ground.phase }], guard := none }) := by kernel_rfl
      obtain rfl := Option.some.inj (hlit.symm.trans hoi)
      have r96 : b.tmps.getD 96 undef = (.bool true) := rd (hT.at 24 (by kernel_rfl) (pre_of hpre 24 (by kernel_rfl)))
      refine op_go hoi (want_all rfl) fun K hK => ?_
      clear hT hpre hun hlit hoi
      go_simp
      exact hK _ _ ⟨(), fun _ _ => rfl, rfl, uc0, uc1, fc0, fc1, gc0, gc1, HB⟩
  · intro g b w' hT hS
    rw [hT.all ht]
    have hn : (regOps Tryd.f8 7).size = 26 := by kernel_rfl
    rw [hn]
    exact he w' hS
end Go.Proofs.YtkamnnkdadfebaaDoor
