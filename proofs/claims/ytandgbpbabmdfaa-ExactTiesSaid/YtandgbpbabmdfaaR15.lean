import Derived.Test.YtandgbpbabmdfaaT32
import Derived.Test.YtandgbpbabmdfaaRg
namespace Go.Proofs.Ytandgbpbabmdfaa
open Go.RowKit
attribute [local go_sem high] eq23 eq25 mn_two mx_two mn_three mx_three mx_four

/-- What each operation of the region leaves. -/
def region15_0V (a0 a1 b0 b1 c0 c1 o : Int) (kp : Nat) (ob : Bool) : Nat → Value
  | 0 => .int .i64 0
  | 1 => .pointer (some ⟨kp, 0, none⟩)
  | 2 => .agg #[.int .i64 a0, .int .i64 a1]
  | 3 => .int .i64 0
  | 4 => .int .i64 1
  | 5 => .int .i64 1
  | 6 => .pointer (some ⟨kp, 2, none⟩)
  | 7 => .agg #[.int .i64 b0, .int .i64 b1]
  | 8 => .int .i64 0
  | 9 => .int .i64 2
  | 10 => .int .i64 2
  | 11 => .pointer (some ⟨kp, 4, none⟩)
  | 12 => .agg #[.int .i64 c0, .int .i64 c1]
  | 13 => .int .i64 o
  | 14 => .bool ob
  | _ => undef

set_option maxHeartbeats 4000000 in
set_option maxRecDepth 100000 in
theorem region15_0 (a0 a1 b0 b1 c0 c1 d0 d1 o : Int) (ka kb kc kd kp : Nat) (ob : Bool) (W : World) (ho : ori ⟨a0, a1⟩ ⟨b0, b1⟩ ⟨c0, c1⟩ = o) (hb : (o != 1) = ob) {id : Nat} {ops : Array Oper} {Q : Exit → Act → World → Prop} {a : Act} {w : World}
    (ho : ops = (regOps Try.f15 5)) (hsz : a.tmps.size = 73) (t9 : a.tmps[9]? = some (.pointer (some ⟨kp, 0, none⟩))) (t10 : a.tmps[10]? = some (.int .i64 0))
    (h0 : w.drew.cell? ⟨ka, 0, none⟩ = some (.int .i64 a0) ∧ w.drew.cell? ⟨ka, 1, none⟩ = some (.int .i64 a1) ∧ w.drew.cell? ⟨kb, 0, none⟩ = some (.int .i64 b0) ∧ w.drew.cell? ⟨kb, 1, none⟩ = some (.int .i64 b1) ∧ w.drew.cell? ⟨kc, 0, none⟩ = some (.int .i64 c0) ∧ w.drew.cell? ⟨kc, 1, none⟩ = some (.int .i64 c1) ∧ w.drew.cell? ⟨kd, 0, none⟩ = some (.int .i64 d0) ∧ w.drew.cell? ⟨kd, 1, none⟩ = some (.int .i64 d1) ∧ w.drew.cell? ⟨kp, 0, none⟩ = some (.int .i64 a0) ∧ w.drew.cell? ⟨kp, 1, none⟩ = some (.int .i64 a1) ∧ w.drew.cell? ⟨kp, 2, none⟩ = some (.int .i64 b0) ∧ w.drew.cell? ⟨kp, 3, none⟩ = some (.int .i64 b1) ∧ w.drew.cell? ⟨kp, 4, none⟩ = some (.int .i64 c0) ∧ w.drew.cell? ⟨kp, 5, none⟩ = some (.int .i64 c1) ∧ w.drew.cell? ⟨kp, 6, none⟩ = some (.int .i64 d0) ∧ w.drew.cell? ⟨kp, 7, none⟩ = some (.int .i64 d1) ∧ Below W.heap.size W w.drew)
    (he : ∀ w', w'.cell? ⟨ka, 0, none⟩ = some (.int .i64 a0) ∧ w'.cell? ⟨ka, 1, none⟩ = some (.int .i64 a1) ∧ w'.cell? ⟨kb, 0, none⟩ = some (.int .i64 b0) ∧ w'.cell? ⟨kb, 1, none⟩ = some (.int .i64 b1) ∧ w'.cell? ⟨kc, 0, none⟩ = some (.int .i64 c0) ∧ w'.cell? ⟨kc, 1, none⟩ = some (.int .i64 c1) ∧ w'.cell? ⟨kd, 0, none⟩ = some (.int .i64 d0) ∧ w'.cell? ⟨kd, 1, none⟩ = some (.int .i64 d1) ∧ w'.cell? ⟨kp, 0, none⟩ = some (.int .i64 a0) ∧ w'.cell? ⟨kp, 1, none⟩ = some (.int .i64 a1) ∧ w'.cell? ⟨kp, 2, none⟩ = some (.int .i64 b0) ∧ w'.cell? ⟨kp, 3, none⟩ = some (.int .i64 b1) ∧ w'.cell? ⟨kp, 4, none⟩ = some (.int .i64 c0) ∧ w'.cell? ⟨kp, 5, none⟩ = some (.int .i64 c1) ∧ w'.cell? ⟨kp, 6, none⟩ = some (.int .i64 d0) ∧ w'.cell? ⟨kp, 7, none⟩ = some (.int .i64 d1) ∧ Below W.heap.size W w' → Q .normal ⟨(((((((((((((((a.tmps.setIfInBounds 22 (.int .i64 0)).setIfInBounds 23 (.pointer (some ⟨kp, 0, none⟩))).setIfInBounds 24 (.agg #[.int .i64 a0, .int .i64 a1])).setIfInBounds 25 (.int .i64 0)).setIfInBounds 26 (.int .i64 1)).setIfInBounds 27 (.int .i64 1)).setIfInBounds 28 (.pointer (some ⟨kp, 2, none⟩))).setIfInBounds 29 (.agg #[.int .i64 b0, .int .i64 b1])).setIfInBounds 30 (.int .i64 0)).setIfInBounds 31 (.int .i64 2)).setIfInBounds 32 (.int .i64 2)).setIfInBounds 33 (.pointer (some ⟨kp, 4, none⟩))).setIfInBounds 34 (.agg #[.int .i64 c0, .int .i64 c1])).setIfInBounds 35 (.int .i64 o)).setIfInBounds 36 (.bool ob)), a.defers⟩ w') :
    (Code.region id ops true).wp Try.prog Q a w := by
  have ht : tidy (regOps Try.f15 5) a.tmps.size = true := by rw [hsz]; kernel_rfl
  refine region_tab (G := Unit) (fun _ => (region15_0V a0 a1 b0 b1 c0 c1 o kp ob)) (fun _ _ w' => w'.cell? ⟨ka, 0, none⟩ = some (.int .i64 a0) ∧ w'.cell? ⟨ka, 1, none⟩ = some (.int .i64 a1) ∧ w'.cell? ⟨kb, 0, none⟩ = some (.int .i64 b0) ∧ w'.cell? ⟨kb, 1, none⟩ = some (.int .i64 b1) ∧ w'.cell? ⟨kc, 0, none⟩ = some (.int .i64 c0) ∧ w'.cell? ⟨kc, 1, none⟩ = some (.int .i64 c1) ∧ w'.cell? ⟨kd, 0, none⟩ = some (.int .i64 d0) ∧ w'.cell? ⟨kd, 1, none⟩ = some (.int .i64 d1) ∧ w'.cell? ⟨kp, 0, none⟩ = some (.int .i64 a0) ∧ w'.cell? ⟨kp, 1, none⟩ = some (.int .i64 a1) ∧ w'.cell? ⟨kp, 2, none⟩ = some (.int .i64 b0) ∧ w'.cell? ⟨kp, 3, none⟩ = some (.int .i64 b1) ∧ w'.cell? ⟨kp, 4, none⟩ = some (.int .i64 c0) ∧ w'.cell? ⟨kp, 5, none⟩ = some (.int .i64 c1) ∧ w'.cell? ⟨kp, 6, none⟩ = some (.int .i64 d0) ∧ w'.cell? ⟨kp, 7, none⟩ = some (.int .i64 d1) ∧ Below W.heap.size W w') () (by kernel_rfl) ho ht h0 ?_ ?_
  · intro i o hoi g L b w' hun hpre hT hS
    clear he h0 ho hsz ht
    have hi : i < (regOps Try.f15 5).size := (Array.getElem?_eq_some_iff.1 hoi).1
    rw [show (regOps Try.f15 5).size = 15 by kernel_rfl] at hi
    obtain ⟨ac0, ac1, bc0, bc1, cc0, cc1, ddc0, ddc1, pc0, pc1, pc2, pc3, pc4, pc5, pc6, pc7, HB⟩ := hS
    have hcases : i = 0 ∨ i = 1 ∨ i = 2 ∨ i = 3 ∨ i = 4 ∨ i = 5 ∨ i = 6 ∨ i = 7 ∨ i = 8 ∨ i = 9 ∨ i = 10 ∨ i = 11 ∨ i = 12 ∨ i = 13 ∨ i = 14 := by omega
    rcases hcases with rfl | rfl | rfl | rfl | rfl | rfl | rfl | rfl | rfl | rfl | rfl | rfl | rfl | rfl | rfl
    · have hlit : (regOps Try.f15 5)[0]? = some ({ dst := some 22, op := Op.move (Operand.tmp 10), type := 3, pos := "law.go:45", after := #[], guard := none }) := by kernel_rfl
      obtain rfl := Option.some.inj (hlit.symm.trans hoi)
      have r10 : b.tmps.getD 10 undef = (.int .i64 0) := rd ((hT.old 10 (by kernel_rfl)).trans t10)
      refine op_go hoi (want_all rfl) fun K hK => ?_
      clear hT hpre hun hlit hoi
      go_simp
      exact hK _ _ ⟨(), fun _ _ => rfl, rfl, ac0, ac1, bc0, bc1, cc0, cc1, ddc0, ddc1, pc0, pc1, pc2, pc3, pc4, pc5, pc6, pc7, HB⟩
    · have hlit : (regOps Try.f15 5)[1]? = some ({ dst := some 23, op := Op.indexAddr 60 (Operand.tmp 9) (Operand.tmp 22), type := 0, pos := "law.go:45", after := #[{ on := 0, ground := Ground.data }], guard := none }) := by kernel_rfl
      obtain rfl := Option.some.inj (hlit.symm.trans hoi)
      have r9 : b.tmps.getD 9 undef = (.pointer (some ⟨kp, 0, none⟩)) := rd ((hT.old 9 (by kernel_rfl)).trans t9)
      have r22 : b.tmps.getD 22 undef = (.int .i64 0) := rd (hT.at 0 (by kernel_rfl) (pre_of hpre 0 (by kernel_rfl)))
      refine op_go hoi (want_all rfl) fun K hK => ?_
      clear hT hpre hun hlit hoi
      go_simp
      exact hK _ _ ⟨(), fun _ _ => rfl, rfl, ac0, ac1, bc0, bc1, cc0, cc1, ddc0, ddc1, pc0, pc1, pc2, pc3, pc4, pc5, pc6, pc7, HB⟩
    · have hlit : (regOps Try.f15 5)[2]? = some ({ dst := some 24, op := Op.load 23 (Operand.tmp 23), type := 23, pos := "law.go:45", after := #[{ on := 1, ground := Ground.data }], guard := none }) := by kernel_rfl
      obtain rfl := Option.some.inj (hlit.symm.trans hoi)
      have r23 : b.tmps.getD 23 undef = (.pointer (some ⟨kp, 0, none⟩)) := rd (hT.at 1 (by kernel_rfl) (pre_of hpre 1 (by kernel_rfl)))
      refine op_go hoi (want_all rfl) fun K hK => ?_
      clear hT hpre hun hlit hoi
      go_simp
      exact hK _ _ ⟨(), fun _ _ => rfl, rfl, ac0, ac1, bc0, bc1, cc0, cc1, ddc0, ddc1, pc0, pc1, pc2, pc3, pc4, pc5, pc6, pc7, HB⟩
    · have hlit : (regOps Try.f15 5)[3]? = some ({ dst := some 25, op := Op.move (Operand.tmp 10), type := 3, pos := "law.go:45", after := #[], guard := none }) := by kernel_rfl
      obtain rfl := Option.some.inj (hlit.symm.trans hoi)
      have r10 : b.tmps.getD 10 undef = (.int .i64 0) := rd ((hT.old 10 (by kernel_rfl)).trans t10)
      refine op_go hoi (want_all rfl) fun K hK => ?_
      clear hT hpre hun hlit hoi
      go_simp
      exact hK _ _ ⟨(), fun _ _ => rfl, rfl, ac0, ac1, bc0, bc1, cc0, cc1, ddc0, ddc1, pc0, pc1, pc2, pc3, pc4, pc5, pc6, pc7, HB⟩
    · have hlit : (regOps Try.f15 5)[4]? = some ({ dst := some 26, op := Op.binOp BinOp.add 3 (Operand.tmp 25) (Operand.const (Value.int IntKind.i64 1)) 3, type := 3, pos := "law.go:45", after := #[{ on := 3, ground := Ground.data }], guard := none }) := by kernel_rfl
      obtain rfl := Option.some.inj (hlit.symm.trans hoi)
      have r25 : b.tmps.getD 25 undef = (.int .i64 0) := rd (hT.at 3 (by kernel_rfl) (pre_of hpre 3 (by kernel_rfl)))
      refine op_go hoi (want_all rfl) fun K hK => ?_
      clear hT hpre hun hlit hoi
      go_simp
      exact hK _ _ ⟨(), fun _ _ => rfl, rfl, ac0, ac1, bc0, bc1, cc0, cc1, ddc0, ddc1, pc0, pc1, pc2, pc3, pc4, pc5, pc6, pc7, HB⟩
    · have hlit : (regOps Try.f15 5)[5]? = some ({ dst := some 27, op := Op.binOp BinOp.rem 3 (Operand.tmp 26) (Operand.const (Value.int IntKind.i64 4)) 3, type := 3, pos := "law.go:45", after := #[{ on := 4, ground := Ground.data }], guard := none }) := by kernel_rfl
      obtain rfl := Option.some.inj (hlit.symm.trans hoi)
      have r26 : b.tmps.getD 26 undef = (.int .i64 1) := rd (hT.at 4 (by kernel_rfl) (pre_of hpre 4 (by kernel_rfl)))
      refine op_go hoi (want_all rfl) fun K hK => ?_
      clear hT hpre hun hlit hoi
      go_simp
      exact hK _ _ ⟨(), fun _ _ => rfl, rfl, ac0, ac1, bc0, bc1, cc0, cc1, ddc0, ddc1, pc0, pc1, pc2, pc3, pc4, pc5, pc6, pc7, HB⟩
    · have hlit : (regOps Try.f15 5)[6]? = some ({ dst := some 28, op := Op.indexAddr 60 (Operand.tmp 9) (Operand.tmp 27), type := 0, pos := "law.go:45", after := #[{ on := 5, ground := Ground.data }], guard := none }) := by kernel_rfl
      obtain rfl := Option.some.inj (hlit.symm.trans hoi)
      have r9 : b.tmps.getD 9 undef = (.pointer (some ⟨kp, 0, none⟩)) := rd ((hT.old 9 (by kernel_rfl)).trans t9)
      have r27 : b.tmps.getD 27 undef = (.int .i64 1) := rd (hT.at 5 (by kernel_rfl) (pre_of hpre 5 (by kernel_rfl)))
      refine op_go hoi (want_all rfl) fun K hK => ?_
      clear hT hpre hun hlit hoi
      go_simp
      exact hK _ _ ⟨(), fun _ _ => rfl, rfl, ac0, ac1, bc0, bc1, cc0, cc1, ddc0, ddc1, pc0, pc1, pc2, pc3, pc4, pc5, pc6, pc7, HB⟩
    · have hlit : (regOps Try.f15 5)[7]? = some ({ dst := some 29, op := Op.load 23 (Operand.tmp 28), type := 23, pos := "law.go:45", after := #[{ on := 6, ground := Ground.data }], guard := none }) := by kernel_rfl
      obtain rfl := Option.some.inj (hlit.symm.trans hoi)
      have r28 : b.tmps.getD 28 undef = (.pointer (some ⟨kp, 2, none⟩)) := rd (hT.at 6 (by kernel_rfl) (pre_of hpre 6 (by kernel_rfl)))
      refine op_go hoi (want_all rfl) fun K hK => ?_
      clear hT hpre hun hlit hoi
      go_simp
      exact hK _ _ ⟨(), fun _ _ => rfl, rfl, ac0, ac1, bc0, bc1, cc0, cc1, ddc0, ddc1, pc0, pc1, pc2, pc3, pc4, pc5, pc6, pc7, HB⟩
    · have hlit : (regOps Try.f15 5)[8]? = some ({ dst := some 30, op := Op.move (Operand.tmp 10), type := 3, pos := "law.go:45", after := #[], guard := none }) := by kernel_rfl
      obtain rfl := Option.some.inj (hlit.symm.trans hoi)
      have r10 : b.tmps.getD 10 undef = (.int .i64 0) := rd ((hT.old 10 (by kernel_rfl)).trans t10)
      refine op_go hoi (want_all rfl) fun K hK => ?_
      clear hT hpre hun hlit hoi
      go_simp
      exact hK _ _ ⟨(), fun _ _ => rfl, rfl, ac0, ac1, bc0, bc1, cc0, cc1, ddc0, ddc1, pc0, pc1, pc2, pc3, pc4, pc5, pc6, pc7, HB⟩
    · have hlit : (regOps Try.f15 5)[9]? = some ({ dst := some 31, op := Op.binOp BinOp.add 3 (Operand.tmp 30) (Operand.const (Value.int IntKind.i64 2)) 3, type := 3, pos := "law.go:45", after := #[{ on := 8, ground := Ground.data }], guard := none }) := by kernel_rfl
      obtain rfl := Option.some.inj (hlit.symm.trans hoi)
      have r30 : b.tmps.getD 30 undef = (.int .i64 0) := rd (hT.at 8 (by kernel_rfl) (pre_of hpre 8 (by kernel_rfl)))
      refine op_go hoi (want_all rfl) fun K hK => ?_
      clear hT hpre hun hlit hoi
      go_simp
      exact hK _ _ ⟨(), fun _ _ => rfl, rfl, ac0, ac1, bc0, bc1, cc0, cc1, ddc0, ddc1, pc0, pc1, pc2, pc3, pc4, pc5, pc6, pc7, HB⟩
    · have hlit : (regOps Try.f15 5)[10]? = some ({ dst := some 32, op := Op.binOp BinOp.rem 3 (Operand.tmp 31) (Operand.const (Value.int IntKind.i64 4)) 3, type := 3, pos := "law.go:45", after := #[{ on := 9, ground := Ground.data }], guard := none }) := by kernel_rfl
      obtain rfl := Option.some.inj (hlit.symm.trans hoi)
      have r31 : b.tmps.getD 31 undef = (.int .i64 2) := rd (hT.at 9 (by kernel_rfl) (pre_of hpre 9 (by kernel_rfl)))
      refine op_go hoi (want_all rfl) fun K hK => ?_
      clear hT hpre hun hlit hoi
      go_simp
      exact hK _ _ ⟨(), fun _ _ => rfl, rfl, ac0, ac1, bc0, bc1, cc0, cc1, ddc0, ddc1, pc0, pc1, pc2, pc3, pc4, pc5, pc6, pc7, HB⟩
    · have hlit : (regOps Try.f15 5)[11]? = some ({ dst := some 33, op := Op.indexAddr 60 (Operand.tmp 9) (Operand.tmp 32), type := 0, pos := "law.go:45", after := #[{ on := 10, ground := Ground.data }], guard := none }) := by kernel_rfl
      obtain rfl := Option.some.inj (hlit.symm.trans hoi)
      have r9 : b.tmps.getD 9 undef = (.pointer (some ⟨kp, 0, none⟩)) := rd ((hT.old 9 (by kernel_rfl)).trans t9)
      have r32 : b.tmps.getD 32 undef = (.int .i64 2) := rd (hT.at 10 (by kernel_rfl) (pre_of hpre 10 (by kernel_rfl)))
      refine op_go hoi (want_all rfl) fun K hK => ?_
      clear hT hpre hun hlit hoi
      go_simp
      exact hK _ _ ⟨(), fun _ _ => rfl, rfl, ac0, ac1, bc0, bc1, cc0, cc1, ddc0, ddc1, pc0, pc1, pc2, pc3, pc4, pc5, pc6, pc7, HB⟩
    · have hlit : (regOps Try.f15 5)[12]? = some ({ dst := some 34, op := Op.load 23 (Operand.tmp 33), type := 23, pos := "law.go:45", after := #[{ on := 11, ground := Ground.data }], guard := none }) := by kernel_rfl
      obtain rfl := Option.some.inj (hlit.symm.trans hoi)
      have r33 : b.tmps.getD 33 undef = (.pointer (some ⟨kp, 4, none⟩)) := rd (hT.at 11 (by kernel_rfl) (pre_of hpre 11 (by kernel_rfl)))
      refine op_go hoi (want_all rfl) fun K hK => ?_
      clear hT hpre hun hlit hoi
      go_simp
      exact hK _ _ ⟨(), fun _ _ => rfl, rfl, ac0, ac1, bc0, bc1, cc0, cc1, ddc0, ddc1, pc0, pc1, pc2, pc3, pc4, pc5, pc6, pc7, HB⟩
    · have hlit : (regOps Try.f15 5)[13]? = some ({ dst := some 35, op := Op.call { callee := Callee.value (Operand.func 52), args := #[Operand.tmp 24, Operand.tmp 29, Operand.tmp 34], argTypes := #[23, 23, 23] }, type := 3, pos := "law.go:45", after := #[{ on := 2, ground := Ground.data }, { on := 7, ground := Ground.data }, { on := 12, ground := Ground.data }], guard := none }) := by kernel_rfl
      obtain rfl := Option.some.inj (hlit.symm.trans hoi)
      have r24 : b.tmps.getD 24 undef = (.agg #[.int .i64 a0, .int .i64 a1]) := rd (hT.at 2 (by kernel_rfl) (pre_of hpre 2 (by kernel_rfl)))
      have r29 : b.tmps.getD 29 undef = (.agg #[.int .i64 b0, .int .i64 b1]) := rd (hT.at 7 (by kernel_rfl) (pre_of hpre 7 (by kernel_rfl)))
      have r34 : b.tmps.getD 34 undef = (.agg #[.int .i64 c0, .int .i64 c1]) := rd (hT.at 12 (by kernel_rfl) (pre_of hpre 12 (by kernel_rfl)))
      refine op_go hoi (want_all rfl) fun K hK => ?_
      clear hT hpre hun hlit hoi
      go_simp
      go_at_call 52
      refine (ori52 _ _ _ _ _ _ _).mono ?_; rw [ho]; rintro e w2 ⟨rfl, hb⟩; replace ac0 := ck hb (a := ⟨ka, 0, none⟩) (v := .int .i64 a0) (by go_simp); replace ac1 := ck hb (a := ⟨ka, 1, none⟩) (v := .int .i64 a1) (by go_simp); replace bc0 := ck hb (a := ⟨kb, 0, none⟩) (v := .int .i64 b0) (by go_simp); replace bc1 := ck hb (a := ⟨kb, 1, none⟩) (v := .int .i64 b1) (by go_simp); replace cc0 := ck hb (a := ⟨kc, 0, none⟩) (v := .int .i64 c0) (by go_simp); replace cc1 := ck hb (a := ⟨kc, 1, none⟩) (v := .int .i64 c1) (by go_simp); replace ddc0 := ck hb (a := ⟨kd, 0, none⟩) (v := .int .i64 d0) (by go_simp); replace ddc1 := ck hb (a := ⟨kd, 1, none⟩) (v := .int .i64 d1) (by go_simp); replace pc0 := ck hb (a := ⟨kp, 0, none⟩) (v := .int .i64 a0) (by go_simp); replace pc1 := ck hb (a := ⟨kp, 1, none⟩) (v := .int .i64 a1) (by go_simp); replace pc2 := ck hb (a := ⟨kp, 2, none⟩) (v := .int .i64 b0) (by go_simp); replace pc3 := ck hb (a := ⟨kp, 3, none⟩) (v := .int .i64 b1) (by go_simp); replace pc4 := ck hb (a := ⟨kp, 4, none⟩) (v := .int .i64 c0) (by go_simp); replace pc5 := ck hb (a := ⟨kp, 5, none⟩) (v := .int .i64 c1) (by go_simp); replace pc6 := ck hb (a := ⟨kp, 6, none⟩) (v := .int .i64 d0) (by go_simp); replace pc7 := ck hb (a := ⟨kp, 7, none⟩) (v := .int .i64 d1) (by go_simp); replace HB : Below W.heap.size W w2 := bt HB hb; clear hb
      exact hK _ _ ⟨(), fun _ _ => rfl, rfl, ac0, ac1, bc0, bc1, cc0, cc1, ddc0, ddc1, pc0, pc1, pc2, pc3, pc4, pc5, pc6, pc7, HB⟩
    · have hlit : (regOps Try.f15 5)[14]? = some ({ dst := some 36, op := Op.binOp BinOp.neq 3 (Operand.tmp 35) (Operand.const (Value.int IntKind.i64 1)) 3, type := 4, pos := "law.go:45", after := #[{ on := 13, ground := Ground.data }], guard := none }) := by kernel_rfl
      obtain rfl := Option.some.inj (hlit.symm.trans hoi)
      have r35 : b.tmps.getD 35 undef = (.int .i64 o) := rd (hT.at 13 (by kernel_rfl) (pre_of hpre 13 (by kernel_rfl)))
      refine op_go hoi (want_all rfl) fun K hK => ?_
      clear hT hpre hun hlit hoi
      go_simp
      exact hK _ _ ⟨(), fun _ _ => rfl, rfl, ac0, ac1, bc0, bc1, cc0, cc1, ddc0, ddc1, pc0, pc1, pc2, pc3, pc4, pc5, pc6, pc7, HB⟩
  · intro g b w' hT hS
    rw [hT.all ht]
    have hn : (regOps Try.f15 5).size = 15 := by kernel_rfl
    rw [hn]
    exact he w' hS

/-- What each operation of the region leaves. -/
def region15_1V (b0 b1 c0 c1 d0 d1 o : Int) (kp : Nat) (ob : Bool) : Nat → Value
  | 0 => .int .i64 1
  | 1 => .pointer (some ⟨kp, 2, none⟩)
  | 2 => .agg #[.int .i64 b0, .int .i64 b1]
  | 3 => .int .i64 1
  | 4 => .int .i64 2
  | 5 => .int .i64 2
  | 6 => .pointer (some ⟨kp, 4, none⟩)
  | 7 => .agg #[.int .i64 c0, .int .i64 c1]
  | 8 => .int .i64 1
  | 9 => .int .i64 3
  | 10 => .int .i64 3
  | 11 => .pointer (some ⟨kp, 6, none⟩)
  | 12 => .agg #[.int .i64 d0, .int .i64 d1]
  | 13 => .int .i64 o
  | 14 => .bool ob
  | _ => undef

set_option maxHeartbeats 4000000 in
set_option maxRecDepth 100000 in
theorem region15_1 (a0 a1 b0 b1 c0 c1 d0 d1 o : Int) (ka kb kc kd kp : Nat) (ob : Bool) (W : World) (ho : ori ⟨b0, b1⟩ ⟨c0, c1⟩ ⟨d0, d1⟩ = o) (hb : (o != 1) = ob) {id : Nat} {ops : Array Oper} {Q : Exit → Act → World → Prop} {a : Act} {w : World}
    (ho : ops = (regOps Try.f15 5)) (hsz : a.tmps.size = 73) (t9 : a.tmps[9]? = some (.pointer (some ⟨kp, 0, none⟩))) (t10 : a.tmps[10]? = some (.int .i64 1))
    (h0 : w.drew.cell? ⟨ka, 0, none⟩ = some (.int .i64 a0) ∧ w.drew.cell? ⟨ka, 1, none⟩ = some (.int .i64 a1) ∧ w.drew.cell? ⟨kb, 0, none⟩ = some (.int .i64 b0) ∧ w.drew.cell? ⟨kb, 1, none⟩ = some (.int .i64 b1) ∧ w.drew.cell? ⟨kc, 0, none⟩ = some (.int .i64 c0) ∧ w.drew.cell? ⟨kc, 1, none⟩ = some (.int .i64 c1) ∧ w.drew.cell? ⟨kd, 0, none⟩ = some (.int .i64 d0) ∧ w.drew.cell? ⟨kd, 1, none⟩ = some (.int .i64 d1) ∧ w.drew.cell? ⟨kp, 0, none⟩ = some (.int .i64 a0) ∧ w.drew.cell? ⟨kp, 1, none⟩ = some (.int .i64 a1) ∧ w.drew.cell? ⟨kp, 2, none⟩ = some (.int .i64 b0) ∧ w.drew.cell? ⟨kp, 3, none⟩ = some (.int .i64 b1) ∧ w.drew.cell? ⟨kp, 4, none⟩ = some (.int .i64 c0) ∧ w.drew.cell? ⟨kp, 5, none⟩ = some (.int .i64 c1) ∧ w.drew.cell? ⟨kp, 6, none⟩ = some (.int .i64 d0) ∧ w.drew.cell? ⟨kp, 7, none⟩ = some (.int .i64 d1) ∧ Below W.heap.size W w.drew)
    (he : ∀ w', w'.cell? ⟨ka, 0, none⟩ = some (.int .i64 a0) ∧ w'.cell? ⟨ka, 1, none⟩ = some (.int .i64 a1) ∧ w'.cell? ⟨kb, 0, none⟩ = some (.int .i64 b0) ∧ w'.cell? ⟨kb, 1, none⟩ = some (.int .i64 b1) ∧ w'.cell? ⟨kc, 0, none⟩ = some (.int .i64 c0) ∧ w'.cell? ⟨kc, 1, none⟩ = some (.int .i64 c1) ∧ w'.cell? ⟨kd, 0, none⟩ = some (.int .i64 d0) ∧ w'.cell? ⟨kd, 1, none⟩ = some (.int .i64 d1) ∧ w'.cell? ⟨kp, 0, none⟩ = some (.int .i64 a0) ∧ w'.cell? ⟨kp, 1, none⟩ = some (.int .i64 a1) ∧ w'.cell? ⟨kp, 2, none⟩ = some (.int .i64 b0) ∧ w'.cell? ⟨kp, 3, none⟩ = some (.int .i64 b1) ∧ w'.cell? ⟨kp, 4, none⟩ = some (.int .i64 c0) ∧ w'.cell? ⟨kp, 5, none⟩ = some (.int .i64 c1) ∧ w'.cell? ⟨kp, 6, none⟩ = some (.int .i64 d0) ∧ w'.cell? ⟨kp, 7, none⟩ = some (.int .i64 d1) ∧ Below W.heap.size W w' → Q .normal ⟨(((((((((((((((a.tmps.setIfInBounds 22 (.int .i64 1)).setIfInBounds 23 (.pointer (some ⟨kp, 2, none⟩))).setIfInBounds 24 (.agg #[.int .i64 b0, .int .i64 b1])).setIfInBounds 25 (.int .i64 1)).setIfInBounds 26 (.int .i64 2)).setIfInBounds 27 (.int .i64 2)).setIfInBounds 28 (.pointer (some ⟨kp, 4, none⟩))).setIfInBounds 29 (.agg #[.int .i64 c0, .int .i64 c1])).setIfInBounds 30 (.int .i64 1)).setIfInBounds 31 (.int .i64 3)).setIfInBounds 32 (.int .i64 3)).setIfInBounds 33 (.pointer (some ⟨kp, 6, none⟩))).setIfInBounds 34 (.agg #[.int .i64 d0, .int .i64 d1])).setIfInBounds 35 (.int .i64 o)).setIfInBounds 36 (.bool ob)), a.defers⟩ w') :
    (Code.region id ops true).wp Try.prog Q a w := by
  have ht : tidy (regOps Try.f15 5) a.tmps.size = true := by rw [hsz]; kernel_rfl
  refine region_tab (G := Unit) (fun _ => (region15_1V b0 b1 c0 c1 d0 d1 o kp ob)) (fun _ _ w' => w'.cell? ⟨ka, 0, none⟩ = some (.int .i64 a0) ∧ w'.cell? ⟨ka, 1, none⟩ = some (.int .i64 a1) ∧ w'.cell? ⟨kb, 0, none⟩ = some (.int .i64 b0) ∧ w'.cell? ⟨kb, 1, none⟩ = some (.int .i64 b1) ∧ w'.cell? ⟨kc, 0, none⟩ = some (.int .i64 c0) ∧ w'.cell? ⟨kc, 1, none⟩ = some (.int .i64 c1) ∧ w'.cell? ⟨kd, 0, none⟩ = some (.int .i64 d0) ∧ w'.cell? ⟨kd, 1, none⟩ = some (.int .i64 d1) ∧ w'.cell? ⟨kp, 0, none⟩ = some (.int .i64 a0) ∧ w'.cell? ⟨kp, 1, none⟩ = some (.int .i64 a1) ∧ w'.cell? ⟨kp, 2, none⟩ = some (.int .i64 b0) ∧ w'.cell? ⟨kp, 3, none⟩ = some (.int .i64 b1) ∧ w'.cell? ⟨kp, 4, none⟩ = some (.int .i64 c0) ∧ w'.cell? ⟨kp, 5, none⟩ = some (.int .i64 c1) ∧ w'.cell? ⟨kp, 6, none⟩ = some (.int .i64 d0) ∧ w'.cell? ⟨kp, 7, none⟩ = some (.int .i64 d1) ∧ Below W.heap.size W w') () (by kernel_rfl) ho ht h0 ?_ ?_
  · intro i o hoi g L b w' hun hpre hT hS
    clear he h0 ho hsz ht
    have hi : i < (regOps Try.f15 5).size := (Array.getElem?_eq_some_iff.1 hoi).1
    rw [show (regOps Try.f15 5).size = 15 by kernel_rfl] at hi
    obtain ⟨ac0, ac1, bc0, bc1, cc0, cc1, ddc0, ddc1, pc0, pc1, pc2, pc3, pc4, pc5, pc6, pc7, HB⟩ := hS
    have hcases : i = 0 ∨ i = 1 ∨ i = 2 ∨ i = 3 ∨ i = 4 ∨ i = 5 ∨ i = 6 ∨ i = 7 ∨ i = 8 ∨ i = 9 ∨ i = 10 ∨ i = 11 ∨ i = 12 ∨ i = 13 ∨ i = 14 := by omega
    rcases hcases with rfl | rfl | rfl | rfl | rfl | rfl | rfl | rfl | rfl | rfl | rfl | rfl | rfl | rfl | rfl
    · have hlit : (regOps Try.f15 5)[0]? = some ({ dst := some 22, op := Op.move (Operand.tmp 10), type := 3, pos := "law.go:45", after := #[], guard := none }) := by kernel_rfl
      obtain rfl := Option.some.inj (hlit.symm.trans hoi)
      have r10 : b.tmps.getD 10 undef = (.int .i64 1) := rd ((hT.old 10 (by kernel_rfl)).trans t10)
      refine op_go hoi (want_all rfl) fun K hK => ?_
      clear hT hpre hun hlit hoi
      go_simp
      exact hK _ _ ⟨(), fun _ _ => rfl, rfl, ac0, ac1, bc0, bc1, cc0, cc1, ddc0, ddc1, pc0, pc1, pc2, pc3, pc4, pc5, pc6, pc7, HB⟩
    · have hlit : (regOps Try.f15 5)[1]? = some ({ dst := some 23, op := Op.indexAddr 60 (Operand.tmp 9) (Operand.tmp 22), type := 0, pos := "law.go:45", after := #[{ on := 0, ground := Ground.data }], guard := none }) := by kernel_rfl
      obtain rfl := Option.some.inj (hlit.symm.trans hoi)
      have r9 : b.tmps.getD 9 undef = (.pointer (some ⟨kp, 0, none⟩)) := rd ((hT.old 9 (by kernel_rfl)).trans t9)
      have r22 : b.tmps.getD 22 undef = (.int .i64 1) := rd (hT.at 0 (by kernel_rfl) (pre_of hpre 0 (by kernel_rfl)))
      refine op_go hoi (want_all rfl) fun K hK => ?_
      clear hT hpre hun hlit hoi
      go_simp
      exact hK _ _ ⟨(), fun _ _ => rfl, rfl, ac0, ac1, bc0, bc1, cc0, cc1, ddc0, ddc1, pc0, pc1, pc2, pc3, pc4, pc5, pc6, pc7, HB⟩
    · have hlit : (regOps Try.f15 5)[2]? = some ({ dst := some 24, op := Op.load 23 (Operand.tmp 23), type := 23, pos := "law.go:45", after := #[{ on := 1, ground := Ground.data }], guard := none }) := by kernel_rfl
      obtain rfl := Option.some.inj (hlit.symm.trans hoi)
      have r23 : b.tmps.getD 23 undef = (.pointer (some ⟨kp, 2, none⟩)) := rd (hT.at 1 (by kernel_rfl) (pre_of hpre 1 (by kernel_rfl)))
      refine op_go hoi (want_all rfl) fun K hK => ?_
      clear hT hpre hun hlit hoi
      go_simp
      exact hK _ _ ⟨(), fun _ _ => rfl, rfl, ac0, ac1, bc0, bc1, cc0, cc1, ddc0, ddc1, pc0, pc1, pc2, pc3, pc4, pc5, pc6, pc7, HB⟩
    · have hlit : (regOps Try.f15 5)[3]? = some ({ dst := some 25, op := Op.move (Operand.tmp 10), type := 3, pos := "law.go:45", after := #[], guard := none }) := by kernel_rfl
      obtain rfl := Option.some.inj (hlit.symm.trans hoi)
      have r10 : b.tmps.getD 10 undef = (.int .i64 1) := rd ((hT.old 10 (by kernel_rfl)).trans t10)
      refine op_go hoi (want_all rfl) fun K hK => ?_
      clear hT hpre hun hlit hoi
      go_simp
      exact hK _ _ ⟨(), fun _ _ => rfl, rfl, ac0, ac1, bc0, bc1, cc0, cc1, ddc0, ddc1, pc0, pc1, pc2, pc3, pc4, pc5, pc6, pc7, HB⟩
    · have hlit : (regOps Try.f15 5)[4]? = some ({ dst := some 26, op := Op.binOp BinOp.add 3 (Operand.tmp 25) (Operand.const (Value.int IntKind.i64 1)) 3, type := 3, pos := "law.go:45", after := #[{ on := 3, ground := Ground.data }], guard := none }) := by kernel_rfl
      obtain rfl := Option.some.inj (hlit.symm.trans hoi)
      have r25 : b.tmps.getD 25 undef = (.int .i64 1) := rd (hT.at 3 (by kernel_rfl) (pre_of hpre 3 (by kernel_rfl)))
      refine op_go hoi (want_all rfl) fun K hK => ?_
      clear hT hpre hun hlit hoi
      go_simp
      exact hK _ _ ⟨(), fun _ _ => rfl, rfl, ac0, ac1, bc0, bc1, cc0, cc1, ddc0, ddc1, pc0, pc1, pc2, pc3, pc4, pc5, pc6, pc7, HB⟩
    · have hlit : (regOps Try.f15 5)[5]? = some ({ dst := some 27, op := Op.binOp BinOp.rem 3 (Operand.tmp 26) (Operand.const (Value.int IntKind.i64 4)) 3, type := 3, pos := "law.go:45", after := #[{ on := 4, ground := Ground.data }], guard := none }) := by kernel_rfl
      obtain rfl := Option.some.inj (hlit.symm.trans hoi)
      have r26 : b.tmps.getD 26 undef = (.int .i64 2) := rd (hT.at 4 (by kernel_rfl) (pre_of hpre 4 (by kernel_rfl)))
      refine op_go hoi (want_all rfl) fun K hK => ?_
      clear hT hpre hun hlit hoi
      go_simp
      exact hK _ _ ⟨(), fun _ _ => rfl, rfl, ac0, ac1, bc0, bc1, cc0, cc1, ddc0, ddc1, pc0, pc1, pc2, pc3, pc4, pc5, pc6, pc7, HB⟩
    · have hlit : (regOps Try.f15 5)[6]? = some ({ dst := some 28, op := Op.indexAddr 60 (Operand.tmp 9) (Operand.tmp 27), type := 0, pos := "law.go:45", after := #[{ on := 5, ground := Ground.data }], guard := none }) := by kernel_rfl
      obtain rfl := Option.some.inj (hlit.symm.trans hoi)
      have r9 : b.tmps.getD 9 undef = (.pointer (some ⟨kp, 0, none⟩)) := rd ((hT.old 9 (by kernel_rfl)).trans t9)
      have r27 : b.tmps.getD 27 undef = (.int .i64 2) := rd (hT.at 5 (by kernel_rfl) (pre_of hpre 5 (by kernel_rfl)))
      refine op_go hoi (want_all rfl) fun K hK => ?_
      clear hT hpre hun hlit hoi
      go_simp
      exact hK _ _ ⟨(), fun _ _ => rfl, rfl, ac0, ac1, bc0, bc1, cc0, cc1, ddc0, ddc1, pc0, pc1, pc2, pc3, pc4, pc5, pc6, pc7, HB⟩
    · have hlit : (regOps Try.f15 5)[7]? = some ({ dst := some 29, op := Op.load 23 (Operand.tmp 28), type := 23, pos := "law.go:45", after := #[{ on := 6, ground := Ground.data }], guard := none }) := by kernel_rfl
      obtain rfl := Option.some.inj (hlit.symm.trans hoi)
      have r28 : b.tmps.getD 28 undef = (.pointer (some ⟨kp, 4, none⟩)) := rd (hT.at 6 (by kernel_rfl) (pre_of hpre 6 (by kernel_rfl)))
      refine op_go hoi (want_all rfl) fun K hK => ?_
      clear hT hpre hun hlit hoi
      go_simp
      exact hK _ _ ⟨(), fun _ _ => rfl, rfl, ac0, ac1, bc0, bc1, cc0, cc1, ddc0, ddc1, pc0, pc1, pc2, pc3, pc4, pc5, pc6, pc7, HB⟩
    · have hlit : (regOps Try.f15 5)[8]? = some ({ dst := some 30, op := Op.move (Operand.tmp 10), type := 3, pos := "law.go:45", after := #[], guard := none }) := by kernel_rfl
      obtain rfl := Option.some.inj (hlit.symm.trans hoi)
      have r10 : b.tmps.getD 10 undef = (.int .i64 1) := rd ((hT.old 10 (by kernel_rfl)).trans t10)
      refine op_go hoi (want_all rfl) fun K hK => ?_
      clear hT hpre hun hlit hoi
      go_simp
      exact hK _ _ ⟨(), fun _ _ => rfl, rfl, ac0, ac1, bc0, bc1, cc0, cc1, ddc0, ddc1, pc0, pc1, pc2, pc3, pc4, pc5, pc6, pc7, HB⟩
    · have hlit : (regOps Try.f15 5)[9]? = some ({ dst := some 31, op := Op.binOp BinOp.add 3 (Operand.tmp 30) (Operand.const (Value.int IntKind.i64 2)) 3, type := 3, pos := "law.go:45", after := #[{ on := 8, ground := Ground.data }], guard := none }) := by kernel_rfl
      obtain rfl := Option.some.inj (hlit.symm.trans hoi)
      have r30 : b.tmps.getD 30 undef = (.int .i64 1) := rd (hT.at 8 (by kernel_rfl) (pre_of hpre 8 (by kernel_rfl)))
      refine op_go hoi (want_all rfl) fun K hK => ?_
      clear hT hpre hun hlit hoi
      go_simp
      exact hK _ _ ⟨(), fun _ _ => rfl, rfl, ac0, ac1, bc0, bc1, cc0, cc1, ddc0, ddc1, pc0, pc1, pc2, pc3, pc4, pc5, pc6, pc7, HB⟩
    · have hlit : (regOps Try.f15 5)[10]? = some ({ dst := some 32, op := Op.binOp BinOp.rem 3 (Operand.tmp 31) (Operand.const (Value.int IntKind.i64 4)) 3, type := 3, pos := "law.go:45", after := #[{ on := 9, ground := Ground.data }], guard := none }) := by kernel_rfl
      obtain rfl := Option.some.inj (hlit.symm.trans hoi)
      have r31 : b.tmps.getD 31 undef = (.int .i64 3) := rd (hT.at 9 (by kernel_rfl) (pre_of hpre 9 (by kernel_rfl)))
      refine op_go hoi (want_all rfl) fun K hK => ?_
      clear hT hpre hun hlit hoi
      go_simp
      exact hK _ _ ⟨(), fun _ _ => rfl, rfl, ac0, ac1, bc0, bc1, cc0, cc1, ddc0, ddc1, pc0, pc1, pc2, pc3, pc4, pc5, pc6, pc7, HB⟩
    · have hlit : (regOps Try.f15 5)[11]? = some ({ dst := some 33, op := Op.indexAddr 60 (Operand.tmp 9) (Operand.tmp 32), type := 0, pos := "law.go:45", after := #[{ on := 10, ground := Ground.data }], guard := none }) := by kernel_rfl
      obtain rfl := Option.some.inj (hlit.symm.trans hoi)
      have r9 : b.tmps.getD 9 undef = (.pointer (some ⟨kp, 0, none⟩)) := rd ((hT.old 9 (by kernel_rfl)).trans t9)
      have r32 : b.tmps.getD 32 undef = (.int .i64 3) := rd (hT.at 10 (by kernel_rfl) (pre_of hpre 10 (by kernel_rfl)))
      refine op_go hoi (want_all rfl) fun K hK => ?_
      clear hT hpre hun hlit hoi
      go_simp
      exact hK _ _ ⟨(), fun _ _ => rfl, rfl, ac0, ac1, bc0, bc1, cc0, cc1, ddc0, ddc1, pc0, pc1, pc2, pc3, pc4, pc5, pc6, pc7, HB⟩
    · have hlit : (regOps Try.f15 5)[12]? = some ({ dst := some 34, op := Op.load 23 (Operand.tmp 33), type := 23, pos := "law.go:45", after := #[{ on := 11, ground := Ground.data }], guard := none }) := by kernel_rfl
      obtain rfl := Option.some.inj (hlit.symm.trans hoi)
      have r33 : b.tmps.getD 33 undef = (.pointer (some ⟨kp, 6, none⟩)) := rd (hT.at 11 (by kernel_rfl) (pre_of hpre 11 (by kernel_rfl)))
      refine op_go hoi (want_all rfl) fun K hK => ?_
      clear hT hpre hun hlit hoi
      go_simp
      exact hK _ _ ⟨(), fun _ _ => rfl, rfl, ac0, ac1, bc0, bc1, cc0, cc1, ddc0, ddc1, pc0, pc1, pc2, pc3, pc4, pc5, pc6, pc7, HB⟩
    · have hlit : (regOps Try.f15 5)[13]? = some ({ dst := some 35, op := Op.call { callee := Callee.value (Operand.func 52), args := #[Operand.tmp 24, Operand.tmp 29, Operand.tmp 34], argTypes := #[23, 23, 23] }, type := 3, pos := "law.go:45", after := #[{ on := 2, ground := Ground.data }, { on := 7, ground := Ground.data }, { on := 12, ground := Ground.data }], guard := none }) := by kernel_rfl
      obtain rfl := Option.some.inj (hlit.symm.trans hoi)
      have r24 : b.tmps.getD 24 undef = (.agg #[.int .i64 b0, .int .i64 b1]) := rd (hT.at 2 (by kernel_rfl) (pre_of hpre 2 (by kernel_rfl)))
      have r29 : b.tmps.getD 29 undef = (.agg #[.int .i64 c0, .int .i64 c1]) := rd (hT.at 7 (by kernel_rfl) (pre_of hpre 7 (by kernel_rfl)))
      have r34 : b.tmps.getD 34 undef = (.agg #[.int .i64 d0, .int .i64 d1]) := rd (hT.at 12 (by kernel_rfl) (pre_of hpre 12 (by kernel_rfl)))
      refine op_go hoi (want_all rfl) fun K hK => ?_
      clear hT hpre hun hlit hoi
      go_simp
      go_at_call 52
      refine (ori52 _ _ _ _ _ _ _).mono ?_; rw [ho]; rintro e w2 ⟨rfl, hb⟩; replace ac0 := ck hb (a := ⟨ka, 0, none⟩) (v := .int .i64 a0) (by go_simp); replace ac1 := ck hb (a := ⟨ka, 1, none⟩) (v := .int .i64 a1) (by go_simp); replace bc0 := ck hb (a := ⟨kb, 0, none⟩) (v := .int .i64 b0) (by go_simp); replace bc1 := ck hb (a := ⟨kb, 1, none⟩) (v := .int .i64 b1) (by go_simp); replace cc0 := ck hb (a := ⟨kc, 0, none⟩) (v := .int .i64 c0) (by go_simp); replace cc1 := ck hb (a := ⟨kc, 1, none⟩) (v := .int .i64 c1) (by go_simp); replace ddc0 := ck hb (a := ⟨kd, 0, none⟩) (v := .int .i64 d0) (by go_simp); replace ddc1 := ck hb (a := ⟨kd, 1, none⟩) (v := .int .i64 d1) (by go_simp); replace pc0 := ck hb (a := ⟨kp, 0, none⟩) (v := .int .i64 a0) (by go_simp); replace pc1 := ck hb (a := ⟨kp, 1, none⟩) (v := .int .i64 a1) (by go_simp); replace pc2 := ck hb (a := ⟨kp, 2, none⟩) (v := .int .i64 b0) (by go_simp); replace pc3 := ck hb (a := ⟨kp, 3, none⟩) (v := .int .i64 b1) (by go_simp); replace pc4 := ck hb (a := ⟨kp, 4, none⟩) (v := .int .i64 c0) (by go_simp); replace pc5 := ck hb (a := ⟨kp, 5, none⟩) (v := .int .i64 c1) (by go_simp); replace pc6 := ck hb (a := ⟨kp, 6, none⟩) (v := .int .i64 d0) (by go_simp); replace pc7 := ck hb (a := ⟨kp, 7, none⟩) (v := .int .i64 d1) (by go_simp); replace HB : Below W.heap.size W w2 := bt HB hb; clear hb
      exact hK _ _ ⟨(), fun _ _ => rfl, rfl, ac0, ac1, bc0, bc1, cc0, cc1, ddc0, ddc1, pc0, pc1, pc2, pc3, pc4, pc5, pc6, pc7, HB⟩
    · have hlit : (regOps Try.f15 5)[14]? = some ({ dst := some 36, op := Op.binOp BinOp.neq 3 (Operand.tmp 35) (Operand.const (Value.int IntKind.i64 1)) 3, type := 4, pos := "law.go:45", after := #[{ on := 13, ground := Ground.data }], guard := none }) := by kernel_rfl
      obtain rfl := Option.some.inj (hlit.symm.trans hoi)
      have r35 : b.tmps.getD 35 undef = (.int .i64 o) := rd (hT.at 13 (by kernel_rfl) (pre_of hpre 13 (by kernel_rfl)))
      refine op_go hoi (want_all rfl) fun K hK => ?_
      clear hT hpre hun hlit hoi
      go_simp
      exact hK _ _ ⟨(), fun _ _ => rfl, rfl, ac0, ac1, bc0, bc1, cc0, cc1, ddc0, ddc1, pc0, pc1, pc2, pc3, pc4, pc5, pc6, pc7, HB⟩
  · intro g b w' hT hS
    rw [hT.all ht]
    have hn : (regOps Try.f15 5).size = 15 := by kernel_rfl
    rw [hn]
    exact he w' hS

/-- What each operation of the region leaves. -/
def region15_2V (a0 a1 c0 c1 d0 d1 o : Int) (kp : Nat) (ob : Bool) : Nat → Value
  | 0 => .int .i64 2
  | 1 => .pointer (some ⟨kp, 4, none⟩)
  | 2 => .agg #[.int .i64 c0, .int .i64 c1]
  | 3 => .int .i64 2
  | 4 => .int .i64 3
  | 5 => .int .i64 3
  | 6 => .pointer (some ⟨kp, 6, none⟩)
  | 7 => .agg #[.int .i64 d0, .int .i64 d1]
  | 8 => .int .i64 2
  | 9 => .int .i64 4
  | 10 => .int .i64 0
  | 11 => .pointer (some ⟨kp, 0, none⟩)
  | 12 => .agg #[.int .i64 a0, .int .i64 a1]
  | 13 => .int .i64 o
  | 14 => .bool ob
  | _ => undef

set_option maxHeartbeats 4000000 in
set_option maxRecDepth 100000 in
theorem region15_2 (a0 a1 b0 b1 c0 c1 d0 d1 o : Int) (ka kb kc kd kp : Nat) (ob : Bool) (W : World) (ho : ori ⟨c0, c1⟩ ⟨d0, d1⟩ ⟨a0, a1⟩ = o) (hb : (o != 1) = ob) {id : Nat} {ops : Array Oper} {Q : Exit → Act → World → Prop} {a : Act} {w : World}
    (ho : ops = (regOps Try.f15 5)) (hsz : a.tmps.size = 73) (t9 : a.tmps[9]? = some (.pointer (some ⟨kp, 0, none⟩))) (t10 : a.tmps[10]? = some (.int .i64 2))
    (h0 : w.drew.cell? ⟨ka, 0, none⟩ = some (.int .i64 a0) ∧ w.drew.cell? ⟨ka, 1, none⟩ = some (.int .i64 a1) ∧ w.drew.cell? ⟨kb, 0, none⟩ = some (.int .i64 b0) ∧ w.drew.cell? ⟨kb, 1, none⟩ = some (.int .i64 b1) ∧ w.drew.cell? ⟨kc, 0, none⟩ = some (.int .i64 c0) ∧ w.drew.cell? ⟨kc, 1, none⟩ = some (.int .i64 c1) ∧ w.drew.cell? ⟨kd, 0, none⟩ = some (.int .i64 d0) ∧ w.drew.cell? ⟨kd, 1, none⟩ = some (.int .i64 d1) ∧ w.drew.cell? ⟨kp, 0, none⟩ = some (.int .i64 a0) ∧ w.drew.cell? ⟨kp, 1, none⟩ = some (.int .i64 a1) ∧ w.drew.cell? ⟨kp, 2, none⟩ = some (.int .i64 b0) ∧ w.drew.cell? ⟨kp, 3, none⟩ = some (.int .i64 b1) ∧ w.drew.cell? ⟨kp, 4, none⟩ = some (.int .i64 c0) ∧ w.drew.cell? ⟨kp, 5, none⟩ = some (.int .i64 c1) ∧ w.drew.cell? ⟨kp, 6, none⟩ = some (.int .i64 d0) ∧ w.drew.cell? ⟨kp, 7, none⟩ = some (.int .i64 d1) ∧ Below W.heap.size W w.drew)
    (he : ∀ w', w'.cell? ⟨ka, 0, none⟩ = some (.int .i64 a0) ∧ w'.cell? ⟨ka, 1, none⟩ = some (.int .i64 a1) ∧ w'.cell? ⟨kb, 0, none⟩ = some (.int .i64 b0) ∧ w'.cell? ⟨kb, 1, none⟩ = some (.int .i64 b1) ∧ w'.cell? ⟨kc, 0, none⟩ = some (.int .i64 c0) ∧ w'.cell? ⟨kc, 1, none⟩ = some (.int .i64 c1) ∧ w'.cell? ⟨kd, 0, none⟩ = some (.int .i64 d0) ∧ w'.cell? ⟨kd, 1, none⟩ = some (.int .i64 d1) ∧ w'.cell? ⟨kp, 0, none⟩ = some (.int .i64 a0) ∧ w'.cell? ⟨kp, 1, none⟩ = some (.int .i64 a1) ∧ w'.cell? ⟨kp, 2, none⟩ = some (.int .i64 b0) ∧ w'.cell? ⟨kp, 3, none⟩ = some (.int .i64 b1) ∧ w'.cell? ⟨kp, 4, none⟩ = some (.int .i64 c0) ∧ w'.cell? ⟨kp, 5, none⟩ = some (.int .i64 c1) ∧ w'.cell? ⟨kp, 6, none⟩ = some (.int .i64 d0) ∧ w'.cell? ⟨kp, 7, none⟩ = some (.int .i64 d1) ∧ Below W.heap.size W w' → Q .normal ⟨(((((((((((((((a.tmps.setIfInBounds 22 (.int .i64 2)).setIfInBounds 23 (.pointer (some ⟨kp, 4, none⟩))).setIfInBounds 24 (.agg #[.int .i64 c0, .int .i64 c1])).setIfInBounds 25 (.int .i64 2)).setIfInBounds 26 (.int .i64 3)).setIfInBounds 27 (.int .i64 3)).setIfInBounds 28 (.pointer (some ⟨kp, 6, none⟩))).setIfInBounds 29 (.agg #[.int .i64 d0, .int .i64 d1])).setIfInBounds 30 (.int .i64 2)).setIfInBounds 31 (.int .i64 4)).setIfInBounds 32 (.int .i64 0)).setIfInBounds 33 (.pointer (some ⟨kp, 0, none⟩))).setIfInBounds 34 (.agg #[.int .i64 a0, .int .i64 a1])).setIfInBounds 35 (.int .i64 o)).setIfInBounds 36 (.bool ob)), a.defers⟩ w') :
    (Code.region id ops true).wp Try.prog Q a w := by
  have ht : tidy (regOps Try.f15 5) a.tmps.size = true := by rw [hsz]; kernel_rfl
  refine region_tab (G := Unit) (fun _ => (region15_2V a0 a1 c0 c1 d0 d1 o kp ob)) (fun _ _ w' => w'.cell? ⟨ka, 0, none⟩ = some (.int .i64 a0) ∧ w'.cell? ⟨ka, 1, none⟩ = some (.int .i64 a1) ∧ w'.cell? ⟨kb, 0, none⟩ = some (.int .i64 b0) ∧ w'.cell? ⟨kb, 1, none⟩ = some (.int .i64 b1) ∧ w'.cell? ⟨kc, 0, none⟩ = some (.int .i64 c0) ∧ w'.cell? ⟨kc, 1, none⟩ = some (.int .i64 c1) ∧ w'.cell? ⟨kd, 0, none⟩ = some (.int .i64 d0) ∧ w'.cell? ⟨kd, 1, none⟩ = some (.int .i64 d1) ∧ w'.cell? ⟨kp, 0, none⟩ = some (.int .i64 a0) ∧ w'.cell? ⟨kp, 1, none⟩ = some (.int .i64 a1) ∧ w'.cell? ⟨kp, 2, none⟩ = some (.int .i64 b0) ∧ w'.cell? ⟨kp, 3, none⟩ = some (.int .i64 b1) ∧ w'.cell? ⟨kp, 4, none⟩ = some (.int .i64 c0) ∧ w'.cell? ⟨kp, 5, none⟩ = some (.int .i64 c1) ∧ w'.cell? ⟨kp, 6, none⟩ = some (.int .i64 d0) ∧ w'.cell? ⟨kp, 7, none⟩ = some (.int .i64 d1) ∧ Below W.heap.size W w') () (by kernel_rfl) ho ht h0 ?_ ?_
  · intro i o hoi g L b w' hun hpre hT hS
    clear he h0 ho hsz ht
    have hi : i < (regOps Try.f15 5).size := (Array.getElem?_eq_some_iff.1 hoi).1
    rw [show (regOps Try.f15 5).size = 15 by kernel_rfl] at hi
    obtain ⟨ac0, ac1, bc0, bc1, cc0, cc1, ddc0, ddc1, pc0, pc1, pc2, pc3, pc4, pc5, pc6, pc7, HB⟩ := hS
    have hcases : i = 0 ∨ i = 1 ∨ i = 2 ∨ i = 3 ∨ i = 4 ∨ i = 5 ∨ i = 6 ∨ i = 7 ∨ i = 8 ∨ i = 9 ∨ i = 10 ∨ i = 11 ∨ i = 12 ∨ i = 13 ∨ i = 14 := by omega
    rcases hcases with rfl | rfl | rfl | rfl | rfl | rfl | rfl | rfl | rfl | rfl | rfl | rfl | rfl | rfl | rfl
    · have hlit : (regOps Try.f15 5)[0]? = some ({ dst := some 22, op := Op.move (Operand.tmp 10), type := 3, pos := "law.go:45", after := #[], guard := none }) := by kernel_rfl
      obtain rfl := Option.some.inj (hlit.symm.trans hoi)
      have r10 : b.tmps.getD 10 undef = (.int .i64 2) := rd ((hT.old 10 (by kernel_rfl)).trans t10)
      refine op_go hoi (want_all rfl) fun K hK => ?_
      clear hT hpre hun hlit hoi
      go_simp
      exact hK _ _ ⟨(), fun _ _ => rfl, rfl, ac0, ac1, bc0, bc1, cc0, cc1, ddc0, ddc1, pc0, pc1, pc2, pc3, pc4, pc5, pc6, pc7, HB⟩
    · have hlit : (regOps Try.f15 5)[1]? = some ({ dst := some 23, op := Op.indexAddr 60 (Operand.tmp 9) (Operand.tmp 22), type := 0, pos := "law.go:45", after := #[{ on := 0, ground := Ground.data }], guard := none }) := by kernel_rfl
      obtain rfl := Option.some.inj (hlit.symm.trans hoi)
      have r9 : b.tmps.getD 9 undef = (.pointer (some ⟨kp, 0, none⟩)) := rd ((hT.old 9 (by kernel_rfl)).trans t9)
      have r22 : b.tmps.getD 22 undef = (.int .i64 2) := rd (hT.at 0 (by kernel_rfl) (pre_of hpre 0 (by kernel_rfl)))
      refine op_go hoi (want_all rfl) fun K hK => ?_
      clear hT hpre hun hlit hoi
      go_simp
      exact hK _ _ ⟨(), fun _ _ => rfl, rfl, ac0, ac1, bc0, bc1, cc0, cc1, ddc0, ddc1, pc0, pc1, pc2, pc3, pc4, pc5, pc6, pc7, HB⟩
    · have hlit : (regOps Try.f15 5)[2]? = some ({ dst := some 24, op := Op.load 23 (Operand.tmp 23), type := 23, pos := "law.go:45", after := #[{ on := 1, ground := Ground.data }], guard := none }) := by kernel_rfl
      obtain rfl := Option.some.inj (hlit.symm.trans hoi)
      have r23 : b.tmps.getD 23 undef = (.pointer (some ⟨kp, 4, none⟩)) := rd (hT.at 1 (by kernel_rfl) (pre_of hpre 1 (by kernel_rfl)))
      refine op_go hoi (want_all rfl) fun K hK => ?_
      clear hT hpre hun hlit hoi
      go_simp
      exact hK _ _ ⟨(), fun _ _ => rfl, rfl, ac0, ac1, bc0, bc1, cc0, cc1, ddc0, ddc1, pc0, pc1, pc2, pc3, pc4, pc5, pc6, pc7, HB⟩
    · have hlit : (regOps Try.f15 5)[3]? = some ({ dst := some 25, op := Op.move (Operand.tmp 10), type := 3, pos := "law.go:45", after := #[], guard := none }) := by kernel_rfl
      obtain rfl := Option.some.inj (hlit.symm.trans hoi)
      have r10 : b.tmps.getD 10 undef = (.int .i64 2) := rd ((hT.old 10 (by kernel_rfl)).trans t10)
      refine op_go hoi (want_all rfl) fun K hK => ?_
      clear hT hpre hun hlit hoi
      go_simp
      exact hK _ _ ⟨(), fun _ _ => rfl, rfl, ac0, ac1, bc0, bc1, cc0, cc1, ddc0, ddc1, pc0, pc1, pc2, pc3, pc4, pc5, pc6, pc7, HB⟩
    · have hlit : (regOps Try.f15 5)[4]? = some ({ dst := some 26, op := Op.binOp BinOp.add 3 (Operand.tmp 25) (Operand.const (Value.int IntKind.i64 1)) 3, type := 3, pos := "law.go:45", after := #[{ on := 3, ground := Ground.data }], guard := none }) := by kernel_rfl
      obtain rfl := Option.some.inj (hlit.symm.trans hoi)
      have r25 : b.tmps.getD 25 undef = (.int .i64 2) := rd (hT.at 3 (by kernel_rfl) (pre_of hpre 3 (by kernel_rfl)))
      refine op_go hoi (want_all rfl) fun K hK => ?_
      clear hT hpre hun hlit hoi
      go_simp
      exact hK _ _ ⟨(), fun _ _ => rfl, rfl, ac0, ac1, bc0, bc1, cc0, cc1, ddc0, ddc1, pc0, pc1, pc2, pc3, pc4, pc5, pc6, pc7, HB⟩
    · have hlit : (regOps Try.f15 5)[5]? = some ({ dst := some 27, op := Op.binOp BinOp.rem 3 (Operand.tmp 26) (Operand.const (Value.int IntKind.i64 4)) 3, type := 3, pos := "law.go:45", after := #[{ on := 4, ground := Ground.data }], guard := none }) := by kernel_rfl
      obtain rfl := Option.some.inj (hlit.symm.trans hoi)
      have r26 : b.tmps.getD 26 undef = (.int .i64 3) := rd (hT.at 4 (by kernel_rfl) (pre_of hpre 4 (by kernel_rfl)))
      refine op_go hoi (want_all rfl) fun K hK => ?_
      clear hT hpre hun hlit hoi
      go_simp
      exact hK _ _ ⟨(), fun _ _ => rfl, rfl, ac0, ac1, bc0, bc1, cc0, cc1, ddc0, ddc1, pc0, pc1, pc2, pc3, pc4, pc5, pc6, pc7, HB⟩
    · have hlit : (regOps Try.f15 5)[6]? = some ({ dst := some 28, op := Op.indexAddr 60 (Operand.tmp 9) (Operand.tmp 27), type := 0, pos := "law.go:45", after := #[{ on := 5, ground := Ground.data }], guard := none }) := by kernel_rfl
      obtain rfl := Option.some.inj (hlit.symm.trans hoi)
      have r9 : b.tmps.getD 9 undef = (.pointer (some ⟨kp, 0, none⟩)) := rd ((hT.old 9 (by kernel_rfl)).trans t9)
      have r27 : b.tmps.getD 27 undef = (.int .i64 3) := rd (hT.at 5 (by kernel_rfl) (pre_of hpre 5 (by kernel_rfl)))
      refine op_go hoi (want_all rfl) fun K hK => ?_
      clear hT hpre hun hlit hoi
      go_simp
      exact hK _ _ ⟨(), fun _ _ => rfl, rfl, ac0, ac1, bc0, bc1, cc0, cc1, ddc0, ddc1, pc0, pc1, pc2, pc3, pc4, pc5, pc6, pc7, HB⟩
    · have hlit : (regOps Try.f15 5)[7]? = some ({ dst := some 29, op := Op.load 23 (Operand.tmp 28), type := 23, pos := "law.go:45", after := #[{ on := 6, ground := Ground.data }], guard := none }) := by kernel_rfl
      obtain rfl := Option.some.inj (hlit.symm.trans hoi)
      have r28 : b.tmps.getD 28 undef = (.pointer (some ⟨kp, 6, none⟩)) := rd (hT.at 6 (by kernel_rfl) (pre_of hpre 6 (by kernel_rfl)))
      refine op_go hoi (want_all rfl) fun K hK => ?_
      clear hT hpre hun hlit hoi
      go_simp
      exact hK _ _ ⟨(), fun _ _ => rfl, rfl, ac0, ac1, bc0, bc1, cc0, cc1, ddc0, ddc1, pc0, pc1, pc2, pc3, pc4, pc5, pc6, pc7, HB⟩
    · have hlit : (regOps Try.f15 5)[8]? = some ({ dst := some 30, op := Op.move (Operand.tmp 10), type := 3, pos := "law.go:45", after := #[], guard := none }) := by kernel_rfl
      obtain rfl := Option.some.inj (hlit.symm.trans hoi)
      have r10 : b.tmps.getD 10 undef = (.int .i64 2) := rd ((hT.old 10 (by kernel_rfl)).trans t10)
      refine op_go hoi (want_all rfl) fun K hK => ?_
      clear hT hpre hun hlit hoi
      go_simp
      exact hK _ _ ⟨(), fun _ _ => rfl, rfl, ac0, ac1, bc0, bc1, cc0, cc1, ddc0, ddc1, pc0, pc1, pc2, pc3, pc4, pc5, pc6, pc7, HB⟩
    · have hlit : (regOps Try.f15 5)[9]? = some ({ dst := some 31, op := Op.binOp BinOp.add 3 (Operand.tmp 30) (Operand.const (Value.int IntKind.i64 2)) 3, type := 3, pos := "law.go:45", after := #[{ on := 8, ground := Ground.data }], guard := none }) := by kernel_rfl
      obtain rfl := Option.some.inj (hlit.symm.trans hoi)
      have r30 : b.tmps.getD 30 undef = (.int .i64 2) := rd (hT.at 8 (by kernel_rfl) (pre_of hpre 8 (by kernel_rfl)))
      refine op_go hoi (want_all rfl) fun K hK => ?_
      clear hT hpre hun hlit hoi
      go_simp
      exact hK _ _ ⟨(), fun _ _ => rfl, rfl, ac0, ac1, bc0, bc1, cc0, cc1, ddc0, ddc1, pc0, pc1, pc2, pc3, pc4, pc5, pc6, pc7, HB⟩
    · have hlit : (regOps Try.f15 5)[10]? = some ({ dst := some 32, op := Op.binOp BinOp.rem 3 (Operand.tmp 31) (Operand.const (Value.int IntKind.i64 4)) 3, type := 3, pos := "law.go:45", after := #[{ on := 9, ground := Ground.data }], guard := none }) := by kernel_rfl
      obtain rfl := Option.some.inj (hlit.symm.trans hoi)
      have r31 : b.tmps.getD 31 undef = (.int .i64 4) := rd (hT.at 9 (by kernel_rfl) (pre_of hpre 9 (by kernel_rfl)))
      refine op_go hoi (want_all rfl) fun K hK => ?_
      clear hT hpre hun hlit hoi
      go_simp
      exact hK _ _ ⟨(), fun _ _ => rfl, rfl, ac0, ac1, bc0, bc1, cc0, cc1, ddc0, ddc1, pc0, pc1, pc2, pc3, pc4, pc5, pc6, pc7, HB⟩
    · have hlit : (regOps Try.f15 5)[11]? = some ({ dst := some 33, op := Op.indexAddr 60 (Operand.tmp 9) (Operand.tmp 32), type := 0, pos := "law.go:45", after := #[{ on := 10, ground := Ground.data }], guard := none }) := by kernel_rfl
      obtain rfl := Option.some.inj (hlit.symm.trans hoi)
      have r9 : b.tmps.getD 9 undef = (.pointer (some ⟨kp, 0, none⟩)) := rd ((hT.old 9 (by kernel_rfl)).trans t9)
      have r32 : b.tmps.getD 32 undef = (.int .i64 0) := rd (hT.at 10 (by kernel_rfl) (pre_of hpre 10 (by kernel_rfl)))
      refine op_go hoi (want_all rfl) fun K hK => ?_
      clear hT hpre hun hlit hoi
      go_simp
      exact hK _ _ ⟨(), fun _ _ => rfl, rfl, ac0, ac1, bc0, bc1, cc0, cc1, ddc0, ddc1, pc0, pc1, pc2, pc3, pc4, pc5, pc6, pc7, HB⟩
    · have hlit : (regOps Try.f15 5)[12]? = some ({ dst := some 34, op := Op.load 23 (Operand.tmp 33), type := 23, pos := "law.go:45", after := #[{ on := 11, ground := Ground.data }], guard := none }) := by kernel_rfl
      obtain rfl := Option.some.inj (hlit.symm.trans hoi)
      have r33 : b.tmps.getD 33 undef = (.pointer (some ⟨kp, 0, none⟩)) := rd (hT.at 11 (by kernel_rfl) (pre_of hpre 11 (by kernel_rfl)))
      refine op_go hoi (want_all rfl) fun K hK => ?_
      clear hT hpre hun hlit hoi
      go_simp
      exact hK _ _ ⟨(), fun _ _ => rfl, rfl, ac0, ac1, bc0, bc1, cc0, cc1, ddc0, ddc1, pc0, pc1, pc2, pc3, pc4, pc5, pc6, pc7, HB⟩
    · have hlit : (regOps Try.f15 5)[13]? = some ({ dst := some 35, op := Op.call { callee := Callee.value (Operand.func 52), args := #[Operand.tmp 24, Operand.tmp 29, Operand.tmp 34], argTypes := #[23, 23, 23] }, type := 3, pos := "law.go:45", after := #[{ on := 2, ground := Ground.data }, { on := 7, ground := Ground.data }, { on := 12, ground := Ground.data }], guard := none }) := by kernel_rfl
      obtain rfl := Option.some.inj (hlit.symm.trans hoi)
      have r24 : b.tmps.getD 24 undef = (.agg #[.int .i64 c0, .int .i64 c1]) := rd (hT.at 2 (by kernel_rfl) (pre_of hpre 2 (by kernel_rfl)))
      have r29 : b.tmps.getD 29 undef = (.agg #[.int .i64 d0, .int .i64 d1]) := rd (hT.at 7 (by kernel_rfl) (pre_of hpre 7 (by kernel_rfl)))
      have r34 : b.tmps.getD 34 undef = (.agg #[.int .i64 a0, .int .i64 a1]) := rd (hT.at 12 (by kernel_rfl) (pre_of hpre 12 (by kernel_rfl)))
      refine op_go hoi (want_all rfl) fun K hK => ?_
      clear hT hpre hun hlit hoi
      go_simp
      go_at_call 52
      refine (ori52 _ _ _ _ _ _ _).mono ?_; rw [ho]; rintro e w2 ⟨rfl, hb⟩; replace ac0 := ck hb (a := ⟨ka, 0, none⟩) (v := .int .i64 a0) (by go_simp); replace ac1 := ck hb (a := ⟨ka, 1, none⟩) (v := .int .i64 a1) (by go_simp); replace bc0 := ck hb (a := ⟨kb, 0, none⟩) (v := .int .i64 b0) (by go_simp); replace bc1 := ck hb (a := ⟨kb, 1, none⟩) (v := .int .i64 b1) (by go_simp); replace cc0 := ck hb (a := ⟨kc, 0, none⟩) (v := .int .i64 c0) (by go_simp); replace cc1 := ck hb (a := ⟨kc, 1, none⟩) (v := .int .i64 c1) (by go_simp); replace ddc0 := ck hb (a := ⟨kd, 0, none⟩) (v := .int .i64 d0) (by go_simp); replace ddc1 := ck hb (a := ⟨kd, 1, none⟩) (v := .int .i64 d1) (by go_simp); replace pc0 := ck hb (a := ⟨kp, 0, none⟩) (v := .int .i64 a0) (by go_simp); replace pc1 := ck hb (a := ⟨kp, 1, none⟩) (v := .int .i64 a1) (by go_simp); replace pc2 := ck hb (a := ⟨kp, 2, none⟩) (v := .int .i64 b0) (by go_simp); replace pc3 := ck hb (a := ⟨kp, 3, none⟩) (v := .int .i64 b1) (by go_simp); replace pc4 := ck hb (a := ⟨kp, 4, none⟩) (v := .int .i64 c0) (by go_simp); replace pc5 := ck hb (a := ⟨kp, 5, none⟩) (v := .int .i64 c1) (by go_simp); replace pc6 := ck hb (a := ⟨kp, 6, none⟩) (v := .int .i64 d0) (by go_simp); replace pc7 := ck hb (a := ⟨kp, 7, none⟩) (v := .int .i64 d1) (by go_simp); replace HB : Below W.heap.size W w2 := bt HB hb; clear hb
      exact hK _ _ ⟨(), fun _ _ => rfl, rfl, ac0, ac1, bc0, bc1, cc0, cc1, ddc0, ddc1, pc0, pc1, pc2, pc3, pc4, pc5, pc6, pc7, HB⟩
    · have hlit : (regOps Try.f15 5)[14]? = some ({ dst := some 36, op := Op.binOp BinOp.neq 3 (Operand.tmp 35) (Operand.const (Value.int IntKind.i64 1)) 3, type := 4, pos := "law.go:45", after := #[{ on := 13, ground := Ground.data }], guard := none }) := by kernel_rfl
      obtain rfl := Option.some.inj (hlit.symm.trans hoi)
      have r35 : b.tmps.getD 35 undef = (.int .i64 o) := rd (hT.at 13 (by kernel_rfl) (pre_of hpre 13 (by kernel_rfl)))
      refine op_go hoi (want_all rfl) fun K hK => ?_
      clear hT hpre hun hlit hoi
      go_simp
      exact hK _ _ ⟨(), fun _ _ => rfl, rfl, ac0, ac1, bc0, bc1, cc0, cc1, ddc0, ddc1, pc0, pc1, pc2, pc3, pc4, pc5, pc6, pc7, HB⟩
  · intro g b w' hT hS
    rw [hT.all ht]
    have hn : (regOps Try.f15 5).size = 15 := by kernel_rfl
    rw [hn]
    exact he w' hS

/-- What each operation of the region leaves. -/
def region15_3V (a0 a1 b0 b1 d0 d1 o : Int) (kp : Nat) (ob : Bool) : Nat → Value
  | 0 => .int .i64 3
  | 1 => .pointer (some ⟨kp, 6, none⟩)
  | 2 => .agg #[.int .i64 d0, .int .i64 d1]
  | 3 => .int .i64 3
  | 4 => .int .i64 4
  | 5 => .int .i64 0
  | 6 => .pointer (some ⟨kp, 0, none⟩)
  | 7 => .agg #[.int .i64 a0, .int .i64 a1]
  | 8 => .int .i64 3
  | 9 => .int .i64 5
  | 10 => .int .i64 1
  | 11 => .pointer (some ⟨kp, 2, none⟩)
  | 12 => .agg #[.int .i64 b0, .int .i64 b1]
  | 13 => .int .i64 o
  | 14 => .bool ob
  | _ => undef

set_option maxHeartbeats 4000000 in
set_option maxRecDepth 100000 in
theorem region15_3 (a0 a1 b0 b1 c0 c1 d0 d1 o : Int) (ka kb kc kd kp : Nat) (ob : Bool) (W : World) (ho : ori ⟨d0, d1⟩ ⟨a0, a1⟩ ⟨b0, b1⟩ = o) (hb : (o != 1) = ob) {id : Nat} {ops : Array Oper} {Q : Exit → Act → World → Prop} {a : Act} {w : World}
    (ho : ops = (regOps Try.f15 5)) (hsz : a.tmps.size = 73) (t9 : a.tmps[9]? = some (.pointer (some ⟨kp, 0, none⟩))) (t10 : a.tmps[10]? = some (.int .i64 3))
    (h0 : w.drew.cell? ⟨ka, 0, none⟩ = some (.int .i64 a0) ∧ w.drew.cell? ⟨ka, 1, none⟩ = some (.int .i64 a1) ∧ w.drew.cell? ⟨kb, 0, none⟩ = some (.int .i64 b0) ∧ w.drew.cell? ⟨kb, 1, none⟩ = some (.int .i64 b1) ∧ w.drew.cell? ⟨kc, 0, none⟩ = some (.int .i64 c0) ∧ w.drew.cell? ⟨kc, 1, none⟩ = some (.int .i64 c1) ∧ w.drew.cell? ⟨kd, 0, none⟩ = some (.int .i64 d0) ∧ w.drew.cell? ⟨kd, 1, none⟩ = some (.int .i64 d1) ∧ w.drew.cell? ⟨kp, 0, none⟩ = some (.int .i64 a0) ∧ w.drew.cell? ⟨kp, 1, none⟩ = some (.int .i64 a1) ∧ w.drew.cell? ⟨kp, 2, none⟩ = some (.int .i64 b0) ∧ w.drew.cell? ⟨kp, 3, none⟩ = some (.int .i64 b1) ∧ w.drew.cell? ⟨kp, 4, none⟩ = some (.int .i64 c0) ∧ w.drew.cell? ⟨kp, 5, none⟩ = some (.int .i64 c1) ∧ w.drew.cell? ⟨kp, 6, none⟩ = some (.int .i64 d0) ∧ w.drew.cell? ⟨kp, 7, none⟩ = some (.int .i64 d1) ∧ Below W.heap.size W w.drew)
    (he : ∀ w', w'.cell? ⟨ka, 0, none⟩ = some (.int .i64 a0) ∧ w'.cell? ⟨ka, 1, none⟩ = some (.int .i64 a1) ∧ w'.cell? ⟨kb, 0, none⟩ = some (.int .i64 b0) ∧ w'.cell? ⟨kb, 1, none⟩ = some (.int .i64 b1) ∧ w'.cell? ⟨kc, 0, none⟩ = some (.int .i64 c0) ∧ w'.cell? ⟨kc, 1, none⟩ = some (.int .i64 c1) ∧ w'.cell? ⟨kd, 0, none⟩ = some (.int .i64 d0) ∧ w'.cell? ⟨kd, 1, none⟩ = some (.int .i64 d1) ∧ w'.cell? ⟨kp, 0, none⟩ = some (.int .i64 a0) ∧ w'.cell? ⟨kp, 1, none⟩ = some (.int .i64 a1) ∧ w'.cell? ⟨kp, 2, none⟩ = some (.int .i64 b0) ∧ w'.cell? ⟨kp, 3, none⟩ = some (.int .i64 b1) ∧ w'.cell? ⟨kp, 4, none⟩ = some (.int .i64 c0) ∧ w'.cell? ⟨kp, 5, none⟩ = some (.int .i64 c1) ∧ w'.cell? ⟨kp, 6, none⟩ = some (.int .i64 d0) ∧ w'.cell? ⟨kp, 7, none⟩ = some (.int .i64 d1) ∧ Below W.heap.size W w' → Q .normal ⟨(((((((((((((((a.tmps.setIfInBounds 22 (.int .i64 3)).setIfInBounds 23 (.pointer (some ⟨kp, 6, none⟩))).setIfInBounds 24 (.agg #[.int .i64 d0, .int .i64 d1])).setIfInBounds 25 (.int .i64 3)).setIfInBounds 26 (.int .i64 4)).setIfInBounds 27 (.int .i64 0)).setIfInBounds 28 (.pointer (some ⟨kp, 0, none⟩))).setIfInBounds 29 (.agg #[.int .i64 a0, .int .i64 a1])).setIfInBounds 30 (.int .i64 3)).setIfInBounds 31 (.int .i64 5)).setIfInBounds 32 (.int .i64 1)).setIfInBounds 33 (.pointer (some ⟨kp, 2, none⟩))).setIfInBounds 34 (.agg #[.int .i64 b0, .int .i64 b1])).setIfInBounds 35 (.int .i64 o)).setIfInBounds 36 (.bool ob)), a.defers⟩ w') :
    (Code.region id ops true).wp Try.prog Q a w := by
  have ht : tidy (regOps Try.f15 5) a.tmps.size = true := by rw [hsz]; kernel_rfl
  refine region_tab (G := Unit) (fun _ => (region15_3V a0 a1 b0 b1 d0 d1 o kp ob)) (fun _ _ w' => w'.cell? ⟨ka, 0, none⟩ = some (.int .i64 a0) ∧ w'.cell? ⟨ka, 1, none⟩ = some (.int .i64 a1) ∧ w'.cell? ⟨kb, 0, none⟩ = some (.int .i64 b0) ∧ w'.cell? ⟨kb, 1, none⟩ = some (.int .i64 b1) ∧ w'.cell? ⟨kc, 0, none⟩ = some (.int .i64 c0) ∧ w'.cell? ⟨kc, 1, none⟩ = some (.int .i64 c1) ∧ w'.cell? ⟨kd, 0, none⟩ = some (.int .i64 d0) ∧ w'.cell? ⟨kd, 1, none⟩ = some (.int .i64 d1) ∧ w'.cell? ⟨kp, 0, none⟩ = some (.int .i64 a0) ∧ w'.cell? ⟨kp, 1, none⟩ = some (.int .i64 a1) ∧ w'.cell? ⟨kp, 2, none⟩ = some (.int .i64 b0) ∧ w'.cell? ⟨kp, 3, none⟩ = some (.int .i64 b1) ∧ w'.cell? ⟨kp, 4, none⟩ = some (.int .i64 c0) ∧ w'.cell? ⟨kp, 5, none⟩ = some (.int .i64 c1) ∧ w'.cell? ⟨kp, 6, none⟩ = some (.int .i64 d0) ∧ w'.cell? ⟨kp, 7, none⟩ = some (.int .i64 d1) ∧ Below W.heap.size W w') () (by kernel_rfl) ho ht h0 ?_ ?_
  · intro i o hoi g L b w' hun hpre hT hS
    clear he h0 ho hsz ht
    have hi : i < (regOps Try.f15 5).size := (Array.getElem?_eq_some_iff.1 hoi).1
    rw [show (regOps Try.f15 5).size = 15 by kernel_rfl] at hi
    obtain ⟨ac0, ac1, bc0, bc1, cc0, cc1, ddc0, ddc1, pc0, pc1, pc2, pc3, pc4, pc5, pc6, pc7, HB⟩ := hS
    have hcases : i = 0 ∨ i = 1 ∨ i = 2 ∨ i = 3 ∨ i = 4 ∨ i = 5 ∨ i = 6 ∨ i = 7 ∨ i = 8 ∨ i = 9 ∨ i = 10 ∨ i = 11 ∨ i = 12 ∨ i = 13 ∨ i = 14 := by omega
    rcases hcases with rfl | rfl | rfl | rfl | rfl | rfl | rfl | rfl | rfl | rfl | rfl | rfl | rfl | rfl | rfl
    · have hlit : (regOps Try.f15 5)[0]? = some ({ dst := some 22, op := Op.move (Operand.tmp 10), type := 3, pos := "law.go:45", after := #[], guard := none }) := by kernel_rfl
      obtain rfl := Option.some.inj (hlit.symm.trans hoi)
      have r10 : b.tmps.getD 10 undef = (.int .i64 3) := rd ((hT.old 10 (by kernel_rfl)).trans t10)
      refine op_go hoi (want_all rfl) fun K hK => ?_
      clear hT hpre hun hlit hoi
      go_simp
      exact hK _ _ ⟨(), fun _ _ => rfl, rfl, ac0, ac1, bc0, bc1, cc0, cc1, ddc0, ddc1, pc0, pc1, pc2, pc3, pc4, pc5, pc6, pc7, HB⟩
    · have hlit : (regOps Try.f15 5)[1]? = some ({ dst := some 23, op := Op.indexAddr 60 (Operand.tmp 9) (Operand.tmp 22), type := 0, pos := "law.go:45", after := #[{ on := 0, ground := Ground.data }], guard := none }) := by kernel_rfl
      obtain rfl := Option.some.inj (hlit.symm.trans hoi)
      have r9 : b.tmps.getD 9 undef = (.pointer (some ⟨kp, 0, none⟩)) := rd ((hT.old 9 (by kernel_rfl)).trans t9)
      have r22 : b.tmps.getD 22 undef = (.int .i64 3) := rd (hT.at 0 (by kernel_rfl) (pre_of hpre 0 (by kernel_rfl)))
      refine op_go hoi (want_all rfl) fun K hK => ?_
      clear hT hpre hun hlit hoi
      go_simp
      exact hK _ _ ⟨(), fun _ _ => rfl, rfl, ac0, ac1, bc0, bc1, cc0, cc1, ddc0, ddc1, pc0, pc1, pc2, pc3, pc4, pc5, pc6, pc7, HB⟩
    · have hlit : (regOps Try.f15 5)[2]? = some ({ dst := some 24, op := Op.load 23 (Operand.tmp 23), type := 23, pos := "law.go:45", after := #[{ on := 1, ground := Ground.data }], guard := none }) := by kernel_rfl
      obtain rfl := Option.some.inj (hlit.symm.trans hoi)
      have r23 : b.tmps.getD 23 undef = (.pointer (some ⟨kp, 6, none⟩)) := rd (hT.at 1 (by kernel_rfl) (pre_of hpre 1 (by kernel_rfl)))
      refine op_go hoi (want_all rfl) fun K hK => ?_
      clear hT hpre hun hlit hoi
      go_simp
      exact hK _ _ ⟨(), fun _ _ => rfl, rfl, ac0, ac1, bc0, bc1, cc0, cc1, ddc0, ddc1, pc0, pc1, pc2, pc3, pc4, pc5, pc6, pc7, HB⟩
    · have hlit : (regOps Try.f15 5)[3]? = some ({ dst := some 25, op := Op.move (Operand.tmp 10), type := 3, pos := "law.go:45", after := #[], guard := none }) := by kernel_rfl
      obtain rfl := Option.some.inj (hlit.symm.trans hoi)
      have r10 : b.tmps.getD 10 undef = (.int .i64 3) := rd ((hT.old 10 (by kernel_rfl)).trans t10)
      refine op_go hoi (want_all rfl) fun K hK => ?_
      clear hT hpre hun hlit hoi
      go_simp
      exact hK _ _ ⟨(), fun _ _ => rfl, rfl, ac0, ac1, bc0, bc1, cc0, cc1, ddc0, ddc1, pc0, pc1, pc2, pc3, pc4, pc5, pc6, pc7, HB⟩
    · have hlit : (regOps Try.f15 5)[4]? = some ({ dst := some 26, op := Op.binOp BinOp.add 3 (Operand.tmp 25) (Operand.const (Value.int IntKind.i64 1)) 3, type := 3, pos := "law.go:45", after := #[{ on := 3, ground := Ground.data }], guard := none }) := by kernel_rfl
      obtain rfl := Option.some.inj (hlit.symm.trans hoi)
      have r25 : b.tmps.getD 25 undef = (.int .i64 3) := rd (hT.at 3 (by kernel_rfl) (pre_of hpre 3 (by kernel_rfl)))
      refine op_go hoi (want_all rfl) fun K hK => ?_
      clear hT hpre hun hlit hoi
      go_simp
      exact hK _ _ ⟨(), fun _ _ => rfl, rfl, ac0, ac1, bc0, bc1, cc0, cc1, ddc0, ddc1, pc0, pc1, pc2, pc3, pc4, pc5, pc6, pc7, HB⟩
    · have hlit : (regOps Try.f15 5)[5]? = some ({ dst := some 27, op := Op.binOp BinOp.rem 3 (Operand.tmp 26) (Operand.const (Value.int IntKind.i64 4)) 3, type := 3, pos := "law.go:45", after := #[{ on := 4, ground := Ground.data }], guard := none }) := by kernel_rfl
      obtain rfl := Option.some.inj (hlit.symm.trans hoi)
      have r26 : b.tmps.getD 26 undef = (.int .i64 4) := rd (hT.at 4 (by kernel_rfl) (pre_of hpre 4 (by kernel_rfl)))
      refine op_go hoi (want_all rfl) fun K hK => ?_
      clear hT hpre hun hlit hoi
      go_simp
      exact hK _ _ ⟨(), fun _ _ => rfl, rfl, ac0, ac1, bc0, bc1, cc0, cc1, ddc0, ddc1, pc0, pc1, pc2, pc3, pc4, pc5, pc6, pc7, HB⟩
    · have hlit : (regOps Try.f15 5)[6]? = some ({ dst := some 28, op := Op.indexAddr 60 (Operand.tmp 9) (Operand.tmp 27), type := 0, pos := "law.go:45", after := #[{ on := 5, ground := Ground.data }], guard := none }) := by kernel_rfl
      obtain rfl := Option.some.inj (hlit.symm.trans hoi)
      have r9 : b.tmps.getD 9 undef = (.pointer (some ⟨kp, 0, none⟩)) := rd ((hT.old 9 (by kernel_rfl)).trans t9)
      have r27 : b.tmps.getD 27 undef = (.int .i64 0) := rd (hT.at 5 (by kernel_rfl) (pre_of hpre 5 (by kernel_rfl)))
      refine op_go hoi (want_all rfl) fun K hK => ?_
      clear hT hpre hun hlit hoi
      go_simp
      exact hK _ _ ⟨(), fun _ _ => rfl, rfl, ac0, ac1, bc0, bc1, cc0, cc1, ddc0, ddc1, pc0, pc1, pc2, pc3, pc4, pc5, pc6, pc7, HB⟩
    · have hlit : (regOps Try.f15 5)[7]? = some ({ dst := some 29, op := Op.load 23 (Operand.tmp 28), type := 23, pos := "law.go:45", after := #[{ on := 6, ground := Ground.data }], guard := none }) := by kernel_rfl
      obtain rfl := Option.some.inj (hlit.symm.trans hoi)
      have r28 : b.tmps.getD 28 undef = (.pointer (some ⟨kp, 0, none⟩)) := rd (hT.at 6 (by kernel_rfl) (pre_of hpre 6 (by kernel_rfl)))
      refine op_go hoi (want_all rfl) fun K hK => ?_
      clear hT hpre hun hlit hoi
      go_simp
      exact hK _ _ ⟨(), fun _ _ => rfl, rfl, ac0, ac1, bc0, bc1, cc0, cc1, ddc0, ddc1, pc0, pc1, pc2, pc3, pc4, pc5, pc6, pc7, HB⟩
    · have hlit : (regOps Try.f15 5)[8]? = some ({ dst := some 30, op := Op.move (Operand.tmp 10), type := 3, pos := "law.go:45", after := #[], guard := none }) := by kernel_rfl
      obtain rfl := Option.some.inj (hlit.symm.trans hoi)
      have r10 : b.tmps.getD 10 undef = (.int .i64 3) := rd ((hT.old 10 (by kernel_rfl)).trans t10)
      refine op_go hoi (want_all rfl) fun K hK => ?_
      clear hT hpre hun hlit hoi
      go_simp
      exact hK _ _ ⟨(), fun _ _ => rfl, rfl, ac0, ac1, bc0, bc1, cc0, cc1, ddc0, ddc1, pc0, pc1, pc2, pc3, pc4, pc5, pc6, pc7, HB⟩
    · have hlit : (regOps Try.f15 5)[9]? = some ({ dst := some 31, op := Op.binOp BinOp.add 3 (Operand.tmp 30) (Operand.const (Value.int IntKind.i64 2)) 3, type := 3, pos := "law.go:45", after := #[{ on := 8, ground := Ground.data }], guard := none }) := by kernel_rfl
      obtain rfl := Option.some.inj (hlit.symm.trans hoi)
      have r30 : b.tmps.getD 30 undef = (.int .i64 3) := rd (hT.at 8 (by kernel_rfl) (pre_of hpre 8 (by kernel_rfl)))
      refine op_go hoi (want_all rfl) fun K hK => ?_
      clear hT hpre hun hlit hoi
      go_simp
      exact hK _ _ ⟨(), fun _ _ => rfl, rfl, ac0, ac1, bc0, bc1, cc0, cc1, ddc0, ddc1, pc0, pc1, pc2, pc3, pc4, pc5, pc6, pc7, HB⟩
    · have hlit : (regOps Try.f15 5)[10]? = some ({ dst := some 32, op := Op.binOp BinOp.rem 3 (Operand.tmp 31) (Operand.const (Value.int IntKind.i64 4)) 3, type := 3, pos := "law.go:45", after := #[{ on := 9, ground := Ground.data }], guard := none }) := by kernel_rfl
      obtain rfl := Option.some.inj (hlit.symm.trans hoi)
      have r31 : b.tmps.getD 31 undef = (.int .i64 5) := rd (hT.at 9 (by kernel_rfl) (pre_of hpre 9 (by kernel_rfl)))
      refine op_go hoi (want_all rfl) fun K hK => ?_
      clear hT hpre hun hlit hoi
      go_simp
      exact hK _ _ ⟨(), fun _ _ => rfl, rfl, ac0, ac1, bc0, bc1, cc0, cc1, ddc0, ddc1, pc0, pc1, pc2, pc3, pc4, pc5, pc6, pc7, HB⟩
    · have hlit : (regOps Try.f15 5)[11]? = some ({ dst := some 33, op := Op.indexAddr 60 (Operand.tmp 9) (Operand.tmp 32), type := 0, pos := "law.go:45", after := #[{ on := 10, ground := Ground.data }], guard := none }) := by kernel_rfl
      obtain rfl := Option.some.inj (hlit.symm.trans hoi)
      have r9 : b.tmps.getD 9 undef = (.pointer (some ⟨kp, 0, none⟩)) := rd ((hT.old 9 (by kernel_rfl)).trans t9)
      have r32 : b.tmps.getD 32 undef = (.int .i64 1) := rd (hT.at 10 (by kernel_rfl) (pre_of hpre 10 (by kernel_rfl)))
      refine op_go hoi (want_all rfl) fun K hK => ?_
      clear hT hpre hun hlit hoi
      go_simp
      exact hK _ _ ⟨(), fun _ _ => rfl, rfl, ac0, ac1, bc0, bc1, cc0, cc1, ddc0, ddc1, pc0, pc1, pc2, pc3, pc4, pc5, pc6, pc7, HB⟩
    · have hlit : (regOps Try.f15 5)[12]? = some ({ dst := some 34, op := Op.load 23 (Operand.tmp 33), type := 23, pos := "law.go:45", after := #[{ on := 11, ground := Ground.data }], guard := none }) := by kernel_rfl
      obtain rfl := Option.some.inj (hlit.symm.trans hoi)
      have r33 : b.tmps.getD 33 undef = (.pointer (some ⟨kp, 2, none⟩)) := rd (hT.at 11 (by kernel_rfl) (pre_of hpre 11 (by kernel_rfl)))
      refine op_go hoi (want_all rfl) fun K hK => ?_
      clear hT hpre hun hlit hoi
      go_simp
      exact hK _ _ ⟨(), fun _ _ => rfl, rfl, ac0, ac1, bc0, bc1, cc0, cc1, ddc0, ddc1, pc0, pc1, pc2, pc3, pc4, pc5, pc6, pc7, HB⟩
    · have hlit : (regOps Try.f15 5)[13]? = some ({ dst := some 35, op := Op.call { callee := Callee.value (Operand.func 52), args := #[Operand.tmp 24, Operand.tmp 29, Operand.tmp 34], argTypes := #[23, 23, 23] }, type := 3, pos := "law.go:45", after := #[{ on := 2, ground := Ground.data }, { on := 7, ground := Ground.data }, { on := 12, ground := Ground.data }], guard := none }) := by kernel_rfl
      obtain rfl := Option.some.inj (hlit.symm.trans hoi)
      have r24 : b.tmps.getD 24 undef = (.agg #[.int .i64 d0, .int .i64 d1]) := rd (hT.at 2 (by kernel_rfl) (pre_of hpre 2 (by kernel_rfl)))
      have r29 : b.tmps.getD 29 undef = (.agg #[.int .i64 a0, .int .i64 a1]) := rd (hT.at 7 (by kernel_rfl) (pre_of hpre 7 (by kernel_rfl)))
      have r34 : b.tmps.getD 34 undef = (.agg #[.int .i64 b0, .int .i64 b1]) := rd (hT.at 12 (by kernel_rfl) (pre_of hpre 12 (by kernel_rfl)))
      refine op_go hoi (want_all rfl) fun K hK => ?_
      clear hT hpre hun hlit hoi
      go_simp
      go_at_call 52
      refine (ori52 _ _ _ _ _ _ _).mono ?_; rw [ho]; rintro e w2 ⟨rfl, hb⟩; replace ac0 := ck hb (a := ⟨ka, 0, none⟩) (v := .int .i64 a0) (by go_simp); replace ac1 := ck hb (a := ⟨ka, 1, none⟩) (v := .int .i64 a1) (by go_simp); replace bc0 := ck hb (a := ⟨kb, 0, none⟩) (v := .int .i64 b0) (by go_simp); replace bc1 := ck hb (a := ⟨kb, 1, none⟩) (v := .int .i64 b1) (by go_simp); replace cc0 := ck hb (a := ⟨kc, 0, none⟩) (v := .int .i64 c0) (by go_simp); replace cc1 := ck hb (a := ⟨kc, 1, none⟩) (v := .int .i64 c1) (by go_simp); replace ddc0 := ck hb (a := ⟨kd, 0, none⟩) (v := .int .i64 d0) (by go_simp); replace ddc1 := ck hb (a := ⟨kd, 1, none⟩) (v := .int .i64 d1) (by go_simp); replace pc0 := ck hb (a := ⟨kp, 0, none⟩) (v := .int .i64 a0) (by go_simp); replace pc1 := ck hb (a := ⟨kp, 1, none⟩) (v := .int .i64 a1) (by go_simp); replace pc2 := ck hb (a := ⟨kp, 2, none⟩) (v := .int .i64 b0) (by go_simp); replace pc3 := ck hb (a := ⟨kp, 3, none⟩) (v := .int .i64 b1) (by go_simp); replace pc4 := ck hb (a := ⟨kp, 4, none⟩) (v := .int .i64 c0) (by go_simp); replace pc5 := ck hb (a := ⟨kp, 5, none⟩) (v := .int .i64 c1) (by go_simp); replace pc6 := ck hb (a := ⟨kp, 6, none⟩) (v := .int .i64 d0) (by go_simp); replace pc7 := ck hb (a := ⟨kp, 7, none⟩) (v := .int .i64 d1) (by go_simp); replace HB : Below W.heap.size W w2 := bt HB hb; clear hb
      exact hK _ _ ⟨(), fun _ _ => rfl, rfl, ac0, ac1, bc0, bc1, cc0, cc1, ddc0, ddc1, pc0, pc1, pc2, pc3, pc4, pc5, pc6, pc7, HB⟩
    · have hlit : (regOps Try.f15 5)[14]? = some ({ dst := some 36, op := Op.binOp BinOp.neq 3 (Operand.tmp 35) (Operand.const (Value.int IntKind.i64 1)) 3, type := 4, pos := "law.go:45", after := #[{ on := 13, ground := Ground.data }], guard := none }) := by kernel_rfl
      obtain rfl := Option.some.inj (hlit.symm.trans hoi)
      have r35 : b.tmps.getD 35 undef = (.int .i64 o) := rd (hT.at 13 (by kernel_rfl) (pre_of hpre 13 (by kernel_rfl)))
      refine op_go hoi (want_all rfl) fun K hK => ?_
      clear hT hpre hun hlit hoi
      go_simp
      exact hK _ _ ⟨(), fun _ _ => rfl, rfl, ac0, ac1, bc0, bc1, cc0, cc1, ddc0, ddc1, pc0, pc1, pc2, pc3, pc4, pc5, pc6, pc7, HB⟩
  · intro g b w' hT hS
    rw [hT.all ht]
    have hn : (regOps Try.f15 5).size = 15 := by kernel_rfl
    rw [hn]
    exact he w' hS

/-- What each operation of the region leaves. -/
def region15_7V (a0 a1 b0 b1 c0 c1 d0 d1 k l : Int) : Nat → Value
  | 0 => .agg #[.int .i64 a0, .int .i64 a1]
  | 1 => .agg #[.int .i64 b0, .int .i64 b1]
  | 2 => .agg #[.int .i64 c0, .int .i64 c1]
  | 3 => .agg #[.int .i64 d0, .int .i64 d1]
  | 4 => .int .i64 k
  | 5 => .agg #[.int .i64 a0, .int .i64 a1]
  | 6 => .agg #[.int .i64 b0, .int .i64 b1]
  | 7 => .agg #[.int .i64 d0, .int .i64 d1]
  | 8 => .agg #[.int .i64 c0, .int .i64 c1]
  | 9 => .int .i64 l
  | 10 => .int .i64 k
  | 11 => .int .i64 l
  | _ => undef

set_option maxHeartbeats 4000000 in
set_option maxRecDepth 100000 in
theorem region15_7 (a0 a1 b0 b1 c0 c1 d0 d1 k l : Int) (ka kb kc kd : Nat) (W : World) (h1 : circ ⟨a0, a1⟩ ⟨b0, b1⟩ ⟨c0, c1⟩ ⟨d0, d1⟩ = k) (h2 : circ ⟨a0, a1⟩ ⟨b0, b1⟩ ⟨d0, d1⟩ ⟨c0, c1⟩ = l) {id : Nat} {ops : Array Oper} {Q : Exit → Act → World → Prop} {a : Act} {w : World}
    (ho : ops = (regOps Try.f15 7)) (hsz : a.tmps.size = 73) (t4 : a.tmps[4]? = some (.pointer (some ⟨ka, 0, none⟩))) (t5 : a.tmps[5]? = some (.pointer (some ⟨kb, 0, none⟩))) (t6 : a.tmps[6]? = some (.pointer (some ⟨kc, 0, none⟩))) (t7 : a.tmps[7]? = some (.pointer (some ⟨kd, 0, none⟩)))
    (h0 : w.drew.cell? ⟨ka, 0, none⟩ = some (.int .i64 a0) ∧ w.drew.cell? ⟨ka, 1, none⟩ = some (.int .i64 a1) ∧ w.drew.cell? ⟨kb, 0, none⟩ = some (.int .i64 b0) ∧ w.drew.cell? ⟨kb, 1, none⟩ = some (.int .i64 b1) ∧ w.drew.cell? ⟨kc, 0, none⟩ = some (.int .i64 c0) ∧ w.drew.cell? ⟨kc, 1, none⟩ = some (.int .i64 c1) ∧ w.drew.cell? ⟨kd, 0, none⟩ = some (.int .i64 d0) ∧ w.drew.cell? ⟨kd, 1, none⟩ = some (.int .i64 d1) ∧ Below W.heap.size W w.drew)
    (he : ∀ w', w'.cell? ⟨ka, 0, none⟩ = some (.int .i64 a0) ∧ w'.cell? ⟨ka, 1, none⟩ = some (.int .i64 a1) ∧ w'.cell? ⟨kb, 0, none⟩ = some (.int .i64 b0) ∧ w'.cell? ⟨kb, 1, none⟩ = some (.int .i64 b1) ∧ w'.cell? ⟨kc, 0, none⟩ = some (.int .i64 c0) ∧ w'.cell? ⟨kc, 1, none⟩ = some (.int .i64 c1) ∧ w'.cell? ⟨kd, 0, none⟩ = some (.int .i64 d0) ∧ w'.cell? ⟨kd, 1, none⟩ = some (.int .i64 d1) ∧ Below W.heap.size W w' → Q .normal ⟨((((((((((((a.tmps.setIfInBounds 38 (.agg #[.int .i64 a0, .int .i64 a1])).setIfInBounds 39 (.agg #[.int .i64 b0, .int .i64 b1])).setIfInBounds 40 (.agg #[.int .i64 c0, .int .i64 c1])).setIfInBounds 41 (.agg #[.int .i64 d0, .int .i64 d1])).setIfInBounds 42 (.int .i64 k)).setIfInBounds 43 (.agg #[.int .i64 a0, .int .i64 a1])).setIfInBounds 44 (.agg #[.int .i64 b0, .int .i64 b1])).setIfInBounds 45 (.agg #[.int .i64 d0, .int .i64 d1])).setIfInBounds 46 (.agg #[.int .i64 c0, .int .i64 c1])).setIfInBounds 47 (.int .i64 l)).setIfInBounds 11 (.int .i64 k)).setIfInBounds 12 (.int .i64 l)), a.defers⟩ w') :
    (Code.region id ops true).wp Try.prog Q a w := by
  have ht : tidy (regOps Try.f15 7) a.tmps.size = true := by rw [hsz]; kernel_rfl
  refine region_tab (G := Unit) (fun _ => (region15_7V a0 a1 b0 b1 c0 c1 d0 d1 k l  )) (fun _ _ w' => w'.cell? ⟨ka, 0, none⟩ = some (.int .i64 a0) ∧ w'.cell? ⟨ka, 1, none⟩ = some (.int .i64 a1) ∧ w'.cell? ⟨kb, 0, none⟩ = some (.int .i64 b0) ∧ w'.cell? ⟨kb, 1, none⟩ = some (.int .i64 b1) ∧ w'.cell? ⟨kc, 0, none⟩ = some (.int .i64 c0) ∧ w'.cell? ⟨kc, 1, none⟩ = some (.int .i64 c1) ∧ w'.cell? ⟨kd, 0, none⟩ = some (.int .i64 d0) ∧ w'.cell? ⟨kd, 1, none⟩ = some (.int .i64 d1) ∧ Below W.heap.size W w') () (by kernel_rfl) ho ht h0 ?_ ?_
  · intro i o hoi g L b w' hun hpre hT hS
    clear he h0 ho hsz ht
    have hi : i < (regOps Try.f15 7).size := (Array.getElem?_eq_some_iff.1 hoi).1
    rw [show (regOps Try.f15 7).size = 12 by kernel_rfl] at hi
    obtain ⟨ac0, ac1, bc0, bc1, cc0, cc1, ddc0, ddc1, HB⟩ := hS
    have hcases : i = 0 ∨ i = 1 ∨ i = 2 ∨ i = 3 ∨ i = 4 ∨ i = 5 ∨ i = 6 ∨ i = 7 ∨ i = 8 ∨ i = 9 ∨ i = 10 ∨ i = 11 := by omega
    rcases hcases with rfl | rfl | rfl | rfl | rfl | rfl | rfl | rfl | rfl | rfl | rfl | rfl
    · have hlit : (regOps Try.f15 7)[0]? = some ({ dst := some 38, op := Op.load 23 (Operand.tmp 4), type := 23, pos := "law.go:50", after := #[], guard := none }) := by kernel_rfl
      obtain rfl := Option.some.inj (hlit.symm.trans hoi)
      have r4 : b.tmps.getD 4 undef = (.pointer (some ⟨ka, 0, none⟩)) := rd ((hT.old 4 (by kernel_rfl)).trans t4)
      refine op_go hoi (want_all rfl) fun K hK => ?_
      clear hT hpre hun hlit hoi
      go_simp
      exact hK _ _ ⟨(), fun _ _ => rfl, rfl, ac0, ac1, bc0, bc1, cc0, cc1, ddc0, ddc1, HB⟩
    · have hlit : (regOps Try.f15 7)[1]? = some ({ dst := some 39, op := Op.load 23 (Operand.tmp 5), type := 23, pos := "law.go:50", after := #[], guard := none }) := by kernel_rfl
      obtain rfl := Option.some.inj (hlit.symm.trans hoi)
      have r5 : b.tmps.getD 5 undef = (.pointer (some ⟨kb, 0, none⟩)) := rd ((hT.old 5 (by kernel_rfl)).trans t5)
      refine op_go hoi (want_all rfl) fun K hK => ?_
      clear hT hpre hun hlit hoi
      go_simp
      exact hK _ _ ⟨(), fun _ _ => rfl, rfl, ac0, ac1, bc0, bc1, cc0, cc1, ddc0, ddc1, HB⟩
    · have hlit : (regOps Try.f15 7)[2]? = some ({ dst := some 40, op := Op.load 23 (Operand.tmp 6), type := 23, pos := "law.go:50", after := #[], guard := none }) := by kernel_rfl
      obtain rfl := Option.some.inj (hlit.symm.trans hoi)
      have r6 : b.tmps.getD 6 undef = (.pointer (some ⟨kc, 0, none⟩)) := rd ((hT.old 6 (by kernel_rfl)).trans t6)
      refine op_go hoi (want_all rfl) fun K hK => ?_
      clear hT hpre hun hlit hoi
      go_simp
      exact hK _ _ ⟨(), fun _ _ => rfl, rfl, ac0, ac1, bc0, bc1, cc0, cc1, ddc0, ddc1, HB⟩
    · have hlit : (regOps Try.f15 7)[3]? = some ({ dst := some 41, op := Op.load 23 (Operand.tmp 7), type := 23, pos := "law.go:50", after := #[], guard := none }) := by kernel_rfl
      obtain rfl := Option.some.inj (hlit.symm.trans hoi)
      have r7 : b.tmps.getD 7 undef = (.pointer (some ⟨kd, 0, none⟩)) := rd ((hT.old 7 (by kernel_rfl)).trans t7)
      refine op_go hoi (want_all rfl) fun K hK => ?_
      clear hT hpre hun hlit hoi
      go_simp
      exact hK _ _ ⟨(), fun _ _ => rfl, rfl, ac0, ac1, bc0, bc1, cc0, cc1, ddc0, ddc1, HB⟩
    · have hlit : (regOps Try.f15 7)[4]? = some ({ dst := some 42, op := Op.call { callee := Callee.value (Operand.func 53), args := #[Operand.tmp 38, Operand.tmp 39, Operand.tmp 40, Operand.tmp 41], argTypes := #[23, 23, 23, 23] }, type := 3, pos := "law.go:50", after := #[{ on := 0, ground := Ground.data }, { on := 1, ground := Ground.data }, { on := 2, ground := Ground.data }, { on := 3, ground := Ground.data }], guard := none }) := by kernel_rfl
      obtain rfl := Option.some.inj (hlit.symm.trans hoi)
      have r38 : b.tmps.getD 38 undef = (.agg #[.int .i64 a0, .int .i64 a1]) := rd (hT.at 0 (by kernel_rfl) (pre_of hpre 0 (by kernel_rfl)))
      have r39 : b.tmps.getD 39 undef = (.agg #[.int .i64 b0, .int .i64 b1]) := rd (hT.at 1 (by kernel_rfl) (pre_of hpre 1 (by kernel_rfl)))
      have r40 : b.tmps.getD 40 undef = (.agg #[.int .i64 c0, .int .i64 c1]) := rd (hT.at 2 (by kernel_rfl) (pre_of hpre 2 (by kernel_rfl)))
      have r41 : b.tmps.getD 41 undef = (.agg #[.int .i64 d0, .int .i64 d1]) := rd (hT.at 3 (by kernel_rfl) (pre_of hpre 3 (by kernel_rfl)))
      refine op_go hoi (want_all rfl) fun K hK => ?_
      clear hT hpre hun hlit hoi
      go_simp
      go_at_call 53
      refine (circ53 _ _ _ _ _ _ _ _ _).mono ?_; rw [h1]; rintro e w2 ⟨rfl, hb⟩; replace ac0 := ck hb (a := ⟨ka, 0, none⟩) (v := .int .i64 a0) (by go_simp); replace ac1 := ck hb (a := ⟨ka, 1, none⟩) (v := .int .i64 a1) (by go_simp); replace bc0 := ck hb (a := ⟨kb, 0, none⟩) (v := .int .i64 b0) (by go_simp); replace bc1 := ck hb (a := ⟨kb, 1, none⟩) (v := .int .i64 b1) (by go_simp); replace cc0 := ck hb (a := ⟨kc, 0, none⟩) (v := .int .i64 c0) (by go_simp); replace cc1 := ck hb (a := ⟨kc, 1, none⟩) (v := .int .i64 c1) (by go_simp); replace ddc0 := ck hb (a := ⟨kd, 0, none⟩) (v := .int .i64 d0) (by go_simp); replace ddc1 := ck hb (a := ⟨kd, 1, none⟩) (v := .int .i64 d1) (by go_simp); replace HB : Below W.heap.size W w2 := bt HB hb; clear hb
      exact hK _ _ ⟨(), fun _ _ => rfl, rfl, ac0, ac1, bc0, bc1, cc0, cc1, ddc0, ddc1, HB⟩
    · have hlit : (regOps Try.f15 7)[5]? = some ({ dst := some 43, op := Op.load 23 (Operand.tmp 4), type := 23, pos := "law.go:50", after := #[], guard := none }) := by kernel_rfl
      obtain rfl := Option.some.inj (hlit.symm.trans hoi)
      have r4 : b.tmps.getD 4 undef = (.pointer (some ⟨ka, 0, none⟩)) := rd ((hT.old 4 (by kernel_rfl)).trans t4)
      refine op_go hoi (want_all rfl) fun K hK => ?_
      clear hT hpre hun hlit hoi
      go_simp
      exact hK _ _ ⟨(), fun _ _ => rfl, rfl, ac0, ac1, bc0, bc1, cc0, cc1, ddc0, ddc1, HB⟩
    · have hlit : (regOps Try.f15 7)[6]? = some ({ dst := some 44, op := Op.load 23 (Operand.tmp 5), type := 23, pos := "law.go:50", after := #[], guard := none }) := by kernel_rfl
      obtain rfl := Option.some.inj (hlit.symm.trans hoi)
      have r5 : b.tmps.getD 5 undef = (.pointer (some ⟨kb, 0, none⟩)) := rd ((hT.old 5 (by kernel_rfl)).trans t5)
      refine op_go hoi (want_all rfl) fun K hK => ?_
      clear hT hpre hun hlit hoi
      go_simp
      exact hK _ _ ⟨(), fun _ _ => rfl, rfl, ac0, ac1, bc0, bc1, cc0, cc1, ddc0, ddc1, HB⟩
    · have hlit : (regOps Try.f15 7)[7]? = some ({ dst := some 45, op := Op.load 23 (Operand.tmp 7), type := 23, pos := "law.go:50", after := #[], guard := none }) := by kernel_rfl
      obtain rfl := Option.some.inj (hlit.symm.trans hoi)
      have r7 : b.tmps.getD 7 undef = (.pointer (some ⟨kd, 0, none⟩)) := rd ((hT.old 7 (by kernel_rfl)).trans t7)
      refine op_go hoi (want_all rfl) fun K hK => ?_
      clear hT hpre hun hlit hoi
      go_simp
      exact hK _ _ ⟨(), fun _ _ => rfl, rfl, ac0, ac1, bc0, bc1, cc0, cc1, ddc0, ddc1, HB⟩
    · have hlit : (regOps Try.f15 7)[8]? = some ({ dst := some 46, op := Op.load 23 (Operand.tmp 6), type := 23, pos := "law.go:50", after := #[], guard := none }) := by kernel_rfl
      obtain rfl := Option.some.inj (hlit.symm.trans hoi)
      have r6 : b.tmps.getD 6 undef = (.pointer (some ⟨kc, 0, none⟩)) := rd ((hT.old 6 (by kernel_rfl)).trans t6)
      refine op_go hoi (want_all rfl) fun K hK => ?_
      clear hT hpre hun hlit hoi
      go_simp
      exact hK _ _ ⟨(), fun _ _ => rfl, rfl, ac0, ac1, bc0, bc1, cc0, cc1, ddc0, ddc1, HB⟩
    · have hlit : (regOps Try.f15 7)[9]? = some ({ dst := some 47, op := Op.call { callee := Callee.value (Operand.func 53), args := #[Operand.tmp 43, Operand.tmp 44, Operand.tmp 45, Operand.tmp 46], argTypes := #[23, 23, 23, 23] }, type := 3, pos := "law.go:50", after := #[{ on := 5, ground := Ground.data }, { on := 6, ground := Ground.data }, { on := 7, ground := Ground.data }, { on := 8, ground := Ground.data }, { on := 4, ground := Ground.chain }], guard := none }) := by kernel_rfl
      obtain rfl := Option.some.inj (hlit.symm.trans hoi)
      have r43 : b.tmps.getD 43 undef = (.agg #[.int .i64 a0, .int .i64 a1]) := rd (hT.at 5 (by kernel_rfl) (pre_of hpre 5 (by kernel_rfl)))
      have r44 : b.tmps.getD 44 undef = (.agg #[.int .i64 b0, .int .i64 b1]) := rd (hT.at 6 (by kernel_rfl) (pre_of hpre 6 (by kernel_rfl)))
      have r45 : b.tmps.getD 45 undef = (.agg #[.int .i64 d0, .int .i64 d1]) := rd (hT.at 7 (by kernel_rfl) (pre_of hpre 7 (by kernel_rfl)))
      have r46 : b.tmps.getD 46 undef = (.agg #[.int .i64 c0, .int .i64 c1]) := rd (hT.at 8 (by kernel_rfl) (pre_of hpre 8 (by kernel_rfl)))
      refine op_go hoi (want_all rfl) fun K hK => ?_
      clear hT hpre hun hlit hoi
      go_simp
      go_at_call 53
      refine (circ53 _ _ _ _ _ _ _ _ _).mono ?_; rw [h2]; rintro e w2 ⟨rfl, hb⟩; replace ac0 := ck hb (a := ⟨ka, 0, none⟩) (v := .int .i64 a0) (by go_simp); replace ac1 := ck hb (a := ⟨ka, 1, none⟩) (v := .int .i64 a1) (by go_simp); replace bc0 := ck hb (a := ⟨kb, 0, none⟩) (v := .int .i64 b0) (by go_simp); replace bc1 := ck hb (a := ⟨kb, 1, none⟩) (v := .int .i64 b1) (by go_simp); replace cc0 := ck hb (a := ⟨kc, 0, none⟩) (v := .int .i64 c0) (by go_simp); replace cc1 := ck hb (a := ⟨kc, 1, none⟩) (v := .int .i64 c1) (by go_simp); replace ddc0 := ck hb (a := ⟨kd, 0, none⟩) (v := .int .i64 d0) (by go_simp); replace ddc1 := ck hb (a := ⟨kd, 1, none⟩) (v := .int .i64 d1) (by go_simp); replace HB : Below W.heap.size W w2 := bt HB hb; clear hb
      exact hK _ _ ⟨(), fun _ _ => rfl, rfl, ac0, ac1, bc0, bc1, cc0, cc1, ddc0, ddc1, HB⟩
    · have hlit : (regOps Try.f15 7)[10]? = some ({ dst := some 11, op := Op.assign (Operand.tmp 42), type := 3, pos := "law.go:50", after := #[{ on := 4, ground := Ground.data }, { on := 9, ground := Ground.chain }, { on := 0, ground := Ground.phase }, { on := 1, ground := Ground.phase }, { on := 2, ground := Ground.phase }, { on := 3, ground := Ground.phase }, { on := 4, ground := Ground.phase }, { on := 5, ground := Ground.textOnly Departure.lateStores }, { on := 6, ground := Ground.textOnly Departure.lateStores }, { on := 7, ground := Ground.textOnly Departure.lateStores }, { on := 8, ground := Ground.textOnly Departure.lateStores }, { on := 9, ground := Ground.textOnly Departure.lateStoresUnsure }], guard := none }) := by kernel_rfl
      obtain rfl := Option.some.inj (hlit.symm.trans hoi)
      have r42 : b.tmps.getD 42 undef = (.int .i64 k) := rd (hT.at 4 (by kernel_rfl) (pre_of hpre 4 (by kernel_rfl)))
      refine op_go hoi (want_all rfl) fun K hK => ?_
      clear hT hpre hun hlit hoi
      go_simp
      exact hK _ _ ⟨(), fun _ _ => rfl, rfl, ac0, ac1, bc0, bc1, cc0, cc1, ddc0, ddc1, HB⟩
    · have hlit : (regOps Try.f15 7)[11]? = some ({ dst := some 12, op := Op.assign (Operand.tmp 47), type := 3, pos := "law.go:50", after := #[{ on := 9, ground := Ground.data }, { on := 10, ground := Ground.chain }, { on := 0, ground := Ground.phase }, { on := 1, ground := Ground.phase }, { on := 2, ground := Ground.phase }, { on := 3, ground := Ground.phase }, { on := 4, ground := Ground.phase }, { on := 5, ground := Ground.phase }, { on := 6, ground := Ground.phase }, { on := 7, ground := Ground.phase }, { on := 8, ground := Ground.phase }, { on := 9, ground := Ground.phase }, { on := 10, ground := Ground.phase }], guard := none }) := by kernel_rfl
      obtain rfl := Option.some.inj (hlit.symm.trans hoi)
      have r47 : b.tmps.getD 47 undef = (.int .i64 l) := rd (hT.at 9 (by kernel_rfl) (pre_of hpre 9 (by kernel_rfl)))
      refine op_go hoi (want_all rfl) fun K hK => ?_
      clear hT hpre hun hlit hoi
      go_simp
      exact hK _ _ ⟨(), fun _ _ => rfl, rfl, ac0, ac1, bc0, bc1, cc0, cc1, ddc0, ddc1, HB⟩
  · intro g b w' hT hS
    rw [hT.all ht]
    have hn : (regOps Try.f15 7).size = 12 := by kernel_rfl
    rw [hn]
    exact he w' hS

end Go.Proofs.Ytandgbpbabmdfaa
