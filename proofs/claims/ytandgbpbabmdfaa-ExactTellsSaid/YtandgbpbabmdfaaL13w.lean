import Derived.Test.YtandgbpbabmdfaaT41
import Derived.Test.YtandgbpbabmdfaaT38
import Derived.Test.YtandgbpbabmdfaaT32
namespace Go.Proofs.Ytandgbpbabmdfaa
open Go.RowKit
attribute [local go_sem high] eq23 eq25 mn_two mx_two mn_three mx_three mx_four

/-- What an operation waits for. -/
def aft13 (R : Array Oper) (i : Nat) := (R[i]?).elim #[] (fun o => o.after)

/-- What each operation of the region leaves. -/
def region13V (a0 a1 b0 b1 c0 c1 d0 d1 : Int) : Nat → Value
  | 0 => .agg #[.int .i64 a0, .int .i64 a1]
  | 1 => .bool (val ⟨a0, a1⟩)
  | 2 => .agg #[.int .i64 a0, .int .i64 a1]
  | 3 => .bool (val ⟨a0, a1⟩)
  | 4 => .bool true
  | 5 => .bool true
  | 6 => .agg #[.int .i64 a0, .int .i64 a1]
  | 7 => .agg #[.int .i64 b0, .int .i64 b1]
  | 8 => .int .i64 (cmpP ⟨a0, a1⟩ ⟨b0, b1⟩)
  | 9 => .agg #[.int .i64 a0, .int .i64 a1]
  | 10 => .agg #[.int .i64 b0, .int .i64 b1]
  | 11 => .int .i64 (cmpP ⟨a0, a1⟩ ⟨b0, b1⟩)
  | 12 => .bool true
  | 13 => .bool true
  | 14 => .bool true
  | 15 => .agg #[.int .i64 a0, .int .i64 a1]
  | 16 => .agg #[.int .i64 b0, .int .i64 b1]
  | 17 => .agg #[.int .i64 c0, .int .i64 c1]
  | 18 => .int .i64 (ori ⟨a0, a1⟩ ⟨b0, b1⟩ ⟨c0, c1⟩)
  | 19 => .agg #[.int .i64 a0, .int .i64 a1]
  | 20 => .agg #[.int .i64 b0, .int .i64 b1]
  | 21 => .agg #[.int .i64 c0, .int .i64 c1]
  | 22 => .int .i64 (ori ⟨a0, a1⟩ ⟨b0, b1⟩ ⟨c0, c1⟩)
  | 23 => .bool true
  | 24 => .bool true
  | 25 => .bool true
  | 26 => .agg #[.int .i64 a0, .int .i64 a1]
  | 27 => .agg #[.int .i64 b0, .int .i64 b1]
  | 28 => .agg #[.int .i64 c0, .int .i64 c1]
  | 29 => .agg #[.int .i64 d0, .int .i64 d1]
  | 30 => .int .i64 (circ ⟨a0, a1⟩ ⟨b0, b1⟩ ⟨c0, c1⟩ ⟨d0, d1⟩)
  | 31 => .agg #[.int .i64 a0, .int .i64 a1]
  | 32 => .agg #[.int .i64 b0, .int .i64 b1]
  | 33 => .agg #[.int .i64 c0, .int .i64 c1]
  | 34 => .agg #[.int .i64 d0, .int .i64 d1]
  | 35 => .int .i64 (circ ⟨a0, a1⟩ ⟨b0, b1⟩ ⟨c0, c1⟩ ⟨d0, d1⟩)
  | 36 => .bool true
  | 37 => .bool true
  | 38 => .bool true
  | 39 => .agg #[.int .i64 a0, .int .i64 a1]
  | 40 => .agg #[.int .i64 b0, .int .i64 b1]
  | 41 => .agg #[.int .i64 c0, .int .i64 c1]
  | 42 => .bool (onE ⟨a0, a1⟩ ⟨b0, b1⟩ ⟨c0, c1⟩)
  | 43 => .agg #[.int .i64 a0, .int .i64 a1]
  | 44 => .agg #[.int .i64 b0, .int .i64 b1]
  | 45 => .agg #[.int .i64 c0, .int .i64 c1]
  | 46 => .bool (onE ⟨a0, a1⟩ ⟨b0, b1⟩ ⟨c0, c1⟩)
  | 47 => .bool true
  | 48 => .bool true
  | 49 => .bool true
  | 50 => .agg #[.int .i64 a0, .int .i64 a1]
  | 51 => .agg #[.int .i64 b0, .int .i64 b1]
  | 52 => .agg #[.int .i64 c0, .int .i64 c1]
  | 53 => .agg #[.int .i64 d0, .int .i64 d1]
  | 54 => .int .i64 (meet ⟨a0, a1⟩ ⟨b0, b1⟩ ⟨c0, c1⟩ ⟨d0, d1⟩)
  | 55 => .agg #[.int .i64 a0, .int .i64 a1]
  | 56 => .agg #[.int .i64 b0, .int .i64 b1]
  | 57 => .agg #[.int .i64 c0, .int .i64 c1]
  | 58 => .agg #[.int .i64 d0, .int .i64 d1]
  | 59 => .int .i64 (meet ⟨a0, a1⟩ ⟨b0, b1⟩ ⟨c0, c1⟩ ⟨d0, d1⟩)
  | 60 => .bool true
  | 61 => .bool true
  | 62 => .bool true
  | 63 => .bool true
  | 64 => .bool true
  | 65 => .bool true
  | _ => undef

set_option maxHeartbeats 4000000 in
set_option maxRecDepth 100000 in
theorem region13 (a0 a1 b0 b1 c0 c1 d0 d1 : Int) (ka kb kc kd : Nat) (W : World) (h1 : onS ⟨a0, a1⟩ ⟨b0, b1⟩ ⟨c0, c1⟩ = onE ⟨a0, a1⟩ ⟨b0, b1⟩ ⟨c0, c1⟩) (h2 : meetR ⟨a0, a1⟩ ⟨b0, b1⟩ ⟨c0, c1⟩ ⟨d0, d1⟩ = meet ⟨a0, a1⟩ ⟨b0, b1⟩ ⟨c0, c1⟩ ⟨d0, d1⟩) {id : Nat} {ops : Array Oper} {Q : Exit → Act → World → Prop} {a : Act} {w : World}
    (ho : ops = (regOps Try.f13 1)) (hsz : a.tmps.size = 74) (t4 : a.tmps[4]? = some (.pointer (some ⟨ka, 0, none⟩))) (t5 : a.tmps[5]? = some (.pointer (some ⟨kb, 0, none⟩))) (t6 : a.tmps[6]? = some (.pointer (some ⟨kc, 0, none⟩))) (t7 : a.tmps[7]? = some (.pointer (some ⟨kd, 0, none⟩)))
    (h0 : w.drew.cell? ⟨ka, 0, none⟩ = some (.int .i64 a0) ∧ w.drew.cell? ⟨ka, 1, none⟩ = some (.int .i64 a1) ∧ w.drew.cell? ⟨kb, 0, none⟩ = some (.int .i64 b0) ∧ w.drew.cell? ⟨kb, 1, none⟩ = some (.int .i64 b1) ∧ w.drew.cell? ⟨kc, 0, none⟩ = some (.int .i64 c0) ∧ w.drew.cell? ⟨kc, 1, none⟩ = some (.int .i64 c1) ∧ w.drew.cell? ⟨kd, 0, none⟩ = some (.int .i64 d0) ∧ w.drew.cell? ⟨kd, 1, none⟩ = some (.int .i64 d1) ∧ Below W.heap.size W w.drew)
    (he : ∀ w', w'.cell? ⟨ka, 0, none⟩ = some (.int .i64 a0) ∧ w'.cell? ⟨ka, 1, none⟩ = some (.int .i64 a1) ∧ w'.cell? ⟨kb, 0, none⟩ = some (.int .i64 b0) ∧ w'.cell? ⟨kb, 1, none⟩ = some (.int .i64 b1) ∧ w'.cell? ⟨kc, 0, none⟩ = some (.int .i64 c0) ∧ w'.cell? ⟨kc, 1, none⟩ = some (.int .i64 c1) ∧ w'.cell? ⟨kd, 0, none⟩ = some (.int .i64 d0) ∧ w'.cell? ⟨kd, 1, none⟩ = some (.int .i64 d1) ∧ Below W.heap.size W w' → Q .normal ⟨((((((((((((((((((((((((((((((((((((((((((((((((((((((((((((((((((a.tmps.setIfInBounds 9 (.agg #[.int .i64 a0, .int .i64 a1])).setIfInBounds 10 (.bool (val ⟨a0, a1⟩))).setIfInBounds 11 (.agg #[.int .i64 a0, .int .i64 a1])).setIfInBounds 12 (.bool (val ⟨a0, a1⟩))).setIfInBounds 13 (.bool true)).setIfInBounds 14 (.bool true)).setIfInBounds 15 (.agg #[.int .i64 a0, .int .i64 a1])).setIfInBounds 16 (.agg #[.int .i64 b0, .int .i64 b1])).setIfInBounds 17 (.int .i64 (cmpP ⟨a0, a1⟩ ⟨b0, b1⟩))).setIfInBounds 18 (.agg #[.int .i64 a0, .int .i64 a1])).setIfInBounds 19 (.agg #[.int .i64 b0, .int .i64 b1])).setIfInBounds 20 (.int .i64 (cmpP ⟨a0, a1⟩ ⟨b0, b1⟩))).setIfInBounds 21 (.bool true)).setIfInBounds 22 (.bool true)).setIfInBounds 23 (.bool true)).setIfInBounds 24 (.agg #[.int .i64 a0, .int .i64 a1])).setIfInBounds 25 (.agg #[.int .i64 b0, .int .i64 b1])).setIfInBounds 26 (.agg #[.int .i64 c0, .int .i64 c1])).setIfInBounds 27 (.int .i64 (ori ⟨a0, a1⟩ ⟨b0, b1⟩ ⟨c0, c1⟩))).setIfInBounds 28 (.agg #[.int .i64 a0, .int .i64 a1])).setIfInBounds 29 (.agg #[.int .i64 b0, .int .i64 b1])).setIfInBounds 30 (.agg #[.int .i64 c0, .int .i64 c1])).setIfInBounds 31 (.int .i64 (ori ⟨a0, a1⟩ ⟨b0, b1⟩ ⟨c0, c1⟩))).setIfInBounds 32 (.bool true)).setIfInBounds 33 (.bool true)).setIfInBounds 34 (.bool true)).setIfInBounds 35 (.agg #[.int .i64 a0, .int .i64 a1])).setIfInBounds 36 (.agg #[.int .i64 b0, .int .i64 b1])).setIfInBounds 37 (.agg #[.int .i64 c0, .int .i64 c1])).setIfInBounds 38 (.agg #[.int .i64 d0, .int .i64 d1])).setIfInBounds 39 (.int .i64 (circ ⟨a0, a1⟩ ⟨b0, b1⟩ ⟨c0, c1⟩ ⟨d0, d1⟩))).setIfInBounds 40 (.agg #[.int .i64 a0, .int .i64 a1])).setIfInBounds 41 (.agg #[.int .i64 b0, .int .i64 b1])).setIfInBounds 42 (.agg #[.int .i64 c0, .int .i64 c1])).setIfInBounds 43 (.agg #[.int .i64 d0, .int .i64 d1])).setIfInBounds 44 (.int .i64 (circ ⟨a0, a1⟩ ⟨b0, b1⟩ ⟨c0, c1⟩ ⟨d0, d1⟩))).setIfInBounds 45 (.bool true)).setIfInBounds 46 (.bool true)).setIfInBounds 47 (.bool true)).setIfInBounds 48 (.agg #[.int .i64 a0, .int .i64 a1])).setIfInBounds 49 (.agg #[.int .i64 b0, .int .i64 b1])).setIfInBounds 50 (.agg #[.int .i64 c0, .int .i64 c1])).setIfInBounds 51 (.bool (onE ⟨a0, a1⟩ ⟨b0, b1⟩ ⟨c0, c1⟩))).setIfInBounds 52 (.agg #[.int .i64 a0, .int .i64 a1])).setIfInBounds 53 (.agg #[.int .i64 b0, .int .i64 b1])).setIfInBounds 54 (.agg #[.int .i64 c0, .int .i64 c1])).setIfInBounds 55 (.bool (onE ⟨a0, a1⟩ ⟨b0, b1⟩ ⟨c0, c1⟩))).setIfInBounds 56 (.bool true)).setIfInBounds 57 (.bool true)).setIfInBounds 58 (.bool true)).setIfInBounds 59 (.agg #[.int .i64 a0, .int .i64 a1])).setIfInBounds 60 (.agg #[.int .i64 b0, .int .i64 b1])).setIfInBounds 61 (.agg #[.int .i64 c0, .int .i64 c1])).setIfInBounds 62 (.agg #[.int .i64 d0, .int .i64 d1])).setIfInBounds 63 (.int .i64 (meet ⟨a0, a1⟩ ⟨b0, b1⟩ ⟨c0, c1⟩ ⟨d0, d1⟩))).setIfInBounds 64 (.agg #[.int .i64 a0, .int .i64 a1])).setIfInBounds 65 (.agg #[.int .i64 b0, .int .i64 b1])).setIfInBounds 66 (.agg #[.int .i64 c0, .int .i64 c1])).setIfInBounds 67 (.agg #[.int .i64 d0, .int .i64 d1])).setIfInBounds 68 (.int .i64 (meet ⟨a0, a1⟩ ⟨b0, b1⟩ ⟨c0, c1⟩ ⟨d0, d1⟩))).setIfInBounds 69 (.bool true)).setIfInBounds 70 (.bool true)).setIfInBounds 71 (.bool true)).setIfInBounds 72 (.bool true)).setIfInBounds 73 (.bool true)).setIfInBounds 8 (.bool true)), a.defers⟩ w') :
    (Code.region id ops true).wp Try.prog Q a w := by
  have ht : tidy (regOps Try.f13 1) a.tmps.size = true := by rw [hsz]; kernel_rfl
  refine region_tab (G := Unit) (fun _ => (region13V a0 a1 b0 b1 c0 c1 d0 d1  )) (fun _ _ w' => w'.cell? ⟨ka, 0, none⟩ = some (.int .i64 a0) ∧ w'.cell? ⟨ka, 1, none⟩ = some (.int .i64 a1) ∧ w'.cell? ⟨kb, 0, none⟩ = some (.int .i64 b0) ∧ w'.cell? ⟨kb, 1, none⟩ = some (.int .i64 b1) ∧ w'.cell? ⟨kc, 0, none⟩ = some (.int .i64 c0) ∧ w'.cell? ⟨kc, 1, none⟩ = some (.int .i64 c1) ∧ w'.cell? ⟨kd, 0, none⟩ = some (.int .i64 d0) ∧ w'.cell? ⟨kd, 1, none⟩ = some (.int .i64 d1) ∧ Below W.heap.size W w') () (by kernel_rfl) ho ht h0 ?_ ?_
  · intro i o hoi g L b w' hun hpre hT hS
    clear he h0 ho hsz ht
    have hi : i < (regOps Try.f13 1).size := (Array.getElem?_eq_some_iff.1 hoi).1
    rw [show (regOps Try.f13 1).size = 66 by kernel_rfl] at hi
    obtain ⟨ac0, ac1, bc0, bc1, cc0, cc1, ddc0, ddc1, HB⟩ := hS
    have hcases : i = 0 ∨ i = 1 ∨ i = 2 ∨ i = 3 ∨ i = 4 ∨ i = 5 ∨ i = 6 ∨ i = 7 ∨ i = 8 ∨ i = 9 ∨ i = 10 ∨ i = 11 ∨ i = 12 ∨ i = 13 ∨ i = 14 ∨ i = 15 ∨ i = 16 ∨ i = 17 ∨ i = 18 ∨ i = 19 ∨ i = 20 ∨ i = 21 ∨ i = 22 ∨ i = 23 ∨ i = 24 ∨ i = 25 ∨ i = 26 ∨ i = 27 ∨ i = 28 ∨ i = 29 ∨ i = 30 ∨ i = 31 ∨ i = 32 ∨ i = 33 ∨ i = 34 ∨ i = 35 ∨ i = 36 ∨ i = 37 ∨ i = 38 ∨ i = 39 ∨ i = 40 ∨ i = 41 ∨ i = 42 ∨ i = 43 ∨ i = 44 ∨ i = 45 ∨ i = 46 ∨ i = 47 ∨ i = 48 ∨ i = 49 ∨ i = 50 ∨ i = 51 ∨ i = 52 ∨ i = 53 ∨ i = 54 ∨ i = 55 ∨ i = 56 ∨ i = 57 ∨ i = 58 ∨ i = 59 ∨ i = 60 ∨ i = 61 ∨ i = 62 ∨ i = 63 ∨ i = 64 ∨ i = 65 := by omega
    rcases hcases with rfl | rfl | rfl | rfl | rfl | rfl | rfl | rfl | rfl | rfl | rfl | rfl | rfl | rfl | rfl | rfl | rfl | rfl | rfl | rfl | rfl | rfl | rfl | rfl | rfl | rfl | rfl | rfl | rfl | rfl | rfl | rfl | rfl | rfl | rfl | rfl | rfl | rfl | rfl | rfl | rfl | rfl | rfl | rfl | rfl | rfl | rfl | rfl | rfl | rfl | rfl | rfl | rfl | rfl | rfl | rfl | rfl | rfl | rfl | rfl | rfl | rfl | rfl | rfl | rfl | rfl
    · have hlit : (regOps Try.f13 1)[0]? = some ({ dst := some 9, op := Op.load 23 (Operand.tmp 4), type := 23, pos := "law.go:19", after := #[], guard := none }) := by kernel_rfl
      obtain rfl := Option.some.inj (hlit.symm.trans hoi)
      have r4 : b.tmps.getD 4 undef = (.pointer (some ⟨ka, 0, none⟩)) := rd ((hT.old 4 (by kernel_rfl)).trans t4)
      refine op_go hoi (want_all rfl) fun K hK => ?_
      clear hT hpre hun hlit hoi
      go_simp
      exact hK _ _ ⟨(), fun _ _ => rfl, rfl, ac0, ac1, bc0, bc1, cc0, cc1, ddc0, ddc1, HB⟩
    · have hlit : (regOps Try.f13 1)[1]? = some ({ dst := some 10, op := Op.call { callee := Callee.value (Operand.func 49), args := #[Operand.tmp 9], argTypes := #[23] }, type := 4, pos := "law.go:19", after := aft13 (regOps Try.f13 1) 1, guard := none }) := by kernel_rfl
      obtain rfl := Option.some.inj (hlit.symm.trans hoi)
      have r9 : b.tmps.getD 9 undef = (.agg #[.int .i64 a0, .int .i64 a1]) := rd (hT.at 0 (by kernel_rfl) (pre_of hpre 0 (by kernel_rfl)))
      refine op_go hoi (want_all rfl) fun K hK => ?_
      clear hT hpre hun hlit hoi
      go_simp
      go_at_call 49
      refine (valid49 _ _ _).mono ?_; rintro e w2 ⟨rfl, hb⟩; replace ac0 := ck hb (a := ⟨ka, 0, none⟩) (v := .int .i64 a0) (by go_simp); replace ac1 := ck hb (a := ⟨ka, 1, none⟩) (v := .int .i64 a1) (by go_simp); replace bc0 := ck hb (a := ⟨kb, 0, none⟩) (v := .int .i64 b0) (by go_simp); replace bc1 := ck hb (a := ⟨kb, 1, none⟩) (v := .int .i64 b1) (by go_simp); replace cc0 := ck hb (a := ⟨kc, 0, none⟩) (v := .int .i64 c0) (by go_simp); replace cc1 := ck hb (a := ⟨kc, 1, none⟩) (v := .int .i64 c1) (by go_simp); replace ddc0 := ck hb (a := ⟨kd, 0, none⟩) (v := .int .i64 d0) (by go_simp); replace ddc1 := ck hb (a := ⟨kd, 1, none⟩) (v := .int .i64 d1) (by go_simp); replace HB : Below W.heap.size W w2 := bt HB hb; clear hb
      exact hK _ _ ⟨(), fun _ _ => rfl, rfl, ac0, ac1, bc0, bc1, cc0, cc1, ddc0, ddc1, HB⟩
    · have hlit : (regOps Try.f13 1)[2]? = some ({ dst := some 11, op := Op.load 23 (Operand.tmp 4), type := 23, pos := "law.go:19", after := #[], guard := none }) := by kernel_rfl
      obtain rfl := Option.some.inj (hlit.symm.trans hoi)
      have r4 : b.tmps.getD 4 undef = (.pointer (some ⟨ka, 0, none⟩)) := rd ((hT.old 4 (by kernel_rfl)).trans t4)
      refine op_go hoi (want_all rfl) fun K hK => ?_
      clear hT hpre hun hlit hoi
      go_simp
      exact hK _ _ ⟨(), fun _ _ => rfl, rfl, ac0, ac1, bc0, bc1, cc0, cc1, ddc0, ddc1, HB⟩
    · have hlit : (regOps Try.f13 1)[3]? = some ({ dst := some 12, op := Op.call { callee := Callee.value (Operand.func 48), args := #[Operand.tmp 11], argTypes := #[23] }, type := 4, pos := "law.go:19", after := aft13 (regOps Try.f13 1) 3, guard := none }) := by kernel_rfl
      obtain rfl := Option.some.inj (hlit.symm.trans hoi)
      have r11 : b.tmps.getD 11 undef = (.agg #[.int .i64 a0, .int .i64 a1]) := rd (hT.at 2 (by kernel_rfl) (pre_of hpre 2 (by kernel_rfl)))
      refine op_go hoi (want_all rfl) fun K hK => ?_
      clear hT hpre hun hlit hoi
      go_simp
      go_at_call 48
      refine (valid48 _ _ _).mono ?_; rintro e w2 ⟨rfl, hb⟩; replace ac0 := ck hb (a := ⟨ka, 0, none⟩) (v := .int .i64 a0) (by go_simp); replace ac1 := ck hb (a := ⟨ka, 1, none⟩) (v := .int .i64 a1) (by go_simp); replace bc0 := ck hb (a := ⟨kb, 0, none⟩) (v := .int .i64 b0) (by go_simp); replace bc1 := ck hb (a := ⟨kb, 1, none⟩) (v := .int .i64 b1) (by go_simp); replace cc0 := ck hb (a := ⟨kc, 0, none⟩) (v := .int .i64 c0) (by go_simp); replace cc1 := ck hb (a := ⟨kc, 1, none⟩) (v := .int .i64 c1) (by go_simp); replace ddc0 := ck hb (a := ⟨kd, 0, none⟩) (v := .int .i64 d0) (by go_simp); replace ddc1 := ck hb (a := ⟨kd, 1, none⟩) (v := .int .i64 d1) (by go_simp); replace HB : Below W.heap.size W w2 := bt HB hb; clear hb
      exact hK _ _ ⟨(), fun _ _ => rfl, rfl, ac0, ac1, bc0, bc1, cc0, cc1, ddc0, ddc1, HB⟩
    · have hlit : (regOps Try.f13 1)[4]? = some ({ dst := some 13, op := Op.binOp BinOp.eql 4 (Operand.tmp 10) (Operand.tmp 12) 4, type := 4, pos := "law.go:19", after := aft13 (regOps Try.f13 1) 4, guard := none }) := by kernel_rfl
      obtain rfl := Option.some.inj (hlit.symm.trans hoi)
      have r10 : b.tmps.getD 10 undef = (.bool (val ⟨a0, a1⟩)) := rd (hT.at 1 (by kernel_rfl) (pre_of hpre 1 (by kernel_rfl)))
      have r12 : b.tmps.getD 12 undef = (.bool (val ⟨a0, a1⟩)) := rd (hT.at 3 (by kernel_rfl) (pre_of hpre 3 (by kernel_rfl)))
      refine op_go hoi (want_all rfl) fun K hK => ?_
      clear hT hpre hun hlit hoi
      go_simp
      exact hK _ _ ⟨(), fun _ _ => rfl, rfl, ac0, ac1, bc0, bc1, cc0, cc1, ddc0, ddc1, HB⟩
    · have hlit : (regOps Try.f13 1)[5]? = some ({ dst := some 14, op := Op.move (Operand.tmp 13), type := 4, pos := "law.go:19", after := aft13 (regOps Try.f13 1) 5, guard := none }) := by kernel_rfl
      obtain rfl := Option.some.inj (hlit.symm.trans hoi)
      have r13 : b.tmps.getD 13 undef = (.bool true) := rd (hT.at 4 (by kernel_rfl) (pre_of hpre 4 (by kernel_rfl)))
      refine op_go hoi (want_all rfl) fun K hK => ?_
      clear hT hpre hun hlit hoi
      go_simp
      exact hK _ _ ⟨(), fun _ _ => rfl, rfl, ac0, ac1, bc0, bc1, cc0, cc1, ddc0, ddc1, HB⟩
    · have hlit : (regOps Try.f13 1)[6]? = some ({ dst := some 15, op := Op.load 23 (Operand.tmp 4), type := 23, pos := "law.go:19", after := aft13 (regOps Try.f13 1) 6, guard := some (5, true) }) := by kernel_rfl
      obtain rfl := Option.some.inj (hlit.symm.trans hoi)
      have r4 : b.tmps.getD 4 undef = (.pointer (some ⟨ka, 0, none⟩)) := rd ((hT.old 4 (by kernel_rfl)).trans t4)
      refine op_go hoi (want_yes rfl (d := 14) (by kernel_rfl) (hT.at 5 (by kernel_rfl) (pre_of hpre 5 (by kernel_rfl)))) fun K hK => ?_
      clear hT hpre hun hlit hoi
      go_simp
      exact hK _ _ ⟨(), fun _ _ => rfl, rfl, ac0, ac1, bc0, bc1, cc0, cc1, ddc0, ddc1, HB⟩
    · have hlit : (regOps Try.f13 1)[7]? = some ({ dst := some 16, op := Op.load 23 (Operand.tmp 5), type := 23, pos := "law.go:19", after := aft13 (regOps Try.f13 1) 7, guard := some (5, true) }) := by kernel_rfl
      obtain rfl := Option.some.inj (hlit.symm.trans hoi)
      have r5 : b.tmps.getD 5 undef = (.pointer (some ⟨kb, 0, none⟩)) := rd ((hT.old 5 (by kernel_rfl)).trans t5)
      refine op_go hoi (want_yes rfl (d := 14) (by kernel_rfl) (hT.at 5 (by kernel_rfl) (pre_of hpre 5 (by kernel_rfl)))) fun K hK => ?_
      clear hT hpre hun hlit hoi
      go_simp
      exact hK _ _ ⟨(), fun _ _ => rfl, rfl, ac0, ac1, bc0, bc1, cc0, cc1, ddc0, ddc1, HB⟩
    · have hlit : (regOps Try.f13 1)[8]? = some ({ dst := some 17, op := Op.call { callee := Callee.value (Operand.func 50), args := #[Operand.tmp 15, Operand.tmp 16], argTypes := #[23, 23] }, type := 3, pos := "law.go:19", after := aft13 (regOps Try.f13 1) 8, guard := some (5, true) }) := by kernel_rfl
      obtain rfl := Option.some.inj (hlit.symm.trans hoi)
      have r15 : b.tmps.getD 15 undef = (.agg #[.int .i64 a0, .int .i64 a1]) := rd (hT.at 6 (by kernel_rfl) (pre_of hpre 6 (by kernel_rfl)))
      have r16 : b.tmps.getD 16 undef = (.agg #[.int .i64 b0, .int .i64 b1]) := rd (hT.at 7 (by kernel_rfl) (pre_of hpre 7 (by kernel_rfl)))
      refine op_go hoi (want_yes rfl (d := 14) (by kernel_rfl) (hT.at 5 (by kernel_rfl) (pre_of hpre 5 (by kernel_rfl)))) fun K hK => ?_
      clear hT hpre hun hlit hoi
      go_simp
      go_at_call 50
      refine (cmp50 _ _ _ _ _).mono ?_; rintro e w2 ⟨rfl, hb⟩; replace ac0 := ck hb (a := ⟨ka, 0, none⟩) (v := .int .i64 a0) (by go_simp); replace ac1 := ck hb (a := ⟨ka, 1, none⟩) (v := .int .i64 a1) (by go_simp); replace bc0 := ck hb (a := ⟨kb, 0, none⟩) (v := .int .i64 b0) (by go_simp); replace bc1 := ck hb (a := ⟨kb, 1, none⟩) (v := .int .i64 b1) (by go_simp); replace cc0 := ck hb (a := ⟨kc, 0, none⟩) (v := .int .i64 c0) (by go_simp); replace cc1 := ck hb (a := ⟨kc, 1, none⟩) (v := .int .i64 c1) (by go_simp); replace ddc0 := ck hb (a := ⟨kd, 0, none⟩) (v := .int .i64 d0) (by go_simp); replace ddc1 := ck hb (a := ⟨kd, 1, none⟩) (v := .int .i64 d1) (by go_simp); replace HB : Below W.heap.size W w2 := bt HB hb; clear hb
      exact hK _ _ ⟨(), fun _ _ => rfl, rfl, ac0, ac1, bc0, bc1, cc0, cc1, ddc0, ddc1, HB⟩
    · have hlit : (regOps Try.f13 1)[9]? = some ({ dst := some 18, op := Op.load 23 (Operand.tmp 4), type := 23, pos := "law.go:19", after := aft13 (regOps Try.f13 1) 9, guard := some (5, true) }) := by kernel_rfl
      obtain rfl := Option.some.inj (hlit.symm.trans hoi)
      have r4 : b.tmps.getD 4 undef = (.pointer (some ⟨ka, 0, none⟩)) := rd ((hT.old 4 (by kernel_rfl)).trans t4)
      refine op_go hoi (want_yes rfl (d := 14) (by kernel_rfl) (hT.at 5 (by kernel_rfl) (pre_of hpre 5 (by kernel_rfl)))) fun K hK => ?_
      clear hT hpre hun hlit hoi
      go_simp
      exact hK _ _ ⟨(), fun _ _ => rfl, rfl, ac0, ac1, bc0, bc1, cc0, cc1, ddc0, ddc1, HB⟩
    · have hlit : (regOps Try.f13 1)[10]? = some ({ dst := some 19, op := Op.load 23 (Operand.tmp 5), type := 23, pos := "law.go:19", after := aft13 (regOps Try.f13 1) 10, guard := some (5, true) }) := by kernel_rfl
      obtain rfl := Option.some.inj (hlit.symm.trans hoi)
      have r5 : b.tmps.getD 5 undef = (.pointer (some ⟨kb, 0, none⟩)) := rd ((hT.old 5 (by kernel_rfl)).trans t5)
      refine op_go hoi (want_yes rfl (d := 14) (by kernel_rfl) (hT.at 5 (by kernel_rfl) (pre_of hpre 5 (by kernel_rfl)))) fun K hK => ?_
      clear hT hpre hun hlit hoi
      go_simp
      exact hK _ _ ⟨(), fun _ _ => rfl, rfl, ac0, ac1, bc0, bc1, cc0, cc1, ddc0, ddc1, HB⟩
    · have hlit : (regOps Try.f13 1)[11]? = some ({ dst := some 20, op := Op.call { callee := Callee.value (Operand.func 51), args := #[Operand.tmp 18, Operand.tmp 19], argTypes := #[23, 23] }, type := 3, pos := "law.go:19", after := aft13 (regOps Try.f13 1) 11, guard := some (5, true) }) := by kernel_rfl
      obtain rfl := Option.some.inj (hlit.symm.trans hoi)
      have r18 : b.tmps.getD 18 undef = (.agg #[.int .i64 a0, .int .i64 a1]) := rd (hT.at 9 (by kernel_rfl) (pre_of hpre 9 (by kernel_rfl)))
      have r19 : b.tmps.getD 19 undef = (.agg #[.int .i64 b0, .int .i64 b1]) := rd (hT.at 10 (by kernel_rfl) (pre_of hpre 10 (by kernel_rfl)))
      refine op_go hoi (want_yes rfl (d := 14) (by kernel_rfl) (hT.at 5 (by kernel_rfl) (pre_of hpre 5 (by kernel_rfl)))) fun K hK => ?_
      clear hT hpre hun hlit hoi
      go_simp
      go_at_call 51
      refine (cmp51 _ _ _ _ _).mono ?_; rintro e w2 ⟨rfl, hb⟩; replace ac0 := ck hb (a := ⟨ka, 0, none⟩) (v := .int .i64 a0) (by go_simp); replace ac1 := ck hb (a := ⟨ka, 1, none⟩) (v := .int .i64 a1) (by go_simp); replace bc0 := ck hb (a := ⟨kb, 0, none⟩) (v := .int .i64 b0) (by go_simp); replace bc1 := ck hb (a := ⟨kb, 1, none⟩) (v := .int .i64 b1) (by go_simp); replace cc0 := ck hb (a := ⟨kc, 0, none⟩) (v := .int .i64 c0) (by go_simp); replace cc1 := ck hb (a := ⟨kc, 1, none⟩) (v := .int .i64 c1) (by go_simp); replace ddc0 := ck hb (a := ⟨kd, 0, none⟩) (v := .int .i64 d0) (by go_simp); replace ddc1 := ck hb (a := ⟨kd, 1, none⟩) (v := .int .i64 d1) (by go_simp); replace HB : Below W.heap.size W w2 := bt HB hb; clear hb
      exact hK _ _ ⟨(), fun _ _ => rfl, rfl, ac0, ac1, bc0, bc1, cc0, cc1, ddc0, ddc1, HB⟩
    · have hlit : (regOps Try.f13 1)[12]? = some ({ dst := some 21, op := Op.binOp BinOp.eql 3 (Operand.tmp 17) (Operand.tmp 20) 3, type := 4, pos := "law.go:19", after := aft13 (regOps Try.f13 1) 12, guard := some (5, true) }) := by kernel_rfl
      obtain rfl := Option.some.inj (hlit.symm.trans hoi)
      have r17 : b.tmps.getD 17 undef = (.int .i64 (cmpP ⟨a0, a1⟩ ⟨b0, b1⟩)) := rd (hT.at 8 (by kernel_rfl) (pre_of hpre 8 (by kernel_rfl)))
      have r20 : b.tmps.getD 20 undef = (.int .i64 (cmpP ⟨a0, a1⟩ ⟨b0, b1⟩)) := rd (hT.at 11 (by kernel_rfl) (pre_of hpre 11 (by kernel_rfl)))
      refine op_go hoi (want_yes rfl (d := 14) (by kernel_rfl) (hT.at 5 (by kernel_rfl) (pre_of hpre 5 (by kernel_rfl)))) fun K hK => ?_
      clear hT hpre hun hlit hoi
      go_simp
      exact hK _ _ ⟨(), fun _ _ => rfl, rfl, ac0, ac1, bc0, bc1, cc0, cc1, ddc0, ddc1, HB⟩
    · have hlit : (regOps Try.f13 1)[13]? = some ({ dst := some 22, op := Op.pick (Operand.tmp 14) (Operand.tmp 21) (Operand.const (Value.bool false)), type := 4, pos := "law.go:19", after := aft13 (regOps Try.f13 1) 13, guard := none }) := by kernel_rfl
      obtain rfl := Option.some.inj (hlit.symm.trans hoi)
      have r14 : b.tmps.getD 14 undef = (.bool true) := rd (hT.at 5 (by kernel_rfl) (pre_of hpre 5 (by kernel_rfl)))
      have r21 : b.tmps.getD 21 undef = (.bool true) := rd (hT.at 12 (by kernel_rfl) (pre_of hpre 12 (by kernel_rfl)))
      refine op_go hoi (want_all rfl) fun K hK => ?_
      clear hT hpre hun hlit hoi
      go_simp
      exact hK _ _ ⟨(), fun _ _ => rfl, rfl, ac0, ac1, bc0, bc1, cc0, cc1, ddc0, ddc1, HB⟩
    · have hlit : (regOps Try.f13 1)[14]? = some ({ dst := some 23, op := Op.move (Operand.tmp 22), type := 4, pos := "law.go:19", after := aft13 (regOps Try.f13 1) 14, guard := none }) := by kernel_rfl
      obtain rfl := Option.some.inj (hlit.symm.trans hoi)
      have r22 : b.tmps.getD 22 undef = (.bool true) := rd (hT.at 13 (by kernel_rfl) (pre_of hpre 13 (by kernel_rfl)))
      refine op_go hoi (want_all rfl) fun K hK => ?_
      clear hT hpre hun hlit hoi
      go_simp
      exact hK _ _ ⟨(), fun _ _ => rfl, rfl, ac0, ac1, bc0, bc1, cc0, cc1, ddc0, ddc1, HB⟩
    · have hlit : (regOps Try.f13 1)[15]? = some ({ dst := some 24, op := Op.load 23 (Operand.tmp 4), type := 23, pos := "law.go:19", after := aft13 (regOps Try.f13 1) 15, guard := some (14, true) }) := by kernel_rfl
      obtain rfl := Option.some.inj (hlit.symm.trans hoi)
      have r4 : b.tmps.getD 4 undef = (.pointer (some ⟨ka, 0, none⟩)) := rd ((hT.old 4 (by kernel_rfl)).trans t4)
      refine op_go hoi (want_yes rfl (d := 23) (by kernel_rfl) (hT.at 14 (by kernel_rfl) (pre_of hpre 14 (by kernel_rfl)))) fun K hK => ?_
      clear hT hpre hun hlit hoi
      go_simp
      exact hK _ _ ⟨(), fun _ _ => rfl, rfl, ac0, ac1, bc0, bc1, cc0, cc1, ddc0, ddc1, HB⟩
    · have hlit : (regOps Try.f13 1)[16]? = some ({ dst := some 25, op := Op.load 23 (Operand.tmp 5), type := 23, pos := "law.go:19", after := aft13 (regOps Try.f13 1) 16, guard := some (14, true) }) := by kernel_rfl
      obtain rfl := Option.some.inj (hlit.symm.trans hoi)
      have r5 : b.tmps.getD 5 undef = (.pointer (some ⟨kb, 0, none⟩)) := rd ((hT.old 5 (by kernel_rfl)).trans t5)
      refine op_go hoi (want_yes rfl (d := 23) (by kernel_rfl) (hT.at 14 (by kernel_rfl) (pre_of hpre 14 (by kernel_rfl)))) fun K hK => ?_
      clear hT hpre hun hlit hoi
      go_simp
      exact hK _ _ ⟨(), fun _ _ => rfl, rfl, ac0, ac1, bc0, bc1, cc0, cc1, ddc0, ddc1, HB⟩
    · have hlit : (regOps Try.f13 1)[17]? = some ({ dst := some 26, op := Op.load 23 (Operand.tmp 6), type := 23, pos := "law.go:19", after := aft13 (regOps Try.f13 1) 17, guard := some (14, true) }) := by kernel_rfl
      obtain rfl := Option.some.inj (hlit.symm.trans hoi)
      have r6 : b.tmps.getD 6 undef = (.pointer (some ⟨kc, 0, none⟩)) := rd ((hT.old 6 (by kernel_rfl)).trans t6)
      refine op_go hoi (want_yes rfl (d := 23) (by kernel_rfl) (hT.at 14 (by kernel_rfl) (pre_of hpre 14 (by kernel_rfl)))) fun K hK => ?_
      clear hT hpre hun hlit hoi
      go_simp
      exact hK _ _ ⟨(), fun _ _ => rfl, rfl, ac0, ac1, bc0, bc1, cc0, cc1, ddc0, ddc1, HB⟩
    · have hlit : (regOps Try.f13 1)[18]? = some ({ dst := some 27, op := Op.call { callee := Callee.value (Operand.func 52), args := #[Operand.tmp 24, Operand.tmp 25, Operand.tmp 26], argTypes := #[23, 23, 23] }, type := 3, pos := "law.go:19", after := aft13 (regOps Try.f13 1) 18, guard := some (14, true) }) := by kernel_rfl
      obtain rfl := Option.some.inj (hlit.symm.trans hoi)
      have r24 : b.tmps.getD 24 undef = (.agg #[.int .i64 a0, .int .i64 a1]) := rd (hT.at 15 (by kernel_rfl) (pre_of hpre 15 (by kernel_rfl)))
      have r25 : b.tmps.getD 25 undef = (.agg #[.int .i64 b0, .int .i64 b1]) := rd (hT.at 16 (by kernel_rfl) (pre_of hpre 16 (by kernel_rfl)))
      have r26 : b.tmps.getD 26 undef = (.agg #[.int .i64 c0, .int .i64 c1]) := rd (hT.at 17 (by kernel_rfl) (pre_of hpre 17 (by kernel_rfl)))
      refine op_go hoi (want_yes rfl (d := 23) (by kernel_rfl) (hT.at 14 (by kernel_rfl) (pre_of hpre 14 (by kernel_rfl)))) fun K hK => ?_
      clear hT hpre hun hlit hoi
      go_simp
      go_at_call 52
      refine (ori52 _ _ _ _ _ _ _).mono ?_; rintro e w2 ⟨rfl, hb⟩; replace ac0 := ck hb (a := ⟨ka, 0, none⟩) (v := .int .i64 a0) (by go_simp); replace ac1 := ck hb (a := ⟨ka, 1, none⟩) (v := .int .i64 a1) (by go_simp); replace bc0 := ck hb (a := ⟨kb, 0, none⟩) (v := .int .i64 b0) (by go_simp); replace bc1 := ck hb (a := ⟨kb, 1, none⟩) (v := .int .i64 b1) (by go_simp); replace cc0 := ck hb (a := ⟨kc, 0, none⟩) (v := .int .i64 c0) (by go_simp); replace cc1 := ck hb (a := ⟨kc, 1, none⟩) (v := .int .i64 c1) (by go_simp); replace ddc0 := ck hb (a := ⟨kd, 0, none⟩) (v := .int .i64 d0) (by go_simp); replace ddc1 := ck hb (a := ⟨kd, 1, none⟩) (v := .int .i64 d1) (by go_simp); replace HB : Below W.heap.size W w2 := bt HB hb; clear hb
      exact hK _ _ ⟨(), fun _ _ => rfl, rfl, ac0, ac1, bc0, bc1, cc0, cc1, ddc0, ddc1, HB⟩
    · have hlit : (regOps Try.f13 1)[19]? = some ({ dst := some 28, op := Op.load 23 (Operand.tmp 4), type := 23, pos := "law.go:19", after := aft13 (regOps Try.f13 1) 19, guard := some (14, true) }) := by kernel_rfl
      obtain rfl := Option.some.inj (hlit.symm.trans hoi)
      have r4 : b.tmps.getD 4 undef = (.pointer (some ⟨ka, 0, none⟩)) := rd ((hT.old 4 (by kernel_rfl)).trans t4)
      refine op_go hoi (want_yes rfl (d := 23) (by kernel_rfl) (hT.at 14 (by kernel_rfl) (pre_of hpre 14 (by kernel_rfl)))) fun K hK => ?_
      clear hT hpre hun hlit hoi
      go_simp
      exact hK _ _ ⟨(), fun _ _ => rfl, rfl, ac0, ac1, bc0, bc1, cc0, cc1, ddc0, ddc1, HB⟩
    · have hlit : (regOps Try.f13 1)[20]? = some ({ dst := some 29, op := Op.load 23 (Operand.tmp 5), type := 23, pos := "law.go:19", after := aft13 (regOps Try.f13 1) 20, guard := some (14, true) }) := by kernel_rfl
      obtain rfl := Option.some.inj (hlit.symm.trans hoi)
      have r5 : b.tmps.getD 5 undef = (.pointer (some ⟨kb, 0, none⟩)) := rd ((hT.old 5 (by kernel_rfl)).trans t5)
      refine op_go hoi (want_yes rfl (d := 23) (by kernel_rfl) (hT.at 14 (by kernel_rfl) (pre_of hpre 14 (by kernel_rfl)))) fun K hK => ?_
      clear hT hpre hun hlit hoi
      go_simp
      exact hK _ _ ⟨(), fun _ _ => rfl, rfl, ac0, ac1, bc0, bc1, cc0, cc1, ddc0, ddc1, HB⟩
    · have hlit : (regOps Try.f13 1)[21]? = some ({ dst := some 30, op := Op.load 23 (Operand.tmp 6), type := 23, pos := "law.go:19", after := aft13 (regOps Try.f13 1) 21, guard := some (14, true) }) := by kernel_rfl
      obtain rfl := Option.some.inj (hlit.symm.trans hoi)
      have r6 : b.tmps.getD 6 undef = (.pointer (some ⟨kc, 0, none⟩)) := rd ((hT.old 6 (by kernel_rfl)).trans t6)
      refine op_go hoi (want_yes rfl (d := 23) (by kernel_rfl) (hT.at 14 (by kernel_rfl) (pre_of hpre 14 (by kernel_rfl)))) fun K hK => ?_
      clear hT hpre hun hlit hoi
      go_simp
      exact hK _ _ ⟨(), fun _ _ => rfl, rfl, ac0, ac1, bc0, bc1, cc0, cc1, ddc0, ddc1, HB⟩
    · have hlit : (regOps Try.f13 1)[22]? = some ({ dst := some 31, op := Op.call { callee := Callee.value (Operand.func 37), args := #[Operand.tmp 28, Operand.tmp 29, Operand.tmp 30], argTypes := #[23, 23, 23] }, type := 3, pos := "law.go:19", after := aft13 (regOps Try.f13 1) 22, guard := some (14, true) }) := by kernel_rfl
      obtain rfl := Option.some.inj (hlit.symm.trans hoi)
      have r28 : b.tmps.getD 28 undef = (.agg #[.int .i64 a0, .int .i64 a1]) := rd (hT.at 19 (by kernel_rfl) (pre_of hpre 19 (by kernel_rfl)))
      have r29 : b.tmps.getD 29 undef = (.agg #[.int .i64 b0, .int .i64 b1]) := rd (hT.at 20 (by kernel_rfl) (pre_of hpre 20 (by kernel_rfl)))
      have r30 : b.tmps.getD 30 undef = (.agg #[.int .i64 c0, .int .i64 c1]) := rd (hT.at 21 (by kernel_rfl) (pre_of hpre 21 (by kernel_rfl)))
      refine op_go hoi (want_yes rfl (d := 23) (by kernel_rfl) (hT.at 14 (by kernel_rfl) (pre_of hpre 14 (by kernel_rfl)))) fun K hK => ?_
      clear hT hpre hun hlit hoi
      go_simp
      go_at_call 37
      refine (ori37 _ _ _ _ _ _ _).mono ?_; rintro e w2 ⟨rfl, hb⟩; replace ac0 := ck hb (a := ⟨ka, 0, none⟩) (v := .int .i64 a0) (by go_simp); replace ac1 := ck hb (a := ⟨ka, 1, none⟩) (v := .int .i64 a1) (by go_simp); replace bc0 := ck hb (a := ⟨kb, 0, none⟩) (v := .int .i64 b0) (by go_simp); replace bc1 := ck hb (a := ⟨kb, 1, none⟩) (v := .int .i64 b1) (by go_simp); replace cc0 := ck hb (a := ⟨kc, 0, none⟩) (v := .int .i64 c0) (by go_simp); replace cc1 := ck hb (a := ⟨kc, 1, none⟩) (v := .int .i64 c1) (by go_simp); replace ddc0 := ck hb (a := ⟨kd, 0, none⟩) (v := .int .i64 d0) (by go_simp); replace ddc1 := ck hb (a := ⟨kd, 1, none⟩) (v := .int .i64 d1) (by go_simp); replace HB : Below W.heap.size W w2 := bt HB hb; clear hb
      exact hK _ _ ⟨(), fun _ _ => rfl, rfl, ac0, ac1, bc0, bc1, cc0, cc1, ddc0, ddc1, HB⟩
    · have hlit : (regOps Try.f13 1)[23]? = some ({ dst := some 32, op := Op.binOp BinOp.eql 3 (Operand.tmp 27) (Operand.tmp 31) 3, type := 4, pos := "law.go:19", after := aft13 (regOps Try.f13 1) 23, guard := some (14, true) }) := by kernel_rfl
      obtain rfl := Option.some.inj (hlit.symm.trans hoi)
      have r27 : b.tmps.getD 27 undef = (.int .i64 (ori ⟨a0, a1⟩ ⟨b0, b1⟩ ⟨c0, c1⟩)) := rd (hT.at 18 (by kernel_rfl) (pre_of hpre 18 (by kernel_rfl)))
      have r31 : b.tmps.getD 31 undef = (.int .i64 (ori ⟨a0, a1⟩ ⟨b0, b1⟩ ⟨c0, c1⟩)) := rd (hT.at 22 (by kernel_rfl) (pre_of hpre 22 (by kernel_rfl)))
      refine op_go hoi (want_yes rfl (d := 23) (by kernel_rfl) (hT.at 14 (by kernel_rfl) (pre_of hpre 14 (by kernel_rfl)))) fun K hK => ?_
      clear hT hpre hun hlit hoi
      go_simp
      exact hK _ _ ⟨(), fun _ _ => rfl, rfl, ac0, ac1, bc0, bc1, cc0, cc1, ddc0, ddc1, HB⟩
    · have hlit : (regOps Try.f13 1)[24]? = some ({ dst := some 33, op := Op.pick (Operand.tmp 23) (Operand.tmp 32) (Operand.const (Value.bool false)), type := 4, pos := "law.go:19", after := aft13 (regOps Try.f13 1) 24, guard := none }) := by kernel_rfl
      obtain rfl := Option.some.inj (hlit.symm.trans hoi)
      have r23 : b.tmps.getD 23 undef = (.bool true) := rd (hT.at 14 (by kernel_rfl) (pre_of hpre 14 (by kernel_rfl)))
      have r32 : b.tmps.getD 32 undef = (.bool true) := rd (hT.at 23 (by kernel_rfl) (pre_of hpre 23 (by kernel_rfl)))
      refine op_go hoi (want_all rfl) fun K hK => ?_
      clear hT hpre hun hlit hoi
      go_simp
      exact hK _ _ ⟨(), fun _ _ => rfl, rfl, ac0, ac1, bc0, bc1, cc0, cc1, ddc0, ddc1, HB⟩
    · have hlit : (regOps Try.f13 1)[25]? = some ({ dst := some 34, op := Op.move (Operand.tmp 33), type := 4, pos := "law.go:19", after := aft13 (regOps Try.f13 1) 25, guard := none }) := by kernel_rfl
      obtain rfl := Option.some.inj (hlit.symm.trans hoi)
      have r33 : b.tmps.getD 33 undef = (.bool true) := rd (hT.at 24 (by kernel_rfl) (pre_of hpre 24 (by kernel_rfl)))
      refine op_go hoi (want_all rfl) fun K hK => ?_
      clear hT hpre hun hlit hoi
      go_simp
      exact hK _ _ ⟨(), fun _ _ => rfl, rfl, ac0, ac1, bc0, bc1, cc0, cc1, ddc0, ddc1, HB⟩
    · have hlit : (regOps Try.f13 1)[26]? = some ({ dst := some 35, op := Op.load 23 (Operand.tmp 4), type := 23, pos := "law.go:19", after := aft13 (regOps Try.f13 1) 26, guard := some (25, true) }) := by kernel_rfl
      obtain rfl := Option.some.inj (hlit.symm.trans hoi)
      have r4 : b.tmps.getD 4 undef = (.pointer (some ⟨ka, 0, none⟩)) := rd ((hT.old 4 (by kernel_rfl)).trans t4)
      refine op_go hoi (want_yes rfl (d := 34) (by kernel_rfl) (hT.at 25 (by kernel_rfl) (pre_of hpre 25 (by kernel_rfl)))) fun K hK => ?_
      clear hT hpre hun hlit hoi
      go_simp
      exact hK _ _ ⟨(), fun _ _ => rfl, rfl, ac0, ac1, bc0, bc1, cc0, cc1, ddc0, ddc1, HB⟩
    · have hlit : (regOps Try.f13 1)[27]? = some ({ dst := some 36, op := Op.load 23 (Operand.tmp 5), type := 23, pos := "law.go:19", after := aft13 (regOps Try.f13 1) 27, guard := some (25, true) }) := by kernel_rfl
      obtain rfl := Option.some.inj (hlit.symm.trans hoi)
      have r5 : b.tmps.getD 5 undef = (.pointer (some ⟨kb, 0, none⟩)) := rd ((hT.old 5 (by kernel_rfl)).trans t5)
      refine op_go hoi (want_yes rfl (d := 34) (by kernel_rfl) (hT.at 25 (by kernel_rfl) (pre_of hpre 25 (by kernel_rfl)))) fun K hK => ?_
      clear hT hpre hun hlit hoi
      go_simp
      exact hK _ _ ⟨(), fun _ _ => rfl, rfl, ac0, ac1, bc0, bc1, cc0, cc1, ddc0, ddc1, HB⟩
    · have hlit : (regOps Try.f13 1)[28]? = some ({ dst := some 37, op := Op.load 23 (Operand.tmp 6), type := 23, pos := "law.go:19", after := aft13 (regOps Try.f13 1) 28, guard := some (25, true) }) := by kernel_rfl
      obtain rfl := Option.some.inj (hlit.symm.trans hoi)
      have r6 : b.tmps.getD 6 undef = (.pointer (some ⟨kc, 0, none⟩)) := rd ((hT.old 6 (by kernel_rfl)).trans t6)
      refine op_go hoi (want_yes rfl (d := 34) (by kernel_rfl) (hT.at 25 (by kernel_rfl) (pre_of hpre 25 (by kernel_rfl)))) fun K hK => ?_
      clear hT hpre hun hlit hoi
      go_simp
      exact hK _ _ ⟨(), fun _ _ => rfl, rfl, ac0, ac1, bc0, bc1, cc0, cc1, ddc0, ddc1, HB⟩
    · have hlit : (regOps Try.f13 1)[29]? = some ({ dst := some 38, op := Op.load 23 (Operand.tmp 7), type := 23, pos := "law.go:19", after := aft13 (regOps Try.f13 1) 29, guard := some (25, true) }) := by kernel_rfl
      obtain rfl := Option.some.inj (hlit.symm.trans hoi)
      have r7 : b.tmps.getD 7 undef = (.pointer (some ⟨kd, 0, none⟩)) := rd ((hT.old 7 (by kernel_rfl)).trans t7)
      refine op_go hoi (want_yes rfl (d := 34) (by kernel_rfl) (hT.at 25 (by kernel_rfl) (pre_of hpre 25 (by kernel_rfl)))) fun K hK => ?_
      clear hT hpre hun hlit hoi
      go_simp
      exact hK _ _ ⟨(), fun _ _ => rfl, rfl, ac0, ac1, bc0, bc1, cc0, cc1, ddc0, ddc1, HB⟩
    · have hlit : (regOps Try.f13 1)[30]? = some ({ dst := some 39, op := Op.call { callee := Callee.value (Operand.func 53), args := #[Operand.tmp 35, Operand.tmp 36, Operand.tmp 37, Operand.tmp 38], argTypes := #[23, 23, 23, 23] }, type := 3, pos := "law.go:19", after := aft13 (regOps Try.f13 1) 30, guard := some (25, true) }) := by kernel_rfl
      obtain rfl := Option.some.inj (hlit.symm.trans hoi)
      have r35 : b.tmps.getD 35 undef = (.agg #[.int .i64 a0, .int .i64 a1]) := rd (hT.at 26 (by kernel_rfl) (pre_of hpre 26 (by kernel_rfl)))
      have r36 : b.tmps.getD 36 undef = (.agg #[.int .i64 b0, .int .i64 b1]) := rd (hT.at 27 (by kernel_rfl) (pre_of hpre 27 (by kernel_rfl)))
      have r37 : b.tmps.getD 37 undef = (.agg #[.int .i64 c0, .int .i64 c1]) := rd (hT.at 28 (by kernel_rfl) (pre_of hpre 28 (by kernel_rfl)))
      have r38 : b.tmps.getD 38 undef = (.agg #[.int .i64 d0, .int .i64 d1]) := rd (hT.at 29 (by kernel_rfl) (pre_of hpre 29 (by kernel_rfl)))
      refine op_go hoi (want_yes rfl (d := 34) (by kernel_rfl) (hT.at 25 (by kernel_rfl) (pre_of hpre 25 (by kernel_rfl)))) fun K hK => ?_
      clear hT hpre hun hlit hoi
      go_simp
      go_at_call 53
      refine (circ53 _ _ _ _ _ _ _ _ _).mono ?_; rintro e w2 ⟨rfl, hb⟩; replace ac0 := ck hb (a := ⟨ka, 0, none⟩) (v := .int .i64 a0) (by go_simp); replace ac1 := ck hb (a := ⟨ka, 1, none⟩) (v := .int .i64 a1) (by go_simp); replace bc0 := ck hb (a := ⟨kb, 0, none⟩) (v := .int .i64 b0) (by go_simp); replace bc1 := ck hb (a := ⟨kb, 1, none⟩) (v := .int .i64 b1) (by go_simp); replace cc0 := ck hb (a := ⟨kc, 0, none⟩) (v := .int .i64 c0) (by go_simp); replace cc1 := ck hb (a := ⟨kc, 1, none⟩) (v := .int .i64 c1) (by go_simp); replace ddc0 := ck hb (a := ⟨kd, 0, none⟩) (v := .int .i64 d0) (by go_simp); replace ddc1 := ck hb (a := ⟨kd, 1, none⟩) (v := .int .i64 d1) (by go_simp); replace HB : Below W.heap.size W w2 := bt HB hb; clear hb
      exact hK _ _ ⟨(), fun _ _ => rfl, rfl, ac0, ac1, bc0, bc1, cc0, cc1, ddc0, ddc1, HB⟩
    · have hlit : (regOps Try.f13 1)[31]? = some ({ dst := some 40, op := Op.load 23 (Operand.tmp 4), type := 23, pos := "law.go:19", after := aft13 (regOps Try.f13 1) 31, guard := some (25, true) }) := by kernel_rfl
      obtain rfl := Option.some.inj (hlit.symm.trans hoi)
      have r4 : b.tmps.getD 4 undef = (.pointer (some ⟨ka, 0, none⟩)) := rd ((hT.old 4 (by kernel_rfl)).trans t4)
      refine op_go hoi (want_yes rfl (d := 34) (by kernel_rfl) (hT.at 25 (by kernel_rfl) (pre_of hpre 25 (by kernel_rfl)))) fun K hK => ?_
      clear hT hpre hun hlit hoi
      go_simp
      exact hK _ _ ⟨(), fun _ _ => rfl, rfl, ac0, ac1, bc0, bc1, cc0, cc1, ddc0, ddc1, HB⟩
    · have hlit : (regOps Try.f13 1)[32]? = some ({ dst := some 41, op := Op.load 23 (Operand.tmp 5), type := 23, pos := "law.go:19", after := aft13 (regOps Try.f13 1) 32, guard := some (25, true) }) := by kernel_rfl
      obtain rfl := Option.some.inj (hlit.symm.trans hoi)
      have r5 : b.tmps.getD 5 undef = (.pointer (some ⟨kb, 0, none⟩)) := rd ((hT.old 5 (by kernel_rfl)).trans t5)
      refine op_go hoi (want_yes rfl (d := 34) (by kernel_rfl) (hT.at 25 (by kernel_rfl) (pre_of hpre 25 (by kernel_rfl)))) fun K hK => ?_
      clear hT hpre hun hlit hoi
      go_simp
      exact hK _ _ ⟨(), fun _ _ => rfl, rfl, ac0, ac1, bc0, bc1, cc0, cc1, ddc0, ddc1, HB⟩
    · have hlit : (regOps Try.f13 1)[33]? = some ({ dst := some 42, op := Op.load 23 (Operand.tmp 6), type := 23, pos := "law.go:19", after := aft13 (regOps Try.f13 1) 33, guard := some (25, true) }) := by kernel_rfl
      obtain rfl := Option.some.inj (hlit.symm.trans hoi)
      have r6 : b.tmps.getD 6 undef = (.pointer (some ⟨kc, 0, none⟩)) := rd ((hT.old 6 (by kernel_rfl)).trans t6)
      refine op_go hoi (want_yes rfl (d := 34) (by kernel_rfl) (hT.at 25 (by kernel_rfl) (pre_of hpre 25 (by kernel_rfl)))) fun K hK => ?_
      clear hT hpre hun hlit hoi
      go_simp
      exact hK _ _ ⟨(), fun _ _ => rfl, rfl, ac0, ac1, bc0, bc1, cc0, cc1, ddc0, ddc1, HB⟩
    · have hlit : (regOps Try.f13 1)[34]? = some ({ dst := some 43, op := Op.load 23 (Operand.tmp 7), type := 23, pos := "law.go:19", after := aft13 (regOps Try.f13 1) 34, guard := some (25, true) }) := by kernel_rfl
      obtain rfl := Option.some.inj (hlit.symm.trans hoi)
      have r7 : b.tmps.getD 7 undef = (.pointer (some ⟨kd, 0, none⟩)) := rd ((hT.old 7 (by kernel_rfl)).trans t7)
      refine op_go hoi (want_yes rfl (d := 34) (by kernel_rfl) (hT.at 25 (by kernel_rfl) (pre_of hpre 25 (by kernel_rfl)))) fun K hK => ?_
      clear hT hpre hun hlit hoi
      go_simp
      exact hK _ _ ⟨(), fun _ _ => rfl, rfl, ac0, ac1, bc0, bc1, cc0, cc1, ddc0, ddc1, HB⟩
    · have hlit : (regOps Try.f13 1)[35]? = some ({ dst := some 44, op := Op.call { callee := Callee.value (Operand.func 54), args := #[Operand.tmp 40, Operand.tmp 41, Operand.tmp 42, Operand.tmp 43], argTypes := #[23, 23, 23, 23] }, type := 3, pos := "law.go:19", after := aft13 (regOps Try.f13 1) 35, guard := some (25, true) }) := by kernel_rfl
      obtain rfl := Option.some.inj (hlit.symm.trans hoi)
      have r40 : b.tmps.getD 40 undef = (.agg #[.int .i64 a0, .int .i64 a1]) := rd (hT.at 31 (by kernel_rfl) (pre_of hpre 31 (by kernel_rfl)))
      have r41 : b.tmps.getD 41 undef = (.agg #[.int .i64 b0, .int .i64 b1]) := rd (hT.at 32 (by kernel_rfl) (pre_of hpre 32 (by kernel_rfl)))
      have r42 : b.tmps.getD 42 undef = (.agg #[.int .i64 c0, .int .i64 c1]) := rd (hT.at 33 (by kernel_rfl) (pre_of hpre 33 (by kernel_rfl)))
      have r43 : b.tmps.getD 43 undef = (.agg #[.int .i64 d0, .int .i64 d1]) := rd (hT.at 34 (by kernel_rfl) (pre_of hpre 34 (by kernel_rfl)))
      refine op_go hoi (want_yes rfl (d := 34) (by kernel_rfl) (hT.at 25 (by kernel_rfl) (pre_of hpre 25 (by kernel_rfl)))) fun K hK => ?_
      clear hT hpre hun hlit hoi
      go_simp
      go_at_call 54
      refine (circ54 _ _ _ _ _ _ _ _ _).mono ?_; rintro e w2 ⟨rfl, hb⟩; replace ac0 := ck hb (a := ⟨ka, 0, none⟩) (v := .int .i64 a0) (by go_simp); replace ac1 := ck hb (a := ⟨ka, 1, none⟩) (v := .int .i64 a1) (by go_simp); replace bc0 := ck hb (a := ⟨kb, 0, none⟩) (v := .int .i64 b0) (by go_simp); replace bc1 := ck hb (a := ⟨kb, 1, none⟩) (v := .int .i64 b1) (by go_simp); replace cc0 := ck hb (a := ⟨kc, 0, none⟩) (v := .int .i64 c0) (by go_simp); replace cc1 := ck hb (a := ⟨kc, 1, none⟩) (v := .int .i64 c1) (by go_simp); replace ddc0 := ck hb (a := ⟨kd, 0, none⟩) (v := .int .i64 d0) (by go_simp); replace ddc1 := ck hb (a := ⟨kd, 1, none⟩) (v := .int .i64 d1) (by go_simp); replace HB : Below W.heap.size W w2 := bt HB hb; clear hb
      exact hK _ _ ⟨(), fun _ _ => rfl, rfl, ac0, ac1, bc0, bc1, cc0, cc1, ddc0, ddc1, HB⟩
    · have hlit : (regOps Try.f13 1)[36]? = some ({ dst := some 45, op := Op.binOp BinOp.eql 3 (Operand.tmp 39) (Operand.tmp 44) 3, type := 4, pos := "law.go:19", after := aft13 (regOps Try.f13 1) 36, guard := some (25, true) }) := by kernel_rfl
      obtain rfl := Option.some.inj (hlit.symm.trans hoi)
      have r39 : b.tmps.getD 39 undef = (.int .i64 (circ ⟨a0, a1⟩ ⟨b0, b1⟩ ⟨c0, c1⟩ ⟨d0, d1⟩)) := rd (hT.at 30 (by kernel_rfl) (pre_of hpre 30 (by kernel_rfl)))
      have r44 : b.tmps.getD 44 undef = (.int .i64 (circ ⟨a0, a1⟩ ⟨b0, b1⟩ ⟨c0, c1⟩ ⟨d0, d1⟩)) := rd (hT.at 35 (by kernel_rfl) (pre_of hpre 35 (by kernel_rfl)))
      refine op_go hoi (want_yes rfl (d := 34) (by kernel_rfl) (hT.at 25 (by kernel_rfl) (pre_of hpre 25 (by kernel_rfl)))) fun K hK => ?_
      clear hT hpre hun hlit hoi
      go_simp
      exact hK _ _ ⟨(), fun _ _ => rfl, rfl, ac0, ac1, bc0, bc1, cc0, cc1, ddc0, ddc1, HB⟩
    · have hlit : (regOps Try.f13 1)[37]? = some ({ dst := some 46, op := Op.pick (Operand.tmp 34) (Operand.tmp 45) (Operand.const (Value.bool false)), type := 4, pos := "law.go:19", after := aft13 (regOps Try.f13 1) 37, guard := none }) := by kernel_rfl
      obtain rfl := Option.some.inj (hlit.symm.trans hoi)
      have r34 : b.tmps.getD 34 undef = (.bool true) := rd (hT.at 25 (by kernel_rfl) (pre_of hpre 25 (by kernel_rfl)))
      have r45 : b.tmps.getD 45 undef = (.bool true) := rd (hT.at 36 (by kernel_rfl) (pre_of hpre 36 (by kernel_rfl)))
      refine op_go hoi (want_all rfl) fun K hK => ?_
      clear hT hpre hun hlit hoi
      go_simp
      exact hK _ _ ⟨(), fun _ _ => rfl, rfl, ac0, ac1, bc0, bc1, cc0, cc1, ddc0, ddc1, HB⟩
    · have hlit : (regOps Try.f13 1)[38]? = some ({ dst := some 47, op := Op.move (Operand.tmp 46), type := 4, pos := "law.go:19", after := aft13 (regOps Try.f13 1) 38, guard := none }) := by kernel_rfl
      obtain rfl := Option.some.inj (hlit.symm.trans hoi)
      have r46 : b.tmps.getD 46 undef = (.bool true) := rd (hT.at 37 (by kernel_rfl) (pre_of hpre 37 (by kernel_rfl)))
      refine op_go hoi (want_all rfl) fun K hK => ?_
      clear hT hpre hun hlit hoi
      go_simp
      exact hK _ _ ⟨(), fun _ _ => rfl, rfl, ac0, ac1, bc0, bc1, cc0, cc1, ddc0, ddc1, HB⟩
    · have hlit : (regOps Try.f13 1)[39]? = some ({ dst := some 48, op := Op.load 23 (Operand.tmp 4), type := 23, pos := "law.go:19", after := aft13 (regOps Try.f13 1) 39, guard := some (38, true) }) := by kernel_rfl
      obtain rfl := Option.some.inj (hlit.symm.trans hoi)
      have r4 : b.tmps.getD 4 undef = (.pointer (some ⟨ka, 0, none⟩)) := rd ((hT.old 4 (by kernel_rfl)).trans t4)
      refine op_go hoi (want_yes rfl (d := 47) (by kernel_rfl) (hT.at 38 (by kernel_rfl) (pre_of hpre 38 (by kernel_rfl)))) fun K hK => ?_
      clear hT hpre hun hlit hoi
      go_simp
      exact hK _ _ ⟨(), fun _ _ => rfl, rfl, ac0, ac1, bc0, bc1, cc0, cc1, ddc0, ddc1, HB⟩
    · have hlit : (regOps Try.f13 1)[40]? = some ({ dst := some 49, op := Op.load 23 (Operand.tmp 5), type := 23, pos := "law.go:19", after := aft13 (regOps Try.f13 1) 40, guard := some (38, true) }) := by kernel_rfl
      obtain rfl := Option.some.inj (hlit.symm.trans hoi)
      have r5 : b.tmps.getD 5 undef = (.pointer (some ⟨kb, 0, none⟩)) := rd ((hT.old 5 (by kernel_rfl)).trans t5)
      refine op_go hoi (want_yes rfl (d := 47) (by kernel_rfl) (hT.at 38 (by kernel_rfl) (pre_of hpre 38 (by kernel_rfl)))) fun K hK => ?_
      clear hT hpre hun hlit hoi
      go_simp
      exact hK _ _ ⟨(), fun _ _ => rfl, rfl, ac0, ac1, bc0, bc1, cc0, cc1, ddc0, ddc1, HB⟩
    · have hlit : (regOps Try.f13 1)[41]? = some ({ dst := some 50, op := Op.load 23 (Operand.tmp 6), type := 23, pos := "law.go:19", after := aft13 (regOps Try.f13 1) 41, guard := some (38, true) }) := by kernel_rfl
      obtain rfl := Option.some.inj (hlit.symm.trans hoi)
      have r6 : b.tmps.getD 6 undef = (.pointer (some ⟨kc, 0, none⟩)) := rd ((hT.old 6 (by kernel_rfl)).trans t6)
      refine op_go hoi (want_yes rfl (d := 47) (by kernel_rfl) (hT.at 38 (by kernel_rfl) (pre_of hpre 38 (by kernel_rfl)))) fun K hK => ?_
      clear hT hpre hun hlit hoi
      go_simp
      exact hK _ _ ⟨(), fun _ _ => rfl, rfl, ac0, ac1, bc0, bc1, cc0, cc1, ddc0, ddc1, HB⟩
    · have hlit : (regOps Try.f13 1)[42]? = some ({ dst := some 51, op := Op.call { callee := Callee.value (Operand.func 55), args := #[Operand.tmp 48, Operand.tmp 49, Operand.tmp 50], argTypes := #[23, 23, 23] }, type := 4, pos := "law.go:19", after := aft13 (regOps Try.f13 1) 42, guard := some (38, true) }) := by kernel_rfl
      obtain rfl := Option.some.inj (hlit.symm.trans hoi)
      have r48 : b.tmps.getD 48 undef = (.agg #[.int .i64 a0, .int .i64 a1]) := rd (hT.at 39 (by kernel_rfl) (pre_of hpre 39 (by kernel_rfl)))
      have r49 : b.tmps.getD 49 undef = (.agg #[.int .i64 b0, .int .i64 b1]) := rd (hT.at 40 (by kernel_rfl) (pre_of hpre 40 (by kernel_rfl)))
      have r50 : b.tmps.getD 50 undef = (.agg #[.int .i64 c0, .int .i64 c1]) := rd (hT.at 41 (by kernel_rfl) (pre_of hpre 41 (by kernel_rfl)))
      refine op_go hoi (want_yes rfl (d := 47) (by kernel_rfl) (hT.at 38 (by kernel_rfl) (pre_of hpre 38 (by kernel_rfl)))) fun K hK => ?_
      clear hT hpre hun hlit hoi
      go_simp
      go_at_call 55
      refine (on55 _ _ _ _ _ _ _).mono ?_; rintro e w2 ⟨rfl, hb⟩; replace ac0 := ck hb (a := ⟨ka, 0, none⟩) (v := .int .i64 a0) (by go_simp); replace ac1 := ck hb (a := ⟨ka, 1, none⟩) (v := .int .i64 a1) (by go_simp); replace bc0 := ck hb (a := ⟨kb, 0, none⟩) (v := .int .i64 b0) (by go_simp); replace bc1 := ck hb (a := ⟨kb, 1, none⟩) (v := .int .i64 b1) (by go_simp); replace cc0 := ck hb (a := ⟨kc, 0, none⟩) (v := .int .i64 c0) (by go_simp); replace cc1 := ck hb (a := ⟨kc, 1, none⟩) (v := .int .i64 c1) (by go_simp); replace ddc0 := ck hb (a := ⟨kd, 0, none⟩) (v := .int .i64 d0) (by go_simp); replace ddc1 := ck hb (a := ⟨kd, 1, none⟩) (v := .int .i64 d1) (by go_simp); replace HB : Below W.heap.size W w2 := bt HB hb; clear hb
      exact hK _ _ ⟨(), fun _ _ => rfl, rfl, ac0, ac1, bc0, bc1, cc0, cc1, ddc0, ddc1, HB⟩
    · have hlit : (regOps Try.f13 1)[43]? = some ({ dst := some 52, op := Op.load 23 (Operand.tmp 4), type := 23, pos := "law.go:19", after := aft13 (regOps Try.f13 1) 43, guard := some (38, true) }) := by kernel_rfl
      obtain rfl := Option.some.inj (hlit.symm.trans hoi)
      have r4 : b.tmps.getD 4 undef = (.pointer (some ⟨ka, 0, none⟩)) := rd ((hT.old 4 (by kernel_rfl)).trans t4)
      refine op_go hoi (want_yes rfl (d := 47) (by kernel_rfl) (hT.at 38 (by kernel_rfl) (pre_of hpre 38 (by kernel_rfl)))) fun K hK => ?_
      clear hT hpre hun hlit hoi
      go_simp
      exact hK _ _ ⟨(), fun _ _ => rfl, rfl, ac0, ac1, bc0, bc1, cc0, cc1, ddc0, ddc1, HB⟩
    · have hlit : (regOps Try.f13 1)[44]? = some ({ dst := some 53, op := Op.load 23 (Operand.tmp 5), type := 23, pos := "law.go:19", after := aft13 (regOps Try.f13 1) 44, guard := some (38, true) }) := by kernel_rfl
      obtain rfl := Option.some.inj (hlit.symm.trans hoi)
      have r5 : b.tmps.getD 5 undef = (.pointer (some ⟨kb, 0, none⟩)) := rd ((hT.old 5 (by kernel_rfl)).trans t5)
      refine op_go hoi (want_yes rfl (d := 47) (by kernel_rfl) (hT.at 38 (by kernel_rfl) (pre_of hpre 38 (by kernel_rfl)))) fun K hK => ?_
      clear hT hpre hun hlit hoi
      go_simp
      exact hK _ _ ⟨(), fun _ _ => rfl, rfl, ac0, ac1, bc0, bc1, cc0, cc1, ddc0, ddc1, HB⟩
    · have hlit : (regOps Try.f13 1)[45]? = some ({ dst := some 54, op := Op.load 23 (Operand.tmp 6), type := 23, pos := "law.go:19", after := aft13 (regOps Try.f13 1) 45, guard := some (38, true) }) := by kernel_rfl
      obtain rfl := Option.some.inj (hlit.symm.trans hoi)
      have r6 : b.tmps.getD 6 undef = (.pointer (some ⟨kc, 0, none⟩)) := rd ((hT.old 6 (by kernel_rfl)).trans t6)
      refine op_go hoi (want_yes rfl (d := 47) (by kernel_rfl) (hT.at 38 (by kernel_rfl) (pre_of hpre 38 (by kernel_rfl)))) fun K hK => ?_
      clear hT hpre hun hlit hoi
      go_simp
      exact hK _ _ ⟨(), fun _ _ => rfl, rfl, ac0, ac1, bc0, bc1, cc0, cc1, ddc0, ddc1, HB⟩
    · have hlit : (regOps Try.f13 1)[46]? = some ({ dst := some 55, op := Op.call { callee := Callee.value (Operand.func 40), args := #[Operand.tmp 52, Operand.tmp 53, Operand.tmp 54], argTypes := #[23, 23, 23] }, type := 4, pos := "law.go:19", after := aft13 (regOps Try.f13 1) 46, guard := some (38, true) }) := by kernel_rfl
      obtain rfl := Option.some.inj (hlit.symm.trans hoi)
      have r52 : b.tmps.getD 52 undef = (.agg #[.int .i64 a0, .int .i64 a1]) := rd (hT.at 43 (by kernel_rfl) (pre_of hpre 43 (by kernel_rfl)))
      have r53 : b.tmps.getD 53 undef = (.agg #[.int .i64 b0, .int .i64 b1]) := rd (hT.at 44 (by kernel_rfl) (pre_of hpre 44 (by kernel_rfl)))
      have r54 : b.tmps.getD 54 undef = (.agg #[.int .i64 c0, .int .i64 c1]) := rd (hT.at 45 (by kernel_rfl) (pre_of hpre 45 (by kernel_rfl)))
      refine op_go hoi (want_yes rfl (d := 47) (by kernel_rfl) (hT.at 38 (by kernel_rfl) (pre_of hpre 38 (by kernel_rfl)))) fun K hK => ?_
      clear hT hpre hun hlit hoi
      go_simp
      go_at_call 40
      refine (on40 _ _ _ _ _ _ _).mono ?_; rw [h1]; rintro e w2 ⟨rfl, hb⟩; replace ac0 := ck hb (a := ⟨ka, 0, none⟩) (v := .int .i64 a0) (by go_simp); replace ac1 := ck hb (a := ⟨ka, 1, none⟩) (v := .int .i64 a1) (by go_simp); replace bc0 := ck hb (a := ⟨kb, 0, none⟩) (v := .int .i64 b0) (by go_simp); replace bc1 := ck hb (a := ⟨kb, 1, none⟩) (v := .int .i64 b1) (by go_simp); replace cc0 := ck hb (a := ⟨kc, 0, none⟩) (v := .int .i64 c0) (by go_simp); replace cc1 := ck hb (a := ⟨kc, 1, none⟩) (v := .int .i64 c1) (by go_simp); replace ddc0 := ck hb (a := ⟨kd, 0, none⟩) (v := .int .i64 d0) (by go_simp); replace ddc1 := ck hb (a := ⟨kd, 1, none⟩) (v := .int .i64 d1) (by go_simp); replace HB : Below W.heap.size W w2 := bt HB hb; clear hb
      exact hK _ _ ⟨(), fun _ _ => rfl, rfl, ac0, ac1, bc0, bc1, cc0, cc1, ddc0, ddc1, HB⟩
    · have hlit : (regOps Try.f13 1)[47]? = some ({ dst := some 56, op := Op.binOp BinOp.eql 4 (Operand.tmp 51) (Operand.tmp 55) 4, type := 4, pos := "law.go:19", after := aft13 (regOps Try.f13 1) 47, guard := some (38, true) }) := by kernel_rfl
      obtain rfl := Option.some.inj (hlit.symm.trans hoi)
      have r51 : b.tmps.getD 51 undef = (.bool (onE ⟨a0, a1⟩ ⟨b0, b1⟩ ⟨c0, c1⟩)) := rd (hT.at 42 (by kernel_rfl) (pre_of hpre 42 (by kernel_rfl)))
      have r55 : b.tmps.getD 55 undef = (.bool (onE ⟨a0, a1⟩ ⟨b0, b1⟩ ⟨c0, c1⟩)) := rd (hT.at 46 (by kernel_rfl) (pre_of hpre 46 (by kernel_rfl)))
      refine op_go hoi (want_yes rfl (d := 47) (by kernel_rfl) (hT.at 38 (by kernel_rfl) (pre_of hpre 38 (by kernel_rfl)))) fun K hK => ?_
      clear hT hpre hun hlit hoi
      go_simp
      exact hK _ _ ⟨(), fun _ _ => rfl, rfl, ac0, ac1, bc0, bc1, cc0, cc1, ddc0, ddc1, HB⟩
    · have hlit : (regOps Try.f13 1)[48]? = some ({ dst := some 57, op := Op.pick (Operand.tmp 47) (Operand.tmp 56) (Operand.const (Value.bool false)), type := 4, pos := "law.go:19", after := aft13 (regOps Try.f13 1) 48, guard := none }) := by kernel_rfl
      obtain rfl := Option.some.inj (hlit.symm.trans hoi)
      have r47 : b.tmps.getD 47 undef = (.bool true) := rd (hT.at 38 (by kernel_rfl) (pre_of hpre 38 (by kernel_rfl)))
      have r56 : b.tmps.getD 56 undef = (.bool true) := rd (hT.at 47 (by kernel_rfl) (pre_of hpre 47 (by kernel_rfl)))
      refine op_go hoi (want_all rfl) fun K hK => ?_
      clear hT hpre hun hlit hoi
      go_simp
      exact hK _ _ ⟨(), fun _ _ => rfl, rfl, ac0, ac1, bc0, bc1, cc0, cc1, ddc0, ddc1, HB⟩
    · have hlit : (regOps Try.f13 1)[49]? = some ({ dst := some 58, op := Op.move (Operand.tmp 57), type := 4, pos := "law.go:19", after := aft13 (regOps Try.f13 1) 49, guard := none }) := by kernel_rfl
      obtain rfl := Option.some.inj (hlit.symm.trans hoi)
      have r57 : b.tmps.getD 57 undef = (.bool true) := rd (hT.at 48 (by kernel_rfl) (pre_of hpre 48 (by kernel_rfl)))
      refine op_go hoi (want_all rfl) fun K hK => ?_
      clear hT hpre hun hlit hoi
      go_simp
      exact hK _ _ ⟨(), fun _ _ => rfl, rfl, ac0, ac1, bc0, bc1, cc0, cc1, ddc0, ddc1, HB⟩
    · have hlit : (regOps Try.f13 1)[50]? = some ({ dst := some 59, op := Op.load 23 (Operand.tmp 4), type := 23, pos := "law.go:19", after := aft13 (regOps Try.f13 1) 50, guard := some (49, true) }) := by kernel_rfl
      obtain rfl := Option.some.inj (hlit.symm.trans hoi)
      have r4 : b.tmps.getD 4 undef = (.pointer (some ⟨ka, 0, none⟩)) := rd ((hT.old 4 (by kernel_rfl)).trans t4)
      refine op_go hoi (want_yes rfl (d := 58) (by kernel_rfl) (hT.at 49 (by kernel_rfl) (pre_of hpre 49 (by kernel_rfl)))) fun K hK => ?_
      clear hT hpre hun hlit hoi
      go_simp
      exact hK _ _ ⟨(), fun _ _ => rfl, rfl, ac0, ac1, bc0, bc1, cc0, cc1, ddc0, ddc1, HB⟩
    · have hlit : (regOps Try.f13 1)[51]? = some ({ dst := some 60, op := Op.load 23 (Operand.tmp 5), type := 23, pos := "law.go:19", after := aft13 (regOps Try.f13 1) 51, guard := some (49, true) }) := by kernel_rfl
      obtain rfl := Option.some.inj (hlit.symm.trans hoi)
      have r5 : b.tmps.getD 5 undef = (.pointer (some ⟨kb, 0, none⟩)) := rd ((hT.old 5 (by kernel_rfl)).trans t5)
      refine op_go hoi (want_yes rfl (d := 58) (by kernel_rfl) (hT.at 49 (by kernel_rfl) (pre_of hpre 49 (by kernel_rfl)))) fun K hK => ?_
      clear hT hpre hun hlit hoi
      go_simp
      exact hK _ _ ⟨(), fun _ _ => rfl, rfl, ac0, ac1, bc0, bc1, cc0, cc1, ddc0, ddc1, HB⟩
    · have hlit : (regOps Try.f13 1)[52]? = some ({ dst := some 61, op := Op.load 23 (Operand.tmp 6), type := 23, pos := "law.go:19", after := aft13 (regOps Try.f13 1) 52, guard := some (49, true) }) := by kernel_rfl
      obtain rfl := Option.some.inj (hlit.symm.trans hoi)
      have r6 : b.tmps.getD 6 undef = (.pointer (some ⟨kc, 0, none⟩)) := rd ((hT.old 6 (by kernel_rfl)).trans t6)
      refine op_go hoi (want_yes rfl (d := 58) (by kernel_rfl) (hT.at 49 (by kernel_rfl) (pre_of hpre 49 (by kernel_rfl)))) fun K hK => ?_
      clear hT hpre hun hlit hoi
      go_simp
      exact hK _ _ ⟨(), fun _ _ => rfl, rfl, ac0, ac1, bc0, bc1, cc0, cc1, ddc0, ddc1, HB⟩
    · have hlit : (regOps Try.f13 1)[53]? = some ({ dst := some 62, op := Op.load 23 (Operand.tmp 7), type := 23, pos := "law.go:19", after := aft13 (regOps Try.f13 1) 53, guard := some (49, true) }) := by kernel_rfl
      obtain rfl := Option.some.inj (hlit.symm.trans hoi)
      have r7 : b.tmps.getD 7 undef = (.pointer (some ⟨kd, 0, none⟩)) := rd ((hT.old 7 (by kernel_rfl)).trans t7)
      refine op_go hoi (want_yes rfl (d := 58) (by kernel_rfl) (hT.at 49 (by kernel_rfl) (pre_of hpre 49 (by kernel_rfl)))) fun K hK => ?_
      clear hT hpre hun hlit hoi
      go_simp
      exact hK _ _ ⟨(), fun _ _ => rfl, rfl, ac0, ac1, bc0, bc1, cc0, cc1, ddc0, ddc1, HB⟩
    · have hlit : (regOps Try.f13 1)[54]? = some ({ dst := some 63, op := Op.call { callee := Callee.value (Operand.func 56), args := #[Operand.tmp 59, Operand.tmp 60, Operand.tmp 61, Operand.tmp 62], argTypes := #[23, 23, 23, 23] }, type := 3, pos := "law.go:19", after := aft13 (regOps Try.f13 1) 54, guard := some (49, true) }) := by kernel_rfl
      obtain rfl := Option.some.inj (hlit.symm.trans hoi)
      have r59 : b.tmps.getD 59 undef = (.agg #[.int .i64 a0, .int .i64 a1]) := rd (hT.at 50 (by kernel_rfl) (pre_of hpre 50 (by kernel_rfl)))
      have r60 : b.tmps.getD 60 undef = (.agg #[.int .i64 b0, .int .i64 b1]) := rd (hT.at 51 (by kernel_rfl) (pre_of hpre 51 (by kernel_rfl)))
      have r61 : b.tmps.getD 61 undef = (.agg #[.int .i64 c0, .int .i64 c1]) := rd (hT.at 52 (by kernel_rfl) (pre_of hpre 52 (by kernel_rfl)))
      have r62 : b.tmps.getD 62 undef = (.agg #[.int .i64 d0, .int .i64 d1]) := rd (hT.at 53 (by kernel_rfl) (pre_of hpre 53 (by kernel_rfl)))
      refine op_go hoi (want_yes rfl (d := 58) (by kernel_rfl) (hT.at 49 (by kernel_rfl) (pre_of hpre 49 (by kernel_rfl)))) fun K hK => ?_
      clear hT hpre hun hlit hoi
      go_simp
      go_at_call 56
      refine (meet56 _ _ _ _ _ _ _ _ _).mono ?_; rintro e w2 ⟨rfl, hb⟩; replace ac0 := ck hb (a := ⟨ka, 0, none⟩) (v := .int .i64 a0) (by go_simp); replace ac1 := ck hb (a := ⟨ka, 1, none⟩) (v := .int .i64 a1) (by go_simp); replace bc0 := ck hb (a := ⟨kb, 0, none⟩) (v := .int .i64 b0) (by go_simp); replace bc1 := ck hb (a := ⟨kb, 1, none⟩) (v := .int .i64 b1) (by go_simp); replace cc0 := ck hb (a := ⟨kc, 0, none⟩) (v := .int .i64 c0) (by go_simp); replace cc1 := ck hb (a := ⟨kc, 1, none⟩) (v := .int .i64 c1) (by go_simp); replace ddc0 := ck hb (a := ⟨kd, 0, none⟩) (v := .int .i64 d0) (by go_simp); replace ddc1 := ck hb (a := ⟨kd, 1, none⟩) (v := .int .i64 d1) (by go_simp); replace HB : Below W.heap.size W w2 := bt HB hb; clear hb
      exact hK _ _ ⟨(), fun _ _ => rfl, rfl, ac0, ac1, bc0, bc1, cc0, cc1, ddc0, ddc1, HB⟩
    · have hlit : (regOps Try.f13 1)[55]? = some ({ dst := some 64, op := Op.load 23 (Operand.tmp 4), type := 23, pos := "law.go:19", after := aft13 (regOps Try.f13 1) 55, guard := some (49, true) }) := by kernel_rfl
      obtain rfl := Option.some.inj (hlit.symm.trans hoi)
      have r4 : b.tmps.getD 4 undef = (.pointer (some ⟨ka, 0, none⟩)) := rd ((hT.old 4 (by kernel_rfl)).trans t4)
      refine op_go hoi (want_yes rfl (d := 58) (by kernel_rfl) (hT.at 49 (by kernel_rfl) (pre_of hpre 49 (by kernel_rfl)))) fun K hK => ?_
      clear hT hpre hun hlit hoi
      go_simp
      exact hK _ _ ⟨(), fun _ _ => rfl, rfl, ac0, ac1, bc0, bc1, cc0, cc1, ddc0, ddc1, HB⟩
    · have hlit : (regOps Try.f13 1)[56]? = some ({ dst := some 65, op := Op.load 23 (Operand.tmp 5), type := 23, pos := "law.go:19", after := aft13 (regOps Try.f13 1) 56, guard := some (49, true) }) := by kernel_rfl
      obtain rfl := Option.some.inj (hlit.symm.trans hoi)
      have r5 : b.tmps.getD 5 undef = (.pointer (some ⟨kb, 0, none⟩)) := rd ((hT.old 5 (by kernel_rfl)).trans t5)
      refine op_go hoi (want_yes rfl (d := 58) (by kernel_rfl) (hT.at 49 (by kernel_rfl) (pre_of hpre 49 (by kernel_rfl)))) fun K hK => ?_
      clear hT hpre hun hlit hoi
      go_simp
      exact hK _ _ ⟨(), fun _ _ => rfl, rfl, ac0, ac1, bc0, bc1, cc0, cc1, ddc0, ddc1, HB⟩
    · have hlit : (regOps Try.f13 1)[57]? = some ({ dst := some 66, op := Op.load 23 (Operand.tmp 6), type := 23, pos := "law.go:19", after := aft13 (regOps Try.f13 1) 57, guard := some (49, true) }) := by kernel_rfl
      obtain rfl := Option.some.inj (hlit.symm.trans hoi)
      have r6 : b.tmps.getD 6 undef = (.pointer (some ⟨kc, 0, none⟩)) := rd ((hT.old 6 (by kernel_rfl)).trans t6)
      refine op_go hoi (want_yes rfl (d := 58) (by kernel_rfl) (hT.at 49 (by kernel_rfl) (pre_of hpre 49 (by kernel_rfl)))) fun K hK => ?_
      clear hT hpre hun hlit hoi
      go_simp
      exact hK _ _ ⟨(), fun _ _ => rfl, rfl, ac0, ac1, bc0, bc1, cc0, cc1, ddc0, ddc1, HB⟩
    · have hlit : (regOps Try.f13 1)[58]? = some ({ dst := some 67, op := Op.load 23 (Operand.tmp 7), type := 23, pos := "law.go:19", after := aft13 (regOps Try.f13 1) 58, guard := some (49, true) }) := by kernel_rfl
      obtain rfl := Option.some.inj (hlit.symm.trans hoi)
      have r7 : b.tmps.getD 7 undef = (.pointer (some ⟨kd, 0, none⟩)) := rd ((hT.old 7 (by kernel_rfl)).trans t7)
      refine op_go hoi (want_yes rfl (d := 58) (by kernel_rfl) (hT.at 49 (by kernel_rfl) (pre_of hpre 49 (by kernel_rfl)))) fun K hK => ?_
      clear hT hpre hun hlit hoi
      go_simp
      exact hK _ _ ⟨(), fun _ _ => rfl, rfl, ac0, ac1, bc0, bc1, cc0, cc1, ddc0, ddc1, HB⟩
    · have hlit : (regOps Try.f13 1)[59]? = some ({ dst := some 68, op := Op.call { callee := Callee.value (Operand.func 57), args := #[Operand.tmp 64, Operand.tmp 65, Operand.tmp 66, Operand.tmp 67], argTypes := #[23, 23, 23, 23] }, type := 3, pos := "law.go:19", after := aft13 (regOps Try.f13 1) 59, guard := some (49, true) }) := by kernel_rfl
      obtain rfl := Option.some.inj (hlit.symm.trans hoi)
      have r64 : b.tmps.getD 64 undef = (.agg #[.int .i64 a0, .int .i64 a1]) := rd (hT.at 55 (by kernel_rfl) (pre_of hpre 55 (by kernel_rfl)))
      have r65 : b.tmps.getD 65 undef = (.agg #[.int .i64 b0, .int .i64 b1]) := rd (hT.at 56 (by kernel_rfl) (pre_of hpre 56 (by kernel_rfl)))
      have r66 : b.tmps.getD 66 undef = (.agg #[.int .i64 c0, .int .i64 c1]) := rd (hT.at 57 (by kernel_rfl) (pre_of hpre 57 (by kernel_rfl)))
      have r67 : b.tmps.getD 67 undef = (.agg #[.int .i64 d0, .int .i64 d1]) := rd (hT.at 58 (by kernel_rfl) (pre_of hpre 58 (by kernel_rfl)))
      refine op_go hoi (want_yes rfl (d := 58) (by kernel_rfl) (hT.at 49 (by kernel_rfl) (pre_of hpre 49 (by kernel_rfl)))) fun K hK => ?_
      clear hT hpre hun hlit hoi
      go_simp
      go_at_call 57
      refine (meet57 _ _ _ _ _ _ _ _ _).mono ?_; rw [h2]; rintro e w2 ⟨rfl, hb⟩; replace ac0 := ck hb (a := ⟨ka, 0, none⟩) (v := .int .i64 a0) (by go_simp); replace ac1 := ck hb (a := ⟨ka, 1, none⟩) (v := .int .i64 a1) (by go_simp); replace bc0 := ck hb (a := ⟨kb, 0, none⟩) (v := .int .i64 b0) (by go_simp); replace bc1 := ck hb (a := ⟨kb, 1, none⟩) (v := .int .i64 b1) (by go_simp); replace cc0 := ck hb (a := ⟨kc, 0, none⟩) (v := .int .i64 c0) (by go_simp); replace cc1 := ck hb (a := ⟨kc, 1, none⟩) (v := .int .i64 c1) (by go_simp); replace ddc0 := ck hb (a := ⟨kd, 0, none⟩) (v := .int .i64 d0) (by go_simp); replace ddc1 := ck hb (a := ⟨kd, 1, none⟩) (v := .int .i64 d1) (by go_simp); replace HB : Below W.heap.size W w2 := bt HB hb; clear hb
      exact hK _ _ ⟨(), fun _ _ => rfl, rfl, ac0, ac1, bc0, bc1, cc0, cc1, ddc0, ddc1, HB⟩
    · have hlit : (regOps Try.f13 1)[60]? = some ({ dst := some 69, op := Op.binOp BinOp.eql 3 (Operand.tmp 63) (Operand.tmp 68) 3, type := 4, pos := "law.go:19", after := aft13 (regOps Try.f13 1) 60, guard := some (49, true) }) := by kernel_rfl
      obtain rfl := Option.some.inj (hlit.symm.trans hoi)
      have r63 : b.tmps.getD 63 undef = (.int .i64 (meet ⟨a0, a1⟩ ⟨b0, b1⟩ ⟨c0, c1⟩ ⟨d0, d1⟩)) := rd (hT.at 54 (by kernel_rfl) (pre_of hpre 54 (by kernel_rfl)))
      have r68 : b.tmps.getD 68 undef = (.int .i64 (meet ⟨a0, a1⟩ ⟨b0, b1⟩ ⟨c0, c1⟩ ⟨d0, d1⟩)) := rd (hT.at 59 (by kernel_rfl) (pre_of hpre 59 (by kernel_rfl)))
      refine op_go hoi (want_yes rfl (d := 58) (by kernel_rfl) (hT.at 49 (by kernel_rfl) (pre_of hpre 49 (by kernel_rfl)))) fun K hK => ?_
      clear hT hpre hun hlit hoi
      go_simp
      exact hK _ _ ⟨(), fun _ _ => rfl, rfl, ac0, ac1, bc0, bc1, cc0, cc1, ddc0, ddc1, HB⟩
    · have hlit : (regOps Try.f13 1)[61]? = some ({ dst := some 70, op := Op.pick (Operand.tmp 58) (Operand.tmp 69) (Operand.const (Value.bool false)), type := 4, pos := "law.go:19", after := aft13 (regOps Try.f13 1) 61, guard := none }) := by kernel_rfl
      obtain rfl := Option.some.inj (hlit.symm.trans hoi)
      have r58 : b.tmps.getD 58 undef = (.bool true) := rd (hT.at 49 (by kernel_rfl) (pre_of hpre 49 (by kernel_rfl)))
      have r69 : b.tmps.getD 69 undef = (.bool true) := rd (hT.at 60 (by kernel_rfl) (pre_of hpre 60 (by kernel_rfl)))
      refine op_go hoi (want_all rfl) fun K hK => ?_
      clear hT hpre hun hlit hoi
      go_simp
      exact hK _ _ ⟨(), fun _ _ => rfl, rfl, ac0, ac1, bc0, bc1, cc0, cc1, ddc0, ddc1, HB⟩
    · have hlit : (regOps Try.f13 1)[62]? = some ({ dst := some 71, op := Op.move (Operand.tmp 70), type := 4, pos := "law.go:19", after := aft13 (regOps Try.f13 1) 62, guard := none }) := by kernel_rfl
      obtain rfl := Option.some.inj (hlit.symm.trans hoi)
      have r70 : b.tmps.getD 70 undef = (.bool true) := rd (hT.at 61 (by kernel_rfl) (pre_of hpre 61 (by kernel_rfl)))
      refine op_go hoi (want_all rfl) fun K hK => ?_
      clear hT hpre hun hlit hoi
      go_simp
      exact hK _ _ ⟨(), fun _ _ => rfl, rfl, ac0, ac1, bc0, bc1, cc0, cc1, ddc0, ddc1, HB⟩
    · have hlit : (regOps Try.f13 1)[63]? = some ({ dst := some 72, op := Op.call { callee := Callee.value (Operand.func 58), args := #[], argTypes := #[] }, type := 4, pos := "law.go:19", after := aft13 (regOps Try.f13 1) 63, guard := some (62, true) }) := by kernel_rfl
      obtain rfl := Option.some.inj (hlit.symm.trans hoi)
      refine op_go hoi (want_yes rfl (d := 71) (by kernel_rfl) (hT.at 62 (by kernel_rfl) (pre_of hpre 62 (by kernel_rfl)))) fun K hK => ?_
      clear hT hpre hun hlit hoi
      go_simp
      go_at_call 58
      refine (awake58 _).mono ?_; rintro e w2 ⟨rfl, hb⟩; replace ac0 := ck hb (a := ⟨ka, 0, none⟩) (v := .int .i64 a0) (by go_simp); replace ac1 := ck hb (a := ⟨ka, 1, none⟩) (v := .int .i64 a1) (by go_simp); replace bc0 := ck hb (a := ⟨kb, 0, none⟩) (v := .int .i64 b0) (by go_simp); replace bc1 := ck hb (a := ⟨kb, 1, none⟩) (v := .int .i64 b1) (by go_simp); replace cc0 := ck hb (a := ⟨kc, 0, none⟩) (v := .int .i64 c0) (by go_simp); replace cc1 := ck hb (a := ⟨kc, 1, none⟩) (v := .int .i64 c1) (by go_simp); replace ddc0 := ck hb (a := ⟨kd, 0, none⟩) (v := .int .i64 d0) (by go_simp); replace ddc1 := ck hb (a := ⟨kd, 1, none⟩) (v := .int .i64 d1) (by go_simp); replace HB : Below W.heap.size W w2 := bt HB hb; clear hb
      exact hK _ _ ⟨(), fun _ _ => rfl, rfl, ac0, ac1, bc0, bc1, cc0, cc1, ddc0, ddc1, HB⟩
    · have hlit : (regOps Try.f13 1)[64]? = some ({ dst := some 73, op := Op.pick (Operand.tmp 71) (Operand.tmp 72) (Operand.const (Value.bool false)), type := 4, pos := "law.go:19", after := aft13 (regOps Try.f13 1) 64, guard := none }) := by kernel_rfl
      obtain rfl := Option.some.inj (hlit.symm.trans hoi)
      have r71 : b.tmps.getD 71 undef = (.bool true) := rd (hT.at 62 (by kernel_rfl) (pre_of hpre 62 (by kernel_rfl)))
      have r72 : b.tmps.getD 72 undef = (.bool true) := rd (hT.at 63 (by kernel_rfl) (pre_of hpre 63 (by kernel_rfl)))
      refine op_go hoi (want_all rfl) fun K hK => ?_
      clear hT hpre hun hlit hoi
      go_simp
      exact hK _ _ ⟨(), fun _ _ => rfl, rfl, ac0, ac1, bc0, bc1, cc0, cc1, ddc0, ddc1, HB⟩
    · have hlit : (regOps Try.f13 1)[65]? = some ({ dst := some 8, op := Op.assign (Operand.tmp 73), type := 4, pos := "law.go:19", after := aft13 (regOps Try.f13 1) 65, guard := none }) := by kernel_rfl
      obtain rfl := Option.some.inj (hlit.symm.trans hoi)
      have r73 : b.tmps.getD 73 undef = (.bool true) := rd (hT.at 64 (by kernel_rfl) (pre_of hpre 64 (by kernel_rfl)))
      refine op_go hoi (want_all rfl) fun K hK => ?_
      clear hT hpre hun hlit hoi
      go_simp
      exact hK _ _ ⟨(), fun _ _ => rfl, rfl, ac0, ac1, bc0, bc1, cc0, cc1, ddc0, ddc1, HB⟩
  · intro g b w' hT hS
    rw [hT.all ht]
    have hn : (regOps Try.f13 1).size = 66 := by kernel_rfl
    rw [hn]
    exact he w' hS

set_option maxHeartbeats 4000000 in
set_option maxRecDepth 100000 in
theorem exactTells_walk (a0 a1 b0 b1 c0 c1 d0 d1 : Int) (w : World) :
    Calls Try.prog 13 #[.agg #[.int .i64 a0, .int .i64 a1], .agg #[.int .i64 b0, .int .i64 b1], .agg #[.int .i64 c0, .int .i64 c1], .agg #[.int .i64 d0, .int .i64 d1]] w fun e w' => e = .returned (.bool true) ∧ Below w.heap.size w w' := by
  have h1 := (onE_onS ⟨a0, a1⟩ ⟨b0, b1⟩ ⟨c0, c1⟩).symm
  have h2 := meet_meetR ⟨a0, a1⟩ ⟨b0, b1⟩ ⟨c0, c1⟩ ⟨d0, d1⟩
  have HB := Below.refl w.heap.size w
  go_enter Try.func13, Try.ntmps13
  go_wp2_with fail
  refine region13 a0 a1 b0 b1 c0 c1 d0 d1 w.heap.size (w.heap.size + 1) (w.heap.size + 1 + 1) (w.heap.size + 1 + 1 + 1) w h1 h2 (by kernel_rfl) rfl rfl rfl rfl rfl ⟨?_, ?_, ?_, ?_, ?_, ?_, ?_, ?_, ?_⟩ (fun w1 hS => ?_)
  iterate 8 (focus (go_simp; done))
  · exact (by repeat (first | (with_reducible exact HB) | (with_reducible exact Below.refl _ _) | (with_reducible apply bd) | (with_reducible apply ba) | (with_reducible refine bs ?_ (by first | (simp; done) | (simp; omega)) _)))
  obtain ⟨-, -, -, -, -, -, -, -, HB⟩ := hS
  simp only [List.setIfInBounds_toArray, List.set_cons_zero, List.set_cons_succ]
  go_wp2
  go_ret
  exact ⟨rfl, by repeat (first | (with_reducible exact HB) | (with_reducible exact Below.refl _ _) | (with_reducible apply bd) | (with_reducible apply ba) | (with_reducible refine bs ?_ (by first | (simp; done) | (simp; omega)) _))⟩

end Go.Proofs.Ytandgbpbabmdfaa
