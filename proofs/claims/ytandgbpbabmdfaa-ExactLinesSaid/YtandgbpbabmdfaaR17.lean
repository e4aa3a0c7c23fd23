import Derived.Test.YtandgbpbabmdfaaT32
import Derived.Test.YtandgbpbabmdfaaRg
namespace Go.Proofs.Ytandgbpbabmdfaa
open Go.RowKit
attribute [local go_sem high] eq23 eq25 mn_two mx_two mn_three mx_three mx_four

/-- What each operation of the region leaves. -/
def region17V (a0 a1 b0 b1 c0 c1 n : Int) (eb : Bool) : Nat → Value
  | 0 => .agg #[.int .i64 a0, .int .i64 a1]
  | 1 => .agg #[.int .i64 b0, .int .i64 b1]
  | 2 => .agg #[.int .i64 c0, .int .i64 c1]
  | 3 => .int .i64 0
  | 4 => .bool true
  | 5 => .bool true
  | 6 => .agg #[.int .i64 b0, .int .i64 b1]
  | 7 => .agg #[.int .i64 a0, .int .i64 a1]
  | 8 => .agg #[.int .i64 c0, .int .i64 c1]
  | 9 => .bool true
  | 10 => .bool true
  | 11 => .bool true
  | 12 => .agg #[.int .i64 a0, .int .i64 a1]
  | 13 => .agg #[.int .i64 a0, .int .i64 a1]
  | 14 => .agg #[.int .i64 c0, .int .i64 c1]
  | 15 => .bool true
  | 16 => .bool true
  | 17 => .bool true
  | 18 => .agg #[.int .i64 c0, .int .i64 c1]
  | 19 => .agg #[.int .i64 a0, .int .i64 a1]
  | 20 => .agg #[.int .i64 b0, .int .i64 b1]
  | 21 => .bool eb
  | 22 => .agg #[.int .i64 b0, .int .i64 b1]
  | 23 => .agg #[.int .i64 c0, .int .i64 c1]
  | 24 => .bool eb
  | 25 => .bool true
  | 26 => .bool true
  | 27 => .bool true
  | 28 => .agg #[.int .i64 a0, .int .i64 a1]
  | 29 => .agg #[.int .i64 b0, .int .i64 b1]
  | 30 => .int .i64 n
  | 31 => .agg #[.int .i64 a0, .int .i64 a1]
  | 32 => .agg #[.int .i64 c0, .int .i64 c1]
  | 33 => .int .i64 n
  | 34 => .int .i64 0
  | 35 => .int .i64 0
  | 36 => .bool true
  | 37 => .bool true
  | 38 => .bool true
  | 39 => .bool true
  | 40 => .bool true
  | 41 => .bool true
  | _ => undef

set_option maxHeartbeats 4000000 in
set_option maxRecDepth 100000 in
theorem region17 (a0 a1 b0 b1 c0 c1 n : Int) (ka kb kc : Nat) (eb : Bool) (W : World) (h1 : ori ⟨a0, a1⟩ ⟨b0, b1⟩ ⟨c0, c1⟩ = 0) (h2 : onE ⟨b0, b1⟩ ⟨a0, a1⟩ ⟨c0, c1⟩ = true) (h3 : onE ⟨a0, a1⟩ ⟨a0, a1⟩ ⟨c0, c1⟩ = true) (h4 : onE ⟨c0, c1⟩ ⟨a0, a1⟩ ⟨b0, b1⟩ = eb) (h5 : (b0 == c0 && b1 == c1) = eb) (h6 : cmpP ⟨a0, a1⟩ ⟨b0, b1⟩ = n) (h7 : cmpP ⟨a0, a1⟩ ⟨c0, c1⟩ = n) {id : Nat} {ops : Array Oper} {Q : Exit → Act → World → Prop} {a : Act} {w : World}
    (ho : ops = (regOps Try.f17 7)) (hsz : a.tmps.size = 111) (t4 : a.tmps[4]? = some (.pointer (some ⟨ka, 0, none⟩))) (t9 : a.tmps[9]? = some (.pointer (some ⟨kb, 0, none⟩))) (t10 : a.tmps[10]? = some (.pointer (some ⟨kc, 0, none⟩)))
    (h0 : w.drew.cell? ⟨ka, 0, none⟩ = some (.int .i64 a0) ∧ w.drew.cell? ⟨ka, 1, none⟩ = some (.int .i64 a1) ∧ w.drew.cell? ⟨kb, 0, none⟩ = some (.int .i64 b0) ∧ w.drew.cell? ⟨kb, 1, none⟩ = some (.int .i64 b1) ∧ w.drew.cell? ⟨kc, 0, none⟩ = some (.int .i64 c0) ∧ w.drew.cell? ⟨kc, 1, none⟩ = some (.int .i64 c1) ∧ Below W.heap.size W w.drew)
    (he : ∀ w', w'.cell? ⟨ka, 0, none⟩ = some (.int .i64 a0) ∧ w'.cell? ⟨ka, 1, none⟩ = some (.int .i64 a1) ∧ w'.cell? ⟨kb, 0, none⟩ = some (.int .i64 b0) ∧ w'.cell? ⟨kb, 1, none⟩ = some (.int .i64 b1) ∧ w'.cell? ⟨kc, 0, none⟩ = some (.int .i64 c0) ∧ w'.cell? ⟨kc, 1, none⟩ = some (.int .i64 c1) ∧ Below W.heap.size W w' → Q .normal ⟨((((((((((((((((((((((((((((((((((((((((((a.tmps.setIfInBounds 70 (.agg #[.int .i64 a0, .int .i64 a1])).setIfInBounds 71 (.agg #[.int .i64 b0, .int .i64 b1])).setIfInBounds 72 (.agg #[.int .i64 c0, .int .i64 c1])).setIfInBounds 73 (.int .i64 0)).setIfInBounds 74 (.bool true)).setIfInBounds 75 (.bool true)).setIfInBounds 76 (.agg #[.int .i64 b0, .int .i64 b1])).setIfInBounds 77 (.agg #[.int .i64 a0, .int .i64 a1])).setIfInBounds 78 (.agg #[.int .i64 c0, .int .i64 c1])).setIfInBounds 79 (.bool true)).setIfInBounds 80 (.bool true)).setIfInBounds 81 (.bool true)).setIfInBounds 82 (.agg #[.int .i64 a0, .int .i64 a1])).setIfInBounds 83 (.agg #[.int .i64 a0, .int .i64 a1])).setIfInBounds 84 (.agg #[.int .i64 c0, .int .i64 c1])).setIfInBounds 85 (.bool true)).setIfInBounds 86 (.bool true)).setIfInBounds 87 (.bool true)).setIfInBounds 88 (.agg #[.int .i64 c0, .int .i64 c1])).setIfInBounds 89 (.agg #[.int .i64 a0, .int .i64 a1])).setIfInBounds 90 (.agg #[.int .i64 b0, .int .i64 b1])).setIfInBounds 91 (.bool eb)).setIfInBounds 92 (.agg #[.int .i64 b0, .int .i64 b1])).setIfInBounds 93 (.agg #[.int .i64 c0, .int .i64 c1])).setIfInBounds 94 (.bool eb)).setIfInBounds 95 (.bool true)).setIfInBounds 96 (.bool true)).setIfInBounds 97 (.bool true)).setIfInBounds 98 (.agg #[.int .i64 a0, .int .i64 a1])).setIfInBounds 99 (.agg #[.int .i64 b0, .int .i64 b1])).setIfInBounds 100 (.int .i64 n)).setIfInBounds 101 (.agg #[.int .i64 a0, .int .i64 a1])).setIfInBounds 102 (.agg #[.int .i64 c0, .int .i64 c1])).setIfInBounds 103 (.int .i64 n)).setIfInBounds 104 (.int .i64 0)).setIfInBounds 105 (.int .i64 0)).setIfInBounds 106 (.bool true)).setIfInBounds 107 (.bool true)).setIfInBounds 108 (.bool true)).setIfInBounds 109 (.bool true)).setIfInBounds 110 (.bool true)).setIfInBounds 8 (.bool true)), a.defers⟩ w') :
    (Code.region id ops true).wp Try.prog Q a w := by
  have ht : tidy (regOps Try.f17 7) a.tmps.size = true := by rw [hsz]; kernel_rfl
  refine region_tab (G := Unit) (fun _ => (region17V a0 a1 b0 b1 c0 c1 n  eb)) (fun _ _ w' => w'.cell? ⟨ka, 0, none⟩ = some (.int .i64 a0) ∧ w'.cell? ⟨ka, 1, none⟩ = some (.int .i64 a1) ∧ w'.cell? ⟨kb, 0, none⟩ = some (.int .i64 b0) ∧ w'.cell? ⟨kb, 1, none⟩ = some (.int .i64 b1) ∧ w'.cell? ⟨kc, 0, none⟩ = some (.int .i64 c0) ∧ w'.cell? ⟨kc, 1, none⟩ = some (.int .i64 c1) ∧ Below W.heap.size W w') () (by kernel_rfl) ho ht h0 ?_ ?_
  · intro i o hoi g L b w' hun hpre hT hS
    clear he h0 ho hsz ht
    have hi : i < (regOps Try.f17 7).size := (Array.getElem?_eq_some_iff.1 hoi).1
    rw [show (regOps Try.f17 7).size = 42 by kernel_rfl] at hi
    obtain ⟨ac0, ac1, bc0, bc1, cc0, cc1, HB⟩ := hS
    have hcases : i = 0 ∨ i = 1 ∨ i = 2 ∨ i = 3 ∨ i = 4 ∨ i = 5 ∨ i = 6 ∨ i = 7 ∨ i = 8 ∨ i = 9 ∨ i = 10 ∨ i = 11 ∨ i = 12 ∨ i = 13 ∨ i = 14 ∨ i = 15 ∨ i = 16 ∨ i = 17 ∨ i = 18 ∨ i = 19 ∨ i = 20 ∨ i = 21 ∨ i = 22 ∨ i = 23 ∨ i = 24 ∨ i = 25 ∨ i = 26 ∨ i = 27 ∨ i = 28 ∨ i = 29 ∨ i = 30 ∨ i = 31 ∨ i = 32 ∨ i = 33 ∨ i = 34 ∨ i = 35 ∨ i = 36 ∨ i = 37 ∨ i = 38 ∨ i = 39 ∨ i = 40 ∨ i = 41 := by omega
    rcases hcases with rfl | rfl | rfl | rfl | rfl | rfl | rfl | rfl | rfl | rfl | rfl | rfl | rfl | rfl | rfl | rfl | rfl | rfl | rfl | rfl | rfl | rfl | rfl | rfl | rfl | rfl | rfl | rfl | rfl | rfl | rfl | rfl | rfl | rfl | rfl | rfl | rfl | rfl | rfl | rfl | rfl | rfl
    · have hlit : (regOps Try.f17 7)[0]? = some ({ dst := some 70, op := Op.load 23 (Operand.tmp 4), type := 23, pos := "law.go:81", after := #[], guard := none }) := by kernel_rfl
      obtain rfl := Option.some.inj (hlit.symm.trans hoi)
      have r4 : b.tmps.getD 4 undef = (.pointer (some ⟨ka, 0, none⟩)) := rd ((hT.old 4 (by kernel_rfl)).trans t4)
      refine op_go hoi (want_all rfl) fun K hK => ?_
      clear hT hpre hun hlit hoi
      go_simp
      exact hK _ _ ⟨(), fun _ _ => rfl, rfl, ac0, ac1, bc0, bc1, cc0, cc1, HB⟩
    · have hlit : (regOps Try.f17 7)[1]? = some ({ dst := some 71, op := Op.load 23 (Operand.tmp 9), type := 23, pos := "law.go:81", after := #[], guard := none }) := by kernel_rfl
      obtain rfl := Option.some.inj (hlit.symm.trans hoi)
      have r9 : b.tmps.getD 9 undef = (.pointer (some ⟨kb, 0, none⟩)) := rd ((hT.old 9 (by kernel_rfl)).trans t9)
      refine op_go hoi (want_all rfl) fun K hK => ?_
      clear hT hpre hun hlit hoi
      go_simp
      exact hK _ _ ⟨(), fun _ _ => rfl, rfl, ac0, ac1, bc0, bc1, cc0, cc1, HB⟩
    · have hlit : (regOps Try.f17 7)[2]? = some ({ dst := some 72, op := Op.load 23 (Operand.tmp 10), type := 23, pos := "law.go:81", after := #[], guard := none }) := by kernel_rfl
      obtain rfl := Option.some.inj (hlit.symm.trans hoi)
      have r10 : b.tmps.getD 10 undef = (.pointer (some ⟨kc, 0, none⟩)) := rd ((hT.old 10 (by kernel_rfl)).trans t10)
      refine op_go hoi (want_all rfl) fun K hK => ?_
      clear hT hpre hun hlit hoi
      go_simp
      exact hK _ _ ⟨(), fun _ _ => rfl, rfl, ac0, ac1, bc0, bc1, cc0, cc1, HB⟩
    · have hlit : (regOps Try.f17 7)[3]? = some ({ dst := some 73, op := Op.call { callee := Callee.value (Operand.func 52), args := #[Operand.tmp 70, Operand.tmp 71, Operand.tmp 72], argTypes := #[23, 23, 23] }, type := 3, pos := "law.go:81", after := #[{ on := 0, ground := Ground.data }, { on := 1, ground := Ground.data }, { on := 2, ground := Ground.data }], guard := none }) := by kernel_rfl
      obtain rfl := Option.some.inj (hlit.symm.trans hoi)
      have r70 : b.tmps.getD 70 undef = (.agg #[.int .i64 a0, .int .i64 a1]) := rd (hT.at 0 (by kernel_rfl) (pre_of hpre 0 (by kernel_rfl)))
      have r71 : b.tmps.getD 71 undef = (.agg #[.int .i64 b0, .int .i64 b1]) := rd (hT.at 1 (by kernel_rfl) (pre_of hpre 1 (by kernel_rfl)))
      have r72 : b.tmps.getD 72 undef = (.agg #[.int .i64 c0, .int .i64 c1]) := rd (hT.at 2 (by kernel_rfl) (pre_of hpre 2 (by kernel_rfl)))
      refine op_go hoi (want_all rfl) fun K hK => ?_
      clear hT hpre hun hlit hoi
      go_simp
      go_at_call 52
      refine (ori52 _ _ _ _ _ _ _).mono ?_; rw [h1]; rintro e w2 ⟨rfl, hb⟩; replace ac0 := ck hb (a := ⟨ka, 0, none⟩) (v := .int .i64 a0) (by go_simp); replace ac1 := ck hb (a := ⟨ka, 1, none⟩) (v := .int .i64 a1) (by go_simp); replace bc0 := ck hb (a := ⟨kb, 0, none⟩) (v := .int .i64 b0) (by go_simp); replace bc1 := ck hb (a := ⟨kb, 1, none⟩) (v := .int .i64 b1) (by go_simp); replace cc0 := ck hb (a := ⟨kc, 0, none⟩) (v := .int .i64 c0) (by go_simp); replace cc1 := ck hb (a := ⟨kc, 1, none⟩) (v := .int .i64 c1) (by go_simp); replace HB : Below W.heap.size W w2 := bt HB hb; clear hb
      exact hK _ _ ⟨(), fun _ _ => rfl, rfl, ac0, ac1, bc0, bc1, cc0, cc1, HB⟩
    · have hlit : (regOps Try.f17 7)[4]? = some ({ dst := some 74, op := Op.binOp BinOp.eql 3 (Operand.tmp 73) (Operand.const (Value.int IntKind.i64 0)) 3, type := 4, pos := "law.go:81", after := #[{ on := 3, ground := Ground.data }], guard := none }) := by kernel_rfl
      obtain rfl := Option.some.inj (hlit.symm.trans hoi)
      have r73 : b.tmps.getD 73 undef = (.int .i64 0) := rd (hT.at 3 (by kernel_rfl) (pre_of hpre 3 (by kernel_rfl)))
      refine op_go hoi (want_all rfl) fun K hK => ?_
      clear hT hpre hun hlit hoi
      go_simp
      exact hK _ _ ⟨(), fun _ _ => rfl, rfl, ac0, ac1, bc0, bc1, cc0, cc1, HB⟩
    · have hlit : (regOps Try.f17 7)[5]? = some ({ dst := some 75, op := Op.move (Operand.tmp 74), type := 4, pos := "law.go:81", after := #[{ on := 4, ground := Ground.data }, { on := 3, ground := Ground.chain }], guard := none }) := by kernel_rfl
      obtain rfl := Option.some.inj (hlit.symm.trans hoi)
      have r74 : b.tmps.getD 74 undef = (.bool true) := rd (hT.at 4 (by kernel_rfl) (pre_of hpre 4 (by kernel_rfl)))
      refine op_go hoi (want_all rfl) fun K hK => ?_
      clear hT hpre hun hlit hoi
      go_simp
      exact hK _ _ ⟨(), fun _ _ => rfl, rfl, ac0, ac1, bc0, bc1, cc0, cc1, HB⟩
    · have hlit : (regOps Try.f17 7)[6]? = some ({ dst := some 76, op := Op.load 23 (Operand.tmp 9), type := 23, pos := "law.go:81", after := #[{ on := 5, ground := Ground.guard }], guard := some (5, true) }) := by kernel_rfl
      obtain rfl := Option.some.inj (hlit.symm.trans hoi)
      have r9 : b.tmps.getD 9 undef = (.pointer (some ⟨kb, 0, none⟩)) := rd ((hT.old 9 (by kernel_rfl)).trans t9)
      refine op_go hoi (want_yes rfl (d := 75) (by kernel_rfl) (hT.at 5 (by kernel_rfl) (pre_of hpre 5 (by kernel_rfl)))) fun K hK => ?_
      clear hT hpre hun hlit hoi
      go_simp
      exact hK _ _ ⟨(), fun _ _ => rfl, rfl, ac0, ac1, bc0, bc1, cc0, cc1, HB⟩
    · have hlit : (regOps Try.f17 7)[7]? = some ({ dst := some 77, op := Op.load 23 (Operand.tmp 4), type := 23, pos := "law.go:81", after := #[{ on := 5, ground := Ground.guard }], guard := some (5, true) }) := by kernel_rfl
      obtain rfl := Option.some.inj (hlit.symm.trans hoi)
      have r4 : b.tmps.getD 4 undef = (.pointer (some ⟨ka, 0, none⟩)) := rd ((hT.old 4 (by kernel_rfl)).trans t4)
      refine op_go hoi (want_yes rfl (d := 75) (by kernel_rfl) (hT.at 5 (by kernel_rfl) (pre_of hpre 5 (by kernel_rfl)))) fun K hK => ?_
      clear hT hpre hun hlit hoi
      go_simp
      exact hK _ _ ⟨(), fun _ _ => rfl, rfl, ac0, ac1, bc0, bc1, cc0, cc1, HB⟩
    · have hlit : (regOps Try.f17 7)[8]? = some ({ dst := some 78, op := Op.load 23 (Operand.tmp 10), type := 23, pos := "law.go:81", after := #[{ on := 5, ground := Ground.guard }], guard := some (5, true) }) := by kernel_rfl
      obtain rfl := Option.some.inj (hlit.symm.trans hoi)
      have r10 : b.tmps.getD 10 undef = (.pointer (some ⟨kc, 0, none⟩)) := rd ((hT.old 10 (by kernel_rfl)).trans t10)
      refine op_go hoi (want_yes rfl (d := 75) (by kernel_rfl) (hT.at 5 (by kernel_rfl) (pre_of hpre 5 (by kernel_rfl)))) fun K hK => ?_
      clear hT hpre hun hlit hoi
      go_simp
      exact hK _ _ ⟨(), fun _ _ => rfl, rfl, ac0, ac1, bc0, bc1, cc0, cc1, HB⟩
    · have hlit : (regOps Try.f17 7)[9]? = some ({ dst := some 79, op := Op.call { callee := Callee.value (Operand.func 55), args := #[Operand.tmp 76, Operand.tmp 77, Operand.tmp 78], argTypes := #[23, 23, 23] }, type := 4, pos := "law.go:81", after := #[{ on := 6, ground := Ground.data }, { on := 7, ground := Ground.data }, { on := 8, ground := Ground.data }, { on := 5, ground := Ground.chain }, { on := 5, ground := Ground.guard }], guard := some (5, true) }) := by kernel_rfl
      obtain rfl := Option.some.inj (hlit.symm.trans hoi)
      have r76 : b.tmps.getD 76 undef = (.agg #[.int .i64 b0, .int .i64 b1]) := rd (hT.at 6 (by kernel_rfl) (pre_of hpre 6 (by kernel_rfl)))
      have r77 : b.tmps.getD 77 undef = (.agg #[.int .i64 a0, .int .i64 a1]) := rd (hT.at 7 (by kernel_rfl) (pre_of hpre 7 (by kernel_rfl)))
      have r78 : b.tmps.getD 78 undef = (.agg #[.int .i64 c0, .int .i64 c1]) := rd (hT.at 8 (by kernel_rfl) (pre_of hpre 8 (by kernel_rfl)))
      refine op_go hoi (want_yes rfl (d := 75) (by kernel_rfl) (hT.at 5 (by kernel_rfl) (pre_of hpre 5 (by kernel_rfl)))) fun K hK => ?_
      clear hT hpre hun hlit hoi
      go_simp
      go_at_call 55
      refine (on55 _ _ _ _ _ _ _).mono ?_; rw [h2]; rintro e w2 ⟨rfl, hb⟩; replace ac0 := ck hb (a := ⟨ka, 0, none⟩) (v := .int .i64 a0) (by go_simp); replace ac1 := ck hb (a := ⟨ka, 1, none⟩) (v := .int .i64 a1) (by go_simp); replace bc0 := ck hb (a := ⟨kb, 0, none⟩) (v := .int .i64 b0) (by go_simp); replace bc1 := ck hb (a := ⟨kb, 1, none⟩) (v := .int .i64 b1) (by go_simp); replace cc0 := ck hb (a := ⟨kc, 0, none⟩) (v := .int .i64 c0) (by go_simp); replace cc1 := ck hb (a := ⟨kc, 1, none⟩) (v := .int .i64 c1) (by go_simp); replace HB : Below W.heap.size W w2 := bt HB hb; clear hb
      exact hK _ _ ⟨(), fun _ _ => rfl, rfl, ac0, ac1, bc0, bc1, cc0, cc1, HB⟩
    · have hlit : (regOps Try.f17 7)[10]? = some ({ dst := some 80, op := Op.pick (Operand.tmp 75) (Operand.tmp 79) (Operand.const (Value.bool false)), type := 4, pos := "law.go:81", after := #[{ on := 5, ground := Ground.data }, { on := 9, ground := Ground.data }], guard := none }) := by kernel_rfl
      obtain rfl := Option.some.inj (hlit.symm.trans hoi)
      have r75 : b.tmps.getD 75 undef = (.bool true) := rd (hT.at 5 (by kernel_rfl) (pre_of hpre 5 (by kernel_rfl)))
      have r79 : b.tmps.getD 79 undef = (.bool true) := rd (hT.at 9 (by kernel_rfl) (pre_of hpre 9 (by kernel_rfl)))
      refine op_go hoi (want_all rfl) fun K hK => ?_
      clear hT hpre hun hlit hoi
      go_simp
      exact hK _ _ ⟨(), fun _ _ => rfl, rfl, ac0, ac1, bc0, bc1, cc0, cc1, HB⟩
    · have hlit : (regOps Try.f17 7)[11]? = some ({ dst := some 81, op := Op.move (Operand.tmp 80), type := 4, pos := "law.go:81", after := #[{ on := 10, ground := Ground.data }, { on := 9, ground := Ground.chain }], guard := none }) := by kernel_rfl
      obtain rfl := Option.some.inj (hlit.symm.trans hoi)
      have r80 : b.tmps.getD 80 undef = (.bool true) := rd (hT.at 10 (by kernel_rfl) (pre_of hpre 10 (by kernel_rfl)))
      refine op_go hoi (want_all rfl) fun K hK => ?_
      clear hT hpre hun hlit hoi
      go_simp
      exact hK _ _ ⟨(), fun _ _ => rfl, rfl, ac0, ac1, bc0, bc1, cc0, cc1, HB⟩
    · have hlit : (regOps Try.f17 7)[12]? = some ({ dst := some 82, op := Op.load 23 (Operand.tmp 4), type := 23, pos := "law.go:81", after := #[{ on := 11, ground := Ground.guard }], guard := some (11, true) }) := by kernel_rfl
      obtain rfl := Option.some.inj (hlit.symm.trans hoi)
      have r4 : b.tmps.getD 4 undef = (.pointer (some ⟨ka, 0, none⟩)) := rd ((hT.old 4 (by kernel_rfl)).trans t4)
      refine op_go hoi (want_yes rfl (d := 81) (by kernel_rfl) (hT.at 11 (by kernel_rfl) (pre_of hpre 11 (by kernel_rfl)))) fun K hK => ?_
      clear hT hpre hun hlit hoi
      go_simp
      exact hK _ _ ⟨(), fun _ _ => rfl, rfl, ac0, ac1, bc0, bc1, cc0, cc1, HB⟩
    · have hlit : (regOps Try.f17 7)[13]? = some ({ dst := some 83, op := Op.load 23 (Operand.tmp 4), type := 23, pos := "law.go:81", after := #[{ on := 11, ground := Ground.guard }], guard := some (11, true) }) := by kernel_rfl
      obtain rfl := Option.some.inj (hlit.symm.trans hoi)
      have r4 : b.tmps.getD 4 undef = (.pointer (some ⟨ka, 0, none⟩)) := rd ((hT.old 4 (by kernel_rfl)).trans t4)
      refine op_go hoi (want_yes rfl (d := 81) (by kernel_rfl) (hT.at 11 (by kernel_rfl) (pre_of hpre 11 (by kernel_rfl)))) fun K hK => ?_
      clear hT hpre hun hlit hoi
      go_simp
      exact hK _ _ ⟨(), fun _ _ => rfl, rfl, ac0, ac1, bc0, bc1, cc0, cc1, HB⟩
    · have hlit : (regOps Try.f17 7)[14]? = some ({ dst := some 84, op := Op.load 23 (Operand.tmp 10), type := 23, pos := "law.go:81", after := #[{ on := 11, ground := Ground.guard }], guard := some (11, true) }) := by kernel_rfl
      obtain rfl := Option.some.inj (hlit.symm.trans hoi)
      have r10 : b.tmps.getD 10 undef = (.pointer (some ⟨kc, 0, none⟩)) := rd ((hT.old 10 (by kernel_rfl)).trans t10)
      refine op_go hoi (want_yes rfl (d := 81) (by kernel_rfl) (hT.at 11 (by kernel_rfl) (pre_of hpre 11 (by kernel_rfl)))) fun K hK => ?_
      clear hT hpre hun hlit hoi
      go_simp
      exact hK _ _ ⟨(), fun _ _ => rfl, rfl, ac0, ac1, bc0, bc1, cc0, cc1, HB⟩
    · have hlit : (regOps Try.f17 7)[15]? = some ({ dst := some 85, op := Op.call { callee := Callee.value (Operand.func 55), args := #[Operand.tmp 82, Operand.tmp 83, Operand.tmp 84], argTypes := #[23, 23, 23] }, type := 4, pos := "law.go:81", after := #[{ on := 12, ground := Ground.data }, { on := 13, ground := Ground.data }, { on := 14, ground := Ground.data }, { on := 11, ground := Ground.chain }, { on := 11, ground := Ground.guard }], guard := some (11, true) }) := by kernel_rfl
      obtain rfl := Option.some.inj (hlit.symm.trans hoi)
      have r82 : b.tmps.getD 82 undef = (.agg #[.int .i64 a0, .int .i64 a1]) := rd (hT.at 12 (by kernel_rfl) (pre_of hpre 12 (by kernel_rfl)))
      have r83 : b.tmps.getD 83 undef = (.agg #[.int .i64 a0, .int .i64 a1]) := rd (hT.at 13 (by kernel_rfl) (pre_of hpre 13 (by kernel_rfl)))
      have r84 : b.tmps.getD 84 undef = (.agg #[.int .i64 c0, .int .i64 c1]) := rd (hT.at 14 (by kernel_rfl) (pre_of hpre 14 (by kernel_rfl)))
      refine op_go hoi (want_yes rfl (d := 81) (by kernel_rfl) (hT.at 11 (by kernel_rfl) (pre_of hpre 11 (by kernel_rfl)))) fun K hK => ?_
      clear hT hpre hun hlit hoi
      go_simp
      go_at_call 55
      refine (on55 _ _ _ _ _ _ _).mono ?_; rw [h3]; rintro e w2 ⟨rfl, hb⟩; replace ac0 := ck hb (a := ⟨ka, 0, none⟩) (v := .int .i64 a0) (by go_simp); replace ac1 := ck hb (a := ⟨ka, 1, none⟩) (v := .int .i64 a1) (by go_simp); replace bc0 := ck hb (a := ⟨kb, 0, none⟩) (v := .int .i64 b0) (by go_simp); replace bc1 := ck hb (a := ⟨kb, 1, none⟩) (v := .int .i64 b1) (by go_simp); replace cc0 := ck hb (a := ⟨kc, 0, none⟩) (v := .int .i64 c0) (by go_simp); replace cc1 := ck hb (a := ⟨kc, 1, none⟩) (v := .int .i64 c1) (by go_simp); replace HB : Below W.heap.size W w2 := bt HB hb; clear hb
      exact hK _ _ ⟨(), fun _ _ => rfl, rfl, ac0, ac1, bc0, bc1, cc0, cc1, HB⟩
    · have hlit : (regOps Try.f17 7)[16]? = some ({ dst := some 86, op := Op.pick (Operand.tmp 81) (Operand.tmp 85) (Operand.const (Value.bool false)), type := 4, pos := "law.go:81", after := #[{ on := 11, ground := Ground.data }, { on := 15, ground := Ground.data }], guard := none }) := by kernel_rfl
      obtain rfl := Option.some.inj (hlit.symm.trans hoi)
      have r81 : b.tmps.getD 81 undef = (.bool true) := rd (hT.at 11 (by kernel_rfl) (pre_of hpre 11 (by kernel_rfl)))
      have r85 : b.tmps.getD 85 undef = (.bool true) := rd (hT.at 15 (by kernel_rfl) (pre_of hpre 15 (by kernel_rfl)))
      refine op_go hoi (want_all rfl) fun K hK => ?_
      clear hT hpre hun hlit hoi
      go_simp
      exact hK _ _ ⟨(), fun _ _ => rfl, rfl, ac0, ac1, bc0, bc1, cc0, cc1, HB⟩
    · have hlit : (regOps Try.f17 7)[17]? = some ({ dst := some 87, op := Op.move (Operand.tmp 86), type := 4, pos := "law.go:81", after := #[{ on := 16, ground := Ground.data }, { on := 15, ground := Ground.chain }], guard := none }) := by kernel_rfl
      obtain rfl := Option.some.inj (hlit.symm.trans hoi)
      have r86 : b.tmps.getD 86 undef = (.bool true) := rd (hT.at 16 (by kernel_rfl) (pre_of hpre 16 (by kernel_rfl)))
      refine op_go hoi (want_all rfl) fun K hK => ?_
      clear hT hpre hun hlit hoi
      go_simp
      exact hK _ _ ⟨(), fun _ _ => rfl, rfl, ac0, ac1, bc0, bc1, cc0, cc1, HB⟩
    · have hlit : (regOps Try.f17 7)[18]? = some ({ dst := some 88, op := Op.load 23 (Operand.tmp 10), type := 23, pos := "law.go:81", after := #[{ on := 17, ground := Ground.guard }], guard := some (17, true) }) := by kernel_rfl
      obtain rfl := Option.some.inj (hlit.symm.trans hoi)
      have r10 : b.tmps.getD 10 undef = (.pointer (some ⟨kc, 0, none⟩)) := rd ((hT.old 10 (by kernel_rfl)).trans t10)
      refine op_go hoi (want_yes rfl (d := 87) (by kernel_rfl) (hT.at 17 (by kernel_rfl) (pre_of hpre 17 (by kernel_rfl)))) fun K hK => ?_
      clear hT hpre hun hlit hoi
      go_simp
      exact hK _ _ ⟨(), fun _ _ => rfl, rfl, ac0, ac1, bc0, bc1, cc0, cc1, HB⟩
    · have hlit : (regOps Try.f17 7)[19]? = some ({ dst := some 89, op := Op.load 23 (Operand.tmp 4), type := 23, pos := "law.go:81", after := #[{ on := 17, ground := Ground.guard }], guard := some (17, true) }) := by kernel_rfl
      obtain rfl := Option.some.inj (hlit.symm.trans hoi)
      have r4 : b.tmps.getD 4 undef = (.pointer (some ⟨ka, 0, none⟩)) := rd ((hT.old 4 (by kernel_rfl)).trans t4)
      refine op_go hoi (want_yes rfl (d := 87) (by kernel_rfl) (hT.at 17 (by kernel_rfl) (pre_of hpre 17 (by kernel_rfl)))) fun K hK => ?_
      clear hT hpre hun hlit hoi
      go_simp
      exact hK _ _ ⟨(), fun _ _ => rfl, rfl, ac0, ac1, bc0, bc1, cc0, cc1, HB⟩
    · have hlit : (regOps Try.f17 7)[20]? = some ({ dst := some 90, op := Op.load 23 (Operand.tmp 9), type := 23, pos := "law.go:81", after := #[{ on := 17, ground := Ground.guard }], guard := some (17, true) }) := by kernel_rfl
      obtain rfl := Option.some.inj (hlit.symm.trans hoi)
      have r9 : b.tmps.getD 9 undef = (.pointer (some ⟨kb, 0, none⟩)) := rd ((hT.old 9 (by kernel_rfl)).trans t9)
      refine op_go hoi (want_yes rfl (d := 87) (by kernel_rfl) (hT.at 17 (by kernel_rfl) (pre_of hpre 17 (by kernel_rfl)))) fun K hK => ?_
      clear hT hpre hun hlit hoi
      go_simp
      exact hK _ _ ⟨(), fun _ _ => rfl, rfl, ac0, ac1, bc0, bc1, cc0, cc1, HB⟩
    · have hlit : (regOps Try.f17 7)[21]? = some ({ dst := some 91, op := Op.call { callee := Callee.value (Operand.func 55), args := #[Operand.tmp 88, Operand.tmp 89, Operand.tmp 90], argTypes := #[23, 23, 23] }, type := 4, pos := "law.go:81", after := #[{ on := 18, ground := Ground.data }, { on := 19, ground := Ground.data }, { on := 20, ground := Ground.data }, { on := 17, ground := Ground.chain }, { on := 17, ground := Ground.guard }], guard := some (17, true) }) := by kernel_rfl
      obtain rfl := Option.some.inj (hlit.symm.trans hoi)
      have r88 : b.tmps.getD 88 undef = (.agg #[.int .i64 c0, .int .i64 c1]) := rd (hT.at 18 (by kernel_rfl) (pre_of hpre 18 (by kernel_rfl)))
      have r89 : b.tmps.getD 89 undef = (.agg #[.int .i64 a0, .int .i64 a1]) := rd (hT.at 19 (by kernel_rfl) (pre_of hpre 19 (by kernel_rfl)))
      have r90 : b.tmps.getD 90 undef = (.agg #[.int .i64 b0, .int .i64 b1]) := rd (hT.at 20 (by kernel_rfl) (pre_of hpre 20 (by kernel_rfl)))
      refine op_go hoi (want_yes rfl (d := 87) (by kernel_rfl) (hT.at 17 (by kernel_rfl) (pre_of hpre 17 (by kernel_rfl)))) fun K hK => ?_
      clear hT hpre hun hlit hoi
      go_simp
      go_at_call 55
      refine (on55 _ _ _ _ _ _ _).mono ?_; rw [h4]; rintro e w2 ⟨rfl, hb⟩; replace ac0 := ck hb (a := ⟨ka, 0, none⟩) (v := .int .i64 a0) (by go_simp); replace ac1 := ck hb (a := ⟨ka, 1, none⟩) (v := .int .i64 a1) (by go_simp); replace bc0 := ck hb (a := ⟨kb, 0, none⟩) (v := .int .i64 b0) (by go_simp); replace bc1 := ck hb (a := ⟨kb, 1, none⟩) (v := .int .i64 b1) (by go_simp); replace cc0 := ck hb (a := ⟨kc, 0, none⟩) (v := .int .i64 c0) (by go_simp); replace cc1 := ck hb (a := ⟨kc, 1, none⟩) (v := .int .i64 c1) (by go_simp); replace HB : Below W.heap.size W w2 := bt HB hb; clear hb
      exact hK _ _ ⟨(), fun _ _ => rfl, rfl, ac0, ac1, bc0, bc1, cc0, cc1, HB⟩
    · have hlit : (regOps Try.f17 7)[22]? = some ({ dst := some 92, op := Op.load 23 (Operand.tmp 9), type := 23, pos := "law.go:81", after := #[{ on := 17, ground := Ground.guard }], guard := some (17, true) }) := by kernel_rfl
      obtain rfl := Option.some.inj (hlit.symm.trans hoi)
      have r9 : b.tmps.getD 9 undef = (.pointer (some ⟨kb, 0, none⟩)) := rd ((hT.old 9 (by kernel_rfl)).trans t9)
      refine op_go hoi (want_yes rfl (d := 87) (by kernel_rfl) (hT.at 17 (by kernel_rfl) (pre_of hpre 17 (by kernel_rfl)))) fun K hK => ?_
      clear hT hpre hun hlit hoi
      go_simp
      exact hK _ _ ⟨(), fun _ _ => rfl, rfl, ac0, ac1, bc0, bc1, cc0, cc1, HB⟩
    · have hlit : (regOps Try.f17 7)[23]? = some ({ dst := some 93, op := Op.load 23 (Operand.tmp 10), type := 23, pos := "law.go:81", after := #[{ on := 17, ground := Ground.guard }], guard := some (17, true) }) := by kernel_rfl
      obtain rfl := Option.some.inj (hlit.symm.trans hoi)
      have r10 : b.tmps.getD 10 undef = (.pointer (some ⟨kc, 0, none⟩)) := rd ((hT.old 10 (by kernel_rfl)).trans t10)
      refine op_go hoi (want_yes rfl (d := 87) (by kernel_rfl) (hT.at 17 (by kernel_rfl) (pre_of hpre 17 (by kernel_rfl)))) fun K hK => ?_
      clear hT hpre hun hlit hoi
      go_simp
      exact hK _ _ ⟨(), fun _ _ => rfl, rfl, ac0, ac1, bc0, bc1, cc0, cc1, HB⟩
    · have hlit : (regOps Try.f17 7)[24]? = some ({ dst := some 94, op := Op.binOp BinOp.eql 23 (Operand.tmp 92) (Operand.tmp 93) 23, type := 4, pos := "law.go:81", after := #[{ on := 22, ground := Ground.data }, { on := 23, ground := Ground.data }, { on := 17, ground := Ground.guard }], guard := some (17, true) }) := by kernel_rfl
      obtain rfl := Option.some.inj (hlit.symm.trans hoi)
      have r92 : b.tmps.getD 92 undef = (.agg #[.int .i64 b0, .int .i64 b1]) := rd (hT.at 22 (by kernel_rfl) (pre_of hpre 22 (by kernel_rfl)))
      have r93 : b.tmps.getD 93 undef = (.agg #[.int .i64 c0, .int .i64 c1]) := rd (hT.at 23 (by kernel_rfl) (pre_of hpre 23 (by kernel_rfl)))
      refine op_go hoi (want_yes rfl (d := 87) (by kernel_rfl) (hT.at 17 (by kernel_rfl) (pre_of hpre 17 (by kernel_rfl)))) fun K hK => ?_
      clear hT hpre hun hlit hoi
      go_simp
      exact hK _ _ ⟨(), fun _ _ => rfl, rfl, ac0, ac1, bc0, bc1, cc0, cc1, HB⟩
    · have hlit : (regOps Try.f17 7)[25]? = some ({ dst := some 95, op := Op.binOp BinOp.eql 4 (Operand.tmp 91) (Operand.tmp 94) 4, type := 4, pos := "law.go:81", after := #[{ on := 21, ground := Ground.data }, { on := 24, ground := Ground.data }, { on := 17, ground := Ground.guard }], guard := some (17, true) }) := by kernel_rfl
      obtain rfl := Option.some.inj (hlit.symm.trans hoi)
      have r91 : b.tmps.getD 91 undef = (.bool eb) := rd (hT.at 21 (by kernel_rfl) (pre_of hpre 21 (by kernel_rfl)))
      have r94 : b.tmps.getD 94 undef = (.bool eb) := rd (hT.at 24 (by kernel_rfl) (pre_of hpre 24 (by kernel_rfl)))
      refine op_go hoi (want_yes rfl (d := 87) (by kernel_rfl) (hT.at 17 (by kernel_rfl) (pre_of hpre 17 (by kernel_rfl)))) fun K hK => ?_
      clear hT hpre hun hlit hoi
      go_simp
      exact hK _ _ ⟨(), fun _ _ => rfl, rfl, ac0, ac1, bc0, bc1, cc0, cc1, HB⟩
    · have hlit : (regOps Try.f17 7)[26]? = some ({ dst := some 96, op := Op.pick (Operand.tmp 87) (Operand.tmp 95) (Operand.const (Value.bool false)), type := 4, pos := "law.go:81", after := #[{ on := 17, ground := Ground.data }, { on := 25, ground := Ground.data }], guard := none }) := by kernel_rfl
      obtain rfl := Option.some.inj (hlit.symm.trans hoi)
      have r87 : b.tmps.getD 87 undef = (.bool true) := rd (hT.at 17 (by kernel_rfl) (pre_of hpre 17 (by kernel_rfl)))
      have r95 : b.tmps.getD 95 undef = (.bool true) := rd (hT.at 25 (by kernel_rfl) (pre_of hpre 25 (by kernel_rfl)))
      refine op_go hoi (want_all rfl) fun K hK => ?_
      clear hT hpre hun hlit hoi
      go_simp
      exact hK _ _ ⟨(), fun _ _ => rfl, rfl, ac0, ac1, bc0, bc1, cc0, cc1, HB⟩
    · have hlit : (regOps Try.f17 7)[27]? = some ({ dst := some 97, op := Op.move (Operand.tmp 96), type := 4, pos := "law.go:81", after := #[{ on := 26, ground := Ground.data }, { on := 21, ground := Ground.chain }], guard := none }) := by kernel_rfl
      obtain rfl := Option.some.inj (hlit.symm.trans hoi)
      have r96 : b.tmps.getD 96 undef = (.bool true) := rd (hT.at 26 (by kernel_rfl) (pre_of hpre 26 (by kernel_rfl)))
      refine op_go hoi (want_all rfl) fun K hK => ?_
      clear hT hpre hun hlit hoi
      go_simp
      exact hK _ _ ⟨(), fun _ _ => rfl, rfl, ac0, ac1, bc0, bc1, cc0, cc1, HB⟩
    · have hlit : (regOps Try.f17 7)[28]? = some ({ dst := some 98, op := Op.load 23 (Operand.tmp 4), type := 23, pos := "law.go:81", after := #[{ on := 27, ground := Ground.guard }], guard := some (27, true) }) := by kernel_rfl
      obtain rfl := Option.some.inj (hlit.symm.trans hoi)
      have r4 : b.tmps.getD 4 undef = (.pointer (some ⟨ka, 0, none⟩)) := rd ((hT.old 4 (by kernel_rfl)).trans t4)
      refine op_go hoi (want_yes rfl (d := 97) (by kernel_rfl) (hT.at 27 (by kernel_rfl) (pre_of hpre 27 (by kernel_rfl)))) fun K hK => ?_
      clear hT hpre hun hlit hoi
      go_simp
      exact hK _ _ ⟨(), fun _ _ => rfl, rfl, ac0, ac1, bc0, bc1, cc0, cc1, HB⟩
    · have hlit : (regOps Try.f17 7)[29]? = some ({ dst := some 99, op := Op.load 23 (Operand.tmp 9), type := 23, pos := "law.go:81", after := #[{ on := 27, ground := Ground.guard }], guard := some (27, true) }) := by kernel_rfl
      obtain rfl := Option.some.inj (hlit.symm.trans hoi)
      have r9 : b.tmps.getD 9 undef = (.pointer (some ⟨kb, 0, none⟩)) := rd ((hT.old 9 (by kernel_rfl)).trans t9)
      refine op_go hoi (want_yes rfl (d := 97) (by kernel_rfl) (hT.at 27 (by kernel_rfl) (pre_of hpre 27 (by kernel_rfl)))) fun K hK => ?_
      clear hT hpre hun hlit hoi
      go_simp
      exact hK _ _ ⟨(), fun _ _ => rfl, rfl, ac0, ac1, bc0, bc1, cc0, cc1, HB⟩
    · have hlit : (regOps Try.f17 7)[30]? = some ({ dst := some 100, op := Op.call { callee := Callee.value (Operand.func 50), args := #[Operand.tmp 98, Operand.tmp 99], argTypes := #[23, 23] }, type := 3, pos := "law.go:81", after := #[{ on := 28, ground := Ground.data }, { on := 29, ground := Ground.data }, { on := 27, ground := Ground.chain }, { on := 27, ground := Ground.guard }], guard := some (27, true) }) := by kernel_rfl
      obtain rfl := Option.some.inj (hlit.symm.trans hoi)
      have r98 : b.tmps.getD 98 undef = (.agg #[.int .i64 a0, .int .i64 a1]) := rd (hT.at 28 (by kernel_rfl) (pre_of hpre 28 (by kernel_rfl)))
      have r99 : b.tmps.getD 99 undef = (.agg #[.int .i64 b0, .int .i64 b1]) := rd (hT.at 29 (by kernel_rfl) (pre_of hpre 29 (by kernel_rfl)))
      refine op_go hoi (want_yes rfl (d := 97) (by kernel_rfl) (hT.at 27 (by kernel_rfl) (pre_of hpre 27 (by kernel_rfl)))) fun K hK => ?_
      clear hT hpre hun hlit hoi
      go_simp
      go_at_call 50
      refine (cmp50 _ _ _ _ _).mono ?_; rw [h6]; rintro e w2 ⟨rfl, hb⟩; replace ac0 := ck hb (a := ⟨ka, 0, none⟩) (v := .int .i64 a0) (by go_simp); replace ac1 := ck hb (a := ⟨ka, 1, none⟩) (v := .int .i64 a1) (by go_simp); replace bc0 := ck hb (a := ⟨kb, 0, none⟩) (v := .int .i64 b0) (by go_simp); replace bc1 := ck hb (a := ⟨kb, 1, none⟩) (v := .int .i64 b1) (by go_simp); replace cc0 := ck hb (a := ⟨kc, 0, none⟩) (v := .int .i64 c0) (by go_simp); replace cc1 := ck hb (a := ⟨kc, 1, none⟩) (v := .int .i64 c1) (by go_simp); replace HB : Below W.heap.size W w2 := bt HB hb; clear hb
      exact hK _ _ ⟨(), fun _ _ => rfl, rfl, ac0, ac1, bc0, bc1, cc0, cc1, HB⟩
    · have hlit : (regOps Try.f17 7)[31]? = some ({ dst := some 101, op := Op.load 23 (Operand.tmp 4), type := 23, pos := "law.go:81", after := #[{ on := 27, ground := Ground.guard }], guard := some (27, true) }) := by kernel_rfl
      obtain rfl := Option.some.inj (hlit.symm.trans hoi)
      have r4 : b.tmps.getD 4 undef = (.pointer (some ⟨ka, 0, none⟩)) := rd ((hT.old 4 (by kernel_rfl)).trans t4)
      refine op_go hoi (want_yes rfl (d := 97) (by kernel_rfl) (hT.at 27 (by kernel_rfl) (pre_of hpre 27 (by kernel_rfl)))) fun K hK => ?_
      clear hT hpre hun hlit hoi
      go_simp
      exact hK _ _ ⟨(), fun _ _ => rfl, rfl, ac0, ac1, bc0, bc1, cc0, cc1, HB⟩
    · have hlit : (regOps Try.f17 7)[32]? = some ({ dst := some 102, op := Op.load 23 (Operand.tmp 10), type := 23, pos := "law.go:81", after := #[{ on := 27, ground := Ground.guard }], guard := some (27, true) }) := by kernel_rfl
      obtain rfl := Option.some.inj (hlit.symm.trans hoi)
      have r10 : b.tmps.getD 10 undef = (.pointer (some ⟨kc, 0, none⟩)) := rd ((hT.old 10 (by kernel_rfl)).trans t10)
      refine op_go hoi (want_yes rfl (d := 97) (by kernel_rfl) (hT.at 27 (by kernel_rfl) (pre_of hpre 27 (by kernel_rfl)))) fun K hK => ?_
      clear hT hpre hun hlit hoi
      go_simp
      exact hK _ _ ⟨(), fun _ _ => rfl, rfl, ac0, ac1, bc0, bc1, cc0, cc1, HB⟩
    · have hlit : (regOps Try.f17 7)[33]? = some ({ dst := some 103, op := Op.call { callee := Callee.value (Operand.func 50), args := #[Operand.tmp 101, Operand.tmp 102], argTypes := #[23, 23] }, type := 3, pos := "law.go:81", after := #[{ on := 31, ground := Ground.data }, { on := 32, ground := Ground.data }, { on := 30, ground := Ground.chain }, { on := 27, ground := Ground.guard }], guard := some (27, true) }) := by kernel_rfl
      obtain rfl := Option.some.inj (hlit.symm.trans hoi)
      have r101 : b.tmps.getD 101 undef = (.agg #[.int .i64 a0, .int .i64 a1]) := rd (hT.at 31 (by kernel_rfl) (pre_of hpre 31 (by kernel_rfl)))
      have r102 : b.tmps.getD 102 undef = (.agg #[.int .i64 c0, .int .i64 c1]) := rd (hT.at 32 (by kernel_rfl) (pre_of hpre 32 (by kernel_rfl)))
      refine op_go hoi (want_yes rfl (d := 97) (by kernel_rfl) (hT.at 27 (by kernel_rfl) (pre_of hpre 27 (by kernel_rfl)))) fun K hK => ?_
      clear hT hpre hun hlit hoi
      go_simp
      go_at_call 50
      refine (cmp50 _ _ _ _ _).mono ?_; rw [h7]; rintro e w2 ⟨rfl, hb⟩; replace ac0 := ck hb (a := ⟨ka, 0, none⟩) (v := .int .i64 a0) (by go_simp); replace ac1 := ck hb (a := ⟨ka, 1, none⟩) (v := .int .i64 a1) (by go_simp); replace bc0 := ck hb (a := ⟨kb, 0, none⟩) (v := .int .i64 b0) (by go_simp); replace bc1 := ck hb (a := ⟨kb, 1, none⟩) (v := .int .i64 b1) (by go_simp); replace cc0 := ck hb (a := ⟨kc, 0, none⟩) (v := .int .i64 c0) (by go_simp); replace cc1 := ck hb (a := ⟨kc, 1, none⟩) (v := .int .i64 c1) (by go_simp); replace HB : Below W.heap.size W w2 := bt HB hb; clear hb
      exact hK _ _ ⟨(), fun _ _ => rfl, rfl, ac0, ac1, bc0, bc1, cc0, cc1, HB⟩
    · have hlit : (regOps Try.f17 7)[34]? = some ({ dst := some 104, op := Op.binOp BinOp.sub 3 (Operand.tmp 100) (Operand.tmp 103) 3, type := 3, pos := "law.go:81", after := #[{ on := 30, ground := Ground.data }, { on := 33, ground := Ground.data }, { on := 27, ground := Ground.guard }], guard := some (27, true) }) := by kernel_rfl
      obtain rfl := Option.some.inj (hlit.symm.trans hoi)
      have r100 : b.tmps.getD 100 undef = (.int .i64 n) := rd (hT.at 30 (by kernel_rfl) (pre_of hpre 30 (by kernel_rfl)))
      have r103 : b.tmps.getD 103 undef = (.int .i64 n) := rd (hT.at 33 (by kernel_rfl) (pre_of hpre 33 (by kernel_rfl)))
      refine op_go hoi (want_yes rfl (d := 97) (by kernel_rfl) (hT.at 27 (by kernel_rfl) (pre_of hpre 27 (by kernel_rfl)))) fun K hK => ?_
      clear hT hpre hun hlit hoi
      go_simp
      exact hK _ _ ⟨(), fun _ _ => rfl, rfl, ac0, ac1, bc0, bc1, cc0, cc1, HB⟩
    · have hlit : (regOps Try.f17 7)[35]? = some ({ dst := some 105, op := Op.call { callee := Callee.value (Operand.func 23), args := #[Operand.tmp 104, Operand.const (Value.int IntKind.i64 3)], argTypes := #[3, 3] }, type := 3, pos := "law.go:81", after := #[{ on := 34, ground := Ground.data }, { on := 33, ground := Ground.chain }, { on := 27, ground := Ground.guard }], guard := some (27, true) }) := by kernel_rfl
      obtain rfl := Option.some.inj (hlit.symm.trans hoi)
      have r104 : b.tmps.getD 104 undef = (.int .i64 0) := rd (hT.at 34 (by kernel_rfl) (pre_of hpre 34 (by kernel_rfl)))
      refine op_go hoi (want_yes rfl (d := 97) (by kernel_rfl) (hT.at 27 (by kernel_rfl) (pre_of hpre 27 (by kernel_rfl)))) fun K hK => ?_
      clear hT hpre hun hlit hoi
      go_simp
      go_at_call 23; refine (round23 _ _ _ (by decide) (by decide)).mono ?_; rintro e w2 ⟨rfl, rfl⟩
      exact hK _ _ ⟨(), fun _ _ => rfl, rfl, ac0, ac1, bc0, bc1, cc0, cc1, HB⟩
    · have hlit : (regOps Try.f17 7)[36]? = some ({ dst := some 106, op := Op.binOp BinOp.eql 3 (Operand.tmp 105) (Operand.const (Value.int IntKind.i64 0)) 3, type := 4, pos := "law.go:81", after := #[{ on := 35, ground := Ground.data }, { on := 27, ground := Ground.guard }], guard := some (27, true) }) := by kernel_rfl
      obtain rfl := Option.some.inj (hlit.symm.trans hoi)
      have r105 : b.tmps.getD 105 undef = (.int .i64 0) := rd (hT.at 35 (by kernel_rfl) (pre_of hpre 35 (by kernel_rfl)))
      refine op_go hoi (want_yes rfl (d := 97) (by kernel_rfl) (hT.at 27 (by kernel_rfl) (pre_of hpre 27 (by kernel_rfl)))) fun K hK => ?_
      clear hT hpre hun hlit hoi
      go_simp
      exact hK _ _ ⟨(), fun _ _ => rfl, rfl, ac0, ac1, bc0, bc1, cc0, cc1, HB⟩
    · have hlit : (regOps Try.f17 7)[37]? = some ({ dst := some 107, op := Op.pick (Operand.tmp 97) (Operand.tmp 106) (Operand.const (Value.bool false)), type := 4, pos := "law.go:81", after := #[{ on := 27, ground := Ground.data }, { on := 36, ground := Ground.data }], guard := none }) := by kernel_rfl
      obtain rfl := Option.some.inj (hlit.symm.trans hoi)
      have r97 : b.tmps.getD 97 undef = (.bool true) := rd (hT.at 27 (by kernel_rfl) (pre_of hpre 27 (by kernel_rfl)))
      have r106 : b.tmps.getD 106 undef = (.bool true) := rd (hT.at 36 (by kernel_rfl) (pre_of hpre 36 (by kernel_rfl)))
      refine op_go hoi (want_all rfl) fun K hK => ?_
      clear hT hpre hun hlit hoi
      go_simp
      exact hK _ _ ⟨(), fun _ _ => rfl, rfl, ac0, ac1, bc0, bc1, cc0, cc1, HB⟩
    · have hlit : (regOps Try.f17 7)[38]? = some ({ dst := some 108, op := Op.move (Operand.tmp 107), type := 4, pos := "law.go:81", after := #[{ on := 37, ground := Ground.data }, { on := 35, ground := Ground.chain }], guard := none }) := by kernel_rfl
      obtain rfl := Option.some.inj (hlit.symm.trans hoi)
      have r107 : b.tmps.getD 107 undef = (.bool true) := rd (hT.at 37 (by kernel_rfl) (pre_of hpre 37 (by kernel_rfl)))
      refine op_go hoi (want_all rfl) fun K hK => ?_
      clear hT hpre hun hlit hoi
      go_simp
      exact hK _ _ ⟨(), fun _ _ => rfl, rfl, ac0, ac1, bc0, bc1, cc0, cc1, HB⟩
    · have hlit : (regOps Try.f17 7)[39]? = some ({ dst := some 109, op := Op.call { callee := Callee.value (Operand.func 58), args := #[], argTypes := #[] }, type := 4, pos := "law.go:81", after := #[{ on := 38, ground := Ground.chain }, { on := 38, ground := Ground.guard }], guard := some (38, true) }) := by kernel_rfl
      obtain rfl := Option.some.inj (hlit.symm.trans hoi)
      refine op_go hoi (want_yes rfl (d := 108) (by kernel_rfl) (hT.at 38 (by kernel_rfl) (pre_of hpre 38 (by kernel_rfl)))) fun K hK => ?_
      clear hT hpre hun hlit hoi
      go_simp
      go_at_call 58
      refine (awake58 _).mono ?_; rintro e w2 ⟨rfl, hb⟩; replace ac0 := ck hb (a := ⟨ka, 0, none⟩) (v := .int .i64 a0) (by go_simp); replace ac1 := ck hb (a := ⟨ka, 1, none⟩) (v := .int .i64 a1) (by go_simp); replace bc0 := ck hb (a := ⟨kb, 0, none⟩) (v := .int .i64 b0) (by go_simp); replace bc1 := ck hb (a := ⟨kb, 1, none⟩) (v := .int .i64 b1) (by go_simp); replace cc0 := ck hb (a := ⟨kc, 0, none⟩) (v := .int .i64 c0) (by go_simp); replace cc1 := ck hb (a := ⟨kc, 1, none⟩) (v := .int .i64 c1) (by go_simp); replace HB : Below W.heap.size W w2 := bt HB hb; clear hb
      exact hK _ _ ⟨(), fun _ _ => rfl, rfl, ac0, ac1, bc0, bc1, cc0, cc1, HB⟩
    · have hlit : (regOps Try.f17 7)[40]? = some ({ dst := some 110, op := Op.pick (Operand.tmp 108) (Operand.tmp 109) (Operand.const (Value.bool false)), type := 4, pos := "law.go:81", after := #[{ on := 38, ground := Ground.data }, { on := 39, ground := Ground.data }], guard := none }) := by kernel_rfl
      obtain rfl := Option.some.inj (hlit.symm.trans hoi)
      have r108 : b.tmps.getD 108 undef = (.bool true) := rd (hT.at 38 (by kernel_rfl) (pre_of hpre 38 (by kernel_rfl)))
      have r109 : b.tmps.getD 109 undef = (.bool true) := rd (hT.at 39 (by kernel_rfl) (pre_of hpre 39 (by kernel_rfl)))
      refine op_go hoi (want_all rfl) fun K hK => ?_
      clear hT hpre hun hlit hoi
      go_simp
      exact hK _ _ ⟨(), fun _ _ => rfl, rfl, ac0, ac1, bc0, bc1, cc0, cc1, HB⟩
    · have hlit : (regOps Try.f17 7)[41]? = some ({ dst := some 8, op := Op.assign (Operand.tmp 110), type := 4, pos := "law.go:81", after := #[{ on := 40, ground := Ground.data }, { on := 39, ground := Ground.chain }, { on := 0, ground := Ground.phase }, { on := 1, ground := Ground.phase }, { on := 2, ground := Ground.phase }, { on := 3, ground := Ground.phase }, { on := 4, ground := Ground.phase }, { on := 5, ground := Ground.phase }, { on := 6, ground := Ground.phase }, { on := 7, ground := Ground.phase }, { on := 8, ground := Ground.phase }, { on := 9, ground := Ground.phase }, { on := 10, ground := Ground.phase }, { on := 11, ground := Ground.phase }, { on := 12, ground := Ground.phase }, { on := 13, ground := Ground.phase }, { on := 14, ground := Ground.phase }, { on := 15, ground := Ground.phase }, { on := 16, ground := Ground.phase }, { on := 17, ground := Ground.phase }, { on := 18, ground := Ground.phase }, { on := 19, ground := Ground.phase }, { on := 20, ground := Ground.phase }, { on := 21, ground := Ground.phase }, { on := 22, ground := Ground.phase }, { on := 23, ground := Ground.phase }, { on := 24, ground := Ground.phase }, { on := 25, ground := Ground.phase }, { on := 26, ground := Ground.phase }, { on := 27, ground := Ground.phase }, { on := 28, ground := Ground.phase }, { on := 29, ground := Ground.phase }, { on := 30, ground := Ground.phase }, { on := 31, ground := Ground.phase }, { on := 32, ground := Ground.phase }, { on := 33, ground := Ground.phase }, { on := 34, ground := Ground.phase }, { on := 35, ground := Ground.phase }, { on := 36, ground := Ground.phase }, { on := 37, ground := Ground.phase }, { on := 38, ground := Ground.phase }, { on := 39, ground := Ground.phase }, { on := 40, ground := Ground.phase }], guard := none }) := by kernel_rfl
      obtain rfl := Option.some.inj (hlit.symm.trans hoi)
      have r110 : b.tmps.getD 110 undef = (.bool true) := rd (hT.at 40 (by kernel_rfl) (pre_of hpre 40 (by kernel_rfl)))
      refine op_go hoi (want_all rfl) fun K hK => ?_
      clear hT hpre hun hlit hoi
      go_simp
      exact hK _ _ ⟨(), fun _ _ => rfl, rfl, ac0, ac1, bc0, bc1, cc0, cc1, HB⟩
  · intro g b w' hT hS
    rw [hT.all ht]
    have hn : (regOps Try.f17 7).size = 42 := by kernel_rfl
    rw [hn]
    exact he w' hS

end Go.Proofs.Ytandgbpbabmdfaa
