import Derived.Test.YtandgbpbabmdfaaT53
import Derived.Test.YtandgbpbabmdfaaT51
import Derived.Test.YtandgbpbabmdfaaT19
import Derived.Test.YtandgbpbabmdfaaT18
namespace Go.Proofs.Ytandgbpbabmdfaa
open Go.RowKit
attribute [local go_sem high] eq23 eq25 mn_two mx_two mn_three mx_three mx_four

/-- What each operation of the region leaves. -/
def region8V (d0 d1 e0 e1 f0 f1 a0 a1 b0 b1 r0 r1 r2 r3 : Int) : Nat → Value
  | 0 => .agg #[.int .i64 r0, .int .i64 r1, .int .i64 r2, .int .i64 r3]
  | 1 => .bool (win r0 r1 r2 r3)
  | 2 => .agg #[.int .i64 r0, .int .i64 r1, .int .i64 r2, .int .i64 r3]
  | 3 => .bool (win r0 r1 r2 r3)
  | 4 => .bool true
  | 5 => .bool true
  | 6 => .agg #[.int .i64 d0, .int .i64 d1, .int .i64 e0, .int .i64 e1, .int .i64 f0, .int .i64 f1]
  | 7 => .agg #[.int .i64 r0, .int .i64 r1, .int .i64 r2, .int .i64 r3]
  | 8 => .bool (ovl ⟨⟨d0, d1⟩, ⟨e0, e1⟩, ⟨f0, f1⟩⟩ r0 r1 r2 r3)
  | 9 => .agg #[.int .i64 d0, .int .i64 d1, .int .i64 e0, .int .i64 e1, .int .i64 f0, .int .i64 f1]
  | 10 => .agg #[.int .i64 r0, .int .i64 r1, .int .i64 r2, .int .i64 r3]
  | 11 => .bool (ovl ⟨⟨d0, d1⟩, ⟨e0, e1⟩, ⟨f0, f1⟩⟩ r0 r1 r2 r3)
  | 12 => .bool true
  | 13 => .bool true
  | 14 => .bool true
  | 15 => .agg #[.int .i64 d0, .int .i64 d1, .int .i64 e0, .int .i64 e1, .int .i64 f0, .int .i64 f1]
  | 16 => .agg #[.int .i64 a0, .int .i64 a1]
  | 17 => .agg #[.int .i64 b0, .int .i64 b1]
  | 18 => .bool (along ⟨⟨d0, d1⟩, ⟨e0, e1⟩, ⟨f0, f1⟩⟩ ⟨a0, a1⟩ ⟨b0, b1⟩)
  | 19 => .agg #[.int .i64 d0, .int .i64 d1, .int .i64 e0, .int .i64 e1, .int .i64 f0, .int .i64 f1]
  | 20 => .agg #[.int .i64 a0, .int .i64 a1]
  | 21 => .agg #[.int .i64 b0, .int .i64 b1]
  | 22 => .bool (along ⟨⟨d0, d1⟩, ⟨e0, e1⟩, ⟨f0, f1⟩⟩ ⟨a0, a1⟩ ⟨b0, b1⟩)
  | 23 => .bool true
  | 24 => .bool true
  | 25 => .bool true
  | 26 => .bool true
  | 27 => .bool true
  | 28 => .bool true
  | _ => undef

set_option maxHeartbeats 4000000 in
set_option maxRecDepth 100000 in
theorem region8 (d0 d1 e0 e1 f0 f1 a0 a1 b0 b1 r0 r1 r2 r3 : Int) (kt kr ka kb : Nat) (W : World)  {id : Nat} {ops : Array Oper} {Q : Exit → Act → World → Prop} {a : Act} {w : World}
    (ho : ops = (regOps Try.f8 1)) (hsz : a.tmps.size = 37) (t4 : a.tmps[4]? = some (.pointer (some ⟨kt, 0, none⟩))) (t5 : a.tmps[5]? = some (.pointer (some ⟨kr, 0, none⟩))) (t6 : a.tmps[6]? = some (.pointer (some ⟨ka, 0, none⟩))) (t7 : a.tmps[7]? = some (.pointer (some ⟨kb, 0, none⟩)))
    (h0 : w.drew.cell? ⟨kt, 0, none⟩ = some (.int .i64 d0) ∧ w.drew.cell? ⟨kt, 1, none⟩ = some (.int .i64 d1) ∧ w.drew.cell? ⟨kt, 2, none⟩ = some (.int .i64 e0) ∧ w.drew.cell? ⟨kt, 3, none⟩ = some (.int .i64 e1) ∧ w.drew.cell? ⟨kt, 4, none⟩ = some (.int .i64 f0) ∧ w.drew.cell? ⟨kt, 5, none⟩ = some (.int .i64 f1) ∧ w.drew.cell? ⟨kr, 0, none⟩ = some (.int .i64 r0) ∧ w.drew.cell? ⟨kr, 1, none⟩ = some (.int .i64 r1) ∧ w.drew.cell? ⟨kr, 2, none⟩ = some (.int .i64 r2) ∧ w.drew.cell? ⟨kr, 3, none⟩ = some (.int .i64 r3) ∧ w.drew.cell? ⟨ka, 0, none⟩ = some (.int .i64 a0) ∧ w.drew.cell? ⟨ka, 1, none⟩ = some (.int .i64 a1) ∧ w.drew.cell? ⟨kb, 0, none⟩ = some (.int .i64 b0) ∧ w.drew.cell? ⟨kb, 1, none⟩ = some (.int .i64 b1) ∧ Below W.heap.size W w.drew)
    (he : ∀ w', w'.cell? ⟨kt, 0, none⟩ = some (.int .i64 d0) ∧ w'.cell? ⟨kt, 1, none⟩ = some (.int .i64 d1) ∧ w'.cell? ⟨kt, 2, none⟩ = some (.int .i64 e0) ∧ w'.cell? ⟨kt, 3, none⟩ = some (.int .i64 e1) ∧ w'.cell? ⟨kt, 4, none⟩ = some (.int .i64 f0) ∧ w'.cell? ⟨kt, 5, none⟩ = some (.int .i64 f1) ∧ w'.cell? ⟨kr, 0, none⟩ = some (.int .i64 r0) ∧ w'.cell? ⟨kr, 1, none⟩ = some (.int .i64 r1) ∧ w'.cell? ⟨kr, 2, none⟩ = some (.int .i64 r2) ∧ w'.cell? ⟨kr, 3, none⟩ = some (.int .i64 r3) ∧ w'.cell? ⟨ka, 0, none⟩ = some (.int .i64 a0) ∧ w'.cell? ⟨ka, 1, none⟩ = some (.int .i64 a1) ∧ w'.cell? ⟨kb, 0, none⟩ = some (.int .i64 b0) ∧ w'.cell? ⟨kb, 1, none⟩ = some (.int .i64 b1) ∧ Below W.heap.size W w' → Q .normal ⟨(((((((((((((((((((((((((((((a.tmps.setIfInBounds 9 (.agg #[.int .i64 r0, .int .i64 r1, .int .i64 r2, .int .i64 r3])).setIfInBounds 10 (.bool (win r0 r1 r2 r3))).setIfInBounds 11 (.agg #[.int .i64 r0, .int .i64 r1, .int .i64 r2, .int .i64 r3])).setIfInBounds 12 (.bool (win r0 r1 r2 r3))).setIfInBounds 13 (.bool true)).setIfInBounds 14 (.bool true)).setIfInBounds 15 (.agg #[.int .i64 d0, .int .i64 d1, .int .i64 e0, .int .i64 e1, .int .i64 f0, .int .i64 f1])).setIfInBounds 16 (.agg #[.int .i64 r0, .int .i64 r1, .int .i64 r2, .int .i64 r3])).setIfInBounds 17 (.bool (ovl ⟨⟨d0, d1⟩, ⟨e0, e1⟩, ⟨f0, f1⟩⟩ r0 r1 r2 r3))).setIfInBounds 18 (.agg #[.int .i64 d0, .int .i64 d1, .int .i64 e0, .int .i64 e1, .int .i64 f0, .int .i64 f1])).setIfInBounds 19 (.agg #[.int .i64 r0, .int .i64 r1, .int .i64 r2, .int .i64 r3])).setIfInBounds 20 (.bool (ovl ⟨⟨d0, d1⟩, ⟨e0, e1⟩, ⟨f0, f1⟩⟩ r0 r1 r2 r3))).setIfInBounds 21 (.bool true)).setIfInBounds 22 (.bool true)).setIfInBounds 23 (.bool true)).setIfInBounds 24 (.agg #[.int .i64 d0, .int .i64 d1, .int .i64 e0, .int .i64 e1, .int .i64 f0, .int .i64 f1])).setIfInBounds 25 (.agg #[.int .i64 a0, .int .i64 a1])).setIfInBounds 26 (.agg #[.int .i64 b0, .int .i64 b1])).setIfInBounds 27 (.bool (along ⟨⟨d0, d1⟩, ⟨e0, e1⟩, ⟨f0, f1⟩⟩ ⟨a0, a1⟩ ⟨b0, b1⟩))).setIfInBounds 28 (.agg #[.int .i64 d0, .int .i64 d1, .int .i64 e0, .int .i64 e1, .int .i64 f0, .int .i64 f1])).setIfInBounds 29 (.agg #[.int .i64 a0, .int .i64 a1])).setIfInBounds 30 (.agg #[.int .i64 b0, .int .i64 b1])).setIfInBounds 31 (.bool (along ⟨⟨d0, d1⟩, ⟨e0, e1⟩, ⟨f0, f1⟩⟩ ⟨a0, a1⟩ ⟨b0, b1⟩))).setIfInBounds 32 (.bool true)).setIfInBounds 33 (.bool true)).setIfInBounds 34 (.bool true)).setIfInBounds 35 (.bool true)).setIfInBounds 36 (.bool true)).setIfInBounds 8 (.bool true)), a.defers⟩ w') :
    (Code.region id ops true).wp Try.prog Q a w := by
  have ht : tidy (regOps Try.f8 1) a.tmps.size = true := by rw [hsz]; kernel_rfl
  refine region_tab (G := Unit) (fun _ => (region8V d0 d1 e0 e1 f0 f1 a0 a1 b0 b1 r0 r1 r2 r3  )) (fun _ _ w' => w'.cell? ⟨kt, 0, none⟩ = some (.int .i64 d0) ∧ w'.cell? ⟨kt, 1, none⟩ = some (.int .i64 d1) ∧ w'.cell? ⟨kt, 2, none⟩ = some (.int .i64 e0) ∧ w'.cell? ⟨kt, 3, none⟩ = some (.int .i64 e1) ∧ w'.cell? ⟨kt, 4, none⟩ = some (.int .i64 f0) ∧ w'.cell? ⟨kt, 5, none⟩ = some (.int .i64 f1) ∧ w'.cell? ⟨kr, 0, none⟩ = some (.int .i64 r0) ∧ w'.cell? ⟨kr, 1, none⟩ = some (.int .i64 r1) ∧ w'.cell? ⟨kr, 2, none⟩ = some (.int .i64 r2) ∧ w'.cell? ⟨kr, 3, none⟩ = some (.int .i64 r3) ∧ w'.cell? ⟨ka, 0, none⟩ = some (.int .i64 a0) ∧ w'.cell? ⟨ka, 1, none⟩ = some (.int .i64 a1) ∧ w'.cell? ⟨kb, 0, none⟩ = some (.int .i64 b0) ∧ w'.cell? ⟨kb, 1, none⟩ = some (.int .i64 b1) ∧ Below W.heap.size W w') () (by kernel_rfl) ho ht h0 ?_ ?_
  · intro i o hoi g L b w' hun hpre hT hS
    clear he h0 ho hsz ht
    have hi : i < (regOps Try.f8 1).size := (Array.getElem?_eq_some_iff.1 hoi).1
    rw [show (regOps Try.f8 1).size = 29 by kernel_rfl] at hi
    obtain ⟨tc0, tc1, tc2, tc3, tc4, tc5, rc0, rc1, rc2, rc3, ac0, ac1, bc0, bc1, HB⟩ := hS
    have hcases : i = 0 ∨ i = 1 ∨ i = 2 ∨ i = 3 ∨ i = 4 ∨ i = 5 ∨ i = 6 ∨ i = 7 ∨ i = 8 ∨ i = 9 ∨ i = 10 ∨ i = 11 ∨ i = 12 ∨ i = 13 ∨ i = 14 ∨ i = 15 ∨ i = 16 ∨ i = 17 ∨ i = 18 ∨ i = 19 ∨ i = 20 ∨ i = 21 ∨ i = 22 ∨ i = 23 ∨ i = 24 ∨ i = 25 ∨ i = 26 ∨ i = 27 ∨ i = 28 := by omega
    rcases hcases with rfl | rfl | rfl | rfl | rfl | rfl | rfl | rfl | rfl | rfl | rfl | rfl | rfl | rfl | rfl | rfl | rfl | rfl | rfl | rfl | rfl | rfl | rfl | rfl | rfl | rfl | rfl | rfl | rfl
    · have hlit : (regOps Try.f8 1)[0]? = some ({ dst := some 9, op := Op.load 48 (Operand.tmp 5), type := 48, pos := "law.go:19", after := #[], guard := none }) := by kernel_rfl
      obtain rfl := Option.some.inj (hlit.symm.trans hoi)
      have r5 : b.tmps.getD 5 undef = (.pointer (some ⟨kr, 0, none⟩)) := rd ((hT.old 5 (by kernel_rfl)).trans t5)
      refine op_go hoi (want_all rfl) fun K hK => ?_
      clear hT hpre hun hlit hoi
      go_simp
      exact hK _ _ ⟨(), fun _ _ => rfl, rfl, tc0, tc1, tc2, tc3, tc4, tc5, rc0, rc1, rc2, rc3, ac0, ac1, bc0, bc1, HB⟩
    · have hlit : (regOps Try.f8 1)[1]? = some ({ dst := some 10, op := Op.call { callee := Callee.value (Operand.func 41), args := #[Operand.tmp 9], argTypes := #[48] }, type := 4, pos := "law.go:19", after := #[{ on := 0, ground := Ground.data }], guard := none }) := by kernel_rfl
      obtain rfl := Option.some.inj (hlit.symm.trans hoi)
      have r9 : b.tmps.getD 9 undef = (.agg #[.int .i64 r0, .int .i64 r1, .int .i64 r2, .int .i64 r3]) := rd (hT.at 0 (by kernel_rfl) (pre_of hpre 0 (by kernel_rfl)))
      refine op_go hoi (want_all rfl) fun K hK => ?_
      clear hT hpre hun hlit hoi
      go_simp
      go_at_call 41
      refine (win41 _ _ _ _ _).mono ?_; rintro e w2 ⟨rfl, hb⟩; replace tc0 := ck hb (a := ⟨kt, 0, none⟩) (v := .int .i64 d0) (by go_simp); replace tc1 := ck hb (a := ⟨kt, 1, none⟩) (v := .int .i64 d1) (by go_simp); replace tc2 := ck hb (a := ⟨kt, 2, none⟩) (v := .int .i64 e0) (by go_simp); replace tc3 := ck hb (a := ⟨kt, 3, none⟩) (v := .int .i64 e1) (by go_simp); replace tc4 := ck hb (a := ⟨kt, 4, none⟩) (v := .int .i64 f0) (by go_simp); replace tc5 := ck hb (a := ⟨kt, 5, none⟩) (v := .int .i64 f1) (by go_simp); replace rc0 := ck hb (a := ⟨kr, 0, none⟩) (v := .int .i64 r0) (by go_simp); replace rc1 := ck hb (a := ⟨kr, 1, none⟩) (v := .int .i64 r1) (by go_simp); replace rc2 := ck hb (a := ⟨kr, 2, none⟩) (v := .int .i64 r2) (by go_simp); replace rc3 := ck hb (a := ⟨kr, 3, none⟩) (v := .int .i64 r3) (by go_simp); replace ac0 := ck hb (a := ⟨ka, 0, none⟩) (v := .int .i64 a0) (by go_simp); replace ac1 := ck hb (a := ⟨ka, 1, none⟩) (v := .int .i64 a1) (by go_simp); replace bc0 := ck hb (a := ⟨kb, 0, none⟩) (v := .int .i64 b0) (by go_simp); replace bc1 := ck hb (a := ⟨kb, 1, none⟩) (v := .int .i64 b1) (by go_simp); replace HB : Below W.heap.size W w2 := bt HB hb; clear hb
      exact hK _ _ ⟨(), fun _ _ => rfl, rfl, tc0, tc1, tc2, tc3, tc4, tc5, rc0, rc1, rc2, rc3, ac0, ac1, bc0, bc1, HB⟩
    · have hlit : (regOps Try.f8 1)[2]? = some ({ dst := some 11, op := Op.load 48 (Operand.tmp 5), type := 48, pos := "law.go:19", after := #[], guard := none }) := by kernel_rfl
      obtain rfl := Option.some.inj (hlit.symm.trans hoi)
      have r5 : b.tmps.getD 5 undef = (.pointer (some ⟨kr, 0, none⟩)) := rd ((hT.old 5 (by kernel_rfl)).trans t5)
      refine op_go hoi (want_all rfl) fun K hK => ?_
      clear hT hpre hun hlit hoi
      go_simp
      exact hK _ _ ⟨(), fun _ _ => rfl, rfl, tc0, tc1, tc2, tc3, tc4, tc5, rc0, rc1, rc2, rc3, ac0, ac1, bc0, bc1, HB⟩
    · have hlit : (regOps Try.f8 1)[3]? = some ({ dst := some 12, op := Op.call { callee := Callee.value (Operand.func 42), args := #[Operand.tmp 11], argTypes := #[48] }, type := 4, pos := "law.go:19", after := #[{ on := 2, ground := Ground.data }, { on := 1, ground := Ground.chain }], guard := none }) := by kernel_rfl
      obtain rfl := Option.some.inj (hlit.symm.trans hoi)
      have r11 : b.tmps.getD 11 undef = (.agg #[.int .i64 r0, .int .i64 r1, .int .i64 r2, .int .i64 r3]) := rd (hT.at 2 (by kernel_rfl) (pre_of hpre 2 (by kernel_rfl)))
      refine op_go hoi (want_all rfl) fun K hK => ?_
      clear hT hpre hun hlit hoi
      go_simp
      go_at_call 42
      refine (win42 _ _ _ _ _).mono ?_; rintro e w2 ⟨rfl, hb⟩; replace tc0 := ck hb (a := ⟨kt, 0, none⟩) (v := .int .i64 d0) (by go_simp); replace tc1 := ck hb (a := ⟨kt, 1, none⟩) (v := .int .i64 d1) (by go_simp); replace tc2 := ck hb (a := ⟨kt, 2, none⟩) (v := .int .i64 e0) (by go_simp); replace tc3 := ck hb (a := ⟨kt, 3, none⟩) (v := .int .i64 e1) (by go_simp); replace tc4 := ck hb (a := ⟨kt, 4, none⟩) (v := .int .i64 f0) (by go_simp); replace tc5 := ck hb (a := ⟨kt, 5, none⟩) (v := .int .i64 f1) (by go_simp); replace rc0 := ck hb (a := ⟨kr, 0, none⟩) (v := .int .i64 r0) (by go_simp); replace rc1 := ck hb (a := ⟨kr, 1, none⟩) (v := .int .i64 r1) (by go_simp); replace rc2 := ck hb (a := ⟨kr, 2, none⟩) (v := .int .i64 r2) (by go_simp); replace rc3 := ck hb (a := ⟨kr, 3, none⟩) (v := .int .i64 r3) (by go_simp); replace ac0 := ck hb (a := ⟨ka, 0, none⟩) (v := .int .i64 a0) (by go_simp); replace ac1 := ck hb (a := ⟨ka, 1, none⟩) (v := .int .i64 a1) (by go_simp); replace bc0 := ck hb (a := ⟨kb, 0, none⟩) (v := .int .i64 b0) (by go_simp); replace bc1 := ck hb (a := ⟨kb, 1, none⟩) (v := .int .i64 b1) (by go_simp); replace HB : Below W.heap.size W w2 := bt HB hb; clear hb
      exact hK _ _ ⟨(), fun _ _ => rfl, rfl, tc0, tc1, tc2, tc3, tc4, tc5, rc0, rc1, rc2, rc3, ac0, ac1, bc0, bc1, HB⟩
    · have hlit : (regOps Try.f8 1)[4]? = some ({ dst := some 13, op := Op.binOp BinOp.eql 4 (Operand.tmp 10) (Operand.tmp 12) 4, type := 4, pos := "law.go:19", after := #[{ on := 1, ground := Ground.data }, { on := 3, ground := Ground.data }], guard := none }) := by kernel_rfl
      obtain rfl := Option.some.inj (hlit.symm.trans hoi)
      have r10 : b.tmps.getD 10 undef = (.bool (win r0 r1 r2 r3)) := rd (hT.at 1 (by kernel_rfl) (pre_of hpre 1 (by kernel_rfl)))
      have r12 : b.tmps.getD 12 undef = (.bool (win r0 r1 r2 r3)) := rd (hT.at 3 (by kernel_rfl) (pre_of hpre 3 (by kernel_rfl)))
      refine op_go hoi (want_all rfl) fun K hK => ?_
      clear hT hpre hun hlit hoi
      go_simp
      exact hK _ _ ⟨(), fun _ _ => rfl, rfl, tc0, tc1, tc2, tc3, tc4, tc5, rc0, rc1, rc2, rc3, ac0, ac1, bc0, bc1, HB⟩
    · have hlit : (regOps Try.f8 1)[5]? = some ({ dst := some 14, op := Op.move (Operand.tmp 13), type := 4, pos := "law.go:19", after := #[{ on := 4, ground := Ground.data }, { on := 3, ground := Ground.chain }], guard := none }) := by kernel_rfl
      obtain rfl := Option.some.inj (hlit.symm.trans hoi)
      have r13 : b.tmps.getD 13 undef = (.bool true) := rd (hT.at 4 (by kernel_rfl) (pre_of hpre 4 (by kernel_rfl)))
      refine op_go hoi (want_all rfl) fun K hK => ?_
      clear hT hpre hun hlit hoi
      go_simp
      exact hK _ _ ⟨(), fun _ _ => rfl, rfl, tc0, tc1, tc2, tc3, tc4, tc5, rc0, rc1, rc2, rc3, ac0, ac1, bc0, bc1, HB⟩
    · have hlit : (regOps Try.f8 1)[6]? = some ({ dst := some 15, op := Op.load 25 (Operand.tmp 4), type := 25, pos := "law.go:19", after := #[{ on := 5, ground := Ground.guard }], guard := some (5, true) }) := by kernel_rfl
      obtain rfl := Option.some.inj (hlit.symm.trans hoi)
      have r4 : b.tmps.getD 4 undef = (.pointer (some ⟨kt, 0, none⟩)) := rd ((hT.old 4 (by kernel_rfl)).trans t4)
      refine op_go hoi (want_yes rfl (d := 14) (by kernel_rfl) (hT.at 5 (by kernel_rfl) (pre_of hpre 5 (by kernel_rfl)))) fun K hK => ?_
      clear hT hpre hun hlit hoi
      go_simp
      exact hK _ _ ⟨(), fun _ _ => rfl, rfl, tc0, tc1, tc2, tc3, tc4, tc5, rc0, rc1, rc2, rc3, ac0, ac1, bc0, bc1, HB⟩
    · have hlit : (regOps Try.f8 1)[7]? = some ({ dst := some 16, op := Op.load 48 (Operand.tmp 5), type := 48, pos := "law.go:19", after := #[{ on := 5, ground := Ground.guard }], guard := some (5, true) }) := by kernel_rfl
      obtain rfl := Option.some.inj (hlit.symm.trans hoi)
      have r5 : b.tmps.getD 5 undef = (.pointer (some ⟨kr, 0, none⟩)) := rd ((hT.old 5 (by kernel_rfl)).trans t5)
      refine op_go hoi (want_yes rfl (d := 14) (by kernel_rfl) (hT.at 5 (by kernel_rfl) (pre_of hpre 5 (by kernel_rfl)))) fun K hK => ?_
      clear hT hpre hun hlit hoi
      go_simp
      exact hK _ _ ⟨(), fun _ _ => rfl, rfl, tc0, tc1, tc2, tc3, tc4, tc5, rc0, rc1, rc2, rc3, ac0, ac1, bc0, bc1, HB⟩
    · have hlit : (regOps Try.f8 1)[8]? = some ({ dst := some 17, op := Op.call { callee := Callee.value (Operand.func 43), args := #[Operand.tmp 15, Operand.tmp 16], argTypes := #[25, 48] }, type := 4, pos := "law.go:19", after := #[{ on := 6, ground := Ground.data }, { on := 7, ground := Ground.data }, { on := 5, ground := Ground.chain }, { on := 5, ground := Ground.guard }], guard := some (5, true) }) := by kernel_rfl
      obtain rfl := Option.some.inj (hlit.symm.trans hoi)
      have r15 : b.tmps.getD 15 undef = (.agg #[.int .i64 d0, .int .i64 d1, .int .i64 e0, .int .i64 e1, .int .i64 f0, .int .i64 f1]) := rd (hT.at 6 (by kernel_rfl) (pre_of hpre 6 (by kernel_rfl)))
      have r16 : b.tmps.getD 16 undef = (.agg #[.int .i64 r0, .int .i64 r1, .int .i64 r2, .int .i64 r3]) := rd (hT.at 7 (by kernel_rfl) (pre_of hpre 7 (by kernel_rfl)))
      refine op_go hoi (want_yes rfl (d := 14) (by kernel_rfl) (hT.at 5 (by kernel_rfl) (pre_of hpre 5 (by kernel_rfl)))) fun K hK => ?_
      clear hT hpre hun hlit hoi
      go_simp
      go_at_call 43
      refine (ovl43 _ _ _ _ _ _ _ _ _ _ _).mono ?_; rintro e w2 ⟨rfl, hb⟩; replace tc0 := ck hb (a := ⟨kt, 0, none⟩) (v := .int .i64 d0) (by go_simp); replace tc1 := ck hb (a := ⟨kt, 1, none⟩) (v := .int .i64 d1) (by go_simp); replace tc2 := ck hb (a := ⟨kt, 2, none⟩) (v := .int .i64 e0) (by go_simp); replace tc3 := ck hb (a := ⟨kt, 3, none⟩) (v := .int .i64 e1) (by go_simp); replace tc4 := ck hb (a := ⟨kt, 4, none⟩) (v := .int .i64 f0) (by go_simp); replace tc5 := ck hb (a := ⟨kt, 5, none⟩) (v := .int .i64 f1) (by go_simp); replace rc0 := ck hb (a := ⟨kr, 0, none⟩) (v := .int .i64 r0) (by go_simp); replace rc1 := ck hb (a := ⟨kr, 1, none⟩) (v := .int .i64 r1) (by go_simp); replace rc2 := ck hb (a := ⟨kr, 2, none⟩) (v := .int .i64 r2) (by go_simp); replace rc3 := ck hb (a := ⟨kr, 3, none⟩) (v := .int .i64 r3) (by go_simp); replace ac0 := ck hb (a := ⟨ka, 0, none⟩) (v := .int .i64 a0) (by go_simp); replace ac1 := ck hb (a := ⟨ka, 1, none⟩) (v := .int .i64 a1) (by go_simp); replace bc0 := ck hb (a := ⟨kb, 0, none⟩) (v := .int .i64 b0) (by go_simp); replace bc1 := ck hb (a := ⟨kb, 1, none⟩) (v := .int .i64 b1) (by go_simp); replace HB : Below W.heap.size W w2 := bt HB hb; clear hb
      exact hK _ _ ⟨(), fun _ _ => rfl, rfl, tc0, tc1, tc2, tc3, tc4, tc5, rc0, rc1, rc2, rc3, ac0, ac1, bc0, bc1, HB⟩
    · have hlit : (regOps Try.f8 1)[9]? = some ({ dst := some 18, op := Op.load 25 (Operand.tmp 4), type := 25, pos := "law.go:19", after := #[{ on := 5, ground := Ground.guard }], guard := some (5, true) }) := by kernel_rfl
      obtain rfl := Option.some.inj (hlit.symm.trans hoi)
      have r4 : b.tmps.getD 4 undef = (.pointer (some ⟨kt, 0, none⟩)) := rd ((hT.old 4 (by kernel_rfl)).trans t4)
      refine op_go hoi (want_yes rfl (d := 14) (by kernel_rfl) (hT.at 5 (by kernel_rfl) (pre_of hpre 5 (by kernel_rfl)))) fun K hK => ?_
      clear hT hpre hun hlit hoi
      go_simp
      exact hK _ _ ⟨(), fun _ _ => rfl, rfl, tc0, tc1, tc2, tc3, tc4, tc5, rc0, rc1, rc2, rc3, ac0, ac1, bc0, bc1, HB⟩
    · have hlit : (regOps Try.f8 1)[10]? = some ({ dst := some 19, op := Op.load 48 (Operand.tmp 5), type := 48, pos := "law.go:19", after := #[{ on := 5, ground := Ground.guard }], guard := some (5, true) }) := by kernel_rfl
      obtain rfl := Option.some.inj (hlit.symm.trans hoi)
      have r5 : b.tmps.getD 5 undef = (.pointer (some ⟨kr, 0, none⟩)) := rd ((hT.old 5 (by kernel_rfl)).trans t5)
      refine op_go hoi (want_yes rfl (d := 14) (by kernel_rfl) (hT.at 5 (by kernel_rfl) (pre_of hpre 5 (by kernel_rfl)))) fun K hK => ?_
      clear hT hpre hun hlit hoi
      go_simp
      exact hK _ _ ⟨(), fun _ _ => rfl, rfl, tc0, tc1, tc2, tc3, tc4, tc5, rc0, rc1, rc2, rc3, ac0, ac1, bc0, bc1, HB⟩
    · have hlit : (regOps Try.f8 1)[11]? = some ({ dst := some 20, op := Op.call { callee := Callee.value (Operand.func 44), args := #[Operand.tmp 18, Operand.tmp 19], argTypes := #[25, 48] }, type := 4, pos := "law.go:19", after := #[{ on := 9, ground := Ground.data }, { on := 10, ground := Ground.data }, { on := 8, ground := Ground.chain }, { on := 5, ground := Ground.guard }], guard := some (5, true) }) := by kernel_rfl
      obtain rfl := Option.some.inj (hlit.symm.trans hoi)
      have r18 : b.tmps.getD 18 undef = (.agg #[.int .i64 d0, .int .i64 d1, .int .i64 e0, .int .i64 e1, .int .i64 f0, .int .i64 f1]) := rd (hT.at 9 (by kernel_rfl) (pre_of hpre 9 (by kernel_rfl)))
      have r19 : b.tmps.getD 19 undef = (.agg #[.int .i64 r0, .int .i64 r1, .int .i64 r2, .int .i64 r3]) := rd (hT.at 10 (by kernel_rfl) (pre_of hpre 10 (by kernel_rfl)))
      refine op_go hoi (want_yes rfl (d := 14) (by kernel_rfl) (hT.at 5 (by kernel_rfl) (pre_of hpre 5 (by kernel_rfl)))) fun K hK => ?_
      clear hT hpre hun hlit hoi
      go_simp
      go_at_call 44
      refine (ovl44 _ _ _ _ _ _ _ _ _ _ _).mono ?_; rintro e w2 ⟨rfl, hb⟩; replace tc0 := ck hb (a := ⟨kt, 0, none⟩) (v := .int .i64 d0) (by go_simp); replace tc1 := ck hb (a := ⟨kt, 1, none⟩) (v := .int .i64 d1) (by go_simp); replace tc2 := ck hb (a := ⟨kt, 2, none⟩) (v := .int .i64 e0) (by go_simp); replace tc3 := ck hb (a := ⟨kt, 3, none⟩) (v := .int .i64 e1) (by go_simp); replace tc4 := ck hb (a := ⟨kt, 4, none⟩) (v := .int .i64 f0) (by go_simp); replace tc5 := ck hb (a := ⟨kt, 5, none⟩) (v := .int .i64 f1) (by go_simp); replace rc0 := ck hb (a := ⟨kr, 0, none⟩) (v := .int .i64 r0) (by go_simp); replace rc1 := ck hb (a := ⟨kr, 1, none⟩) (v := .int .i64 r1) (by go_simp); replace rc2 := ck hb (a := ⟨kr, 2, none⟩) (v := .int .i64 r2) (by go_simp); replace rc3 := ck hb (a := ⟨kr, 3, none⟩) (v := .int .i64 r3) (by go_simp); replace ac0 := ck hb (a := ⟨ka, 0, none⟩) (v := .int .i64 a0) (by go_simp); replace ac1 := ck hb (a := ⟨ka, 1, none⟩) (v := .int .i64 a1) (by go_simp); replace bc0 := ck hb (a := ⟨kb, 0, none⟩) (v := .int .i64 b0) (by go_simp); replace bc1 := ck hb (a := ⟨kb, 1, none⟩) (v := .int .i64 b1) (by go_simp); replace HB : Below W.heap.size W w2 := bt HB hb; clear hb
      exact hK _ _ ⟨(), fun _ _ => rfl, rfl, tc0, tc1, tc2, tc3, tc4, tc5, rc0, rc1, rc2, rc3, ac0, ac1, bc0, bc1, HB⟩
    · have hlit : (regOps Try.f8 1)[12]? = some ({ dst := some 21, op := Op.binOp BinOp.eql 4 (Operand.tmp 17) (Operand.tmp 20) 4, type := 4, pos := "law.go:19", after := #[{ on := 8, ground := Ground.data }, { on := 11, ground := Ground.data }, { on := 5, ground := Ground.guard }], guard := some (5, true) }) := by kernel_rfl
      obtain rfl := Option.some.inj (hlit.symm.trans hoi)
      have r17 : b.tmps.getD 17 undef = (.bool (ovl ⟨⟨d0, d1⟩, ⟨e0, e1⟩, ⟨f0, f1⟩⟩ r0 r1 r2 r3)) := rd (hT.at 8 (by kernel_rfl) (pre_of hpre 8 (by kernel_rfl)))
      have r20 : b.tmps.getD 20 undef = (.bool (ovl ⟨⟨d0, d1⟩, ⟨e0, e1⟩, ⟨f0, f1⟩⟩ r0 r1 r2 r3)) := rd (hT.at 11 (by kernel_rfl) (pre_of hpre 11 (by kernel_rfl)))
      refine op_go hoi (want_yes rfl (d := 14) (by kernel_rfl) (hT.at 5 (by kernel_rfl) (pre_of hpre 5 (by kernel_rfl)))) fun K hK => ?_
      clear hT hpre hun hlit hoi
      go_simp
      exact hK _ _ ⟨(), fun _ _ => rfl, rfl, tc0, tc1, tc2, tc3, tc4, tc5, rc0, rc1, rc2, rc3, ac0, ac1, bc0, bc1, HB⟩
    · have hlit : (regOps Try.f8 1)[13]? = some ({ dst := some 22, op := Op.pick (Operand.tmp 14) (Operand.tmp 21) (Operand.const (Value.bool false)), type := 4, pos := "law.go:19", after := #[{ on := 5, ground := Ground.data }, { on := 12, ground := Ground.data }], guard := none }) := by kernel_rfl
      obtain rfl := Option.some.inj (hlit.symm.trans hoi)
      have r14 : b.tmps.getD 14 undef = (.bool true) := rd (hT.at 5 (by kernel_rfl) (pre_of hpre 5 (by kernel_rfl)))
      have r21 : b.tmps.getD 21 undef = (.bool true) := rd (hT.at 12 (by kernel_rfl) (pre_of hpre 12 (by kernel_rfl)))
      refine op_go hoi (want_all rfl) fun K hK => ?_
      clear hT hpre hun hlit hoi
      go_simp
      exact hK _ _ ⟨(), fun _ _ => rfl, rfl, tc0, tc1, tc2, tc3, tc4, tc5, rc0, rc1, rc2, rc3, ac0, ac1, bc0, bc1, HB⟩
    · have hlit : (regOps Try.f8 1)[14]? = some ({ dst := some 23, op := Op.move (Operand.tmp 22), type := 4, pos := "law.go:19", after := #[{ on := 13, ground := Ground.data }, { on := 11, ground := Ground.chain }], guard := none }) := by kernel_rfl
      obtain rfl := Option.some.inj (hlit.symm.trans hoi)
      have r22 : b.tmps.getD 22 undef = (.bool true) := rd (hT.at 13 (by kernel_rfl) (pre_of hpre 13 (by kernel_rfl)))
      refine op_go hoi (want_all rfl) fun K hK => ?_
      clear hT hpre hun hlit hoi
      go_simp
      exact hK _ _ ⟨(), fun _ _ => rfl, rfl, tc0, tc1, tc2, tc3, tc4, tc5, rc0, rc1, rc2, rc3, ac0, ac1, bc0, bc1, HB⟩
    · have hlit : (regOps Try.f8 1)[15]? = some ({ dst := some 24, op := Op.load 25 (Operand.tmp 4), type := 25, pos := "law.go:19", after := #[{ on := 14, ground := Ground.guard }], guard := some (14, true) }) := by kernel_rfl
      obtain rfl := Option.some.inj (hlit.symm.trans hoi)
      have r4 : b.tmps.getD 4 undef = (.pointer (some ⟨kt, 0, none⟩)) := rd ((hT.old 4 (by kernel_rfl)).trans t4)
      refine op_go hoi (want_yes rfl (d := 23) (by kernel_rfl) (hT.at 14 (by kernel_rfl) (pre_of hpre 14 (by kernel_rfl)))) fun K hK => ?_
      clear hT hpre hun hlit hoi
      go_simp
      exact hK _ _ ⟨(), fun _ _ => rfl, rfl, tc0, tc1, tc2, tc3, tc4, tc5, rc0, rc1, rc2, rc3, ac0, ac1, bc0, bc1, HB⟩
    · have hlit : (regOps Try.f8 1)[16]? = some ({ dst := some 25, op := Op.load 23 (Operand.tmp 6), type := 23, pos := "law.go:19", after := #[{ on := 14, ground := Ground.guard }], guard := some (14, true) }) := by kernel_rfl
      obtain rfl := Option.some.inj (hlit.symm.trans hoi)
      have r6 : b.tmps.getD 6 undef = (.pointer (some ⟨ka, 0, none⟩)) := rd ((hT.old 6 (by kernel_rfl)).trans t6)
      refine op_go hoi (want_yes rfl (d := 23) (by kernel_rfl) (hT.at 14 (by kernel_rfl) (pre_of hpre 14 (by kernel_rfl)))) fun K hK => ?_
      clear hT hpre hun hlit hoi
      go_simp
      exact hK _ _ ⟨(), fun _ _ => rfl, rfl, tc0, tc1, tc2, tc3, tc4, tc5, rc0, rc1, rc2, rc3, ac0, ac1, bc0, bc1, HB⟩
    · have hlit : (regOps Try.f8 1)[17]? = some ({ dst := some 26, op := Op.load 23 (Operand.tmp 7), type := 23, pos := "law.go:19", after := #[{ on := 14, ground := Ground.guard }], guard := some (14, true) }) := by kernel_rfl
      obtain rfl := Option.some.inj (hlit.symm.trans hoi)
      have r7 : b.tmps.getD 7 undef = (.pointer (some ⟨kb, 0, none⟩)) := rd ((hT.old 7 (by kernel_rfl)).trans t7)
      refine op_go hoi (want_yes rfl (d := 23) (by kernel_rfl) (hT.at 14 (by kernel_rfl) (pre_of hpre 14 (by kernel_rfl)))) fun K hK => ?_
      clear hT hpre hun hlit hoi
      go_simp
      exact hK _ _ ⟨(), fun _ _ => rfl, rfl, tc0, tc1, tc2, tc3, tc4, tc5, rc0, rc1, rc2, rc3, ac0, ac1, bc0, bc1, HB⟩
    · have hlit : (regOps Try.f8 1)[18]? = some ({ dst := some 27, op := Op.call { callee := Callee.value (Operand.func 45), args := #[Operand.tmp 24, Operand.tmp 25, Operand.tmp 26], argTypes := #[25, 23, 23] }, type := 4, pos := "law.go:19", after := #[{ on := 15, ground := Ground.data }, { on := 16, ground := Ground.data }, { on := 17, ground := Ground.data }, { on := 14, ground := Ground.chain }, { on := 14, ground := Ground.guard }], guard := some (14, true) }) := by kernel_rfl
      obtain rfl := Option.some.inj (hlit.symm.trans hoi)
      have r24 : b.tmps.getD 24 undef = (.agg #[.int .i64 d0, .int .i64 d1, .int .i64 e0, .int .i64 e1, .int .i64 f0, .int .i64 f1]) := rd (hT.at 15 (by kernel_rfl) (pre_of hpre 15 (by kernel_rfl)))
      have r25 : b.tmps.getD 25 undef = (.agg #[.int .i64 a0, .int .i64 a1]) := rd (hT.at 16 (by kernel_rfl) (pre_of hpre 16 (by kernel_rfl)))
      have r26 : b.tmps.getD 26 undef = (.agg #[.int .i64 b0, .int .i64 b1]) := rd (hT.at 17 (by kernel_rfl) (pre_of hpre 17 (by kernel_rfl)))
      refine op_go hoi (want_yes rfl (d := 23) (by kernel_rfl) (hT.at 14 (by kernel_rfl) (pre_of hpre 14 (by kernel_rfl)))) fun K hK => ?_
      clear hT hpre hun hlit hoi
      go_simp
      go_at_call 45
      refine (along45 _ _ _ _ _ _ _ _ _ _ _).mono ?_; rintro e w2 ⟨rfl, hb⟩; replace tc0 := ck hb (a := ⟨kt, 0, none⟩) (v := .int .i64 d0) (by go_simp); replace tc1 := ck hb (a := ⟨kt, 1, none⟩) (v := .int .i64 d1) (by go_simp); replace tc2 := ck hb (a := ⟨kt, 2, none⟩) (v := .int .i64 e0) (by go_simp); replace tc3 := ck hb (a := ⟨kt, 3, none⟩) (v := .int .i64 e1) (by go_simp); replace tc4 := ck hb (a := ⟨kt, 4, none⟩) (v := .int .i64 f0) (by go_simp); replace tc5 := ck hb (a := ⟨kt, 5, none⟩) (v := .int .i64 f1) (by go_simp); replace rc0 := ck hb (a := ⟨kr, 0, none⟩) (v := .int .i64 r0) (by go_simp); replace rc1 := ck hb (a := ⟨kr, 1, none⟩) (v := .int .i64 r1) (by go_simp); replace rc2 := ck hb (a := ⟨kr, 2, none⟩) (v := .int .i64 r2) (by go_simp); replace rc3 := ck hb (a := ⟨kr, 3, none⟩) (v := .int .i64 r3) (by go_simp); replace ac0 := ck hb (a := ⟨ka, 0, none⟩) (v := .int .i64 a0) (by go_simp); replace ac1 := ck hb (a := ⟨ka, 1, none⟩) (v := .int .i64 a1) (by go_simp); replace bc0 := ck hb (a := ⟨kb, 0, none⟩) (v := .int .i64 b0) (by go_simp); replace bc1 := ck hb (a := ⟨kb, 1, none⟩) (v := .int .i64 b1) (by go_simp); replace HB : Below W.heap.size W w2 := bt HB hb; clear hb
      exact hK _ _ ⟨(), fun _ _ => rfl, rfl, tc0, tc1, tc2, tc3, tc4, tc5, rc0, rc1, rc2, rc3, ac0, ac1, bc0, bc1, HB⟩
    · have hlit : (regOps Try.f8 1)[19]? = some ({ dst := some 28, op := Op.load 25 (Operand.tmp 4), type := 25, pos := "law.go:19", after := #[{ on := 14, ground := Ground.guard }], guard := some (14, true) }) := by kernel_rfl
      obtain rfl := Option.some.inj (hlit.symm.trans hoi)
      have r4 : b.tmps.getD 4 undef = (.pointer (some ⟨kt, 0, none⟩)) := rd ((hT.old 4 (by kernel_rfl)).trans t4)
      refine op_go hoi (want_yes rfl (d := 23) (by kernel_rfl) (hT.at 14 (by kernel_rfl) (pre_of hpre 14 (by kernel_rfl)))) fun K hK => ?_
      clear hT hpre hun hlit hoi
      go_simp
      exact hK _ _ ⟨(), fun _ _ => rfl, rfl, tc0, tc1, tc2, tc3, tc4, tc5, rc0, rc1, rc2, rc3, ac0, ac1, bc0, bc1, HB⟩
    · have hlit : (regOps Try.f8 1)[20]? = some ({ dst := some 29, op := Op.load 23 (Operand.tmp 6), type := 23, pos := "law.go:19", after := #[{ on := 14, ground := Ground.guard }], guard := some (14, true) }) := by kernel_rfl
      obtain rfl := Option.some.inj (hlit.symm.trans hoi)
      have r6 : b.tmps.getD 6 undef = (.pointer (some ⟨ka, 0, none⟩)) := rd ((hT.old 6 (by kernel_rfl)).trans t6)
      refine op_go hoi (want_yes rfl (d := 23) (by kernel_rfl) (hT.at 14 (by kernel_rfl) (pre_of hpre 14 (by kernel_rfl)))) fun K hK => ?_
      clear hT hpre hun hlit hoi
      go_simp
      exact hK _ _ ⟨(), fun _ _ => rfl, rfl, tc0, tc1, tc2, tc3, tc4, tc5, rc0, rc1, rc2, rc3, ac0, ac1, bc0, bc1, HB⟩
    · have hlit : (regOps Try.f8 1)[21]? = some ({ dst := some 30, op := Op.load 23 (Operand.tmp 7), type := 23, pos := "law.go:19", after := #[{ on := 14, ground := Ground.guard }], guard := some (14, true) }) := by kernel_rfl
      obtain rfl := Option.some.inj (hlit.symm.trans hoi)
      have r7 : b.tmps.getD 7 undef = (.pointer (some ⟨kb, 0, none⟩)) := rd ((hT.old 7 (by kernel_rfl)).trans t7)
      refine op_go hoi (want_yes rfl (d := 23) (by kernel_rfl) (hT.at 14 (by kernel_rfl) (pre_of hpre 14 (by kernel_rfl)))) fun K hK => ?_
      clear hT hpre hun hlit hoi
      go_simp
      exact hK _ _ ⟨(), fun _ _ => rfl, rfl, tc0, tc1, tc2, tc3, tc4, tc5, rc0, rc1, rc2, rc3, ac0, ac1, bc0, bc1, HB⟩
    · have hlit : (regOps Try.f8 1)[22]? = some ({ dst := some 31, op := Op.call { callee := Callee.value (Operand.func 46), args := #[Operand.tmp 28, Operand.tmp 29, Operand.tmp 30], argTypes := #[25, 23, 23] }, type := 4, pos := "law.go:19", after := #[{ on := 19, ground := Ground.data }, { on := 20, ground := Ground.data }, { on := 21, ground := Ground.data }, { on := 18, ground := Ground.chain }, { on := 14, ground := Ground.guard }], guard := some (14, true) }) := by kernel_rfl
      obtain rfl := Option.some.inj (hlit.symm.trans hoi)
      have r28 : b.tmps.getD 28 undef = (.agg #[.int .i64 d0, .int .i64 d1, .int .i64 e0, .int .i64 e1, .int .i64 f0, .int .i64 f1]) := rd (hT.at 19 (by kernel_rfl) (pre_of hpre 19 (by kernel_rfl)))
      have r29 : b.tmps.getD 29 undef = (.agg #[.int .i64 a0, .int .i64 a1]) := rd (hT.at 20 (by kernel_rfl) (pre_of hpre 20 (by kernel_rfl)))
      have r30 : b.tmps.getD 30 undef = (.agg #[.int .i64 b0, .int .i64 b1]) := rd (hT.at 21 (by kernel_rfl) (pre_of hpre 21 (by kernel_rfl)))
      refine op_go hoi (want_yes rfl (d := 23) (by kernel_rfl) (hT.at 14 (by kernel_rfl) (pre_of hpre 14 (by kernel_rfl)))) fun K hK => ?_
      clear hT hpre hun hlit hoi
      go_simp
      go_at_call 46
      refine (along46 _ _ _ _ _ _ _ _ _ _ _).mono ?_; rintro e w2 ⟨rfl, hb⟩; replace tc0 := ck hb (a := ⟨kt, 0, none⟩) (v := .int .i64 d0) (by go_simp); replace tc1 := ck hb (a := ⟨kt, 1, none⟩) (v := .int .i64 d1) (by go_simp); replace tc2 := ck hb (a := ⟨kt, 2, none⟩) (v := .int .i64 e0) (by go_simp); replace tc3 := ck hb (a := ⟨kt, 3, none⟩) (v := .int .i64 e1) (by go_simp); replace tc4 := ck hb (a := ⟨kt, 4, none⟩) (v := .int .i64 f0) (by go_simp); replace tc5 := ck hb (a := ⟨kt, 5, none⟩) (v := .int .i64 f1) (by go_simp); replace rc0 := ck hb (a := ⟨kr, 0, none⟩) (v := .int .i64 r0) (by go_simp); replace rc1 := ck hb (a := ⟨kr, 1, none⟩) (v := .int .i64 r1) (by go_simp); replace rc2 := ck hb (a := ⟨kr, 2, none⟩) (v := .int .i64 r2) (by go_simp); replace rc3 := ck hb (a := ⟨kr, 3, none⟩) (v := .int .i64 r3) (by go_simp); replace ac0 := ck hb (a := ⟨ka, 0, none⟩) (v := .int .i64 a0) (by go_simp); replace ac1 := ck hb (a := ⟨ka, 1, none⟩) (v := .int .i64 a1) (by go_simp); replace bc0 := ck hb (a := ⟨kb, 0, none⟩) (v := .int .i64 b0) (by go_simp); replace bc1 := ck hb (a := ⟨kb, 1, none⟩) (v := .int .i64 b1) (by go_simp); replace HB : Below W.heap.size W w2 := bt HB hb; clear hb
      exact hK _ _ ⟨(), fun _ _ => rfl, rfl, tc0, tc1, tc2, tc3, tc4, tc5, rc0, rc1, rc2, rc3, ac0, ac1, bc0, bc1, HB⟩
    · have hlit : (regOps Try.f8 1)[23]? = some ({ dst := some 32, op := Op.binOp BinOp.eql 4 (Operand.tmp 27) (Operand.tmp 31) 4, type := 4, pos := "law.go:19", after := #[{ on := 18, ground := Ground.data }, { on := 22, ground := Ground.data }, { on := 14, ground := Ground.guard }], guard := some (14, true) }) := by kernel_rfl
      obtain rfl := Option.some.inj (hlit.symm.trans hoi)
      have r27 : b.tmps.getD 27 undef = (.bool (along ⟨⟨d0, d1⟩, ⟨e0, e1⟩, ⟨f0, f1⟩⟩ ⟨a0, a1⟩ ⟨b0, b1⟩)) := rd (hT.at 18 (by kernel_rfl) (pre_of hpre 18 (by kernel_rfl)))
      have r31 : b.tmps.getD 31 undef = (.bool (along ⟨⟨d0, d1⟩, ⟨e0, e1⟩, ⟨f0, f1⟩⟩ ⟨a0, a1⟩ ⟨b0, b1⟩)) := rd (hT.at 22 (by kernel_rfl) (pre_of hpre 22 (by kernel_rfl)))
      refine op_go hoi (want_yes rfl (d := 23) (by kernel_rfl) (hT.at 14 (by kernel_rfl) (pre_of hpre 14 (by kernel_rfl)))) fun K hK => ?_
      clear hT hpre hun hlit hoi
      go_simp
      exact hK _ _ ⟨(), fun _ _ => rfl, rfl, tc0, tc1, tc2, tc3, tc4, tc5, rc0, rc1, rc2, rc3, ac0, ac1, bc0, bc1, HB⟩
    · have hlit : (regOps Try.f8 1)[24]? = some ({ dst := some 33, op := Op.pick (Operand.tmp 23) (Operand.tmp 32) (Operand.const (Value.bool false)), type := 4, pos := "law.go:19", after := #[{ on := 14, ground := Ground.data }, { on := 23, ground := Ground.data }], guard := none }) := by kernel_rfl
      obtain rfl := Option.some.inj (hlit.symm.trans hoi)
      have r23 : b.tmps.getD 23 undef = (.bool true) := rd (hT.at 14 (by kernel_rfl) (pre_of hpre 14 (by kernel_rfl)))
      have r32 : b.tmps.getD 32 undef = (.bool true) := rd (hT.at 23 (by kernel_rfl) (pre_of hpre 23 (by kernel_rfl)))
      refine op_go hoi (want_all rfl) fun K hK => ?_
      clear hT hpre hun hlit hoi
      go_simp
      exact hK _ _ ⟨(), fun _ _ => rfl, rfl, tc0, tc1, tc2, tc3, tc4, tc5, rc0, rc1, rc2, rc3, ac0, ac1, bc0, bc1, HB⟩
    · have hlit : (regOps Try.f8 1)[25]? = some ({ dst := some 34, op := Op.move (Operand.tmp 33), type := 4, pos := "law.go:19", after := #[{ on := 24, ground := Ground.data }, { on := 22, ground := Ground.chain }], guard := none }) := by kernel_rfl
      obtain rfl := Option.some.inj (hlit.symm.trans hoi)
      have r33 : b.tmps.getD 33 undef = (.bool true) := rd (hT.at 24 (by kernel_rfl) (pre_of hpre 24 (by kernel_rfl)))
      refine op_go hoi (want_all rfl) fun K hK => ?_
      clear hT hpre hun hlit hoi
      go_simp
      exact hK _ _ ⟨(), fun _ _ => rfl, rfl, tc0, tc1, tc2, tc3, tc4, tc5, rc0, rc1, rc2, rc3, ac0, ac1, bc0, bc1, HB⟩
    · have hlit : (regOps Try.f8 1)[26]? = some ({ dst := some 35, op := Op.call { callee := Callee.value (Operand.func 47), args := #[], argTypes := #[] }, type := 4, pos := "law.go:19", after := #[{ on := 25, ground := Ground.chain }, { on := 25, ground := Ground.guard }], guard := some (25, true) }) := by kernel_rfl
      obtain rfl := Option.some.inj (hlit.symm.trans hoi)
      refine op_go hoi (want_yes rfl (d := 34) (by kernel_rfl) (hT.at 25 (by kernel_rfl) (pre_of hpre 25 (by kernel_rfl)))) fun K hK => ?_
      clear hT hpre hun hlit hoi
      go_simp
      go_at_call 47
      refine (awake47 _).mono ?_; rintro e w2 ⟨rfl, hb⟩; replace tc0 := ck hb (a := ⟨kt, 0, none⟩) (v := .int .i64 d0) (by go_simp); replace tc1 := ck hb (a := ⟨kt, 1, none⟩) (v := .int .i64 d1) (by go_simp); replace tc2 := ck hb (a := ⟨kt, 2, none⟩) (v := .int .i64 e0) (by go_simp); replace tc3 := ck hb (a := ⟨kt, 3, none⟩) (v := .int .i64 e1) (by go_simp); replace tc4 := ck hb (a := ⟨kt, 4, none⟩) (v := .int .i64 f0) (by go_simp); replace tc5 := ck hb (a := ⟨kt, 5, none⟩) (v := .int .i64 f1) (by go_simp); replace rc0 := ck hb (a := ⟨kr, 0, none⟩) (v := .int .i64 r0) (by go_simp); replace rc1 := ck hb (a := ⟨kr, 1, none⟩) (v := .int .i64 r1) (by go_simp); replace rc2 := ck hb (a := ⟨kr, 2, none⟩) (v := .int .i64 r2) (by go_simp); replace rc3 := ck hb (a := ⟨kr, 3, none⟩) (v := .int .i64 r3) (by go_simp); replace ac0 := ck hb (a := ⟨ka, 0, none⟩) (v := .int .i64 a0) (by go_simp); replace ac1 := ck hb (a := ⟨ka, 1, none⟩) (v := .int .i64 a1) (by go_simp); replace bc0 := ck hb (a := ⟨kb, 0, none⟩) (v := .int .i64 b0) (by go_simp); replace bc1 := ck hb (a := ⟨kb, 1, none⟩) (v := .int .i64 b1) (by go_simp); replace HB : Below W.heap.size W w2 := bt HB hb; clear hb
      exact hK _ _ ⟨(), fun _ _ => rfl, rfl, tc0, tc1, tc2, tc3, tc4, tc5, rc0, rc1, rc2, rc3, ac0, ac1, bc0, bc1, HB⟩
    · have hlit : (regOps Try.f8 1)[27]? = some ({ dst := some 36, op := Op.pick (Operand.tmp 34) (Operand.tmp 35) (Operand.const (Value.bool false)), type := 4, pos := "law.go:19", after := #[{ on := 25, ground := Ground.data }, { on := 26, ground := Ground.data }], guard := none }) := by kernel_rfl
      obtain rfl := Option.some.inj (hlit.symm.trans hoi)
      have r34 : b.tmps.getD 34 undef = (.bool true) := rd (hT.at 25 (by kernel_rfl) (pre_of hpre 25 (by kernel_rfl)))
      have r35 : b.tmps.getD 35 undef = (.bool true) := rd (hT.at 26 (by kernel_rfl) (pre_of hpre 26 (by kernel_rfl)))
      refine op_go hoi (want_all rfl) fun K hK => ?_
      clear hT hpre hun hlit hoi
      go_simp
      exact hK _ _ ⟨(), fun _ _ => rfl, rfl, tc0, tc1, tc2, tc3, tc4, tc5, rc0, rc1, rc2, rc3, ac0, ac1, bc0, bc1, HB⟩
    · have hlit : (regOps Try.f8 1)[28]? = some ({ dst := some 8, op := Op.assign (Operand.tmp 36), type := 4, pos := "law.go:19", after := #[{ on := 27, ground := Ground.data }, { on := 26, ground := Ground.chain }, { on := 0, ground := Ground.phase }, { on := 1, ground := Ground.phase }, { on := 2, ground := Ground.phase }, { on := 3, ground := Ground.phase }, { on := 4, ground := Ground.phase }, { on := 5, ground := Ground.phase }, { on := 6, ground := Ground.phase }, { on := 7, ground := Ground.phase }, { on := 8, ground := Ground.phase }, { on := 9, ground := Ground.phase }, { on := 10, ground := Ground.phase }, { on := 11, ground := Ground.phase }, { on := 12, ground := Ground.phase }, { on := 13, ground := Ground.phase }, { on := 14, ground := Ground.phase }, { on := 15, ground := Ground.phase }, { on := 16, ground := Ground.phase }, { on := 17, ground := Ground.phase }, { on := 18, ground := Ground.phase }, { on := 19, ground := Ground.phase }, { on := 20, ground := Ground.phase }, { on := 21, ground := Ground.phase }, { on := 22, ground := Ground.phase }, { on := 23, ground := Ground.phase }, { on := 24, ground := Ground.phase }, { on := 25, ground := Ground.phase }, { on := 26, ground := Ground.phase }, { on := 27, ground := Ground.phase }], guard := none }) := by kernel_rfl
      obtain rfl := Option.some.inj (hlit.symm.trans hoi)
      have r36 : b.tmps.getD 36 undef = (.bool true) := rd (hT.at 27 (by kernel_rfl) (pre_of hpre 27 (by kernel_rfl)))
      refine op_go hoi (want_all rfl) fun K hK => ?_
      clear hT hpre hun hlit hoi
      go_simp
      exact hK _ _ ⟨(), fun _ _ => rfl, rfl, tc0, tc1, tc2, tc3, tc4, tc5, rc0, rc1, rc2, rc3, ac0, ac1, bc0, bc1, HB⟩
  · intro g b w' hT hS
    rw [hT.all ht]
    have hn : (regOps Try.f8 1).size = 29 := by kernel_rfl
    rw [hn]
    exact he w' hS

set_option maxHeartbeats 4000000 in
set_option maxRecDepth 100000 in
theorem reachTells_walk (d0 d1 e0 e1 f0 f1 r0 r1 r2 r3 a0 a1 b0 b1 : Int) (w : World) :
    Calls Try.prog 8 #[.agg #[.int .i64 d0, .int .i64 d1, .int .i64 e0, .int .i64 e1, .int .i64 f0, .int .i64 f1], .agg #[.int .i64 r0, .int .i64 r1, .int .i64 r2, .int .i64 r3], .agg #[.int .i64 a0, .int .i64 a1], .agg #[.int .i64 b0, .int .i64 b1]] w fun e w' => e = .returned (.bool true) ∧ Below w.heap.size w w' := by
  have HB := Below.refl w.heap.size w
  go_enter Try.func8, Try.ntmps8
  go_wp2_with fail
  refine region8 d0 d1 e0 e1 f0 f1 a0 a1 b0 b1 r0 r1 r2 r3 w.heap.size (w.heap.size + 1) (w.heap.size + 1 + 1) (w.heap.size + 1 + 1 + 1) w (by kernel_rfl) rfl rfl rfl rfl rfl ⟨?_, ?_, ?_, ?_, ?_, ?_, ?_, ?_, ?_, ?_, ?_, ?_, ?_, ?_, ?_⟩ (fun w1 hS => ?_)
  iterate 14 (focus (go_simp; done))
  · exact (by repeat (first | (with_reducible exact HB) | (with_reducible exact Below.refl _ _) | (with_reducible apply bd) | (with_reducible apply ba) | (with_reducible refine bs ?_ (by first | (simp; done) | (simp; omega)) _)))
  obtain ⟨-, -, -, -, -, -, -, -, -, -, -, -, -, -, HB⟩ := hS
  simp only [List.setIfInBounds_toArray, List.set_cons_zero, List.set_cons_succ]
  go_wp2
  go_ret
  exact ⟨rfl, by repeat (first | (with_reducible exact HB) | (with_reducible exact Below.refl _ _) | (with_reducible apply bd) | (with_reducible apply ba) | (with_reducible refine bs ?_ (by first | (simp; done) | (simp; omega)) _))⟩

end Go.Proofs.Ytandgbpbabmdfaa
