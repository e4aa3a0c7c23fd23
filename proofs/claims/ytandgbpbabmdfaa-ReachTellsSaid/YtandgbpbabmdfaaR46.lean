import Derived.Test.YtandgbpbabmdfaaT50
import Derived.Test.YtandgbpbabmdfaaT8
namespace Go.Proofs.Ytandgbpbabmdfaa
open Go.RowKit
attribute [local go_sem high] eq23 eq25 mn_two mx_two mn_three mx_three mx_four

/-- What each operation of the region leaves. -/
def region46V (d0 d1 e0 e1 f0 f1 a0 a1 b0 b1 p0 p1 q0 q1 j x y : Int) : Nat → Value
  | 0 => .agg #[.int .i64 d0, .int .i64 d1, .int .i64 e0, .int .i64 e1, .int .i64 f0, .int .i64 f1]
  | 1 => .int .i64 j
  | 2 => .agg #[.int .i64 p0, .int .i64 p1]
  | 3 => .agg #[.int .i64 d0, .int .i64 d1, .int .i64 e0, .int .i64 e1, .int .i64 f0, .int .i64 f1]
  | 4 => .int .i64 j
  | 5 => .int .i64 (j + 1)
  | 6 => .agg #[.int .i64 q0, .int .i64 q1]
  | 7 => .agg #[.int .i64 a0, .int .i64 a1]
  | 8 => .int .i64 x
  | 9 => .agg #[.int .i64 d0, .int .i64 d1, .int .i64 e0, .int .i64 e1, .int .i64 f0, .int .i64 f1]
  | 10 => .int .i64 j
  | 11 => .agg #[.int .i64 p0, .int .i64 p1]
  | 12 => .agg #[.int .i64 d0, .int .i64 d1, .int .i64 e0, .int .i64 e1, .int .i64 f0, .int .i64 f1]
  | 13 => .int .i64 j
  | 14 => .int .i64 (j + 1)
  | 15 => .agg #[.int .i64 q0, .int .i64 q1]
  | 16 => .agg #[.int .i64 b0, .int .i64 b1]
  | 17 => .int .i64 y
  | 18 => .int .i64 x
  | 19 => .int .i64 y
  | _ => undef

set_option maxHeartbeats 4000000 in
set_option maxRecDepth 100000 in
theorem region46 (d0 d1 e0 e1 f0 f1 a0 a1 b0 b1 p0 p1 q0 q1 j x y : Int) (kt ka kb : Nat) (W : World) (m1 : cor ⟨⟨d0, d1⟩, ⟨e0, e1⟩, ⟨f0, f1⟩⟩ j = ⟨p0, p1⟩) (m2 : cor ⟨⟨d0, d1⟩, ⟨e0, e1⟩, ⟨f0, f1⟩⟩ (j + 1) = ⟨q0, q1⟩) (eq1 : IntKind.i64.wrap (j + 1) = j + 1) (cx : ∀ w : World, Calls Try.prog 61 #[.agg #[.int .i64 p0, .int .i64 p1], .agg #[.int .i64 q0, .int .i64 q1], .agg #[.int .i64 a0, .int .i64 a1]] w fun e w' => e = .returned (.int .i64 x) ∧ Below w.heap.size w w') (cy : ∀ w : World, Calls Try.prog 61 #[.agg #[.int .i64 p0, .int .i64 p1], .agg #[.int .i64 q0, .int .i64 q1], .agg #[.int .i64 b0, .int .i64 b1]] w fun e w' => e = .returned (.int .i64 y) ∧ Below w.heap.size w w') {id : Nat} {ops : Array Oper} {Q : Exit → Act → World → Prop} {a : Act} {w : World}
    (ho : ops = (regOps Try.f46 7)) (hsz : a.tmps.size = 106) (t3 : a.tmps[3]? = some (.pointer (some ⟨kt, 0, none⟩))) (t11 : a.tmps[11]? = some (.int .i64 j)) (t4 : a.tmps[4]? = some (.pointer (some ⟨ka, 0, none⟩))) (t5 : a.tmps[5]? = some (.pointer (some ⟨kb, 0, none⟩)))
    (h0 : w.drew.cell? ⟨kt, 0, none⟩ = some (.int .i64 d0) ∧ w.drew.cell? ⟨kt, 1, none⟩ = some (.int .i64 d1) ∧ w.drew.cell? ⟨kt, 2, none⟩ = some (.int .i64 e0) ∧ w.drew.cell? ⟨kt, 3, none⟩ = some (.int .i64 e1) ∧ w.drew.cell? ⟨kt, 4, none⟩ = some (.int .i64 f0) ∧ w.drew.cell? ⟨kt, 5, none⟩ = some (.int .i64 f1) ∧ w.drew.cell? ⟨ka, 0, none⟩ = some (.int .i64 a0) ∧ w.drew.cell? ⟨ka, 1, none⟩ = some (.int .i64 a1) ∧ w.drew.cell? ⟨kb, 0, none⟩ = some (.int .i64 b0) ∧ w.drew.cell? ⟨kb, 1, none⟩ = some (.int .i64 b1) ∧ Below W.heap.size W w.drew)
    (he : ∀ w', w'.cell? ⟨kt, 0, none⟩ = some (.int .i64 d0) ∧ w'.cell? ⟨kt, 1, none⟩ = some (.int .i64 d1) ∧ w'.cell? ⟨kt, 2, none⟩ = some (.int .i64 e0) ∧ w'.cell? ⟨kt, 3, none⟩ = some (.int .i64 e1) ∧ w'.cell? ⟨kt, 4, none⟩ = some (.int .i64 f0) ∧ w'.cell? ⟨kt, 5, none⟩ = some (.int .i64 f1) ∧ w'.cell? ⟨ka, 0, none⟩ = some (.int .i64 a0) ∧ w'.cell? ⟨ka, 1, none⟩ = some (.int .i64 a1) ∧ w'.cell? ⟨kb, 0, none⟩ = some (.int .i64 b0) ∧ w'.cell? ⟨kb, 1, none⟩ = some (.int .i64 b1) ∧ Below W.heap.size W w' → Q .normal ⟨((((((((((((((((((((a.tmps.setIfInBounds 36 (.agg #[.int .i64 d0, .int .i64 d1, .int .i64 e0, .int .i64 e1, .int .i64 f0, .int .i64 f1])).setIfInBounds 37 (.int .i64 j)).setIfInBounds 38 (.agg #[.int .i64 p0, .int .i64 p1])).setIfInBounds 39 (.agg #[.int .i64 d0, .int .i64 d1, .int .i64 e0, .int .i64 e1, .int .i64 f0, .int .i64 f1])).setIfInBounds 40 (.int .i64 j)).setIfInBounds 41 (.int .i64 (j + 1))).setIfInBounds 42 (.agg #[.int .i64 q0, .int .i64 q1])).setIfInBounds 43 (.agg #[.int .i64 a0, .int .i64 a1])).setIfInBounds 44 (.int .i64 x)).setIfInBounds 45 (.agg #[.int .i64 d0, .int .i64 d1, .int .i64 e0, .int .i64 e1, .int .i64 f0, .int .i64 f1])).setIfInBounds 46 (.int .i64 j)).setIfInBounds 47 (.agg #[.int .i64 p0, .int .i64 p1])).setIfInBounds 48 (.agg #[.int .i64 d0, .int .i64 d1, .int .i64 e0, .int .i64 e1, .int .i64 f0, .int .i64 f1])).setIfInBounds 49 (.int .i64 j)).setIfInBounds 50 (.int .i64 (j + 1))).setIfInBounds 51 (.agg #[.int .i64 q0, .int .i64 q1])).setIfInBounds 52 (.agg #[.int .i64 b0, .int .i64 b1])).setIfInBounds 53 (.int .i64 y)).setIfInBounds 12 (.int .i64 x)).setIfInBounds 13 (.int .i64 y)), a.defers⟩ w') :
    (Code.region id ops true).wp Try.prog Q a w := by
  have ht : tidy (regOps Try.f46 7) a.tmps.size = true := by rw [hsz]; kernel_rfl
  refine region_tab (G := Unit) (fun _ => (region46V d0 d1 e0 e1 f0 f1 a0 a1 b0 b1 p0 p1 q0 q1 j x y  )) (fun _ _ w' => w'.cell? ⟨kt, 0, none⟩ = some (.int .i64 d0) ∧ w'.cell? ⟨kt, 1, none⟩ = some (.int .i64 d1) ∧ w'.cell? ⟨kt, 2, none⟩ = some (.int .i64 e0) ∧ w'.cell? ⟨kt, 3, none⟩ = some (.int .i64 e1) ∧ w'.cell? ⟨kt, 4, none⟩ = some (.int .i64 f0) ∧ w'.cell? ⟨kt, 5, none⟩ = some (.int .i64 f1) ∧ w'.cell? ⟨ka, 0, none⟩ = some (.int .i64 a0) ∧ w'.cell? ⟨ka, 1, none⟩ = some (.int .i64 a1) ∧ w'.cell? ⟨kb, 0, none⟩ = some (.int .i64 b0) ∧ w'.cell? ⟨kb, 1, none⟩ = some (.int .i64 b1) ∧ Below W.heap.size W w') () (by kernel_rfl) ho ht h0 ?_ ?_
  · intro i o hoi g L b w' hun hpre hT hS
    clear he h0 ho hsz ht
    have hi : i < (regOps Try.f46 7).size := (Array.getElem?_eq_some_iff.1 hoi).1
    rw [show (regOps Try.f46 7).size = 20 by kernel_rfl] at hi
    obtain ⟨tc0, tc1, tc2, tc3, tc4, tc5, ac0, ac1, bc0, bc1, HB⟩ := hS
    have hcases : i = 0 ∨ i = 1 ∨ i = 2 ∨ i = 3 ∨ i = 4 ∨ i = 5 ∨ i = 6 ∨ i = 7 ∨ i = 8 ∨ i = 9 ∨ i = 10 ∨ i = 11 ∨ i = 12 ∨ i = 13 ∨ i = 14 ∨ i = 15 ∨ i = 16 ∨ i = 17 ∨ i = 18 ∨ i = 19 := by omega
    rcases hcases with rfl | rfl | rfl | rfl | rfl | rfl | rfl | rfl | rfl | rfl | rfl | rfl | rfl | rfl | rfl | rfl | rfl | rfl | rfl | rfl
    · have hlit : (regOps Try.f46 7)[0]? = some ({ dst := some 36, op := Op.load 25 (Operand.tmp 3), type := 25, pos := "geom.go:359", after := #[], guard := none }) := by kernel_rfl
      obtain rfl := Option.some.inj (hlit.symm.trans hoi)
      have r3 : b.tmps.getD 3 undef = (.pointer (some ⟨kt, 0, none⟩)) := rd ((hT.old 3 (by kernel_rfl)).trans t3)
      refine op_go hoi (want_all rfl) fun K hK => ?_
      clear hT hpre hun hlit hoi
      go_simp
      exact hK _ _ ⟨(), fun _ _ => rfl, rfl, tc0, tc1, tc2, tc3, tc4, tc5, ac0, ac1, bc0, bc1, HB⟩
    · have hlit : (regOps Try.f46 7)[1]? = some ({ dst := some 37, op := Op.move (Operand.tmp 11), type := 3, pos := "geom.go:359", after := #[], guard := none }) := by kernel_rfl
      obtain rfl := Option.some.inj (hlit.symm.trans hoi)
      have r11 : b.tmps.getD 11 undef = (.int .i64 j) := rd ((hT.old 11 (by kernel_rfl)).trans t11)
      refine op_go hoi (want_all rfl) fun K hK => ?_
      clear hT hpre hun hlit hoi
      go_simp
      exact hK _ _ ⟨(), fun _ _ => rfl, rfl, tc0, tc1, tc2, tc3, tc4, tc5, ac0, ac1, bc0, bc1, HB⟩
    · have hlit : (regOps Try.f46 7)[2]? = some ({ dst := some 38, op := Op.call { callee := Callee.value (Operand.func 29), args := #[Operand.tmp 36, Operand.tmp 37], argTypes := #[25, 3] }, type := 23, pos := "geom.go:359", after := #[{ on := 0, ground := Ground.data }, { on := 1, ground := Ground.data }], guard := none }) := by kernel_rfl
      obtain rfl := Option.some.inj (hlit.symm.trans hoi)
      have r36 : b.tmps.getD 36 undef = (.agg #[.int .i64 d0, .int .i64 d1, .int .i64 e0, .int .i64 e1, .int .i64 f0, .int .i64 f1]) := rd (hT.at 0 (by kernel_rfl) (pre_of hpre 0 (by kernel_rfl)))
      have r37 : b.tmps.getD 37 undef = (.int .i64 j) := rd (hT.at 1 (by kernel_rfl) (pre_of hpre 1 (by kernel_rfl)))
      refine op_go hoi (want_all rfl) fun K hK => ?_
      clear hT hpre hun hlit hoi
      go_simp
      go_at_call 29
      refine (cor29 _ _ _ _ _ _ _ _).mono ?_; rw [m1]; rintro e w2 ⟨rfl, hb⟩; replace tc0 := ck hb (a := ⟨kt, 0, none⟩) (v := .int .i64 d0) (by go_simp); replace tc1 := ck hb (a := ⟨kt, 1, none⟩) (v := .int .i64 d1) (by go_simp); replace tc2 := ck hb (a := ⟨kt, 2, none⟩) (v := .int .i64 e0) (by go_simp); replace tc3 := ck hb (a := ⟨kt, 3, none⟩) (v := .int .i64 e1) (by go_simp); replace tc4 := ck hb (a := ⟨kt, 4, none⟩) (v := .int .i64 f0) (by go_simp); replace tc5 := ck hb (a := ⟨kt, 5, none⟩) (v := .int .i64 f1) (by go_simp); replace ac0 := ck hb (a := ⟨ka, 0, none⟩) (v := .int .i64 a0) (by go_simp); replace ac1 := ck hb (a := ⟨ka, 1, none⟩) (v := .int .i64 a1) (by go_simp); replace bc0 := ck hb (a := ⟨kb, 0, none⟩) (v := .int .i64 b0) (by go_simp); replace bc1 := ck hb (a := ⟨kb, 1, none⟩) (v := .int .i64 b1) (by go_simp); replace HB : Below W.heap.size W w2 := bt HB hb; clear hb
      exact hK _ _ ⟨(), fun _ _ => rfl, rfl, tc0, tc1, tc2, tc3, tc4, tc5, ac0, ac1, bc0, bc1, HB⟩
    · have hlit : (regOps Try.f46 7)[3]? = some ({ dst := some 39, op := Op.load 25 (Operand.tmp 3), type := 25, pos := "geom.go:359", after := #[], guard := none }) := by kernel_rfl
      obtain rfl := Option.some.inj (hlit.symm.trans hoi)
      have r3 : b.tmps.getD 3 undef = (.pointer (some ⟨kt, 0, none⟩)) := rd ((hT.old 3 (by kernel_rfl)).trans t3)
      refine op_go hoi (want_all rfl) fun K hK => ?_
      clear hT hpre hun hlit hoi
      go_simp
      exact hK _ _ ⟨(), fun _ _ => rfl, rfl, tc0, tc1, tc2, tc3, tc4, tc5, ac0, ac1, bc0, bc1, HB⟩
    · have hlit : (regOps Try.f46 7)[4]? = some ({ dst := some 40, op := Op.move (Operand.tmp 11), type := 3, pos := "geom.go:359", after := #[], guard := none }) := by kernel_rfl
      obtain rfl := Option.some.inj (hlit.symm.trans hoi)
      have r11 : b.tmps.getD 11 undef = (.int .i64 j) := rd ((hT.old 11 (by kernel_rfl)).trans t11)
      refine op_go hoi (want_all rfl) fun K hK => ?_
      clear hT hpre hun hlit hoi
      go_simp
      exact hK _ _ ⟨(), fun _ _ => rfl, rfl, tc0, tc1, tc2, tc3, tc4, tc5, ac0, ac1, bc0, bc1, HB⟩
    · have hlit : (regOps Try.f46 7)[5]? = some ({ dst := some 41, op := Op.binOp BinOp.add 3 (Operand.tmp 40) (Operand.const (Value.int IntKind.i64 1)) 3, type := 3, pos := "geom.go:359", after := #[{ on := 4, ground := Ground.data }], guard := none }) := by kernel_rfl
      obtain rfl := Option.some.inj (hlit.symm.trans hoi)
      have r40 : b.tmps.getD 40 undef = (.int .i64 j) := rd (hT.at 4 (by kernel_rfl) (pre_of hpre 4 (by kernel_rfl)))
      refine op_go hoi (want_all rfl) fun K hK => ?_
      clear hT hpre hun hlit hoi
      go_simp
      exact hK _ _ ⟨(), fun _ _ => rfl, rfl, tc0, tc1, tc2, tc3, tc4, tc5, ac0, ac1, bc0, bc1, HB⟩
    · have hlit : (regOps Try.f46 7)[6]? = some ({ dst := some 42, op := Op.call { callee := Callee.value (Operand.func 29), args := #[Operand.tmp 39, Operand.tmp 41], argTypes := #[25, 3] }, type := 23, pos := "geom.go:359", after := #[{ on := 3, ground := Ground.data }, { on := 5, ground := Ground.data }, { on := 2, ground := Ground.chain }], guard := none }) := by kernel_rfl
      obtain rfl := Option.some.inj (hlit.symm.trans hoi)
      have r39 : b.tmps.getD 39 undef = (.agg #[.int .i64 d0, .int .i64 d1, .int .i64 e0, .int .i64 e1, .int .i64 f0, .int .i64 f1]) := rd (hT.at 3 (by kernel_rfl) (pre_of hpre 3 (by kernel_rfl)))
      have r41 : b.tmps.getD 41 undef = (.int .i64 (j + 1)) := rd (hT.at 5 (by kernel_rfl) (pre_of hpre 5 (by kernel_rfl)))
      refine op_go hoi (want_all rfl) fun K hK => ?_
      clear hT hpre hun hlit hoi
      go_simp
      go_at_call 29
      refine (cor29 _ _ _ _ _ _ _ _).mono ?_; rw [m2]; rintro e w2 ⟨rfl, hb⟩; replace tc0 := ck hb (a := ⟨kt, 0, none⟩) (v := .int .i64 d0) (by go_simp); replace tc1 := ck hb (a := ⟨kt, 1, none⟩) (v := .int .i64 d1) (by go_simp); replace tc2 := ck hb (a := ⟨kt, 2, none⟩) (v := .int .i64 e0) (by go_simp); replace tc3 := ck hb (a := ⟨kt, 3, none⟩) (v := .int .i64 e1) (by go_simp); replace tc4 := ck hb (a := ⟨kt, 4, none⟩) (v := .int .i64 f0) (by go_simp); replace tc5 := ck hb (a := ⟨kt, 5, none⟩) (v := .int .i64 f1) (by go_simp); replace ac0 := ck hb (a := ⟨ka, 0, none⟩) (v := .int .i64 a0) (by go_simp); replace ac1 := ck hb (a := ⟨ka, 1, none⟩) (v := .int .i64 a1) (by go_simp); replace bc0 := ck hb (a := ⟨kb, 0, none⟩) (v := .int .i64 b0) (by go_simp); replace bc1 := ck hb (a := ⟨kb, 1, none⟩) (v := .int .i64 b1) (by go_simp); replace HB : Below W.heap.size W w2 := bt HB hb; clear hb
      exact hK _ _ ⟨(), fun _ _ => rfl, rfl, tc0, tc1, tc2, tc3, tc4, tc5, ac0, ac1, bc0, bc1, HB⟩
    · have hlit : (regOps Try.f46 7)[7]? = some ({ dst := some 43, op := Op.load 23 (Operand.tmp 4), type := 23, pos := "geom.go:359", after := #[], guard := none }) := by kernel_rfl
      obtain rfl := Option.some.inj (hlit.symm.trans hoi)
      have r4 : b.tmps.getD 4 undef = (.pointer (some ⟨ka, 0, none⟩)) := rd ((hT.old 4 (by kernel_rfl)).trans t4)
      refine op_go hoi (want_all rfl) fun K hK => ?_
      clear hT hpre hun hlit hoi
      go_simp
      exact hK _ _ ⟨(), fun _ _ => rfl, rfl, tc0, tc1, tc2, tc3, tc4, tc5, ac0, ac1, bc0, bc1, HB⟩
    · have hlit : (regOps Try.f46 7)[8]? = some ({ dst := some 44, op := Op.call { callee := Callee.value (Operand.func 61), args := #[Operand.tmp 38, Operand.tmp 42, Operand.tmp 43], argTypes := #[23, 23, 23] }, type := 3, pos := "geom.go:359", after := #[{ on := 2, ground := Ground.data }, { on := 6, ground := Ground.data }, { on := 7, ground := Ground.data }, { on := 6, ground := Ground.chain }], guard := none }) := by kernel_rfl
      obtain rfl := Option.some.inj (hlit.symm.trans hoi)
      have r38 : b.tmps.getD 38 undef = (.agg #[.int .i64 p0, .int .i64 p1]) := rd (hT.at 2 (by kernel_rfl) (pre_of hpre 2 (by kernel_rfl)))
      have r42 : b.tmps.getD 42 undef = (.agg #[.int .i64 q0, .int .i64 q1]) := rd (hT.at 6 (by kernel_rfl) (pre_of hpre 6 (by kernel_rfl)))
      have r43 : b.tmps.getD 43 undef = (.agg #[.int .i64 a0, .int .i64 a1]) := rd (hT.at 7 (by kernel_rfl) (pre_of hpre 7 (by kernel_rfl)))
      refine op_go hoi (want_all rfl) fun K hK => ?_
      clear hT hpre hun hlit hoi
      go_simp
      go_at_call 61
      refine (cx _).mono ?_; rintro e w2 ⟨rfl, hb⟩; replace tc0 := ck hb (a := ⟨kt, 0, none⟩) (v := .int .i64 d0) (by go_simp); replace tc1 := ck hb (a := ⟨kt, 1, none⟩) (v := .int .i64 d1) (by go_simp); replace tc2 := ck hb (a := ⟨kt, 2, none⟩) (v := .int .i64 e0) (by go_simp); replace tc3 := ck hb (a := ⟨kt, 3, none⟩) (v := .int .i64 e1) (by go_simp); replace tc4 := ck hb (a := ⟨kt, 4, none⟩) (v := .int .i64 f0) (by go_simp); replace tc5 := ck hb (a := ⟨kt, 5, none⟩) (v := .int .i64 f1) (by go_simp); replace ac0 := ck hb (a := ⟨ka, 0, none⟩) (v := .int .i64 a0) (by go_simp); replace ac1 := ck hb (a := ⟨ka, 1, none⟩) (v := .int .i64 a1) (by go_simp); replace bc0 := ck hb (a := ⟨kb, 0, none⟩) (v := .int .i64 b0) (by go_simp); replace bc1 := ck hb (a := ⟨kb, 1, none⟩) (v := .int .i64 b1) (by go_simp); replace HB : Below W.heap.size W w2 := bt HB hb; clear hb
      exact hK _ _ ⟨(), fun _ _ => rfl, rfl, tc0, tc1, tc2, tc3, tc4, tc5, ac0, ac1, bc0, bc1, HB⟩
    · have hlit : (regOps Try.f46 7)[9]? = some ({ dst := some 45, op := Op.load 25 (Operand.tmp 3), type := 25, pos := "geom.go:359", after := #[], guard := none }) := by kernel_rfl
      obtain rfl := Option.some.inj (hlit.symm.trans hoi)
      have r3 : b.tmps.getD 3 undef = (.pointer (some ⟨kt, 0, none⟩)) := rd ((hT.old 3 (by kernel_rfl)).trans t3)
      refine op_go hoi (want_all rfl) fun K hK => ?_
      clear hT hpre hun hlit hoi
      go_simp
      exact hK _ _ ⟨(), fun _ _ => rfl, rfl, tc0, tc1, tc2, tc3, tc4, tc5, ac0, ac1, bc0, bc1, HB⟩
    · have hlit : (regOps Try.f46 7)[10]? = some ({ dst := some 46, op := Op.move (Operand.tmp 11), type := 3, pos := "geom.go:359", after := #[], guard := none }) := by kernel_rfl
      obtain rfl := Option.some.inj (hlit.symm.trans hoi)
      have r11 : b.tmps.getD 11 undef = (.int .i64 j) := rd ((hT.old 11 (by kernel_rfl)).trans t11)
      refine op_go hoi (want_all rfl) fun K hK => ?_
      clear hT hpre hun hlit hoi
      go_simp
      exact hK _ _ ⟨(), fun _ _ => rfl, rfl, tc0, tc1, tc2, tc3, tc4, tc5, ac0, ac1, bc0, bc1, HB⟩
    · have hlit : (regOps Try.f46 7)[11]? = some ({ dst := some 47, op := Op.call { callee := Callee.value (Operand.func 29), args := #[Operand.tmp 45, Operand.tmp 46], argTypes := #[25, 3] }, type := 23, pos := "geom.go:359", after := #[{ on := 9, ground := Ground.data }, { on := 10, ground := Ground.data }, { on := 8, ground := Ground.chain }], guard := none }) := by kernel_rfl
      obtain rfl := Option.some.inj (hlit.symm.trans hoi)
      have r45 : b.tmps.getD 45 undef = (.agg #[.int .i64 d0, .int .i64 d1, .int .i64 e0, .int .i64 e1, .int .i64 f0, .int .i64 f1]) := rd (hT.at 9 (by kernel_rfl) (pre_of hpre 9 (by kernel_rfl)))
      have r46 : b.tmps.getD 46 undef = (.int .i64 j) := rd (hT.at 10 (by kernel_rfl) (pre_of hpre 10 (by kernel_rfl)))
      refine op_go hoi (want_all rfl) fun K hK => ?_
      clear hT hpre hun hlit hoi
      go_simp
      go_at_call 29
      refine (cor29 _ _ _ _ _ _ _ _).mono ?_; rw [m1]; rintro e w2 ⟨rfl, hb⟩; replace tc0 := ck hb (a := ⟨kt, 0, none⟩) (v := .int .i64 d0) (by go_simp); replace tc1 := ck hb (a := ⟨kt, 1, none⟩) (v := .int .i64 d1) (by go_simp); replace tc2 := ck hb (a := ⟨kt, 2, none⟩) (v := .int .i64 e0) (by go_simp); replace tc3 := ck hb (a := ⟨kt, 3, none⟩) (v := .int .i64 e1) (by go_simp); replace tc4 := ck hb (a := ⟨kt, 4, none⟩) (v := .int .i64 f0) (by go_simp); replace tc5 := ck hb (a := ⟨kt, 5, none⟩) (v := .int .i64 f1) (by go_simp); replace ac0 := ck hb (a := ⟨ka, 0, none⟩) (v := .int .i64 a0) (by go_simp); replace ac1 := ck hb (a := ⟨ka, 1, none⟩) (v := .int .i64 a1) (by go_simp); replace bc0 := ck hb (a := ⟨kb, 0, none⟩) (v := .int .i64 b0) (by go_simp); replace bc1 := ck hb (a := ⟨kb, 1, none⟩) (v := .int .i64 b1) (by go_simp); replace HB : Below W.heap.size W w2 := bt HB hb; clear hb
      exact hK _ _ ⟨(), fun _ _ => rfl, rfl, tc0, tc1, tc2, tc3, tc4, tc5, ac0, ac1, bc0, bc1, HB⟩
    · have hlit : (regOps Try.f46 7)[12]? = some ({ dst := some 48, op := Op.load 25 (Operand.tmp 3), type := 25, pos := "geom.go:359", after := #[], guard := none }) := by kernel_rfl
      obtain rfl := Option.some.inj (hlit.symm.trans hoi)
      have r3 : b.tmps.getD 3 undef = (.pointer (some ⟨kt, 0, none⟩)) := rd ((hT.old 3 (by kernel_rfl)).trans t3)
      refine op_go hoi (want_all rfl) fun K hK => ?_
      clear hT hpre hun hlit hoi
      go_simp
      exact hK _ _ ⟨(), fun _ _ => rfl, rfl, tc0, tc1, tc2, tc3, tc4, tc5, ac0, ac1, bc0, bc1, HB⟩
    · have hlit : (regOps Try.f46 7)[13]? = some ({ dst := some 49, op := Op.move (Operand.tmp 11), type := 3, pos := "geom.go:359", after := #[], guard := none }) := by kernel_rfl
      obtain rfl := Option.some.inj (hlit.symm.trans hoi)
      have r11 : b.tmps.getD 11 undef = (.int .i64 j) := rd ((hT.old 11 (by kernel_rfl)).trans t11)
      refine op_go hoi (want_all rfl) fun K hK => ?_
      clear hT hpre hun hlit hoi
      go_simp
      exact hK _ _ ⟨(), fun _ _ => rfl, rfl, tc0, tc1, tc2, tc3, tc4, tc5, ac0, ac1, bc0, bc1, HB⟩
    · have hlit : (regOps Try.f46 7)[14]? = some ({ dst := some 50, op := Op.binOp BinOp.add 3 (Operand.tmp 49) (Operand.const (Value.int IntKind.i64 1)) 3, type := 3, pos := "geom.go:359", after := #[{ on := 13, ground := Ground.data }], guard := none }) := by kernel_rfl
      obtain rfl := Option.some.inj (hlit.symm.trans hoi)
      have r49 : b.tmps.getD 49 undef = (.int .i64 j) := rd (hT.at 13 (by kernel_rfl) (pre_of hpre 13 (by kernel_rfl)))
      refine op_go hoi (want_all rfl) fun K hK => ?_
      clear hT hpre hun hlit hoi
      go_simp
      exact hK _ _ ⟨(), fun _ _ => rfl, rfl, tc0, tc1, tc2, tc3, tc4, tc5, ac0, ac1, bc0, bc1, HB⟩
    · have hlit : (regOps Try.f46 7)[15]? = some ({ dst := some 51, op := Op.call { callee := Callee.value (Operand.func 29), args := #[Operand.tmp 48, Operand.tmp 50], argTypes := #[25, 3] }, type := 23, pos := "geom.go:359", after := #[{ on := 12, ground := Ground.data }, { on := 14, ground := Ground.data }, { on := 11, ground := Ground.chain }], guard := none }) := by kernel_rfl
      obtain rfl := Option.some.inj (hlit.symm.trans hoi)
      have r48 : b.tmps.getD 48 undef = (.agg #[.int .i64 d0, .int .i64 d1, .int .i64 e0, .int .i64 e1, .int .i64 f0, .int .i64 f1]) := rd (hT.at 12 (by kernel_rfl) (pre_of hpre 12 (by kernel_rfl)))
      have r50 : b.tmps.getD 50 undef = (.int .i64 (j + 1)) := rd (hT.at 14 (by kernel_rfl) (pre_of hpre 14 (by kernel_rfl)))
      refine op_go hoi (want_all rfl) fun K hK => ?_
      clear hT hpre hun hlit hoi
      go_simp
      go_at_call 29
      refine (cor29 _ _ _ _ _ _ _ _).mono ?_; rw [m2]; rintro e w2 ⟨rfl, hb⟩; replace tc0 := ck hb (a := ⟨kt, 0, none⟩) (v := .int .i64 d0) (by go_simp); replace tc1 := ck hb (a := ⟨kt, 1, none⟩) (v := .int .i64 d1) (by go_simp); replace tc2 := ck hb (a := ⟨kt, 2, none⟩) (v := .int .i64 e0) (by go_simp); replace tc3 := ck hb (a := ⟨kt, 3, none⟩) (v := .int .i64 e1) (by go_simp); replace tc4 := ck hb (a := ⟨kt, 4, none⟩) (v := .int .i64 f0) (by go_simp); replace tc5 := ck hb (a := ⟨kt, 5, none⟩) (v := .int .i64 f1) (by go_simp); replace ac0 := ck hb (a := ⟨ka, 0, none⟩) (v := .int .i64 a0) (by go_simp); replace ac1 := ck hb (a := ⟨ka, 1, none⟩) (v := .int .i64 a1) (by go_simp); replace bc0 := ck hb (a := ⟨kb, 0, none⟩) (v := .int .i64 b0) (by go_simp); replace bc1 := ck hb (a := ⟨kb, 1, none⟩) (v := .int .i64 b1) (by go_simp); replace HB : Below W.heap.size W w2 := bt HB hb; clear hb
      exact hK _ _ ⟨(), fun _ _ => rfl, rfl, tc0, tc1, tc2, tc3, tc4, tc5, ac0, ac1, bc0, bc1, HB⟩
    · have hlit : (regOps Try.f46 7)[16]? = some ({ dst := some 52, op := Op.load 23 (Operand.tmp 5), type := 23, pos := "geom.go:359", after := #[], guard := none }) := by kernel_rfl
      obtain rfl := Option.some.inj (hlit.symm.trans hoi)
      have r5 : b.tmps.getD 5 undef = (.pointer (some ⟨kb, 0, none⟩)) := rd ((hT.old 5 (by kernel_rfl)).trans t5)
      refine op_go hoi (want_all rfl) fun K hK => ?_
      clear hT hpre hun hlit hoi
      go_simp
      exact hK _ _ ⟨(), fun _ _ => rfl, rfl, tc0, tc1, tc2, tc3, tc4, tc5, ac0, ac1, bc0, bc1, HB⟩
    · have hlit : (regOps Try.f46 7)[17]? = some ({ dst := some 53, op := Op.call { callee := Callee.value (Operand.func 61), args := #[Operand.tmp 47, Operand.tmp 51, Operand.tmp 52], argTypes := #[23, 23, 23] }, type := 3, pos := "geom.go:359", after := #[{ on := 11, ground := Ground.data }, { on := 15, ground := Ground.data }, { on := 16, ground := Ground.data }, { on := 15, ground := Ground.chain }], guard := none }) := by kernel_rfl
      obtain rfl := Option.some.inj (hlit.symm.trans hoi)
      have r47 : b.tmps.getD 47 undef = (.agg #[.int .i64 p0, .int .i64 p1]) := rd (hT.at 11 (by kernel_rfl) (pre_of hpre 11 (by kernel_rfl)))
      have r51 : b.tmps.getD 51 undef = (.agg #[.int .i64 q0, .int .i64 q1]) := rd (hT.at 15 (by kernel_rfl) (pre_of hpre 15 (by kernel_rfl)))
      have r52 : b.tmps.getD 52 undef = (.agg #[.int .i64 b0, .int .i64 b1]) := rd (hT.at 16 (by kernel_rfl) (pre_of hpre 16 (by kernel_rfl)))
      refine op_go hoi (want_all rfl) fun K hK => ?_
      clear hT hpre hun hlit hoi
      go_simp
      go_at_call 61
      refine (cy _).mono ?_; rintro e w2 ⟨rfl, hb⟩; replace tc0 := ck hb (a := ⟨kt, 0, none⟩) (v := .int .i64 d0) (by go_simp); replace tc1 := ck hb (a := ⟨kt, 1, none⟩) (v := .int .i64 d1) (by go_simp); replace tc2 := ck hb (a := ⟨kt, 2, none⟩) (v := .int .i64 e0) (by go_simp); replace tc3 := ck hb (a := ⟨kt, 3, none⟩) (v := .int .i64 e1) (by go_simp); replace tc4 := ck hb (a := ⟨kt, 4, none⟩) (v := .int .i64 f0) (by go_simp); replace tc5 := ck hb (a := ⟨kt, 5, none⟩) (v := .int .i64 f1) (by go_simp); replace ac0 := ck hb (a := ⟨ka, 0, none⟩) (v := .int .i64 a0) (by go_simp); replace ac1 := ck hb (a := ⟨ka, 1, none⟩) (v := .int .i64 a1) (by go_simp); replace bc0 := ck hb (a := ⟨kb, 0, none⟩) (v := .int .i64 b0) (by go_simp); replace bc1 := ck hb (a := ⟨kb, 1, none⟩) (v := .int .i64 b1) (by go_simp); replace HB : Below W.heap.size W w2 := bt HB hb; clear hb
      exact hK _ _ ⟨(), fun _ _ => rfl, rfl, tc0, tc1, tc2, tc3, tc4, tc5, ac0, ac1, bc0, bc1, HB⟩
    · have hlit : (regOps Try.f46 7)[18]? = some ({ dst := some 12, op := Op.assign (Operand.tmp 44), type := 3, pos := "geom.go:359", after := #[{ on := 8, ground := Ground.data }, { on := 17, ground := Ground.chain }, { on := 0, ground := Ground.phase }, { on := 1, ground := Ground.phase }, { on := 2, ground := Ground.phase }, { on := 3, ground := Ground.phase }, { on := 4, ground := Ground.phase }, { on := 5, ground := Ground.phase }, { on := 6, ground := Ground.phase }, { on := 7, ground := Ground.phase }, { on := 8, ground := Ground.phase }, { on := 9, ground := Ground.textOnly Departure.lateStores }, { on := 10, ground := Ground.textOnly Departure.lateStores }, { on := 11, ground := Ground.textOnly Departure.lateStoresUnsure }, { on := 12, ground := Ground.textOnly Departure.lateStores }, { on := 13, ground := Ground.textOnly Departure.lateStores }, { on := 14, ground := Ground.textOnly Departure.lateStores }, { on := 15, ground := Ground.textOnly Departure.lateStoresUnsure }, { on := 16, ground := Ground.textOnly Departure.lateStores }, { on := 17, ground := Ground.textOnly Departure.lateStoresUnsure }], guard := none }) := by kernel_rfl
      obtain rfl := Option.some.inj (hlit.symm.trans hoi)
      have r44 : b.tmps.getD 44 undef = (.int .i64 x) := rd (hT.at 8 (by kernel_rfl) (pre_of hpre 8 (by kernel_rfl)))
      refine op_go hoi (want_all rfl) fun K hK => ?_
      clear hT hpre hun hlit hoi
      go_simp
      exact hK _ _ ⟨(), fun _ _ => rfl, rfl, tc0, tc1, tc2, tc3, tc4, tc5, ac0, ac1, bc0, bc1, HB⟩
    · have hlit : (regOps Try.f46 7)[19]? = some ({ dst := some 13, op := Op.assign (Operand.tmp 53), type := 3, pos := "geom.go:359", after := #[{ on := 17, ground := Ground.data }, { on := 18, ground := Ground.chain }, { on := 0, ground := Ground.phase }, { on := 1, ground := Ground.phase }, { on := 2, ground := Ground.phase }, { on := 3, ground := Ground.phase }, { on := 4, ground := Ground.phase }, { on := 5, ground := Ground.phase }, { on := 6, ground := Ground.phase }, { on := 7, ground := Ground.phase }, { on := 8, ground := Ground.phase }, { on := 9, ground := Ground.phase }, { on := 10, ground := Ground.phase }, { on := 11, ground := Ground.phase }, { on := 12, ground := Ground.phase }, { on := 13, ground := Ground.phase }, { on := 14, ground := Ground.phase }, { on := 15, ground := Ground.phase }, { on := 16, ground := Ground.phase }, { on := 17, ground := Ground.phase }, { on := 18, ground := Ground.phase }], guard := none }) := by kernel_rfl
      obtain rfl := Option.some.inj (hlit.symm.trans hoi)
      have r53 : b.tmps.getD 53 undef = (.int .i64 y) := rd (hT.at 17 (by kernel_rfl) (pre_of hpre 17 (by kernel_rfl)))
      refine op_go hoi (want_all rfl) fun K hK => ?_
      clear hT hpre hun hlit hoi
      go_simp
      exact hK _ _ ⟨(), fun _ _ => rfl, rfl, tc0, tc1, tc2, tc3, tc4, tc5, ac0, ac1, bc0, bc1, HB⟩
  · intro g b w' hT hS
    rw [hT.all ht]
    have hn : (regOps Try.f46 7).size = 20 := by kernel_rfl
    rw [hn]
    exact he w' hS

end Go.Proofs.Ytandgbpbabmdfaa
