import Derived.Test.YtandgbpbabmdfaaT12
import Derived.Test.YtandgbpbabmdfaaRg
namespace Go.Proofs.Ytandgbpbabmdfaa
open Go.RowKit
attribute [local go_sem high] eq23 eq25 mn_two mx_two mn_three mx_three mx_four

/-- What each operation of the region leaves. -/
def region44_0V (d0 d1 e0 e1 f0 f1 p0 p1 q0 q1 x0 y0 j o : Int) (kc : Nat) (ob : Bool) : Nat → Value
  | 0 => .agg #[.int .i64 d0, .int .i64 d1, .int .i64 e0, .int .i64 e1, .int .i64 f0, .int .i64 f1]
  | 1 => .int .i64 j
  | 2 => .agg #[.int .i64 p0, .int .i64 p1]
  | 3 => .agg #[.int .i64 d0, .int .i64 d1, .int .i64 e0, .int .i64 e1, .int .i64 f0, .int .i64 f1]
  | 4 => .int .i64 j
  | 5 => .int .i64 (j + 1)
  | 6 => .agg #[.int .i64 q0, .int .i64 q1]
  | 7 => .int .i64 0
  | 8 => .pointer (some ⟨kc, 0, none⟩)
  | 9 => .agg #[.int .i64 x0, .int .i64 y0]
  | 10 => .int .i64 o
  | 11 => .bool ob
  | _ => undef

set_option maxHeartbeats 4000000 in
set_option maxRecDepth 100000 in
theorem region44_0 (d0 d1 e0 e1 f0 f1 p0 p1 q0 q1 x0 y0 x1 y1 j o : Int) (kt kc : Nat) (ob : Bool) (W : World) (m1 : cor ⟨⟨d0, d1⟩, ⟨e0, e1⟩, ⟨f0, f1⟩⟩ j = ⟨p0, p1⟩) (m2 : cor ⟨⟨d0, d1⟩, ⟨e0, e1⟩, ⟨f0, f1⟩⟩ (j + 1) = ⟨q0, q1⟩) (eq1 : IntKind.i64.wrap (j + 1) = j + 1) (m3 : ori ⟨p0, p1⟩ ⟨q0, q1⟩ ⟨x0, y0⟩ = o) (m4 : decide (o < 0) = ob) {id : Nat} {ops : Array Oper} {Q : Exit → Act → World → Prop} {a : Act} {w : World}
    (ho : ops = (regOps Try.f44 13)) (hsz : a.tmps.size = 120) (t2 : a.tmps[2]? = some (.pointer (some ⟨kt, 0, none⟩))) (t6 : a.tmps[6]? = some (.int .i64 j)) (t8 : a.tmps[8]? = some (.int .i64 0)) (t5 : a.tmps[5]? = some (.pointer (some ⟨kc, 0, none⟩)))
    (h0 : w.drew.cell? ⟨kt, 0, none⟩ = some (.int .i64 d0) ∧ w.drew.cell? ⟨kt, 1, none⟩ = some (.int .i64 d1) ∧ w.drew.cell? ⟨kt, 2, none⟩ = some (.int .i64 e0) ∧ w.drew.cell? ⟨kt, 3, none⟩ = some (.int .i64 e1) ∧ w.drew.cell? ⟨kt, 4, none⟩ = some (.int .i64 f0) ∧ w.drew.cell? ⟨kt, 5, none⟩ = some (.int .i64 f1) ∧ w.drew.cell? ⟨kc, 0, none⟩ = some (.int .i64 x0) ∧ w.drew.cell? ⟨kc, 1, none⟩ = some (.int .i64 y0) ∧ w.drew.cell? ⟨kc, 2, none⟩ = some (.int .i64 x1) ∧ w.drew.cell? ⟨kc, 3, none⟩ = some (.int .i64 y0) ∧ w.drew.cell? ⟨kc, 4, none⟩ = some (.int .i64 x1) ∧ w.drew.cell? ⟨kc, 5, none⟩ = some (.int .i64 y1) ∧ w.drew.cell? ⟨kc, 6, none⟩ = some (.int .i64 x0) ∧ w.drew.cell? ⟨kc, 7, none⟩ = some (.int .i64 y1) ∧ Below W.heap.size W w.drew)
    (he : ∀ w', w'.cell? ⟨kt, 0, none⟩ = some (.int .i64 d0) ∧ w'.cell? ⟨kt, 1, none⟩ = some (.int .i64 d1) ∧ w'.cell? ⟨kt, 2, none⟩ = some (.int .i64 e0) ∧ w'.cell? ⟨kt, 3, none⟩ = some (.int .i64 e1) ∧ w'.cell? ⟨kt, 4, none⟩ = some (.int .i64 f0) ∧ w'.cell? ⟨kt, 5, none⟩ = some (.int .i64 f1) ∧ w'.cell? ⟨kc, 0, none⟩ = some (.int .i64 x0) ∧ w'.cell? ⟨kc, 1, none⟩ = some (.int .i64 y0) ∧ w'.cell? ⟨kc, 2, none⟩ = some (.int .i64 x1) ∧ w'.cell? ⟨kc, 3, none⟩ = some (.int .i64 y0) ∧ w'.cell? ⟨kc, 4, none⟩ = some (.int .i64 x1) ∧ w'.cell? ⟨kc, 5, none⟩ = some (.int .i64 y1) ∧ w'.cell? ⟨kc, 6, none⟩ = some (.int .i64 x0) ∧ w'.cell? ⟨kc, 7, none⟩ = some (.int .i64 y1) ∧ Below W.heap.size W w' → Q .normal ⟨((((((((((((a.tmps.setIfInBounds 104 (.agg #[.int .i64 d0, .int .i64 d1, .int .i64 e0, .int .i64 e1, .int .i64 f0, .int .i64 f1])).setIfInBounds 105 (.int .i64 j)).setIfInBounds 106 (.agg #[.int .i64 p0, .int .i64 p1])).setIfInBounds 107 (.agg #[.int .i64 d0, .int .i64 d1, .int .i64 e0, .int .i64 e1, .int .i64 f0, .int .i64 f1])).setIfInBounds 108 (.int .i64 j)).setIfInBounds 109 (.int .i64 (j + 1))).setIfInBounds 110 (.agg #[.int .i64 q0, .int .i64 q1])).setIfInBounds 111 (.int .i64 0)).setIfInBounds 112 (.pointer (some ⟨kc, 0, none⟩))).setIfInBounds 113 (.agg #[.int .i64 x0, .int .i64 y0])).setIfInBounds 114 (.int .i64 o)).setIfInBounds 115 (.bool ob)), a.defers⟩ w') :
    (Code.region id ops true).wp Try.prog Q a w := by
  have ht : tidy (regOps Try.f44 13) a.tmps.size = true := by rw [hsz]; kernel_rfl
  refine region_tab (G := Unit) (fun _ => (region44_0V d0 d1 e0 e1 f0 f1 p0 p1 q0 q1 x0 y0 j o kc ob)) (fun _ _ w' => w'.cell? ⟨kt, 0, none⟩ = some (.int .i64 d0) ∧ w'.cell? ⟨kt, 1, none⟩ = some (.int .i64 d1) ∧ w'.cell? ⟨kt, 2, none⟩ = some (.int .i64 e0) ∧ w'.cell? ⟨kt, 3, none⟩ = some (.int .i64 e1) ∧ w'.cell? ⟨kt, 4, none⟩ = some (.int .i64 f0) ∧ w'.cell? ⟨kt, 5, none⟩ = some (.int .i64 f1) ∧ w'.cell? ⟨kc, 0, none⟩ = some (.int .i64 x0) ∧ w'.cell? ⟨kc, 1, none⟩ = some (.int .i64 y0) ∧ w'.cell? ⟨kc, 2, none⟩ = some (.int .i64 x1) ∧ w'.cell? ⟨kc, 3, none⟩ = some (.int .i64 y0) ∧ w'.cell? ⟨kc, 4, none⟩ = some (.int .i64 x1) ∧ w'.cell? ⟨kc, 5, none⟩ = some (.int .i64 y1) ∧ w'.cell? ⟨kc, 6, none⟩ = some (.int .i64 x0) ∧ w'.cell? ⟨kc, 7, none⟩ = some (.int .i64 y1) ∧ Below W.heap.size W w') () (by kernel_rfl) ho ht h0 ?_ ?_
  · intro i o hoi g L b w' hun hpre hT hS
    clear he h0 ho hsz ht
    have hi : i < (regOps Try.f44 13).size := (Array.getElem?_eq_some_iff.1 hoi).1
    rw [show (regOps Try.f44 13).size = 12 by kernel_rfl] at hi
    obtain ⟨tc0, tc1, tc2, tc3, tc4, tc5, csc0, csc1, csc2, csc3, csc4, csc5, csc6, csc7, HB⟩ := hS
    have hcases : i = 0 ∨ i = 1 ∨ i = 2 ∨ i = 3 ∨ i = 4 ∨ i = 5 ∨ i = 6 ∨ i = 7 ∨ i = 8 ∨ i = 9 ∨ i = 10 ∨ i = 11 := by omega
    rcases hcases with rfl | rfl | rfl | rfl | rfl | rfl | rfl | rfl | rfl | rfl | rfl | rfl
    · have hlit : (regOps Try.f44 13)[0]? = some ({ dst := some 104, op := Op.load 25 (Operand.tmp 2), type := 25, pos := "geom.go:340", after := #[], guard := none }) := by kernel_rfl
      obtain rfl := Option.some.inj (hlit.symm.trans hoi)
      have r2 : b.tmps.getD 2 undef = (.pointer (some ⟨kt, 0, none⟩)) := rd ((hT.old 2 (by kernel_rfl)).trans t2)
      refine op_go hoi (want_all rfl) fun K hK => ?_
      clear hT hpre hun hlit hoi
      go_simp
      exact hK _ _ ⟨(), fun _ _ => rfl, rfl, tc0, tc1, tc2, tc3, tc4, tc5, csc0, csc1, csc2, csc3, csc4, csc5, csc6, csc7, HB⟩
    · have hlit : (regOps Try.f44 13)[1]? = some ({ dst := some 105, op := Op.move (Operand.tmp 6), type := 3, pos := "geom.go:340", after := #[], guard := none }) := by kernel_rfl
      obtain rfl := Option.some.inj (hlit.symm.trans hoi)
      have r6 : b.tmps.getD 6 undef = (.int .i64 j) := rd ((hT.old 6 (by kernel_rfl)).trans t6)
      refine op_go hoi (want_all rfl) fun K hK => ?_
      clear hT hpre hun hlit hoi
      go_simp
      exact hK _ _ ⟨(), fun _ _ => rfl, rfl, tc0, tc1, tc2, tc3, tc4, tc5, csc0, csc1, csc2, csc3, csc4, csc5, csc6, csc7, HB⟩
    · have hlit : (regOps Try.f44 13)[2]? = some ({ dst := some 106, op := Op.call { callee := Callee.value (Operand.func 29), args := #[Operand.tmp 104, Operand.tmp 105], argTypes := #[25, 3] }, type := 23, pos := "geom.go:340", after := #[{ on := 0, ground := Ground.data }, { on := 1, ground := Ground.data }], guard := none }) := by kernel_rfl
      obtain rfl := Option.some.inj (hlit.symm.trans hoi)
      have r104 : b.tmps.getD 104 undef = (.agg #[.int .i64 d0, .int .i64 d1, .int .i64 e0, .int .i64 e1, .int .i64 f0, .int .i64 f1]) := rd (hT.at 0 (by kernel_rfl) (pre_of hpre 0 (by kernel_rfl)))
      have r105 : b.tmps.getD 105 undef = (.int .i64 j) := rd (hT.at 1 (by kernel_rfl) (pre_of hpre 1 (by kernel_rfl)))
      refine op_go hoi (want_all rfl) fun K hK => ?_
      clear hT hpre hun hlit hoi
      go_simp
      go_at_call 29
      refine (cor29 _ _ _ _ _ _ _ _).mono ?_; rw [m1]; rintro e w2 ⟨rfl, hb⟩; replace tc0 := ck hb (a := ⟨kt, 0, none⟩) (v := .int .i64 d0) (by go_simp); replace tc1 := ck hb (a := ⟨kt, 1, none⟩) (v := .int .i64 d1) (by go_simp); replace tc2 := ck hb (a := ⟨kt, 2, none⟩) (v := .int .i64 e0) (by go_simp); replace tc3 := ck hb (a := ⟨kt, 3, none⟩) (v := .int .i64 e1) (by go_simp); replace tc4 := ck hb (a := ⟨kt, 4, none⟩) (v := .int .i64 f0) (by go_simp); replace tc5 := ck hb (a := ⟨kt, 5, none⟩) (v := .int .i64 f1) (by go_simp); replace csc0 := ck hb (a := ⟨kc, 0, none⟩) (v := .int .i64 x0) (by go_simp); replace csc1 := ck hb (a := ⟨kc, 1, none⟩) (v := .int .i64 y0) (by go_simp); replace csc2 := ck hb (a := ⟨kc, 2, none⟩) (v := .int .i64 x1) (by go_simp); replace csc3 := ck hb (a := ⟨kc, 3, none⟩) (v := .int .i64 y0) (by go_simp); replace csc4 := ck hb (a := ⟨kc, 4, none⟩) (v := .int .i64 x1) (by go_simp); replace csc5 := ck hb (a := ⟨kc, 5, none⟩) (v := .int .i64 y1) (by go_simp); replace csc6 := ck hb (a := ⟨kc, 6, none⟩) (v := .int .i64 x0) (by go_simp); replace csc7 := ck hb (a := ⟨kc, 7, none⟩) (v := .int .i64 y1) (by go_simp); replace HB : Below W.heap.size W w2 := bt HB hb; clear hb
      exact hK _ _ ⟨(), fun _ _ => rfl, rfl, tc0, tc1, tc2, tc3, tc4, tc5, csc0, csc1, csc2, csc3, csc4, csc5, csc6, csc7, HB⟩
    · have hlit : (regOps Try.f44 13)[3]? = some ({ dst := some 107, op := Op.load 25 (Operand.tmp 2), type := 25, pos := "geom.go:340", after := #[], guard := none }) := by kernel_rfl
      obtain rfl := Option.some.inj (hlit.symm.trans hoi)
      have r2 : b.tmps.getD 2 undef = (.pointer (some ⟨kt, 0, none⟩)) := rd ((hT.old 2 (by kernel_rfl)).trans t2)
      refine op_go hoi (want_all rfl) fun K hK => ?_
      clear hT hpre hun hlit hoi
      go_simp
      exact hK _ _ ⟨(), fun _ _ => rfl, rfl, tc0, tc1, tc2, tc3, tc4, tc5, csc0, csc1, csc2, csc3, csc4, csc5, csc6, csc7, HB⟩
    · have hlit : (regOps Try.f44 13)[4]? = some ({ dst := some 108, op := Op.move (Operand.tmp 6), type := 3, pos := "geom.go:340", after := #[], guard := none }) := by kernel_rfl
      obtain rfl := Option.some.inj (hlit.symm.trans hoi)
      have r6 : b.tmps.getD 6 undef = (.int .i64 j) := rd ((hT.old 6 (by kernel_rfl)).trans t6)
      refine op_go hoi (want_all rfl) fun K hK => ?_
      clear hT hpre hun hlit hoi
      go_simp
      exact hK _ _ ⟨(), fun _ _ => rfl, rfl, tc0, tc1, tc2, tc3, tc4, tc5, csc0, csc1, csc2, csc3, csc4, csc5, csc6, csc7, HB⟩
    · have hlit : (regOps Try.f44 13)[5]? = some ({ dst := some 109, op := Op.binOp BinOp.add 3 (Operand.tmp 108) (Operand.const (Value.int IntKind.i64 1)) 3, type := 3, pos := "geom.go:340", after := #[{ on := 4, ground := Ground.data }], guard := none }) := by kernel_rfl
      obtain rfl := Option.some.inj (hlit.symm.trans hoi)
      have r108 : b.tmps.getD 108 undef = (.int .i64 j) := rd (hT.at 4 (by kernel_rfl) (pre_of hpre 4 (by kernel_rfl)))
      refine op_go hoi (want_all rfl) fun K hK => ?_
      clear hT hpre hun hlit hoi
      go_simp
      exact hK _ _ ⟨(), fun _ _ => rfl, rfl, tc0, tc1, tc2, tc3, tc4, tc5, csc0, csc1, csc2, csc3, csc4, csc5, csc6, csc7, HB⟩
    · have hlit : (regOps Try.f44 13)[6]? = some ({ dst := some 110, op := Op.call { callee := Callee.value (Operand.func 29), args := #[Operand.tmp 107, Operand.tmp 109], argTypes := #[25, 3] }, type := 23, pos := "geom.go:340", after := #[{ on := 3, ground := Ground.data }, { on := 5, ground := Ground.data }, { on := 2, ground := Ground.chain }], guard := none }) := by kernel_rfl
      obtain rfl := Option.some.inj (hlit.symm.trans hoi)
      have r107 : b.tmps.getD 107 undef = (.agg #[.int .i64 d0, .int .i64 d1, .int .i64 e0, .int .i64 e1, .int .i64 f0, .int .i64 f1]) := rd (hT.at 3 (by kernel_rfl) (pre_of hpre 3 (by kernel_rfl)))
      have r109 : b.tmps.getD 109 undef = (.int .i64 (j + 1)) := rd (hT.at 5 (by kernel_rfl) (pre_of hpre 5 (by kernel_rfl)))
      refine op_go hoi (want_all rfl) fun K hK => ?_
      clear hT hpre hun hlit hoi
      go_simp
      go_at_call 29
      refine (cor29 _ _ _ _ _ _ _ _).mono ?_; rw [m2]; rintro e w2 ⟨rfl, hb⟩; replace tc0 := ck hb (a := ⟨kt, 0, none⟩) (v := .int .i64 d0) (by go_simp); replace tc1 := ck hb (a := ⟨kt, 1, none⟩) (v := .int .i64 d1) (by go_simp); replace tc2 := ck hb (a := ⟨kt, 2, none⟩) (v := .int .i64 e0) (by go_simp); replace tc3 := ck hb (a := ⟨kt, 3, none⟩) (v := .int .i64 e1) (by go_simp); replace tc4 := ck hb (a := ⟨kt, 4, none⟩) (v := .int .i64 f0) (by go_simp); replace tc5 := ck hb (a := ⟨kt, 5, none⟩) (v := .int .i64 f1) (by go_simp); replace csc0 := ck hb (a := ⟨kc, 0, none⟩) (v := .int .i64 x0) (by go_simp); replace csc1 := ck hb (a := ⟨kc, 1, none⟩) (v := .int .i64 y0) (by go_simp); replace csc2 := ck hb (a := ⟨kc, 2, none⟩) (v := .int .i64 x1) (by go_simp); replace csc3 := ck hb (a := ⟨kc, 3, none⟩) (v := .int .i64 y0) (by go_simp); replace csc4 := ck hb (a := ⟨kc, 4, none⟩) (v := .int .i64 x1) (by go_simp); replace csc5 := ck hb (a := ⟨kc, 5, none⟩) (v := .int .i64 y1) (by go_simp); replace csc6 := ck hb (a := ⟨kc, 6, none⟩) (v := .int .i64 x0) (by go_simp); replace csc7 := ck hb (a := ⟨kc, 7, none⟩) (v := .int .i64 y1) (by go_simp); replace HB : Below W.heap.size W w2 := bt HB hb; clear hb
      exact hK _ _ ⟨(), fun _ _ => rfl, rfl, tc0, tc1, tc2, tc3, tc4, tc5, csc0, csc1, csc2, csc3, csc4, csc5, csc6, csc7, HB⟩
    · have hlit : (regOps Try.f44 13)[7]? = some ({ dst := some 111, op := Op.move (Operand.tmp 8), type := 3, pos := "geom.go:340", after := #[], guard := none }) := by kernel_rfl
      obtain rfl := Option.some.inj (hlit.symm.trans hoi)
      have r8 : b.tmps.getD 8 undef = (.int .i64 0) := rd ((hT.old 8 (by kernel_rfl)).trans t8)
      refine op_go hoi (want_all rfl) fun K hK => ?_
      clear hT hpre hun hlit hoi
      go_simp
      exact hK _ _ ⟨(), fun _ _ => rfl, rfl, tc0, tc1, tc2, tc3, tc4, tc5, csc0, csc1, csc2, csc3, csc4, csc5, csc6, csc7, HB⟩
    · have hlit : (regOps Try.f44 13)[8]? = some ({ dst := some 112, op := Op.indexAddr 60 (Operand.tmp 5) (Operand.tmp 111), type := 0, pos := "geom.go:340", after := #[{ on := 7, ground := Ground.data }], guard := none }) := by kernel_rfl
      obtain rfl := Option.some.inj (hlit.symm.trans hoi)
      have r5 : b.tmps.getD 5 undef = (.pointer (some ⟨kc, 0, none⟩)) := rd ((hT.old 5 (by kernel_rfl)).trans t5)
      have r111 : b.tmps.getD 111 undef = (.int .i64 0) := rd (hT.at 7 (by kernel_rfl) (pre_of hpre 7 (by kernel_rfl)))
      refine op_go hoi (want_all rfl) fun K hK => ?_
      clear hT hpre hun hlit hoi
      go_simp
      exact hK _ _ ⟨(), fun _ _ => rfl, rfl, tc0, tc1, tc2, tc3, tc4, tc5, csc0, csc1, csc2, csc3, csc4, csc5, csc6, csc7, HB⟩
    · have hlit : (regOps Try.f44 13)[9]? = some ({ dst := some 113, op := Op.load 23 (Operand.tmp 112), type := 23, pos := "geom.go:340", after := #[{ on := 8, ground := Ground.data }], guard := none }) := by kernel_rfl
      obtain rfl := Option.some.inj (hlit.symm.trans hoi)
      have r112 : b.tmps.getD 112 undef = (.pointer (some ⟨kc, 0, none⟩)) := rd (hT.at 8 (by kernel_rfl) (pre_of hpre 8 (by kernel_rfl)))
      refine op_go hoi (want_all rfl) fun K hK => ?_
      clear hT hpre hun hlit hoi
      go_simp
      exact hK _ _ ⟨(), fun _ _ => rfl, rfl, tc0, tc1, tc2, tc3, tc4, tc5, csc0, csc1, csc2, csc3, csc4, csc5, csc6, csc7, HB⟩
    · have hlit : (regOps Try.f44 13)[10]? = some ({ dst := some 114, op := Op.call { callee := Callee.value (Operand.func 37), args := #[Operand.tmp 106, Operand.tmp 110, Operand.tmp 113], argTypes := #[23, 23, 23] }, type := 3, pos := "geom.go:340", after := #[{ on := 2, ground := Ground.data }, { on := 6, ground := Ground.data }, { on := 9, ground := Ground.data }, { on := 6, ground := Ground.chain }], guard := none }) := by kernel_rfl
      obtain rfl := Option.some.inj (hlit.symm.trans hoi)
      have r106 : b.tmps.getD 106 undef = (.agg #[.int .i64 p0, .int .i64 p1]) := rd (hT.at 2 (by kernel_rfl) (pre_of hpre 2 (by kernel_rfl)))
      have r110 : b.tmps.getD 110 undef = (.agg #[.int .i64 q0, .int .i64 q1]) := rd (hT.at 6 (by kernel_rfl) (pre_of hpre 6 (by kernel_rfl)))
      have r113 : b.tmps.getD 113 undef = (.agg #[.int .i64 x0, .int .i64 y0]) := rd (hT.at 9 (by kernel_rfl) (pre_of hpre 9 (by kernel_rfl)))
      refine op_go hoi (want_all rfl) fun K hK => ?_
      clear hT hpre hun hlit hoi
      go_simp
      go_at_call 37
      refine (ori37 _ _ _ _ _ _ _).mono ?_; rw [m3]; rintro e w2 ⟨rfl, hb⟩; replace tc0 := ck hb (a := ⟨kt, 0, none⟩) (v := .int .i64 d0) (by go_simp); replace tc1 := ck hb (a := ⟨kt, 1, none⟩) (v := .int .i64 d1) (by go_simp); replace tc2 := ck hb (a := ⟨kt, 2, none⟩) (v := .int .i64 e0) (by go_simp); replace tc3 := ck hb (a := ⟨kt, 3, none⟩) (v := .int .i64 e1) (by go_simp); replace tc4 := ck hb (a := ⟨kt, 4, none⟩) (v := .int .i64 f0) (by go_simp); replace tc5 := ck hb (a := ⟨kt, 5, none⟩) (v := .int .i64 f1) (by go_simp); replace csc0 := ck hb (a := ⟨kc, 0, none⟩) (v := .int .i64 x0) (by go_simp); replace csc1 := ck hb (a := ⟨kc, 1, none⟩) (v := .int .i64 y0) (by go_simp); replace csc2 := ck hb (a := ⟨kc, 2, none⟩) (v := .int .i64 x1) (by go_simp); replace csc3 := ck hb (a := ⟨kc, 3, none⟩) (v := .int .i64 y0) (by go_simp); replace csc4 := ck hb (a := ⟨kc, 4, none⟩) (v := .int .i64 x1) (by go_simp); replace csc5 := ck hb (a := ⟨kc, 5, none⟩) (v := .int .i64 y1) (by go_simp); replace csc6 := ck hb (a := ⟨kc, 6, none⟩) (v := .int .i64 x0) (by go_simp); replace csc7 := ck hb (a := ⟨kc, 7, none⟩) (v := .int .i64 y1) (by go_simp); replace HB : Below W.heap.size W w2 := bt HB hb; clear hb
      exact hK _ _ ⟨(), fun _ _ => rfl, rfl, tc0, tc1, tc2, tc3, tc4, tc5, csc0, csc1, csc2, csc3, csc4, csc5, csc6, csc7, HB⟩
    · have hlit : (regOps Try.f44 13)[11]? = some ({ dst := some 115, op := Op.binOp BinOp.lss 3 (Operand.tmp 114) (Operand.const (Value.int IntKind.i64 0)) 3, type := 4, pos := "geom.go:340", after := #[{ on := 10, ground := Ground.data }], guard := none }) := by kernel_rfl
      obtain rfl := Option.some.inj (hlit.symm.trans hoi)
      have r114 : b.tmps.getD 114 undef = (.int .i64 o) := rd (hT.at 10 (by kernel_rfl) (pre_of hpre 10 (by kernel_rfl)))
      refine op_go hoi (want_all rfl) fun K hK => ?_
      clear hT hpre hun hlit hoi
      go_simp
      exact hK _ _ ⟨(), fun _ _ => rfl, rfl, tc0, tc1, tc2, tc3, tc4, tc5, csc0, csc1, csc2, csc3, csc4, csc5, csc6, csc7, HB⟩
  · intro g b w' hT hS
    rw [hT.all ht]
    have hn : (regOps Try.f44 13).size = 12 := by kernel_rfl
    rw [hn]
    exact he w' hS

/-- What each operation of the region leaves. -/
def region44_1V (d0 d1 e0 e1 f0 f1 p0 p1 q0 q1 y0 x1 j o : Int) (kc : Nat) (ob : Bool) : Nat → Value
  | 0 => .agg #[.int .i64 d0, .int .i64 d1, .int .i64 e0, .int .i64 e1, .int .i64 f0, .int .i64 f1]
  | 1 => .int .i64 j
  | 2 => .agg #[.int .i64 p0, .int .i64 p1]
  | 3 => .agg #[.int .i64 d0, .int .i64 d1, .int .i64 e0, .int .i64 e1, .int .i64 f0, .int .i64 f1]
  | 4 => .int .i64 j
  | 5 => .int .i64 (j + 1)
  | 6 => .agg #[.int .i64 q0, .int .i64 q1]
  | 7 => .int .i64 1
  | 8 => .pointer (some ⟨kc, 2, none⟩)
  | 9 => .agg #[.int .i64 x1, .int .i64 y0]
  | 10 => .int .i64 o
  | 11 => .bool ob
  | _ => undef

set_option maxHeartbeats 4000000 in
set_option maxRecDepth 100000 in
theorem region44_1 (d0 d1 e0 e1 f0 f1 p0 p1 q0 q1 x0 y0 x1 y1 j o : Int) (kt kc : Nat) (ob : Bool) (W : World) (m1 : cor ⟨⟨d0, d1⟩, ⟨e0, e1⟩, ⟨f0, f1⟩⟩ j = ⟨p0, p1⟩) (m2 : cor ⟨⟨d0, d1⟩, ⟨e0, e1⟩, ⟨f0, f1⟩⟩ (j + 1) = ⟨q0, q1⟩) (eq1 : IntKind.i64.wrap (j + 1) = j + 1) (m3 : ori ⟨p0, p1⟩ ⟨q0, q1⟩ ⟨x1, y0⟩ = o) (m4 : decide (o < 0) = ob) {id : Nat} {ops : Array Oper} {Q : Exit → Act → World → Prop} {a : Act} {w : World}
    (ho : ops = (regOps Try.f44 13)) (hsz : a.tmps.size = 120) (t2 : a.tmps[2]? = some (.pointer (some ⟨kt, 0, none⟩))) (t6 : a.tmps[6]? = some (.int .i64 j)) (t8 : a.tmps[8]? = some (.int .i64 1)) (t5 : a.tmps[5]? = some (.pointer (some ⟨kc, 0, none⟩)))
    (h0 : w.drew.cell? ⟨kt, 0, none⟩ = some (.int .i64 d0) ∧ w.drew.cell? ⟨kt, 1, none⟩ = some (.int .i64 d1) ∧ w.drew.cell? ⟨kt, 2, none⟩ = some (.int .i64 e0) ∧ w.drew.cell? ⟨kt, 3, none⟩ = some (.int .i64 e1) ∧ w.drew.cell? ⟨kt, 4, none⟩ = some (.int .i64 f0) ∧ w.drew.cell? ⟨kt, 5, none⟩ = some (.int .i64 f1) ∧ w.drew.cell? ⟨kc, 0, none⟩ = some (.int .i64 x0) ∧ w.drew.cell? ⟨kc, 1, none⟩ = some (.int .i64 y0) ∧ w.drew.cell? ⟨kc, 2, none⟩ = some (.int .i64 x1) ∧ w.drew.cell? ⟨kc, 3, none⟩ = some (.int .i64 y0) ∧ w.drew.cell? ⟨kc, 4, none⟩ = some (.int .i64 x1) ∧ w.drew.cell? ⟨kc, 5, none⟩ = some (.int .i64 y1) ∧ w.drew.cell? ⟨kc, 6, none⟩ = some (.int .i64 x0) ∧ w.drew.cell? ⟨kc, 7, none⟩ = some (.int .i64 y1) ∧ Below W.heap.size W w.drew)
    (he : ∀ w', w'.cell? ⟨kt, 0, none⟩ = some (.int .i64 d0) ∧ w'.cell? ⟨kt, 1, none⟩ = some (.int .i64 d1) ∧ w'.cell? ⟨kt, 2, none⟩ = some (.int .i64 e0) ∧ w'.cell? ⟨kt, 3, none⟩ = some (.int .i64 e1) ∧ w'.cell? ⟨kt, 4, none⟩ = some (.int .i64 f0) ∧ w'.cell? ⟨kt, 5, none⟩ = some (.int .i64 f1) ∧ w'.cell? ⟨kc, 0, none⟩ = some (.int .i64 x0) ∧ w'.cell? ⟨kc, 1, none⟩ = some (.int .i64 y0) ∧ w'.cell? ⟨kc, 2, none⟩ = some (.int .i64 x1) ∧ w'.cell? ⟨kc, 3, none⟩ = some (.int .i64 y0) ∧ w'.cell? ⟨kc, 4, none⟩ = some (.int .i64 x1) ∧ w'.cell? ⟨kc, 5, none⟩ = some (.int .i64 y1) ∧ w'.cell? ⟨kc, 6, none⟩ = some (.int .i64 x0) ∧ w'.cell? ⟨kc, 7, none⟩ = some (.int .i64 y1) ∧ Below W.heap.size W w' → Q .normal ⟨((((((((((((a.tmps.setIfInBounds 104 (.agg #[.int .i64 d0, .int .i64 d1, .int .i64 e0, .int .i64 e1, .int .i64 f0, .int .i64 f1])).setIfInBounds 105 (.int .i64 j)).setIfInBounds 106 (.agg #[.int .i64 p0, .int .i64 p1])).setIfInBounds 107 (.agg #[.int .i64 d0, .int .i64 d1, .int .i64 e0, .int .i64 e1, .int .i64 f0, .int .i64 f1])).setIfInBounds 108 (.int .i64 j)).setIfInBounds 109 (.int .i64 (j + 1))).setIfInBounds 110 (.agg #[.int .i64 q0, .int .i64 q1])).setIfInBounds 111 (.int .i64 1)).setIfInBounds 112 (.pointer (some ⟨kc, 2, none⟩))).setIfInBounds 113 (.agg #[.int .i64 x1, .int .i64 y0])).setIfInBounds 114 (.int .i64 o)).setIfInBounds 115 (.bool ob)), a.defers⟩ w') :
    (Code.region id ops true).wp Try.prog Q a w := by
  have ht : tidy (regOps Try.f44 13) a.tmps.size = true := by rw [hsz]; kernel_rfl
  refine region_tab (G := Unit) (fun _ => (region44_1V d0 d1 e0 e1 f0 f1 p0 p1 q0 q1 y0 x1 j o kc ob)) (fun _ _ w' => w'.cell? ⟨kt, 0, none⟩ = some (.int .i64 d0) ∧ w'.cell? ⟨kt, 1, none⟩ = some (.int .i64 d1) ∧ w'.cell? ⟨kt, 2, none⟩ = some (.int .i64 e0) ∧ w'.cell? ⟨kt, 3, none⟩ = some (.int .i64 e1) ∧ w'.cell? ⟨kt, 4, none⟩ = some (.int .i64 f0) ∧ w'.cell? ⟨kt, 5, none⟩ = some (.int .i64 f1) ∧ w'.cell? ⟨kc, 0, none⟩ = some (.int .i64 x0) ∧ w'.cell? ⟨kc, 1, none⟩ = some (.int .i64 y0) ∧ w'.cell? ⟨kc, 2, none⟩ = some (.int .i64 x1) ∧ w'.cell? ⟨kc, 3, none⟩ = some (.int .i64 y0) ∧ w'.cell? ⟨kc, 4, none⟩ = some (.int .i64 x1) ∧ w'.cell? ⟨kc, 5, none⟩ = some (.int .i64 y1) ∧ w'.cell? ⟨kc, 6, none⟩ = some (.int .i64 x0) ∧ w'.cell? ⟨kc, 7, none⟩ = some (.int .i64 y1) ∧ Below W.heap.size W w') () (by kernel_rfl) ho ht h0 ?_ ?_
  · intro i o hoi g L b w' hun hpre hT hS
    clear he h0 ho hsz ht
    have hi : i < (regOps Try.f44 13).size := (Array.getElem?_eq_some_iff.1 hoi).1
    rw [show (regOps Try.f44 13).size = 12 by kernel_rfl] at hi
    obtain ⟨tc0, tc1, tc2, tc3, tc4, tc5, csc0, csc1, csc2, csc3, csc4, csc5, csc6, csc7, HB⟩ := hS
    have hcases : i = 0 ∨ i = 1 ∨ i = 2 ∨ i = 3 ∨ i = 4 ∨ i = 5 ∨ i = 6 ∨ i = 7 ∨ i = 8 ∨ i = 9 ∨ i = 10 ∨ i = 11 := by omega
    rcases hcases with rfl | rfl | rfl | rfl | rfl | rfl | rfl | rfl | rfl | rfl | rfl | rfl
    · have hlit : (regOps Try.f44 13)[0]? = some ({ dst := some 104, op := Op.load 25 (Operand.tmp 2), type := 25, pos := "geom.go:340", after := #[], guard := none }) := by kernel_rfl
      obtain rfl := Option.some.inj (hlit.symm.trans hoi)
      have r2 : b.tmps.getD 2 undef = (.pointer (some ⟨kt, 0, none⟩)) := rd ((hT.old 2 (by kernel_rfl)).trans t2)
      refine op_go hoi (want_all rfl) fun K hK => ?_
      clear hT hpre hun hlit hoi
      go_simp
      exact hK _ _ ⟨(), fun _ _ => rfl, rfl, tc0, tc1, tc2, tc3, tc4, tc5, csc0, csc1, csc2, csc3, csc4, csc5, csc6, csc7, HB⟩
    · have hlit : (regOps Try.f44 13)[1]? = some ({ dst := some 105, op := Op.move (Operand.tmp 6), type := 3, pos := "geom.go:340", after := #[], guard := none }) := by kernel_rfl
      obtain rfl := Option.some.inj (hlit.symm.trans hoi)
      have r6 : b.tmps.getD 6 undef = (.int .i64 j) := rd ((hT.old 6 (by kernel_rfl)).trans t6)
      refine op_go hoi (want_all rfl) fun K hK => ?_
      clear hT hpre hun hlit hoi
      go_simp
      exact hK _ _ ⟨(), fun _ _ => rfl, rfl, tc0, tc1, tc2, tc3, tc4, tc5, csc0, csc1, csc2, csc3, csc4, csc5, csc6, csc7, HB⟩
    · have hlit : (regOps Try.f44 13)[2]? = some ({ dst := some 106, op := Op.call { callee := Callee.value (Operand.func 29), args := #[Operand.tmp 104, Operand.tmp 105], argTypes := #[25, 3] }, type := 23, pos := "geom.go:340", after := #[{ on := 0, ground := Ground.data }, { on := 1, ground := Ground.data }], guard := none }) := by kernel_rfl
      obtain rfl := Option.some.inj (hlit.symm.trans hoi)
      have r104 : b.tmps.getD 104 undef = (.agg #[.int .i64 d0, .int .i64 d1, .int .i64 e0, .int .i64 e1, .int .i64 f0, .int .i64 f1]) := rd (hT.at 0 (by kernel_rfl) (pre_of hpre 0 (by kernel_rfl)))
      have r105 : b.tmps.getD 105 undef = (.int .i64 j) := rd (hT.at 1 (by kernel_rfl) (pre_of hpre 1 (by kernel_rfl)))
      refine op_go hoi (want_all rfl) fun K hK => ?_
      clear hT hpre hun hlit hoi
      go_simp
      go_at_call 29
      refine (cor29 _ _ _ _ _ _ _ _).mono ?_; rw [m1]; rintro e w2 ⟨rfl, hb⟩; replace tc0 := ck hb (a := ⟨kt, 0, none⟩) (v := .int .i64 d0) (by go_simp); replace tc1 := ck hb (a := ⟨kt, 1, none⟩) (v := .int .i64 d1) (by go_simp); replace tc2 := ck hb (a := ⟨kt, 2, none⟩) (v := .int .i64 e0) (by go_simp); replace tc3 := ck hb (a := ⟨kt, 3, none⟩) (v := .int .i64 e1) (by go_simp); replace tc4 := ck hb (a := ⟨kt, 4, none⟩) (v := .int .i64 f0) (by go_simp); replace tc5 := ck hb (a := ⟨kt, 5, none⟩) (v := .int .i64 f1) (by go_simp); replace csc0 := ck hb (a := ⟨kc, 0, none⟩) (v := .int .i64 x0) (by go_simp); replace csc1 := ck hb (a := ⟨kc, 1, none⟩) (v := .int .i64 y0) (by go_simp); replace csc2 := ck hb (a := ⟨kc, 2, none⟩) (v := .int .i64 x1) (by go_simp); replace csc3 := ck hb (a := ⟨kc, 3, none⟩) (v := .int .i64 y0) (by go_simp); replace csc4 := ck hb (a := ⟨kc, 4, none⟩) (v := .int .i64 x1) (by go_simp); replace csc5 := ck hb (a := ⟨kc, 5, none⟩) (v := .int .i64 y1) (by go_simp); replace csc6 := ck hb (a := ⟨kc, 6, none⟩) (v := .int .i64 x0) (by go_simp); replace csc7 := ck hb (a := ⟨kc, 7, none⟩) (v := .int .i64 y1) (by go_simp); replace HB : Below W.heap.size W w2 := bt HB hb; clear hb
      exact hK _ _ ⟨(), fun _ _ => rfl, rfl, tc0, tc1, tc2, tc3, tc4, tc5, csc0, csc1, csc2, csc3, csc4, csc5, csc6, csc7, HB⟩
    · have hlit : (regOps Try.f44 13)[3]? = some ({ dst := some 107, op := Op.load 25 (Operand.tmp 2), type := 25, pos := "geom.go:340", after := #[], guard := none }) := by kernel_rfl
      obtain rfl := Option.some.inj (hlit.symm.trans hoi)
      have r2 : b.tmps.getD 2 undef = (.pointer (some ⟨kt, 0, none⟩)) := rd ((hT.old 2 (by kernel_rfl)).trans t2)
      refine op_go hoi (want_all rfl) fun K hK => ?_
      clear hT hpre hun hlit hoi
      go_simp
      exact hK _ _ ⟨(), fun _ _ => rfl, rfl, tc0, tc1, tc2, tc3, tc4, tc5, csc0, csc1, csc2, csc3, csc4, csc5, csc6, csc7, HB⟩
    · have hlit : (regOps Try.f44 13)[4]? = some ({ dst := some 108, op := Op.move (Operand.tmp 6), type := 3, pos := "geom.go:340", after := #[], guard := none }) := by kernel_rfl
      obtain rfl := Option.some.inj (hlit.symm.trans hoi)
      have r6 : b.tmps.getD 6 undef = (.int .i64 j) := rd ((hT.old 6 (by kernel_rfl)).trans t6)
      refine op_go hoi (want_all rfl) fun K hK => ?_
      clear hT hpre hun hlit hoi
      go_simp
      exact hK _ _ ⟨(), fun _ _ => rfl, rfl, tc0, tc1, tc2, tc3, tc4, tc5, csc0, csc1, csc2, csc3, csc4, csc5, csc6, csc7, HB⟩
    · have hlit : (regOps Try.f44 13)[5]? = some ({ dst := some 109, op := Op.binOp BinOp.add 3 (Operand.tmp 108) (Operand.const (Value.int IntKind.i64 1)) 3, type := 3, pos := "geom.go:340", after := #[{ on := 4, ground := Ground.data }], guard := none }) := by kernel_rfl
      obtain rfl := Option.some.inj (hlit.symm.trans hoi)
      have r108 : b.tmps.getD 108 undef = (.int .i64 j) := rd (hT.at 4 (by kernel_rfl) (pre_of hpre 4 (by kernel_rfl)))
      refine op_go hoi (want_all rfl) fun K hK => ?_
      clear hT hpre hun hlit hoi
      go_simp
      exact hK _ _ ⟨(), fun _ _ => rfl, rfl, tc0, tc1, tc2, tc3, tc4, tc5, csc0, csc1, csc2, csc3, csc4, csc5, csc6, csc7, HB⟩
    · have hlit : (regOps Try.f44 13)[6]? = some ({ dst := some 110, op := Op.call { callee := Callee.value (Operand.func 29), args := #[Operand.tmp 107, Operand.tmp 109], argTypes := #[25, 3] }, type := 23, pos := "geom.go:340", after := #[{ on := 3, ground := Ground.data }, { on := 5, ground := Ground.data }, { on := 2, ground := Ground.chain }], guard := none }) := by kernel_rfl
      obtain rfl := Option.some.inj (hlit.symm.trans hoi)
      have r107 : b.tmps.getD 107 undef = (.agg #[.int .i64 d0, .int .i64 d1, .int .i64 e0, .int .i64 e1, .int .i64 f0, .int .i64 f1]) := rd (hT.at 3 (by kernel_rfl) (pre_of hpre 3 (by kernel_rfl)))
      have r109 : b.tmps.getD 109 undef = (.int .i64 (j + 1)) := rd (hT.at 5 (by kernel_rfl) (pre_of hpre 5 (by kernel_rfl)))
      refine op_go hoi (want_all rfl) fun K hK => ?_
      clear hT hpre hun hlit hoi
      go_simp
      go_at_call 29
      refine (cor29 _ _ _ _ _ _ _ _).mono ?_; rw [m2]; rintro e w2 ⟨rfl, hb⟩; replace tc0 := ck hb (a := ⟨kt, 0, none⟩) (v := .int .i64 d0) (by go_simp); replace tc1 := ck hb (a := ⟨kt, 1, none⟩) (v := .int .i64 d1) (by go_simp); replace tc2 := ck hb (a := ⟨kt, 2, none⟩) (v := .int .i64 e0) (by go_simp); replace tc3 := ck hb (a := ⟨kt, 3, none⟩) (v := .int .i64 e1) (by go_simp); replace tc4 := ck hb (a := ⟨kt, 4, none⟩) (v := .int .i64 f0) (by go_simp); replace tc5 := ck hb (a := ⟨kt, 5, none⟩) (v := .int .i64 f1) (by go_simp); replace csc0 := ck hb (a := ⟨kc, 0, none⟩) (v := .int .i64 x0) (by go_simp); replace csc1 := ck hb (a := ⟨kc, 1, none⟩) (v := .int .i64 y0) (by go_simp); replace csc2 := ck hb (a := ⟨kc, 2, none⟩) (v := .int .i64 x1) (by go_simp); replace csc3 := ck hb (a := ⟨kc, 3, none⟩) (v := .int .i64 y0) (by go_simp); replace csc4 := ck hb (a := ⟨kc, 4, none⟩) (v := .int .i64 x1) (by go_simp); replace csc5 := ck hb (a := ⟨kc, 5, none⟩) (v := .int .i64 y1) (by go_simp); replace csc6 := ck hb (a := ⟨kc, 6, none⟩) (v := .int .i64 x0) (by go_simp); replace csc7 := ck hb (a := ⟨kc, 7, none⟩) (v := .int .i64 y1) (by go_simp); replace HB : Below W.heap.size W w2 := bt HB hb; clear hb
      exact hK _ _ ⟨(), fun _ _ => rfl, rfl, tc0, tc1, tc2, tc3, tc4, tc5, csc0, csc1, csc2, csc3, csc4, csc5, csc6, csc7, HB⟩
    · have hlit : (regOps Try.f44 13)[7]? = some ({ dst := some 111, op := Op.move (Operand.tmp 8), type := 3, pos := "geom.go:340", after := #[], guard := none }) := by kernel_rfl
      obtain rfl := Option.some.inj (hlit.symm.trans hoi)
      have r8 : b.tmps.getD 8 undef = (.int .i64 1) := rd ((hT.old 8 (by kernel_rfl)).trans t8)
      refine op_go hoi (want_all rfl) fun K hK => ?_
      clear hT hpre hun hlit hoi
      go_simp
      exact hK _ _ ⟨(), fun _ _ => rfl, rfl, tc0, tc1, tc2, tc3, tc4, tc5, csc0, csc1, csc2, csc3, csc4, csc5, csc6, csc7, HB⟩
    · have hlit : (regOps Try.f44 13)[8]? = some ({ dst := some 112, op := Op.indexAddr 60 (Operand.tmp 5) (Operand.tmp 111), type := 0, pos := "geom.go:340", after := #[{ on := 7, ground := Ground.data }], guard := none }) := by kernel_rfl
      obtain rfl := Option.some.inj (hlit.symm.trans hoi)
      have r5 : b.tmps.getD 5 undef = (.pointer (some ⟨kc, 0, none⟩)) := rd ((hT.old 5 (by kernel_rfl)).trans t5)
      have r111 : b.tmps.getD 111 undef = (.int .i64 1) := rd (hT.at 7 (by kernel_rfl) (pre_of hpre 7 (by kernel_rfl)))
      refine op_go hoi (want_all rfl) fun K hK => ?_
      clear hT hpre hun hlit hoi
      go_simp
      exact hK _ _ ⟨(), fun _ _ => rfl, rfl, tc0, tc1, tc2, tc3, tc4, tc5, csc0, csc1, csc2, csc3, csc4, csc5, csc6, csc7, HB⟩
    · have hlit : (regOps Try.f44 13)[9]? = some ({ dst := some 113, op := Op.load 23 (Operand.tmp 112), type := 23, pos := "geom.go:340", after := #[{ on := 8, ground := Ground.data }], guard := none }) := by kernel_rfl
      obtain rfl := Option.some.inj (hlit.symm.trans hoi)
      have r112 : b.tmps.getD 112 undef = (.pointer (some ⟨kc, 2, none⟩)) := rd (hT.at 8 (by kernel_rfl) (pre_of hpre 8 (by kernel_rfl)))
      refine op_go hoi (want_all rfl) fun K hK => ?_
      clear hT hpre hun hlit hoi
      go_simp
      exact hK _ _ ⟨(), fun _ _ => rfl, rfl, tc0, tc1, tc2, tc3, tc4, tc5, csc0, csc1, csc2, csc3, csc4, csc5, csc6, csc7, HB⟩
    · have hlit : (regOps Try.f44 13)[10]? = some ({ dst := some 114, op := Op.call { callee := Callee.value (Operand.func 37), args := #[Operand.tmp 106, Operand.tmp 110, Operand.tmp 113], argTypes := #[23, 23, 23] }, type := 3, pos := "geom.go:340", after := #[{ on := 2, ground := Ground.data }, { on := 6, ground := Ground.data }, { on := 9, ground := Ground.data }, { on := 6, ground := Ground.chain }], guard := none }) := by kernel_rfl
      obtain rfl := Option.some.inj (hlit.symm.trans hoi)
      have r106 : b.tmps.getD 106 undef = (.agg #[.int .i64 p0, .int .i64 p1]) := rd (hT.at 2 (by kernel_rfl) (pre_of hpre 2 (by kernel_rfl)))
      have r110 : b.tmps.getD 110 undef = (.agg #[.int .i64 q0, .int .i64 q1]) := rd (hT.at 6 (by kernel_rfl) (pre_of hpre 6 (by kernel_rfl)))
      have r113 : b.tmps.getD 113 undef = (.agg #[.int .i64 x1, .int .i64 y0]) := rd (hT.at 9 (by kernel_rfl) (pre_of hpre 9 (by kernel_rfl)))
      refine op_go hoi (want_all rfl) fun K hK => ?_
      clear hT hpre hun hlit hoi
      go_simp
      go_at_call 37
      refine (ori37 _ _ _ _ _ _ _).mono ?_; rw [m3]; rintro e w2 ⟨rfl, hb⟩; replace tc0 := ck hb (a := ⟨kt, 0, none⟩) (v := .int .i64 d0) (by go_simp); replace tc1 := ck hb (a := ⟨kt, 1, none⟩) (v := .int .i64 d1) (by go_simp); replace tc2 := ck hb (a := ⟨kt, 2, none⟩) (v := .int .i64 e0) (by go_simp); replace tc3 := ck hb (a := ⟨kt, 3, none⟩) (v := .int .i64 e1) (by go_simp); replace tc4 := ck hb (a := ⟨kt, 4, none⟩) (v := .int .i64 f0) (by go_simp); replace tc5 := ck hb (a := ⟨kt, 5, none⟩) (v := .int .i64 f1) (by go_simp); replace csc0 := ck hb (a := ⟨kc, 0, none⟩) (v := .int .i64 x0) (by go_simp); replace csc1 := ck hb (a := ⟨kc, 1, none⟩) (v := .int .i64 y0) (by go_simp); replace csc2 := ck hb (a := ⟨kc, 2, none⟩) (v := .int .i64 x1) (by go_simp); replace csc3 := ck hb (a := ⟨kc, 3, none⟩) (v := .int .i64 y0) (by go_simp); replace csc4 := ck hb (a := ⟨kc, 4, none⟩) (v := .int .i64 x1) (by go_simp); replace csc5 := ck hb (a := ⟨kc, 5, none⟩) (v := .int .i64 y1) (by go_simp); replace csc6 := ck hb (a := ⟨kc, 6, none⟩) (v := .int .i64 x0) (by go_simp); replace csc7 := ck hb (a := ⟨kc, 7, none⟩) (v := .int .i64 y1) (by go_simp); replace HB : Below W.heap.size W w2 := bt HB hb; clear hb
      exact hK _ _ ⟨(), fun _ _ => rfl, rfl, tc0, tc1, tc2, tc3, tc4, tc5, csc0, csc1, csc2, csc3, csc4, csc5, csc6, csc7, HB⟩
    · have hlit : (regOps Try.f44 13)[11]? = some ({ dst := some 115, op := Op.binOp BinOp.lss 3 (Operand.tmp 114) (Operand.const (Value.int IntKind.i64 0)) 3, type := 4, pos := "geom.go:340", after := #[{ on := 10, ground := Ground.data }], guard := none }) := by kernel_rfl
      obtain rfl := Option.some.inj (hlit.symm.trans hoi)
      have r114 : b.tmps.getD 114 undef = (.int .i64 o) := rd (hT.at 10 (by kernel_rfl) (pre_of hpre 10 (by kernel_rfl)))
      refine op_go hoi (want_all rfl) fun K hK => ?_
      clear hT hpre hun hlit hoi
      go_simp
      exact hK _ _ ⟨(), fun _ _ => rfl, rfl, tc0, tc1, tc2, tc3, tc4, tc5, csc0, csc1, csc2, csc3, csc4, csc5, csc6, csc7, HB⟩
  · intro g b w' hT hS
    rw [hT.all ht]
    have hn : (regOps Try.f44 13).size = 12 := by kernel_rfl
    rw [hn]
    exact he w' hS

/-- What each operation of the region leaves. -/
def region44_2V (d0 d1 e0 e1 f0 f1 p0 p1 q0 q1 x1 y1 j o : Int) (kc : Nat) (ob : Bool) : Nat → Value
  | 0 => .agg #[.int .i64 d0, .int .i64 d1, .int .i64 e0, .int .i64 e1, .int .i64 f0, .int .i64 f1]
  | 1 => .int .i64 j
  | 2 => .agg #[.int .i64 p0, .int .i64 p1]
  | 3 => .agg #[.int .i64 d0, .int .i64 d1, .int .i64 e0, .int .i64 e1, .int .i64 f0, .int .i64 f1]
  | 4 => .int .i64 j
  | 5 => .int .i64 (j + 1)
  | 6 => .agg #[.int .i64 q0, .int .i64 q1]
  | 7 => .int .i64 2
  | 8 => .pointer (some ⟨kc, 4, none⟩)
  | 9 => .agg #[.int .i64 x1, .int .i64 y1]
  | 10 => .int .i64 o
  | 11 => .bool ob
  | _ => undef

set_option maxHeartbeats 4000000 in
set_option maxRecDepth 100000 in
theorem region44_2 (d0 d1 e0 e1 f0 f1 p0 p1 q0 q1 x0 y0 x1 y1 j o : Int) (kt kc : Nat) (ob : Bool) (W : World) (m1 : cor ⟨⟨d0, d1⟩, ⟨e0, e1⟩, ⟨f0, f1⟩⟩ j = ⟨p0, p1⟩) (m2 : cor ⟨⟨d0, d1⟩, ⟨e0, e1⟩, ⟨f0, f1⟩⟩ (j + 1) = ⟨q0, q1⟩) (eq1 : IntKind.i64.wrap (j + 1) = j + 1) (m3 : ori ⟨p0, p1⟩ ⟨q0, q1⟩ ⟨x1, y1⟩ = o) (m4 : decide (o < 0) = ob) {id : Nat} {ops : Array Oper} {Q : Exit → Act → World → Prop} {a : Act} {w : World}
    (ho : ops = (regOps Try.f44 13)) (hsz : a.tmps.size = 120) (t2 : a.tmps[2]? = some (.pointer (some ⟨kt, 0, none⟩))) (t6 : a.tmps[6]? = some (.int .i64 j)) (t8 : a.tmps[8]? = some (.int .i64 2)) (t5 : a.tmps[5]? = some (.pointer (some ⟨kc, 0, none⟩)))
    (h0 : w.drew.cell? ⟨kt, 0, none⟩ = some (.int .i64 d0) ∧ w.drew.cell? ⟨kt, 1, none⟩ = some (.int .i64 d1) ∧ w.drew.cell? ⟨kt, 2, none⟩ = some (.int .i64 e0) ∧ w.drew.cell? ⟨kt, 3, none⟩ = some (.int .i64 e1) ∧ w.drew.cell? ⟨kt, 4, none⟩ = some (.int .i64 f0) ∧ w.drew.cell? ⟨kt, 5, none⟩ = some (.int .i64 f1) ∧ w.drew.cell? ⟨kc, 0, none⟩ = some (.int .i64 x0) ∧ w.drew.cell? ⟨kc, 1, none⟩ = some (.int .i64 y0) ∧ w.drew.cell? ⟨kc, 2, none⟩ = some (.int .i64 x1) ∧ w.drew.cell? ⟨kc, 3, none⟩ = some (.int .i64 y0) ∧ w.drew.cell? ⟨kc, 4, none⟩ = some (.int .i64 x1) ∧ w.drew.cell? ⟨kc, 5, none⟩ = some (.int .i64 y1) ∧ w.drew.cell? ⟨kc, 6, none⟩ = some (.int .i64 x0) ∧ w.drew.cell? ⟨kc, 7, none⟩ = some (.int .i64 y1) ∧ Below W.heap.size W w.drew)
    (he : ∀ w', w'.cell? ⟨kt, 0, none⟩ = some (.int .i64 d0) ∧ w'.cell? ⟨kt, 1, none⟩ = some (.int .i64 d1) ∧ w'.cell? ⟨kt, 2, none⟩ = some (.int .i64 e0) ∧ w'.cell? ⟨kt, 3, none⟩ = some (.int .i64 e1) ∧ w'.cell? ⟨kt, 4, none⟩ = some (.int .i64 f0) ∧ w'.cell? ⟨kt, 5, none⟩ = some (.int .i64 f1) ∧ w'.cell? ⟨kc, 0, none⟩ = some (.int .i64 x0) ∧ w'.cell? ⟨kc, 1, none⟩ = some (.int .i64 y0) ∧ w'.cell? ⟨kc, 2, none⟩ = some (.int .i64 x1) ∧ w'.cell? ⟨kc, 3, none⟩ = some (.int .i64 y0) ∧ w'.cell? ⟨kc, 4, none⟩ = some (.int .i64 x1) ∧ w'.cell? ⟨kc, 5, none⟩ = some (.int .i64 y1) ∧ w'.cell? ⟨kc, 6, none⟩ = some (.int .i64 x0) ∧ w'.cell? ⟨kc, 7, none⟩ = some (.int .i64 y1) ∧ Below W.heap.size W w' → Q .normal ⟨((((((((((((a.tmps.setIfInBounds 104 (.agg #[.int .i64 d0, .int .i64 d1, .int .i64 e0, .int .i64 e1, .int .i64 f0, .int .i64 f1])).setIfInBounds 105 (.int .i64 j)).setIfInBounds 106 (.agg #[.int .i64 p0, .int .i64 p1])).setIfInBounds 107 (.agg #[.int .i64 d0, .int .i64 d1, .int .i64 e0, .int .i64 e1, .int .i64 f0, .int .i64 f1])).setIfInBounds 108 (.int .i64 j)).setIfInBounds 109 (.int .i64 (j + 1))).setIfInBounds 110 (.agg #[.int .i64 q0, .int .i64 q1])).setIfInBounds 111 (.int .i64 2)).setIfInBounds 112 (.pointer (some ⟨kc, 4, none⟩))).setIfInBounds 113 (.agg #[.int .i64 x1, .int .i64 y1])).setIfInBounds 114 (.int .i64 o)).setIfInBounds 115 (.bool ob)), a.defers⟩ w') :
    (Code.region id ops true).wp Try.prog Q a w := by
  have ht : tidy (regOps Try.f44 13) a.tmps.size = true := by rw [hsz]; kernel_rfl
  refine region_tab (G := Unit) (fun _ => (region44_2V d0 d1 e0 e1 f0 f1 p0 p1 q0 q1 x1 y1 j o kc ob)) (fun _ _ w' => w'.cell? ⟨kt, 0, none⟩ = some (.int .i64 d0) ∧ w'.cell? ⟨kt, 1, none⟩ = some (.int .i64 d1) ∧ w'.cell? ⟨kt, 2, none⟩ = some (.int .i64 e0) ∧ w'.cell? ⟨kt, 3, none⟩ = some (.int .i64 e1) ∧ w'.cell? ⟨kt, 4, none⟩ = some (.int .i64 f0) ∧ w'.cell? ⟨kt, 5, none⟩ = some (.int .i64 f1) ∧ w'.cell? ⟨kc, 0, none⟩ = some (.int .i64 x0) ∧ w'.cell? ⟨kc, 1, none⟩ = some (.int .i64 y0) ∧ w'.cell? ⟨kc, 2, none⟩ = some (.int .i64 x1) ∧ w'.cell? ⟨kc, 3, none⟩ = some (.int .i64 y0) ∧ w'.cell? ⟨kc, 4, none⟩ = some (.int .i64 x1) ∧ w'.cell? ⟨kc, 5, none⟩ = some (.int .i64 y1) ∧ w'.cell? ⟨kc, 6, none⟩ = some (.int .i64 x0) ∧ w'.cell? ⟨kc, 7, none⟩ = some (.int .i64 y1) ∧ Below W.heap.size W w') () (by kernel_rfl) ho ht h0 ?_ ?_
  · intro i o hoi g L b w' hun hpre hT hS
    clear he h0 ho hsz ht
    have hi : i < (regOps Try.f44 13).size := (Array.getElem?_eq_some_iff.1 hoi).1
    rw [show (regOps Try.f44 13).size = 12 by kernel_rfl] at hi
    obtain ⟨tc0, tc1, tc2, tc3, tc4, tc5, csc0, csc1, csc2, csc3, csc4, csc5, csc6, csc7, HB⟩ := hS
    have hcases : i = 0 ∨ i = 1 ∨ i = 2 ∨ i = 3 ∨ i = 4 ∨ i = 5 ∨ i = 6 ∨ i = 7 ∨ i = 8 ∨ i = 9 ∨ i = 10 ∨ i = 11 := by omega
    rcases hcases with rfl | rfl | rfl | rfl | rfl | rfl | rfl | rfl | rfl | rfl | rfl | rfl
    · have hlit : (regOps Try.f44 13)[0]? = some ({ dst := some 104, op := Op.load 25 (Operand.tmp 2), type := 25, pos := "geom.go:340", after := #[], guard := none }) := by kernel_rfl
      obtain rfl := Option.some.inj (hlit.symm.trans hoi)
      have r2 : b.tmps.getD 2 undef = (.pointer (some ⟨kt, 0, none⟩)) := rd ((hT.old 2 (by kernel_rfl)).trans t2)
      refine op_go hoi (want_all rfl) fun K hK => ?_
      clear hT hpre hun hlit hoi
      go_simp
      exact hK _ _ ⟨(), fun _ _ => rfl, rfl, tc0, tc1, tc2, tc3, tc4, tc5, csc0, csc1, csc2, csc3, csc4, csc5, csc6, csc7, HB⟩
    · have hlit : (regOps Try.f44 13)[1]? = some ({ dst := some 105, op := Op.move (Operand.tmp 6), type := 3, pos := "geom.go:340", after := #[], guard := none }) := by kernel_rfl
      obtain rfl := Option.some.inj (hlit.symm.trans hoi)
      have r6 : b.tmps.getD 6 undef = (.int .i64 j) := rd ((hT.old 6 (by kernel_rfl)).trans t6)
      refine op_go hoi (want_all rfl) fun K hK => ?_
      clear hT hpre hun hlit hoi
      go_simp
      exact hK _ _ ⟨(), fun _ _ => rfl, rfl, tc0, tc1, tc2, tc3, tc4, tc5, csc0, csc1, csc2, csc3, csc4, csc5, csc6, csc7, HB⟩
    · have hlit : (regOps Try.f44 13)[2]? = some ({ dst := some 106, op := Op.call { callee := Callee.value (Operand.func 29), args := #[Operand.tmp 104, Operand.tmp 105], argTypes := #[25, 3] }, type := 23, pos := "geom.go:340", after := #[{ on := 0, ground := Ground.data }, { on := 1, ground := Ground.data }], guard := none }) := by kernel_rfl
      obtain rfl := Option.some.inj (hlit.symm.trans hoi)
      have r104 : b.tmps.getD 104 undef = (.agg #[.int .i64 d0, .int .i64 d1, .int .i64 e0, .int .i64 e1, .int .i64 f0, .int .i64 f1]) := rd (hT.at 0 (by kernel_rfl) (pre_of hpre 0 (by kernel_rfl)))
      have r105 : b.tmps.getD 105 undef = (.int .i64 j) := rd (hT.at 1 (by kernel_rfl) (pre_of hpre 1 (by kernel_rfl)))
      refine op_go hoi (want_all rfl) fun K hK => ?_
      clear hT hpre hun hlit hoi
      go_simp
      go_at_call 29
      refine (cor29 _ _ _ _ _ _ _ _).mono ?_; rw [m1]; rintro e w2 ⟨rfl, hb⟩; replace tc0 := ck hb (a := ⟨kt, 0, none⟩) (v := .int .i64 d0) (by go_simp); replace tc1 := ck hb (a := ⟨kt, 1, none⟩) (v := .int .i64 d1) (by go_simp); replace tc2 := ck hb (a := ⟨kt, 2, none⟩) (v := .int .i64 e0) (by go_simp); replace tc3 := ck hb (a := ⟨kt, 3, none⟩) (v := .int .i64 e1) (by go_simp); replace tc4 := ck hb (a := ⟨kt, 4, none⟩) (v := .int .i64 f0) (by go_simp); replace tc5 := ck hb (a := ⟨kt, 5, none⟩) (v := .int .i64 f1) (by go_simp); replace csc0 := ck hb (a := ⟨kc, 0, none⟩) (v := .int .i64 x0) (by go_simp); replace csc1 := ck hb (a := ⟨kc, 1, none⟩) (v := .int .i64 y0) (by go_simp); replace csc2 := ck hb (a := ⟨kc, 2, none⟩) (v := .int .i64 x1) (by go_simp); replace csc3 := ck hb (a := ⟨kc, 3, none⟩) (v := .int .i64 y0) (by go_simp); replace csc4 := ck hb (a := ⟨kc, 4, none⟩) (v := .int .i64 x1) (by go_simp); replace csc5 := ck hb (a := ⟨kc, 5, none⟩) (v := .int .i64 y1) (by go_simp); replace csc6 := ck hb (a := ⟨kc, 6, none⟩) (v := .int .i64 x0) (by go_simp); replace csc7 := ck hb (a := ⟨kc, 7, none⟩) (v := .int .i64 y1) (by go_simp); replace HB : Below W.heap.size W w2 := bt HB hb; clear hb
      exact hK _ _ ⟨(), fun _ _ => rfl, rfl, tc0, tc1, tc2, tc3, tc4, tc5, csc0, csc1, csc2, csc3, csc4, csc5, csc6, csc7, HB⟩
    · have hlit : (regOps Try.f44 13)[3]? = some ({ dst := some 107, op := Op.load 25 (Operand.tmp 2), type := 25, pos := "geom.go:340", after := #[], guard := none }) := by kernel_rfl
      obtain rfl := Option.some.inj (hlit.symm.trans hoi)
      have r2 : b.tmps.getD 2 undef = (.pointer (some ⟨kt, 0, none⟩)) := rd ((hT.old 2 (by kernel_rfl)).trans t2)
      refine op_go hoi (want_all rfl) fun K hK => ?_
      clear hT hpre hun hlit hoi
      go_simp
      exact hK _ _ ⟨(), fun _ _ => rfl, rfl, tc0, tc1, tc2, tc3, tc4, tc5, csc0, csc1, csc2, csc3, csc4, csc5, csc6, csc7, HB⟩
    · have hlit : (regOps Try.f44 13)[4]? = some ({ dst := some 108, op := Op.move (Operand.tmp 6), type := 3, pos := "geom.go:340", after := #[], guard := none }) := by kernel_rfl
      obtain rfl := Option.some.inj (hlit.symm.trans hoi)
      have r6 : b.tmps.getD 6 undef = (.int .i64 j) := rd ((hT.old 6 (by kernel_rfl)).trans t6)
      refine op_go hoi (want_all rfl) fun K hK => ?_
      clear hT hpre hun hlit hoi
      go_simp
      exact hK _ _ ⟨(), fun _ _ => rfl, rfl, tc0, tc1, tc2, tc3, tc4, tc5, csc0, csc1, csc2, csc3, csc4, csc5, csc6, csc7, HB⟩
    · have hlit : (regOps Try.f44 13)[5]? = some ({ dst := some 109, op := Op.binOp BinOp.add 3 (Operand.tmp 108) (Operand.const (Value.int IntKind.i64 1)) 3, type := 3, pos := "geom.go:340", after := #[{ on := 4, ground := Ground.data }], guard := none }) := by kernel_rfl
      obtain rfl := Option.some.inj (hlit.symm.trans hoi)
      have r108 : b.tmps.getD 108 undef = (.int .i64 j) := rd (hT.at 4 (by kernel_rfl) (pre_of hpre 4 (by kernel_rfl)))
      refine op_go hoi (want_all rfl) fun K hK => ?_
      clear hT hpre hun hlit hoi
      go_simp
      exact hK _ _ ⟨(), fun _ _ => rfl, rfl, tc0, tc1, tc2, tc3, tc4, tc5, csc0, csc1, csc2, csc3, csc4, csc5, csc6, csc7, HB⟩
    · have hlit : (regOps Try.f44 13)[6]? = some ({ dst := some 110, op := Op.call { callee := Callee.value (Operand.func 29), args := #[Operand.tmp 107, Operand.tmp 109], argTypes := #[25, 3] }, type := 23, pos := "geom.go:340", after := #[{ on := 3, ground := Ground.data }, { on := 5, ground := Ground.data }, { on := 2, ground := Ground.chain }], guard := none }) := by kernel_rfl
      obtain rfl := Option.some.inj (hlit.symm.trans hoi)
      have r107 : b.tmps.getD 107 undef = (.agg #[.int .i64 d0, .int .i64 d1, .int .i64 e0, .int .i64 e1, .int .i64 f0, .int .i64 f1]) := rd (hT.at 3 (by kernel_rfl) (pre_of hpre 3 (by kernel_rfl)))
      have r109 : b.tmps.getD 109 undef = (.int .i64 (j + 1)) := rd (hT.at 5 (by kernel_rfl) (pre_of hpre 5 (by kernel_rfl)))
      refine op_go hoi (want_all rfl) fun K hK => ?_
      clear hT hpre hun hlit hoi
      go_simp
      go_at_call 29
      refine (cor29 _ _ _ _ _ _ _ _).mono ?_; rw [m2]; rintro e w2 ⟨rfl, hb⟩; replace tc0 := ck hb (a := ⟨kt, 0, none⟩) (v := .int .i64 d0) (by go_simp); replace tc1 := ck hb (a := ⟨kt, 1, none⟩) (v := .int .i64 d1) (by go_simp); replace tc2 := ck hb (a := ⟨kt, 2, none⟩) (v := .int .i64 e0) (by go_simp); replace tc3 := ck hb (a := ⟨kt, 3, none⟩) (v := .int .i64 e1) (by go_simp); replace tc4 := ck hb (a := ⟨kt, 4, none⟩) (v := .int .i64 f0) (by go_simp); replace tc5 := ck hb (a := ⟨kt, 5, none⟩) (v := .int .i64 f1) (by go_simp); replace csc0 := ck hb (a := ⟨kc, 0, none⟩) (v := .int .i64 x0) (by go_simp); replace csc1 := ck hb (a := ⟨kc, 1, none⟩) (v := .int .i64 y0) (by go_simp); replace csc2 := ck hb (a := ⟨kc, 2, none⟩) (v := .int .i64 x1) (by go_simp); replace csc3 := ck hb (a := ⟨kc, 3, none⟩) (v := .int .i64 y0) (by go_simp); replace csc4 := ck hb (a := ⟨kc, 4, none⟩) (v := .int .i64 x1) (by go_simp); replace csc5 := ck hb (a := ⟨kc, 5, none⟩) (v := .int .i64 y1) (by go_simp); replace csc6 := ck hb (a := ⟨kc, 6, none⟩) (v := .int .i64 x0) (by go_simp); replace csc7 := ck hb (a := ⟨kc, 7, none⟩) (v := .int .i64 y1) (by go_simp); replace HB : Below W.heap.size W w2 := bt HB hb; clear hb
      exact hK _ _ ⟨(), fun _ _ => rfl, rfl, tc0, tc1, tc2, tc3, tc4, tc5, csc0, csc1, csc2, csc3, csc4, csc5, csc6, csc7, HB⟩
    · have hlit : (regOps Try.f44 13)[7]? = some ({ dst := some 111, op := Op.move (Operand.tmp 8), type := 3, pos := "geom.go:340", after := #[], guard := none }) := by kernel_rfl
      obtain rfl := Option.some.inj (hlit.symm.trans hoi)
      have r8 : b.tmps.getD 8 undef = (.int .i64 2) := rd ((hT.old 8 (by kernel_rfl)).trans t8)
      refine op_go hoi (want_all rfl) fun K hK => ?_
      clear hT hpre hun hlit hoi
      go_simp
      exact hK _ _ ⟨(), fun _ _ => rfl, rfl, tc0, tc1, tc2, tc3, tc4, tc5, csc0, csc1, csc2, csc3, csc4, csc5, csc6, csc7, HB⟩
    · have hlit : (regOps Try.f44 13)[8]? = some ({ dst := some 112, op := Op.indexAddr 60 (Operand.tmp 5) (Operand.tmp 111), type := 0, pos := "geom.go:340", after := #[{ on := 7, ground := Ground.data }], guard := none }) := by kernel_rfl
      obtain rfl := Option.some.inj (hlit.symm.trans hoi)
      have r5 : b.tmps.getD 5 undef = (.pointer (some ⟨kc, 0, none⟩)) := rd ((hT.old 5 (by kernel_rfl)).trans t5)
      have r111 : b.tmps.getD 111 undef = (.int .i64 2) := rd (hT.at 7 (by kernel_rfl) (pre_of hpre 7 (by kernel_rfl)))
      refine op_go hoi (want_all rfl) fun K hK => ?_
      clear hT hpre hun hlit hoi
      go_simp
      exact hK _ _ ⟨(), fun _ _ => rfl, rfl, tc0, tc1, tc2, tc3, tc4, tc5, csc0, csc1, csc2, csc3, csc4, csc5, csc6, csc7, HB⟩
    · have hlit : (regOps Try.f44 13)[9]? = some ({ dst := some 113, op := Op.load 23 (Operand.tmp 112), type := 23, pos := "geom.go:340", after := #[{ on := 8, ground := Ground.data }], guard := none }) := by kernel_rfl
      obtain rfl := Option.some.inj (hlit.symm.trans hoi)
      have r112 : b.tmps.getD 112 undef = (.pointer (some ⟨kc, 4, none⟩)) := rd (hT.at 8 (by kernel_rfl) (pre_of hpre 8 (by kernel_rfl)))
      refine op_go hoi (want_all rfl) fun K hK => ?_
      clear hT hpre hun hlit hoi
      go_simp
      exact hK _ _ ⟨(), fun _ _ => rfl, rfl, tc0, tc1, tc2, tc3, tc4, tc5, csc0, csc1, csc2, csc3, csc4, csc5, csc6, csc7, HB⟩
    · have hlit : (regOps Try.f44 13)[10]? = some ({ dst := some 114, op := Op.call { callee := Callee.value (Operand.func 37), args := #[Operand.tmp 106, Operand.tmp 110, Operand.tmp 113], argTypes := #[23, 23, 23] }, type := 3, pos := "geom.go:340", after := #[{ on := 2, ground := Ground.data }, { on := 6, ground := Ground.data }, { on := 9, ground := Ground.data }, { on := 6, ground := Ground.chain }], guard := none }) := by kernel_rfl
      obtain rfl := Option.some.inj (hlit.symm.trans hoi)
      have r106 : b.tmps.getD 106 undef = (.agg #[.int .i64 p0, .int .i64 p1]) := rd (hT.at 2 (by kernel_rfl) (pre_of hpre 2 (by kernel_rfl)))
      have r110 : b.tmps.getD 110 undef = (.agg #[.int .i64 q0, .int .i64 q1]) := rd (hT.at 6 (by kernel_rfl) (pre_of hpre 6 (by kernel_rfl)))
      have r113 : b.tmps.getD 113 undef = (.agg #[.int .i64 x1, .int .i64 y1]) := rd (hT.at 9 (by kernel_rfl) (pre_of hpre 9 (by kernel_rfl)))
      refine op_go hoi (want_all rfl) fun K hK => ?_
      clear hT hpre hun hlit hoi
      go_simp
      go_at_call 37
      refine (ori37 _ _ _ _ _ _ _).mono ?_; rw [m3]; rintro e w2 ⟨rfl, hb⟩; replace tc0 := ck hb (a := ⟨kt, 0, none⟩) (v := .int .i64 d0) (by go_simp); replace tc1 := ck hb (a := ⟨kt, 1, none⟩) (v := .int .i64 d1) (by go_simp); replace tc2 := ck hb (a := ⟨kt, 2, none⟩) (v := .int .i64 e0) (by go_simp); replace tc3 := ck hb (a := ⟨kt, 3, none⟩) (v := .int .i64 e1) (by go_simp); replace tc4 := ck hb (a := ⟨kt, 4, none⟩) (v := .int .i64 f0) (by go_simp); replace tc5 := ck hb (a := ⟨kt, 5, none⟩) (v := .int .i64 f1) (by go_simp); replace csc0 := ck hb (a := ⟨kc, 0, none⟩) (v := .int .i64 x0) (by go_simp); replace csc1 := ck hb (a := ⟨kc, 1, none⟩) (v := .int .i64 y0) (by go_simp); replace csc2 := ck hb (a := ⟨kc, 2, none⟩) (v := .int .i64 x1) (by go_simp); replace csc3 := ck hb (a := ⟨kc, 3, none⟩) (v := .int .i64 y0) (by go_simp); replace csc4 := ck hb (a := ⟨kc, 4, none⟩) (v := .int .i64 x1) (by go_simp); replace csc5 := ck hb (a := ⟨kc, 5, none⟩) (v := .int .i64 y1) (by go_simp); replace csc6 := ck hb (a := ⟨kc, 6, none⟩) (v := .int .i64 x0) (by go_simp); replace csc7 := ck hb (a := ⟨kc, 7, none⟩) (v := .int .i64 y1) (by go_simp); replace HB : Below W.heap.size W w2 := bt HB hb; clear hb
      exact hK _ _ ⟨(), fun _ _ => rfl, rfl, tc0, tc1, tc2, tc3, tc4, tc5, csc0, csc1, csc2, csc3, csc4, csc5, csc6, csc7, HB⟩
    · have hlit : (regOps Try.f44 13)[11]? = some ({ dst := some 115, op := Op.binOp BinOp.lss 3 (Operand.tmp 114) (Operand.const (Value.int IntKind.i64 0)) 3, type := 4, pos := "geom.go:340", after := #[{ on := 10, ground := Ground.data }], guard := none }) := by kernel_rfl
      obtain rfl := Option.some.inj (hlit.symm.trans hoi)
      have r114 : b.tmps.getD 114 undef = (.int .i64 o) := rd (hT.at 10 (by kernel_rfl) (pre_of hpre 10 (by kernel_rfl)))
      refine op_go hoi (want_all rfl) fun K hK => ?_
      clear hT hpre hun hlit hoi
      go_simp
      exact hK _ _ ⟨(), fun _ _ => rfl, rfl, tc0, tc1, tc2, tc3, tc4, tc5, csc0, csc1, csc2, csc3, csc4, csc5, csc6, csc7, HB⟩
  · intro g b w' hT hS
    rw [hT.all ht]
    have hn : (regOps Try.f44 13).size = 12 := by kernel_rfl
    rw [hn]
    exact he w' hS

/-- What each operation of the region leaves. -/
def region44_3V (d0 d1 e0 e1 f0 f1 p0 p1 q0 q1 x0 y1 j o : Int) (kc : Nat) (ob : Bool) : Nat → Value
  | 0 => .agg #[.int .i64 d0, .int .i64 d1, .int .i64 e0, .int .i64 e1, .int .i64 f0, .int .i64 f1]
  | 1 => .int .i64 j
  | 2 => .agg #[.int .i64 p0, .int .i64 p1]
  | 3 => .agg #[.int .i64 d0, .int .i64 d1, .int .i64 e0, .int .i64 e1, .int .i64 f0, .int .i64 f1]
  | 4 => .int .i64 j
  | 5 => .int .i64 (j + 1)
  | 6 => .agg #[.int .i64 q0, .int .i64 q1]
  | 7 => .int .i64 3
  | 8 => .pointer (some ⟨kc, 6, none⟩)
  | 9 => .agg #[.int .i64 x0, .int .i64 y1]
  | 10 => .int .i64 o
  | 11 => .bool ob
  | _ => undef

set_option maxHeartbeats 4000000 in
set_option maxRecDepth 100000 in
theorem region44_3 (d0 d1 e0 e1 f0 f1 p0 p1 q0 q1 x0 y0 x1 y1 j o : Int) (kt kc : Nat) (ob : Bool) (W : World) (m1 : cor ⟨⟨d0, d1⟩, ⟨e0, e1⟩, ⟨f0, f1⟩⟩ j = ⟨p0, p1⟩) (m2 : cor ⟨⟨d0, d1⟩, ⟨e0, e1⟩, ⟨f0, f1⟩⟩ (j + 1) = ⟨q0, q1⟩) (eq1 : IntKind.i64.wrap (j + 1) = j + 1) (m3 : ori ⟨p0, p1⟩ ⟨q0, q1⟩ ⟨x0, y1⟩ = o) (m4 : decide (o < 0) = ob) {id : Nat} {ops : Array Oper} {Q : Exit → Act → World → Prop} {a : Act} {w : World}
    (ho : ops = (regOps Try.f44 13)) (hsz : a.tmps.size = 120) (t2 : a.tmps[2]? = some (.pointer (some ⟨kt, 0, none⟩))) (t6 : a.tmps[6]? = some (.int .i64 j)) (t8 : a.tmps[8]? = some (.int .i64 3)) (t5 : a.tmps[5]? = some (.pointer (some ⟨kc, 0, none⟩)))
    (h0 : w.drew.cell? ⟨kt, 0, none⟩ = some (.int .i64 d0) ∧ w.drew.cell? ⟨kt, 1, none⟩ = some (.int .i64 d1) ∧ w.drew.cell? ⟨kt, 2, none⟩ = some (.int .i64 e0) ∧ w.drew.cell? ⟨kt, 3, none⟩ = some (.int .i64 e1) ∧ w.drew.cell? ⟨kt, 4, none⟩ = some (.int .i64 f0) ∧ w.drew.cell? ⟨kt, 5, none⟩ = some (.int .i64 f1) ∧ w.drew.cell? ⟨kc, 0, none⟩ = some (.int .i64 x0) ∧ w.drew.cell? ⟨kc, 1, none⟩ = some (.int .i64 y0) ∧ w.drew.cell? ⟨kc, 2, none⟩ = some (.int .i64 x1) ∧ w.drew.cell? ⟨kc, 3, none⟩ = some (.int .i64 y0) ∧ w.drew.cell? ⟨kc, 4, none⟩ = some (.int .i64 x1) ∧ w.drew.cell? ⟨kc, 5, none⟩ = some (.int .i64 y1) ∧ w.drew.cell? ⟨kc, 6, none⟩ = some (.int .i64 x0) ∧ w.drew.cell? ⟨kc, 7, none⟩ = some (.int .i64 y1) ∧ Below W.heap.size W w.drew)
    (he : ∀ w', w'.cell? ⟨kt, 0, none⟩ = some (.int .i64 d0) ∧ w'.cell? ⟨kt, 1, none⟩ = some (.int .i64 d1) ∧ w'.cell? ⟨kt, 2, none⟩ = some (.int .i64 e0) ∧ w'.cell? ⟨kt, 3, none⟩ = some (.int .i64 e1) ∧ w'.cell? ⟨kt, 4, none⟩ = some (.int .i64 f0) ∧ w'.cell? ⟨kt, 5, none⟩ = some (.int .i64 f1) ∧ w'.cell? ⟨kc, 0, none⟩ = some (.int .i64 x0) ∧ w'.cell? ⟨kc, 1, none⟩ = some (.int .i64 y0) ∧ w'.cell? ⟨kc, 2, none⟩ = some (.int .i64 x1) ∧ w'.cell? ⟨kc, 3, none⟩ = some (.int .i64 y0) ∧ w'.cell? ⟨kc, 4, none⟩ = some (.int .i64 x1) ∧ w'.cell? ⟨kc, 5, none⟩ = some (.int .i64 y1) ∧ w'.cell? ⟨kc, 6, none⟩ = some (.int .i64 x0) ∧ w'.cell? ⟨kc, 7, none⟩ = some (.int .i64 y1) ∧ Below W.heap.size W w' → Q .normal ⟨((((((((((((a.tmps.setIfInBounds 104 (.agg #[.int .i64 d0, .int .i64 d1, .int .i64 e0, .int .i64 e1, .int .i64 f0, .int .i64 f1])).setIfInBounds 105 (.int .i64 j)).setIfInBounds 106 (.agg #[.int .i64 p0, .int .i64 p1])).setIfInBounds 107 (.agg #[.int .i64 d0, .int .i64 d1, .int .i64 e0, .int .i64 e1, .int .i64 f0, .int .i64 f1])).setIfInBounds 108 (.int .i64 j)).setIfInBounds 109 (.int .i64 (j + 1))).setIfInBounds 110 (.agg #[.int .i64 q0, .int .i64 q1])).setIfInBounds 111 (.int .i64 3)).setIfInBounds 112 (.pointer (some ⟨kc, 6, none⟩))).setIfInBounds 113 (.agg #[.int .i64 x0, .int .i64 y1])).setIfInBounds 114 (.int .i64 o)).setIfInBounds 115 (.bool ob)), a.defers⟩ w') :
    (Code.region id ops true).wp Try.prog Q a w := by
  have ht : tidy (regOps Try.f44 13) a.tmps.size = true := by rw [hsz]; kernel_rfl
  refine region_tab (G := Unit) (fun _ => (region44_3V d0 d1 e0 e1 f0 f1 p0 p1 q0 q1 x0 y1 j o kc ob)) (fun _ _ w' => w'.cell? ⟨kt, 0, none⟩ = some (.int .i64 d0) ∧ w'.cell? ⟨kt, 1, none⟩ = some (.int .i64 d1) ∧ w'.cell? ⟨kt, 2, none⟩ = some (.int .i64 e0) ∧ w'.cell? ⟨kt, 3, none⟩ = some (.int .i64 e1) ∧ w'.cell? ⟨kt, 4, none⟩ = some (.int .i64 f0) ∧ w'.cell? ⟨kt, 5, none⟩ = some (.int .i64 f1) ∧ w'.cell? ⟨kc, 0, none⟩ = some (.int .i64 x0) ∧ w'.cell? ⟨kc, 1, none⟩ = some (.int .i64 y0) ∧ w'.cell? ⟨kc, 2, none⟩ = some (.int .i64 x1) ∧ w'.cell? ⟨kc, 3, none⟩ = some (.int .i64 y0) ∧ w'.cell? ⟨kc, 4, none⟩ = some (.int .i64 x1) ∧ w'.cell? ⟨kc, 5, none⟩ = some (.int .i64 y1) ∧ w'.cell? ⟨kc, 6, none⟩ = some (.int .i64 x0) ∧ w'.cell? ⟨kc, 7, none⟩ = some (.int .i64 y1) ∧ Below W.heap.size W w') () (by kernel_rfl) ho ht h0 ?_ ?_
  · intro i o hoi g L b w' hun hpre hT hS
    clear he h0 ho hsz ht
    have hi : i < (regOps Try.f44 13).size := (Array.getElem?_eq_some_iff.1 hoi).1
    rw [show (regOps Try.f44 13).size = 12 by kernel_rfl] at hi
    obtain ⟨tc0, tc1, tc2, tc3, tc4, tc5, csc0, csc1, csc2, csc3, csc4, csc5, csc6, csc7, HB⟩ := hS
    have hcases : i = 0 ∨ i = 1 ∨ i = 2 ∨ i = 3 ∨ i = 4 ∨ i = 5 ∨ i = 6 ∨ i = 7 ∨ i = 8 ∨ i = 9 ∨ i = 10 ∨ i = 11 := by omega
    rcases hcases with rfl | rfl | rfl | rfl | rfl | rfl | rfl | rfl | rfl | rfl | rfl | rfl
    · have hlit : (regOps Try.f44 13)[0]? = some ({ dst := some 104, op := Op.load 25 (Operand.tmp 2), type := 25, pos := "geom.go:340", after := #[], guard := none }) := by kernel_rfl
      obtain rfl := Option.some.inj (hlit.symm.trans hoi)
      have r2 : b.tmps.getD 2 undef = (.pointer (some ⟨kt, 0, none⟩)) := rd ((hT.old 2 (by kernel_rfl)).trans t2)
      refine op_go hoi (want_all rfl) fun K hK => ?_
      clear hT hpre hun hlit hoi
      go_simp
      exact hK _ _ ⟨(), fun _ _ => rfl, rfl, tc0, tc1, tc2, tc3, tc4, tc5, csc0, csc1, csc2, csc3, csc4, csc5, csc6, csc7, HB⟩
    · have hlit : (regOps Try.f44 13)[1]? = some ({ dst := some 105, op := Op.move (Operand.tmp 6), type := 3, pos := "geom.go:340", after := #[], guard := none }) := by kernel_rfl
      obtain rfl := Option.some.inj (hlit.symm.trans hoi)
      have r6 : b.tmps.getD 6 undef = (.int .i64 j) := rd ((hT.old 6 (by kernel_rfl)).trans t6)
      refine op_go hoi (want_all rfl) fun K hK => ?_
      clear hT hpre hun hlit hoi
      go_simp
      exact hK _ _ ⟨(), fun _ _ => rfl, rfl, tc0, tc1, tc2, tc3, tc4, tc5, csc0, csc1, csc2, csc3, csc4, csc5, csc6, csc7, HB⟩
    · have hlit : (regOps Try.f44 13)[2]? = some ({ dst := some 106, op := Op.call { callee := Callee.value (Operand.func 29), args := #[Operand.tmp 104, Operand.tmp 105], argTypes := #[25, 3] }, type := 23, pos := "geom.go:340", after := #[{ on := 0, ground := Ground.data }, { on := 1, ground := Ground.data }], guard := none }) := by kernel_rfl
      obtain rfl := Option.some.inj (hlit.symm.trans hoi)
      have r104 : b.tmps.getD 104 undef = (.agg #[.int .i64 d0, .int .i64 d1, .int .i64 e0, .int .i64 e1, .int .i64 f0, .int .i64 f1]) := rd (hT.at 0 (by kernel_rfl) (pre_of hpre 0 (by kernel_rfl)))
      have r105 : b.tmps.getD 105 undef = (.int .i64 j) := rd (hT.at 1 (by kernel_rfl) (pre_of hpre 1 (by kernel_rfl)))
      refine op_go hoi (want_all rfl) fun K hK => ?_
      clear hT hpre hun hlit hoi
      go_simp
      go_at_call 29
      refine (cor29 _ _ _ _ _ _ _ _).mono ?_; rw [m1]; rintro e w2 ⟨rfl, hb⟩; replace tc0 := ck hb (a := ⟨kt, 0, none⟩) (v := .int .i64 d0) (by go_simp); replace tc1 := ck hb (a := ⟨kt, 1, none⟩) (v := .int .i64 d1) (by go_simp); replace tc2 := ck hb (a := ⟨kt, 2, none⟩) (v := .int .i64 e0) (by go_simp); replace tc3 := ck hb (a := ⟨kt, 3, none⟩) (v := .int .i64 e1) (by go_simp); replace tc4 := ck hb (a := ⟨kt, 4, none⟩) (v := .int .i64 f0) (by go_simp); replace tc5 := ck hb (a := ⟨kt, 5, none⟩) (v := .int .i64 f1) (by go_simp); replace csc0 := ck hb (a := ⟨kc, 0, none⟩) (v := .int .i64 x0) (by go_simp); replace csc1 := ck hb (a := ⟨kc, 1, none⟩) (v := .int .i64 y0) (by go_simp); replace csc2 := ck hb (a := ⟨kc, 2, none⟩) (v := .int .i64 x1) (by go_simp); replace csc3 := ck hb (a := ⟨kc, 3, none⟩) (v := .int .i64 y0) (by go_simp); replace csc4 := ck hb (a := ⟨kc, 4, none⟩) (v := .int .i64 x1) (by go_simp); replace csc5 := ck hb (a := ⟨kc, 5, none⟩) (v := .int .i64 y1) (by go_simp); replace csc6 := ck hb (a := ⟨kc, 6, none⟩) (v := .int .i64 x0) (by go_simp); replace csc7 := ck hb (a := ⟨kc, 7, none⟩) (v := .int .i64 y1) (by go_simp); replace HB : Below W.heap.size W w2 := bt HB hb; clear hb
      exact hK _ _ ⟨(), fun _ _ => rfl, rfl, tc0, tc1, tc2, tc3, tc4, tc5, csc0, csc1, csc2, csc3, csc4, csc5, csc6, csc7, HB⟩
    · have hlit : (regOps Try.f44 13)[3]? = some ({ dst := some 107, op := Op.load 25 (Operand.tmp 2), type := 25, pos := "geom.go:340", after := #[], guard := none }) := by kernel_rfl
      obtain rfl := Option.some.inj (hlit.symm.trans hoi)
      have r2 : b.tmps.getD 2 undef = (.pointer (some ⟨kt, 0, none⟩)) := rd ((hT.old 2 (by kernel_rfl)).trans t2)
      refine op_go hoi (want_all rfl) fun K hK => ?_
      clear hT hpre hun hlit hoi
      go_simp
      exact hK _ _ ⟨(), fun _ _ => rfl, rfl, tc0, tc1, tc2, tc3, tc4, tc5, csc0, csc1, csc2, csc3, csc4, csc5, csc6, csc7, HB⟩
    · have hlit : (regOps Try.f44 13)[4]? = some ({ dst := some 108, op := Op.move (Operand.tmp 6), type := 3, pos := "geom.go:340", after := #[], guard := none }) := by kernel_rfl
      obtain rfl := Option.some.inj (hlit.symm.trans hoi)
      have r6 : b.tmps.getD 6 undef = (.int .i64 j) := rd ((hT.old 6 (by kernel_rfl)).trans t6)
      refine op_go hoi (want_all rfl) fun K hK => ?_
      clear hT hpre hun hlit hoi
      go_simp
      exact hK _ _ ⟨(), fun _ _ => rfl, rfl, tc0, tc1, tc2, tc3, tc4, tc5, csc0, csc1, csc2, csc3, csc4, csc5, csc6, csc7, HB⟩
    · have hlit : (regOps Try.f44 13)[5]? = some ({ dst := some 109, op := Op.binOp BinOp.add 3 (Operand.tmp 108) (Operand.const (Value.int IntKind.i64 1)) 3, type := 3, pos := "geom.go:340", after := #[{ on := 4, ground := Ground.data }], guard := none }) := by kernel_rfl
      obtain rfl := Option.some.inj (hlit.symm.trans hoi)
      have r108 : b.tmps.getD 108 undef = (.int .i64 j) := rd (hT.at 4 (by kernel_rfl) (pre_of hpre 4 (by kernel_rfl)))
      refine op_go hoi (want_all rfl) fun K hK => ?_
      clear hT hpre hun hlit hoi
      go_simp
      exact hK _ _ ⟨(), fun _ _ => rfl, rfl, tc0, tc1, tc2, tc3, tc4, tc5, csc0, csc1, csc2, csc3, csc4, csc5, csc6, csc7, HB⟩
    · have hlit : (regOps Try.f44 13)[6]? = some ({ dst := some 110, op := Op.call { callee := Callee.value (Operand.func 29), args := #[Operand.tmp 107, Operand.tmp 109], argTypes := #[25, 3] }, type := 23, pos := "geom.go:340", after := #[{ on := 3, ground := Ground.data }, { on := 5, ground := Ground.data }, { on := 2, ground := Ground.chain }], guard := none }) := by kernel_rfl
      obtain rfl := Option.some.inj (hlit.symm.trans hoi)
      have r107 : b.tmps.getD 107 undef = (.agg #[.int .i64 d0, .int .i64 d1, .int .i64 e0, .int .i64 e1, .int .i64 f0, .int .i64 f1]) := rd (hT.at 3 (by kernel_rfl) (pre_of hpre 3 (by kernel_rfl)))
      have r109 : b.tmps.getD 109 undef = (.int .i64 (j + 1)) := rd (hT.at 5 (by kernel_rfl) (pre_of hpre 5 (by kernel_rfl)))
      refine op_go hoi (want_all rfl) fun K hK => ?_
      clear hT hpre hun hlit hoi
      go_simp
      go_at_call 29
      refine (cor29 _ _ _ _ _ _ _ _).mono ?_; rw [m2]; rintro e w2 ⟨rfl, hb⟩; replace tc0 := ck hb (a := ⟨kt, 0, none⟩) (v := .int .i64 d0) (by go_simp); replace tc1 := ck hb (a := ⟨kt, 1, none⟩) (v := .int .i64 d1) (by go_simp); replace tc2 := ck hb (a := ⟨kt, 2, none⟩) (v := .int .i64 e0) (by go_simp); replace tc3 := ck hb (a := ⟨kt, 3, none⟩) (v := .int .i64 e1) (by go_simp); replace tc4 := ck hb (a := ⟨kt, 4, none⟩) (v := .int .i64 f0) (by go_simp); replace tc5 := ck hb (a := ⟨kt, 5, none⟩) (v := .int .i64 f1) (by go_simp); replace csc0 := ck hb (a := ⟨kc, 0, none⟩) (v := .int .i64 x0) (by go_simp); replace csc1 := ck hb (a := ⟨kc, 1, none⟩) (v := .int .i64 y0) (by go_simp); replace csc2 := ck hb (a := ⟨kc, 2, none⟩) (v := .int .i64 x1) (by go_simp); replace csc3 := ck hb (a := ⟨kc, 3, none⟩) (v := .int .i64 y0) (by go_simp); replace csc4 := ck hb (a := ⟨kc, 4, none⟩) (v := .int .i64 x1) (by go_simp); replace csc5 := ck hb (a := ⟨kc, 5, none⟩) (v := .int .i64 y1) (by go_simp); replace csc6 := ck hb (a := ⟨kc, 6, none⟩) (v := .int .i64 x0) (by go_simp); replace csc7 := ck hb (a := ⟨kc, 7, none⟩) (v := .int .i64 y1) (by go_simp); replace HB : Below W.heap.size W w2 := bt HB hb; clear hb
      exact hK _ _ ⟨(), fun _ _ => rfl, rfl, tc0, tc1, tc2, tc3, tc4, tc5, csc0, csc1, csc2, csc3, csc4, csc5, csc6, csc7, HB⟩
    · have hlit : (regOps Try.f44 13)[7]? = some ({ dst := some 111, op := Op.move (Operand.tmp 8), type := 3, pos := "geom.go:340", after := #[], guard := none }) := by kernel_rfl
      obtain rfl := Option.some.inj (hlit.symm.trans hoi)
      have r8 : b.tmps.getD 8 undef = (.int .i64 3) := rd ((hT.old 8 (by kernel_rfl)).trans t8)
      refine op_go hoi (want_all rfl) fun K hK => ?_
      clear hT hpre hun hlit hoi
      go_simp
      exact hK _ _ ⟨(), fun _ _ => rfl, rfl, tc0, tc1, tc2, tc3, tc4, tc5, csc0, csc1, csc2, csc3, csc4, csc5, csc6, csc7, HB⟩
    · have hlit : (regOps Try.f44 13)[8]? = some ({ dst := some 112, op := Op.indexAddr 60 (Operand.tmp 5) (Operand.tmp 111), type := 0, pos := "geom.go:340", after := #[{ on := 7, ground := Ground.data }], guard := none }) := by kernel_rfl
      obtain rfl := Option.some.inj (hlit.symm.trans hoi)
      have r5 : b.tmps.getD 5 undef = (.pointer (some ⟨kc, 0, none⟩)) := rd ((hT.old 5 (by kernel_rfl)).trans t5)
      have r111 : b.tmps.getD 111 undef = (.int .i64 3) := rd (hT.at 7 (by kernel_rfl) (pre_of hpre 7 (by kernel_rfl)))
      refine op_go hoi (want_all rfl) fun K hK => ?_
      clear hT hpre hun hlit hoi
      go_simp
      exact hK _ _ ⟨(), fun _ _ => rfl, rfl, tc0, tc1, tc2, tc3, tc4, tc5, csc0, csc1, csc2, csc3, csc4, csc5, csc6, csc7, HB⟩
    · have hlit : (regOps Try.f44 13)[9]? = some ({ dst := some 113, op := Op.load 23 (Operand.tmp 112), type := 23, pos := "geom.go:340", after := #[{ on := 8, ground := Ground.data }], guard := none }) := by kernel_rfl
      obtain rfl := Option.some.inj (hlit.symm.trans hoi)
      have r112 : b.tmps.getD 112 undef = (.pointer (some ⟨kc, 6, none⟩)) := rd (hT.at 8 (by kernel_rfl) (pre_of hpre 8 (by kernel_rfl)))
      refine op_go hoi (want_all rfl) fun K hK => ?_
      clear hT hpre hun hlit hoi
      go_simp
      exact hK _ _ ⟨(), fun _ _ => rfl, rfl, tc0, tc1, tc2, tc3, tc4, tc5, csc0, csc1, csc2, csc3, csc4, csc5, csc6, csc7, HB⟩
    · have hlit : (regOps Try.f44 13)[10]? = some ({ dst := some 114, op := Op.call { callee := Callee.value (Operand.func 37), args := #[Operand.tmp 106, Operand.tmp 110, Operand.tmp 113], argTypes := #[23, 23, 23] }, type := 3, pos := "geom.go:340", after := #[{ on := 2, ground := Ground.data }, { on := 6, ground := Ground.data }, { on := 9, ground := Ground.data }, { on := 6, ground := Ground.chain }], guard := none }) := by kernel_rfl
      obtain rfl := Option.some.inj (hlit.symm.trans hoi)
      have r106 : b.tmps.getD 106 undef = (.agg #[.int .i64 p0, .int .i64 p1]) := rd (hT.at 2 (by kernel_rfl) (pre_of hpre 2 (by kernel_rfl)))
      have r110 : b.tmps.getD 110 undef = (.agg #[.int .i64 q0, .int .i64 q1]) := rd (hT.at 6 (by kernel_rfl) (pre_of hpre 6 (by kernel_rfl)))
      have r113 : b.tmps.getD 113 undef = (.agg #[.int .i64 x0, .int .i64 y1]) := rd (hT.at 9 (by kernel_rfl) (pre_of hpre 9 (by kernel_rfl)))
      refine op_go hoi (want_all rfl) fun K hK => ?_
      clear hT hpre hun hlit hoi
      go_simp
      go_at_call 37
      refine (ori37 _ _ _ _ _ _ _).mono ?_; rw [m3]; rintro e w2 ⟨rfl, hb⟩; replace tc0 := ck hb (a := ⟨kt, 0, none⟩) (v := .int .i64 d0) (by go_simp); replace tc1 := ck hb (a := ⟨kt, 1, none⟩) (v := .int .i64 d1) (by go_simp); replace tc2 := ck hb (a := ⟨kt, 2, none⟩) (v := .int .i64 e0) (by go_simp); replace tc3 := ck hb (a := ⟨kt, 3, none⟩) (v := .int .i64 e1) (by go_simp); replace tc4 := ck hb (a := ⟨kt, 4, none⟩) (v := .int .i64 f0) (by go_simp); replace tc5 := ck hb (a := ⟨kt, 5, none⟩) (v := .int .i64 f1) (by go_simp); replace csc0 := ck hb (a := ⟨kc, 0, none⟩) (v := .int .i64 x0) (by go_simp); replace csc1 := ck hb (a := ⟨kc, 1, none⟩) (v := .int .i64 y0) (by go_simp); replace csc2 := ck hb (a := ⟨kc, 2, none⟩) (v := .int .i64 x1) (by go_simp); replace csc3 := ck hb (a := ⟨kc, 3, none⟩) (v := .int .i64 y0) (by go_simp); replace csc4 := ck hb (a := ⟨kc, 4, none⟩) (v := .int .i64 x1) (by go_simp); replace csc5 := ck hb (a := ⟨kc, 5, none⟩) (v := .int .i64 y1) (by go_simp); replace csc6 := ck hb (a := ⟨kc, 6, none⟩) (v := .int .i64 x0) (by go_simp); replace csc7 := ck hb (a := ⟨kc, 7, none⟩) (v := .int .i64 y1) (by go_simp); replace HB : Below W.heap.size W w2 := bt HB hb; clear hb
      exact hK _ _ ⟨(), fun _ _ => rfl, rfl, tc0, tc1, tc2, tc3, tc4, tc5, csc0, csc1, csc2, csc3, csc4, csc5, csc6, csc7, HB⟩
    · have hlit : (regOps Try.f44 13)[11]? = some ({ dst := some 115, op := Op.binOp BinOp.lss 3 (Operand.tmp 114) (Operand.const (Value.int IntKind.i64 0)) 3, type := 4, pos := "geom.go:340", after := #[{ on := 10, ground := Ground.data }], guard := none }) := by kernel_rfl
      obtain rfl := Option.some.inj (hlit.symm.trans hoi)
      have r114 : b.tmps.getD 114 undef = (.int .i64 o) := rd (hT.at 10 (by kernel_rfl) (pre_of hpre 10 (by kernel_rfl)))
      refine op_go hoi (want_all rfl) fun K hK => ?_
      clear hT hpre hun hlit hoi
      go_simp
      exact hK _ _ ⟨(), fun _ _ => rfl, rfl, tc0, tc1, tc2, tc3, tc4, tc5, csc0, csc1, csc2, csc3, csc4, csc5, csc6, csc7, HB⟩
  · intro g b w' hT hS
    rw [hT.all ht]
    have hn : (regOps Try.f44 13).size = 12 := by kernel_rfl
    rw [hn]
    exact he w' hS

end Go.Proofs.Ytandgbpbabmdfaa
