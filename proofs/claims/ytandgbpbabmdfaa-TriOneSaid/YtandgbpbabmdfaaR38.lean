import Derived.Test.YtandgbpbabmdfaaT23
import Derived.Laws.AppendOwn
import Derived.Laws.OwnMore
namespace Go.Proofs.Ytandgbpbabmdfaa
open Go.RowKit
attribute [local go_sem high] eq23 eq25 mn_two mx_two mn_three mx_three mx_four

theorem info23 : (Try.prog.info? 23).map (fun i => (i.zero, i.size, i.bytes)) = some (some (.agg #[.int .i64 0, .int .i64 0]), 2, 16) := by kernel_rfl

theorem own_slice {w : World} {base n : Nat} {v : Value} {xs : List Value} (h : w.ownsRow base 23 2 v (n + 1) xs) :
    ∃ g cap, v = .slice (some ⟨g, 0, none⟩) (n + 1 : Nat) cap ∧ base ≤ g ∧ w.ownsRow base 23 2 (.slice (some ⟨g, 0, none⟩) (n + 1 : Nat) cap) (n + 1) xs := by
  have h' := h
  rcases h.2 with ⟨_, h0⟩ | ⟨g, cap, cur, rfl, hb, _⟩
  · omega
  · exact ⟨g, cap, rfl, hb, h'⟩
theorem own_below {w w1 : World} {base n : Nat} {v : Value} {xs : List Value} (h : w.ownsRow base 23 2 v n xs) (hb : Below w.heap.size w w1) : w1.ownsRow base 23 2 v n xs :=
  h.kept (row := none) ⟨hb.os, hb.tape, hb.output, hb.size, fun k hk _ => hb.block k hk⟩ (by cases hv : v.ownBlock <;> simp)

/-- What each operation of the region leaves. -/
def region38_00V : Nat → Value
  | 0 => .int .i64 0
  | 1 => .bool false
  | 2 => .bool false
  | 3 => undef
  | 4 => undef
  | 5 => undef
  | 6 => undef
  | 7 => undef
  | 8 => undef
  | 9 => undef
  | 10 => undef
  | 11 => undef
  | 12 => undef
  | 13 => undef
  | 14 => .bool false
  | _ => undef

set_option maxHeartbeats 4000000 in
set_option maxRecDepth 100000 in
theorem region38_00 (a0 a1 b0 b1 c0 c1 : Int) (kg : Nat) (W : World)  {id : Nat} {ops : Array Oper} {Q : Exit → Act → World → Prop} {a : Act} {w : World}
    (ho : ops = (regOps Try.f38 6)) (hsz : a.tmps.size = 77) (t5 : a.tmps[5]? = some (.int .i64 0))
    (h0 : w.drew.cell? ⟨kg, 0, none⟩ = some (.int .i64 a0) ∧ w.drew.cell? ⟨kg, 1, none⟩ = some (.int .i64 a1) ∧ w.drew.cell? ⟨kg, 2, none⟩ = some (.int .i64 b0) ∧ w.drew.cell? ⟨kg, 3, none⟩ = some (.int .i64 b1) ∧ w.drew.cell? ⟨kg, 4, none⟩ = some (.int .i64 c0) ∧ w.drew.cell? ⟨kg, 5, none⟩ = some (.int .i64 c1) ∧ Below W.heap.size W w.drew)
    (he : ∀ w', w'.cell? ⟨kg, 0, none⟩ = some (.int .i64 a0) ∧ w'.cell? ⟨kg, 1, none⟩ = some (.int .i64 a1) ∧ w'.cell? ⟨kg, 2, none⟩ = some (.int .i64 b0) ∧ w'.cell? ⟨kg, 3, none⟩ = some (.int .i64 b1) ∧ w'.cell? ⟨kg, 4, none⟩ = some (.int .i64 c0) ∧ w'.cell? ⟨kg, 5, none⟩ = some (.int .i64 c1) ∧ Below W.heap.size W w' → Q .normal ⟨(((((((((((((((a.tmps.setIfInBounds 15 (.int .i64 0)).setIfInBounds 16 (.bool false)).setIfInBounds 17 (.bool false)).setIfInBounds 18 (undef)).setIfInBounds 19 (undef)).setIfInBounds 20 (undef)).setIfInBounds 21 (undef)).setIfInBounds 22 (undef)).setIfInBounds 23 (undef)).setIfInBounds 24 (undef)).setIfInBounds 25 (undef)).setIfInBounds 26 (undef)).setIfInBounds 27 (undef)).setIfInBounds 28 (undef)).setIfInBounds 29 (.bool false)), a.defers⟩ w') :
    (Code.region id ops true).wp Try.prog Q a w := by
  have ht : tidy (regOps Try.f38 6) a.tmps.size = true := by rw [hsz]; kernel_rfl
  refine region_tab (G := Unit) (fun _ => region38_00V) (fun _ _ w' => w'.cell? ⟨kg, 0, none⟩ = some (.int .i64 a0) ∧ w'.cell? ⟨kg, 1, none⟩ = some (.int .i64 a1) ∧ w'.cell? ⟨kg, 2, none⟩ = some (.int .i64 b0) ∧ w'.cell? ⟨kg, 3, none⟩ = some (.int .i64 b1) ∧ w'.cell? ⟨kg, 4, none⟩ = some (.int .i64 c0) ∧ w'.cell? ⟨kg, 5, none⟩ = some (.int .i64 c1) ∧ Below W.heap.size W w') () (by kernel_rfl) ho ht h0 ?_ ?_
  · intro i o hoi g L b w' hun hpre hT hS
    clear he h0 ho hsz ht
    have hi : i < (regOps Try.f38 6).size := (Array.getElem?_eq_some_iff.1 hoi).1
    rw [show (regOps Try.f38 6).size = 15 by kernel_rfl] at hi
    obtain ⟨gc0, gc1, gc2, gc3, gc4, gc5, HB⟩ := hS
    have hcases : i = 0 ∨ i = 1 ∨ i = 2 ∨ i = 3 ∨ i = 4 ∨ i = 5 ∨ i = 6 ∨ i = 7 ∨ i = 8 ∨ i = 9 ∨ i = 10 ∨ i = 11 ∨ i = 12 ∨ i = 13 ∨ i = 14 := by omega
    rcases hcases with rfl | rfl | rfl | rfl | rfl | rfl | rfl | rfl | rfl | rfl | rfl | rfl | rfl | rfl | rfl
    · have hlit : (regOps Try.f38 6)[0]? = some ({ dst := some 15, op := Op.move (Operand.tmp 5), type := 3, pos := "geom.go:480", after := #[], guard := none }) := by kernel_rfl
      obtain rfl := Option.some.inj (hlit.symm.trans hoi)
      have r5 : b.tmps.getD 5 undef = (.int .i64 0) := rd ((hT.old 5 (by kernel_rfl)).trans t5)
      refine op_go hoi (want_all rfl) fun K hK => ?_
      clear hT hpre hun hlit hoi
      go_simp
      exact hK _ _ ⟨(), fun _ _ => rfl, rfl, gc0, gc1, gc2, gc3, gc4, gc5, HB⟩
    · have hlit : (regOps Try.f38 6)[1]? = some ({ dst := some 16, op := Op.binOp BinOp.gtr 3 (Operand.tmp 15) (Operand.const (Value.int IntKind.i64 0)) 3, type := 4, pos := "geom.go:480", after := #[{ on := 0, ground := Ground.data }], guard := none }) := by kernel_rfl
      obtain rfl := Option.some.inj (hlit.symm.trans hoi)
      have r15 : b.tmps.getD 15 undef = (.int .i64 0) := rd (hT.at 0 (by kernel_rfl) (pre_of hpre 0 (by kernel_rfl)))
      refine op_go hoi (want_all rfl) fun K hK => ?_
      clear hT hpre hun hlit hoi
      go_simp
      exact hK _ _ ⟨(), fun _ _ => rfl, rfl, gc0, gc1, gc2, gc3, gc4, gc5, HB⟩
    · have hlit : (regOps Try.f38 6)[2]? = some ({ dst := some 17, op := Op.move (Operand.tmp 16), type := 4, pos := "geom.go:480", after := #[{ on := 1, ground := Ground.data }], guard := none }) := by kernel_rfl
      obtain rfl := Option.some.inj (hlit.symm.trans hoi)
      have r16 : b.tmps.getD 16 undef = (.bool false) := rd (hT.at 1 (by kernel_rfl) (pre_of hpre 1 (by kernel_rfl)))
      refine op_go hoi (want_all rfl) fun K hK => ?_
      clear hT hpre hun hlit hoi
      go_simp
      exact hK _ _ ⟨(), fun _ _ => rfl, rfl, gc0, gc1, gc2, gc3, gc4, gc5, HB⟩
    · have hlit : (regOps Try.f38 6)[3]? = some ({ dst := some 18, op := Op.move (Operand.tmp 3), type := 41, pos := "geom.go:480", after := #[{ on := 2, ground := Ground.guard }], guard := some (2, true) }) := by kernel_rfl
      obtain rfl := Option.some.inj (hlit.symm.trans hoi)
      exact op_not hoi (want_no rfl (d := 17) (by kernel_rfl) (hT.at 2 (by kernel_rfl) (pre_of hpre 2 (by kernel_rfl)))) ⟨(), fun _ _ => rfl, rfl, gc0, gc1, gc2, gc3, gc4, gc5, HB⟩
    · have hlit : (regOps Try.f38 6)[4]? = some ({ dst := some 19, op := Op.move (Operand.tmp 5), type := 3, pos := "geom.go:480", after := #[{ on := 2, ground := Ground.guard }], guard := some (2, true) }) := by kernel_rfl
      obtain rfl := Option.some.inj (hlit.symm.trans hoi)
      exact op_not hoi (want_no rfl (d := 17) (by kernel_rfl) (hT.at 2 (by kernel_rfl) (pre_of hpre 2 (by kernel_rfl)))) ⟨(), fun _ _ => rfl, rfl, gc0, gc1, gc2, gc3, gc4, gc5, HB⟩
    · have hlit : (regOps Try.f38 6)[5]? = some ({ dst := some 20, op := Op.binOp BinOp.sub 3 (Operand.tmp 19) (Operand.const (Value.int IntKind.i64 1)) 3, type := 3, pos := "geom.go:480", after := #[{ on := 4, ground := Ground.data }, { on := 2, ground := Ground.guard }], guard := some (2, true) }) := by kernel_rfl
      obtain rfl := Option.some.inj (hlit.symm.trans hoi)
      exact op_not hoi (want_no rfl (d := 17) (by kernel_rfl) (hT.at 2 (by kernel_rfl) (pre_of hpre 2 (by kernel_rfl)))) ⟨(), fun _ _ => rfl, rfl, gc0, gc1, gc2, gc3, gc4, gc5, HB⟩
    · have hlit : (regOps Try.f38 6)[6]? = some ({ dst := some 21, op := Op.indexAddr 41 (Operand.tmp 18) (Operand.tmp 20), type := 0, pos := "geom.go:480", after := #[{ on := 3, ground := Ground.data }, { on := 5, ground := Ground.data }, { on := 2, ground := Ground.guard }], guard := some (2, true) }) := by kernel_rfl
      obtain rfl := Option.some.inj (hlit.symm.trans hoi)
      exact op_not hoi (want_no rfl (d := 17) (by kernel_rfl) (hT.at 2 (by kernel_rfl) (pre_of hpre 2 (by kernel_rfl)))) ⟨(), fun _ _ => rfl, rfl, gc0, gc1, gc2, gc3, gc4, gc5, HB⟩
    · have hlit : (regOps Try.f38 6)[7]? = some ({ dst := some 22, op := Op.load 23 (Operand.tmp 21), type := 23, pos := "geom.go:480", after := #[{ on := 6, ground := Ground.data }, { on := 2, ground := Ground.guard }], guard := some (2, true) }) := by kernel_rfl
      obtain rfl := Option.some.inj (hlit.symm.trans hoi)
      exact op_not hoi (want_no rfl (d := 17) (by kernel_rfl) (hT.at 2 (by kernel_rfl) (pre_of hpre 2 (by kernel_rfl)))) ⟨(), fun _ _ => rfl, rfl, gc0, gc1, gc2, gc3, gc4, gc5, HB⟩
    · have hlit : (regOps Try.f38 6)[8]? = some ({ dst := some 23, op := Op.move (Operand.tmp 0), type := 41, pos := "geom.go:480", after := #[{ on := 2, ground := Ground.guard }], guard := some (2, true) }) := by kernel_rfl
      obtain rfl := Option.some.inj (hlit.symm.trans hoi)
      exact op_not hoi (want_no rfl (d := 17) (by kernel_rfl) (hT.at 2 (by kernel_rfl) (pre_of hpre 2 (by kernel_rfl)))) ⟨(), fun _ _ => rfl, rfl, gc0, gc1, gc2, gc3, gc4, gc5, HB⟩
    · have hlit : (regOps Try.f38 6)[9]? = some ({ dst := some 24, op := Op.move (Operand.tmp 4), type := 3, pos := "geom.go:480", after := #[{ on := 2, ground := Ground.guard }], guard := some (2, true) }) := by kernel_rfl
      obtain rfl := Option.some.inj (hlit.symm.trans hoi)
      exact op_not hoi (want_no rfl (d := 17) (by kernel_rfl) (hT.at 2 (by kernel_rfl) (pre_of hpre 2 (by kernel_rfl)))) ⟨(), fun _ _ => rfl, rfl, gc0, gc1, gc2, gc3, gc4, gc5, HB⟩
    · have hlit : (regOps Try.f38 6)[10]? = some ({ dst := some 25, op := Op.indexAddr 41 (Operand.tmp 23) (Operand.tmp 24), type := 0, pos := "geom.go:480", after := #[{ on := 8, ground := Ground.data }, { on := 9, ground := Ground.data }, { on := 2, ground := Ground.guard }], guard := some (2, true) }) := by kernel_rfl
      obtain rfl := Option.some.inj (hlit.symm.trans hoi)
      exact op_not hoi (want_no rfl (d := 17) (by kernel_rfl) (hT.at 2 (by kernel_rfl) (pre_of hpre 2 (by kernel_rfl)))) ⟨(), fun _ _ => rfl, rfl, gc0, gc1, gc2, gc3, gc4, gc5, HB⟩
    · have hlit : (regOps Try.f38 6)[11]? = some ({ dst := some 26, op := Op.load 23 (Operand.tmp 25), type := 23, pos := "geom.go:480", after := #[{ on := 10, ground := Ground.data }, { on := 2, ground := Ground.guard }], guard := some (2, true) }) := by kernel_rfl
      obtain rfl := Option.some.inj (hlit.symm.trans hoi)
      exact op_not hoi (want_no rfl (d := 17) (by kernel_rfl) (hT.at 2 (by kernel_rfl) (pre_of hpre 2 (by kernel_rfl)))) ⟨(), fun _ _ => rfl, rfl, gc0, gc1, gc2, gc3, gc4, gc5, HB⟩
    · have hlit : (regOps Try.f38 6)[12]? = some ({ dst := some 27, op := Op.call { callee := Callee.value (Operand.func 51), args := #[Operand.tmp 22, Operand.tmp 26], argTypes := #[23, 23] }, type := 3, pos := "geom.go:480", after := #[{ on := 7, ground := Ground.data }, { on := 11, ground := Ground.data }, { on := 2, ground := Ground.chain }, { on := 2, ground := Ground.guard }], guard := some (2, true) }) := by kernel_rfl
      obtain rfl := Option.some.inj (hlit.symm.trans hoi)
      exact op_not hoi (want_no rfl (d := 17) (by kernel_rfl) (hT.at 2 (by kernel_rfl) (pre_of hpre 2 (by kernel_rfl)))) ⟨(), fun _ _ => rfl, rfl, gc0, gc1, gc2, gc3, gc4, gc5, HB⟩
    · have hlit : (regOps Try.f38 6)[13]? = some ({ dst := some 28, op := Op.binOp BinOp.gtr 3 (Operand.tmp 27) (Operand.const (Value.int IntKind.i64 0)) 3, type := 4, pos := "geom.go:480", after := #[{ on := 12, ground := Ground.data }, { on := 2, ground := Ground.guard }], guard := some (2, true) }) := by kernel_rfl
      obtain rfl := Option.some.inj (hlit.symm.trans hoi)
      exact op_not hoi (want_no rfl (d := 17) (by kernel_rfl) (hT.at 2 (by kernel_rfl) (pre_of hpre 2 (by kernel_rfl)))) ⟨(), fun _ _ => rfl, rfl, gc0, gc1, gc2, gc3, gc4, gc5, HB⟩
    · have hlit : (regOps Try.f38 6)[14]? = some ({ dst := some 29, op := Op.pick (Operand.tmp 17) (Operand.tmp 28) (Operand.const (Value.bool false)), type := 4, pos := "geom.go:480", after := #[{ on := 2, ground := Ground.data }, { on := 13, ground := Ground.data }], guard := none }) := by kernel_rfl
      obtain rfl := Option.some.inj (hlit.symm.trans hoi)
      have r17 : b.tmps.getD 17 undef = (.bool false) := rd (hT.at 2 (by kernel_rfl) (pre_of hpre 2 (by kernel_rfl)))
      have r28 : b.tmps.getD 28 undef = (undef) := rd (hT.at 13 (by kernel_rfl) (pre_of hpre 13 (by kernel_rfl)))
      refine op_go hoi (want_all rfl) fun K hK => ?_
      clear hT hpre hun hlit hoi
      go_simp
      exact hK _ _ ⟨(), fun _ _ => rfl, rfl, gc0, gc1, gc2, gc3, gc4, gc5, HB⟩
  · intro g b w' hT hS
    rw [hT.all ht]
    have hn : (regOps Try.f38 6).size = 15 := by kernel_rfl
    rw [hn]
    exact he w' hS

/-- What each operation of the region leaves. -/
def region38_8_00V : Nat → Value
  | 0 => .int .i64 0
  | 1 => .bool false
  | 2 => .bool false
  | 3 => undef
  | 4 => undef
  | 5 => undef
  | 6 => undef
  | 7 => undef
  | 8 => undef
  | 9 => undef
  | 10 => undef
  | 11 => undef
  | 12 => undef
  | 13 => .bool false
  | _ => undef

set_option maxHeartbeats 4000000 in
set_option maxRecDepth 100000 in
theorem region38_8_00 (a0 a1 b0 b1 c0 c1 : Int) (kg : Nat) (W : World)  {id : Nat} {ops : Array Oper} {Q : Exit → Act → World → Prop} {a : Act} {w : World}
    (ho : ops = (regOps Try.f38 8)) (hsz : a.tmps.size = 77) (t5 : a.tmps[5]? = some (.int .i64 0))
    (h0 : w.drew.cell? ⟨kg, 0, none⟩ = some (.int .i64 a0) ∧ w.drew.cell? ⟨kg, 1, none⟩ = some (.int .i64 a1) ∧ w.drew.cell? ⟨kg, 2, none⟩ = some (.int .i64 b0) ∧ w.drew.cell? ⟨kg, 3, none⟩ = some (.int .i64 b1) ∧ w.drew.cell? ⟨kg, 4, none⟩ = some (.int .i64 c0) ∧ w.drew.cell? ⟨kg, 5, none⟩ = some (.int .i64 c1) ∧ Below W.heap.size W w.drew)
    (he : ∀ w', w'.cell? ⟨kg, 0, none⟩ = some (.int .i64 a0) ∧ w'.cell? ⟨kg, 1, none⟩ = some (.int .i64 a1) ∧ w'.cell? ⟨kg, 2, none⟩ = some (.int .i64 b0) ∧ w'.cell? ⟨kg, 3, none⟩ = some (.int .i64 b1) ∧ w'.cell? ⟨kg, 4, none⟩ = some (.int .i64 c0) ∧ w'.cell? ⟨kg, 5, none⟩ = some (.int .i64 c1) ∧ Below W.heap.size W w' → Q .normal ⟨((((((((((((((a.tmps.setIfInBounds 32 (.int .i64 0)).setIfInBounds 33 (.bool false)).setIfInBounds 34 (.bool false)).setIfInBounds 35 (undef)).setIfInBounds 36 (undef)).setIfInBounds 37 (undef)).setIfInBounds 38 (undef)).setIfInBounds 39 (undef)).setIfInBounds 40 (undef)).setIfInBounds 41 (undef)).setIfInBounds 42 (undef)).setIfInBounds 43 (undef)).setIfInBounds 44 (undef)).setIfInBounds 45 (.bool false)), a.defers⟩ w') :
    (Code.region id ops true).wp Try.prog Q a w := by
  have ht : tidy (regOps Try.f38 8) a.tmps.size = true := by rw [hsz]; kernel_rfl
  refine region_tab (G := Unit) (fun _ => region38_8_00V) (fun _ _ w' => w'.cell? ⟨kg, 0, none⟩ = some (.int .i64 a0) ∧ w'.cell? ⟨kg, 1, none⟩ = some (.int .i64 a1) ∧ w'.cell? ⟨kg, 2, none⟩ = some (.int .i64 b0) ∧ w'.cell? ⟨kg, 3, none⟩ = some (.int .i64 b1) ∧ w'.cell? ⟨kg, 4, none⟩ = some (.int .i64 c0) ∧ w'.cell? ⟨kg, 5, none⟩ = some (.int .i64 c1) ∧ Below W.heap.size W w') () (by kernel_rfl) ho ht h0 ?_ ?_
  · intro i o hoi g L b w' hun hpre hT hS
    clear he h0 ho hsz ht
    have hi : i < (regOps Try.f38 8).size := (Array.getElem?_eq_some_iff.1 hoi).1
    rw [show (regOps Try.f38 8).size = 14 by kernel_rfl] at hi
    obtain ⟨gc0, gc1, gc2, gc3, gc4, gc5, HB⟩ := hS
    have hcases : i = 0 ∨ i = 1 ∨ i = 2 ∨ i = 3 ∨ i = 4 ∨ i = 5 ∨ i = 6 ∨ i = 7 ∨ i = 8 ∨ i = 9 ∨ i = 10 ∨ i = 11 ∨ i = 12 ∨ i = 13 := by omega
    rcases hcases with rfl | rfl | rfl | rfl | rfl | rfl | rfl | rfl | rfl | rfl | rfl | rfl | rfl | rfl
    · have hlit : (regOps Try.f38 8)[0]? = some ({ dst := some 32, op := Op.move (Operand.tmp 5), type := 3, pos := "geom.go:483", after := #[], guard := none }) := by kernel_rfl
      obtain rfl := Option.some.inj (hlit.symm.trans hoi)
      have r5 : b.tmps.getD 5 undef = (.int .i64 0) := rd ((hT.old 5 (by kernel_rfl)).trans t5)
      refine op_go hoi (want_all rfl) fun K hK => ?_
      clear hT hpre hun hlit hoi
      go_simp
      exact hK _ _ ⟨(), fun _ _ => rfl, rfl, gc0, gc1, gc2, gc3, gc4, gc5, HB⟩
    · have hlit : (regOps Try.f38 8)[1]? = some ({ dst := some 33, op := Op.binOp BinOp.gtr 3 (Operand.tmp 32) (Operand.const (Value.int IntKind.i64 0)) 3, type := 4, pos := "geom.go:483", after := #[{ on := 0, ground := Ground.data }], guard := none }) := by kernel_rfl
      obtain rfl := Option.some.inj (hlit.symm.trans hoi)
      have r32 : b.tmps.getD 32 undef = (.int .i64 0) := rd (hT.at 0 (by kernel_rfl) (pre_of hpre 0 (by kernel_rfl)))
      refine op_go hoi (want_all rfl) fun K hK => ?_
      clear hT hpre hun hlit hoi
      go_simp
      exact hK _ _ ⟨(), fun _ _ => rfl, rfl, gc0, gc1, gc2, gc3, gc4, gc5, HB⟩
    · have hlit : (regOps Try.f38 8)[2]? = some ({ dst := some 34, op := Op.move (Operand.tmp 33), type := 4, pos := "geom.go:483", after := #[{ on := 1, ground := Ground.data }], guard := none }) := by kernel_rfl
      obtain rfl := Option.some.inj (hlit.symm.trans hoi)
      have r33 : b.tmps.getD 33 undef = (.bool false) := rd (hT.at 1 (by kernel_rfl) (pre_of hpre 1 (by kernel_rfl)))
      refine op_go hoi (want_all rfl) fun K hK => ?_
      clear hT hpre hun hlit hoi
      go_simp
      exact hK _ _ ⟨(), fun _ _ => rfl, rfl, gc0, gc1, gc2, gc3, gc4, gc5, HB⟩
    · have hlit : (regOps Try.f38 8)[3]? = some ({ dst := some 35, op := Op.move (Operand.tmp 3), type := 41, pos := "geom.go:483", after := #[{ on := 2, ground := Ground.guard }], guard := some (2, true) }) := by kernel_rfl
      obtain rfl := Option.some.inj (hlit.symm.trans hoi)
      exact op_not hoi (want_no rfl (d := 34) (by kernel_rfl) (hT.at 2 (by kernel_rfl) (pre_of hpre 2 (by kernel_rfl)))) ⟨(), fun _ _ => rfl, rfl, gc0, gc1, gc2, gc3, gc4, gc5, HB⟩
    · have hlit : (regOps Try.f38 8)[4]? = some ({ dst := some 36, op := Op.move (Operand.tmp 5), type := 3, pos := "geom.go:483", after := #[{ on := 2, ground := Ground.guard }], guard := some (2, true) }) := by kernel_rfl
      obtain rfl := Option.some.inj (hlit.symm.trans hoi)
      exact op_not hoi (want_no rfl (d := 34) (by kernel_rfl) (hT.at 2 (by kernel_rfl) (pre_of hpre 2 (by kernel_rfl)))) ⟨(), fun _ _ => rfl, rfl, gc0, gc1, gc2, gc3, gc4, gc5, HB⟩
    · have hlit : (regOps Try.f38 8)[5]? = some ({ dst := some 37, op := Op.binOp BinOp.sub 3 (Operand.tmp 36) (Operand.const (Value.int IntKind.i64 1)) 3, type := 3, pos := "geom.go:483", after := #[{ on := 4, ground := Ground.data }, { on := 2, ground := Ground.guard }], guard := some (2, true) }) := by kernel_rfl
      obtain rfl := Option.some.inj (hlit.symm.trans hoi)
      exact op_not hoi (want_no rfl (d := 34) (by kernel_rfl) (hT.at 2 (by kernel_rfl) (pre_of hpre 2 (by kernel_rfl)))) ⟨(), fun _ _ => rfl, rfl, gc0, gc1, gc2, gc3, gc4, gc5, HB⟩
    · have hlit : (regOps Try.f38 8)[6]? = some ({ dst := some 38, op := Op.indexAddr 41 (Operand.tmp 35) (Operand.tmp 37), type := 0, pos := "geom.go:483", after := #[{ on := 3, ground := Ground.data }, { on := 5, ground := Ground.data }, { on := 2, ground := Ground.guard }], guard := some (2, true) }) := by kernel_rfl
      obtain rfl := Option.some.inj (hlit.symm.trans hoi)
      exact op_not hoi (want_no rfl (d := 34) (by kernel_rfl) (hT.at 2 (by kernel_rfl) (pre_of hpre 2 (by kernel_rfl)))) ⟨(), fun _ _ => rfl, rfl, gc0, gc1, gc2, gc3, gc4, gc5, HB⟩
    · have hlit : (regOps Try.f38 8)[7]? = some ({ dst := some 39, op := Op.load 23 (Operand.tmp 38), type := 23, pos := "geom.go:483", after := #[{ on := 6, ground := Ground.data }, { on := 2, ground := Ground.guard }], guard := some (2, true) }) := by kernel_rfl
      obtain rfl := Option.some.inj (hlit.symm.trans hoi)
      exact op_not hoi (want_no rfl (d := 34) (by kernel_rfl) (hT.at 2 (by kernel_rfl) (pre_of hpre 2 (by kernel_rfl)))) ⟨(), fun _ _ => rfl, rfl, gc0, gc1, gc2, gc3, gc4, gc5, HB⟩
    · have hlit : (regOps Try.f38 8)[8]? = some ({ dst := some 40, op := Op.move (Operand.tmp 0), type := 41, pos := "geom.go:483", after := #[{ on := 2, ground := Ground.guard }], guard := some (2, true) }) := by kernel_rfl
      obtain rfl := Option.some.inj (hlit.symm.trans hoi)
      exact op_not hoi (want_no rfl (d := 34) (by kernel_rfl) (hT.at 2 (by kernel_rfl) (pre_of hpre 2 (by kernel_rfl)))) ⟨(), fun _ _ => rfl, rfl, gc0, gc1, gc2, gc3, gc4, gc5, HB⟩
    · have hlit : (regOps Try.f38 8)[9]? = some ({ dst := some 41, op := Op.move (Operand.tmp 4), type := 3, pos := "geom.go:483", after := #[{ on := 2, ground := Ground.guard }], guard := some (2, true) }) := by kernel_rfl
      obtain rfl := Option.some.inj (hlit.symm.trans hoi)
      exact op_not hoi (want_no rfl (d := 34) (by kernel_rfl) (hT.at 2 (by kernel_rfl) (pre_of hpre 2 (by kernel_rfl)))) ⟨(), fun _ _ => rfl, rfl, gc0, gc1, gc2, gc3, gc4, gc5, HB⟩
    · have hlit : (regOps Try.f38 8)[10]? = some ({ dst := some 42, op := Op.indexAddr 41 (Operand.tmp 40) (Operand.tmp 41), type := 0, pos := "geom.go:483", after := #[{ on := 8, ground := Ground.data }, { on := 9, ground := Ground.data }, { on := 2, ground := Ground.guard }], guard := some (2, true) }) := by kernel_rfl
      obtain rfl := Option.some.inj (hlit.symm.trans hoi)
      exact op_not hoi (want_no rfl (d := 34) (by kernel_rfl) (hT.at 2 (by kernel_rfl) (pre_of hpre 2 (by kernel_rfl)))) ⟨(), fun _ _ => rfl, rfl, gc0, gc1, gc2, gc3, gc4, gc5, HB⟩
    · have hlit : (regOps Try.f38 8)[11]? = some ({ dst := some 43, op := Op.load 23 (Operand.tmp 42), type := 23, pos := "geom.go:483", after := #[{ on := 10, ground := Ground.data }, { on := 2, ground := Ground.guard }], guard := some (2, true) }) := by kernel_rfl
      obtain rfl := Option.some.inj (hlit.symm.trans hoi)
      exact op_not hoi (want_no rfl (d := 34) (by kernel_rfl) (hT.at 2 (by kernel_rfl) (pre_of hpre 2 (by kernel_rfl)))) ⟨(), fun _ _ => rfl, rfl, gc0, gc1, gc2, gc3, gc4, gc5, HB⟩
    · have hlit : (regOps Try.f38 8)[12]? = some ({ dst := some 44, op := Op.binOp BinOp.eql 23 (Operand.tmp 39) (Operand.tmp 43) 23, type := 4, pos := "geom.go:483", after := #[{ on := 7, ground := Ground.data }, { on := 11, ground := Ground.data }, { on := 2, ground := Ground.guard }], guard := some (2, true) }) := by kernel_rfl
      obtain rfl := Option.some.inj (hlit.symm.trans hoi)
      exact op_not hoi (want_no rfl (d := 34) (by kernel_rfl) (hT.at 2 (by kernel_rfl) (pre_of hpre 2 (by kernel_rfl)))) ⟨(), fun _ _ => rfl, rfl, gc0, gc1, gc2, gc3, gc4, gc5, HB⟩
    · have hlit : (regOps Try.f38 8)[13]? = some ({ dst := some 45, op := Op.pick (Operand.tmp 34) (Operand.tmp 44) (Operand.const (Value.bool false)), type := 4, pos := "geom.go:483", after := #[{ on := 2, ground := Ground.data }, { on := 12, ground := Ground.data }], guard := none }) := by kernel_rfl
      obtain rfl := Option.some.inj (hlit.symm.trans hoi)
      have r34 : b.tmps.getD 34 undef = (.bool false) := rd (hT.at 2 (by kernel_rfl) (pre_of hpre 2 (by kernel_rfl)))
      have r44 : b.tmps.getD 44 undef = (undef) := rd (hT.at 12 (by kernel_rfl) (pre_of hpre 12 (by kernel_rfl)))
      refine op_go hoi (want_all rfl) fun K hK => ?_
      clear hT hpre hun hlit hoi
      go_simp
      exact hK _ _ ⟨(), fun _ _ => rfl, rfl, gc0, gc1, gc2, gc3, gc4, gc5, HB⟩
  · intro g b w' hT hS
    rw [hT.all ht]
    have hn : (regOps Try.f38 8).size = 14 := by kernel_rfl
    rw [hn]
    exact he w' hS

/-- What each operation of the region leaves. -/
def region38_10V : Nat → Value
  | 0 => .int .i64 0
  | 1 => .bool false
  | 2 => .bool false
  | 3 => undef
  | 4 => undef
  | 5 => undef
  | 6 => undef
  | 7 => undef
  | 8 => undef
  | 9 => undef
  | 10 => undef
  | 11 => undef
  | 12 => undef
  | 13 => undef
  | 14 => .bool false
  | _ => undef

set_option maxHeartbeats 4000000 in
set_option maxRecDepth 100000 in
theorem region38_10 (a0 a1 b0 b1 c0 c1 e0 e1 : Int) (kg ko cap : Nat) (W : World)  {id : Nat} {ops : Array Oper} {Q : Exit → Act → World → Prop} {a : Act} {w : World}
    (ho : ops = (regOps Try.f38 6)) (hsz : a.tmps.size = 77) (t5 : a.tmps[5]? = some (.int .i64 0))
    (h0 : w.drew.cell? ⟨kg, 0, none⟩ = some (.int .i64 a0) ∧ w.drew.cell? ⟨kg, 1, none⟩ = some (.int .i64 a1) ∧ w.drew.cell? ⟨kg, 2, none⟩ = some (.int .i64 b0) ∧ w.drew.cell? ⟨kg, 3, none⟩ = some (.int .i64 b1) ∧ w.drew.cell? ⟨kg, 4, none⟩ = some (.int .i64 c0) ∧ w.drew.cell? ⟨kg, 5, none⟩ = some (.int .i64 c1) ∧ w.drew.cell? ⟨ko, 0, none⟩ = some (.int .i64 e0) ∧ w.drew.cell? ⟨ko, 1, none⟩ = some (.int .i64 e1) ∧ w.drew.ownsRow W.heap.size 23 2 (.slice (some ⟨ko, 0, none⟩) 1 cap) 1 [.int .i64 e0, .int .i64 e1] ∧ Below W.heap.size W w.drew)
    (he : ∀ w', w'.cell? ⟨kg, 0, none⟩ = some (.int .i64 a0) ∧ w'.cell? ⟨kg, 1, none⟩ = some (.int .i64 a1) ∧ w'.cell? ⟨kg, 2, none⟩ = some (.int .i64 b0) ∧ w'.cell? ⟨kg, 3, none⟩ = some (.int .i64 b1) ∧ w'.cell? ⟨kg, 4, none⟩ = some (.int .i64 c0) ∧ w'.cell? ⟨kg, 5, none⟩ = some (.int .i64 c1) ∧ w'.cell? ⟨ko, 0, none⟩ = some (.int .i64 e0) ∧ w'.cell? ⟨ko, 1, none⟩ = some (.int .i64 e1) ∧ w'.ownsRow W.heap.size 23 2 (.slice (some ⟨ko, 0, none⟩) 1 cap) 1 [.int .i64 e0, .int .i64 e1] ∧ Below W.heap.size W w' → Q .normal ⟨(((((((((((((((a.tmps.setIfInBounds 15 (.int .i64 0)).setIfInBounds 16 (.bool false)).setIfInBounds 17 (.bool false)).setIfInBounds 18 (undef)).setIfInBounds 19 (undef)).setIfInBounds 20 (undef)).setIfInBounds 21 (undef)).setIfInBounds 22 (undef)).setIfInBounds 23 (undef)).setIfInBounds 24 (undef)).setIfInBounds 25 (undef)).setIfInBounds 26 (undef)).setIfInBounds 27 (undef)).setIfInBounds 28 (undef)).setIfInBounds 29 (.bool false)), a.defers⟩ w') :
    (Code.region id ops true).wp Try.prog Q a w := by
  have ht : tidy (regOps Try.f38 6) a.tmps.size = true := by rw [hsz]; kernel_rfl
  refine region_tab (G := Unit) (fun _ => region38_10V) (fun _ _ w' => w'.cell? ⟨kg, 0, none⟩ = some (.int .i64 a0) ∧ w'.cell? ⟨kg, 1, none⟩ = some (.int .i64 a1) ∧ w'.cell? ⟨kg, 2, none⟩ = some (.int .i64 b0) ∧ w'.cell? ⟨kg, 3, none⟩ = some (.int .i64 b1) ∧ w'.cell? ⟨kg, 4, none⟩ = some (.int .i64 c0) ∧ w'.cell? ⟨kg, 5, none⟩ = some (.int .i64 c1) ∧ w'.cell? ⟨ko, 0, none⟩ = some (.int .i64 e0) ∧ w'.cell? ⟨ko, 1, none⟩ = some (.int .i64 e1) ∧ w'.ownsRow W.heap.size 23 2 (.slice (some ⟨ko, 0, none⟩) 1 cap) 1 [.int .i64 e0, .int .i64 e1] ∧ Below W.heap.size W w') () (by kernel_rfl) ho ht h0 ?_ ?_
  · intro i o hoi g L b w' hun hpre hT hS
    clear he h0 ho hsz ht
    have hi : i < (regOps Try.f38 6).size := (Array.getElem?_eq_some_iff.1 hoi).1
    rw [show (regOps Try.f38 6).size = 15 by kernel_rfl] at hi
    obtain ⟨gc0, gc1, gc2, gc3, gc4, gc5, oc0, oc1, hown, HB⟩ := hS
    have hcases : i = 0 ∨ i = 1 ∨ i = 2 ∨ i = 3 ∨ i = 4 ∨ i = 5 ∨ i = 6 ∨ i = 7 ∨ i = 8 ∨ i = 9 ∨ i = 10 ∨ i = 11 ∨ i = 12 ∨ i = 13 ∨ i = 14 := by omega
    rcases hcases with rfl | rfl | rfl | rfl | rfl | rfl | rfl | rfl | rfl | rfl | rfl | rfl | rfl | rfl | rfl
    · have hlit : (regOps Try.f38 6)[0]? = some ({ dst := some 15, op := Op.move (Operand.tmp 5), type := 3, pos := "geom.go:480", after := #[], guard := none }) := by kernel_rfl
      obtain rfl := Option.some.inj (hlit.symm.trans hoi)
      have r5 : b.tmps.getD 5 undef = (.int .i64 0) := rd ((hT.old 5 (by kernel_rfl)).trans t5)
      refine op_go hoi (want_all rfl) fun K hK => ?_
      clear hT hpre hun hlit hoi
      go_simp
      exact hK _ _ ⟨(), fun _ _ => rfl, rfl, gc0, gc1, gc2, gc3, gc4, gc5, oc0, oc1, hown, HB⟩
    · have hlit : (regOps Try.f38 6)[1]? = some ({ dst := some 16, op := Op.binOp BinOp.gtr 3 (Operand.tmp 15) (Operand.const (Value.int IntKind.i64 0)) 3, type := 4, pos := "geom.go:480", after := #[{ on := 0, ground := Ground.data }], guard := none }) := by kernel_rfl
      obtain rfl := Option.some.inj (hlit.symm.trans hoi)
      have r15 : b.tmps.getD 15 undef = (.int .i64 0) := rd (hT.at 0 (by kernel_rfl) (pre_of hpre 0 (by kernel_rfl)))
      refine op_go hoi (want_all rfl) fun K hK => ?_
      clear hT hpre hun hlit hoi
      go_simp
      exact hK _ _ ⟨(), fun _ _ => rfl, rfl, gc0, gc1, gc2, gc3, gc4, gc5, oc0, oc1, hown, HB⟩
    · have hlit : (regOps Try.f38 6)[2]? = some ({ dst := some 17, op := Op.move (Operand.tmp 16), type := 4, pos := "geom.go:480", after := #[{ on := 1, ground := Ground.data }], guard := none }) := by kernel_rfl
      obtain rfl := Option.some.inj (hlit.symm.trans hoi)
      have r16 : b.tmps.getD 16 undef = (.bool false) := rd (hT.at 1 (by kernel_rfl) (pre_of hpre 1 (by kernel_rfl)))
      refine op_go hoi (want_all rfl) fun K hK => ?_
      clear hT hpre hun hlit hoi
      go_simp
      exact hK _ _ ⟨(), fun _ _ => rfl, rfl, gc0, gc1, gc2, gc3, gc4, gc5, oc0, oc1, hown, HB⟩
    · have hlit : (regOps Try.f38 6)[3]? = some ({ dst := some 18, op := Op.move (Operand.tmp 3), type := 41, pos := "geom.go:480", after := #[{ on := 2, ground := Ground.guard }], guard := some (2, true) }) := by kernel_rfl
      obtain rfl := Option.some.inj (hlit.symm.trans hoi)
      exact op_not hoi (want_no rfl (d := 17) (by kernel_rfl) (hT.at 2 (by kernel_rfl) (pre_of hpre 2 (by kernel_rfl)))) ⟨(), fun _ _ => rfl, rfl, gc0, gc1, gc2, gc3, gc4, gc5, oc0, oc1, hown, HB⟩
    · have hlit : (regOps Try.f38 6)[4]? = some ({ dst := some 19, op := Op.move (Operand.tmp 5), type := 3, pos := "geom.go:480", after := #[{ on := 2, ground := Ground.guard }], guard := some (2, true) }) := by kernel_rfl
      obtain rfl := Option.some.inj (hlit.symm.trans hoi)
      exact op_not hoi (want_no rfl (d := 17) (by kernel_rfl) (hT.at 2 (by kernel_rfl) (pre_of hpre 2 (by kernel_rfl)))) ⟨(), fun _ _ => rfl, rfl, gc0, gc1, gc2, gc3, gc4, gc5, oc0, oc1, hown, HB⟩
    · have hlit : (regOps Try.f38 6)[5]? = some ({ dst := some 20, op := Op.binOp BinOp.sub 3 (Operand.tmp 19) (Operand.const (Value.int IntKind.i64 1)) 3, type := 3, pos := "geom.go:480", after := #[{ on := 4, ground := Ground.data }, { on := 2, ground := Ground.guard }], guard := some (2, true) }) := by kernel_rfl
      obtain rfl := Option.some.inj (hlit.symm.trans hoi)
      exact op_not hoi (want_no rfl (d := 17) (by kernel_rfl) (hT.at 2 (by kernel_rfl) (pre_of hpre 2 (by kernel_rfl)))) ⟨(), fun _ _ => rfl, rfl, gc0, gc1, gc2, gc3, gc4, gc5, oc0, oc1, hown, HB⟩
    · have hlit : (regOps Try.f38 6)[6]? = some ({ dst := some 21, op := Op.indexAddr 41 (Operand.tmp 18) (Operand.tmp 20), type := 0, pos := "geom.go:480", after := #[{ on := 3, ground := Ground.data }, { on := 5, ground := Ground.data }, { on := 2, ground := Ground.guard }], guard := some (2, true) }) := by kernel_rfl
      obtain rfl := Option.some.inj (hlit.symm.trans hoi)
      exact op_not hoi (want_no rfl (d := 17) (by kernel_rfl) (hT.at 2 (by kernel_rfl) (pre_of hpre 2 (by kernel_rfl)))) ⟨(), fun _ _ => rfl, rfl, gc0, gc1, gc2, gc3, gc4, gc5, oc0, oc1, hown, HB⟩
    · have hlit : (regOps Try.f38 6)[7]? = some ({ dst := some 22, op := Op.load 23 (Operand.tmp 21), type := 23, pos := "geom.go:480", after := #[{ on := 6, ground := Ground.data }, { on := 2, ground := Ground.guard }], guard := some (2, true) }) := by kernel_rfl
      obtain rfl := Option.some.inj (hlit.symm.trans hoi)
      exact op_not hoi (want_no rfl (d := 17) (by kernel_rfl) (hT.at 2 (by kernel_rfl) (pre_of hpre 2 (by kernel_rfl)))) ⟨(), fun _ _ => rfl, rfl, gc0, gc1, gc2, gc3, gc4, gc5, oc0, oc1, hown, HB⟩
    · have hlit : (regOps Try.f38 6)[8]? = some ({ dst := some 23, op := Op.move (Operand.tmp 0), type := 41, pos := "geom.go:480", after := #[{ on := 2, ground := Ground.guard }], guard := some (2, true) }) := by kernel_rfl
      obtain rfl := Option.some.inj (hlit.symm.trans hoi)
      exact op_not hoi (want_no rfl (d := 17) (by kernel_rfl) (hT.at 2 (by kernel_rfl) (pre_of hpre 2 (by kernel_rfl)))) ⟨(), fun _ _ => rfl, rfl, gc0, gc1, gc2, gc3, gc4, gc5, oc0, oc1, hown, HB⟩
    · have hlit : (regOps Try.f38 6)[9]? = some ({ dst := some 24, op := Op.move (Operand.tmp 4), type := 3, pos := "geom.go:480", after := #[{ on := 2, ground := Ground.guard }], guard := some (2, true) }) := by kernel_rfl
      obtain rfl := Option.some.inj (hlit.symm.trans hoi)
      exact op_not hoi (want_no rfl (d := 17) (by kernel_rfl) (hT.at 2 (by kernel_rfl) (pre_of hpre 2 (by kernel_rfl)))) ⟨(), fun _ _ => rfl, rfl, gc0, gc1, gc2, gc3, gc4, gc5, oc0, oc1, hown, HB⟩
    · have hlit : (regOps Try.f38 6)[10]? = some ({ dst := some 25, op := Op.indexAddr 41 (Operand.tmp 23) (Operand.tmp 24), type := 0, pos := "geom.go:480", after := #[{ on := 8, ground := Ground.data }, { on := 9, ground := Ground.data }, { on := 2, ground := Ground.guard }], guard := some (2, true) }) := by kernel_rfl
      obtain rfl := Option.some.inj (hlit.symm.trans hoi)
      exact op_not hoi (want_no rfl (d := 17) (by kernel_rfl) (hT.at 2 (by kernel_rfl) (pre_of hpre 2 (by kernel_rfl)))) ⟨(), fun _ _ => rfl, rfl, gc0, gc1, gc2, gc3, gc4, gc5, oc0, oc1, hown, HB⟩
    · have hlit : (regOps Try.f38 6)[11]? = some ({ dst := some 26, op := Op.load 23 (Operand.tmp 25), type := 23, pos := "geom.go:480", after := #[{ on := 10, ground := Ground.data }, { on := 2, ground := Ground.guard }], guard := some (2, true) }) := by kernel_rfl
      obtain rfl := Option.some.inj (hlit.symm.trans hoi)
      exact op_not hoi (want_no rfl (d := 17) (by kernel_rfl) (hT.at 2 (by kernel_rfl) (pre_of hpre 2 (by kernel_rfl)))) ⟨(), fun _ _ => rfl, rfl, gc0, gc1, gc2, gc3, gc4, gc5, oc0, oc1, hown, HB⟩
    · have hlit : (regOps Try.f38 6)[12]? = some ({ dst := some 27, op := Op.call { callee := Callee.value (Operand.func 51), args := #[Operand.tmp 22, Operand.tmp 26], argTypes := #[23, 23] }, type := 3, pos := "geom.go:480", after := #[{ on := 7, ground := Ground.data }, { on := 11, ground := Ground.data }, { on := 2, ground := Ground.chain }, { on := 2, ground := Ground.guard }], guard := some (2, true) }) := by kernel_rfl
      obtain rfl := Option.some.inj (hlit.symm.trans hoi)
      exact op_not hoi (want_no rfl (d := 17) (by kernel_rfl) (hT.at 2 (by kernel_rfl) (pre_of hpre 2 (by kernel_rfl)))) ⟨(), fun _ _ => rfl, rfl, gc0, gc1, gc2, gc3, gc4, gc5, oc0, oc1, hown, HB⟩
    · have hlit : (regOps Try.f38 6)[13]? = some ({ dst := some 28, op := Op.binOp BinOp.gtr 3 (Operand.tmp 27) (Operand.const (Value.int IntKind.i64 0)) 3, type := 4, pos := "geom.go:480", after := #[{ on := 12, ground := Ground.data }, { on := 2, ground := Ground.guard }], guard := some (2, true) }) := by kernel_rfl
      obtain rfl := Option.some.inj (hlit.symm.trans hoi)
      exact op_not hoi (want_no rfl (d := 17) (by kernel_rfl) (hT.at 2 (by kernel_rfl) (pre_of hpre 2 (by kernel_rfl)))) ⟨(), fun _ _ => rfl, rfl, gc0, gc1, gc2, gc3, gc4, gc5, oc0, oc1, hown, HB⟩
    · have hlit : (regOps Try.f38 6)[14]? = some ({ dst := some 29, op := Op.pick (Operand.tmp 17) (Operand.tmp 28) (Operand.const (Value.bool false)), type := 4, pos := "geom.go:480", after := #[{ on := 2, ground := Ground.data }, { on := 13, ground := Ground.data }], guard := none }) := by kernel_rfl
      obtain rfl := Option.some.inj (hlit.symm.trans hoi)
      have r17 : b.tmps.getD 17 undef = (.bool false) := rd (hT.at 2 (by kernel_rfl) (pre_of hpre 2 (by kernel_rfl)))
      have r28 : b.tmps.getD 28 undef = (undef) := rd (hT.at 13 (by kernel_rfl) (pre_of hpre 13 (by kernel_rfl)))
      refine op_go hoi (want_all rfl) fun K hK => ?_
      clear hT hpre hun hlit hoi
      go_simp
      exact hK _ _ ⟨(), fun _ _ => rfl, rfl, gc0, gc1, gc2, gc3, gc4, gc5, oc0, oc1, hown, HB⟩
  · intro g b w' hT hS
    rw [hT.all ht]
    have hn : (regOps Try.f38 6).size = 15 := by kernel_rfl
    rw [hn]
    exact he w' hS

/-- What each operation of the region leaves. -/
def region38_8_10V : Nat → Value
  | 0 => .int .i64 0
  | 1 => .bool false
  | 2 => .bool false
  | 3 => undef
  | 4 => undef
  | 5 => undef
  | 6 => undef
  | 7 => undef
  | 8 => undef
  | 9 => undef
  | 10 => undef
  | 11 => undef
  | 12 => undef
  | 13 => .bool false
  | _ => undef

set_option maxHeartbeats 4000000 in
set_option maxRecDepth 100000 in
theorem region38_8_10 (a0 a1 b0 b1 c0 c1 e0 e1 : Int) (kg ko cap : Nat) (W : World)  {id : Nat} {ops : Array Oper} {Q : Exit → Act → World → Prop} {a : Act} {w : World}
    (ho : ops = (regOps Try.f38 8)) (hsz : a.tmps.size = 77) (t5 : a.tmps[5]? = some (.int .i64 0))
    (h0 : w.drew.cell? ⟨kg, 0, none⟩ = some (.int .i64 a0) ∧ w.drew.cell? ⟨kg, 1, none⟩ = some (.int .i64 a1) ∧ w.drew.cell? ⟨kg, 2, none⟩ = some (.int .i64 b0) ∧ w.drew.cell? ⟨kg, 3, none⟩ = some (.int .i64 b1) ∧ w.drew.cell? ⟨kg, 4, none⟩ = some (.int .i64 c0) ∧ w.drew.cell? ⟨kg, 5, none⟩ = some (.int .i64 c1) ∧ w.drew.cell? ⟨ko, 0, none⟩ = some (.int .i64 e0) ∧ w.drew.cell? ⟨ko, 1, none⟩ = some (.int .i64 e1) ∧ w.drew.ownsRow W.heap.size 23 2 (.slice (some ⟨ko, 0, none⟩) 1 cap) 1 [.int .i64 e0, .int .i64 e1] ∧ Below W.heap.size W w.drew)
    (he : ∀ w', w'.cell? ⟨kg, 0, none⟩ = some (.int .i64 a0) ∧ w'.cell? ⟨kg, 1, none⟩ = some (.int .i64 a1) ∧ w'.cell? ⟨kg, 2, none⟩ = some (.int .i64 b0) ∧ w'.cell? ⟨kg, 3, none⟩ = some (.int .i64 b1) ∧ w'.cell? ⟨kg, 4, none⟩ = some (.int .i64 c0) ∧ w'.cell? ⟨kg, 5, none⟩ = some (.int .i64 c1) ∧ w'.cell? ⟨ko, 0, none⟩ = some (.int .i64 e0) ∧ w'.cell? ⟨ko, 1, none⟩ = some (.int .i64 e1) ∧ w'.ownsRow W.heap.size 23 2 (.slice (some ⟨ko, 0, none⟩) 1 cap) 1 [.int .i64 e0, .int .i64 e1] ∧ Below W.heap.size W w' → Q .normal ⟨((((((((((((((a.tmps.setIfInBounds 32 (.int .i64 0)).setIfInBounds 33 (.bool false)).setIfInBounds 34 (.bool false)).setIfInBounds 35 (undef)).setIfInBounds 36 (undef)).setIfInBounds 37 (undef)).setIfInBounds 38 (undef)).setIfInBounds 39 (undef)).setIfInBounds 40 (undef)).setIfInBounds 41 (undef)).setIfInBounds 42 (undef)).setIfInBounds 43 (undef)).setIfInBounds 44 (undef)).setIfInBounds 45 (.bool false)), a.defers⟩ w') :
    (Code.region id ops true).wp Try.prog Q a w := by
  have ht : tidy (regOps Try.f38 8) a.tmps.size = true := by rw [hsz]; kernel_rfl
  refine region_tab (G := Unit) (fun _ => region38_8_10V) (fun _ _ w' => w'.cell? ⟨kg, 0, none⟩ = some (.int .i64 a0) ∧ w'.cell? ⟨kg, 1, none⟩ = some (.int .i64 a1) ∧ w'.cell? ⟨kg, 2, none⟩ = some (.int .i64 b0) ∧ w'.cell? ⟨kg, 3, none⟩ = some (.int .i64 b1) ∧ w'.cell? ⟨kg, 4, none⟩ = some (.int .i64 c0) ∧ w'.cell? ⟨kg, 5, none⟩ = some (.int .i64 c1) ∧ w'.cell? ⟨ko, 0, none⟩ = some (.int .i64 e0) ∧ w'.cell? ⟨ko, 1, none⟩ = some (.int .i64 e1) ∧ w'.ownsRow W.heap.size 23 2 (.slice (some ⟨ko, 0, none⟩) 1 cap) 1 [.int .i64 e0, .int .i64 e1] ∧ Below W.heap.size W w') () (by kernel_rfl) ho ht h0 ?_ ?_
  · intro i o hoi g L b w' hun hpre hT hS
    clear he h0 ho hsz ht
    have hi : i < (regOps Try.f38 8).size := (Array.getElem?_eq_some_iff.1 hoi).1
    rw [show (regOps Try.f38 8).size = 14 by kernel_rfl] at hi
    obtain ⟨gc0, gc1, gc2, gc3, gc4, gc5, oc0, oc1, hown, HB⟩ := hS
    have hcases : i = 0 ∨ i = 1 ∨ i = 2 ∨ i = 3 ∨ i = 4 ∨ i = 5 ∨ i = 6 ∨ i = 7 ∨ i = 8 ∨ i = 9 ∨ i = 10 ∨ i = 11 ∨ i = 12 ∨ i = 13 := by omega
    rcases hcases with rfl | rfl | rfl | rfl | rfl | rfl | rfl | rfl | rfl | rfl | rfl | rfl | rfl | rfl
    · have hlit : (regOps Try.f38 8)[0]? = some ({ dst := some 32, op := Op.move (Operand.tmp 5), type := 3, pos := "geom.go:483", after := #[], guard := none }) := by kernel_rfl
      obtain rfl := Option.some.inj (hlit.symm.trans hoi)
      have r5 : b.tmps.getD 5 undef = (.int .i64 0) := rd ((hT.old 5 (by kernel_rfl)).trans t5)
      refine op_go hoi (want_all rfl) fun K hK => ?_
      clear hT hpre hun hlit hoi
      go_simp
      exact hK _ _ ⟨(), fun _ _ => rfl, rfl, gc0, gc1, gc2, gc3, gc4, gc5, oc0, oc1, hown, HB⟩
    · have hlit : (regOps Try.f38 8)[1]? = some ({ dst := some 33, op := Op.binOp BinOp.gtr 3 (Operand.tmp 32) (Operand.const (Value.int IntKind.i64 0)) 3, type := 4, pos := "geom.go:483", after := #[{ on := 0, ground := Ground.data }], guard := none }) := by kernel_rfl
      obtain rfl := Option.some.inj (hlit.symm.trans hoi)
      have r32 : b.tmps.getD 32 undef = (.int .i64 0) := rd (hT.at 0 (by kernel_rfl) (pre_of hpre 0 (by kernel_rfl)))
      refine op_go hoi (want_all rfl) fun K hK => ?_
      clear hT hpre hun hlit hoi
      go_simp
      exact hK _ _ ⟨(), fun _ _ => rfl, rfl, gc0, gc1, gc2, gc3, gc4, gc5, oc0, oc1, hown, HB⟩
    · have hlit : (regOps Try.f38 8)[2]? = some ({ dst := some 34, op := Op.move (Operand.tmp 33), type := 4, pos := "geom.go:483", after := #[{ on := 1, ground := Ground.data }], guard := none }) := by kernel_rfl
      obtain rfl := Option.some.inj (hlit.symm.trans hoi)
      have r33 : b.tmps.getD 33 undef = (.bool false) := rd (hT.at 1 (by kernel_rfl) (pre_of hpre 1 (by kernel_rfl)))
      refine op_go hoi (want_all rfl) fun K hK => ?_
      clear hT hpre hun hlit hoi
      go_simp
      exact hK _ _ ⟨(), fun _ _ => rfl, rfl, gc0, gc1, gc2, gc3, gc4, gc5, oc0, oc1, hown, HB⟩
    · have hlit : (regOps Try.f38 8)[3]? = some ({ dst := some 35, op := Op.move (Operand.tmp 3), type := 41, pos := "geom.go:483", after := #[{ on := 2, ground := Ground.guard }], guard := some (2, true) }) := by kernel_rfl
      obtain rfl := Option.some.inj (hlit.symm.trans hoi)
      exact op_not hoi (want_no rfl (d := 34) (by kernel_rfl) (hT.at 2 (by kernel_rfl) (pre_of hpre 2 (by kernel_rfl)))) ⟨(), fun _ _ => rfl, rfl, gc0, gc1, gc2, gc3, gc4, gc5, oc0, oc1, hown, HB⟩
    · have hlit : (regOps Try.f38 8)[4]? = some ({ dst := some 36, op := Op.move (Operand.tmp 5), type := 3, pos := "geom.go:483", after := #[{ on := 2, ground := Ground.guard }], guard := some (2, true) }) := by kernel_rfl
      obtain rfl := Option.some.inj (hlit.symm.trans hoi)
      exact op_not hoi (want_no rfl (d := 34) (by kernel_rfl) (hT.at 2 (by kernel_rfl) (pre_of hpre 2 (by kernel_rfl)))) ⟨(), fun _ _ => rfl, rfl, gc0, gc1, gc2, gc3, gc4, gc5, oc0, oc1, hown, HB⟩
    · have hlit : (regOps Try.f38 8)[5]? = some ({ dst := some 37, op := Op.binOp BinOp.sub 3 (Operand.tmp 36) (Operand.const (Value.int IntKind.i64 1)) 3, type := 3, pos := "geom.go:483", after := #[{ on := 4, ground := Ground.data }, { on := 2, ground := Ground.guard }], guard := some (2, true) }) := by kernel_rfl
      obtain rfl := Option.some.inj (hlit.symm.trans hoi)
      exact op_not hoi (want_no rfl (d := 34) (by kernel_rfl) (hT.at 2 (by kernel_rfl) (pre_of hpre 2 (by kernel_rfl)))) ⟨(), fun _ _ => rfl, rfl, gc0, gc1, gc2, gc3, gc4, gc5, oc0, oc1, hown, HB⟩
    · have hlit : (regOps Try.f38 8)[6]? = some ({ dst := some 38, op := Op.indexAddr 41 (Operand.tmp 35) (Operand.tmp 37), type := 0, pos := "geom.go:483", after := #[{ on := 3, ground := Ground.data }, { on := 5, ground := Ground.data }, { on := 2, ground := Ground.guard }], guard := some (2, true) }) := by kernel_rfl
      obtain rfl := Option.some.inj (hlit.symm.trans hoi)
      exact op_not hoi (want_no rfl (d := 34) (by kernel_rfl) (hT.at 2 (by kernel_rfl) (pre_of hpre 2 (by kernel_rfl)))) ⟨(), fun _ _ => rfl, rfl, gc0, gc1, gc2, gc3, gc4, gc5, oc0, oc1, hown, HB⟩
    · have hlit : (regOps Try.f38 8)[7]? = some ({ dst := some 39, op := Op.load 23 (Operand.tmp 38), type := 23, pos := "geom.go:483", after := #[{ on := 6, ground := Ground.data }, { on := 2, ground := Ground.guard }], guard := some (2, true) }) := by kernel_rfl
      obtain rfl := Option.some.inj (hlit.symm.trans hoi)
      exact op_not hoi (want_no rfl (d := 34) (by kernel_rfl) (hT.at 2 (by kernel_rfl) (pre_of hpre 2 (by kernel_rfl)))) ⟨(), fun _ _ => rfl, rfl, gc0, gc1, gc2, gc3, gc4, gc5, oc0, oc1, hown, HB⟩
    · have hlit : (regOps Try.f38 8)[8]? = some ({ dst := some 40, op := Op.move (Operand.tmp 0), type := 41, pos := "geom.go:483", after := #[{ on := 2, ground := Ground.guard }], guard := some (2, true) }) := by kernel_rfl
      obtain rfl := Option.some.inj (hlit.symm.trans hoi)
      exact op_not hoi (want_no rfl (d := 34) (by kernel_rfl) (hT.at 2 (by kernel_rfl) (pre_of hpre 2 (by kernel_rfl)))) ⟨(), fun _ _ => rfl, rfl, gc0, gc1, gc2, gc3, gc4, gc5, oc0, oc1, hown, HB⟩
    · have hlit : (regOps Try.f38 8)[9]? = some ({ dst := some 41, op := Op.move (Operand.tmp 4), type := 3, pos := "geom.go:483", after := #[{ on := 2, ground := Ground.guard }], guard := some (2, true) }) := by kernel_rfl
      obtain rfl := Option.some.inj (hlit.symm.trans hoi)
      exact op_not hoi (want_no rfl (d := 34) (by kernel_rfl) (hT.at 2 (by kernel_rfl) (pre_of hpre 2 (by kernel_rfl)))) ⟨(), fun _ _ => rfl, rfl, gc0, gc1, gc2, gc3, gc4, gc5, oc0, oc1, hown, HB⟩
    · have hlit : (regOps Try.f38 8)[10]? = some ({ dst := some 42, op := Op.indexAddr 41 (Operand.tmp 40) (Operand.tmp 41), type := 0, pos := "geom.go:483", after := #[{ on := 8, ground := Ground.data }, { on := 9, ground := Ground.data }, { on := 2, ground := Ground.guard }], guard := some (2, true) }) := by kernel_rfl
      obtain rfl := Option.some.inj (hlit.symm.trans hoi)
      exact op_not hoi (want_no rfl (d := 34) (by kernel_rfl) (hT.at 2 (by kernel_rfl) (pre_of hpre 2 (by kernel_rfl)))) ⟨(), fun _ _ => rfl, rfl, gc0, gc1, gc2, gc3, gc4, gc5, oc0, oc1, hown, HB⟩
    · have hlit : (regOps Try.f38 8)[11]? = some ({ dst := some 43, op := Op.load 23 (Operand.tmp 42), type := 23, pos := "geom.go:483", after := #[{ on := 10, ground := Ground.data }, { on := 2, ground := Ground.guard }], guard := some (2, true) }) := by kernel_rfl
      obtain rfl := Option.some.inj (hlit.symm.trans hoi)
      exact op_not hoi (want_no rfl (d := 34) (by kernel_rfl) (hT.at 2 (by kernel_rfl) (pre_of hpre 2 (by kernel_rfl)))) ⟨(), fun _ _ => rfl, rfl, gc0, gc1, gc2, gc3, gc4, gc5, oc0, oc1, hown, HB⟩
    · have hlit : (regOps Try.f38 8)[12]? = some ({ dst := some 44, op := Op.binOp BinOp.eql 23 (Operand.tmp 39) (Operand.tmp 43) 23, type := 4, pos := "geom.go:483", after := #[{ on := 7, ground := Ground.data }, { on := 11, ground := Ground.data }, { on := 2, ground := Ground.guard }], guard := some (2, true) }) := by kernel_rfl
      obtain rfl := Option.some.inj (hlit.symm.trans hoi)
      exact op_not hoi (want_no rfl (d := 34) (by kernel_rfl) (hT.at 2 (by kernel_rfl) (pre_of hpre 2 (by kernel_rfl)))) ⟨(), fun _ _ => rfl, rfl, gc0, gc1, gc2, gc3, gc4, gc5, oc0, oc1, hown, HB⟩
    · have hlit : (regOps Try.f38 8)[13]? = some ({ dst := some 45, op := Op.pick (Operand.tmp 34) (Operand.tmp 44) (Operand.const (Value.bool false)), type := 4, pos := "geom.go:483", after := #[{ on := 2, ground := Ground.data }, { on := 12, ground := Ground.data }], guard := none }) := by kernel_rfl
      obtain rfl := Option.some.inj (hlit.symm.trans hoi)
      have r34 : b.tmps.getD 34 undef = (.bool false) := rd (hT.at 2 (by kernel_rfl) (pre_of hpre 2 (by kernel_rfl)))
      have r44 : b.tmps.getD 44 undef = (undef) := rd (hT.at 12 (by kernel_rfl) (pre_of hpre 12 (by kernel_rfl)))
      refine op_go hoi (want_all rfl) fun K hK => ?_
      clear hT hpre hun hlit hoi
      go_simp
      exact hK _ _ ⟨(), fun _ _ => rfl, rfl, gc0, gc1, gc2, gc3, gc4, gc5, oc0, oc1, hown, HB⟩
  · intro g b w' hT hS
    rw [hT.all ht]
    have hn : (regOps Try.f38 8).size = 14 := by kernel_rfl
    rw [hn]
    exact he w' hS

/-- What each operation of the region leaves. -/
def region38_20V : Nat → Value
  | 0 => .int .i64 0
  | 1 => .bool false
  | 2 => .bool false
  | 3 => undef
  | 4 => undef
  | 5 => undef
  | 6 => undef
  | 7 => undef
  | 8 => undef
  | 9 => undef
  | 10 => undef
  | 11 => undef
  | 12 => undef
  | 13 => undef
  | 14 => .bool false
  | _ => undef

set_option maxHeartbeats 4000000 in
set_option maxRecDepth 100000 in
theorem region38_20 (a0 a1 b0 b1 c0 c1 e0 e1 f0 f1 : Int) (kg ko cap : Nat) (W : World)  {id : Nat} {ops : Array Oper} {Q : Exit → Act → World → Prop} {a : Act} {w : World}
    (ho : ops = (regOps Try.f38 6)) (hsz : a.tmps.size = 77) (t5 : a.tmps[5]? = some (.int .i64 0))
    (h0 : w.drew.cell? ⟨kg, 0, none⟩ = some (.int .i64 a0) ∧ w.drew.cell? ⟨kg, 1, none⟩ = some (.int .i64 a1) ∧ w.drew.cell? ⟨kg, 2, none⟩ = some (.int .i64 b0) ∧ w.drew.cell? ⟨kg, 3, none⟩ = some (.int .i64 b1) ∧ w.drew.cell? ⟨kg, 4, none⟩ = some (.int .i64 c0) ∧ w.drew.cell? ⟨kg, 5, none⟩ = some (.int .i64 c1) ∧ w.drew.cell? ⟨ko, 0, none⟩ = some (.int .i64 e0) ∧ w.drew.cell? ⟨ko, 1, none⟩ = some (.int .i64 e1) ∧ w.drew.cell? ⟨ko, 2, none⟩ = some (.int .i64 f0) ∧ w.drew.cell? ⟨ko, 3, none⟩ = some (.int .i64 f1) ∧ w.drew.ownsRow W.heap.size 23 2 (.slice (some ⟨ko, 0, none⟩) 2 cap) 2 [.int .i64 e0, .int .i64 e1, .int .i64 f0, .int .i64 f1] ∧ Below W.heap.size W w.drew)
    (he : ∀ w', w'.cell? ⟨kg, 0, none⟩ = some (.int .i64 a0) ∧ w'.cell? ⟨kg, 1, none⟩ = some (.int .i64 a1) ∧ w'.cell? ⟨kg, 2, none⟩ = some (.int .i64 b0) ∧ w'.cell? ⟨kg, 3, none⟩ = some (.int .i64 b1) ∧ w'.cell? ⟨kg, 4, none⟩ = some (.int .i64 c0) ∧ w'.cell? ⟨kg, 5, none⟩ = some (.int .i64 c1) ∧ w'.cell? ⟨ko, 0, none⟩ = some (.int .i64 e0) ∧ w'.cell? ⟨ko, 1, none⟩ = some (.int .i64 e1) ∧ w'.cell? ⟨ko, 2, none⟩ = some (.int .i64 f0) ∧ w'.cell? ⟨ko, 3, none⟩ = some (.int .i64 f1) ∧ w'.ownsRow W.heap.size 23 2 (.slice (some ⟨ko, 0, none⟩) 2 cap) 2 [.int .i64 e0, .int .i64 e1, .int .i64 f0, .int .i64 f1] ∧ Below W.heap.size W w' → Q .normal ⟨(((((((((((((((a.tmps.setIfInBounds 15 (.int .i64 0)).setIfInBounds 16 (.bool false)).setIfInBounds 17 (.bool false)).setIfInBounds 18 (undef)).setIfInBounds 19 (undef)).setIfInBounds 20 (undef)).setIfInBounds 21 (undef)).setIfInBounds 22 (undef)).setIfInBounds 23 (undef)).setIfInBounds 24 (undef)).setIfInBounds 25 (undef)).setIfInBounds 26 (undef)).setIfInBounds 27 (undef)).setIfInBounds 28 (undef)).setIfInBounds 29 (.bool false)), a.defers⟩ w') :
    (Code.region id ops true).wp Try.prog Q a w := by
  have ht : tidy (regOps Try.f38 6) a.tmps.size = true := by rw [hsz]; kernel_rfl
  refine region_tab (G := Unit) (fun _ => region38_20V) (fun _ _ w' => w'.cell? ⟨kg, 0, none⟩ = some (.int .i64 a0) ∧ w'.cell? ⟨kg, 1, none⟩ = some (.int .i64 a1) ∧ w'.cell? ⟨kg, 2, none⟩ = some (.int .i64 b0) ∧ w'.cell? ⟨kg, 3, none⟩ = some (.int .i64 b1) ∧ w'.cell? ⟨kg, 4, none⟩ = some (.int .i64 c0) ∧ w'.cell? ⟨kg, 5, none⟩ = some (.int .i64 c1) ∧ w'.cell? ⟨ko, 0, none⟩ = some (.int .i64 e0) ∧ w'.cell? ⟨ko, 1, none⟩ = some (.int .i64 e1) ∧ w'.cell? ⟨ko, 2, none⟩ = some (.int .i64 f0) ∧ w'.cell? ⟨ko, 3, none⟩ = some (.int .i64 f1) ∧ w'.ownsRow W.heap.size 23 2 (.slice (some ⟨ko, 0, none⟩) 2 cap) 2 [.int .i64 e0, .int .i64 e1, .int .i64 f0, .int .i64 f1] ∧ Below W.heap.size W w') () (by kernel_rfl) ho ht h0 ?_ ?_
  · intro i o hoi g L b w' hun hpre hT hS
    clear he h0 ho hsz ht
    have hi : i < (regOps Try.f38 6).size := (Array.getElem?_eq_some_iff.1 hoi).1
    rw [show (regOps Try.f38 6).size = 15 by kernel_rfl] at hi
    obtain ⟨gc0, gc1, gc2, gc3, gc4, gc5, oc0, oc1, oc2, oc3, hown, HB⟩ := hS
    have hcases : i = 0 ∨ i = 1 ∨ i = 2 ∨ i = 3 ∨ i = 4 ∨ i = 5 ∨ i = 6 ∨ i = 7 ∨ i = 8 ∨ i = 9 ∨ i = 10 ∨ i = 11 ∨ i = 12 ∨ i = 13 ∨ i = 14 := by omega
    rcases hcases with rfl | rfl | rfl | rfl | rfl | rfl | rfl | rfl | rfl | rfl | rfl | rfl | rfl | rfl | rfl
    · have hlit : (regOps Try.f38 6)[0]? = some ({ dst := some 15, op := Op.move (Operand.tmp 5), type := 3, pos := "geom.go:480", after := #[], guard := none }) := by kernel_rfl
      obtain rfl := Option.some.inj (hlit.symm.trans hoi)
      have r5 : b.tmps.getD 5 undef = (.int .i64 0) := rd ((hT.old 5 (by kernel_rfl)).trans t5)
      refine op_go hoi (want_all rfl) fun K hK => ?_
      clear hT hpre hun hlit hoi
      go_simp
      exact hK _ _ ⟨(), fun _ _ => rfl, rfl, gc0, gc1, gc2, gc3, gc4, gc5, oc0, oc1, oc2, oc3, hown, HB⟩
    · have hlit : (regOps Try.f38 6)[1]? = some ({ dst := some 16, op := Op.binOp BinOp.gtr 3 (Operand.tmp 15) (Operand.const (Value.int IntKind.i64 0)) 3, type := 4, pos := "geom.go:480", after := #[{ on := 0, ground := Ground.data }], guard := none }) := by kernel_rfl
      obtain rfl := Option.some.inj (hlit.symm.trans hoi)
      have r15 : b.tmps.getD 15 undef = (.int .i64 0) := rd (hT.at 0 (by kernel_rfl) (pre_of hpre 0 (by kernel_rfl)))
      refine op_go hoi (want_all rfl) fun K hK => ?_
      clear hT hpre hun hlit hoi
      go_simp
      exact hK _ _ ⟨(), fun _ _ => rfl, rfl, gc0, gc1, gc2, gc3, gc4, gc5, oc0, oc1, oc2, oc3, hown, HB⟩
    · have hlit : (regOps Try.f38 6)[2]? = some ({ dst := some 17, op := Op.move (Operand.tmp 16), type := 4, pos := "geom.go:480", after := #[{ on := 1, ground := Ground.data }], guard := none }) := by kernel_rfl
      obtain rfl := Option.some.inj (hlit.symm.trans hoi)
      have r16 : b.tmps.getD 16 undef = (.bool false) := rd (hT.at 1 (by kernel_rfl) (pre_of hpre 1 (by kernel_rfl)))
      refine op_go hoi (want_all rfl) fun K hK => ?_
      clear hT hpre hun hlit hoi
      go_simp
      exact hK _ _ ⟨(), fun _ _ => rfl, rfl, gc0, gc1, gc2, gc3, gc4, gc5, oc0, oc1, oc2, oc3, hown, HB⟩
    · have hlit : (regOps Try.f38 6)[3]? = some ({ dst := some 18, op := Op.move (Operand.tmp 3), type := 41, pos := "geom.go:480", after := #[{ on := 2, ground := Ground.guard }], guard := some (2, true) }) := by kernel_rfl
      obtain rfl := Option.some.inj (hlit.symm.trans hoi)
      exact op_not hoi (want_no rfl (d := 17) (by kernel_rfl) (hT.at 2 (by kernel_rfl) (pre_of hpre 2 (by kernel_rfl)))) ⟨(), fun _ _ => rfl, rfl, gc0, gc1, gc2, gc3, gc4, gc5, oc0, oc1, oc2, oc3, hown, HB⟩
    · have hlit : (regOps Try.f38 6)[4]? = some ({ dst := some 19, op := Op.move (Operand.tmp 5), type := 3, pos := "geom.go:480", after := #[{ on := 2, ground := Ground.guard }], guard := some (2, true) }) := by kernel_rfl
      obtain rfl := Option.some.inj (hlit.symm.trans hoi)
      exact op_not hoi (want_no rfl (d := 17) (by kernel_rfl) (hT.at 2 (by kernel_rfl) (pre_of hpre 2 (by kernel_rfl)))) ⟨(), fun _ _ => rfl, rfl, gc0, gc1, gc2, gc3, gc4, gc5, oc0, oc1, oc2, oc3, hown, HB⟩
    · have hlit : (regOps Try.f38 6)[5]? = some ({ dst := some 20, op := Op.binOp BinOp.sub 3 (Operand.tmp 19) (Operand.const (Value.int IntKind.i64 1)) 3, type := 3, pos := "geom.go:480", after := #[{ on := 4, ground := Ground.data }, { on := 2, ground := Ground.guard }], guard := some (2, true) }) := by kernel_rfl
      obtain rfl := Option.some.inj (hlit.symm.trans hoi)
      exact op_not hoi (want_no rfl (d := 17) (by kernel_rfl) (hT.at 2 (by kernel_rfl) (pre_of hpre 2 (by kernel_rfl)))) ⟨(), fun _ _ => rfl, rfl, gc0, gc1, gc2, gc3, gc4, gc5, oc0, oc1, oc2, oc3, hown, HB⟩
    · have hlit : (regOps Try.f38 6)[6]? = some ({ dst := some 21, op := Op.indexAddr 41 (Operand.tmp 18) (Operand.tmp 20), type := 0, pos := "geom.go:480", after := #[{ on := 3, ground := Ground.data }, { on := 5, ground := Ground.data }, { on := 2, ground := Ground.guard }], guard := some (2, true) }) := by kernel_rfl
      obtain rfl := Option.some.inj (hlit.symm.trans hoi)
      exact op_not hoi (want_no rfl (d := 17) (by kernel_rfl) (hT.at 2 (by kernel_rfl) (pre_of hpre 2 (by kernel_rfl)))) ⟨(), fun _ _ => rfl, rfl, gc0, gc1, gc2, gc3, gc4, gc5, oc0, oc1, oc2, oc3, hown, HB⟩
    · have hlit : (regOps Try.f38 6)[7]? = some ({ dst := some 22, op := Op.load 23 (Operand.tmp 21), type := 23, pos := "geom.go:480", after := #[{ on := 6, ground := Ground.data }, { on := 2, ground := Ground.guard }], guard := some (2, true) }) := by kernel_rfl
      obtain rfl := Option.some.inj (hlit.symm.trans hoi)
      exact op_not hoi (want_no rfl (d := 17) (by kernel_rfl) (hT.at 2 (by kernel_rfl) (pre_of hpre 2 (by kernel_rfl)))) ⟨(), fun _ _ => rfl, rfl, gc0, gc1, gc2, gc3, gc4, gc5, oc0, oc1, oc2, oc3, hown, HB⟩
    · have hlit : (regOps Try.f38 6)[8]? = some ({ dst := some 23, op := Op.move (Operand.tmp 0), type := 41, pos := "geom.go:480", after := #[{ on := 2, ground := Ground.guard }], guard := some (2, true) }) := by kernel_rfl
      obtain rfl := Option.some.inj (hlit.symm.trans hoi)
      exact op_not hoi (want_no rfl (d := 17) (by kernel_rfl) (hT.at 2 (by kernel_rfl) (pre_of hpre 2 (by kernel_rfl)))) ⟨(), fun _ _ => rfl, rfl, gc0, gc1, gc2, gc3, gc4, gc5, oc0, oc1, oc2, oc3, hown, HB⟩
    · have hlit : (regOps Try.f38 6)[9]? = some ({ dst := some 24, op := Op.move (Operand.tmp 4), type := 3, pos := "geom.go:480", after := #[{ on := 2, ground := Ground.guard }], guard := some (2, true) }) := by kernel_rfl
      obtain rfl := Option.some.inj (hlit.symm.trans hoi)
      exact op_not hoi (want_no rfl (d := 17) (by kernel_rfl) (hT.at 2 (by kernel_rfl) (pre_of hpre 2 (by kernel_rfl)))) ⟨(), fun _ _ => rfl, rfl, gc0, gc1, gc2, gc3, gc4, gc5, oc0, oc1, oc2, oc3, hown, HB⟩
    · have hlit : (regOps Try.f38 6)[10]? = some ({ dst := some 25, op := Op.indexAddr 41 (Operand.tmp 23) (Operand.tmp 24), type := 0, pos := "geom.go:480", after := #[{ on := 8, ground := Ground.data }, { on := 9, ground := Ground.data }, { on := 2, ground := Ground.guard }], guard := some (2, true) }) := by kernel_rfl
      obtain rfl := Option.some.inj (hlit.symm.trans hoi)
      exact op_not hoi (want_no rfl (d := 17) (by kernel_rfl) (hT.at 2 (by kernel_rfl) (pre_of hpre 2 (by kernel_rfl)))) ⟨(), fun _ _ => rfl, rfl, gc0, gc1, gc2, gc3, gc4, gc5, oc0, oc1, oc2, oc3, hown, HB⟩
    · have hlit : (regOps Try.f38 6)[11]? = some ({ dst := some 26, op := Op.load 23 (Operand.tmp 25), type := 23, pos := "geom.go:480", after := #[{ on := 10, ground := Ground.data }, { on := 2, ground := Ground.guard }], guard := some (2, true) }) := by kernel_rfl
      obtain rfl := Option.some.inj (hlit.symm.trans hoi)
      exact op_not hoi (want_no rfl (d := 17) (by kernel_rfl) (hT.at 2 (by kernel_rfl) (pre_of hpre 2 (by kernel_rfl)))) ⟨(), fun _ _ => rfl, rfl, gc0, gc1, gc2, gc3, gc4, gc5, oc0, oc1, oc2, oc3, hown, HB⟩
    · have hlit : (regOps Try.f38 6)[12]? = some ({ dst := some 27, op := Op.call { callee := Callee.value (Operand.func 51), args := #[Operand.tmp 22, Operand.tmp 26], argTypes := #[23, 23] }, type := 3, pos := "geom.go:480", after := #[{ on := 7, ground := Ground.data }, { on := 11, ground := Ground.data }, { on := 2, ground := Ground.chain }, { on := 2, ground := Ground.guard }], guard := some (2, true) }) := by kernel_rfl
      obtain rfl := Option.some.inj (hlit.symm.trans hoi)
      exact op_not hoi (want_no rfl (d := 17) (by kernel_rfl) (hT.at 2 (by kernel_rfl) (pre_of hpre 2 (by kernel_rfl)))) ⟨(), fun _ _ => rfl, rfl, gc0, gc1, gc2, gc3, gc4, gc5, oc0, oc1, oc2, oc3, hown, HB⟩
    · have hlit : (regOps Try.f38 6)[13]? = some ({ dst := some 28, op := Op.binOp BinOp.gtr 3 (Operand.tmp 27) (Operand.const (Value.int IntKind.i64 0)) 3, type := 4, pos := "geom.go:480", after := #[{ on := 12, ground := Ground.data }, { on := 2, ground := Ground.guard }], guard := some (2, true) }) := by kernel_rfl
      obtain rfl := Option.some.inj (hlit.symm.trans hoi)
      exact op_not hoi (want_no rfl (d := 17) (by kernel_rfl) (hT.at 2 (by kernel_rfl) (pre_of hpre 2 (by kernel_rfl)))) ⟨(), fun _ _ => rfl, rfl, gc0, gc1, gc2, gc3, gc4, gc5, oc0, oc1, oc2, oc3, hown, HB⟩
    · have hlit : (regOps Try.f38 6)[14]? = some ({ dst := some 29, op := Op.pick (Operand.tmp 17) (Operand.tmp 28) (Operand.const (Value.bool false)), type := 4, pos := "geom.go:480", after := #[{ on := 2, ground := Ground.data }, { on := 13, ground := Ground.data }], guard := none }) := by kernel_rfl
      obtain rfl := Option.some.inj (hlit.symm.trans hoi)
      have r17 : b.tmps.getD 17 undef = (.bool false) := rd (hT.at 2 (by kernel_rfl) (pre_of hpre 2 (by kernel_rfl)))
      have r28 : b.tmps.getD 28 undef = (undef) := rd (hT.at 13 (by kernel_rfl) (pre_of hpre 13 (by kernel_rfl)))
      refine op_go hoi (want_all rfl) fun K hK => ?_
      clear hT hpre hun hlit hoi
      go_simp
      exact hK _ _ ⟨(), fun _ _ => rfl, rfl, gc0, gc1, gc2, gc3, gc4, gc5, oc0, oc1, oc2, oc3, hown, HB⟩
  · intro g b w' hT hS
    rw [hT.all ht]
    have hn : (regOps Try.f38 6).size = 15 := by kernel_rfl
    rw [hn]
    exact he w' hS

/-- What each operation of the region leaves. -/
def region38_8_20V : Nat → Value
  | 0 => .int .i64 0
  | 1 => .bool false
  | 2 => .bool false
  | 3 => undef
  | 4 => undef
  | 5 => undef
  | 6 => undef
  | 7 => undef
  | 8 => undef
  | 9 => undef
  | 10 => undef
  | 11 => undef
  | 12 => undef
  | 13 => .bool false
  | _ => undef

set_option maxHeartbeats 4000000 in
set_option maxRecDepth 100000 in
theorem region38_8_20 (a0 a1 b0 b1 c0 c1 e0 e1 f0 f1 : Int) (kg ko cap : Nat) (W : World)  {id : Nat} {ops : Array Oper} {Q : Exit → Act → World → Prop} {a : Act} {w : World}
    (ho : ops = (regOps Try.f38 8)) (hsz : a.tmps.size = 77) (t5 : a.tmps[5]? = some (.int .i64 0))
    (h0 : w.drew.cell? ⟨kg, 0, none⟩ = some (.int .i64 a0) ∧ w.drew.cell? ⟨kg, 1, none⟩ = some (.int .i64 a1) ∧ w.drew.cell? ⟨kg, 2, none⟩ = some (.int .i64 b0) ∧ w.drew.cell? ⟨kg, 3, none⟩ = some (.int .i64 b1) ∧ w.drew.cell? ⟨kg, 4, none⟩ = some (.int .i64 c0) ∧ w.drew.cell? ⟨kg, 5, none⟩ = some (.int .i64 c1) ∧ w.drew.cell? ⟨ko, 0, none⟩ = some (.int .i64 e0) ∧ w.drew.cell? ⟨ko, 1, none⟩ = some (.int .i64 e1) ∧ w.drew.cell? ⟨ko, 2, none⟩ = some (.int .i64 f0) ∧ w.drew.cell? ⟨ko, 3, none⟩ = some (.int .i64 f1) ∧ w.drew.ownsRow W.heap.size 23 2 (.slice (some ⟨ko, 0, none⟩) 2 cap) 2 [.int .i64 e0, .int .i64 e1, .int .i64 f0, .int .i64 f1] ∧ Below W.heap.size W w.drew)
    (he : ∀ w', w'.cell? ⟨kg, 0, none⟩ = some (.int .i64 a0) ∧ w'.cell? ⟨kg, 1, none⟩ = some (.int .i64 a1) ∧ w'.cell? ⟨kg, 2, none⟩ = some (.int .i64 b0) ∧ w'.cell? ⟨kg, 3, none⟩ = some (.int .i64 b1) ∧ w'.cell? ⟨kg, 4, none⟩ = some (.int .i64 c0) ∧ w'.cell? ⟨kg, 5, none⟩ = some (.int .i64 c1) ∧ w'.cell? ⟨ko, 0, none⟩ = some (.int .i64 e0) ∧ w'.cell? ⟨ko, 1, none⟩ = some (.int .i64 e1) ∧ w'.cell? ⟨ko, 2, none⟩ = some (.int .i64 f0) ∧ w'.cell? ⟨ko, 3, none⟩ = some (.int .i64 f1) ∧ w'.ownsRow W.heap.size 23 2 (.slice (some ⟨ko, 0, none⟩) 2 cap) 2 [.int .i64 e0, .int .i64 e1, .int .i64 f0, .int .i64 f1] ∧ Below W.heap.size W w' → Q .normal ⟨((((((((((((((a.tmps.setIfInBounds 32 (.int .i64 0)).setIfInBounds 33 (.bool false)).setIfInBounds 34 (.bool false)).setIfInBounds 35 (undef)).setIfInBounds 36 (undef)).setIfInBounds 37 (undef)).setIfInBounds 38 (undef)).setIfInBounds 39 (undef)).setIfInBounds 40 (undef)).setIfInBounds 41 (undef)).setIfInBounds 42 (undef)).setIfInBounds 43 (undef)).setIfInBounds 44 (undef)).setIfInBounds 45 (.bool false)), a.defers⟩ w') :
    (Code.region id ops true).wp Try.prog Q a w := by
  have ht : tidy (regOps Try.f38 8) a.tmps.size = true := by rw [hsz]; kernel_rfl
  refine region_tab (G := Unit) (fun _ => region38_8_20V) (fun _ _ w' => w'.cell? ⟨kg, 0, none⟩ = some (.int .i64 a0) ∧ w'.cell? ⟨kg, 1, none⟩ = some (.int .i64 a1) ∧ w'.cell? ⟨kg, 2, none⟩ = some (.int .i64 b0) ∧ w'.cell? ⟨kg, 3, none⟩ = some (.int .i64 b1) ∧ w'.cell? ⟨kg, 4, none⟩ = some (.int .i64 c0) ∧ w'.cell? ⟨kg, 5, none⟩ = some (.int .i64 c1) ∧ w'.cell? ⟨ko, 0, none⟩ = some (.int .i64 e0) ∧ w'.cell? ⟨ko, 1, none⟩ = some (.int .i64 e1) ∧ w'.cell? ⟨ko, 2, none⟩ = some (.int .i64 f0) ∧ w'.cell? ⟨ko, 3, none⟩ = some (.int .i64 f1) ∧ w'.ownsRow W.heap.size 23 2 (.slice (some ⟨ko, 0, none⟩) 2 cap) 2 [.int .i64 e0, .int .i64 e1, .int .i64 f0, .int .i64 f1] ∧ Below W.heap.size W w') () (by kernel_rfl) ho ht h0 ?_ ?_
  · intro i o hoi g L b w' hun hpre hT hS
    clear he h0 ho hsz ht
    have hi : i < (regOps Try.f38 8).size := (Array.getElem?_eq_some_iff.1 hoi).1
    rw [show (regOps Try.f38 8).size = 14 by kernel_rfl] at hi
    obtain ⟨gc0, gc1, gc2, gc3, gc4, gc5, oc0, oc1, oc2, oc3, hown, HB⟩ := hS
    have hcases : i = 0 ∨ i = 1 ∨ i = 2 ∨ i = 3 ∨ i = 4 ∨ i = 5 ∨ i = 6 ∨ i = 7 ∨ i = 8 ∨ i = 9 ∨ i = 10 ∨ i = 11 ∨ i = 12 ∨ i = 13 := by omega
    rcases hcases with rfl | rfl | rfl | rfl | rfl | rfl | rfl | rfl | rfl | rfl | rfl | rfl | rfl | rfl
    · have hlit : (regOps Try.f38 8)[0]? = some ({ dst := some 32, op := Op.move (Operand.tmp 5), type := 3, pos := "geom.go:483", after := #[], guard := none }) := by kernel_rfl
      obtain rfl := Option.some.inj (hlit.symm.trans hoi)
      have r5 : b.tmps.getD 5 undef = (.int .i64 0) := rd ((hT.old 5 (by kernel_rfl)).trans t5)
      refine op_go hoi (want_all rfl) fun K hK => ?_
      clear hT hpre hun hlit hoi
      go_simp
      exact hK _ _ ⟨(), fun _ _ => rfl, rfl, gc0, gc1, gc2, gc3, gc4, gc5, oc0, oc1, oc2, oc3, hown, HB⟩
    · have hlit : (regOps Try.f38 8)[1]? = some ({ dst := some 33, op := Op.binOp BinOp.gtr 3 (Operand.tmp 32) (Operand.const (Value.int IntKind.i64 0)) 3, type := 4, pos := "geom.go:483", after := #[{ on := 0, ground := Ground.data }], guard := none }) := by kernel_rfl
      obtain rfl := Option.some.inj (hlit.symm.trans hoi)
      have r32 : b.tmps.getD 32 undef = (.int .i64 0) := rd (hT.at 0 (by kernel_rfl) (pre_of hpre 0 (by kernel_rfl)))
      refine op_go hoi (want_all rfl) fun K hK => ?_
      clear hT hpre hun hlit hoi
      go_simp
      exact hK _ _ ⟨(), fun _ _ => rfl, rfl, gc0, gc1, gc2, gc3, gc4, gc5, oc0, oc1, oc2, oc3, hown, HB⟩
    · have hlit : (regOps Try.f38 8)[2]? = some ({ dst := some 34, op := Op.move (Operand.tmp 33), type := 4, pos := "geom.go:483", after := #[{ on := 1, ground := Ground.data }], guard := none }) := by kernel_rfl
      obtain rfl := Option.some.inj (hlit.symm.trans hoi)
      have r33 : b.tmps.getD 33 undef = (.bool false) := rd (hT.at 1 (by kernel_rfl) (pre_of hpre 1 (by kernel_rfl)))
      refine op_go hoi (want_all rfl) fun K hK => ?_
      clear hT hpre hun hlit hoi
      go_simp
      exact hK _ _ ⟨(), fun _ _ => rfl, rfl, gc0, gc1, gc2, gc3, gc4, gc5, oc0, oc1, oc2, oc3, hown, HB⟩
    · have hlit : (regOps Try.f38 8)[3]? = some ({ dst := some 35, op := Op.move (Operand.tmp 3), type := 41, pos := "geom.go:483", after := #[{ on := 2, ground := Ground.guard }], guard := some (2, true) }) := by kernel_rfl
      obtain rfl := Option.some.inj (hlit.symm.trans hoi)
      exact op_not hoi (want_no rfl (d := 34) (by kernel_rfl) (hT.at 2 (by kernel_rfl) (pre_of hpre 2 (by kernel_rfl)))) ⟨(), fun _ _ => rfl, rfl, gc0, gc1, gc2, gc3, gc4, gc5, oc0, oc1, oc2, oc3, hown, HB⟩
    · have hlit : (regOps Try.f38 8)[4]? = some ({ dst := some 36, op := Op.move (Operand.tmp 5), type := 3, pos := "geom.go:483", after := #[{ on := 2, ground := Ground.guard }], guard := some (2, true) }) := by kernel_rfl
      obtain rfl := Option.some.inj (hlit.symm.trans hoi)
      exact op_not hoi (want_no rfl (d := 34) (by kernel_rfl) (hT.at 2 (by kernel_rfl) (pre_of hpre 2 (by kernel_rfl)))) ⟨(), fun _ _ => rfl, rfl, gc0, gc1, gc2, gc3, gc4, gc5, oc0, oc1, oc2, oc3, hown, HB⟩
    · have hlit : (regOps Try.f38 8)[5]? = some ({ dst := some 37, op := Op.binOp BinOp.sub 3 (Operand.tmp 36) (Operand.const (Value.int IntKind.i64 1)) 3, type := 3, pos := "geom.go:483", after := #[{ on := 4, ground := Ground.data }, { on := 2, ground := Ground.guard }], guard := some (2, true) }) := by kernel_rfl
      obtain rfl := Option.some.inj (hlit.symm.trans hoi)
      exact op_not hoi (want_no rfl (d := 34) (by kernel_rfl) (hT.at 2 (by kernel_rfl) (pre_of hpre 2 (by kernel_rfl)))) ⟨(), fun _ _ => rfl, rfl, gc0, gc1, gc2, gc3, gc4, gc5, oc0, oc1, oc2, oc3, hown, HB⟩
    · have hlit : (regOps Try.f38 8)[6]? = some ({ dst := some 38, op := Op.indexAddr 41 (Operand.tmp 35) (Operand.tmp 37), type := 0, pos := "geom.go:483", after := #[{ on := 3, ground := Ground.data }, { on := 5, ground := Ground.data }, { on := 2, ground := Ground.guard }], guard := some (2, true) }) := by kernel_rfl
      obtain rfl := Option.some.inj (hlit.symm.trans hoi)
      exact op_not hoi (want_no rfl (d := 34) (by kernel_rfl) (hT.at 2 (by kernel_rfl) (pre_of hpre 2 (by kernel_rfl)))) ⟨(), fun _ _ => rfl, rfl, gc0, gc1, gc2, gc3, gc4, gc5, oc0, oc1, oc2, oc3, hown, HB⟩
    · have hlit : (regOps Try.f38 8)[7]? = some ({ dst := some 39, op := Op.load 23 (Operand.tmp 38), type := 23, pos := "geom.go:483", after := #[{ on := 6, ground := Ground.data }, { on := 2, ground := Ground.guard }], guard := some (2, true) }) := by kernel_rfl
      obtain rfl := Option.some.inj (hlit.symm.trans hoi)
      exact op_not hoi (want_no rfl (d := 34) (by kernel_rfl) (hT.at 2 (by kernel_rfl) (pre_of hpre 2 (by kernel_rfl)))) ⟨(), fun _ _ => rfl, rfl, gc0, gc1, gc2, gc3, gc4, gc5, oc0, oc1, oc2, oc3, hown, HB⟩
    · have hlit : (regOps Try.f38 8)[8]? = some ({ dst := some 40, op := Op.move (Operand.tmp 0), type := 41, pos := "geom.go:483", after := #[{ on := 2, ground := Ground.guard }], guard := some (2, true) }) := by kernel_rfl
      obtain rfl := Option.some.inj (hlit.symm.trans hoi)
      exact op_not hoi (want_no rfl (d := 34) (by kernel_rfl) (hT.at 2 (by kernel_rfl) (pre_of hpre 2 (by kernel_rfl)))) ⟨(), fun _ _ => rfl, rfl, gc0, gc1, gc2, gc3, gc4, gc5, oc0, oc1, oc2, oc3, hown, HB⟩
    · have hlit : (regOps Try.f38 8)[9]? = some ({ dst := some 41, op := Op.move (Operand.tmp 4), type := 3, pos := "geom.go:483", after := #[{ on := 2, ground := Ground.guard }], guard := some (2, true) }) := by kernel_rfl
      obtain rfl := Option.some.inj (hlit.symm.trans hoi)
      exact op_not hoi (want_no rfl (d := 34) (by kernel_rfl) (hT.at 2 (by kernel_rfl) (pre_of hpre 2 (by kernel_rfl)))) ⟨(), fun _ _ => rfl, rfl, gc0, gc1, gc2, gc3, gc4, gc5, oc0, oc1, oc2, oc3, hown, HB⟩
    · have hlit : (regOps Try.f38 8)[10]? = some ({ dst := some 42, op := Op.indexAddr 41 (Operand.tmp 40) (Operand.tmp 41), type := 0, pos := "geom.go:483", after := #[{ on := 8, ground := Ground.data }, { on := 9, ground := Ground.data }, { on := 2, ground := Ground.guard }], guard := some (2, true) }) := by kernel_rfl
      obtain rfl := Option.some.inj (hlit.symm.trans hoi)
      exact op_not hoi (want_no rfl (d := 34) (by kernel_rfl) (hT.at 2 (by kernel_rfl) (pre_of hpre 2 (by kernel_rfl)))) ⟨(), fun _ _ => rfl, rfl, gc0, gc1, gc2, gc3, gc4, gc5, oc0, oc1, oc2, oc3, hown, HB⟩
    · have hlit : (regOps Try.f38 8)[11]? = some ({ dst := some 43, op := Op.load 23 (Operand.tmp 42), type := 23, pos := "geom.go:483", after := #[{ on := 10, ground := Ground.data }, { on := 2, ground := Ground.guard }], guard := some (2, true) }) := by kernel_rfl
      obtain rfl := Option.some.inj (hlit.symm.trans hoi)
      exact op_not hoi (want_no rfl (d := 34) (by kernel_rfl) (hT.at 2 (by kernel_rfl) (pre_of hpre 2 (by kernel_rfl)))) ⟨(), fun _ _ => rfl, rfl, gc0, gc1, gc2, gc3, gc4, gc5, oc0, oc1, oc2, oc3, hown, HB⟩
    · have hlit : (regOps Try.f38 8)[12]? = some ({ dst := some 44, op := Op.binOp BinOp.eql 23 (Operand.tmp 39) (Operand.tmp 43) 23, type := 4, pos := "geom.go:483", after := #[{ on := 7, ground := Ground.data }, { on := 11, ground := Ground.data }, { on := 2, ground := Ground.guard }], guard := some (2, true) }) := by kernel_rfl
      obtain rfl := Option.some.inj (hlit.symm.trans hoi)
      exact op_not hoi (want_no rfl (d := 34) (by kernel_rfl) (hT.at 2 (by kernel_rfl) (pre_of hpre 2 (by kernel_rfl)))) ⟨(), fun _ _ => rfl, rfl, gc0, gc1, gc2, gc3, gc4, gc5, oc0, oc1, oc2, oc3, hown, HB⟩
    · have hlit : (regOps Try.f38 8)[13]? = some ({ dst := some 45, op := Op.pick (Operand.tmp 34) (Operand.tmp 44) (Operand.const (Value.bool false)), type := 4, pos := "geom.go:483", after := #[{ on := 2, ground := Ground.data }, { on := 12, ground := Ground.data }], guard := none }) := by kernel_rfl
      obtain rfl := Option.some.inj (hlit.symm.trans hoi)
      have r34 : b.tmps.getD 34 undef = (.bool false) := rd (hT.at 2 (by kernel_rfl) (pre_of hpre 2 (by kernel_rfl)))
      have r44 : b.tmps.getD 44 undef = (undef) := rd (hT.at 12 (by kernel_rfl) (pre_of hpre 12 (by kernel_rfl)))
      refine op_go hoi (want_all rfl) fun K hK => ?_
      clear hT hpre hun hlit hoi
      go_simp
      exact hK _ _ ⟨(), fun _ _ => rfl, rfl, gc0, gc1, gc2, gc3, gc4, gc5, oc0, oc1, oc2, oc3, hown, HB⟩
  · intro g b w' hT hS
    rw [hT.all ht]
    have hn : (regOps Try.f38 8).size = 14 := by kernel_rfl
    rw [hn]
    exact he w' hS

/-- What each operation of the region leaves. -/
def region38_11V (b0 b1 e0 e1 o : Int) (kg ko cap c : Nat) (ob : Bool) : Nat → Value
  | 0 => .int .i64 1
  | 1 => .bool true
  | 2 => .bool true
  | 3 => .slice (some ⟨ko, 0, none⟩) 1 cap
  | 4 => .int .i64 1
  | 5 => .int .i64 0
  | 6 => .pointer (some ⟨ko, 0, none⟩)
  | 7 => .agg #[.int .i64 e0, .int .i64 e1]
  | 8 => .slice (some ⟨kg, 0, none⟩) 3 c
  | 9 => .int .i64 1
  | 10 => .pointer (some ⟨kg, 2, none⟩)
  | 11 => .agg #[.int .i64 b0, .int .i64 b1]
  | 12 => .int .i64 o
  | 13 => .bool ob
  | 14 => .bool ob
  | _ => undef

set_option maxHeartbeats 4000000 in
set_option maxRecDepth 100000 in
theorem region38_11 (a0 a1 b0 b1 c0 c1 e0 e1 o : Int) (kg ko cap c : Nat) (ob : Bool) (W : World) (m1 : cmpP ⟨e0, e1⟩ ⟨b0, b1⟩ = o) (m2 : decide (0 < o) = ob) {id : Nat} {ops : Array Oper} {Q : Exit → Act → World → Prop} {a : Act} {w : World}
    (ho : ops = (regOps Try.f38 6)) (hsz : a.tmps.size = 77) (t5 : a.tmps[5]? = some (.int .i64 1)) (t3 : a.tmps[3]? = some (.slice (some ⟨ko, 0, none⟩) 1 cap)) (t0 : a.tmps[0]? = some (.slice (some ⟨kg, 0, none⟩) 3 c)) (t4 : a.tmps[4]? = some (.int .i64 1))
    (h0 : w.drew.cell? ⟨kg, 0, none⟩ = some (.int .i64 a0) ∧ w.drew.cell? ⟨kg, 1, none⟩ = some (.int .i64 a1) ∧ w.drew.cell? ⟨kg, 2, none⟩ = some (.int .i64 b0) ∧ w.drew.cell? ⟨kg, 3, none⟩ = some (.int .i64 b1) ∧ w.drew.cell? ⟨kg, 4, none⟩ = some (.int .i64 c0) ∧ w.drew.cell? ⟨kg, 5, none⟩ = some (.int .i64 c1) ∧ w.drew.cell? ⟨ko, 0, none⟩ = some (.int .i64 e0) ∧ w.drew.cell? ⟨ko, 1, none⟩ = some (.int .i64 e1) ∧ w.drew.ownsRow W.heap.size 23 2 (.slice (some ⟨ko, 0, none⟩) 1 cap) 1 [.int .i64 e0, .int .i64 e1] ∧ Below W.heap.size W w.drew)
    (he : ∀ w', w'.cell? ⟨kg, 0, none⟩ = some (.int .i64 a0) ∧ w'.cell? ⟨kg, 1, none⟩ = some (.int .i64 a1) ∧ w'.cell? ⟨kg, 2, none⟩ = some (.int .i64 b0) ∧ w'.cell? ⟨kg, 3, none⟩ = some (.int .i64 b1) ∧ w'.cell? ⟨kg, 4, none⟩ = some (.int .i64 c0) ∧ w'.cell? ⟨kg, 5, none⟩ = some (.int .i64 c1) ∧ w'.cell? ⟨ko, 0, none⟩ = some (.int .i64 e0) ∧ w'.cell? ⟨ko, 1, none⟩ = some (.int .i64 e1) ∧ w'.ownsRow W.heap.size 23 2 (.slice (some ⟨ko, 0, none⟩) 1 cap) 1 [.int .i64 e0, .int .i64 e1] ∧ Below W.heap.size W w' → Q .normal ⟨(((((((((((((((a.tmps.setIfInBounds 15 (.int .i64 1)).setIfInBounds 16 (.bool true)).setIfInBounds 17 (.bool true)).setIfInBounds 18 (.slice (some ⟨ko, 0, none⟩) 1 cap)).setIfInBounds 19 (.int .i64 1)).setIfInBounds 20 (.int .i64 0)).setIfInBounds 21 (.pointer (some ⟨ko, 0, none⟩))).setIfInBounds 22 (.agg #[.int .i64 e0, .int .i64 e1])).setIfInBounds 23 (.slice (some ⟨kg, 0, none⟩) 3 c)).setIfInBounds 24 (.int .i64 1)).setIfInBounds 25 (.pointer (some ⟨kg, 2, none⟩))).setIfInBounds 26 (.agg #[.int .i64 b0, .int .i64 b1])).setIfInBounds 27 (.int .i64 o)).setIfInBounds 28 (.bool ob)).setIfInBounds 29 (.bool ob)), a.defers⟩ w') :
    (Code.region id ops true).wp Try.prog Q a w := by
  have ht : tidy (regOps Try.f38 6) a.tmps.size = true := by rw [hsz]; kernel_rfl
  refine region_tab (G := Unit) (fun _ => (region38_11V b0 b1 e0 e1 o kg ko cap c ob)) (fun _ _ w' => w'.cell? ⟨kg, 0, none⟩ = some (.int .i64 a0) ∧ w'.cell? ⟨kg, 1, none⟩ = some (.int .i64 a1) ∧ w'.cell? ⟨kg, 2, none⟩ = some (.int .i64 b0) ∧ w'.cell? ⟨kg, 3, none⟩ = some (.int .i64 b1) ∧ w'.cell? ⟨kg, 4, none⟩ = some (.int .i64 c0) ∧ w'.cell? ⟨kg, 5, none⟩ = some (.int .i64 c1) ∧ w'.cell? ⟨ko, 0, none⟩ = some (.int .i64 e0) ∧ w'.cell? ⟨ko, 1, none⟩ = some (.int .i64 e1) ∧ w'.ownsRow W.heap.size 23 2 (.slice (some ⟨ko, 0, none⟩) 1 cap) 1 [.int .i64 e0, .int .i64 e1] ∧ Below W.heap.size W w') () (by kernel_rfl) ho ht h0 ?_ ?_
  · intro i o hoi g L b w' hun hpre hT hS
    clear he h0 ho hsz ht
    have hi : i < (regOps Try.f38 6).size := (Array.getElem?_eq_some_iff.1 hoi).1
    rw [show (regOps Try.f38 6).size = 15 by kernel_rfl] at hi
    obtain ⟨gc0, gc1, gc2, gc3, gc4, gc5, oc0, oc1, hown, HB⟩ := hS
    have hcases : i = 0 ∨ i = 1 ∨ i = 2 ∨ i = 3 ∨ i = 4 ∨ i = 5 ∨ i = 6 ∨ i = 7 ∨ i = 8 ∨ i = 9 ∨ i = 10 ∨ i = 11 ∨ i = 12 ∨ i = 13 ∨ i = 14 := by omega
    rcases hcases with rfl | rfl | rfl | rfl | rfl | rfl | rfl | rfl | rfl | rfl | rfl | rfl | rfl | rfl | rfl
    · have hlit : (regOps Try.f38 6)[0]? = some ({ dst := some 15, op := Op.move (Operand.tmp 5), type := 3, pos := "geom.go:480", after := #[], guard := none }) := by kernel_rfl
      obtain rfl := Option.some.inj (hlit.symm.trans hoi)
      have r5 : b.tmps.getD 5 undef = (.int .i64 1) := rd ((hT.old 5 (by kernel_rfl)).trans t5)
      refine op_go hoi (want_all rfl) fun K hK => ?_
      clear hT hpre hun hlit hoi
      go_simp
      exact hK _ _ ⟨(), fun _ _ => rfl, rfl, gc0, gc1, gc2, gc3, gc4, gc5, oc0, oc1, hown, HB⟩
    · have hlit : (regOps Try.f38 6)[1]? = some ({ dst := some 16, op := Op.binOp BinOp.gtr 3 (Operand.tmp 15) (Operand.const (Value.int IntKind.i64 0)) 3, type := 4, pos := "geom.go:480", after := #[{ on := 0, ground := Ground.data }], guard := none }) := by kernel_rfl
      obtain rfl := Option.some.inj (hlit.symm.trans hoi)
      have r15 : b.tmps.getD 15 undef = (.int .i64 1) := rd (hT.at 0 (by kernel_rfl) (pre_of hpre 0 (by kernel_rfl)))
      refine op_go hoi (want_all rfl) fun K hK => ?_
      clear hT hpre hun hlit hoi
      go_simp
      exact hK _ _ ⟨(), fun _ _ => rfl, rfl, gc0, gc1, gc2, gc3, gc4, gc5, oc0, oc1, hown, HB⟩
    · have hlit : (regOps Try.f38 6)[2]? = some ({ dst := some 17, op := Op.move (Operand.tmp 16), type := 4, pos := "geom.go:480", after := #[{ on := 1, ground := Ground.data }], guard := none }) := by kernel_rfl
      obtain rfl := Option.some.inj (hlit.symm.trans hoi)
      have r16 : b.tmps.getD 16 undef = (.bool true) := rd (hT.at 1 (by kernel_rfl) (pre_of hpre 1 (by kernel_rfl)))
      refine op_go hoi (want_all rfl) fun K hK => ?_
      clear hT hpre hun hlit hoi
      go_simp
      exact hK _ _ ⟨(), fun _ _ => rfl, rfl, gc0, gc1, gc2, gc3, gc4, gc5, oc0, oc1, hown, HB⟩
    · have hlit : (regOps Try.f38 6)[3]? = some ({ dst := some 18, op := Op.move (Operand.tmp 3), type := 41, pos := "geom.go:480", after := #[{ on := 2, ground := Ground.guard }], guard := some (2, true) }) := by kernel_rfl
      obtain rfl := Option.some.inj (hlit.symm.trans hoi)
      have r3 : b.tmps.getD 3 undef = (.slice (some ⟨ko, 0, none⟩) 1 cap) := rd ((hT.old 3 (by kernel_rfl)).trans t3)
      refine op_go hoi (want_yes rfl (d := 17) (by kernel_rfl) (hT.at 2 (by kernel_rfl) (pre_of hpre 2 (by kernel_rfl)))) fun K hK => ?_
      clear hT hpre hun hlit hoi
      go_simp
      exact hK _ _ ⟨(), fun _ _ => rfl, rfl, gc0, gc1, gc2, gc3, gc4, gc5, oc0, oc1, hown, HB⟩
    · have hlit : (regOps Try.f38 6)[4]? = some ({ dst := some 19, op := Op.move (Operand.tmp 5), type := 3, pos := "geom.go:480", after := #[{ on := 2, ground := Ground.guard }], guard := some (2, true) }) := by kernel_rfl
      obtain rfl := Option.some.inj (hlit.symm.trans hoi)
      have r5 : b.tmps.getD 5 undef = (.int .i64 1) := rd ((hT.old 5 (by kernel_rfl)).trans t5)
      refine op_go hoi (want_yes rfl (d := 17) (by kernel_rfl) (hT.at 2 (by kernel_rfl) (pre_of hpre 2 (by kernel_rfl)))) fun K hK => ?_
      clear hT hpre hun hlit hoi
      go_simp
      exact hK _ _ ⟨(), fun _ _ => rfl, rfl, gc0, gc1, gc2, gc3, gc4, gc5, oc0, oc1, hown, HB⟩
    · have hlit : (regOps Try.f38 6)[5]? = some ({ dst := some 20, op := Op.binOp BinOp.sub 3 (Operand.tmp 19) (Operand.const (Value.int IntKind.i64 1)) 3, type := 3, pos := "geom.go:480", after := #[{ on := 4, ground := Ground.data }, { on := 2, ground := Ground.guard }], guard := some (2, true) }) := by kernel_rfl
      obtain rfl := Option.some.inj (hlit.symm.trans hoi)
      have r19 : b.tmps.getD 19 undef = (.int .i64 1) := rd (hT.at 4 (by kernel_rfl) (pre_of hpre 4 (by kernel_rfl)))
      refine op_go hoi (want_yes rfl (d := 17) (by kernel_rfl) (hT.at 2 (by kernel_rfl) (pre_of hpre 2 (by kernel_rfl)))) fun K hK => ?_
      clear hT hpre hun hlit hoi
      go_simp
      exact hK _ _ ⟨(), fun _ _ => rfl, rfl, gc0, gc1, gc2, gc3, gc4, gc5, oc0, oc1, hown, HB⟩
    · have hlit : (regOps Try.f38 6)[6]? = some ({ dst := some 21, op := Op.indexAddr 41 (Operand.tmp 18) (Operand.tmp 20), type := 0, pos := "geom.go:480", after := #[{ on := 3, ground := Ground.data }, { on := 5, ground := Ground.data }, { on := 2, ground := Ground.guard }], guard := some (2, true) }) := by kernel_rfl
      obtain rfl := Option.some.inj (hlit.symm.trans hoi)
      have r18 : b.tmps.getD 18 undef = (.slice (some ⟨ko, 0, none⟩) 1 cap) := rd (hT.at 3 (by kernel_rfl) (pre_of hpre 3 (by kernel_rfl)))
      have r20 : b.tmps.getD 20 undef = (.int .i64 0) := rd (hT.at 5 (by kernel_rfl) (pre_of hpre 5 (by kernel_rfl)))
      refine op_go hoi (want_yes rfl (d := 17) (by kernel_rfl) (hT.at 2 (by kernel_rfl) (pre_of hpre 2 (by kernel_rfl)))) fun K hK => ?_
      clear hT hpre hun hlit hoi
      go_simp
      exact hK _ _ ⟨(), fun _ _ => rfl, rfl, gc0, gc1, gc2, gc3, gc4, gc5, oc0, oc1, hown, HB⟩
    · have hlit : (regOps Try.f38 6)[7]? = some ({ dst := some 22, op := Op.load 23 (Operand.tmp 21), type := 23, pos := "geom.go:480", after := #[{ on := 6, ground := Ground.data }, { on := 2, ground := Ground.guard }], guard := some (2, true) }) := by kernel_rfl
      obtain rfl := Option.some.inj (hlit.symm.trans hoi)
      have r21 : b.tmps.getD 21 undef = (.pointer (some ⟨ko, 0, none⟩)) := rd (hT.at 6 (by kernel_rfl) (pre_of hpre 6 (by kernel_rfl)))
      refine op_go hoi (want_yes rfl (d := 17) (by kernel_rfl) (hT.at 2 (by kernel_rfl) (pre_of hpre 2 (by kernel_rfl)))) fun K hK => ?_
      clear hT hpre hun hlit hoi
      go_simp
      exact hK _ _ ⟨(), fun _ _ => rfl, rfl, gc0, gc1, gc2, gc3, gc4, gc5, oc0, oc1, hown, HB⟩
    · have hlit : (regOps Try.f38 6)[8]? = some ({ dst := some 23, op := Op.move (Operand.tmp 0), type := 41, pos := "geom.go:480", after := #[{ on := 2, ground := Ground.guard }], guard := some (2, true) }) := by kernel_rfl
      obtain rfl := Option.some.inj (hlit.symm.trans hoi)
      have r0 : b.tmps.getD 0 undef = (.slice (some ⟨kg, 0, none⟩) 3 c) := rd ((hT.old 0 (by kernel_rfl)).trans t0)
      refine op_go hoi (want_yes rfl (d := 17) (by kernel_rfl) (hT.at 2 (by kernel_rfl) (pre_of hpre 2 (by kernel_rfl)))) fun K hK => ?_
      clear hT hpre hun hlit hoi
      go_simp
      exact hK _ _ ⟨(), fun _ _ => rfl, rfl, gc0, gc1, gc2, gc3, gc4, gc5, oc0, oc1, hown, HB⟩
    · have hlit : (regOps Try.f38 6)[9]? = some ({ dst := some 24, op := Op.move (Operand.tmp 4), type := 3, pos := "geom.go:480", after := #[{ on := 2, ground := Ground.guard }], guard := some (2, true) }) := by kernel_rfl
      obtain rfl := Option.some.inj (hlit.symm.trans hoi)
      have r4 : b.tmps.getD 4 undef = (.int .i64 1) := rd ((hT.old 4 (by kernel_rfl)).trans t4)
      refine op_go hoi (want_yes rfl (d := 17) (by kernel_rfl) (hT.at 2 (by kernel_rfl) (pre_of hpre 2 (by kernel_rfl)))) fun K hK => ?_
      clear hT hpre hun hlit hoi
      go_simp
      exact hK _ _ ⟨(), fun _ _ => rfl, rfl, gc0, gc1, gc2, gc3, gc4, gc5, oc0, oc1, hown, HB⟩
    · have hlit : (regOps Try.f38 6)[10]? = some ({ dst := some 25, op := Op.indexAddr 41 (Operand.tmp 23) (Operand.tmp 24), type := 0, pos := "geom.go:480", after := #[{ on := 8, ground := Ground.data }, { on := 9, ground := Ground.data }, { on := 2, ground := Ground.guard }], guard := some (2, true) }) := by kernel_rfl
      obtain rfl := Option.some.inj (hlit.symm.trans hoi)
      have r23 : b.tmps.getD 23 undef = (.slice (some ⟨kg, 0, none⟩) 3 c) := rd (hT.at 8 (by kernel_rfl) (pre_of hpre 8 (by kernel_rfl)))
      have r24 : b.tmps.getD 24 undef = (.int .i64 1) := rd (hT.at 9 (by kernel_rfl) (pre_of hpre 9 (by kernel_rfl)))
      refine op_go hoi (want_yes rfl (d := 17) (by kernel_rfl) (hT.at 2 (by kernel_rfl) (pre_of hpre 2 (by kernel_rfl)))) fun K hK => ?_
      clear hT hpre hun hlit hoi
      go_simp
      exact hK _ _ ⟨(), fun _ _ => rfl, rfl, gc0, gc1, gc2, gc3, gc4, gc5, oc0, oc1, hown, HB⟩
    · have hlit : (regOps Try.f38 6)[11]? = some ({ dst := some 26, op := Op.load 23 (Operand.tmp 25), type := 23, pos := "geom.go:480", after := #[{ on := 10, ground := Ground.data }, { on := 2, ground := Ground.guard }], guard := some (2, true) }) := by kernel_rfl
      obtain rfl := Option.some.inj (hlit.symm.trans hoi)
      have r25 : b.tmps.getD 25 undef = (.pointer (some ⟨kg, 2, none⟩)) := rd (hT.at 10 (by kernel_rfl) (pre_of hpre 10 (by kernel_rfl)))
      refine op_go hoi (want_yes rfl (d := 17) (by kernel_rfl) (hT.at 2 (by kernel_rfl) (pre_of hpre 2 (by kernel_rfl)))) fun K hK => ?_
      clear hT hpre hun hlit hoi
      go_simp
      exact hK _ _ ⟨(), fun _ _ => rfl, rfl, gc0, gc1, gc2, gc3, gc4, gc5, oc0, oc1, hown, HB⟩
    · have hlit : (regOps Try.f38 6)[12]? = some ({ dst := some 27, op := Op.call { callee := Callee.value (Operand.func 51), args := #[Operand.tmp 22, Operand.tmp 26], argTypes := #[23, 23] }, type := 3, pos := "geom.go:480", after := #[{ on := 7, ground := Ground.data }, { on := 11, ground := Ground.data }, { on := 2, ground := Ground.chain }, { on := 2, ground := Ground.guard }], guard := some (2, true) }) := by kernel_rfl
      obtain rfl := Option.some.inj (hlit.symm.trans hoi)
      have r22 : b.tmps.getD 22 undef = (.agg #[.int .i64 e0, .int .i64 e1]) := rd (hT.at 7 (by kernel_rfl) (pre_of hpre 7 (by kernel_rfl)))
      have r26 : b.tmps.getD 26 undef = (.agg #[.int .i64 b0, .int .i64 b1]) := rd (hT.at 11 (by kernel_rfl) (pre_of hpre 11 (by kernel_rfl)))
      refine op_go hoi (want_yes rfl (d := 17) (by kernel_rfl) (hT.at 2 (by kernel_rfl) (pre_of hpre 2 (by kernel_rfl)))) fun K hK => ?_
      clear hT hpre hun hlit hoi
      go_simp
      go_at_call 51
      refine (cmp51 _ _ _ _ _).mono ?_; rw [m1]; rintro e w2 ⟨rfl, hb⟩; replace gc0 := ck hb (a := ⟨kg, 0, none⟩) (v := .int .i64 a0) (by go_simp); replace gc1 := ck hb (a := ⟨kg, 1, none⟩) (v := .int .i64 a1) (by go_simp); replace gc2 := ck hb (a := ⟨kg, 2, none⟩) (v := .int .i64 b0) (by go_simp); replace gc3 := ck hb (a := ⟨kg, 3, none⟩) (v := .int .i64 b1) (by go_simp); replace gc4 := ck hb (a := ⟨kg, 4, none⟩) (v := .int .i64 c0) (by go_simp); replace gc5 := ck hb (a := ⟨kg, 5, none⟩) (v := .int .i64 c1) (by go_simp); replace oc0 := ck hb (a := ⟨ko, 0, none⟩) (v := .int .i64 e0) (by go_simp); replace oc1 := ck hb (a := ⟨ko, 1, none⟩) (v := .int .i64 e1) (by go_simp); replace hown := own_below hown hb; replace HB : Below W.heap.size W w2 := bt HB hb; clear hb
      exact hK _ _ ⟨(), fun _ _ => rfl, rfl, gc0, gc1, gc2, gc3, gc4, gc5, oc0, oc1, hown, HB⟩
    · have hlit : (regOps Try.f38 6)[13]? = some ({ dst := some 28, op := Op.binOp BinOp.gtr 3 (Operand.tmp 27) (Operand.const (Value.int IntKind.i64 0)) 3, type := 4, pos := "geom.go:480", after := #[{ on := 12, ground := Ground.data }, { on := 2, ground := Ground.guard }], guard := some (2, true) }) := by kernel_rfl
      obtain rfl := Option.some.inj (hlit.symm.trans hoi)
      have r27 : b.tmps.getD 27 undef = (.int .i64 o) := rd (hT.at 12 (by kernel_rfl) (pre_of hpre 12 (by kernel_rfl)))
      refine op_go hoi (want_yes rfl (d := 17) (by kernel_rfl) (hT.at 2 (by kernel_rfl) (pre_of hpre 2 (by kernel_rfl)))) fun K hK => ?_
      clear hT hpre hun hlit hoi
      go_simp
      exact hK _ _ ⟨(), fun _ _ => rfl, rfl, gc0, gc1, gc2, gc3, gc4, gc5, oc0, oc1, hown, HB⟩
    · have hlit : (regOps Try.f38 6)[14]? = some ({ dst := some 29, op := Op.pick (Operand.tmp 17) (Operand.tmp 28) (Operand.const (Value.bool false)), type := 4, pos := "geom.go:480", after := #[{ on := 2, ground := Ground.data }, { on := 13, ground := Ground.data }], guard := none }) := by kernel_rfl
      obtain rfl := Option.some.inj (hlit.symm.trans hoi)
      have r17 : b.tmps.getD 17 undef = (.bool true) := rd (hT.at 2 (by kernel_rfl) (pre_of hpre 2 (by kernel_rfl)))
      have r28 : b.tmps.getD 28 undef = (.bool ob) := rd (hT.at 13 (by kernel_rfl) (pre_of hpre 13 (by kernel_rfl)))
      refine op_go hoi (want_all rfl) fun K hK => ?_
      clear hT hpre hun hlit hoi
      go_simp
      exact hK _ _ ⟨(), fun _ _ => rfl, rfl, gc0, gc1, gc2, gc3, gc4, gc5, oc0, oc1, hown, HB⟩
  · intro g b w' hT hS
    rw [hT.all ht]
    have hn : (regOps Try.f38 6).size = 15 := by kernel_rfl
    rw [hn]
    exact he w' hS

/-- What each operation of the region leaves. -/
def region38_8_11V (b0 b1 e0 e1 : Int) (kg ko cap c : Nat) : Nat → Value
  | 0 => .int .i64 1
  | 1 => .bool true
  | 2 => .bool true
  | 3 => .slice (some ⟨ko, 0, none⟩) 1 cap
  | 4 => .int .i64 1
  | 5 => .int .i64 0
  | 6 => .pointer (some ⟨ko, 0, none⟩)
  | 7 => .agg #[.int .i64 e0, .int .i64 e1]
  | 8 => .slice (some ⟨kg, 0, none⟩) 3 c
  | 9 => .int .i64 1
  | 10 => .pointer (some ⟨kg, 2, none⟩)
  | 11 => .agg #[.int .i64 b0, .int .i64 b1]
  | 12 => .bool false
  | 13 => .bool false
  | _ => undef

set_option maxHeartbeats 4000000 in
set_option maxRecDepth 100000 in
theorem region38_8_11 (a0 a1 b0 b1 c0 c1 e0 e1 : Int) (kg ko cap c : Nat) (W : World) (m1 : (e0 == b0 && e1 == b1) = false) {id : Nat} {ops : Array Oper} {Q : Exit → Act → World → Prop} {a : Act} {w : World}
    (ho : ops = (regOps Try.f38 8)) (hsz : a.tmps.size = 77) (t5 : a.tmps[5]? = some (.int .i64 1)) (t3 : a.tmps[3]? = some (.slice (some ⟨ko, 0, none⟩) 1 cap)) (t0 : a.tmps[0]? = some (.slice (some ⟨kg, 0, none⟩) 3 c)) (t4 : a.tmps[4]? = some (.int .i64 1))
    (h0 : w.drew.cell? ⟨kg, 0, none⟩ = some (.int .i64 a0) ∧ w.drew.cell? ⟨kg, 1, none⟩ = some (.int .i64 a1) ∧ w.drew.cell? ⟨kg, 2, none⟩ = some (.int .i64 b0) ∧ w.drew.cell? ⟨kg, 3, none⟩ = some (.int .i64 b1) ∧ w.drew.cell? ⟨kg, 4, none⟩ = some (.int .i64 c0) ∧ w.drew.cell? ⟨kg, 5, none⟩ = some (.int .i64 c1) ∧ w.drew.cell? ⟨ko, 0, none⟩ = some (.int .i64 e0) ∧ w.drew.cell? ⟨ko, 1, none⟩ = some (.int .i64 e1) ∧ w.drew.ownsRow W.heap.size 23 2 (.slice (some ⟨ko, 0, none⟩) 1 cap) 1 [.int .i64 e0, .int .i64 e1] ∧ Below W.heap.size W w.drew)
    (he : ∀ w', w'.cell? ⟨kg, 0, none⟩ = some (.int .i64 a0) ∧ w'.cell? ⟨kg, 1, none⟩ = some (.int .i64 a1) ∧ w'.cell? ⟨kg, 2, none⟩ = some (.int .i64 b0) ∧ w'.cell? ⟨kg, 3, none⟩ = some (.int .i64 b1) ∧ w'.cell? ⟨kg, 4, none⟩ = some (.int .i64 c0) ∧ w'.cell? ⟨kg, 5, none⟩ = some (.int .i64 c1) ∧ w'.cell? ⟨ko, 0, none⟩ = some (.int .i64 e0) ∧ w'.cell? ⟨ko, 1, none⟩ = some (.int .i64 e1) ∧ w'.ownsRow W.heap.size 23 2 (.slice (some ⟨ko, 0, none⟩) 1 cap) 1 [.int .i64 e0, .int .i64 e1] ∧ Below W.heap.size W w' → Q .normal ⟨((((((((((((((a.tmps.setIfInBounds 32 (.int .i64 1)).setIfInBounds 33 (.bool true)).setIfInBounds 34 (.bool true)).setIfInBounds 35 (.slice (some ⟨ko, 0, none⟩) 1 cap)).setIfInBounds 36 (.int .i64 1)).setIfInBounds 37 (.int .i64 0)).setIfInBounds 38 (.pointer (some ⟨ko, 0, none⟩))).setIfInBounds 39 (.agg #[.int .i64 e0, .int .i64 e1])).setIfInBounds 40 (.slice (some ⟨kg, 0, none⟩) 3 c)).setIfInBounds 41 (.int .i64 1)).setIfInBounds 42 (.pointer (some ⟨kg, 2, none⟩))).setIfInBounds 43 (.agg #[.int .i64 b0, .int .i64 b1])).setIfInBounds 44 (.bool false)).setIfInBounds 45 (.bool false)), a.defers⟩ w') :
    (Code.region id ops true).wp Try.prog Q a w := by
  have ht : tidy (regOps Try.f38 8) a.tmps.size = true := by rw [hsz]; kernel_rfl
  refine region_tab (G := Unit) (fun _ => (region38_8_11V b0 b1 e0 e1 kg ko cap c )) (fun _ _ w' => w'.cell? ⟨kg, 0, none⟩ = some (.int .i64 a0) ∧ w'.cell? ⟨kg, 1, none⟩ = some (.int .i64 a1) ∧ w'.cell? ⟨kg, 2, none⟩ = some (.int .i64 b0) ∧ w'.cell? ⟨kg, 3, none⟩ = some (.int .i64 b1) ∧ w'.cell? ⟨kg, 4, none⟩ = some (.int .i64 c0) ∧ w'.cell? ⟨kg, 5, none⟩ = some (.int .i64 c1) ∧ w'.cell? ⟨ko, 0, none⟩ = some (.int .i64 e0) ∧ w'.cell? ⟨ko, 1, none⟩ = some (.int .i64 e1) ∧ w'.ownsRow W.heap.size 23 2 (.slice (some ⟨ko, 0, none⟩) 1 cap) 1 [.int .i64 e0, .int .i64 e1] ∧ Below W.heap.size W w') () (by kernel_rfl) ho ht h0 ?_ ?_
  · intro i o hoi g L b w' hun hpre hT hS
    clear he h0 ho hsz ht
    have hi : i < (regOps Try.f38 8).size := (Array.getElem?_eq_some_iff.1 hoi).1
    rw [show (regOps Try.f38 8).size = 14 by kernel_rfl] at hi
    obtain ⟨gc0, gc1, gc2, gc3, gc4, gc5, oc0, oc1, hown, HB⟩ := hS
    have hcases : i = 0 ∨ i = 1 ∨ i = 2 ∨ i = 3 ∨ i = 4 ∨ i = 5 ∨ i = 6 ∨ i = 7 ∨ i = 8 ∨ i = 9 ∨ i = 10 ∨ i = 11 ∨ i = 12 ∨ i = 13 := by omega
    rcases hcases with rfl | rfl | rfl | rfl | rfl | rfl | rfl | rfl | rfl | rfl | rfl | rfl | rfl | rfl
    · have hlit : (regOps Try.f38 8)[0]? = some ({ dst := some 32, op := Op.move (Operand.tmp 5), type := 3, pos := "geom.go:483", after := #[], guard := none }) := by kernel_rfl
      obtain rfl := Option.some.inj (hlit.symm.trans hoi)
      have r5 : b.tmps.getD 5 undef = (.int .i64 1) := rd ((hT.old 5 (by kernel_rfl)).trans t5)
      refine op_go hoi (want_all rfl) fun K hK => ?_
      clear hT hpre hun hlit hoi
      go_simp
      exact hK _ _ ⟨(), fun _ _ => rfl, rfl, gc0, gc1, gc2, gc3, gc4, gc5, oc0, oc1, hown, HB⟩
    · have hlit : (regOps Try.f38 8)[1]? = some ({ dst := some 33, op := Op.binOp BinOp.gtr 3 (Operand.tmp 32) (Operand.const (Value.int IntKind.i64 0)) 3, type := 4, pos := "geom.go:483", after := #[{ on := 0, ground := Ground.data }], guard := none }) := by kernel_rfl
      obtain rfl := Option.some.inj (hlit.symm.trans hoi)
      have r32 : b.tmps.getD 32 undef = (.int .i64 1) := rd (hT.at 0 (by kernel_rfl) (pre_of hpre 0 (by kernel_rfl)))
      refine op_go hoi (want_all rfl) fun K hK => ?_
      clear hT hpre hun hlit hoi
      go_simp
      exact hK _ _ ⟨(), fun _ _ => rfl, rfl, gc0, gc1, gc2, gc3, gc4, gc5, oc0, oc1, hown, HB⟩
    · have hlit : (regOps Try.f38 8)[2]? = some ({ dst := some 34, op := Op.move (Operand.tmp 33), type := 4, pos := "geom.go:483", after := #[{ on := 1, ground := Ground.data }], guard := none }) := by kernel_rfl
      obtain rfl := Option.some.inj (hlit.symm.trans hoi)
      have r33 : b.tmps.getD 33 undef = (.bool true) := rd (hT.at 1 (by kernel_rfl) (pre_of hpre 1 (by kernel_rfl)))
      refine op_go hoi (want_all rfl) fun K hK => ?_
      clear hT hpre hun hlit hoi
      go_simp
      exact hK _ _ ⟨(), fun _ _ => rfl, rfl, gc0, gc1, gc2, gc3, gc4, gc5, oc0, oc1, hown, HB⟩
    · have hlit : (regOps Try.f38 8)[3]? = some ({ dst := some 35, op := Op.move (Operand.tmp 3), type := 41, pos := "geom.go:483", after := #[{ on := 2, ground := Ground.guard }], guard := some (2, true) }) := by kernel_rfl
      obtain rfl := Option.some.inj (hlit.symm.trans hoi)
      have r3 : b.tmps.getD 3 undef = (.slice (some ⟨ko, 0, none⟩) 1 cap) := rd ((hT.old 3 (by kernel_rfl)).trans t3)
      refine op_go hoi (want_yes rfl (d := 34) (by kernel_rfl) (hT.at 2 (by kernel_rfl) (pre_of hpre 2 (by kernel_rfl)))) fun K hK => ?_
      clear hT hpre hun hlit hoi
      go_simp
      exact hK _ _ ⟨(), fun _ _ => rfl, rfl, gc0, gc1, gc2, gc3, gc4, gc5, oc0, oc1, hown, HB⟩
    · have hlit : (regOps Try.f38 8)[4]? = some ({ dst := some 36, op := Op.move (Operand.tmp 5), type := 3, pos := "geom.go:483", after := #[{ on := 2, ground := Ground.guard }], guard := some (2, true) }) := by kernel_rfl
      obtain rfl := Option.some.inj (hlit.symm.trans hoi)
      have r5 : b.tmps.getD 5 undef = (.int .i64 1) := rd ((hT.old 5 (by kernel_rfl)).trans t5)
      refine op_go hoi (want_yes rfl (d := 34) (by kernel_rfl) (hT.at 2 (by kernel_rfl) (pre_of hpre 2 (by kernel_rfl)))) fun K hK => ?_
      clear hT hpre hun hlit hoi
      go_simp
      exact hK _ _ ⟨(), fun _ _ => rfl, rfl, gc0, gc1, gc2, gc3, gc4, gc5, oc0, oc1, hown, HB⟩
    · have hlit : (regOps Try.f38 8)[5]? = some ({ dst := some 37, op := Op.binOp BinOp.sub 3 (Operand.tmp 36) (Operand.const (Value.int IntKind.i64 1)) 3, type := 3, pos := "geom.go:483", after := #[{ on := 4, ground := Ground.data }, { on := 2, ground := Ground.guard }], guard := some (2, true) }) := by kernel_rfl
      obtain rfl := Option.some.inj (hlit.symm.trans hoi)
      have r36 : b.tmps.getD 36 undef = (.int .i64 1) := rd (hT.at 4 (by kernel_rfl) (pre_of hpre 4 (by kernel_rfl)))
      refine op_go hoi (want_yes rfl (d := 34) (by kernel_rfl) (hT.at 2 (by kernel_rfl) (pre_of hpre 2 (by kernel_rfl)))) fun K hK => ?_
      clear hT hpre hun hlit hoi
      go_simp
      exact hK _ _ ⟨(), fun _ _ => rfl, rfl, gc0, gc1, gc2, gc3, gc4, gc5, oc0, oc1, hown, HB⟩
    · have hlit : (regOps Try.f38 8)[6]? = some ({ dst := some 38, op := Op.indexAddr 41 (Operand.tmp 35) (Operand.tmp 37), type := 0, pos := "geom.go:483", after := #[{ on := 3, ground := Ground.data }, { on := 5, ground := Ground.data }, { on := 2, ground := Ground.guard }], guard := some (2, true) }) := by kernel_rfl
      obtain rfl := Option.some.inj (hlit.symm.trans hoi)
      have r35 : b.tmps.getD 35 undef = (.slice (some ⟨ko, 0, none⟩) 1 cap) := rd (hT.at 3 (by kernel_rfl) (pre_of hpre 3 (by kernel_rfl)))
      have r37 : b.tmps.getD 37 undef = (.int .i64 0) := rd (hT.at 5 (by kernel_rfl) (pre_of hpre 5 (by kernel_rfl)))
      refine op_go hoi (want_yes rfl (d := 34) (by kernel_rfl) (hT.at 2 (by kernel_rfl) (pre_of hpre 2 (by kernel_rfl)))) fun K hK => ?_
      clear hT hpre hun hlit hoi
      go_simp
      exact hK _ _ ⟨(), fun _ _ => rfl, rfl, gc0, gc1, gc2, gc3, gc4, gc5, oc0, oc1, hown, HB⟩
    · have hlit : (regOps Try.f38 8)[7]? = some ({ dst := some 39, op := Op.load 23 (Operand.tmp 38), type := 23, pos := "geom.go:483", after := #[{ on := 6, ground := Ground.data }, { on := 2, ground := Ground.guard }], guard := some (2, true) }) := by kernel_rfl
      obtain rfl := Option.some.inj (hlit.symm.trans hoi)
      have r38 : b.tmps.getD 38 undef = (.pointer (some ⟨ko, 0, none⟩)) := rd (hT.at 6 (by kernel_rfl) (pre_of hpre 6 (by kernel_rfl)))
      refine op_go hoi (want_yes rfl (d := 34) (by kernel_rfl) (hT.at 2 (by kernel_rfl) (pre_of hpre 2 (by kernel_rfl)))) fun K hK => ?_
      clear hT hpre hun hlit hoi
      go_simp
      exact hK _ _ ⟨(), fun _ _ => rfl, rfl, gc0, gc1, gc2, gc3, gc4, gc5, oc0, oc1, hown, HB⟩
    · have hlit : (regOps Try.f38 8)[8]? = some ({ dst := some 40, op := Op.move (Operand.tmp 0), type := 41, pos := "geom.go:483", after := #[{ on := 2, ground := Ground.guard }], guard := some (2, true) }) := by kernel_rfl
      obtain rfl := Option.some.inj (hlit.symm.trans hoi)
      have r0 : b.tmps.getD 0 undef = (.slice (some ⟨kg, 0, none⟩) 3 c) := rd ((hT.old 0 (by kernel_rfl)).trans t0)
      refine op_go hoi (want_yes rfl (d := 34) (by kernel_rfl) (hT.at 2 (by kernel_rfl) (pre_of hpre 2 (by kernel_rfl)))) fun K hK => ?_
      clear hT hpre hun hlit hoi
      go_simp
      exact hK _ _ ⟨(), fun _ _ => rfl, rfl, gc0, gc1, gc2, gc3, gc4, gc5, oc0, oc1, hown, HB⟩
    · have hlit : (regOps Try.f38 8)[9]? = some ({ dst := some 41, op := Op.move (Operand.tmp 4), type := 3, pos := "geom.go:483", after := #[{ on := 2, ground := Ground.guard }], guard := some (2, true) }) := by kernel_rfl
      obtain rfl := Option.some.inj (hlit.symm.trans hoi)
      have r4 : b.tmps.getD 4 undef = (.int .i64 1) := rd ((hT.old 4 (by kernel_rfl)).trans t4)
      refine op_go hoi (want_yes rfl (d := 34) (by kernel_rfl) (hT.at 2 (by kernel_rfl) (pre_of hpre 2 (by kernel_rfl)))) fun K hK => ?_
      clear hT hpre hun hlit hoi
      go_simp
      exact hK _ _ ⟨(), fun _ _ => rfl, rfl, gc0, gc1, gc2, gc3, gc4, gc5, oc0, oc1, hown, HB⟩
    · have hlit : (regOps Try.f38 8)[10]? = some ({ dst := some 42, op := Op.indexAddr 41 (Operand.tmp 40) (Operand.tmp 41), type := 0, pos := "geom.go:483", after := #[{ on := 8, ground := Ground.data }, { on := 9, ground := Ground.data }, { on := 2, ground := Ground.guard }], guard := some (2, true) }) := by kernel_rfl
      obtain rfl := Option.some.inj (hlit.symm.trans hoi)
      have r40 : b.tmps.getD 40 undef = (.slice (some ⟨kg, 0, none⟩) 3 c) := rd (hT.at 8 (by kernel_rfl) (pre_of hpre 8 (by kernel_rfl)))
      have r41 : b.tmps.getD 41 undef = (.int .i64 1) := rd (hT.at 9 (by kernel_rfl) (pre_of hpre 9 (by kernel_rfl)))
      refine op_go hoi (want_yes rfl (d := 34) (by kernel_rfl) (hT.at 2 (by kernel_rfl) (pre_of hpre 2 (by kernel_rfl)))) fun K hK => ?_
      clear hT hpre hun hlit hoi
      go_simp
      exact hK _ _ ⟨(), fun _ _ => rfl, rfl, gc0, gc1, gc2, gc3, gc4, gc5, oc0, oc1, hown, HB⟩
    · have hlit : (regOps Try.f38 8)[11]? = some ({ dst := some 43, op := Op.load 23 (Operand.tmp 42), type := 23, pos := "geom.go:483", after := #[{ on := 10, ground := Ground.data }, { on := 2, ground := Ground.guard }], guard := some (2, true) }) := by kernel_rfl
      obtain rfl := Option.some.inj (hlit.symm.trans hoi)
      have r42 : b.tmps.getD 42 undef = (.pointer (some ⟨kg, 2, none⟩)) := rd (hT.at 10 (by kernel_rfl) (pre_of hpre 10 (by kernel_rfl)))
      refine op_go hoi (want_yes rfl (d := 34) (by kernel_rfl) (hT.at 2 (by kernel_rfl) (pre_of hpre 2 (by kernel_rfl)))) fun K hK => ?_
      clear hT hpre hun hlit hoi
      go_simp
      exact hK _ _ ⟨(), fun _ _ => rfl, rfl, gc0, gc1, gc2, gc3, gc4, gc5, oc0, oc1, hown, HB⟩
    · have hlit : (regOps Try.f38 8)[12]? = some ({ dst := some 44, op := Op.binOp BinOp.eql 23 (Operand.tmp 39) (Operand.tmp 43) 23, type := 4, pos := "geom.go:483", after := #[{ on := 7, ground := Ground.data }, { on := 11, ground := Ground.data }, { on := 2, ground := Ground.guard }], guard := some (2, true) }) := by kernel_rfl
      obtain rfl := Option.some.inj (hlit.symm.trans hoi)
      have r39 : b.tmps.getD 39 undef = (.agg #[.int .i64 e0, .int .i64 e1]) := rd (hT.at 7 (by kernel_rfl) (pre_of hpre 7 (by kernel_rfl)))
      have r43 : b.tmps.getD 43 undef = (.agg #[.int .i64 b0, .int .i64 b1]) := rd (hT.at 11 (by kernel_rfl) (pre_of hpre 11 (by kernel_rfl)))
      refine op_go hoi (want_yes rfl (d := 34) (by kernel_rfl) (hT.at 2 (by kernel_rfl) (pre_of hpre 2 (by kernel_rfl)))) fun K hK => ?_
      clear hT hpre hun hlit hoi
      go_simp
      exact hK _ _ ⟨(), fun _ _ => rfl, rfl, gc0, gc1, gc2, gc3, gc4, gc5, oc0, oc1, hown, HB⟩
    · have hlit : (regOps Try.f38 8)[13]? = some ({ dst := some 45, op := Op.pick (Operand.tmp 34) (Operand.tmp 44) (Operand.const (Value.bool false)), type := 4, pos := "geom.go:483", after := #[{ on := 2, ground := Ground.data }, { on := 12, ground := Ground.data }], guard := none }) := by kernel_rfl
      obtain rfl := Option.some.inj (hlit.symm.trans hoi)
      have r34 : b.tmps.getD 34 undef = (.bool true) := rd (hT.at 2 (by kernel_rfl) (pre_of hpre 2 (by kernel_rfl)))
      have r44 : b.tmps.getD 44 undef = (.bool false) := rd (hT.at 12 (by kernel_rfl) (pre_of hpre 12 (by kernel_rfl)))
      refine op_go hoi (want_all rfl) fun K hK => ?_
      clear hT hpre hun hlit hoi
      go_simp
      exact hK _ _ ⟨(), fun _ _ => rfl, rfl, gc0, gc1, gc2, gc3, gc4, gc5, oc0, oc1, hown, HB⟩
  · intro g b w' hT hS
    rw [hT.all ht]
    have hn : (regOps Try.f38 8).size = 14 := by kernel_rfl
    rw [hn]
    exact he w' hS

/-- What each operation of the region leaves. -/
def region38_21V (c0 c1 e0 e1 o : Int) (kg ko cap c : Nat) (ob : Bool) : Nat → Value
  | 0 => .int .i64 1
  | 1 => .bool true
  | 2 => .bool true
  | 3 => .slice (some ⟨ko, 0, none⟩) 2 cap
  | 4 => .int .i64 1
  | 5 => .int .i64 0
  | 6 => .pointer (some ⟨ko, 0, none⟩)
  | 7 => .agg #[.int .i64 e0, .int .i64 e1]
  | 8 => .slice (some ⟨kg, 0, none⟩) 3 c
  | 9 => .int .i64 2
  | 10 => .pointer (some ⟨kg, 4, none⟩)
  | 11 => .agg #[.int .i64 c0, .int .i64 c1]
  | 12 => .int .i64 o
  | 13 => .bool ob
  | 14 => .bool ob
  | _ => undef

set_option maxHeartbeats 4000000 in
set_option maxRecDepth 100000 in
theorem region38_21 (a0 a1 b0 b1 c0 c1 e0 e1 f0 f1 o : Int) (kg ko cap c : Nat) (ob : Bool) (W : World) (m1 : cmpP ⟨e0, e1⟩ ⟨c0, c1⟩ = o) (m2 : decide (0 < o) = ob) {id : Nat} {ops : Array Oper} {Q : Exit → Act → World → Prop} {a : Act} {w : World}
    (ho : ops = (regOps Try.f38 6)) (hsz : a.tmps.size = 77) (t5 : a.tmps[5]? = some (.int .i64 1)) (t3 : a.tmps[3]? = some (.slice (some ⟨ko, 0, none⟩) 2 cap)) (t0 : a.tmps[0]? = some (.slice (some ⟨kg, 0, none⟩) 3 c)) (t4 : a.tmps[4]? = some (.int .i64 2))
    (h0 : w.drew.cell? ⟨kg, 0, none⟩ = some (.int .i64 a0) ∧ w.drew.cell? ⟨kg, 1, none⟩ = some (.int .i64 a1) ∧ w.drew.cell? ⟨kg, 2, none⟩ = some (.int .i64 b0) ∧ w.drew.cell? ⟨kg, 3, none⟩ = some (.int .i64 b1) ∧ w.drew.cell? ⟨kg, 4, none⟩ = some (.int .i64 c0) ∧ w.drew.cell? ⟨kg, 5, none⟩ = some (.int .i64 c1) ∧ w.drew.cell? ⟨ko, 0, none⟩ = some (.int .i64 e0) ∧ w.drew.cell? ⟨ko, 1, none⟩ = some (.int .i64 e1) ∧ w.drew.cell? ⟨ko, 2, none⟩ = some (.int .i64 f0) ∧ w.drew.cell? ⟨ko, 3, none⟩ = some (.int .i64 f1) ∧ w.drew.ownsRow W.heap.size 23 2 (.slice (some ⟨ko, 0, none⟩) 2 cap) 2 [.int .i64 e0, .int .i64 e1, .int .i64 f0, .int .i64 f1] ∧ Below W.heap.size W w.drew)
    (he : ∀ w', w'.cell? ⟨kg, 0, none⟩ = some (.int .i64 a0) ∧ w'.cell? ⟨kg, 1, none⟩ = some (.int .i64 a1) ∧ w'.cell? ⟨kg, 2, none⟩ = some (.int .i64 b0) ∧ w'.cell? ⟨kg, 3, none⟩ = some (.int .i64 b1) ∧ w'.cell? ⟨kg, 4, none⟩ = some (.int .i64 c0) ∧ w'.cell? ⟨kg, 5, none⟩ = some (.int .i64 c1) ∧ w'.cell? ⟨ko, 0, none⟩ = some (.int .i64 e0) ∧ w'.cell? ⟨ko, 1, none⟩ = some (.int .i64 e1) ∧ w'.cell? ⟨ko, 2, none⟩ = some (.int .i64 f0) ∧ w'.cell? ⟨ko, 3, none⟩ = some (.int .i64 f1) ∧ w'.ownsRow W.heap.size 23 2 (.slice (some ⟨ko, 0, none⟩) 2 cap) 2 [.int .i64 e0, .int .i64 e1, .int .i64 f0, .int .i64 f1] ∧ Below W.heap.size W w' → Q .normal ⟨(((((((((((((((a.tmps.setIfInBounds 15 (.int .i64 1)).setIfInBounds 16 (.bool true)).setIfInBounds 17 (.bool true)).setIfInBounds 18 (.slice (some ⟨ko, 0, none⟩) 2 cap)).setIfInBounds 19 (.int .i64 1)).setIfInBounds 20 (.int .i64 0)).setIfInBounds 21 (.pointer (some ⟨ko, 0, none⟩))).setIfInBounds 22 (.agg #[.int .i64 e0, .int .i64 e1])).setIfInBounds 23 (.slice (some ⟨kg, 0, none⟩) 3 c)).setIfInBounds 24 (.int .i64 2)).setIfInBounds 25 (.pointer (some ⟨kg, 4, none⟩))).setIfInBounds 26 (.agg #[.int .i64 c0, .int .i64 c1])).setIfInBounds 27 (.int .i64 o)).setIfInBounds 28 (.bool ob)).setIfInBounds 29 (.bool ob)), a.defers⟩ w') :
    (Code.region id ops true).wp Try.prog Q a w := by
  have ht : tidy (regOps Try.f38 6) a.tmps.size = true := by rw [hsz]; kernel_rfl
  refine region_tab (G := Unit) (fun _ => (region38_21V c0 c1 e0 e1 o kg ko cap c ob)) (fun _ _ w' => w'.cell? ⟨kg, 0, none⟩ = some (.int .i64 a0) ∧ w'.cell? ⟨kg, 1, none⟩ = some (.int .i64 a1) ∧ w'.cell? ⟨kg, 2, none⟩ = some (.int .i64 b0) ∧ w'.cell? ⟨kg, 3, none⟩ = some (.int .i64 b1) ∧ w'.cell? ⟨kg, 4, none⟩ = some (.int .i64 c0) ∧ w'.cell? ⟨kg, 5, none⟩ = some (.int .i64 c1) ∧ w'.cell? ⟨ko, 0, none⟩ = some (.int .i64 e0) ∧ w'.cell? ⟨ko, 1, none⟩ = some (.int .i64 e1) ∧ w'.cell? ⟨ko, 2, none⟩ = some (.int .i64 f0) ∧ w'.cell? ⟨ko, 3, none⟩ = some (.int .i64 f1) ∧ w'.ownsRow W.heap.size 23 2 (.slice (some ⟨ko, 0, none⟩) 2 cap) 2 [.int .i64 e0, .int .i64 e1, .int .i64 f0, .int .i64 f1] ∧ Below W.heap.size W w') () (by kernel_rfl) ho ht h0 ?_ ?_
  · intro i o hoi g L b w' hun hpre hT hS
    clear he h0 ho hsz ht
    have hi : i < (regOps Try.f38 6).size := (Array.getElem?_eq_some_iff.1 hoi).1
    rw [show (regOps Try.f38 6).size = 15 by kernel_rfl] at hi
    obtain ⟨gc0, gc1, gc2, gc3, gc4, gc5, oc0, oc1, oc2, oc3, hown, HB⟩ := hS
    have hcases : i = 0 ∨ i = 1 ∨ i = 2 ∨ i = 3 ∨ i = 4 ∨ i = 5 ∨ i = 6 ∨ i = 7 ∨ i = 8 ∨ i = 9 ∨ i = 10 ∨ i = 11 ∨ i = 12 ∨ i = 13 ∨ i = 14 := by omega
    rcases hcases with rfl | rfl | rfl | rfl | rfl | rfl | rfl | rfl | rfl | rfl | rfl | rfl | rfl | rfl | rfl
    · have hlit : (regOps Try.f38 6)[0]? = some ({ dst := some 15, op := Op.move (Operand.tmp 5), type := 3, pos := "geom.go:480", after := #[], guard := none }) := by kernel_rfl
      obtain rfl := Option.some.inj (hlit.symm.trans hoi)
      have r5 : b.tmps.getD 5 undef = (.int .i64 1) := rd ((hT.old 5 (by kernel_rfl)).trans t5)
      refine op_go hoi (want_all rfl) fun K hK => ?_
      clear hT hpre hun hlit hoi
      go_simp
      exact hK _ _ ⟨(), fun _ _ => rfl, rfl, gc0, gc1, gc2, gc3, gc4, gc5, oc0, oc1, oc2, oc3, hown, HB⟩
    · have hlit : (regOps Try.f38 6)[1]? = some ({ dst := some 16, op := Op.binOp BinOp.gtr 3 (Operand.tmp 15) (Operand.const (Value.int IntKind.i64 0)) 3, type := 4, pos := "geom.go:480", after := #[{ on := 0, ground := Ground.data }], guard := none }) := by kernel_rfl
      obtain rfl := Option.some.inj (hlit.symm.trans hoi)
      have r15 : b.tmps.getD 15 undef = (.int .i64 1) := rd (hT.at 0 (by kernel_rfl) (pre_of hpre 0 (by kernel_rfl)))
      refine op_go hoi (want_all rfl) fun K hK => ?_
      clear hT hpre hun hlit hoi
      go_simp
      exact hK _ _ ⟨(), fun _ _ => rfl, rfl, gc0, gc1, gc2, gc3, gc4, gc5, oc0, oc1, oc2, oc3, hown, HB⟩
    · have hlit : (regOps Try.f38 6)[2]? = some ({ dst := some 17, op := Op.move (Operand.tmp 16), type := 4, pos := "geom.go:480", after := #[{ on := 1, ground := Ground.data }], guard := none }) := by kernel_rfl
      obtain rfl := Option.some.inj (hlit.symm.trans hoi)
      have r16 : b.tmps.getD 16 undef = (.bool true) := rd (hT.at 1 (by kernel_rfl) (pre_of hpre 1 (by kernel_rfl)))
      refine op_go hoi (want_all rfl) fun K hK => ?_
      clear hT hpre hun hlit hoi
      go_simp
      exact hK _ _ ⟨(), fun _ _ => rfl, rfl, gc0, gc1, gc2, gc3, gc4, gc5, oc0, oc1, oc2, oc3, hown, HB⟩
    · have hlit : (regOps Try.f38 6)[3]? = some ({ dst := some 18, op := Op.move (Operand.tmp 3), type := 41, pos := "geom.go:480", after := #[{ on := 2, ground := Ground.guard }], guard := some (2, true) }) := by kernel_rfl
      obtain rfl := Option.some.inj (hlit.symm.trans hoi)
      have r3 : b.tmps.getD 3 undef = (.slice (some ⟨ko, 0, none⟩) 2 cap) := rd ((hT.old 3 (by kernel_rfl)).trans t3)
      refine op_go hoi (want_yes rfl (d := 17) (by kernel_rfl) (hT.at 2 (by kernel_rfl) (pre_of hpre 2 (by kernel_rfl)))) fun K hK => ?_
      clear hT hpre hun hlit hoi
      go_simp
      exact hK _ _ ⟨(), fun _ _ => rfl, rfl, gc0, gc1, gc2, gc3, gc4, gc5, oc0, oc1, oc2, oc3, hown, HB⟩
    · have hlit : (regOps Try.f38 6)[4]? = some ({ dst := some 19, op := Op.move (Operand.tmp 5), type := 3, pos := "geom.go:480", after := #[{ on := 2, ground := Ground.guard }], guard := some (2, true) }) := by kernel_rfl
      obtain rfl := Option.some.inj (hlit.symm.trans hoi)
      have r5 : b.tmps.getD 5 undef = (.int .i64 1) := rd ((hT.old 5 (by kernel_rfl)).trans t5)
      refine op_go hoi (want_yes rfl (d := 17) (by kernel_rfl) (hT.at 2 (by kernel_rfl) (pre_of hpre 2 (by kernel_rfl)))) fun K hK => ?_
      clear hT hpre hun hlit hoi
      go_simp
      exact hK _ _ ⟨(), fun _ _ => rfl, rfl, gc0, gc1, gc2, gc3, gc4, gc5, oc0, oc1, oc2, oc3, hown, HB⟩
    · have hlit : (regOps Try.f38 6)[5]? = some ({ dst := some 20, op := Op.binOp BinOp.sub 3 (Operand.tmp 19) (Operand.const (Value.int IntKind.i64 1)) 3, type := 3, pos := "geom.go:480", after := #[{ on := 4, ground := Ground.data }, { on := 2, ground := Ground.guard }], guard := some (2, true) }) := by kernel_rfl
      obtain rfl := Option.some.inj (hlit.symm.trans hoi)
      have r19 : b.tmps.getD 19 undef = (.int .i64 1) := rd (hT.at 4 (by kernel_rfl) (pre_of hpre 4 (by kernel_rfl)))
      refine op_go hoi (want_yes rfl (d := 17) (by kernel_rfl) (hT.at 2 (by kernel_rfl) (pre_of hpre 2 (by kernel_rfl)))) fun K hK => ?_
      clear hT hpre hun hlit hoi
      go_simp
      exact hK _ _ ⟨(), fun _ _ => rfl, rfl, gc0, gc1, gc2, gc3, gc4, gc5, oc0, oc1, oc2, oc3, hown, HB⟩
    · have hlit : (regOps Try.f38 6)[6]? = some ({ dst := some 21, op := Op.indexAddr 41 (Operand.tmp 18) (Operand.tmp 20), type := 0, pos := "geom.go:480", after := #[{ on := 3, ground := Ground.data }, { on := 5, ground := Ground.data }, { on := 2, ground := Ground.guard }], guard := some (2, true) }) := by kernel_rfl
      obtain rfl := Option.some.inj (hlit.symm.trans hoi)
      have r18 : b.tmps.getD 18 undef = (.slice (some ⟨ko, 0, none⟩) 2 cap) := rd (hT.at 3 (by kernel_rfl) (pre_of hpre 3 (by kernel_rfl)))
      have r20 : b.tmps.getD 20 undef = (.int .i64 0) := rd (hT.at 5 (by kernel_rfl) (pre_of hpre 5 (by kernel_rfl)))
      refine op_go hoi (want_yes rfl (d := 17) (by kernel_rfl) (hT.at 2 (by kernel_rfl) (pre_of hpre 2 (by kernel_rfl)))) fun K hK => ?_
      clear hT hpre hun hlit hoi
      go_simp
      exact hK _ _ ⟨(), fun _ _ => rfl, rfl, gc0, gc1, gc2, gc3, gc4, gc5, oc0, oc1, oc2, oc3, hown, HB⟩
    · have hlit : (regOps Try.f38 6)[7]? = some ({ dst := some 22, op := Op.load 23 (Operand.tmp 21), type := 23, pos := "geom.go:480", after := #[{ on := 6, ground := Ground.data }, { on := 2, ground := Ground.guard }], guard := some (2, true) }) := by kernel_rfl
      obtain rfl := Option.some.inj (hlit.symm.trans hoi)
      have r21 : b.tmps.getD 21 undef = (.pointer (some ⟨ko, 0, none⟩)) := rd (hT.at 6 (by kernel_rfl) (pre_of hpre 6 (by kernel_rfl)))
      refine op_go hoi (want_yes rfl (d := 17) (by kernel_rfl) (hT.at 2 (by kernel_rfl) (pre_of hpre 2 (by kernel_rfl)))) fun K hK => ?_
      clear hT hpre hun hlit hoi
      go_simp
      exact hK _ _ ⟨(), fun _ _ => rfl, rfl, gc0, gc1, gc2, gc3, gc4, gc5, oc0, oc1, oc2, oc3, hown, HB⟩
    · have hlit : (regOps Try.f38 6)[8]? = some ({ dst := some 23, op := Op.move (Operand.tmp 0), type := 41, pos := "geom.go:480", after := #[{ on := 2, ground := Ground.guard }], guard := some (2, true) }) := by kernel_rfl
      obtain rfl := Option.some.inj (hlit.symm.trans hoi)
      have r0 : b.tmps.getD 0 undef = (.slice (some ⟨kg, 0, none⟩) 3 c) := rd ((hT.old 0 (by kernel_rfl)).trans t0)
      refine op_go hoi (want_yes rfl (d := 17) (by kernel_rfl) (hT.at 2 (by kernel_rfl) (pre_of hpre 2 (by kernel_rfl)))) fun K hK => ?_
      clear hT hpre hun hlit hoi
      go_simp
      exact hK _ _ ⟨(), fun _ _ => rfl, rfl, gc0, gc1, gc2, gc3, gc4, gc5, oc0, oc1, oc2, oc3, hown, HB⟩
    · have hlit : (regOps Try.f38 6)[9]? = some ({ dst := some 24, op := Op.move (Operand.tmp 4), type := 3, pos := "geom.go:480", after := #[{ on := 2, ground := Ground.guard }], guard := some (2, true) }) := by kernel_rfl
      obtain rfl := Option.some.inj (hlit.symm.trans hoi)
      have r4 : b.tmps.getD 4 undef = (.int .i64 2) := rd ((hT.old 4 (by kernel_rfl)).trans t4)
      refine op_go hoi (want_yes rfl (d := 17) (by kernel_rfl) (hT.at 2 (by kernel_rfl) (pre_of hpre 2 (by kernel_rfl)))) fun K hK => ?_
      clear hT hpre hun hlit hoi
      go_simp
      exact hK _ _ ⟨(), fun _ _ => rfl, rfl, gc0, gc1, gc2, gc3, gc4, gc5, oc0, oc1, oc2, oc3, hown, HB⟩
    · have hlit : (regOps Try.f38 6)[10]? = some ({ dst := some 25, op := Op.indexAddr 41 (Operand.tmp 23) (Operand.tmp 24), type := 0, pos := "geom.go:480", after := #[{ on := 8, ground := Ground.data }, { on := 9, ground := Ground.data }, { on := 2, ground := Ground.guard }], guard := some (2, true) }) := by kernel_rfl
      obtain rfl := Option.some.inj (hlit.symm.trans hoi)
      have r23 : b.tmps.getD 23 undef = (.slice (some ⟨kg, 0, none⟩) 3 c) := rd (hT.at 8 (by kernel_rfl) (pre_of hpre 8 (by kernel_rfl)))
      have r24 : b.tmps.getD 24 undef = (.int .i64 2) := rd (hT.at 9 (by kernel_rfl) (pre_of hpre 9 (by kernel_rfl)))
      refine op_go hoi (want_yes rfl (d := 17) (by kernel_rfl) (hT.at 2 (by kernel_rfl) (pre_of hpre 2 (by kernel_rfl)))) fun K hK => ?_
      clear hT hpre hun hlit hoi
      go_simp
      exact hK _ _ ⟨(), fun _ _ => rfl, rfl, gc0, gc1, gc2, gc3, gc4, gc5, oc0, oc1, oc2, oc3, hown, HB⟩
    · have hlit : (regOps Try.f38 6)[11]? = some ({ dst := some 26, op := Op.load 23 (Operand.tmp 25), type := 23, pos := "geom.go:480", after := #[{ on := 10, ground := Ground.data }, { on := 2, ground := Ground.guard }], guard := some (2, true) }) := by kernel_rfl
      obtain rfl := Option.some.inj (hlit.symm.trans hoi)
      have r25 : b.tmps.getD 25 undef = (.pointer (some ⟨kg, 4, none⟩)) := rd (hT.at 10 (by kernel_rfl) (pre_of hpre 10 (by kernel_rfl)))
      refine op_go hoi (want_yes rfl (d := 17) (by kernel_rfl) (hT.at 2 (by kernel_rfl) (pre_of hpre 2 (by kernel_rfl)))) fun K hK => ?_
      clear hT hpre hun hlit hoi
      go_simp
      exact hK _ _ ⟨(), fun _ _ => rfl, rfl, gc0, gc1, gc2, gc3, gc4, gc5, oc0, oc1, oc2, oc3, hown, HB⟩
    · have hlit : (regOps Try.f38 6)[12]? = some ({ dst := some 27, op := Op.call { callee := Callee.value (Operand.func 51), args := #[Operand.tmp 22, Operand.tmp 26], argTypes := #[23, 23] }, type := 3, pos := "geom.go:480", after := #[{ on := 7, ground := Ground.data }, { on := 11, ground := Ground.data }, { on := 2, ground := Ground.chain }, { on := 2, ground := Ground.guard }], guard := some (2, true) }) := by kernel_rfl
      obtain rfl := Option.some.inj (hlit.symm.trans hoi)
      have r22 : b.tmps.getD 22 undef = (.agg #[.int .i64 e0, .int .i64 e1]) := rd (hT.at 7 (by kernel_rfl) (pre_of hpre 7 (by kernel_rfl)))
      have r26 : b.tmps.getD 26 undef = (.agg #[.int .i64 c0, .int .i64 c1]) := rd (hT.at 11 (by kernel_rfl) (pre_of hpre 11 (by kernel_rfl)))
      refine op_go hoi (want_yes rfl (d := 17) (by kernel_rfl) (hT.at 2 (by kernel_rfl) (pre_of hpre 2 (by kernel_rfl)))) fun K hK => ?_
      clear hT hpre hun hlit hoi
      go_simp
      go_at_call 51
      refine (cmp51 _ _ _ _ _).mono ?_; rw [m1]; rintro e w2 ⟨rfl, hb⟩; replace gc0 := ck hb (a := ⟨kg, 0, none⟩) (v := .int .i64 a0) (by go_simp); replace gc1 := ck hb (a := ⟨kg, 1, none⟩) (v := .int .i64 a1) (by go_simp); replace gc2 := ck hb (a := ⟨kg, 2, none⟩) (v := .int .i64 b0) (by go_simp); replace gc3 := ck hb (a := ⟨kg, 3, none⟩) (v := .int .i64 b1) (by go_simp); replace gc4 := ck hb (a := ⟨kg, 4, none⟩) (v := .int .i64 c0) (by go_simp); replace gc5 := ck hb (a := ⟨kg, 5, none⟩) (v := .int .i64 c1) (by go_simp); replace oc0 := ck hb (a := ⟨ko, 0, none⟩) (v := .int .i64 e0) (by go_simp); replace oc1 := ck hb (a := ⟨ko, 1, none⟩) (v := .int .i64 e1) (by go_simp); replace oc2 := ck hb (a := ⟨ko, 2, none⟩) (v := .int .i64 f0) (by go_simp); replace oc3 := ck hb (a := ⟨ko, 3, none⟩) (v := .int .i64 f1) (by go_simp); replace hown := own_below hown hb; replace HB : Below W.heap.size W w2 := bt HB hb; clear hb
      exact hK _ _ ⟨(), fun _ _ => rfl, rfl, gc0, gc1, gc2, gc3, gc4, gc5, oc0, oc1, oc2, oc3, hown, HB⟩
    · have hlit : (regOps Try.f38 6)[13]? = some ({ dst := some 28, op := Op.binOp BinOp.gtr 3 (Operand.tmp 27) (Operand.const (Value.int IntKind.i64 0)) 3, type := 4, pos := "geom.go:480", after := #[{ on := 12, ground := Ground.data }, { on := 2, ground := Ground.guard }], guard := some (2, true) }) := by kernel_rfl
      obtain rfl := Option.some.inj (hlit.symm.trans hoi)
      have r27 : b.tmps.getD 27 undef = (.int .i64 o) := rd (hT.at 12 (by kernel_rfl) (pre_of hpre 12 (by kernel_rfl)))
      refine op_go hoi (want_yes rfl (d := 17) (by kernel_rfl) (hT.at 2 (by kernel_rfl) (pre_of hpre 2 (by kernel_rfl)))) fun K hK => ?_
      clear hT hpre hun hlit hoi
      go_simp
      exact hK _ _ ⟨(), fun _ _ => rfl, rfl, gc0, gc1, gc2, gc3, gc4, gc5, oc0, oc1, oc2, oc3, hown, HB⟩
    · have hlit : (regOps Try.f38 6)[14]? = some ({ dst := some 29, op := Op.pick (Operand.tmp 17) (Operand.tmp 28) (Operand.const (Value.bool false)), type := 4, pos := "geom.go:480", after := #[{ on := 2, ground := Ground.data }, { on := 13, ground := Ground.data }], guard := none }) := by kernel_rfl
      obtain rfl := Option.some.inj (hlit.symm.trans hoi)
      have r17 : b.tmps.getD 17 undef = (.bool true) := rd (hT.at 2 (by kernel_rfl) (pre_of hpre 2 (by kernel_rfl)))
      have r28 : b.tmps.getD 28 undef = (.bool ob) := rd (hT.at 13 (by kernel_rfl) (pre_of hpre 13 (by kernel_rfl)))
      refine op_go hoi (want_all rfl) fun K hK => ?_
      clear hT hpre hun hlit hoi
      go_simp
      exact hK _ _ ⟨(), fun _ _ => rfl, rfl, gc0, gc1, gc2, gc3, gc4, gc5, oc0, oc1, oc2, oc3, hown, HB⟩
  · intro g b w' hT hS
    rw [hT.all ht]
    have hn : (regOps Try.f38 6).size = 15 := by kernel_rfl
    rw [hn]
    exact he w' hS

/-- What each operation of the region leaves. -/
def region38_8_21V (c0 c1 e0 e1 : Int) (kg ko cap c : Nat) : Nat → Value
  | 0 => .int .i64 1
  | 1 => .bool true
  | 2 => .bool true
  | 3 => .slice (some ⟨ko, 0, none⟩) 2 cap
  | 4 => .int .i64 1
  | 5 => .int .i64 0
  | 6 => .pointer (some ⟨ko, 0, none⟩)
  | 7 => .agg #[.int .i64 e0, .int .i64 e1]
  | 8 => .slice (some ⟨kg, 0, none⟩) 3 c
  | 9 => .int .i64 2
  | 10 => .pointer (some ⟨kg, 4, none⟩)
  | 11 => .agg #[.int .i64 c0, .int .i64 c1]
  | 12 => .bool false
  | 13 => .bool false
  | _ => undef

set_option maxHeartbeats 4000000 in
set_option maxRecDepth 100000 in
theorem region38_8_21 (a0 a1 b0 b1 c0 c1 e0 e1 f0 f1 : Int) (kg ko cap c : Nat) (W : World) (m1 : (e0 == c0 && e1 == c1) = false) {id : Nat} {ops : Array Oper} {Q : Exit → Act → World → Prop} {a : Act} {w : World}
    (ho : ops = (regOps Try.f38 8)) (hsz : a.tmps.size = 77) (t5 : a.tmps[5]? = some (.int .i64 1)) (t3 : a.tmps[3]? = some (.slice (some ⟨ko, 0, none⟩) 2 cap)) (t0 : a.tmps[0]? = some (.slice (some ⟨kg, 0, none⟩) 3 c)) (t4 : a.tmps[4]? = some (.int .i64 2))
    (h0 : w.drew.cell? ⟨kg, 0, none⟩ = some (.int .i64 a0) ∧ w.drew.cell? ⟨kg, 1, none⟩ = some (.int .i64 a1) ∧ w.drew.cell? ⟨kg, 2, none⟩ = some (.int .i64 b0) ∧ w.drew.cell? ⟨kg, 3, none⟩ = some (.int .i64 b1) ∧ w.drew.cell? ⟨kg, 4, none⟩ = some (.int .i64 c0) ∧ w.drew.cell? ⟨kg, 5, none⟩ = some (.int .i64 c1) ∧ w.drew.cell? ⟨ko, 0, none⟩ = some (.int .i64 e0) ∧ w.drew.cell? ⟨ko, 1, none⟩ = some (.int .i64 e1) ∧ w.drew.cell? ⟨ko, 2, none⟩ = some (.int .i64 f0) ∧ w.drew.cell? ⟨ko, 3, none⟩ = some (.int .i64 f1) ∧ w.drew.ownsRow W.heap.size 23 2 (.slice (some ⟨ko, 0, none⟩) 2 cap) 2 [.int .i64 e0, .int .i64 e1, .int .i64 f0, .int .i64 f1] ∧ Below W.heap.size W w.drew)
    (he : ∀ w', w'.cell? ⟨kg, 0, none⟩ = some (.int .i64 a0) ∧ w'.cell? ⟨kg, 1, none⟩ = some (.int .i64 a1) ∧ w'.cell? ⟨kg, 2, none⟩ = some (.int .i64 b0) ∧ w'.cell? ⟨kg, 3, none⟩ = some (.int .i64 b1) ∧ w'.cell? ⟨kg, 4, none⟩ = some (.int .i64 c0) ∧ w'.cell? ⟨kg, 5, none⟩ = some (.int .i64 c1) ∧ w'.cell? ⟨ko, 0, none⟩ = some (.int .i64 e0) ∧ w'.cell? ⟨ko, 1, none⟩ = some (.int .i64 e1) ∧ w'.cell? ⟨ko, 2, none⟩ = some (.int .i64 f0) ∧ w'.cell? ⟨ko, 3, none⟩ = some (.int .i64 f1) ∧ w'.ownsRow W.heap.size 23 2 (.slice (some ⟨ko, 0, none⟩) 2 cap) 2 [.int .i64 e0, .int .i64 e1, .int .i64 f0, .int .i64 f1] ∧ Below W.heap.size W w' → Q .normal ⟨((((((((((((((a.tmps.setIfInBounds 32 (.int .i64 1)).setIfInBounds 33 (.bool true)).setIfInBounds 34 (.bool true)).setIfInBounds 35 (.slice (some ⟨ko, 0, none⟩) 2 cap)).setIfInBounds 36 (.int .i64 1)).setIfInBounds 37 (.int .i64 0)).setIfInBounds 38 (.pointer (some ⟨ko, 0, none⟩))).setIfInBounds 39 (.agg #[.int .i64 e0, .int .i64 e1])).setIfInBounds 40 (.slice (some ⟨kg, 0, none⟩) 3 c)).setIfInBounds 41 (.int .i64 2)).setIfInBounds 42 (.pointer (some ⟨kg, 4, none⟩))).setIfInBounds 43 (.agg #[.int .i64 c0, .int .i64 c1])).setIfInBounds 44 (.bool false)).setIfInBounds 45 (.bool false)), a.defers⟩ w') :
    (Code.region id ops true).wp Try.prog Q a w := by
  have ht : tidy (regOps Try.f38 8) a.tmps.size = true := by rw [hsz]; kernel_rfl
  refine region_tab (G := Unit) (fun _ => (region38_8_21V c0 c1 e0 e1 kg ko cap c )) (fun _ _ w' => w'.cell? ⟨kg, 0, none⟩ = some (.int .i64 a0) ∧ w'.cell? ⟨kg, 1, none⟩ = some (.int .i64 a1) ∧ w'.cell? ⟨kg, 2, none⟩ = some (.int .i64 b0) ∧ w'.cell? ⟨kg, 3, none⟩ = some (.int .i64 b1) ∧ w'.cell? ⟨kg, 4, none⟩ = some (.int .i64 c0) ∧ w'.cell? ⟨kg, 5, none⟩ = some (.int .i64 c1) ∧ w'.cell? ⟨ko, 0, none⟩ = some (.int .i64 e0) ∧ w'.cell? ⟨ko, 1, none⟩ = some (.int .i64 e1) ∧ w'.cell? ⟨ko, 2, none⟩ = some (.int .i64 f0) ∧ w'.cell? ⟨ko, 3, none⟩ = some (.int .i64 f1) ∧ w'.ownsRow W.heap.size 23 2 (.slice (some ⟨ko, 0, none⟩) 2 cap) 2 [.int .i64 e0, .int .i64 e1, .int .i64 f0, .int .i64 f1] ∧ Below W.heap.size W w') () (by kernel_rfl) ho ht h0 ?_ ?_
  · intro i o hoi g L b w' hun hpre hT hS
    clear he h0 ho hsz ht
    have hi : i < (regOps Try.f38 8).size := (Array.getElem?_eq_some_iff.1 hoi).1
    rw [show (regOps Try.f38 8).size = 14 by kernel_rfl] at hi
    obtain ⟨gc0, gc1, gc2, gc3, gc4, gc5, oc0, oc1, oc2, oc3, hown, HB⟩ := hS
    have hcases : i = 0 ∨ i = 1 ∨ i = 2 ∨ i = 3 ∨ i = 4 ∨ i = 5 ∨ i = 6 ∨ i = 7 ∨ i = 8 ∨ i = 9 ∨ i = 10 ∨ i = 11 ∨ i = 12 ∨ i = 13 := by omega
    rcases hcases with rfl | rfl | rfl | rfl | rfl | rfl | rfl | rfl | rfl | rfl | rfl | rfl | rfl | rfl
    · have hlit : (regOps Try.f38 8)[0]? = some ({ dst := some 32, op := Op.move (Operand.tmp 5), type := 3, pos := "geom.go:483", after := #[], guard := none }) := by kernel_rfl
      obtain rfl := Option.some.inj (hlit.symm.trans hoi)
      have r5 : b.tmps.getD 5 undef = (.int .i64 1) := rd ((hT.old 5 (by kernel_rfl)).trans t5)
      refine op_go hoi (want_all rfl) fun K hK => ?_
      clear hT hpre hun hlit hoi
      go_simp
      exact hK _ _ ⟨(), fun _ _ => rfl, rfl, gc0, gc1, gc2, gc3, gc4, gc5, oc0, oc1, oc2, oc3, hown, HB⟩
    · have hlit : (regOps Try.f38 8)[1]? = some ({ dst := some 33, op := Op.binOp BinOp.gtr 3 (Operand.tmp 32) (Operand.const (Value.int IntKind.i64 0)) 3, type := 4, pos := "geom.go:483", after := #[{ on := 0, ground := Ground.data }], guard := none }) := by kernel_rfl
      obtain rfl := Option.some.inj (hlit.symm.trans hoi)
      have r32 : b.tmps.getD 32 undef = (.int .i64 1) := rd (hT.at 0 (by kernel_rfl) (pre_of hpre 0 (by kernel_rfl)))
      refine op_go hoi (want_all rfl) fun K hK => ?_
      clear hT hpre hun hlit hoi
      go_simp
      exact hK _ _ ⟨(), fun _ _ => rfl, rfl, gc0, gc1, gc2, gc3, gc4, gc5, oc0, oc1, oc2, oc3, hown, HB⟩
    · have hlit : (regOps Try.f38 8)[2]? = some ({ dst := some 34, op := Op.move (Operand.tmp 33), type := 4, pos := "geom.go:483", after := #[{ on := 1, ground := Ground.data }], guard := none }) := by kernel_rfl
      obtain rfl := Option.some.inj (hlit.symm.trans hoi)
      have r33 : b.tmps.getD 33 undef = (.bool true) := rd (hT.at 1 (by kernel_rfl) (pre_of hpre 1 (by kernel_rfl)))
      refine op_go hoi (want_all rfl) fun K hK => ?_
      clear hT hpre hun hlit hoi
      go_simp
      exact hK _ _ ⟨(), fun _ _ => rfl, rfl, gc0, gc1, gc2, gc3, gc4, gc5, oc0, oc1, oc2, oc3, hown, HB⟩
    · have hlit : (regOps Try.f38 8)[3]? = some ({ dst := some 35, op := Op.move (Operand.tmp 3), type := 41, pos := "geom.go:483", after := #[{ on := 2, ground := Ground.guard }], guard := some (2, true) }) := by kernel_rfl
      obtain rfl := Option.some.inj (hlit.symm.trans hoi)
      have r3 : b.tmps.getD 3 undef = (.slice (some ⟨ko, 0, none⟩) 2 cap) := rd ((hT.old 3 (by kernel_rfl)).trans t3)
      refine op_go hoi (want_yes rfl (d := 34) (by kernel_rfl) (hT.at 2 (by kernel_rfl) (pre_of hpre 2 (by kernel_rfl)))) fun K hK => ?_
      clear hT hpre hun hlit hoi
      go_simp
      exact hK _ _ ⟨(), fun _ _ => rfl, rfl, gc0, gc1, gc2, gc3, gc4, gc5, oc0, oc1, oc2, oc3, hown, HB⟩
    · have hlit : (regOps Try.f38 8)[4]? = some ({ dst := some 36, op := Op.move (Operand.tmp 5), type := 3, pos := "geom.go:483", after := #[{ on := 2, ground := Ground.guard }], guard := some (2, true) }) := by kernel_rfl
      obtain rfl := Option.some.inj (hlit.symm.trans hoi)
      have r5 : b.tmps.getD 5 undef = (.int .i64 1) := rd ((hT.old 5 (by kernel_rfl)).trans t5)
      refine op_go hoi (want_yes rfl (d := 34) (by kernel_rfl) (hT.at 2 (by kernel_rfl) (pre_of hpre 2 (by kernel_rfl)))) fun K hK => ?_
      clear hT hpre hun hlit hoi
      go_simp
      exact hK _ _ ⟨(), fun _ _ => rfl, rfl, gc0, gc1, gc2, gc3, gc4, gc5, oc0, oc1, oc2, oc3, hown, HB⟩
    · have hlit : (regOps Try.f38 8)[5]? = some ({ dst := some 37, op := Op.binOp BinOp.sub 3 (Operand.tmp 36) (Operand.const (Value.int IntKind.i64 1)) 3, type := 3, pos := "geom.go:483", after := #[{ on := 4, ground := Ground.data }, { on := 2, ground := Ground.guard }], guard := some (2, true) }) := by kernel_rfl
      obtain rfl := Option.some.inj (hlit.symm.trans hoi)
      have r36 : b.tmps.getD 36 undef = (.int .i64 1) := rd (hT.at 4 (by kernel_rfl) (pre_of hpre 4 (by kernel_rfl)))
      refine op_go hoi (want_yes rfl (d := 34) (by kernel_rfl) (hT.at 2 (by kernel_rfl) (pre_of hpre 2 (by kernel_rfl)))) fun K hK => ?_
      clear hT hpre hun hlit hoi
      go_simp
      exact hK _ _ ⟨(), fun _ _ => rfl, rfl, gc0, gc1, gc2, gc3, gc4, gc5, oc0, oc1, oc2, oc3, hown, HB⟩
    · have hlit : (regOps Try.f38 8)[6]? = some ({ dst := some 38, op := Op.indexAddr 41 (Operand.tmp 35) (Operand.tmp 37), type := 0, pos := "geom.go:483", after := #[{ on := 3, ground := Ground.data }, { on := 5, ground := Ground.data }, { on := 2, ground := Ground.guard }], guard := some (2, true) }) := by kernel_rfl
      obtain rfl := Option.some.inj (hlit.symm.trans hoi)
      have r35 : b.tmps.getD 35 undef = (.slice (some ⟨ko, 0, none⟩) 2 cap) := rd (hT.at 3 (by kernel_rfl) (pre_of hpre 3 (by kernel_rfl)))
      have r37 : b.tmps.getD 37 undef = (.int .i64 0) := rd (hT.at 5 (by kernel_rfl) (pre_of hpre 5 (by kernel_rfl)))
      refine op_go hoi (want_yes rfl (d := 34) (by kernel_rfl) (hT.at 2 (by kernel_rfl) (pre_of hpre 2 (by kernel_rfl)))) fun K hK => ?_
      clear hT hpre hun hlit hoi
      go_simp
      exact hK _ _ ⟨(), fun _ _ => rfl, rfl, gc0, gc1, gc2, gc3, gc4, gc5, oc0, oc1, oc2, oc3, hown, HB⟩
    · have hlit : (regOps Try.f38 8)[7]? = some ({ dst := some 39, op := Op.load 23 (Operand.tmp 38), type := 23, pos := "geom.go:483", after := #[{ on := 6, ground := Ground.data }, { on := 2, ground := Ground.guard }], guard := some (2, true) }) := by kernel_rfl
      obtain rfl := Option.some.inj (hlit.symm.trans hoi)
      have r38 : b.tmps.getD 38 undef = (.pointer (some ⟨ko, 0, none⟩)) := rd (hT.at 6 (by kernel_rfl) (pre_of hpre 6 (by kernel_rfl)))
      refine op_go hoi (want_yes rfl (d := 34) (by kernel_rfl) (hT.at 2 (by kernel_rfl) (pre_of hpre 2 (by kernel_rfl)))) fun K hK => ?_
      clear hT hpre hun hlit hoi
      go_simp
      exact hK _ _ ⟨(), fun _ _ => rfl, rfl, gc0, gc1, gc2, gc3, gc4, gc5, oc0, oc1, oc2, oc3, hown, HB⟩
    · have hlit : (regOps Try.f38 8)[8]? = some ({ dst := some 40, op := Op.move (Operand.tmp 0), type := 41, pos := "geom.go:483", after := #[{ on := 2, ground := Ground.guard }], guard := some (2, true) }) := by kernel_rfl
      obtain rfl := Option.some.inj (hlit.symm.trans hoi)
      have r0 : b.tmps.getD 0 undef = (.slice (some ⟨kg, 0, none⟩) 3 c) := rd ((hT.old 0 (by kernel_rfl)).trans t0)
      refine op_go hoi (want_yes rfl (d := 34) (by kernel_rfl) (hT.at 2 (by kernel_rfl) (pre_of hpre 2 (by kernel_rfl)))) fun K hK => ?_
      clear hT hpre hun hlit hoi
      go_simp
      exact hK _ _ ⟨(), fun _ _ => rfl, rfl, gc0, gc1, gc2, gc3, gc4, gc5, oc0, oc1, oc2, oc3, hown, HB⟩
    · have hlit : (regOps Try.f38 8)[9]? = some ({ dst := some 41, op := Op.move (Operand.tmp 4), type := 3, pos := "geom.go:483", after := #[{ on := 2, ground := Ground.guard }], guard := some (2, true) }) := by kernel_rfl
      obtain rfl := Option.some.inj (hlit.symm.trans hoi)
      have r4 : b.tmps.getD 4 undef = (.int .i64 2) := rd ((hT.old 4 (by kernel_rfl)).trans t4)
      refine op_go hoi (want_yes rfl (d := 34) (by kernel_rfl) (hT.at 2 (by kernel_rfl) (pre_of hpre 2 (by kernel_rfl)))) fun K hK => ?_
      clear hT hpre hun hlit hoi
      go_simp
      exact hK _ _ ⟨(), fun _ _ => rfl, rfl, gc0, gc1, gc2, gc3, gc4, gc5, oc0, oc1, oc2, oc3, hown, HB⟩
    · have hlit : (regOps Try.f38 8)[10]? = some ({ dst := some 42, op := Op.indexAddr 41 (Operand.tmp 40) (Operand.tmp 41), type := 0, pos := "geom.go:483", after := #[{ on := 8, ground := Ground.data }, { on := 9, ground := Ground.data }, { on := 2, ground := Ground.guard }], guard := some (2, true) }) := by kernel_rfl
      obtain rfl := Option.some.inj (hlit.symm.trans hoi)
      have r40 : b.tmps.getD 40 undef = (.slice (some ⟨kg, 0, none⟩) 3 c) := rd (hT.at 8 (by kernel_rfl) (pre_of hpre 8 (by kernel_rfl)))
      have r41 : b.tmps.getD 41 undef = (.int .i64 2) := rd (hT.at 9 (by kernel_rfl) (pre_of hpre 9 (by kernel_rfl)))
      refine op_go hoi (want_yes rfl (d := 34) (by kernel_rfl) (hT.at 2 (by kernel_rfl) (pre_of hpre 2 (by kernel_rfl)))) fun K hK => ?_
      clear hT hpre hun hlit hoi
      go_simp
      exact hK _ _ ⟨(), fun _ _ => rfl, rfl, gc0, gc1, gc2, gc3, gc4, gc5, oc0, oc1, oc2, oc3, hown, HB⟩
    · have hlit : (regOps Try.f38 8)[11]? = some ({ dst := some 43, op := Op.load 23 (Operand.tmp 42), type := 23, pos := "geom.go:483", after := #[{ on := 10, ground := Ground.data }, { on := 2, ground := Ground.guard }], guard := some (2, true) }) := by kernel_rfl
      obtain rfl := Option.some.inj (hlit.symm.trans hoi)
      have r42 : b.tmps.getD 42 undef = (.pointer (some ⟨kg, 4, none⟩)) := rd (hT.at 10 (by kernel_rfl) (pre_of hpre 10 (by kernel_rfl)))
      refine op_go hoi (want_yes rfl (d := 34) (by kernel_rfl) (hT.at 2 (by kernel_rfl) (pre_of hpre 2 (by kernel_rfl)))) fun K hK => ?_
      clear hT hpre hun hlit hoi
      go_simp
      exact hK _ _ ⟨(), fun _ _ => rfl, rfl, gc0, gc1, gc2, gc3, gc4, gc5, oc0, oc1, oc2, oc3, hown, HB⟩
    · have hlit : (regOps Try.f38 8)[12]? = some ({ dst := some 44, op := Op.binOp BinOp.eql 23 (Operand.tmp 39) (Operand.tmp 43) 23, type := 4, pos := "geom.go:483", after := #[{ on := 7, ground := Ground.data }, { on := 11, ground := Ground.data }, { on := 2, ground := Ground.guard }], guard := some (2, true) }) := by kernel_rfl
      obtain rfl := Option.some.inj (hlit.symm.trans hoi)
      have r39 : b.tmps.getD 39 undef = (.agg #[.int .i64 e0, .int .i64 e1]) := rd (hT.at 7 (by kernel_rfl) (pre_of hpre 7 (by kernel_rfl)))
      have r43 : b.tmps.getD 43 undef = (.agg #[.int .i64 c0, .int .i64 c1]) := rd (hT.at 11 (by kernel_rfl) (pre_of hpre 11 (by kernel_rfl)))
      refine op_go hoi (want_yes rfl (d := 34) (by kernel_rfl) (hT.at 2 (by kernel_rfl) (pre_of hpre 2 (by kernel_rfl)))) fun K hK => ?_
      clear hT hpre hun hlit hoi
      go_simp
      exact hK _ _ ⟨(), fun _ _ => rfl, rfl, gc0, gc1, gc2, gc3, gc4, gc5, oc0, oc1, oc2, oc3, hown, HB⟩
    · have hlit : (regOps Try.f38 8)[13]? = some ({ dst := some 45, op := Op.pick (Operand.tmp 34) (Operand.tmp 44) (Operand.const (Value.bool false)), type := 4, pos := "geom.go:483", after := #[{ on := 2, ground := Ground.data }, { on := 12, ground := Ground.data }], guard := none }) := by kernel_rfl
      obtain rfl := Option.some.inj (hlit.symm.trans hoi)
      have r34 : b.tmps.getD 34 undef = (.bool true) := rd (hT.at 2 (by kernel_rfl) (pre_of hpre 2 (by kernel_rfl)))
      have r44 : b.tmps.getD 44 undef = (.bool false) := rd (hT.at 12 (by kernel_rfl) (pre_of hpre 12 (by kernel_rfl)))
      refine op_go hoi (want_all rfl) fun K hK => ?_
      clear hT hpre hun hlit hoi
      go_simp
      exact hK _ _ ⟨(), fun _ _ => rfl, rfl, gc0, gc1, gc2, gc3, gc4, gc5, oc0, oc1, oc2, oc3, hown, HB⟩
  · intro g b w' hT hS
    rw [hT.all ht]
    have hn : (regOps Try.f38 8).size = 14 := by kernel_rfl
    rw [hn]
    exact he w' hS

/-- What each operation of the region leaves. -/
def region38_22V (c0 c1 f0 f1 o : Int) (kg ko cap c : Nat) (ob : Bool) : Nat → Value
  | 0 => .int .i64 2
  | 1 => .bool true
  | 2 => .bool true
  | 3 => .slice (some ⟨ko, 0, none⟩) 2 cap
  | 4 => .int .i64 2
  | 5 => .int .i64 1
  | 6 => .pointer (some ⟨ko, 2, none⟩)
  | 7 => .agg #[.int .i64 f0, .int .i64 f1]
  | 8 => .slice (some ⟨kg, 0, none⟩) 3 c
  | 9 => .int .i64 2
  | 10 => .pointer (some ⟨kg, 4, none⟩)
  | 11 => .agg #[.int .i64 c0, .int .i64 c1]
  | 12 => .int .i64 o
  | 13 => .bool ob
  | 14 => .bool ob
  | _ => undef

set_option maxHeartbeats 4000000 in
set_option maxRecDepth 100000 in
theorem region38_22 (a0 a1 b0 b1 c0 c1 e0 e1 f0 f1 o : Int) (kg ko cap c : Nat) (ob : Bool) (W : World) (m1 : cmpP ⟨f0, f1⟩ ⟨c0, c1⟩ = o) (m2 : decide (0 < o) = ob) {id : Nat} {ops : Array Oper} {Q : Exit → Act → World → Prop} {a : Act} {w : World}
    (ho : ops = (regOps Try.f38 6)) (hsz : a.tmps.size = 77) (t5 : a.tmps[5]? = some (.int .i64 2)) (t3 : a.tmps[3]? = some (.slice (some ⟨ko, 0, none⟩) 2 cap)) (t0 : a.tmps[0]? = some (.slice (some ⟨kg, 0, none⟩) 3 c)) (t4 : a.tmps[4]? = some (.int .i64 2))
    (h0 : w.drew.cell? ⟨kg, 0, none⟩ = some (.int .i64 a0) ∧ w.drew.cell? ⟨kg, 1, none⟩ = some (.int .i64 a1) ∧ w.drew.cell? ⟨kg, 2, none⟩ = some (.int .i64 b0) ∧ w.drew.cell? ⟨kg, 3, none⟩ = some (.int .i64 b1) ∧ w.drew.cell? ⟨kg, 4, none⟩ = some (.int .i64 c0) ∧ w.drew.cell? ⟨kg, 5, none⟩ = some (.int .i64 c1) ∧ w.drew.cell? ⟨ko, 0, none⟩ = some (.int .i64 e0) ∧ w.drew.cell? ⟨ko, 1, none⟩ = some (.int .i64 e1) ∧ w.drew.cell? ⟨ko, 2, none⟩ = some (.int .i64 f0) ∧ w.drew.cell? ⟨ko, 3, none⟩ = some (.int .i64 f1) ∧ w.drew.ownsRow W.heap.size 23 2 (.slice (some ⟨ko, 0, none⟩) 2 cap) 2 [.int .i64 e0, .int .i64 e1, .int .i64 f0, .int .i64 f1] ∧ Below W.heap.size W w.drew)
    (he : ∀ w', w'.cell? ⟨kg, 0, none⟩ = some (.int .i64 a0) ∧ w'.cell? ⟨kg, 1, none⟩ = some (.int .i64 a1) ∧ w'.cell? ⟨kg, 2, none⟩ = some (.int .i64 b0) ∧ w'.cell? ⟨kg, 3, none⟩ = some (.int .i64 b1) ∧ w'.cell? ⟨kg, 4, none⟩ = some (.int .i64 c0) ∧ w'.cell? ⟨kg, 5, none⟩ = some (.int .i64 c1) ∧ w'.cell? ⟨ko, 0, none⟩ = some (.int .i64 e0) ∧ w'.cell? ⟨ko, 1, none⟩ = some (.int .i64 e1) ∧ w'.cell? ⟨ko, 2, none⟩ = some (.int .i64 f0) ∧ w'.cell? ⟨ko, 3, none⟩ = some (.int .i64 f1) ∧ w'.ownsRow W.heap.size 23 2 (.slice (some ⟨ko, 0, none⟩) 2 cap) 2 [.int .i64 e0, .int .i64 e1, .int .i64 f0, .int .i64 f1] ∧ Below W.heap.size W w' → Q .normal ⟨(((((((((((((((a.tmps.setIfInBounds 15 (.int .i64 2)).setIfInBounds 16 (.bool true)).setIfInBounds 17 (.bool true)).setIfInBounds 18 (.slice (some ⟨ko, 0, none⟩) 2 cap)).setIfInBounds 19 (.int .i64 2)).setIfInBounds 20 (.int .i64 1)).setIfInBounds 21 (.pointer (some ⟨ko, 2, none⟩))).setIfInBounds 22 (.agg #[.int .i64 f0, .int .i64 f1])).setIfInBounds 23 (.slice (some ⟨kg, 0, none⟩) 3 c)).setIfInBounds 24 (.int .i64 2)).setIfInBounds 25 (.pointer (some ⟨kg, 4, none⟩))).setIfInBounds 26 (.agg #[.int .i64 c0, .int .i64 c1])).setIfInBounds 27 (.int .i64 o)).setIfInBounds 28 (.bool ob)).setIfInBounds 29 (.bool ob)), a.defers⟩ w') :
    (Code.region id ops true).wp Try.prog Q a w := by
  have ht : tidy (regOps Try.f38 6) a.tmps.size = true := by rw [hsz]; kernel_rfl
  refine region_tab (G := Unit) (fun _ => (region38_22V c0 c1 f0 f1 o kg ko cap c ob)) (fun _ _ w' => w'.cell? ⟨kg, 0, none⟩ = some (.int .i64 a0) ∧ w'.cell? ⟨kg, 1, none⟩ = some (.int .i64 a1) ∧ w'.cell? ⟨kg, 2, none⟩ = some (.int .i64 b0) ∧ w'.cell? ⟨kg, 3, none⟩ = some (.int .i64 b1) ∧ w'.cell? ⟨kg, 4, none⟩ = some (.int .i64 c0) ∧ w'.cell? ⟨kg, 5, none⟩ = some (.int .i64 c1) ∧ w'.cell? ⟨ko, 0, none⟩ = some (.int .i64 e0) ∧ w'.cell? ⟨ko, 1, none⟩ = some (.int .i64 e1) ∧ w'.cell? ⟨ko, 2, none⟩ = some (.int .i64 f0) ∧ w'.cell? ⟨ko, 3, none⟩ = some (.int .i64 f1) ∧ w'.ownsRow W.heap.size 23 2 (.slice (some ⟨ko, 0, none⟩) 2 cap) 2 [.int .i64 e0, .int .i64 e1, .int .i64 f0, .int .i64 f1] ∧ Below W.heap.size W w') () (by kernel_rfl) ho ht h0 ?_ ?_
  · intro i o hoi g L b w' hun hpre hT hS
    clear he h0 ho hsz ht
    have hi : i < (regOps Try.f38 6).size := (Array.getElem?_eq_some_iff.1 hoi).1
    rw [show (regOps Try.f38 6).size = 15 by kernel_rfl] at hi
    obtain ⟨gc0, gc1, gc2, gc3, gc4, gc5, oc0, oc1, oc2, oc3, hown, HB⟩ := hS
    have hcases : i = 0 ∨ i = 1 ∨ i = 2 ∨ i = 3 ∨ i = 4 ∨ i = 5 ∨ i = 6 ∨ i = 7 ∨ i = 8 ∨ i = 9 ∨ i = 10 ∨ i = 11 ∨ i = 12 ∨ i = 13 ∨ i = 14 := by omega
    rcases hcases with rfl | rfl | rfl | rfl | rfl | rfl | rfl | rfl | rfl | rfl | rfl | rfl | rfl | rfl | rfl
    · have hlit : (regOps Try.f38 6)[0]? = some ({ dst := some 15, op := Op.move (Operand.tmp 5), type := 3, pos := "geom.go:480", after := #[], guard := none }) := by kernel_rfl
      obtain rfl := Option.some.inj (hlit.symm.trans hoi)
      have r5 : b.tmps.getD 5 undef = (.int .i64 2) := rd ((hT.old 5 (by kernel_rfl)).trans t5)
      refine op_go hoi (want_all rfl) fun K hK => ?_
      clear hT hpre hun hlit hoi
      go_simp
      exact hK _ _ ⟨(), fun _ _ => rfl, rfl, gc0, gc1, gc2, gc3, gc4, gc5, oc0, oc1, oc2, oc3, hown, HB⟩
    · have hlit : (regOps Try.f38 6)[1]? = some ({ dst := some 16, op := Op.binOp BinOp.gtr 3 (Operand.tmp 15) (Operand.const (Value.int IntKind.i64 0)) 3, type := 4, pos := "geom.go:480", after := #[{ on := 0, ground := Ground.data }], guard := none }) := by kernel_rfl
      obtain rfl := Option.some.inj (hlit.symm.trans hoi)
      have r15 : b.tmps.getD 15 undef = (.int .i64 2) := rd (hT.at 0 (by kernel_rfl) (pre_of hpre 0 (by kernel_rfl)))
      refine op_go hoi (want_all rfl) fun K hK => ?_
      clear hT hpre hun hlit hoi
      go_simp
      exact hK _ _ ⟨(), fun _ _ => rfl, rfl, gc0, gc1, gc2, gc3, gc4, gc5, oc0, oc1, oc2, oc3, hown, HB⟩
    · have hlit : (regOps Try.f38 6)[2]? = some ({ dst := some 17, op := Op.move (Operand.tmp 16), type := 4, pos := "geom.go:480", after := #[{ on := 1, ground := Ground.data }], guard := none }) := by kernel_rfl
      obtain rfl := Option.some.inj (hlit.symm.trans hoi)
      have r16 : b.tmps.getD 16 undef = (.bool true) := rd (hT.at 1 (by kernel_rfl) (pre_of hpre 1 (by kernel_rfl)))
      refine op_go hoi (want_all rfl) fun K hK => ?_
      clear hT hpre hun hlit hoi
      go_simp
      exact hK _ _ ⟨(), fun _ _ => rfl, rfl, gc0, gc1, gc2, gc3, gc4, gc5, oc0, oc1, oc2, oc3, hown, HB⟩
    · have hlit : (regOps Try.f38 6)[3]? = some ({ dst := some 18, op := Op.move (Operand.tmp 3), type := 41, pos := "geom.go:480", after := #[{ on := 2, ground := Ground.guard }], guard := some (2, true) }) := by kernel_rfl
      obtain rfl := Option.some.inj (hlit.symm.trans hoi)
      have r3 : b.tmps.getD 3 undef = (.slice (some ⟨ko, 0, none⟩) 2 cap) := rd ((hT.old 3 (by kernel_rfl)).trans t3)
      refine op_go hoi (want_yes rfl (d := 17) (by kernel_rfl) (hT.at 2 (by kernel_rfl) (pre_of hpre 2 (by kernel_rfl)))) fun K hK => ?_
      clear hT hpre hun hlit hoi
      go_simp
      exact hK _ _ ⟨(), fun _ _ => rfl, rfl, gc0, gc1, gc2, gc3, gc4, gc5, oc0, oc1, oc2, oc3, hown, HB⟩
    · have hlit : (regOps Try.f38 6)[4]? = some ({ dst := some 19, op := Op.move (Operand.tmp 5), type := 3, pos := "geom.go:480", after := #[{ on := 2, ground := Ground.guard }], guard := some (2, true) }) := by kernel_rfl
      obtain rfl := Option.some.inj (hlit.symm.trans hoi)
      have r5 : b.tmps.getD 5 undef = (.int .i64 2) := rd ((hT.old 5 (by kernel_rfl)).trans t5)
      refine op_go hoi (want_yes rfl (d := 17) (by kernel_rfl) (hT.at 2 (by kernel_rfl) (pre_of hpre 2 (by kernel_rfl)))) fun K hK => ?_
      clear hT hpre hun hlit hoi
      go_simp
      exact hK _ _ ⟨(), fun _ _ => rfl, rfl, gc0, gc1, gc2, gc3, gc4, gc5, oc0, oc1, oc2, oc3, hown, HB⟩
    · have hlit : (regOps Try.f38 6)[5]? = some ({ dst := some 20, op := Op.binOp BinOp.sub 3 (Operand.tmp 19) (Operand.const (Value.int IntKind.i64 1)) 3, type := 3, pos := "geom.go:480", after := #[{ on := 4, ground := Ground.data }, { on := 2, ground := Ground.guard }], guard := some (2, true) }) := by kernel_rfl
      obtain rfl := Option.some.inj (hlit.symm.trans hoi)
      have r19 : b.tmps.getD 19 undef = (.int .i64 2) := rd (hT.at 4 (by kernel_rfl) (pre_of hpre 4 (by kernel_rfl)))
      refine op_go hoi (want_yes rfl (d := 17) (by kernel_rfl) (hT.at 2 (by kernel_rfl) (pre_of hpre 2 (by kernel_rfl)))) fun K hK => ?_
      clear hT hpre hun hlit hoi
      go_simp
      exact hK _ _ ⟨(), fun _ _ => rfl, rfl, gc0, gc1, gc2, gc3, gc4, gc5, oc0, oc1, oc2, oc3, hown, HB⟩
    · have hlit : (regOps Try.f38 6)[6]? = some ({ dst := some 21, op := Op.indexAddr 41 (Operand.tmp 18) (Operand.tmp 20), type := 0, pos := "geom.go:480", after := #[{ on := 3, ground := Ground.data }, { on := 5, ground := Ground.data }, { on := 2, ground := Ground.guard }], guard := some (2, true) }) := by kernel_rfl
      obtain rfl := Option.some.inj (hlit.symm.trans hoi)
      have r18 : b.tmps.getD 18 undef = (.slice (some ⟨ko, 0, none⟩) 2 cap) := rd (hT.at 3 (by kernel_rfl) (pre_of hpre 3 (by kernel_rfl)))
      have r20 : b.tmps.getD 20 undef = (.int .i64 1) := rd (hT.at 5 (by kernel_rfl) (pre_of hpre 5 (by kernel_rfl)))
      refine op_go hoi (want_yes rfl (d := 17) (by kernel_rfl) (hT.at 2 (by kernel_rfl) (pre_of hpre 2 (by kernel_rfl)))) fun K hK => ?_
      clear hT hpre hun hlit hoi
      go_simp
      exact hK _ _ ⟨(), fun _ _ => rfl, rfl, gc0, gc1, gc2, gc3, gc4, gc5, oc0, oc1, oc2, oc3, hown, HB⟩
    · have hlit : (regOps Try.f38 6)[7]? = some ({ dst := some 22, op := Op.load 23 (Operand.tmp 21), type := 23, pos := "geom.go:480", after := #[{ on := 6, ground := Ground.data }, { on := 2, ground := Ground.guard }], guard := some (2, true) }) := by kernel_rfl
      obtain rfl := Option.some.inj (hlit.symm.trans hoi)
      have r21 : b.tmps.getD 21 undef = (.pointer (some ⟨ko, 2, none⟩)) := rd (hT.at 6 (by kernel_rfl) (pre_of hpre 6 (by kernel_rfl)))
      refine op_go hoi (want_yes rfl (d := 17) (by kernel_rfl) (hT.at 2 (by kernel_rfl) (pre_of hpre 2 (by kernel_rfl)))) fun K hK => ?_
      clear hT hpre hun hlit hoi
      go_simp
      exact hK _ _ ⟨(), fun _ _ => rfl, rfl, gc0, gc1, gc2, gc3, gc4, gc5, oc0, oc1, oc2, oc3, hown, HB⟩
    · have hlit : (regOps Try.f38 6)[8]? = some ({ dst := some 23, op := Op.move (Operand.tmp 0), type := 41, pos := "geom.go:480", after := #[{ on := 2, ground := Ground.guard }], guard := some (2, true) }) := by kernel_rfl
      obtain rfl := Option.some.inj (hlit.symm.trans hoi)
      have r0 : b.tmps.getD 0 undef = (.slice (some ⟨kg, 0, none⟩) 3 c) := rd ((hT.old 0 (by kernel_rfl)).trans t0)
      refine op_go hoi (want_yes rfl (d := 17) (by kernel_rfl) (hT.at 2 (by kernel_rfl) (pre_of hpre 2 (by kernel_rfl)))) fun K hK => ?_
      clear hT hpre hun hlit hoi
      go_simp
      exact hK _ _ ⟨(), fun _ _ => rfl, rfl, gc0, gc1, gc2, gc3, gc4, gc5, oc0, oc1, oc2, oc3, hown, HB⟩
    · have hlit : (regOps Try.f38 6)[9]? = some ({ dst := some 24, op := Op.move (Operand.tmp 4), type := 3, pos := "geom.go:480", after := #[{ on := 2, ground := Ground.guard }], guard := some (2, true) }) := by kernel_rfl
      obtain rfl := Option.some.inj (hlit.symm.trans hoi)
      have r4 : b.tmps.getD 4 undef = (.int .i64 2) := rd ((hT.old 4 (by kernel_rfl)).trans t4)
      refine op_go hoi (want_yes rfl (d := 17) (by kernel_rfl) (hT.at 2 (by kernel_rfl) (pre_of hpre 2 (by kernel_rfl)))) fun K hK => ?_
      clear hT hpre hun hlit hoi
      go_simp
      exact hK _ _ ⟨(), fun _ _ => rfl, rfl, gc0, gc1, gc2, gc3, gc4, gc5, oc0, oc1, oc2, oc3, hown, HB⟩
    · have hlit : (regOps Try.f38 6)[10]? = some ({ dst := some 25, op := Op.indexAddr 41 (Operand.tmp 23) (Operand.tmp 24), type := 0, pos := "geom.go:480", after := #[{ on := 8, ground := Ground.data }, { on := 9, ground := Ground.data }, { on := 2, ground := Ground.guard }], guard := some (2, true) }) := by kernel_rfl
      obtain rfl := Option.some.inj (hlit.symm.trans hoi)
      have r23 : b.tmps.getD 23 undef = (.slice (some ⟨kg, 0, none⟩) 3 c) := rd (hT.at 8 (by kernel_rfl) (pre_of hpre 8 (by kernel_rfl)))
      have r24 : b.tmps.getD 24 undef = (.int .i64 2) := rd (hT.at 9 (by kernel_rfl) (pre_of hpre 9 (by kernel_rfl)))
      refine op_go hoi (want_yes rfl (d := 17) (by kernel_rfl) (hT.at 2 (by kernel_rfl) (pre_of hpre 2 (by kernel_rfl)))) fun K hK => ?_
      clear hT hpre hun hlit hoi
      go_simp
      exact hK _ _ ⟨(), fun _ _ => rfl, rfl, gc0, gc1, gc2, gc3, gc4, gc5, oc0, oc1, oc2, oc3, hown, HB⟩
    · have hlit : (regOps Try.f38 6)[11]? = some ({ dst := some 26, op := Op.load 23 (Operand.tmp 25), type := 23, pos := "geom.go:480", after := #[{ on := 10, ground := Ground.data }, { on := 2, ground := Ground.guard }], guard := some (2, true) }) := by kernel_rfl
      obtain rfl := Option.some.inj (hlit.symm.trans hoi)
      have r25 : b.tmps.getD 25 undef = (.pointer (some ⟨kg, 4, none⟩)) := rd (hT.at 10 (by kernel_rfl) (pre_of hpre 10 (by kernel_rfl)))
      refine op_go hoi (want_yes rfl (d := 17) (by kernel_rfl) (hT.at 2 (by kernel_rfl) (pre_of hpre 2 (by kernel_rfl)))) fun K hK => ?_
      clear hT hpre hun hlit hoi
      go_simp
      exact hK _ _ ⟨(), fun _ _ => rfl, rfl, gc0, gc1, gc2, gc3, gc4, gc5, oc0, oc1, oc2, oc3, hown, HB⟩
    · have hlit : (regOps Try.f38 6)[12]? = some ({ dst := some 27, op := Op.call { callee := Callee.value (Operand.func 51), args := #[Operand.tmp 22, Operand.tmp 26], argTypes := #[23, 23] }, type := 3, pos := "geom.go:480", after := #[{ on := 7, ground := Ground.data }, { on := 11, ground := Ground.data }, { on := 2, ground := Ground.chain }, { on := 2, ground := Ground.guard }], guard := some (2, true) }) := by kernel_rfl
      obtain rfl := Option.some.inj (hlit.symm.trans hoi)
      have r22 : b.tmps.getD 22 undef = (.agg #[.int .i64 f0, .int .i64 f1]) := rd (hT.at 7 (by kernel_rfl) (pre_of hpre 7 (by kernel_rfl)))
      have r26 : b.tmps.getD 26 undef = (.agg #[.int .i64 c0, .int .i64 c1]) := rd (hT.at 11 (by kernel_rfl) (pre_of hpre 11 (by kernel_rfl)))
      refine op_go hoi (want_yes rfl (d := 17) (by kernel_rfl) (hT.at 2 (by kernel_rfl) (pre_of hpre 2 (by kernel_rfl)))) fun K hK => ?_
      clear hT hpre hun hlit hoi
      go_simp
      go_at_call 51
      refine (cmp51 _ _ _ _ _).mono ?_; rw [m1]; rintro e w2 ⟨rfl, hb⟩; replace gc0 := ck hb (a := ⟨kg, 0, none⟩) (v := .int .i64 a0) (by go_simp); replace gc1 := ck hb (a := ⟨kg, 1, none⟩) (v := .int .i64 a1) (by go_simp); replace gc2 := ck hb (a := ⟨kg, 2, none⟩) (v := .int .i64 b0) (by go_simp); replace gc3 := ck hb (a := ⟨kg, 3, none⟩) (v := .int .i64 b1) (by go_simp); replace gc4 := ck hb (a := ⟨kg, 4, none⟩) (v := .int .i64 c0) (by go_simp); replace gc5 := ck hb (a := ⟨kg, 5, none⟩) (v := .int .i64 c1) (by go_simp); replace oc0 := ck hb (a := ⟨ko, 0, none⟩) (v := .int .i64 e0) (by go_simp); replace oc1 := ck hb (a := ⟨ko, 1, none⟩) (v := .int .i64 e1) (by go_simp); replace oc2 := ck hb (a := ⟨ko, 2, none⟩) (v := .int .i64 f0) (by go_simp); replace oc3 := ck hb (a := ⟨ko, 3, none⟩) (v := .int .i64 f1) (by go_simp); replace hown := own_below hown hb; replace HB : Below W.heap.size W w2 := bt HB hb; clear hb
      exact hK _ _ ⟨(), fun _ _ => rfl, rfl, gc0, gc1, gc2, gc3, gc4, gc5, oc0, oc1, oc2, oc3, hown, HB⟩
    · have hlit : (regOps Try.f38 6)[13]? = some ({ dst := some 28, op := Op.binOp BinOp.gtr 3 (Operand.tmp 27) (Operand.const (Value.int IntKind.i64 0)) 3, type := 4, pos := "geom.go:480", after := #[{ on := 12, ground := Ground.data }, { on := 2, ground := Ground.guard }], guard := some (2, true) }) := by kernel_rfl
      obtain rfl := Option.some.inj (hlit.symm.trans hoi)
      have r27 : b.tmps.getD 27 undef = (.int .i64 o) := rd (hT.at 12 (by kernel_rfl) (pre_of hpre 12 (by kernel_rfl)))
      refine op_go hoi (want_yes rfl (d := 17) (by kernel_rfl) (hT.at 2 (by kernel_rfl) (pre_of hpre 2 (by kernel_rfl)))) fun K hK => ?_
      clear hT hpre hun hlit hoi
      go_simp
      exact hK _ _ ⟨(), fun _ _ => rfl, rfl, gc0, gc1, gc2, gc3, gc4, gc5, oc0, oc1, oc2, oc3, hown, HB⟩
    · have hlit : (regOps Try.f38 6)[14]? = some ({ dst := some 29, op := Op.pick (Operand.tmp 17) (Operand.tmp 28) (Operand.const (Value.bool false)), type := 4, pos := "geom.go:480", after := #[{ on := 2, ground := Ground.data }, { on := 13, ground := Ground.data }], guard := none }) := by kernel_rfl
      obtain rfl := Option.some.inj (hlit.symm.trans hoi)
      have r17 : b.tmps.getD 17 undef = (.bool true) := rd (hT.at 2 (by kernel_rfl) (pre_of hpre 2 (by kernel_rfl)))
      have r28 : b.tmps.getD 28 undef = (.bool ob) := rd (hT.at 13 (by kernel_rfl) (pre_of hpre 13 (by kernel_rfl)))
      refine op_go hoi (want_all rfl) fun K hK => ?_
      clear hT hpre hun hlit hoi
      go_simp
      exact hK _ _ ⟨(), fun _ _ => rfl, rfl, gc0, gc1, gc2, gc3, gc4, gc5, oc0, oc1, oc2, oc3, hown, HB⟩
  · intro g b w' hT hS
    rw [hT.all ht]
    have hn : (regOps Try.f38 6).size = 15 := by kernel_rfl
    rw [hn]
    exact he w' hS

/-- What each operation of the region leaves. -/
def region38_8_22V (c0 c1 f0 f1 : Int) (kg ko cap c : Nat) : Nat → Value
  | 0 => .int .i64 2
  | 1 => .bool true
  | 2 => .bool true
  | 3 => .slice (some ⟨ko, 0, none⟩) 2 cap
  | 4 => .int .i64 2
  | 5 => .int .i64 1
  | 6 => .pointer (some ⟨ko, 2, none⟩)
  | 7 => .agg #[.int .i64 f0, .int .i64 f1]
  | 8 => .slice (some ⟨kg, 0, none⟩) 3 c
  | 9 => .int .i64 2
  | 10 => .pointer (some ⟨kg, 4, none⟩)
  | 11 => .agg #[.int .i64 c0, .int .i64 c1]
  | 12 => .bool false
  | 13 => .bool false
  | _ => undef

set_option maxHeartbeats 4000000 in
set_option maxRecDepth 100000 in
theorem region38_8_22 (a0 a1 b0 b1 c0 c1 e0 e1 f0 f1 : Int) (kg ko cap c : Nat) (W : World) (m1 : (f0 == c0 && f1 == c1) = false) {id : Nat} {ops : Array Oper} {Q : Exit → Act → World → Prop} {a : Act} {w : World}
    (ho : ops = (regOps Try.f38 8)) (hsz : a.tmps.size = 77) (t5 : a.tmps[5]? = some (.int .i64 2)) (t3 : a.tmps[3]? = some (.slice (some ⟨ko, 0, none⟩) 2 cap)) (t0 : a.tmps[0]? = some (.slice (some ⟨kg, 0, none⟩) 3 c)) (t4 : a.tmps[4]? = some (.int .i64 2))
    (h0 : w.drew.cell? ⟨kg, 0, none⟩ = some (.int .i64 a0) ∧ w.drew.cell? ⟨kg, 1, none⟩ = some (.int .i64 a1) ∧ w.drew.cell? ⟨kg, 2, none⟩ = some (.int .i64 b0) ∧ w.drew.cell? ⟨kg, 3, none⟩ = some (.int .i64 b1) ∧ w.drew.cell? ⟨kg, 4, none⟩ = some (.int .i64 c0) ∧ w.drew.cell? ⟨kg, 5, none⟩ = some (.int .i64 c1) ∧ w.drew.cell? ⟨ko, 0, none⟩ = some (.int .i64 e0) ∧ w.drew.cell? ⟨ko, 1, none⟩ = some (.int .i64 e1) ∧ w.drew.cell? ⟨ko, 2, none⟩ = some (.int .i64 f0) ∧ w.drew.cell? ⟨ko, 3, none⟩ = some (.int .i64 f1) ∧ w.drew.ownsRow W.heap.size 23 2 (.slice (some ⟨ko, 0, none⟩) 2 cap) 2 [.int .i64 e0, .int .i64 e1, .int .i64 f0, .int .i64 f1] ∧ Below W.heap.size W w.drew)
    (he : ∀ w', w'.cell? ⟨kg, 0, none⟩ = some (.int .i64 a0) ∧ w'.cell? ⟨kg, 1, none⟩ = some (.int .i64 a1) ∧ w'.cell? ⟨kg, 2, none⟩ = some (.int .i64 b0) ∧ w'.cell? ⟨kg, 3, none⟩ = some (.int .i64 b1) ∧ w'.cell? ⟨kg, 4, none⟩ = some (.int .i64 c0) ∧ w'.cell? ⟨kg, 5, none⟩ = some (.int .i64 c1) ∧ w'.cell? ⟨ko, 0, none⟩ = some (.int .i64 e0) ∧ w'.cell? ⟨ko, 1, none⟩ = some (.int .i64 e1) ∧ w'.cell? ⟨ko, 2, none⟩ = some (.int .i64 f0) ∧ w'.cell? ⟨ko, 3, none⟩ = some (.int .i64 f1) ∧ w'.ownsRow W.heap.size 23 2 (.slice (some ⟨ko, 0, none⟩) 2 cap) 2 [.int .i64 e0, .int .i64 e1, .int .i64 f0, .int .i64 f1] ∧ Below W.heap.size W w' → Q .normal ⟨((((((((((((((a.tmps.setIfInBounds 32 (.int .i64 2)).setIfInBounds 33 (.bool true)).setIfInBounds 34 (.bool true)).setIfInBounds 35 (.slice (some ⟨ko, 0, none⟩) 2 cap)).setIfInBounds 36 (.int .i64 2)).setIfInBounds 37 (.int .i64 1)).setIfInBounds 38 (.pointer (some ⟨ko, 2, none⟩))).setIfInBounds 39 (.agg #[.int .i64 f0, .int .i64 f1])).setIfInBounds 40 (.slice (some ⟨kg, 0, none⟩) 3 c)).setIfInBounds 41 (.int .i64 2)).setIfInBounds 42 (.pointer (some ⟨kg, 4, none⟩))).setIfInBounds 43 (.agg #[.int .i64 c0, .int .i64 c1])).setIfInBounds 44 (.bool false)).setIfInBounds 45 (.bool false)), a.defers⟩ w') :
    (Code.region id ops true).wp Try.prog Q a w := by
  have ht : tidy (regOps Try.f38 8) a.tmps.size = true := by rw [hsz]; kernel_rfl
  refine region_tab (G := Unit) (fun _ => (region38_8_22V c0 c1 f0 f1 kg ko cap c )) (fun _ _ w' => w'.cell? ⟨kg, 0, none⟩ = some (.int .i64 a0) ∧ w'.cell? ⟨kg, 1, none⟩ = some (.int .i64 a1) ∧ w'.cell? ⟨kg, 2, none⟩ = some (.int .i64 b0) ∧ w'.cell? ⟨kg, 3, none⟩ = some (.int .i64 b1) ∧ w'.cell? ⟨kg, 4, none⟩ = some (.int .i64 c0) ∧ w'.cell? ⟨kg, 5, none⟩ = some (.int .i64 c1) ∧ w'.cell? ⟨ko, 0, none⟩ = some (.int .i64 e0) ∧ w'.cell? ⟨ko, 1, none⟩ = some (.int .i64 e1) ∧ w'.cell? ⟨ko, 2, none⟩ = some (.int .i64 f0) ∧ w'.cell? ⟨ko, 3, none⟩ = some (.int .i64 f1) ∧ w'.ownsRow W.heap.size 23 2 (.slice (some ⟨ko, 0, none⟩) 2 cap) 2 [.int .i64 e0, .int .i64 e1, .int .i64 f0, .int .i64 f1] ∧ Below W.heap.size W w') () (by kernel_rfl) ho ht h0 ?_ ?_
  · intro i o hoi g L b w' hun hpre hT hS
    clear he h0 ho hsz ht
    have hi : i < (regOps Try.f38 8).size := (Array.getElem?_eq_some_iff.1 hoi).1
    rw [show (regOps Try.f38 8).size = 14 by kernel_rfl] at hi
    obtain ⟨gc0, gc1, gc2, gc3, gc4, gc5, oc0, oc1, oc2, oc3, hown, HB⟩ := hS
    have hcases : i = 0 ∨ i = 1 ∨ i = 2 ∨ i = 3 ∨ i = 4 ∨ i = 5 ∨ i = 6 ∨ i = 7 ∨ i = 8 ∨ i = 9 ∨ i = 10 ∨ i = 11 ∨ i = 12 ∨ i = 13 := by omega
    rcases hcases with rfl | rfl | rfl | rfl | rfl | rfl | rfl | rfl | rfl | rfl | rfl | rfl | rfl | rfl
    · have hlit : (regOps Try.f38 8)[0]? = some ({ dst := some 32, op := Op.move (Operand.tmp 5), type := 3, pos := "geom.go:483", after := #[], guard := none }) := by kernel_rfl
      obtain rfl := Option.some.inj (hlit.symm.trans hoi)
      have r5 : b.tmps.getD 5 undef = (.int .i64 2) := rd ((hT.old 5 (by kernel_rfl)).trans t5)
      refine op_go hoi (want_all rfl) fun K hK => ?_
      clear hT hpre hun hlit hoi
      go_simp
      exact hK _ _ ⟨(), fun _ _ => rfl, rfl, gc0, gc1, gc2, gc3, gc4, gc5, oc0, oc1, oc2, oc3, hown, HB⟩
    · have hlit : (regOps Try.f38 8)[1]? = some ({ dst := some 33, op := Op.binOp BinOp.gtr 3 (Operand.tmp 32) (Operand.const (Value.int IntKind.i64 0)) 3, type := 4, pos := "geom.go:483", after := #[{ on := 0, ground := Ground.data }], guard := none }) := by kernel_rfl
      obtain rfl := Option.some.inj (hlit.symm.trans hoi)
      have r32 : b.tmps.getD 32 undef = (.int .i64 2) := rd (hT.at 0 (by kernel_rfl) (pre_of hpre 0 (by kernel_rfl)))
      refine op_go hoi (want_all rfl) fun K hK => ?_
      clear hT hpre hun hlit hoi
      go_simp
      exact hK _ _ ⟨(), fun _ _ => rfl, rfl, gc0, gc1, gc2, gc3, gc4, gc5, oc0, oc1, oc2, oc3, hown, HB⟩
    · have hlit : (regOps Try.f38 8)[2]? = some ({ dst := some 34, op := Op.move (Operand.tmp 33), type := 4, pos := "geom.go:483", after := #[{ on := 1, ground := Ground.data }], guard := none }) := by kernel_rfl
      obtain rfl := Option.some.inj (hlit.symm.trans hoi)
      have r33 : b.tmps.getD 33 undef = (.bool true) := rd (hT.at 1 (by kernel_rfl) (pre_of hpre 1 (by kernel_rfl)))
      refine op_go hoi (want_all rfl) fun K hK => ?_
      clear hT hpre hun hlit hoi
      go_simp
      exact hK _ _ ⟨(), fun _ _ => rfl, rfl, gc0, gc1, gc2, gc3, gc4, gc5, oc0, oc1, oc2, oc3, hown, HB⟩
    · have hlit : (regOps Try.f38 8)[3]? = some ({ dst := some 35, op := Op.move (Operand.tmp 3), type := 41, pos := "geom.go:483", after := #[{ on := 2, ground := Ground.guard }], guard := some (2, true) }) := by kernel_rfl
      obtain rfl := Option.some.inj (hlit.symm.trans hoi)
      have r3 : b.tmps.getD 3 undef = (.slice (some ⟨ko, 0, none⟩) 2 cap) := rd ((hT.old 3 (by kernel_rfl)).trans t3)
      refine op_go hoi (want_yes rfl (d := 34) (by kernel_rfl) (hT.at 2 (by kernel_rfl) (pre_of hpre 2 (by kernel_rfl)))) fun K hK => ?_
      clear hT hpre hun hlit hoi
      go_simp
      exact hK _ _ ⟨(), fun _ _ => rfl, rfl, gc0, gc1, gc2, gc3, gc4, gc5, oc0, oc1, oc2, oc3, hown, HB⟩
    · have hlit : (regOps Try.f38 8)[4]? = some ({ dst := some 36, op := Op.move (Operand.tmp 5), type := 3, pos := "geom.go:483", after := #[{ on := 2, ground := Ground.guard }], guard := some (2, true) }) := by kernel_rfl
      obtain rfl := Option.some.inj (hlit.symm.trans hoi)
      have r5 : b.tmps.getD 5 undef = (.int .i64 2) := rd ((hT.old 5 (by kernel_rfl)).trans t5)
      refine op_go hoi (want_yes rfl (d := 34) (by kernel_rfl) (hT.at 2 (by kernel_rfl) (pre_of hpre 2 (by kernel_rfl)))) fun K hK => ?_
      clear hT hpre hun hlit hoi
      go_simp
      exact hK _ _ ⟨(), fun _ _ => rfl, rfl, gc0, gc1, gc2, gc3, gc4, gc5, oc0, oc1, oc2, oc3, hown, HB⟩
    · have hlit : (regOps Try.f38 8)[5]? = some ({ dst := some 37, op := Op.binOp BinOp.sub 3 (Operand.tmp 36) (Operand.const (Value.int IntKind.i64 1)) 3, type := 3, pos := "geom.go:483", after := #[{ on := 4, ground := Ground.data }, { on := 2, ground := Ground.guard }], guard := some (2, true) }) := by kernel_rfl
      obtain rfl := Option.some.inj (hlit.symm.trans hoi)
      have r36 : b.tmps.getD 36 undef = (.int .i64 2) := rd (hT.at 4 (by kernel_rfl) (pre_of hpre 4 (by kernel_rfl)))
      refine op_go hoi (want_yes rfl (d := 34) (by kernel_rfl) (hT.at 2 (by kernel_rfl) (pre_of hpre 2 (by kernel_rfl)))) fun K hK => ?_
      clear hT hpre hun hlit hoi
      go_simp
      exact hK _ _ ⟨(), fun _ _ => rfl, rfl, gc0, gc1, gc2, gc3, gc4, gc5, oc0, oc1, oc2, oc3, hown, HB⟩
    · have hlit : (regOps Try.f38 8)[6]? = some ({ dst := some 38, op := Op.indexAddr 41 (Operand.tmp 35) (Operand.tmp 37), type := 0, pos := "geom.go:483", after := #[{ on := 3, ground := Ground.data }, { on := 5, ground := Ground.data }, { on := 2, ground := Ground.guard }], guard := some (2, true) }) := by kernel_rfl
      obtain rfl := Option.some.inj (hlit.symm.trans hoi)
      have r35 : b.tmps.getD 35 undef = (.slice (some ⟨ko, 0, none⟩) 2 cap) := rd (hT.at 3 (by kernel_rfl) (pre_of hpre 3 (by kernel_rfl)))
      have r37 : b.tmps.getD 37 undef = (.int .i64 1) := rd (hT.at 5 (by kernel_rfl) (pre_of hpre 5 (by kernel_rfl)))
      refine op_go hoi (want_yes rfl (d := 34) (by kernel_rfl) (hT.at 2 (by kernel_rfl) (pre_of hpre 2 (by kernel_rfl)))) fun K hK => ?_
      clear hT hpre hun hlit hoi
      go_simp
      exact hK _ _ ⟨(), fun _ _ => rfl, rfl, gc0, gc1, gc2, gc3, gc4, gc5, oc0, oc1, oc2, oc3, hown, HB⟩
    · have hlit : (regOps Try.f38 8)[7]? = some ({ dst := some 39, op := Op.load 23 (Operand.tmp 38), type := 23, pos := "geom.go:483", after := #[{ on := 6, ground := Ground.data }, { on := 2, ground := Ground.guard }], guard := some (2, true) }) := by kernel_rfl
      obtain rfl := Option.some.inj (hlit.symm.trans hoi)
      have r38 : b.tmps.getD 38 undef = (.pointer (some ⟨ko, 2, none⟩)) := rd (hT.at 6 (by kernel_rfl) (pre_of hpre 6 (by kernel_rfl)))
      refine op_go hoi (want_yes rfl (d := 34) (by kernel_rfl) (hT.at 2 (by kernel_rfl) (pre_of hpre 2 (by kernel_rfl)))) fun K hK => ?_
      clear hT hpre hun hlit hoi
      go_simp
      exact hK _ _ ⟨(), fun _ _ => rfl, rfl, gc0, gc1, gc2, gc3, gc4, gc5, oc0, oc1, oc2, oc3, hown, HB⟩
    · have hlit : (regOps Try.f38 8)[8]? = some ({ dst := some 40, op := Op.move (Operand.tmp 0), type := 41, pos := "geom.go:483", after := #[{ on := 2, ground := Ground.guard }], guard := some (2, true) }) := by kernel_rfl
      obtain rfl := Option.some.inj (hlit.symm.trans hoi)
      have r0 : b.tmps.getD 0 undef = (.slice (some ⟨kg, 0, none⟩) 3 c) := rd ((hT.old 0 (by kernel_rfl)).trans t0)
      refine op_go hoi (want_yes rfl (d := 34) (by kernel_rfl) (hT.at 2 (by kernel_rfl) (pre_of hpre 2 (by kernel_rfl)))) fun K hK => ?_
      clear hT hpre hun hlit hoi
      go_simp
      exact hK _ _ ⟨(), fun _ _ => rfl, rfl, gc0, gc1, gc2, gc3, gc4, gc5, oc0, oc1, oc2, oc3, hown, HB⟩
    · have hlit : (regOps Try.f38 8)[9]? = some ({ dst := some 41, op := Op.move (Operand.tmp 4), type := 3, pos := "geom.go:483", after := #[{ on := 2, ground := Ground.guard }], guard := some (2, true) }) := by kernel_rfl
      obtain rfl := Option.some.inj (hlit.symm.trans hoi)
      have r4 : b.tmps.getD 4 undef = (.int .i64 2) := rd ((hT.old 4 (by kernel_rfl)).trans t4)
      refine op_go hoi (want_yes rfl (d := 34) (by kernel_rfl) (hT.at 2 (by kernel_rfl) (pre_of hpre 2 (by kernel_rfl)))) fun K hK => ?_
      clear hT hpre hun hlit hoi
      go_simp
      exact hK _ _ ⟨(), fun _ _ => rfl, rfl, gc0, gc1, gc2, gc3, gc4, gc5, oc0, oc1, oc2, oc3, hown, HB⟩
    · have hlit : (regOps Try.f38 8)[10]? = some ({ dst := some 42, op := Op.indexAddr 41 (Operand.tmp 40) (Operand.tmp 41), type := 0, pos := "geom.go:483", after := #[{ on := 8, ground := Ground.data }, { on := 9, ground := Ground.data }, { on := 2, ground := Ground.guard }], guard := some (2, true) }) := by kernel_rfl
      obtain rfl := Option.some.inj (hlit.symm.trans hoi)
      have r40 : b.tmps.getD 40 undef = (.slice (some ⟨kg, 0, none⟩) 3 c) := rd (hT.at 8 (by kernel_rfl) (pre_of hpre 8 (by kernel_rfl)))
      have r41 : b.tmps.getD 41 undef = (.int .i64 2) := rd (hT.at 9 (by kernel_rfl) (pre_of hpre 9 (by kernel_rfl)))
      refine op_go hoi (want_yes rfl (d := 34) (by kernel_rfl) (hT.at 2 (by kernel_rfl) (pre_of hpre 2 (by kernel_rfl)))) fun K hK => ?_
      clear hT hpre hun hlit hoi
      go_simp
      exact hK _ _ ⟨(), fun _ _ => rfl, rfl, gc0, gc1, gc2, gc3, gc4, gc5, oc0, oc1, oc2, oc3, hown, HB⟩
    · have hlit : (regOps Try.f38 8)[11]? = some ({ dst := some 43, op := Op.load 23 (Operand.tmp 42), type := 23, pos := "geom.go:483", after := #[{ on := 10, ground := Ground.data }, { on := 2, ground := Ground.guard }], guard := some (2, true) }) := by kernel_rfl
      obtain rfl := Option.some.inj (hlit.symm.trans hoi)
      have r42 : b.tmps.getD 42 undef = (.pointer (some ⟨kg, 4, none⟩)) := rd (hT.at 10 (by kernel_rfl) (pre_of hpre 10 (by kernel_rfl)))
      refine op_go hoi (want_yes rfl (d := 34) (by kernel_rfl) (hT.at 2 (by kernel_rfl) (pre_of hpre 2 (by kernel_rfl)))) fun K hK => ?_
      clear hT hpre hun hlit hoi
      go_simp
      exact hK _ _ ⟨(), fun _ _ => rfl, rfl, gc0, gc1, gc2, gc3, gc4, gc5, oc0, oc1, oc2, oc3, hown, HB⟩
    · have hlit : (regOps Try.f38 8)[12]? = some ({ dst := some 44, op := Op.binOp BinOp.eql 23 (Operand.tmp 39) (Operand.tmp 43) 23, type := 4, pos := "geom.go:483", after := #[{ on := 7, ground := Ground.data }, { on := 11, ground := Ground.data }, { on := 2, ground := Ground.guard }], guard := some (2, true) }) := by kernel_rfl
      obtain rfl := Option.some.inj (hlit.symm.trans hoi)
      have r39 : b.tmps.getD 39 undef = (.agg #[.int .i64 f0, .int .i64 f1]) := rd (hT.at 7 (by kernel_rfl) (pre_of hpre 7 (by kernel_rfl)))
      have r43 : b.tmps.getD 43 undef = (.agg #[.int .i64 c0, .int .i64 c1]) := rd (hT.at 11 (by kernel_rfl) (pre_of hpre 11 (by kernel_rfl)))
      refine op_go hoi (want_yes rfl (d := 34) (by kernel_rfl) (hT.at 2 (by kernel_rfl) (pre_of hpre 2 (by kernel_rfl)))) fun K hK => ?_
      clear hT hpre hun hlit hoi
      go_simp
      exact hK _ _ ⟨(), fun _ _ => rfl, rfl, gc0, gc1, gc2, gc3, gc4, gc5, oc0, oc1, oc2, oc3, hown, HB⟩
    · have hlit : (regOps Try.f38 8)[13]? = some ({ dst := some 45, op := Op.pick (Operand.tmp 34) (Operand.tmp 44) (Operand.const (Value.bool false)), type := 4, pos := "geom.go:483", after := #[{ on := 2, ground := Ground.data }, { on := 12, ground := Ground.data }], guard := none }) := by kernel_rfl
      obtain rfl := Option.some.inj (hlit.symm.trans hoi)
      have r34 : b.tmps.getD 34 undef = (.bool true) := rd (hT.at 2 (by kernel_rfl) (pre_of hpre 2 (by kernel_rfl)))
      have r44 : b.tmps.getD 44 undef = (.bool false) := rd (hT.at 12 (by kernel_rfl) (pre_of hpre 12 (by kernel_rfl)))
      refine op_go hoi (want_all rfl) fun K hK => ?_
      clear hT hpre hun hlit hoi
      go_simp
      exact hK _ _ ⟨(), fun _ _ => rfl, rfl, gc0, gc1, gc2, gc3, gc4, gc5, oc0, oc1, oc2, oc3, hown, HB⟩
  · intro g b w' hT hS
    rw [hT.all ht]
    have hn : (regOps Try.f38 8).size = 14 := by kernel_rfl
    rw [hn]
    exact he w' hS

end Go.Proofs.Ytandgbpbabmdfaa
