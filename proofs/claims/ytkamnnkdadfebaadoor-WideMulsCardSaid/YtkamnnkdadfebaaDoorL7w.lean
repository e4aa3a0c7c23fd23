import Derived.Test.YtkamnnkdadfebaaDoorRg
import Derived.Test.YtkamnnkdadfebaaDoorB7
namespace Go.Proofs.YtkamnnkdadfebaaDoor
open Go.RowKit
attribute [local go_sem high] eq24 eq37


/-- What each operation of the region leaves. -/
def region7_2V (aa bb p0 p1 : Int) : Nat → Value
  | 0 => .agg #[.int .i64 p0, .int .u64 p1]
  | 1 => .agg #[.int .i64 p0, .int .u64 p1]
  | 2 => .int .i64 aa
  | 3 => .int .i64 bb
  | 4 => .agg #[.int .i64 p0, .int .u64 p1]
  | 5 => .bool false
  | 6 => .bool false
  | 7 => .agg #[.int .i64 p0, .int .u64 p1]
  | 8 => .int .i64 bb
  | 9 => .int .i64 aa
  | 10 => .agg #[.int .i64 p0, .int .u64 p1]
  | 11 => .bool false
  | 12 => .bool false
  | _ => undef

set_option maxHeartbeats 4000000 in
set_option maxRecDepth 100000 in
theorem region7_2 (aa bb p0 p1 : Int) (kp : Nat) (W : World) (m1 : ∀ w : World, Calls Tryd.prog 28 #[.int .i64 aa, .int .i64 bb] w fun e w' => e = .returned (.agg #[.int .i64 p0, .int .u64 p1]) ∧ Below w.heap.size w w') (m2 : ∀ w : World, Calls Tryd.prog 12 #[.int .i64 bb, .int .i64 aa] w fun e w' => e = .returned (.agg #[.int .i64 p0, .int .u64 p1]) ∧ Below w.heap.size w w') {id : Nat} {ops : Array Oper} {Q : Exit → Act → World → Prop} {a : Act} {w : World}
    (ho : ops = (regOps Tryd.f7 2)) (hsz : a.tmps.size = 57) (t0 : a.tmps[0]? = some (.int .i64 aa)) (t1 : a.tmps[1]? = some (.int .i64 bb)) (t5 : a.tmps[5]? = some (.pointer (some ⟨kp, 0, none⟩)))
    (h0 : w.drew.cell? ⟨kp, 0, none⟩ = some (.int .i64 p0) ∧ w.drew.cell? ⟨kp, 1, none⟩ = some (.int .u64 p1) ∧ Below W.heap.size W w.drew)
    (he : ∀ w', w'.cell? ⟨kp, 0, none⟩ = some (.int .i64 p0) ∧ w'.cell? ⟨kp, 1, none⟩ = some (.int .u64 p1) ∧ Below W.heap.size W w' → Q .normal ⟨(((((((((((((a.tmps.setIfInBounds 11 (.agg #[.int .i64 p0, .int .u64 p1])).setIfInBounds 12 (.agg #[.int .i64 p0, .int .u64 p1])).setIfInBounds 13 (.int .i64 aa)).setIfInBounds 14 (.int .i64 bb)).setIfInBounds 15 (.agg #[.int .i64 p0, .int .u64 p1])).setIfInBounds 16 (.bool false)).setIfInBounds 17 (.bool false)).setIfInBounds 18 (.agg #[.int .i64 p0, .int .u64 p1])).setIfInBounds 19 (.int .i64 bb)).setIfInBounds 20 (.int .i64 aa)).setIfInBounds 21 (.agg #[.int .i64 p0, .int .u64 p1])).setIfInBounds 22 (.bool false)).setIfInBounds 23 (.bool false)), a.defers⟩ w') :
    (Code.region id ops true).wp Tryd.prog Q a w := by
  have ht : tidy (regOps Tryd.f7 2) a.tmps.size = true := by rw [hsz]; kernel_rfl
  refine region_tab (G := Unit) (fun _ => (region7_2V aa bb p0 p1  )) (fun _ _ w' => w'.cell? ⟨kp, 0, none⟩ = some (.int .i64 p0) ∧ w'.cell? ⟨kp, 1, none⟩ = some (.int .u64 p1) ∧ Below W.heap.size W w') () (by kernel_rfl) ho ht h0 ?_ ?_
  · intro i o hoi g L b w' hun hpre hT hS
    clear he h0 ho hsz ht
    have hi : i < (regOps Tryd.f7 2).size := (Array.getElem?_eq_some_iff.1 hoi).1
    rw [show (regOps Tryd.f7 2).size = 13 by kernel_rfl] at hi
    obtain ⟨pc0, pc1, HB⟩ := hS
    have hcases : i = 0 ∨ i = 1 ∨ i = 2 ∨ i = 3 ∨ i = 4 ∨ i = 5 ∨ i = 6 ∨ i = 7 ∨ i = 8 ∨ i = 9 ∨ i = 10 ∨ i = 11 ∨ i = 12 := by omega
    rcases hcases with rfl | rfl | rfl | rfl | rfl | rfl | rfl | rfl | rfl | rfl | rfl | rfl | rfl
    · have hlit : (regOps Tryd.f7 2)[0]? = some ({ dst := some 11, op := Op.load 24 (Operand.tmp 5), type := 24, pos := "law.go:41", after := #[], guard := none }) := by kernel_rfl
      obtain rfl := Option.some.inj (hlit.symm.trans hoi)
      have r5 : b.tmps.getD 5 undef = (.pointer (some ⟨kp, 0, none⟩)) := rd ((hT.old 5 (by kernel_rfl)).trans t5)
      refine op_go hoi (want_all rfl) fun K hK => ?_
      clear hT hpre hun hlit hoi
      go_simp
      exact hK _ _ ⟨(), fun _ _ => rfl, rfl, pc0, pc1, HB⟩
    · have hlit : (regOps Tryd.f7 2)[1]? = some ({ dst := some 12, op := Op.call { callee := Callee.value (Operand.func 17), args := #[Operand.tmp 11], argTypes := #[24] }, type := 37, pos := "law.go:41", after := #[{ on := 0, ground := Ground.data }], guard := none }) := by kernel_rfl
      obtain rfl := Option.some.inj (hlit.symm.trans hoi)
      have r11 : b.tmps.getD 11 undef = (.agg #[.int .i64 p0, .int .u64 p1]) := rd (hT.at 0 (by kernel_rfl) (pre_of hpre 0 (by kernel_rfl)))
      refine op_go hoi (want_all rfl) fun K hK => ?_
      clear hT hpre hun hlit hoi
      go_simp
      go_at_call 17
      refine (of17 _ _ _).mono ?_; rintro e w2 ⟨rfl, hb⟩; replace pc0 := ck hb (a := ⟨kp, 0, none⟩) (v := .int .i64 p0) (by go_simp); replace pc1 := ck hb (a := ⟨kp, 1, none⟩) (v := .int .u64 p1) (by go_simp); replace HB : Below W.heap.size W w2 := bt HB hb; clear hb
      exact hK _ _ ⟨(), fun _ _ => rfl, rfl, pc0, pc1, HB⟩
    · have hlit : (regOps Tryd.f7 2)[2]? = some ({ dst := some 13, op := Op.move (Operand.tmp 0), type := 3, pos := "law.go:41", after := #[], guard := none }) := by kernel_rfl
      obtain rfl := Option.some.inj (hlit.symm.trans hoi)
      have r0 : b.tmps.getD 0 undef = (.int .i64 aa) := rd ((hT.old 0 (by kernel_rfl)).trans t0)
      refine op_go hoi (want_all rfl) fun K hK => ?_
      clear hT hpre hun hlit hoi
      go_simp
      exact hK _ _ ⟨(), fun _ _ => rfl, rfl, pc0, pc1, HB⟩
    · have hlit : (regOps Tryd.f7 2)[3]? = some ({ dst := some 14, op := Op.move (Operand.tmp 1), type := 3, pos := "law.go:41", after := #[], guard := none }) := by kernel_rfl
      obtain rfl := Option.some.inj (hlit.symm.trans hoi)
      have r1 : b.tmps.getD 1 undef = (.int .i64 bb) := rd ((hT.old 1 (by kernel_rfl)).trans t1)
      refine op_go hoi (want_all rfl) fun K hK => ?_
      clear hT hpre hun hlit hoi
      go_simp
      exact hK _ _ ⟨(), fun _ _ => rfl, rfl, pc0, pc1, HB⟩
    · have hlit : (regOps Tryd.f7 2)[4]? = some ({ dst := some 15, op := Op.call { callee := Callee.value (Operand.func 28), args := #[Operand.tmp 13, Operand.tmp 14], argTypes := #[3, 3] }, type := 37, pos := "law.go:41", after := #[{ on := 2, ground := Ground.data }, { on := 3, ground := Ground.data }, { on := 1, ground := Ground.chain }], guard := none }) := by kernel_rfl
      obtain rfl := Option.some.inj (hlit.symm.trans hoi)
      have r13 : b.tmps.getD 13 undef = (.int .i64 aa) := rd (hT.at 2 (by kernel_rfl) (pre_of hpre 2 (by kernel_rfl)))
      have r14 : b.tmps.getD 14 undef = (.int .i64 bb) := rd (hT.at 3 (by kernel_rfl) (pre_of hpre 3 (by kernel_rfl)))
      refine op_go hoi (want_all rfl) fun K hK => ?_
      clear hT hpre hun hlit hoi
      go_simp
      go_at_call 28
      refine (m1 _).mono ?_; rintro e w2 ⟨rfl, hb⟩; replace pc0 := ck hb (a := ⟨kp, 0, none⟩) (v := .int .i64 p0) (by go_simp); replace pc1 := ck hb (a := ⟨kp, 1, none⟩) (v := .int .u64 p1) (by go_simp); replace HB : Below W.heap.size W w2 := bt HB hb; clear hb
      exact hK _ _ ⟨(), fun _ _ => rfl, rfl, pc0, pc1, HB⟩
    · have hlit : (regOps Tryd.f7 2)[5]? = some ({ dst := some 16, op := Op.binOp BinOp.neq 37 (Operand.tmp 12) (Operand.tmp 15) 37, type := 4, pos := "law.go:41", after := #[{ on := 1, ground := Ground.data }, { on := 4, ground := Ground.data }], guard := none }) := by kernel_rfl
      obtain rfl := Option.some.inj (hlit.symm.trans hoi)
      have r12 : b.tmps.getD 12 undef = (.agg #[.int .i64 p0, .int .u64 p1]) := rd (hT.at 1 (by kernel_rfl) (pre_of hpre 1 (by kernel_rfl)))
      have r15 : b.tmps.getD 15 undef = (.agg #[.int .i64 p0, .int .u64 p1]) := rd (hT.at 4 (by kernel_rfl) (pre_of hpre 4 (by kernel_rfl)))
      refine op_go hoi (want_all rfl) fun K hK => ?_
      clear hT hpre hun hlit hoi
      go_simp
      exact hK _ _ ⟨(), fun _ _ => rfl, rfl, pc0, pc1, HB⟩
    · have hlit : (regOps Tryd.f7 2)[6]? = some ({ dst := some 17, op := Op.move (Operand.tmp 16), type := 4, pos := "law.go:41", after := #[{ on := 5, ground := Ground.data }, { on := 4, ground := Ground.chain }], guard := none }) := by kernel_rfl
      obtain rfl := Option.some.inj (hlit.symm.trans hoi)
      have r16 : b.tmps.getD 16 undef = (.bool false) := rd (hT.at 5 (by kernel_rfl) (pre_of hpre 5 (by kernel_rfl)))
      refine op_go hoi (want_all rfl) fun K hK => ?_
      clear hT hpre hun hlit hoi
      go_simp
      exact hK _ _ ⟨(), fun _ _ => rfl, rfl, pc0, pc1, HB⟩
    · have hlit : (regOps Tryd.f7 2)[7]? = some ({ dst := some 18, op := Op.load 24 (Operand.tmp 5), type := 24, pos := "law.go:41", after := #[{ on := 6, ground := Ground.guard }], guard := some (6, false) }) := by kernel_rfl
      obtain rfl := Option.some.inj (hlit.symm.trans hoi)
      have r5 : b.tmps.getD 5 undef = (.pointer (some ⟨kp, 0, none⟩)) := rd ((hT.old 5 (by kernel_rfl)).trans t5)
      refine op_go hoi (want_yes rfl (d := 17) (by kernel_rfl) (hT.at 6 (by kernel_rfl) (pre_of hpre 6 (by kernel_rfl)))) fun K hK => ?_
      clear hT hpre hun hlit hoi
      go_simp
      exact hK _ _ ⟨(), fun _ _ => rfl, rfl, pc0, pc1, HB⟩
    · have hlit : (regOps Tryd.f7 2)[8]? = some ({ dst := some 19, op := Op.move (Operand.tmp 1), type := 3, pos := "law.go:41", after := #[{ on := 6, ground := Ground.guard }], guard := some (6, false) }) := by kernel_rfl
      obtain rfl := Option.some.inj (hlit.symm.trans hoi)
      have r1 : b.tmps.getD 1 undef = (.int .i64 bb) := rd ((hT.old 1 (by kernel_rfl)).trans t1)
      refine op_go hoi (want_yes rfl (d := 17) (by kernel_rfl) (hT.at 6 (by kernel_rfl) (pre_of hpre 6 (by kernel_rfl)))) fun K hK => ?_
      clear hT hpre hun hlit hoi
      go_simp
      exact hK _ _ ⟨(), fun _ _ => rfl, rfl, pc0, pc1, HB⟩
    · have hlit : (regOps Tryd.f7 2)[9]? = some ({ dst := some 20, op := Op.move (Operand.tmp 0), type := 3, pos := "law.go:41", after := #[{ on := 6, ground := Ground.guard }], guard := some (6, false) }) := by kernel_rfl
      obtain rfl := Option.some.inj (hlit.symm.trans hoi)
      have r0 : b.tmps.getD 0 undef = (.int .i64 aa) := rd ((hT.old 0 (by kernel_rfl)).trans t0)
      refine op_go hoi (want_yes rfl (d := 17) (by kernel_rfl) (hT.at 6 (by kernel_rfl) (pre_of hpre 6 (by kernel_rfl)))) fun K hK => ?_
      clear hT hpre hun hlit hoi
      go_simp
      exact hK _ _ ⟨(), fun _ _ => rfl, rfl, pc0, pc1, HB⟩
    · have hlit : (regOps Tryd.f7 2)[10]? = some ({ dst := some 21, op := Op.call { callee := Callee.value (Operand.func 12), args := #[Operand.tmp 19, Operand.tmp 20], argTypes := #[3, 3] }, type := 24, pos := "law.go:41", after := #[{ on := 8, ground := Ground.data }, { on := 9, ground := Ground.data }, { on := 6, ground := Ground.chain }, { on := 6, ground := Ground.guard }], guard := some (6, false) }) := by kernel_rfl
      obtain rfl := Option.some.inj (hlit.symm.trans hoi)
      have r19 : b.tmps.getD 19 undef = (.int .i64 bb) := rd (hT.at 8 (by kernel_rfl) (pre_of hpre 8 (by kernel_rfl)))
      have r20 : b.tmps.getD 20 undef = (.int .i64 aa) := rd (hT.at 9 (by kernel_rfl) (pre_of hpre 9 (by kernel_rfl)))
      refine op_go hoi (want_yes rfl (d := 17) (by kernel_rfl) (hT.at 6 (by kernel_rfl) (pre_of hpre 6 (by kernel_rfl)))) fun K hK => ?_
      clear hT hpre hun hlit hoi
      go_simp
      go_at_call 12
      refine (m2 _).mono ?_; rintro e w2 ⟨rfl, hb⟩; replace pc0 := ck hb (a := ⟨kp, 0, none⟩) (v := .int .i64 p0) (by go_simp); replace pc1 := ck hb (a := ⟨kp, 1, none⟩) (v := .int .u64 p1) (by go_simp); replace HB : Below W.heap.size W w2 := bt HB hb; clear hb
      exact hK _ _ ⟨(), fun _ _ => rfl, rfl, pc0, pc1, HB⟩
    · have hlit : (regOps Tryd.f7 2)[11]? = some ({ dst := some 22, op := Op.binOp BinOp.neq 24 (Operand.tmp 18) (Operand.tmp 21) 24, type := 4, pos := "law.go:41", after := #[{ on := 7, ground := Ground.data }, { on := 10, ground := Ground.data }, { on := 6, ground := Ground.guard }], guard := some (6, false) }) := by kernel_rfl
      obtain rfl := Option.some.inj (hlit.symm.trans hoi)
      have r18 : b.tmps.getD 18 undef = (.agg #[.int .i64 p0, .int .u64 p1]) := rd (hT.at 7 (by kernel_rfl) (pre_of hpre 7 (by kernel_rfl)))
      have r21 : b.tmps.getD 21 undef = (.agg #[.int .i64 p0, .int .u64 p1]) := rd (hT.at 10 (by kernel_rfl) (pre_of hpre 10 (by kernel_rfl)))
      refine op_go hoi (want_yes rfl (d := 17) (by kernel_rfl) (hT.at 6 (by kernel_rfl) (pre_of hpre 6 (by kernel_rfl)))) fun K hK => ?_
      clear hT hpre hun hlit hoi
      go_simp
      exact hK _ _ ⟨(), fun _ _ => rfl, rfl, pc0, pc1, HB⟩
    · have hlit : (regOps Tryd.f7 2)[12]? = some ({ dst := some 23, op := Op.pick (Operand.tmp 17) (Operand.const (Value.bool true)) (Operand.tmp 22), type := 4, pos := "law.go:41", after := #[{ on := 6, ground := Ground.data }, { on := 11, ground := Ground.data }], guard := none }) := by kernel_rfl
      obtain rfl := Option.some.inj (hlit.symm.trans hoi)
      have r17 : b.tmps.getD 17 undef = (.bool false) := rd (hT.at 6 (by kernel_rfl) (pre_of hpre 6 (by kernel_rfl)))
      have r22 : b.tmps.getD 22 undef = (.bool false) := rd (hT.at 11 (by kernel_rfl) (pre_of hpre 11 (by kernel_rfl)))
      refine op_go hoi (want_all rfl) fun K hK => ?_
      clear hT hpre hun hlit hoi
      go_simp
      exact hK _ _ ⟨(), fun _ _ => rfl, rfl, pc0, pc1, HB⟩
  · intro g b w' hT hS
    rw [hT.all ht]
    have hn : (regOps Tryd.f7 2).size = 13 := by kernel_rfl
    rw [hn]
    exact he w' hS

/-- What each operation of the region leaves. -/
def region7_7V (aa bb na nb p0 p1 q0 q1 : Int) : Nat → Value
  | 0 => .int .i64 aa
  | 1 => .int .i64 na
  | 2 => .int .i64 bb
  | 3 => .int .i64 nb
  | 4 => .agg #[.int .i64 p0, .int .u64 p1]
  | 5 => .agg #[.int .i64 p0, .int .u64 p1]
  | 6 => .bool true
  | 7 => .bool true
  | 8 => .bool true
  | 9 => .bool true
  | 10 => .bool true
  | 11 => .int .i64 aa
  | 12 => .int .i64 na
  | 13 => .int .i64 bb
  | 14 => .agg #[.int .i64 q0, .int .u64 q1]
  | 15 => .agg #[.int .i64 q0, .int .u64 q1]
  | 16 => .bool true
  | 17 => .bool true
  | 18 => .bool true
  | 19 => .bool true
  | 20 => .bool true
  | 21 => .bool true
  | _ => undef

set_option maxHeartbeats 4000000 in
set_option maxRecDepth 100000 in
theorem region7_7 (aa bb na nb p0 p1 q0 q1 : Int) (kp kq : Nat) (W : World) (htab : Tab W) (m1 : ∀ w : World, Calls Tryd.prog 12 #[.int .i64 na, .int .i64 nb] w fun e w' => e = .returned (.agg #[.int .i64 p0, .int .u64 p1]) ∧ Below w.heap.size w w') (m2 : ∀ w : World, Calls Tryd.prog 12 #[.int .i64 na, .int .i64 bb] w fun e w' => e = .returned (.agg #[.int .i64 q0, .int .u64 q1]) ∧ Below w.heap.size w w') (e1 : IntKind.i64.wrap (-aa) = na) (e2 : IntKind.i64.wrap (-bb) = nb) {id : Nat} {ops : Array Oper} {Q : Exit → Act → World → Prop} {a : Act} {w : World}
    (ho : ops = (regOps Tryd.f7 7)) (hsz : a.tmps.size = 57) (t0 : a.tmps[0]? = some (.int .i64 aa)) (t1 : a.tmps[1]? = some (.int .i64 bb)) (t5 : a.tmps[5]? = some (.pointer (some ⟨kp, 0, none⟩))) (t6 : a.tmps[6]? = some (.pointer (some ⟨kq, 0, none⟩))) (t7 : a.tmps[7]? = some (.bool true))
    (h0 : w.drew.cell? ⟨kp, 0, none⟩ = some (.int .i64 p0) ∧ w.drew.cell? ⟨kp, 1, none⟩ = some (.int .u64 p1) ∧ w.drew.cell? ⟨kq, 0, none⟩ = some (.int .i64 q0) ∧ w.drew.cell? ⟨kq, 1, none⟩ = some (.int .u64 q1) ∧ Below W.heap.size W w.drew)
    (he : ∀ w', w'.cell? ⟨kp, 0, none⟩ = some (.int .i64 p0) ∧ w'.cell? ⟨kp, 1, none⟩ = some (.int .u64 p1) ∧ w'.cell? ⟨kq, 0, none⟩ = some (.int .i64 q0) ∧ w'.cell? ⟨kq, 1, none⟩ = some (.int .u64 q1) ∧ Below W.heap.size W w' → Q .normal ⟨((((((((((((((((((((((a.tmps.setIfInBounds 36 (.int .i64 aa)).setIfInBounds 37 (.int .i64 na)).setIfInBounds 38 (.int .i64 bb)).setIfInBounds 39 (.int .i64 nb)).setIfInBounds 40 (.agg #[.int .i64 p0, .int .u64 p1])).setIfInBounds 41 (.agg #[.int .i64 p0, .int .u64 p1])).setIfInBounds 42 (.bool true)).setIfInBounds 43 (.bool true)).setIfInBounds 44 (.bool true)).setIfInBounds 45 (.bool true)).setIfInBounds 46 (.bool true)).setIfInBounds 47 (.int .i64 aa)).setIfInBounds 48 (.int .i64 na)).setIfInBounds 49 (.int .i64 bb)).setIfInBounds 50 (.agg #[.int .i64 q0, .int .u64 q1])).setIfInBounds 51 (.agg #[.int .i64 q0, .int .u64 q1])).setIfInBounds 52 (.bool true)).setIfInBounds 53 (.bool true)).setIfInBounds 54 (.bool true)).setIfInBounds 55 (.bool true)).setIfInBounds 56 (.bool true)).setIfInBounds 4 (.bool true)), a.defers⟩ w') :
    (Code.region id ops true).wp Tryd.prog Q a w := by
  have ht : tidy (regOps Tryd.f7 7) a.tmps.size = true := by rw [hsz]; kernel_rfl
  refine region_tab (G := Unit) (fun _ => (region7_7V aa bb na nb p0 p1 q0 q1  )) (fun _ _ w' => w'.cell? ⟨kp, 0, none⟩ = some (.int .i64 p0) ∧ w'.cell? ⟨kp, 1, none⟩ = some (.int .u64 p1) ∧ w'.cell? ⟨kq, 0, none⟩ = some (.int .i64 q0) ∧ w'.cell? ⟨kq, 1, none⟩ = some (.int .u64 q1) ∧ Below W.heap.size W w') () (by kernel_rfl) ho ht h0 ?_ ?_
  · intro i o hoi g L b w' hun hpre hT hS
    clear he h0 ho hsz ht
    have hi : i < (regOps Tryd.f7 7).size := (Array.getElem?_eq_some_iff.1 hoi).1
    rw [show (regOps Tryd.f7 7).size = 22 by kernel_rfl] at hi
    obtain ⟨pc0, pc1, qc0, qc1, HB⟩ := hS
    have hcases : i = 0 ∨ i = 1 ∨ i = 2 ∨ i = 3 ∨ i = 4 ∨ i = 5 ∨ i = 6 ∨ i = 7 ∨ i = 8 ∨ i = 9 ∨ i = 10 ∨ i = 11 ∨ i = 12 ∨ i = 13 ∨ i = 14 ∨ i = 15 ∨ i = 16 ∨ i = 17 ∨ i = 18 ∨ i = 19 ∨ i = 20 ∨ i = 21 := by omega
    rcases hcases with rfl | rfl | rfl | rfl | rfl | rfl | rfl | rfl | rfl | rfl | rfl | rfl | rfl | rfl | rfl | rfl | rfl | rfl | rfl | rfl | rfl | rfl
    · have hlit : (regOps Tryd.f7 7)[0]? = some ({ dst := some 36, op := Op.move (Operand.tmp 0), type := 3, pos := "law.go:48", after := #[], guard := none }) := by kernel_rfl
      obtain rfl := Option.some.inj (hlit.symm.trans hoi)
      have r0 : b.tmps.getD 0 undef = (.int .i64 aa) := rd ((hT.old 0 (by kernel_rfl)).trans t0)
      refine op_go hoi (want_all rfl) fun K hK => ?_
      clear hT hpre hun hlit hoi
      go_simp
      exact hK _ _ ⟨(), fun _ _ => rfl, rfl, pc0, pc1, qc0, qc1, HB⟩
    · have hlit : (regOps Tryd.f7 7)[1]? = some ({ dst := some 37, op := Op.unOp UnOp.neg 3 (Operand.tmp 36), type := 3, pos := "law.go:48", after := #[{ on := 0, ground := Ground.data }], guard := none }) := by kernel_rfl
      obtain rfl := Option.some.inj (hlit.symm.trans hoi)
      have r36 : b.tmps.getD 36 undef = (.int .i64 aa) := rd (hT.at 0 (by kernel_rfl) (pre_of hpre 0 (by kernel_rfl)))
      refine op_go hoi (want_all rfl) fun K hK => ?_
      clear hT hpre hun hlit hoi
      go_simp
      exact hK _ _ ⟨(), fun _ _ => rfl, rfl, pc0, pc1, qc0, qc1, HB⟩
    · have hlit : (regOps Tryd.f7 7)[2]? = some ({ dst := some 38, op := Op.move (Operand.tmp 1), type := 3, pos := "law.go:48", after := #[], guard := none }) := by kernel_rfl
      obtain rfl := Option.some.inj (hlit.symm.trans hoi)
      have r1 : b.tmps.getD 1 undef = (.int .i64 bb) := rd ((hT.old 1 (by kernel_rfl)).trans t1)
      refine op_go hoi (want_all rfl) fun K hK => ?_
      clear hT hpre hun hlit hoi
      go_simp
      exact hK _ _ ⟨(), fun _ _ => rfl, rfl, pc0, pc1, qc0, qc1, HB⟩
    · have hlit : (regOps Tryd.f7 7)[3]? = some ({ dst := some 39, op := Op.unOp UnOp.neg 3 (Operand.tmp 38), type := 3, pos := "law.go:48", after := #[{ on := 2, ground := Ground.data }], guard := none }) := by kernel_rfl
      obtain rfl := Option.some.inj (hlit.symm.trans hoi)
      have r38 : b.tmps.getD 38 undef = (.int .i64 bb) := rd (hT.at 2 (by kernel_rfl) (pre_of hpre 2 (by kernel_rfl)))
      refine op_go hoi (want_all rfl) fun K hK => ?_
      clear hT hpre hun hlit hoi
      go_simp
      exact hK _ _ ⟨(), fun _ _ => rfl, rfl, pc0, pc1, qc0, qc1, HB⟩
    · have hlit : (regOps Tryd.f7 7)[4]? = some ({ dst := some 40, op := Op.call { callee := Callee.value (Operand.func 12), args := #[Operand.tmp 37, Operand.tmp 39], argTypes := #[3, 3] }, type := 24, pos := "law.go:48", after := #[{ on := 1, ground := Ground.data }, { on := 3, ground := Ground.data }], guard := none }) := by kernel_rfl
      obtain rfl := Option.some.inj (hlit.symm.trans hoi)
      have r37 : b.tmps.getD 37 undef = (.int .i64 na) := rd (hT.at 1 (by kernel_rfl) (pre_of hpre 1 (by kernel_rfl)))
      have r39 : b.tmps.getD 39 undef = (.int .i64 nb) := rd (hT.at 3 (by kernel_rfl) (pre_of hpre 3 (by kernel_rfl)))
      refine op_go hoi (want_all rfl) fun K hK => ?_
      clear hT hpre hun hlit hoi
      go_simp
      go_at_call 12
      refine (m1 _).mono ?_; rintro e w2 ⟨rfl, hb⟩; replace pc0 := ck hb (a := ⟨kp, 0, none⟩) (v := .int .i64 p0) (by go_simp); replace pc1 := ck hb (a := ⟨kp, 1, none⟩) (v := .int .u64 p1) (by go_simp); replace qc0 := ck hb (a := ⟨kq, 0, none⟩) (v := .int .i64 q0) (by go_simp); replace qc1 := ck hb (a := ⟨kq, 1, none⟩) (v := .int .u64 q1) (by go_simp); replace HB : Below W.heap.size W w2 := bt HB hb; clear hb
      exact hK _ _ ⟨(), fun _ _ => rfl, rfl, pc0, pc1, qc0, qc1, HB⟩
    · have hlit : (regOps Tryd.f7 7)[5]? = some ({ dst := some 41, op := Op.load 24 (Operand.tmp 5), type := 24, pos := "law.go:48", after := #[], guard := none }) := by kernel_rfl
      obtain rfl := Option.some.inj (hlit.symm.trans hoi)
      have r5 : b.tmps.getD 5 undef = (.pointer (some ⟨kp, 0, none⟩)) := rd ((hT.old 5 (by kernel_rfl)).trans t5)
      refine op_go hoi (want_all rfl) fun K hK => ?_
      clear hT hpre hun hlit hoi
      go_simp
      exact hK _ _ ⟨(), fun _ _ => rfl, rfl, pc0, pc1, qc0, qc1, HB⟩
    · have hlit : (regOps Tryd.f7 7)[6]? = some ({ dst := some 42, op := Op.binOp BinOp.eql 24 (Operand.tmp 40) (Operand.tmp 41) 24, type := 4, pos := "law.go:48", after := #[{ on := 4, ground := Ground.data }, { on := 5, ground := Ground.data }], guard := none }) := by kernel_rfl
      obtain rfl := Option.some.inj (hlit.symm.trans hoi)
      have r40 : b.tmps.getD 40 undef = (.agg #[.int .i64 p0, .int .u64 p1]) := rd (hT.at 4 (by kernel_rfl) (pre_of hpre 4 (by kernel_rfl)))
      have r41 : b.tmps.getD 41 undef = (.agg #[.int .i64 p0, .int .u64 p1]) := rd (hT.at 5 (by kernel_rfl) (pre_of hpre 5 (by kernel_rfl)))
      refine op_go hoi (want_all rfl) fun K hK => ?_
      clear hT hpre hun hlit hoi
      go_simp
      exact hK _ _ ⟨(), fun _ _ => rfl, rfl, pc0, pc1, qc0, qc1, HB⟩
    · have hlit : (regOps Tryd.f7 7)[7]? = some ({ dst := some 43, op := Op.move (Operand.tmp 42), type := 4, pos := "law.go:48", after := #[{ on := 6, ground := Ground.data }, { on := 4, ground := Ground.chain }], guard := none }) := by kernel_rfl
      obtain rfl := Option.some.inj (hlit.symm.trans hoi)
      have r42 : b.tmps.getD 42 undef = (.bool true) := rd (hT.at 6 (by kernel_rfl) (pre_of hpre 6 (by kernel_rfl)))
      refine op_go hoi (want_all rfl) fun K hK => ?_
      clear hT hpre hun hlit hoi
      go_simp
      exact hK _ _ ⟨(), fun _ _ => rfl, rfl, pc0, pc1, qc0, qc1, HB⟩
    · have hlit : (regOps Tryd.f7 7)[8]? = some ({ dst := some 44, op := Op.move (Operand.tmp 7), type := 4, pos := "law.go:48", after := #[{ on := 7, ground := Ground.guard }], guard := some (7, true) }) := by kernel_rfl
      obtain rfl := Option.some.inj (hlit.symm.trans hoi)
      have r7 : b.tmps.getD 7 undef = (.bool true) := rd ((hT.old 7 (by kernel_rfl)).trans t7)
      refine op_go hoi (want_yes rfl (d := 43) (by kernel_rfl) (hT.at 7 (by kernel_rfl) (pre_of hpre 7 (by kernel_rfl)))) fun K hK => ?_
      clear hT hpre hun hlit hoi
      go_simp
      exact hK _ _ ⟨(), fun _ _ => rfl, rfl, pc0, pc1, qc0, qc1, HB⟩
    · have hlit : (regOps Tryd.f7 7)[9]? = some ({ dst := some 45, op := Op.pick (Operand.tmp 43) (Operand.tmp 44) (Operand.const (Value.bool false)), type := 4, pos := "law.go:48", after := #[{ on := 7, ground := Ground.data }, { on := 8, ground := Ground.data }], guard := none }) := by kernel_rfl
      obtain rfl := Option.some.inj (hlit.symm.trans hoi)
      have r43 : b.tmps.getD 43 undef = (.bool true) := rd (hT.at 7 (by kernel_rfl) (pre_of hpre 7 (by kernel_rfl)))
      have r44 : b.tmps.getD 44 undef = (.bool true) := rd (hT.at 8 (by kernel_rfl) (pre_of hpre 8 (by kernel_rfl)))
      refine op_go hoi (want_all rfl) fun K hK => ?_
      clear hT hpre hun hlit hoi
      go_simp
      exact hK _ _ ⟨(), fun _ _ => rfl, rfl, pc0, pc1, qc0, qc1, HB⟩
    · have hlit : (regOps Tryd.f7 7)[10]? = some ({ dst := some 46, op := Op.move (Operand.tmp 45), type := 4, pos := "law.go:48", after := #[{ on := 9, ground := Ground.data }, { on := 7, ground := Ground.chain }], guard := none }) := by kernel_rfl
      obtain rfl := Option.some.inj (hlit.symm.trans hoi)
      have r45 : b.tmps.getD 45 undef = (.bool true) := rd (hT.at 9 (by kernel_rfl) (pre_of hpre 9 (by kernel_rfl)))
      refine op_go hoi (want_all rfl) fun K hK => ?_
      clear hT hpre hun hlit hoi
      go_simp
      exact hK _ _ ⟨(), fun _ _ => rfl, rfl, pc0, pc1, qc0, qc1, HB⟩
    · have hlit : (regOps Tryd.f7 7)[11]? = some ({ dst := some 47, op := Op.move (Operand.tmp 0), type := 3, pos := "law.go:48", after := #[{ on := 10, ground := Ground.guard }], guard := some (10, true) }) := by kernel_rfl
      obtain rfl := Option.some.inj (hlit.symm.trans hoi)
      have r0 : b.tmps.getD 0 undef = (.int .i64 aa) := rd ((hT.old 0 (by kernel_rfl)).trans t0)
      refine op_go hoi (want_yes rfl (d := 46) (by kernel_rfl) (hT.at 10 (by kernel_rfl) (pre_of hpre 10 (by kernel_rfl)))) fun K hK => ?_
      clear hT hpre hun hlit hoi
      go_simp
      exact hK _ _ ⟨(), fun _ _ => rfl, rfl, pc0, pc1, qc0, qc1, HB⟩
    · have hlit : (regOps Tryd.f7 7)[12]? = some ({ dst := some 48, op := Op.unOp UnOp.neg 3 (Operand.tmp 47), type := 3, pos := "law.go:48", after := #[{ on := 11, ground := Ground.data }, { on := 10, ground := Ground.guard }], guard := some (10, true) }) := by kernel_rfl
      obtain rfl := Option.some.inj (hlit.symm.trans hoi)
      have r47 : b.tmps.getD 47 undef = (.int .i64 aa) := rd (hT.at 11 (by kernel_rfl) (pre_of hpre 11 (by kernel_rfl)))
      refine op_go hoi (want_yes rfl (d := 46) (by kernel_rfl) (hT.at 10 (by kernel_rfl) (pre_of hpre 10 (by kernel_rfl)))) fun K hK => ?_
      clear hT hpre hun hlit hoi
      go_simp
      exact hK _ _ ⟨(), fun _ _ => rfl, rfl, pc0, pc1, qc0, qc1, HB⟩
    · have hlit : (regOps Tryd.f7 7)[13]? = some ({ dst := some 49, op := Op.move (Operand.tmp 1), type := 3, pos := "law.go:48", after := #[{ on := 10, ground := Ground.guard }], guard := some (10, true) }) := by kernel_rfl
      obtain rfl := Option.some.inj (hlit.symm.trans hoi)
      have r1 : b.tmps.getD 1 undef = (.int .i64 bb) := rd ((hT.old 1 (by kernel_rfl)).trans t1)
      refine op_go hoi (want_yes rfl (d := 46) (by kernel_rfl) (hT.at 10 (by kernel_rfl) (pre_of hpre 10 (by kernel_rfl)))) fun K hK => ?_
      clear hT hpre hun hlit hoi
      go_simp
      exact hK _ _ ⟨(), fun _ _ => rfl, rfl, pc0, pc1, qc0, qc1, HB⟩
    · have hlit : (regOps Tryd.f7 7)[14]? = some ({ dst := some 50, op := Op.call { callee := Callee.value (Operand.func 12), args := #[Operand.tmp 48, Operand.tmp 49], argTypes := #[3, 3] }, type := 24, pos := "law.go:48", after := #[{ on := 12, ground := Ground.data }, { on := 13, ground := Ground.data }, { on := 10, ground := Ground.chain }, { on := 10, ground := Ground.guard }], guard := some (10, true) }) := by kernel_rfl
      obtain rfl := Option.some.inj (hlit.symm.trans hoi)
      have r48 : b.tmps.getD 48 undef = (.int .i64 na) := rd (hT.at 12 (by kernel_rfl) (pre_of hpre 12 (by kernel_rfl)))
      have r49 : b.tmps.getD 49 undef = (.int .i64 bb) := rd (hT.at 13 (by kernel_rfl) (pre_of hpre 13 (by kernel_rfl)))
      refine op_go hoi (want_yes rfl (d := 46) (by kernel_rfl) (hT.at 10 (by kernel_rfl) (pre_of hpre 10 (by kernel_rfl)))) fun K hK => ?_
      clear hT hpre hun hlit hoi
      go_simp
      go_at_call 12
      refine (m2 _).mono ?_; rintro e w2 ⟨rfl, hb⟩; replace pc0 := ck hb (a := ⟨kp, 0, none⟩) (v := .int .i64 p0) (by go_simp); replace pc1 := ck hb (a := ⟨kp, 1, none⟩) (v := .int .u64 p1) (by go_simp); replace qc0 := ck hb (a := ⟨kq, 0, none⟩) (v := .int .i64 q0) (by go_simp); replace qc1 := ck hb (a := ⟨kq, 1, none⟩) (v := .int .u64 q1) (by go_simp); replace HB : Below W.heap.size W w2 := bt HB hb; clear hb
      exact hK _ _ ⟨(), fun _ _ => rfl, rfl, pc0, pc1, qc0, qc1, HB⟩
    · have hlit : (regOps Tryd.f7 7)[15]? = some ({ dst := some 51, op := Op.load 24 (Operand.tmp 6), type := 24, pos := "law.go:48", after := #[{ on := 10, ground := Ground.guard }], guard := some (10, true) }) := by kernel_rfl
      obtain rfl := Option.some.inj (hlit.symm.trans hoi)
      have r6 : b.tmps.getD 6 undef = (.pointer (some ⟨kq, 0, none⟩)) := rd ((hT.old 6 (by kernel_rfl)).trans t6)
      refine op_go hoi (want_yes rfl (d := 46) (by kernel_rfl) (hT.at 10 (by kernel_rfl) (pre_of hpre 10 (by kernel_rfl)))) fun K hK => ?_
      clear hT hpre hun hlit hoi
      go_simp
      exact hK _ _ ⟨(), fun _ _ => rfl, rfl, pc0, pc1, qc0, qc1, HB⟩
    · have hlit : (regOps Tryd.f7 7)[16]? = some ({ dst := some 52, op := Op.binOp BinOp.eql 24 (Operand.tmp 50) (Operand.tmp 51) 24, type := 4, pos := "law.go:48", after := #[{ on := 14, ground := Ground.data }, { on := 15, ground := Ground.data }, { on := 10, ground := Ground.guard }], guard := some (10, true) }) := by kernel_rfl
      obtain rfl := Option.some.inj (hlit.symm.trans hoi)
      have r50 : b.tmps.getD 50 undef = (.agg #[.int .i64 q0, .int .u64 q1]) := rd (hT.at 14 (by kernel_rfl) (pre_of hpre 14 (by kernel_rfl)))
      have r51 : b.tmps.getD 51 undef = (.agg #[.int .i64 q0, .int .u64 q1]) := rd (hT.at 15 (by kernel_rfl) (pre_of hpre 15 (by kernel_rfl)))
      refine op_go hoi (want_yes rfl (d := 46) (by kernel_rfl) (hT.at 10 (by kernel_rfl) (pre_of hpre 10 (by kernel_rfl)))) fun K hK => ?_
      clear hT hpre hun hlit hoi
      go_simp
      exact hK _ _ ⟨(), fun _ _ => rfl, rfl, pc0, pc1, qc0, qc1, HB⟩
    · have hlit : (regOps Tryd.f7 7)[17]? = some ({ dst := some 53, op := Op.pick (Operand.tmp 46) (Operand.tmp 52) (Operand.const (Value.bool false)), type := 4, pos := "law.go:48", after := #[{ on := 10, ground := Ground.data }, { on := 16, ground := Ground.data }], guard := none }) := by kernel_rfl
      obtain rfl := Option.some.inj (hlit.symm.trans hoi)
      have r46 : b.tmps.getD 46 undef = (.bool true) := rd (hT.at 10 (by kernel_rfl) (pre_of hpre 10 (by kernel_rfl)))
      have r52 : b.tmps.getD 52 undef = (.bool true) := rd (hT.at 16 (by kernel_rfl) (pre_of hpre 16 (by kernel_rfl)))
      refine op_go hoi (want_all rfl) fun K hK => ?_
      clear hT hpre hun hlit hoi
      go_simp
      exact hK _ _ ⟨(), fun _ _ => rfl, rfl, pc0, pc1, qc0, qc1, HB⟩
    · have hlit : (regOps Tryd.f7 7)[18]? = some ({ dst := some 54, op := Op.move (Operand.tmp 53), type := 4, pos := "law.go:48", after := #[{ on := 17, ground := Ground.data }, { on := 14, ground := Ground.chain }], guard := none }) := by kernel_rfl
      obtain rfl := Option.some.inj (hlit.symm.trans hoi)
      have r53 : b.tmps.getD 53 undef = (.bool true) := rd (hT.at 17 (by kernel_rfl) (pre_of hpre 17 (by kernel_rfl)))
      refine op_go hoi (want_all rfl) fun K hK => ?_
      clear hT hpre hun hlit hoi
      go_simp
      exact hK _ _ ⟨(), fun _ _ => rfl, rfl, pc0, pc1, qc0, qc1, HB⟩
    · have hlit : (regOps Tryd.f7 7)[19]? = some ({ dst := some 55, op := Op.call { callee := Callee.value (Operand.func 9), args := #[], argTypes := #[] }, type := 4, pos := "law.go:48", after := #[{ on := 18, ground := Ground.chain }, { on := 18, ground := Ground.guard }], guard := some (18, true) }) := by kernel_rfl
      obtain rfl := Option.some.inj (hlit.symm.trans hoi)
      refine op_go hoi (want_yes rfl (d := 54) (by kernel_rfl) (hT.at 18 (by kernel_rfl) (pre_of hpre 18 (by kernel_rfl)))) fun K hK => ?_
      clear hT hpre hun hlit hoi
      go_simp
      go_at_call 9
      refine (awake9 _ (tab_below htab HB)).mono ?_; rintro e w2 ⟨rfl, hb⟩; replace pc0 := ck hb (a := ⟨kp, 0, none⟩) (v := .int .i64 p0) (by go_simp); replace pc1 := ck hb (a := ⟨kp, 1, none⟩) (v := .int .u64 p1) (by go_simp); replace qc0 := ck hb (a := ⟨kq, 0, none⟩) (v := .int .i64 q0) (by go_simp); replace qc1 := ck hb (a := ⟨kq, 1, none⟩) (v := .int .u64 q1) (by go_simp); replace HB : Below W.heap.size W w2 := bt HB hb; clear hb
      exact hK _ _ ⟨(), fun _ _ => rfl, rfl, pc0, pc1, qc0, qc1, HB⟩
    · have hlit : (regOps Tryd.f7 7)[20]? = some ({ dst := some 56, op := Op.pick (Operand.tmp 54) (Operand.tmp 55) (Operand.const (Value.bool false)), type := 4, pos := "law.go:48", after := #[{ on := 18, ground := Ground.data }, { on := 19, ground := Ground.data }], guard := none }) := by kernel_rfl
      obtain rfl := Option.some.inj (hlit.symm.trans hoi)
      have r54 : b.tmps.getD 54 undef = (.bool true) := rd (hT.at 18 (by kernel_rfl) (pre_of hpre 18 (by kernel_rfl)))
      have r55 : b.tmps.getD 55 undef = (.bool true) := rd (hT.at 19 (by kernel_rfl) (pre_of hpre 19 (by kernel_rfl)))
      refine op_go hoi (want_all rfl) fun K hK => ?_
      clear hT hpre hun hlit hoi
      go_simp
      exact hK _ _ ⟨(), fun _ _ => rfl, rfl, pc0, pc1, qc0, qc1, HB⟩
    · have hlit : (regOps Tryd.f7 7)[21]? = some ({ dst := some 4, op := Op.assign (Operand.tmp 56), type := 4, pos := "law.go:48", after := #[{ on := 20, ground := Ground.data }, { on := 19, ground := Ground.chain }, { on := 0, ground := Ground.phase }, { on := 1, ground := Ground.phase }, { on := 2, ground := Ground.phase }, { on := 3, ground := Ground.phase }, { on := 4, ground := Ground.phase }, { on := 5, ground := Ground.phase }, { on := 6, ground := Ground.phase }, { on := 7, ground := Ground.phase }, { on := 8, ground := Ground.phase }, { on := 9, ground := Ground.phase }, { on := 10, ground := Ground.phase }, { on := 11, ground := Ground.phase }, { on := 12, ground := Ground.phase }, { on := 13, ground := Ground.phase }, { on := 14, ground := Ground.phase }, { on := 15, ground := Ground.phase }, { on := 16, ground := Ground.phase }, { on := 17, ground := Ground.phase }, { on := 18, ground := Ground.phase }, { on := 19, ground := Ground.phase }, { on := 20, ground := Ground.phase }], guard := none }) := by kernel_rfl
      obtain rfl := Option.some.inj (hlit.symm.trans hoi)
      have r56 : b.tmps.getD 56 undef = (.bool true) := rd (hT.at 20 (by kernel_rfl) (pre_of hpre 20 (by kernel_rfl)))
      refine op_go hoi (want_all rfl) fun K hK => ?_
      clear hT hpre hun hlit hoi
      go_simp
      exact hK _ _ ⟨(), fun _ _ => rfl, rfl, pc0, pc1, qc0, qc1, HB⟩
  · intro g b w' hT hS
    rw [hT.all ht]
    have hn : (regOps Tryd.f7 7).size = 22 := by kernel_rfl
    rw [hn]
    exact he w' hS
set_option maxHeartbeats 4000000 in
set_option maxRecDepth 100000 in
theorem wideMuls_least (aa bb na nb p0 p1 q0 q1 : Int) (w : World) (htab : Tab w)
    (m0 : ∀ w : World, Calls Tryd.prog 12 #[.int .i64 aa, .int .i64 bb] w fun e w' => e = .returned (.agg #[.int .i64 p0, .int .u64 p1]) ∧ Below w.heap.size w w') (m1 : ∀ w : World, Calls Tryd.prog 28 #[.int .i64 aa, .int .i64 bb] w fun e w' => e = .returned (.agg #[.int .i64 p0, .int .u64 p1]) ∧ Below w.heap.size w w') (m2 : ∀ w : World, Calls Tryd.prog 12 #[.int .i64 bb, .int .i64 aa] w fun e w' => e = .returned (.agg #[.int .i64 p0, .int .u64 p1]) ∧ Below w.heap.size w w')
    (t : (aa == -9223372036854775808) = true ∨ ((aa == -9223372036854775808) = false ∧ (bb == -9223372036854775808) = true)) :
    Calls Tryd.prog 7 #[.int .i64 aa, .int .i64 bb] w fun e w' => e = .returned (.bool true) ∧ Below w.heap.size w w' := by
  have HB := Below.refl w.heap.size w
  rcases t with t1 | ⟨t1, t2⟩
  all_goals
    go_enter Tryd.func7, Tryd.ntmps7
    go_wp2_with fail
    refine (m0 _).mono ?_; rintro e w1 ⟨rfl, hb⟩; (with_reducible (repeat replace hb := undr hb))
    replace HB : Below w.heap.size w w1 := bt (by repeat (first | (with_reducible exact HB) | (with_reducible exact Below.refl _ _) | (with_reducible apply bd) | (with_reducible apply ba) | (with_reducible refine bs ?_ (by first | (simp; done) | (simp; omega)) _))) hb
    clear hb
    go_wp2_with fail
    refine region7_2 aa bb p0 p1 w1.heap.size w m1 m2 (by kernel_rfl) rfl rfl rfl rfl ⟨?_, ?_, ?_⟩ (fun w2 hS => ?_)
    iterate 2 (focus (go_simp; done))
    · exact (by repeat (first | (with_reducible exact HB) | (with_reducible exact Below.refl _ _) | (with_reducible apply bd) | (with_reducible apply ba) | (with_reducible refine bs ?_ (by first | (simp; done) | (simp; omega)) _)))
    obtain ⟨cp0, cp1, HB⟩ := hS
    simp only [List.setIfInBounds_toArray, List.set_cons_zero, List.set_cons_succ]
    go_wp2_with fail
    refine (awake9 _ (tab_below htab (by repeat (first | (with_reducible exact HB) | (with_reducible exact Below.refl _ _) | (with_reducible apply bd) | (with_reducible apply ba) | (with_reducible refine bs ?_ (by first | (simp; done) | (simp; omega)) _))))).mono ?_; rintro e w3 ⟨rfl, hb⟩; (with_reducible (repeat replace hb := undr hb))
    replace HB : Below w.heap.size w w3 := bt (by repeat (first | (with_reducible exact HB) | (with_reducible exact Below.refl _ _) | (with_reducible apply bd) | (with_reducible apply ba) | (with_reducible refine bs ?_ (by first | (simp; done) | (simp; omega)) _))) hb
    clear hb
    go_wp2_with fail
    go_ret
    exact ⟨rfl, by repeat (first | (with_reducible exact HB) | (with_reducible exact Below.refl _ _) | (with_reducible apply bd) | (with_reducible apply ba) | (with_reducible refine bs ?_ (by first | (simp; done) | (simp; omega)) _))⟩

set_option maxHeartbeats 4000000 in
set_option maxRecDepth 100000 in
theorem wideMuls_in (aa bb na nb p0 p1 q0 q1 : Int) (w : World) (htab : Tab w)
    (m0 : ∀ w : World, Calls Tryd.prog 12 #[.int .i64 aa, .int .i64 bb] w fun e w' => e = .returned (.agg #[.int .i64 p0, .int .u64 p1]) ∧ Below w.heap.size w w') (m1 : ∀ w : World, Calls Tryd.prog 28 #[.int .i64 aa, .int .i64 bb] w fun e w' => e = .returned (.agg #[.int .i64 p0, .int .u64 p1]) ∧ Below w.heap.size w w') (m2 : ∀ w : World, Calls Tryd.prog 12 #[.int .i64 bb, .int .i64 aa] w fun e w' => e = .returned (.agg #[.int .i64 p0, .int .u64 p1]) ∧ Below w.heap.size w w')
    (t1 : (aa == -9223372036854775808) = false) (t2 : (bb == -9223372036854775808) = false) (m3 : ∀ w : World, Calls Tryd.prog 19 #[.agg #[.int .i64 p0, .int .u64 p1]] w fun e w' => e = .returned (.tuple #[.agg #[.int .i64 q0, .int .u64 q1], .bool true]) ∧ Below w.heap.size w w')
    (m4 : ∀ w : World, Calls Tryd.prog 12 #[.int .i64 na, .int .i64 nb] w fun e w' => e = .returned (.agg #[.int .i64 p0, .int .u64 p1]) ∧ Below w.heap.size w w') (m5 : ∀ w : World, Calls Tryd.prog 12 #[.int .i64 na, .int .i64 bb] w fun e w' => e = .returned (.agg #[.int .i64 q0, .int .u64 q1]) ∧ Below w.heap.size w w') (e1 : IntKind.i64.wrap (-aa) = na) (e2 : IntKind.i64.wrap (-bb) = nb) :
    Calls Tryd.prog 7 #[.int .i64 aa, .int .i64 bb] w fun e w' => e = .returned (.bool true) ∧ Below w.heap.size w w' := by
  have HB := Below.refl w.heap.size w
  go_enter Tryd.func7, Tryd.ntmps7
  go_wp2_with fail
  refine (m0 _).mono ?_; rintro e w1 ⟨rfl, hb⟩; (with_reducible (repeat replace hb := undr hb))
  replace HB : Below w.heap.size w w1 := bt (by repeat (first | (with_reducible exact HB) | (with_reducible exact Below.refl _ _) | (with_reducible apply bd) | (with_reducible apply ba) | (with_reducible refine bs ?_ (by first | (simp; done) | (simp; omega)) _))) hb
  clear hb
  go_wp2_with fail
  refine region7_2 aa bb p0 p1 w1.heap.size w m1 m2 (by kernel_rfl) rfl rfl rfl rfl ⟨?_, ?_, ?_⟩ (fun w2 hS => ?_)
  iterate 2 (focus (go_simp; done))
  · exact (by repeat (first | (with_reducible exact HB) | (with_reducible exact Below.refl _ _) | (with_reducible apply bd) | (with_reducible apply ba) | (with_reducible refine bs ?_ (by first | (simp; done) | (simp; omega)) _)))
  obtain ⟨cp0, cp1, HB⟩ := hS
  simp only [List.setIfInBounds_toArray, List.set_cons_zero, List.set_cons_succ]
  go_wp2_with fail
  refine (m3 _).mono ?_; rintro e w3 ⟨rfl, hb⟩; (with_reducible (repeat replace hb := undr hb))
  replace cp0 := ck hb (a := ⟨w1.heap.size, 0, none⟩) (v := .int .i64 p0) (by first | (go_simp; done) | simpa using cp0)
  replace cp1 := ck hb (a := ⟨w1.heap.size, 1, none⟩) (v := .int .u64 p1) (by first | (go_simp; done) | simpa using cp1)
  have zw1_0 : w1.heap.size < w3.heap.size := World.block_lt_of_cell? w3 _ cp0
  have nw1_0 : ¬ w1.heap.size = w3.heap.size := Nat.ne_of_lt zw1_0
  replace HB : Below w.heap.size w w3 := bt (by repeat (first | (with_reducible exact HB) | (with_reducible exact Below.refl _ _) | (with_reducible apply bd) | (with_reducible apply ba) | (with_reducible refine bs ?_ (by first | (simp; done) | (simp; omega)) _))) hb
  clear hb
  go_wp2_with fail
  refine region7_7 aa bb na nb p0 p1 q0 q1 w1.heap.size w3.heap.size w htab m4 m5 e1 e2 (by kernel_rfl) rfl rfl rfl rfl rfl rfl ⟨?_, ?_, ?_, ?_, ?_⟩ (fun w4 hS => ?_)
  iterate 4 (focus (go_simp; done))
  · exact (by repeat (first | (with_reducible exact HB) | (with_reducible exact Below.refl _ _) | (with_reducible apply bd) | (with_reducible apply ba) | (with_reducible refine bs ?_ (by first | (simp; done) | (simp; omega)) _)))
  obtain ⟨-, -, -, -, HB⟩ := hS
  simp only [List.setIfInBounds_toArray, List.set_cons_zero, List.set_cons_succ]
  go_wp2_with fail
  go_ret
  exact ⟨rfl, by repeat (first | (with_reducible exact HB) | (with_reducible exact Below.refl _ _) | (with_reducible apply bd) | (with_reducible apply ba) | (with_reducible refine bs ?_ (by first | (simp; done) | (simp; omega)) _))⟩

theorem wideMuls_walk (n : Int) (n1 : -9223372036854775808 ≤ n) (n2 : n ≤ 9223372036854775807) (b : Int) (b1 : -9223372036854775808 ≤ b) (b2 : b ≤ 9223372036854775807) (w : World) (htab : Tab w) :
    Calls Tryd.prog 7 #[.int .i64 n, .int .i64 b] w fun e w' => e = .returned (.bool true) ∧ Below w.heap.size w w' := by
  have m0 := fun w => mul12 n b n1 n2 b1 b2 w
  have m1 := fun w => mul28 n b n1 n2 b1 b2 w
  have m2 := fun w => mul12 b n b1 b2 n1 n2 w
  rw [Int.mul_comm b n] at m2
  by_cases g1 : n = -9223372036854775808
  · exact wideMuls_least n b 0 0 _ _ 0 0 w htab m0 m1 m2 (.inl (beq_iff_eq.2 g1))
  by_cases g2 : b = -9223372036854775808
  · exact wideMuls_least n b 0 0 _ _ 0 0 w htab m0 m1 m2 (.inr ⟨beq_eq_false_iff_ne.2 g1, beq_iff_eq.2 g2⟩)
  have hp : -85070591730234615865843651857942052864 ≤ n * b ∧ n * b ≤ 85070591730234615865843651857942052864 := by
    have k1 : 0 ≤ (n + 9223372036854775808) * (b + 9223372036854775808) := Int.mul_nonneg (by omega) (by omega)
    have k2 : 0 ≤ (9223372036854775808 - n) * (9223372036854775808 - b) := Int.mul_nonneg (by omega) (by omega)
    have k3 : 0 ≤ (n + 9223372036854775808) * (9223372036854775808 - b) := Int.mul_nonneg (by omega) (by omega)
    have k4 : 0 ≤ (9223372036854775808 - n) * (b + 9223372036854775808) := Int.mul_nonneg (by omega) (by omega)
    simp only [Int.add_mul, Int.mul_add, Int.sub_mul, Int.mul_sub] at k1 k2 k3 k4
    omega
  have f1 : fits (n * b) = true := fits_yes (by omega) (by omega)
  have f2 : fits (-(n * b)) = true := fits_yes (by omega) (by omega)
  have m3 := fun w => neg19 (n * b) w f1
  rw [cutA_yes f2, f2] at m3
  have m4 := fun w => mul12 (-n) (-b) (by omega) (by omega) (by omega) (by omega) w
  rw [Int.neg_mul_neg] at m4
  have m5 := fun w => mul12 (-n) b (by omega) (by omega) b1 b2 w
  rw [Int.neg_mul] at m5
  exact wideMuls_in n b (-n) (-b) _ _ _ _ w htab m0 m1 m2 (beq_eq_false_iff_ne.2 g1) (beq_eq_false_iff_ne.2 g2) m3 m4 m5 (by rw [IntKind.wrap_i64]; omega) (by rw [IntKind.wrap_i64]; omega)
end Go.Proofs.YtkamnnkdadfebaaDoor
