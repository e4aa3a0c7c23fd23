import Derived.Test.YtandgbpbabmdfaaT18
import Derived.Test.YtandgbpbabmdfaaRg
namespace Go.Proofs.Ytandgbpbabmdfaa
open Go.RowKit
attribute [local go_sem high] eq23 eq25 mn_two mx_two mn_three mx_three mx_four

/-- What each operation of the region leaves. -/
def region11aV (d0 d1 e0 e1 f0 f1 g0 g1 q0 q1 r0 r1 : Int) : Nat → Value
  | 0 => .agg #[.int .i64 d0, .int .i64 d1, .int .i64 e0, .int .i64 e1, .int .i64 f0, .int .i64 f1]
  | 1 => .agg #[.int .i64 g0, .int .i64 g1]
  | 2 => .agg #[.int .i64 r0, .int .i64 r1]
  | 3 => .bool true
  | 4 => .agg #[.int .i64 d0, .int .i64 d1, .int .i64 e0, .int .i64 e1, .int .i64 f0, .int .i64 f1]
  | 5 => .agg #[.int .i64 g0, .int .i64 g1]
  | 6 => .agg #[.int .i64 q0, .int .i64 q1]
  | 7 => .bool true
  | 8 => .bool true
  | 9 => undef
  | 10 => undef
  | 11 => undef
  | 12 => undef
  | 13 => .bool true
  | 14 => .bool true
  | 15 => .bool true
  | 16 => .bool true
  | 17 => .bool true
  | 18 => .bool true
  | _ => undef

set_option maxHeartbeats 4000000 in
set_option maxRecDepth 100000 in
theorem region11a (d0 d1 e0 e1 f0 f1 g0 g1 q0 q1 r0 r1 : Int) (kt kp kq kr : Nat) (W : World) (m1 : along ⟨⟨d0, d1⟩, ⟨e0, e1⟩, ⟨f0, f1⟩⟩ ⟨g0, g1⟩ ⟨r0, r1⟩ = true) (m2 : along ⟨⟨d0, d1⟩, ⟨e0, e1⟩, ⟨f0, f1⟩⟩ ⟨g0, g1⟩ ⟨q0, q1⟩ = true) {id : Nat} {ops : Array Oper} {Q : Exit → Act → World → Prop} {a : Act} {w : World}
    (ho : ops = (regOps Try.f11 7)) (hsz : a.tmps.size = 115) (t15 : a.tmps[15]? = some (.pointer (some ⟨kt, 0, none⟩))) (t10 : a.tmps[10]? = some (.pointer (some ⟨kp, 0, none⟩))) (t17 : a.tmps[17]? = some (.pointer (some ⟨kq, 0, none⟩))) (t18 : a.tmps[18]? = some (.pointer (some ⟨kr, 0, none⟩)))
    (h0 : w.drew.cell? ⟨kp, 0, none⟩ = some (.int .i64 g0) ∧ w.drew.cell? ⟨kp, 1, none⟩ = some (.int .i64 g1) ∧ w.drew.cell? ⟨kt, 0, none⟩ = some (.int .i64 d0) ∧ w.drew.cell? ⟨kt, 1, none⟩ = some (.int .i64 d1) ∧ w.drew.cell? ⟨kt, 2, none⟩ = some (.int .i64 e0) ∧ w.drew.cell? ⟨kt, 3, none⟩ = some (.int .i64 e1) ∧ w.drew.cell? ⟨kt, 4, none⟩ = some (.int .i64 f0) ∧ w.drew.cell? ⟨kt, 5, none⟩ = some (.int .i64 f1) ∧ w.drew.cell? ⟨kq, 0, none⟩ = some (.int .i64 q0) ∧ w.drew.cell? ⟨kq, 1, none⟩ = some (.int .i64 q1) ∧ w.drew.cell? ⟨kr, 0, none⟩ = some (.int .i64 r0) ∧ w.drew.cell? ⟨kr, 1, none⟩ = some (.int .i64 r1) ∧ Below W.heap.size W w.drew)
    (he : ∀ w', w'.cell? ⟨kp, 0, none⟩ = some (.int .i64 g0) ∧ w'.cell? ⟨kp, 1, none⟩ = some (.int .i64 g1) ∧ w'.cell? ⟨kt, 0, none⟩ = some (.int .i64 d0) ∧ w'.cell? ⟨kt, 1, none⟩ = some (.int .i64 d1) ∧ w'.cell? ⟨kt, 2, none⟩ = some (.int .i64 e0) ∧ w'.cell? ⟨kt, 3, none⟩ = some (.int .i64 e1) ∧ w'.cell? ⟨kt, 4, none⟩ = some (.int .i64 f0) ∧ w'.cell? ⟨kt, 5, none⟩ = some (.int .i64 f1) ∧ w'.cell? ⟨kq, 0, none⟩ = some (.int .i64 q0) ∧ w'.cell? ⟨kq, 1, none⟩ = some (.int .i64 q1) ∧ w'.cell? ⟨kr, 0, none⟩ = some (.int .i64 r0) ∧ w'.cell? ⟨kr, 1, none⟩ = some (.int .i64 r1) ∧ Below W.heap.size W w' → Q .normal ⟨(((((((((((((((((((a.tmps.setIfInBounds 97 (.agg #[.int .i64 d0, .int .i64 d1, .int .i64 e0, .int .i64 e1, .int .i64 f0, .int .i64 f1])).setIfInBounds 98 (.agg #[.int .i64 g0, .int .i64 g1])).setIfInBounds 99 (.agg #[.int .i64 r0, .int .i64 r1])).setIfInBounds 100 (.bool true)).setIfInBounds 101 (.agg #[.int .i64 d0, .int .i64 d1, .int .i64 e0, .int .i64 e1, .int .i64 f0, .int .i64 f1])).setIfInBounds 102 (.agg #[.int .i64 g0, .int .i64 g1])).setIfInBounds 103 (.agg #[.int .i64 q0, .int .i64 q1])).setIfInBounds 104 (.bool true)).setIfInBounds 105 (.bool true)).setIfInBounds 106 (undef)).setIfInBounds 107 (undef)).setIfInBounds 108 (undef)).setIfInBounds 109 (undef)).setIfInBounds 110 (.bool true)).setIfInBounds 111 (.bool true)).setIfInBounds 112 (.bool true)).setIfInBounds 113 (.bool true)).setIfInBounds 114 (.bool true)).setIfInBounds 14 (.bool true)), a.defers⟩ w') :
    (Code.region id ops true).wp Try.prog Q a w := by
  have ht : tidy (regOps Try.f11 7) a.tmps.size = true := by rw [hsz]; kernel_rfl
  refine region_tab (G := Unit) (fun _ => (region11aV d0 d1 e0 e1 f0 f1 g0 g1 q0 q1 r0 r1)) (fun _ _ w' => w'.cell? ⟨kp, 0, none⟩ = some (.int .i64 g0) ∧ w'.cell? ⟨kp, 1, none⟩ = some (.int .i64 g1) ∧ w'.cell? ⟨kt, 0, none⟩ = some (.int .i64 d0) ∧ w'.cell? ⟨kt, 1, none⟩ = some (.int .i64 d1) ∧ w'.cell? ⟨kt, 2, none⟩ = some (.int .i64 e0) ∧ w'.cell? ⟨kt, 3, none⟩ = some (.int .i64 e1) ∧ w'.cell? ⟨kt, 4, none⟩ = some (.int .i64 f0) ∧ w'.cell? ⟨kt, 5, none⟩ = some (.int .i64 f1) ∧ w'.cell? ⟨kq, 0, none⟩ = some (.int .i64 q0) ∧ w'.cell? ⟨kq, 1, none⟩ = some (.int .i64 q1) ∧ w'.cell? ⟨kr, 0, none⟩ = some (.int .i64 r0) ∧ w'.cell? ⟨kr, 1, none⟩ = some (.int .i64 r1) ∧ Below W.heap.size W w') () (by kernel_rfl) ho ht h0 ?_ ?_
  · intro i o hoi g L b w' hun hpre hT hS
    clear he h0 ho hsz ht
    have hi : i < (regOps Try.f11 7).size := (Array.getElem?_eq_some_iff.1 hoi).1
    rw [show (regOps Try.f11 7).size = 19 by kernel_rfl] at hi
    obtain ⟨pc0, pc1, tc0, tc1, tc2, tc3, tc4, tc5, qc0, qc1, rc0, rc1, HB⟩ := hS
    have hcases : i = 0 ∨ i = 1 ∨ i = 2 ∨ i = 3 ∨ i = 4 ∨ i = 5 ∨ i = 6 ∨ i = 7 ∨ i = 8 ∨ i = 9 ∨ i = 10 ∨ i = 11 ∨ i = 12 ∨ i = 13 ∨ i = 14 ∨ i = 15 ∨ i = 16 ∨ i = 17 ∨ i = 18 := by omega
    rcases hcases with rfl | rfl | rfl | rfl | rfl | rfl | rfl | rfl | rfl | rfl | rfl | rfl | rfl | rfl | rfl | rfl | rfl | rfl | rfl
    · have hlit : (regOps Try.f11 7)[0]? = some ({ dst := some 97, op := Op.load 25 (Operand.tmp 15), type := 25, pos := "law.go:69", after := #[], guard := none }) := by kernel_rfl
      obtain rfl := Option.some.inj (hlit.symm.trans hoi)
      have r15 : b.tmps.getD 15 undef = (.pointer (some ⟨kt, 0, none⟩)) := rd ((hT.old 15 (by kernel_rfl)).trans t15)
      refine op_go hoi (want_all rfl) fun K hK => ?_
      clear hT hpre hun hlit hoi
      go_simp
      exact hK _ _ ⟨(), fun _ _ => rfl, rfl, pc0, pc1, tc0, tc1, tc2, tc3, tc4, tc5, qc0, qc1, rc0, rc1, HB⟩
    · have hlit : (regOps Try.f11 7)[1]? = some ({ dst := some 98, op := Op.load 23 (Operand.tmp 10), type := 23, pos := "law.go:69", after := #[], guard := none }) := by kernel_rfl
      obtain rfl := Option.some.inj (hlit.symm.trans hoi)
      have r10 : b.tmps.getD 10 undef = (.pointer (some ⟨kp, 0, none⟩)) := rd ((hT.old 10 (by kernel_rfl)).trans t10)
      refine op_go hoi (want_all rfl) fun K hK => ?_
      clear hT hpre hun hlit hoi
      go_simp
      exact hK _ _ ⟨(), fun _ _ => rfl, rfl, pc0, pc1, tc0, tc1, tc2, tc3, tc4, tc5, qc0, qc1, rc0, rc1, HB⟩
    · have hlit : (regOps Try.f11 7)[2]? = some ({ dst := some 99, op := Op.load 23 (Operand.tmp 18), type := 23, pos := "law.go:69", after := #[], guard := none }) := by kernel_rfl
      obtain rfl := Option.some.inj (hlit.symm.trans hoi)
      have r18 : b.tmps.getD 18 undef = (.pointer (some ⟨kr, 0, none⟩)) := rd ((hT.old 18 (by kernel_rfl)).trans t18)
      refine op_go hoi (want_all rfl) fun K hK => ?_
      clear hT hpre hun hlit hoi
      go_simp
      exact hK _ _ ⟨(), fun _ _ => rfl, rfl, pc0, pc1, tc0, tc1, tc2, tc3, tc4, tc5, qc0, qc1, rc0, rc1, HB⟩
    · have hlit : (regOps Try.f11 7)[3]? = some ({ dst := some 100, op := Op.call { callee := Callee.value (Operand.func 45), args := #[Operand.tmp 97, Operand.tmp 98, Operand.tmp 99], argTypes := #[25, 23, 23] }, type := 4, pos := "law.go:69", after := #[{ on := 0, ground := Ground.data }, { on := 1, ground := Ground.data }, { on := 2, ground := Ground.data }], guard := none }) := by kernel_rfl
      obtain rfl := Option.some.inj (hlit.symm.trans hoi)
      have r97 : b.tmps.getD 97 undef = (.agg #[.int .i64 d0, .int .i64 d1, .int .i64 e0, .int .i64 e1, .int .i64 f0, .int .i64 f1]) := rd (hT.at 0 (by kernel_rfl) (pre_of hpre 0 (by kernel_rfl)))
      have r98 : b.tmps.getD 98 undef = (.agg #[.int .i64 g0, .int .i64 g1]) := rd (hT.at 1 (by kernel_rfl) (pre_of hpre 1 (by kernel_rfl)))
      have r99 : b.tmps.getD 99 undef = (.agg #[.int .i64 r0, .int .i64 r1]) := rd (hT.at 2 (by kernel_rfl) (pre_of hpre 2 (by kernel_rfl)))
      refine op_go hoi (want_all rfl) fun K hK => ?_
      clear hT hpre hun hlit hoi
      go_simp
      go_at_call 45
      refine (along45 _ _ _ _ _ _ _ _ _ _ _).mono ?_; rw [m1]; rintro e w2 ⟨rfl, hb⟩; replace pc0 := ck hb (a := ⟨kp, 0, none⟩) (v := .int .i64 g0) (by go_simp); replace pc1 := ck hb (a := ⟨kp, 1, none⟩) (v := .int .i64 g1) (by go_simp); replace tc0 := ck hb (a := ⟨kt, 0, none⟩) (v := .int .i64 d0) (by go_simp); replace tc1 := ck hb (a := ⟨kt, 1, none⟩) (v := .int .i64 d1) (by go_simp); replace tc2 := ck hb (a := ⟨kt, 2, none⟩) (v := .int .i64 e0) (by go_simp); replace tc3 := ck hb (a := ⟨kt, 3, none⟩) (v := .int .i64 e1) (by go_simp); replace tc4 := ck hb (a := ⟨kt, 4, none⟩) (v := .int .i64 f0) (by go_simp); replace tc5 := ck hb (a := ⟨kt, 5, none⟩) (v := .int .i64 f1) (by go_simp); replace qc0 := ck hb (a := ⟨kq, 0, none⟩) (v := .int .i64 q0) (by go_simp); replace qc1 := ck hb (a := ⟨kq, 1, none⟩) (v := .int .i64 q1) (by go_simp); replace rc0 := ck hb (a := ⟨kr, 0, none⟩) (v := .int .i64 r0) (by go_simp); replace rc1 := ck hb (a := ⟨kr, 1, none⟩) (v := .int .i64 r1) (by go_simp); replace HB : Below W.heap.size W w2 := bt HB hb; clear hb
      exact hK _ _ ⟨(), fun _ _ => rfl, rfl, pc0, pc1, tc0, tc1, tc2, tc3, tc4, tc5, qc0, qc1, rc0, rc1, HB⟩
    · have hlit : (regOps Try.f11 7)[4]? = some ({ dst := some 101, op := Op.load 25 (Operand.tmp 15), type := 25, pos := "law.go:69", after := #[], guard := none }) := by kernel_rfl
      obtain rfl := Option.some.inj (hlit.symm.trans hoi)
      have r15 : b.tmps.getD 15 undef = (.pointer (some ⟨kt, 0, none⟩)) := rd ((hT.old 15 (by kernel_rfl)).trans t15)
      refine op_go hoi (want_all rfl) fun K hK => ?_
      clear hT hpre hun hlit hoi
      go_simp
      exact hK _ _ ⟨(), fun _ _ => rfl, rfl, pc0, pc1, tc0, tc1, tc2, tc3, tc4, tc5, qc0, qc1, rc0, rc1, HB⟩
    · have hlit : (regOps Try.f11 7)[5]? = some ({ dst := some 102, op := Op.load 23 (Operand.tmp 10), type := 23, pos := "law.go:69", after := #[], guard := none }) := by kernel_rfl
      obtain rfl := Option.some.inj (hlit.symm.trans hoi)
      have r10 : b.tmps.getD 10 undef = (.pointer (some ⟨kp, 0, none⟩)) := rd ((hT.old 10 (by kernel_rfl)).trans t10)
      refine op_go hoi (want_all rfl) fun K hK => ?_
      clear hT hpre hun hlit hoi
      go_simp
      exact hK _ _ ⟨(), fun _ _ => rfl, rfl, pc0, pc1, tc0, tc1, tc2, tc3, tc4, tc5, qc0, qc1, rc0, rc1, HB⟩
    · have hlit : (regOps Try.f11 7)[6]? = some ({ dst := some 103, op := Op.load 23 (Operand.tmp 17), type := 23, pos := "law.go:69", after := #[], guard := none }) := by kernel_rfl
      obtain rfl := Option.some.inj (hlit.symm.trans hoi)
      have r17 : b.tmps.getD 17 undef = (.pointer (some ⟨kq, 0, none⟩)) := rd ((hT.old 17 (by kernel_rfl)).trans t17)
      refine op_go hoi (want_all rfl) fun K hK => ?_
      clear hT hpre hun hlit hoi
      go_simp
      exact hK _ _ ⟨(), fun _ _ => rfl, rfl, pc0, pc1, tc0, tc1, tc2, tc3, tc4, tc5, qc0, qc1, rc0, rc1, HB⟩
    · have hlit : (regOps Try.f11 7)[7]? = some ({ dst := some 104, op := Op.call { callee := Callee.value (Operand.func 45), args := #[Operand.tmp 101, Operand.tmp 102, Operand.tmp 103], argTypes := #[25, 23, 23] }, type := 4, pos := "law.go:69", after := #[{ on := 4, ground := Ground.data }, { on := 5, ground := Ground.data }, { on := 6, ground := Ground.data }, { on := 3, ground := Ground.chain }], guard := none }) := by kernel_rfl
      obtain rfl := Option.some.inj (hlit.symm.trans hoi)
      have r101 : b.tmps.getD 101 undef = (.agg #[.int .i64 d0, .int .i64 d1, .int .i64 e0, .int .i64 e1, .int .i64 f0, .int .i64 f1]) := rd (hT.at 4 (by kernel_rfl) (pre_of hpre 4 (by kernel_rfl)))
      have r102 : b.tmps.getD 102 undef = (.agg #[.int .i64 g0, .int .i64 g1]) := rd (hT.at 5 (by kernel_rfl) (pre_of hpre 5 (by kernel_rfl)))
      have r103 : b.tmps.getD 103 undef = (.agg #[.int .i64 q0, .int .i64 q1]) := rd (hT.at 6 (by kernel_rfl) (pre_of hpre 6 (by kernel_rfl)))
      refine op_go hoi (want_all rfl) fun K hK => ?_
      clear hT hpre hun hlit hoi
      go_simp
      go_at_call 45
      refine (along45 _ _ _ _ _ _ _ _ _ _ _).mono ?_; rw [m2]; rintro e w2 ⟨rfl, hb⟩; replace pc0 := ck hb (a := ⟨kp, 0, none⟩) (v := .int .i64 g0) (by go_simp); replace pc1 := ck hb (a := ⟨kp, 1, none⟩) (v := .int .i64 g1) (by go_simp); replace tc0 := ck hb (a := ⟨kt, 0, none⟩) (v := .int .i64 d0) (by go_simp); replace tc1 := ck hb (a := ⟨kt, 1, none⟩) (v := .int .i64 d1) (by go_simp); replace tc2 := ck hb (a := ⟨kt, 2, none⟩) (v := .int .i64 e0) (by go_simp); replace tc3 := ck hb (a := ⟨kt, 3, none⟩) (v := .int .i64 e1) (by go_simp); replace tc4 := ck hb (a := ⟨kt, 4, none⟩) (v := .int .i64 f0) (by go_simp); replace tc5 := ck hb (a := ⟨kt, 5, none⟩) (v := .int .i64 f1) (by go_simp); replace qc0 := ck hb (a := ⟨kq, 0, none⟩) (v := .int .i64 q0) (by go_simp); replace qc1 := ck hb (a := ⟨kq, 1, none⟩) (v := .int .i64 q1) (by go_simp); replace rc0 := ck hb (a := ⟨kr, 0, none⟩) (v := .int .i64 r0) (by go_simp); replace rc1 := ck hb (a := ⟨kr, 1, none⟩) (v := .int .i64 r1) (by go_simp); replace HB : Below W.heap.size W w2 := bt HB hb; clear hb
      exact hK _ _ ⟨(), fun _ _ => rfl, rfl, pc0, pc1, tc0, tc1, tc2, tc3, tc4, tc5, qc0, qc1, rc0, rc1, HB⟩
    · have hlit : (regOps Try.f11 7)[8]? = some ({ dst := some 105, op := Op.move (Operand.tmp 104), type := 4, pos := "law.go:69", after := #[{ on := 7, ground := Ground.data }, { on := 7, ground := Ground.chain }], guard := none }) := by kernel_rfl
      obtain rfl := Option.some.inj (hlit.symm.trans hoi)
      have r104 : b.tmps.getD 104 undef = (.bool true) := rd (hT.at 7 (by kernel_rfl) (pre_of hpre 7 (by kernel_rfl)))
      refine op_go hoi (want_all rfl) fun K hK => ?_
      clear hT hpre hun hlit hoi
      go_simp
      exact hK _ _ ⟨(), fun _ _ => rfl, rfl, pc0, pc1, tc0, tc1, tc2, tc3, tc4, tc5, qc0, qc1, rc0, rc1, HB⟩
    · have hlit : (regOps Try.f11 7)[9]? = some ({ dst := some 106, op := Op.load 25 (Operand.tmp 15), type := 25, pos := "law.go:69", after := #[{ on := 8, ground := Ground.guard }], guard := some (8, false) }) := by kernel_rfl
      obtain rfl := Option.some.inj (hlit.symm.trans hoi)
      exact op_not hoi (want_no rfl (d := 105) (by kernel_rfl) (hT.at 8 (by kernel_rfl) (pre_of hpre 8 (by kernel_rfl)))) ⟨(), fun _ _ => rfl, rfl, pc0, pc1, tc0, tc1, tc2, tc3, tc4, tc5, qc0, qc1, rc0, rc1, HB⟩
    · have hlit : (regOps Try.f11 7)[10]? = some ({ dst := some 107, op := Op.load 23 (Operand.tmp 17), type := 23, pos := "law.go:69", after := #[{ on := 8, ground := Ground.guard }], guard := some (8, false) }) := by kernel_rfl
      obtain rfl := Option.some.inj (hlit.symm.trans hoi)
      exact op_not hoi (want_no rfl (d := 105) (by kernel_rfl) (hT.at 8 (by kernel_rfl) (pre_of hpre 8 (by kernel_rfl)))) ⟨(), fun _ _ => rfl, rfl, pc0, pc1, tc0, tc1, tc2, tc3, tc4, tc5, qc0, qc1, rc0, rc1, HB⟩
    · have hlit : (regOps Try.f11 7)[11]? = some ({ dst := some 108, op := Op.load 23 (Operand.tmp 18), type := 23, pos := "law.go:69", after := #[{ on := 8, ground := Ground.guard }], guard := some (8, false) }) := by kernel_rfl
      obtain rfl := Option.some.inj (hlit.symm.trans hoi)
      exact op_not hoi (want_no rfl (d := 105) (by kernel_rfl) (hT.at 8 (by kernel_rfl) (pre_of hpre 8 (by kernel_rfl)))) ⟨(), fun _ _ => rfl, rfl, pc0, pc1, tc0, tc1, tc2, tc3, tc4, tc5, qc0, qc1, rc0, rc1, HB⟩
    · have hlit : (regOps Try.f11 7)[12]? = some ({ dst := some 109, op := Op.call { callee := Callee.value (Operand.func 45), args := #[Operand.tmp 106, Operand.tmp 107, Operand.tmp 108], argTypes := #[25, 23, 23] }, type := 4, pos := "law.go:69", after := #[{ on := 9, ground := Ground.data }, { on := 10, ground := Ground.data }, { on := 11, ground := Ground.data }, { on := 8, ground := Ground.chain }, { on := 8, ground := Ground.guard }], guard := some (8, false) }) := by kernel_rfl
      obtain rfl := Option.some.inj (hlit.symm.trans hoi)
      exact op_not hoi (want_no rfl (d := 105) (by kernel_rfl) (hT.at 8 (by kernel_rfl) (pre_of hpre 8 (by kernel_rfl)))) ⟨(), fun _ _ => rfl, rfl, pc0, pc1, tc0, tc1, tc2, tc3, tc4, tc5, qc0, qc1, rc0, rc1, HB⟩
    · have hlit : (regOps Try.f11 7)[13]? = some ({ dst := some 110, op := Op.pick (Operand.tmp 105) (Operand.const (Value.bool true)) (Operand.tmp 109), type := 4, pos := "law.go:69", after := #[{ on := 8, ground := Ground.data }, { on := 12, ground := Ground.data }], guard := none }) := by kernel_rfl
      obtain rfl := Option.some.inj (hlit.symm.trans hoi)
      have r105 : b.tmps.getD 105 undef = (.bool true) := rd (hT.at 8 (by kernel_rfl) (pre_of hpre 8 (by kernel_rfl)))
      have r109 : b.tmps.getD 109 undef = (undef) := rd (hT.at 12 (by kernel_rfl) (pre_of hpre 12 (by kernel_rfl)))
      refine op_go hoi (want_all rfl) fun K hK => ?_
      clear hT hpre hun hlit hoi
      go_simp
      exact hK _ _ ⟨(), fun _ _ => rfl, rfl, pc0, pc1, tc0, tc1, tc2, tc3, tc4, tc5, qc0, qc1, rc0, rc1, HB⟩
    · have hlit : (regOps Try.f11 7)[14]? = some ({ dst := some 111, op := Op.binOp BinOp.eql 4 (Operand.tmp 100) (Operand.tmp 110) 4, type := 4, pos := "law.go:69", after := #[{ on := 3, ground := Ground.data }, { on := 13, ground := Ground.data }], guard := none }) := by kernel_rfl
      obtain rfl := Option.some.inj (hlit.symm.trans hoi)
      have r100 : b.tmps.getD 100 undef = (.bool true) := rd (hT.at 3 (by kernel_rfl) (pre_of hpre 3 (by kernel_rfl)))
      have r110 : b.tmps.getD 110 undef = (.bool true) := rd (hT.at 13 (by kernel_rfl) (pre_of hpre 13 (by kernel_rfl)))
      refine op_go hoi (want_all rfl) fun K hK => ?_
      clear hT hpre hun hlit hoi
      go_simp
      exact hK _ _ ⟨(), fun _ _ => rfl, rfl, pc0, pc1, tc0, tc1, tc2, tc3, tc4, tc5, qc0, qc1, rc0, rc1, HB⟩
    · have hlit : (regOps Try.f11 7)[15]? = some ({ dst := some 112, op := Op.move (Operand.tmp 111), type := 4, pos := "law.go:69", after := #[{ on := 14, ground := Ground.data }, { on := 12, ground := Ground.chain }], guard := none }) := by kernel_rfl
      obtain rfl := Option.some.inj (hlit.symm.trans hoi)
      have r111 : b.tmps.getD 111 undef = (.bool true) := rd (hT.at 14 (by kernel_rfl) (pre_of hpre 14 (by kernel_rfl)))
      refine op_go hoi (want_all rfl) fun K hK => ?_
      clear hT hpre hun hlit hoi
      go_simp
      exact hK _ _ ⟨(), fun _ _ => rfl, rfl, pc0, pc1, tc0, tc1, tc2, tc3, tc4, tc5, qc0, qc1, rc0, rc1, HB⟩
    · have hlit : (regOps Try.f11 7)[16]? = some ({ dst := some 113, op := Op.call { callee := Callee.value (Operand.func 47), args := #[], argTypes := #[] }, type := 4, pos := "law.go:69", after := #[{ on := 15, ground := Ground.chain }, { on := 15, ground := Ground.guard }], guard := some (15, true) }) := by kernel_rfl
      obtain rfl := Option.some.inj (hlit.symm.trans hoi)
      refine op_go hoi (want_yes rfl (d := 112) (by kernel_rfl) (hT.at 15 (by kernel_rfl) (pre_of hpre 15 (by kernel_rfl)))) fun K hK => ?_
      clear hT hpre hun hlit hoi
      go_simp
      go_at_call 47
      refine (awake47 _).mono ?_; rintro e w2 ⟨rfl, hb⟩; replace pc0 := ck hb (a := ⟨kp, 0, none⟩) (v := .int .i64 g0) (by go_simp); replace pc1 := ck hb (a := ⟨kp, 1, none⟩) (v := .int .i64 g1) (by go_simp); replace tc0 := ck hb (a := ⟨kt, 0, none⟩) (v := .int .i64 d0) (by go_simp); replace tc1 := ck hb (a := ⟨kt, 1, none⟩) (v := .int .i64 d1) (by go_simp); replace tc2 := ck hb (a := ⟨kt, 2, none⟩) (v := .int .i64 e0) (by go_simp); replace tc3 := ck hb (a := ⟨kt, 3, none⟩) (v := .int .i64 e1) (by go_simp); replace tc4 := ck hb (a := ⟨kt, 4, none⟩) (v := .int .i64 f0) (by go_simp); replace tc5 := ck hb (a := ⟨kt, 5, none⟩) (v := .int .i64 f1) (by go_simp); replace qc0 := ck hb (a := ⟨kq, 0, none⟩) (v := .int .i64 q0) (by go_simp); replace qc1 := ck hb (a := ⟨kq, 1, none⟩) (v := .int .i64 q1) (by go_simp); replace rc0 := ck hb (a := ⟨kr, 0, none⟩) (v := .int .i64 r0) (by go_simp); replace rc1 := ck hb (a := ⟨kr, 1, none⟩) (v := .int .i64 r1) (by go_simp); replace HB : Below W.heap.size W w2 := bt HB hb; clear hb
      exact hK _ _ ⟨(), fun _ _ => rfl, rfl, pc0, pc1, tc0, tc1, tc2, tc3, tc4, tc5, qc0, qc1, rc0, rc1, HB⟩
    · have hlit : (regOps Try.f11 7)[17]? = some ({ dst := some 114, op := Op.pick (Operand.tmp 112) (Operand.tmp 113) (Operand.const (Value.bool false)), type := 4, pos := "law.go:69", after := #[{ on := 15, ground := Ground.data }, { on := 16, ground := Ground.data }], guard := none }) := by kernel_rfl
      obtain rfl := Option.some.inj (hlit.symm.trans hoi)
      have r112 : b.tmps.getD 112 undef = (.bool true) := rd (hT.at 15 (by kernel_rfl) (pre_of hpre 15 (by kernel_rfl)))
      have r113 : b.tmps.getD 113 undef = (.bool true) := rd (hT.at 16 (by kernel_rfl) (pre_of hpre 16 (by kernel_rfl)))
      refine op_go hoi (want_all rfl) fun K hK => ?_
      clear hT hpre hun hlit hoi
      go_simp
      exact hK _ _ ⟨(), fun _ _ => rfl, rfl, pc0, pc1, tc0, tc1, tc2, tc3, tc4, tc5, qc0, qc1, rc0, rc1, HB⟩
    · have hlit : (regOps Try.f11 7)[18]? = some ({ dst := some 14, op := Op.assign (Operand.tmp 114), type := 4, pos := "law.go:69", after := #[{ on := 17, ground := Ground.data }, { on := 16, ground := Ground.chain }, { on := 0, ground := Ground.phase }, { on := 1, ground := Ground.phase }, { on := 2, ground := Ground.phase }, { on := 3, ground := Ground.phase }, { on := 4, ground := Ground.phase }, { on := 5, ground := Ground.phase }, { on := 6, ground := Ground.phase }, { on := 7, ground := Ground.phase }, { on := 8, ground := Ground.phase }, { on := 9, ground := Ground.phase }, { on := 10, ground := Ground.phase }, { on := 11, ground := Ground.phase }, { on := 12, ground := Ground.phase }, { on := 13, ground := Ground.phase }, { on := 14, ground := Ground.phase }, { on := 15, ground := Ground.phase }, { on := 16, ground := Ground.phase }, { on := 17, ground := Ground.phase }], guard := none }) := by kernel_rfl
      obtain rfl := Option.some.inj (hlit.symm.trans hoi)
      have r114 : b.tmps.getD 114 undef = (.bool true) := rd (hT.at 17 (by kernel_rfl) (pre_of hpre 17 (by kernel_rfl)))
      refine op_go hoi (want_all rfl) fun K hK => ?_
      clear hT hpre hun hlit hoi
      go_simp
      exact hK _ _ ⟨(), fun _ _ => rfl, rfl, pc0, pc1, tc0, tc1, tc2, tc3, tc4, tc5, qc0, qc1, rc0, rc1, HB⟩
  · intro g b w' hT hS
    rw [hT.all ht]
    have hn : (regOps Try.f11 7).size = 19 := by kernel_rfl
    rw [hn]
    exact he w' hS

/-- What each operation of the region leaves. -/
def region11bV (d0 d1 e0 e1 f0 f1 g0 g1 q0 q1 r0 r1 : Int) : Nat → Value
  | 0 => .agg #[.int .i64 d0, .int .i64 d1, .int .i64 e0, .int .i64 e1, .int .i64 f0, .int .i64 f1]
  | 1 => .agg #[.int .i64 g0, .int .i64 g1]
  | 2 => .agg #[.int .i64 r0, .int .i64 r1]
  | 3 => .bool true
  | 4 => .agg #[.int .i64 d0, .int .i64 d1, .int .i64 e0, .int .i64 e1, .int .i64 f0, .int .i64 f1]
  | 5 => .agg #[.int .i64 g0, .int .i64 g1]
  | 6 => .agg #[.int .i64 q0, .int .i64 q1]
  | 7 => .bool false
  | 8 => .bool false
  | 9 => .agg #[.int .i64 d0, .int .i64 d1, .int .i64 e0, .int .i64 e1, .int .i64 f0, .int .i64 f1]
  | 10 => .agg #[.int .i64 q0, .int .i64 q1]
  | 11 => .agg #[.int .i64 r0, .int .i64 r1]
  | 12 => .bool true
  | 13 => .bool true
  | 14 => .bool true
  | 15 => .bool true
  | 16 => .bool true
  | 17 => .bool true
  | 18 => .bool true
  | _ => undef

set_option maxHeartbeats 4000000 in
set_option maxRecDepth 100000 in
theorem region11b (d0 d1 e0 e1 f0 f1 g0 g1 q0 q1 r0 r1 : Int) (kt kp kq kr : Nat) (W : World) (m1 : along ⟨⟨d0, d1⟩, ⟨e0, e1⟩, ⟨f0, f1⟩⟩ ⟨g0, g1⟩ ⟨r0, r1⟩ = true) (m2 : along ⟨⟨d0, d1⟩, ⟨e0, e1⟩, ⟨f0, f1⟩⟩ ⟨g0, g1⟩ ⟨q0, q1⟩ = false) (m3 : along ⟨⟨d0, d1⟩, ⟨e0, e1⟩, ⟨f0, f1⟩⟩ ⟨q0, q1⟩ ⟨r0, r1⟩ = true) {id : Nat} {ops : Array Oper} {Q : Exit → Act → World → Prop} {a : Act} {w : World}
    (ho : ops = (regOps Try.f11 7)) (hsz : a.tmps.size = 115) (t15 : a.tmps[15]? = some (.pointer (some ⟨kt, 0, none⟩))) (t10 : a.tmps[10]? = some (.pointer (some ⟨kp, 0, none⟩))) (t17 : a.tmps[17]? = some (.pointer (some ⟨kq, 0, none⟩))) (t18 : a.tmps[18]? = some (.pointer (some ⟨kr, 0, none⟩)))
    (h0 : w.drew.cell? ⟨kp, 0, none⟩ = some (.int .i64 g0) ∧ w.drew.cell? ⟨kp, 1, none⟩ = some (.int .i64 g1) ∧ w.drew.cell? ⟨kt, 0, none⟩ = some (.int .i64 d0) ∧ w.drew.cell? ⟨kt, 1, none⟩ = some (.int .i64 d1) ∧ w.drew.cell? ⟨kt, 2, none⟩ = some (.int .i64 e0) ∧ w.drew.cell? ⟨kt, 3, none⟩ = some (.int .i64 e1) ∧ w.drew.cell? ⟨kt, 4, none⟩ = some (.int .i64 f0) ∧ w.drew.cell? ⟨kt, 5, none⟩ = some (.int .i64 f1) ∧ w.drew.cell? ⟨kq, 0, none⟩ = some (.int .i64 q0) ∧ w.drew.cell? ⟨kq, 1, none⟩ = some (.int .i64 q1) ∧ w.drew.cell? ⟨kr, 0, none⟩ = some (.int .i64 r0) ∧ w.drew.cell? ⟨kr, 1, none⟩ = some (.int .i64 r1) ∧ Below W.heap.size W w.drew)
    (he : ∀ w', w'.cell? ⟨kp, 0, none⟩ = some (.int .i64 g0) ∧ w'.cell? ⟨kp, 1, none⟩ = some (.int .i64 g1) ∧ w'.cell? ⟨kt, 0, none⟩ = some (.int .i64 d0) ∧ w'.cell? ⟨kt, 1, none⟩ = some (.int .i64 d1) ∧ w'.cell? ⟨kt, 2, none⟩ = some (.int .i64 e0) ∧ w'.cell? ⟨kt, 3, none⟩ = some (.int .i64 e1) ∧ w'.cell? ⟨kt, 4, none⟩ = some (.int .i64 f0) ∧ w'.cell? ⟨kt, 5, none⟩ = some (.int .i64 f1) ∧ w'.cell? ⟨kq, 0, none⟩ = some (.int .i64 q0) ∧ w'.cell? ⟨kq, 1, none⟩ = some (.int .i64 q1) ∧ w'.cell? ⟨kr, 0, none⟩ = some (.int .i64 r0) ∧ w'.cell? ⟨kr, 1, none⟩ = some (.int .i64 r1) ∧ Below W.heap.size W w' → Q .normal ⟨(((((((((((((((((((a.tmps.setIfInBounds 97 (.agg #[.int .i64 d0, .int .i64 d1, .int .i64 e0, .int .i64 e1, .int .i64 f0, .int .i64 f1])).setIfInBounds 98 (.agg #[.int .i64 g0, .int .i64 g1])).setIfInBounds 99 (.agg #[.int .i64 r0, .int .i64 r1])).setIfInBounds 100 (.bool true)).setIfInBounds 101 (.agg #[.int .i64 d0, .int .i64 d1, .int .i64 e0, .int .i64 e1, .int .i64 f0, .int .i64 f1])).setIfInBounds 102 (.agg #[.int .i64 g0, .int .i64 g1])).setIfInBounds 103 (.agg #[.int .i64 q0, .int .i64 q1])).setIfInBounds 104 (.bool false)).setIfInBounds 105 (.bool false)).setIfInBounds 106 (.agg #[.int .i64 d0, .int .i64 d1, .int .i64 e0, .int .i64 e1, .int .i64 f0, .int .i64 f1])).setIfInBounds 107 (.agg #[.int .i64 q0, .int .i64 q1])).setIfInBounds 108 (.agg #[.int .i64 r0, .int .i64 r1])).setIfInBounds 109 (.bool true)).setIfInBounds 110 (.bool true)).setIfInBounds 111 (.bool true)).setIfInBounds 112 (.bool true)).setIfInBounds 113 (.bool true)).setIfInBounds 114 (.bool true)).setIfInBounds 14 (.bool true)), a.defers⟩ w') :
    (Code.region id ops true).wp Try.prog Q a w := by
  have ht : tidy (regOps Try.f11 7) a.tmps.size = true := by rw [hsz]; kernel_rfl
  refine region_tab (G := Unit) (fun _ => (region11bV d0 d1 e0 e1 f0 f1 g0 g1 q0 q1 r0 r1)) (fun _ _ w' => w'.cell? ⟨kp, 0, none⟩ = some (.int .i64 g0) ∧ w'.cell? ⟨kp, 1, none⟩ = some (.int .i64 g1) ∧ w'.cell? ⟨kt, 0, none⟩ = some (.int .i64 d0) ∧ w'.cell? ⟨kt, 1, none⟩ = some (.int .i64 d1) ∧ w'.cell? ⟨kt, 2, none⟩ = some (.int .i64 e0) ∧ w'.cell? ⟨kt, 3, none⟩ = some (.int .i64 e1) ∧ w'.cell? ⟨kt, 4, none⟩ = some (.int .i64 f0) ∧ w'.cell? ⟨kt, 5, none⟩ = some (.int .i64 f1) ∧ w'.cell? ⟨kq, 0, none⟩ = some (.int .i64 q0) ∧ w'.cell? ⟨kq, 1, none⟩ = some (.int .i64 q1) ∧ w'.cell? ⟨kr, 0, none⟩ = some (.int .i64 r0) ∧ w'.cell? ⟨kr, 1, none⟩ = some (.int .i64 r1) ∧ Below W.heap.size W w') () (by kernel_rfl) ho ht h0 ?_ ?_
  · intro i o hoi g L b w' hun hpre hT hS
    clear he h0 ho hsz ht
    have hi : i < (regOps Try.f11 7).size := (Array.getElem?_eq_some_iff.1 hoi).1
    rw [show (regOps Try.f11 7).size = 19 by kernel_rfl] at hi
    obtain ⟨pc0, pc1, tc0, tc1, tc2, tc3, tc4, tc5, qc0, qc1, rc0, rc1, HB⟩ := hS
    have hcases : i = 0 ∨ i = 1 ∨ i = 2 ∨ i = 3 ∨ i = 4 ∨ i = 5 ∨ i = 6 ∨ i = 7 ∨ i = 8 ∨ i = 9 ∨ i = 10 ∨ i = 11 ∨ i = 12 ∨ i = 13 ∨ i = 14 ∨ i = 15 ∨ i = 16 ∨ i = 17 ∨ i = 18 := by omega
    rcases hcases with rfl | rfl | rfl | rfl | rfl | rfl | rfl | rfl | rfl | rfl | rfl | rfl | rfl | rfl | rfl | rfl | rfl | rfl | rfl
    · have hlit : (regOps Try.f11 7)[0]? = some ({ dst := some 97, op := Op.load 25 (Operand.tmp 15), type := 25, pos := "law.go:69", after := #[], guard := none }) := by kernel_rfl
      obtain rfl := Option.some.inj (hlit.symm.trans hoi)
      have r15 : b.tmps.getD 15 undef = (.pointer (some ⟨kt, 0, none⟩)) := rd ((hT.old 15 (by kernel_rfl)).trans t15)
      refine op_go hoi (want_all rfl) fun K hK => ?_
      clear hT hpre hun hlit hoi
      go_simp
      exact hK _ _ ⟨(), fun _ _ => rfl, rfl, pc0, pc1, tc0, tc1, tc2, tc3, tc4, tc5, qc0, qc1, rc0, rc1, HB⟩
    · have hlit : (regOps Try.f11 7)[1]? = some ({ dst := some 98, op := Op.load 23 (Operand.tmp 10), type := 23, pos := "law.go:69", after := #[], guard := none }) := by kernel_rfl
      obtain rfl := Option.some.inj (hlit.symm.trans hoi)
      have r10 : b.tmps.getD 10 undef = (.pointer (some ⟨kp, 0, none⟩)) := rd ((hT.old 10 (by kernel_rfl)).trans t10)
      refine op_go hoi (want_all rfl) fun K hK => ?_
      clear hT hpre hun hlit hoi
      go_simp
      exact hK _ _ ⟨(), fun _ _ => rfl, rfl, pc0, pc1, tc0, tc1, tc2, tc3, tc4, tc5, qc0, qc1, rc0, rc1, HB⟩
    · have hlit : (regOps Try.f11 7)[2]? = some ({ dst := some 99, op := Op.load 23 (Operand.tmp 18), type := 23, pos := "law.go:69", after := #[], guard := none }) := by kernel_rfl
      obtain rfl := Option.some.inj (hlit.symm.trans hoi)
      have r18 : b.tmps.getD 18 undef = (.pointer (some ⟨kr, 0, none⟩)) := rd ((hT.old 18 (by kernel_rfl)).trans t18)
      refine op_go hoi (want_all rfl) fun K hK => ?_
      clear hT hpre hun hlit hoi
      go_simp
      exact hK _ _ ⟨(), fun _ _ => rfl, rfl, pc0, pc1, tc0, tc1, tc2, tc3, tc4, tc5, qc0, qc1, rc0, rc1, HB⟩
    · have hlit : (regOps Try.f11 7)[3]? = some ({ dst := some 100, op := Op.call { callee := Callee.value (Operand.func 45), args := #[Operand.tmp 97, Operand.tmp 98, Operand.tmp 99], argTypes := #[25, 23, 23] }, type := 4, pos := "law.go:69", after := #[{ on := 0, ground := Ground.data }, { on := 1, ground := Ground.data }, { on := 2, ground := Ground.data }], guard := none }) := by kernel_rfl
      obtain rfl := Option.some.inj (hlit.symm.trans hoi)
      have r97 : b.tmps.getD 97 undef = (.agg #[.int .i64 d0, .int .i64 d1, .int .i64 e0, .int .i64 e1, .int .i64 f0, .int .i64 f1]) := rd (hT.at 0 (by kernel_rfl) (pre_of hpre 0 (by kernel_rfl)))
      have r98 : b.tmps.getD 98 undef = (.agg #[.int .i64 g0, .int .i64 g1]) := rd (hT.at 1 (by kernel_rfl) (pre_of hpre 1 (by kernel_rfl)))
      have r99 : b.tmps.getD 99 undef = (.agg #[.int .i64 r0, .int .i64 r1]) := rd (hT.at 2 (by kernel_rfl) (pre_of hpre 2 (by kernel_rfl)))
      refine op_go hoi (want_all rfl) fun K hK => ?_
      clear hT hpre hun hlit hoi
      go_simp
      go_at_call 45
      refine (along45 _ _ _ _ _ _ _ _ _ _ _).mono ?_; rw [m1]; rintro e w2 ⟨rfl, hb⟩; replace pc0 := ck hb (a := ⟨kp, 0, none⟩) (v := .int .i64 g0) (by go_simp); replace pc1 := ck hb (a := ⟨kp, 1, none⟩) (v := .int .i64 g1) (by go_simp); replace tc0 := ck hb (a := ⟨kt, 0, none⟩) (v := .int .i64 d0) (by go_simp); replace tc1 := ck hb (a := ⟨kt, 1, none⟩) (v := .int .i64 d1) (by go_simp); replace tc2 := ck hb (a := ⟨kt, 2, none⟩) (v := .int .i64 e0) (by go_simp); replace tc3 := ck hb (a := ⟨kt, 3, none⟩) (v := .int .i64 e1) (by go_simp); replace tc4 := ck hb (a := ⟨kt, 4, none⟩) (v := .int .i64 f0) (by go_simp); replace tc5 := ck hb (a := ⟨kt, 5, none⟩) (v := .int .i64 f1) (by go_simp); replace qc0 := ck hb (a := ⟨kq, 0, none⟩) (v := .int .i64 q0) (by go_simp); replace qc1 := ck hb (a := ⟨kq, 1, none⟩) (v := .int .i64 q1) (by go_simp); replace rc0 := ck hb (a := ⟨kr, 0, none⟩) (v := .int .i64 r0) (by go_simp); replace rc1 := ck hb (a := ⟨kr, 1, none⟩) (v := .int .i64 r1) (by go_simp); replace HB : Below W.heap.size W w2 := bt HB hb; clear hb
      exact hK _ _ ⟨(), fun _ _ => rfl, rfl, pc0, pc1, tc0, tc1, tc2, tc3, tc4, tc5, qc0, qc1, rc0, rc1, HB⟩
    · have hlit : (regOps Try.f11 7)[4]? = some ({ dst := some 101, op := Op.load 25 (Operand.tmp 15), type := 25, pos := "law.go:69", after := #[], guard := none }) := by kernel_rfl
      obtain rfl := Option.some.inj (hlit.symm.trans hoi)
      have r15 : b.tmps.getD 15 undef = (.pointer (some ⟨kt, 0, none⟩)) := rd ((hT.old 15 (by kernel_rfl)).trans t15)
      refine op_go hoi (want_all rfl) fun K hK => ?_
      clear hT hpre hun hlit hoi
      go_simp
      exact hK _ _ ⟨(), fun _ _ => rfl, rfl, pc0, pc1, tc0, tc1, tc2, tc3, tc4, tc5, qc0, qc1, rc0, rc1, HB⟩
    · have hlit : (regOps Try.f11 7)[5]? = some ({ dst := some 102, op := Op.load 23 (Operand.tmp 10), type := 23, pos := "law.go:69", after := #[], guard := none }) := by kernel_rfl
      obtain rfl := Option.some.inj (hlit.symm.trans hoi)
      have r10 : b.tmps.getD 10 undef = (.pointer (some ⟨kp, 0, none⟩)) := rd ((hT.old 10 (by kernel_rfl)).trans t10)
      refine op_go hoi (want_all rfl) fun K hK => ?_
      clear hT hpre hun hlit hoi
      go_simp
      exact hK _ _ ⟨(), fun _ _ => rfl, rfl, pc0, pc1, tc0, tc1, tc2, tc3, tc4, tc5, qc0, qc1, rc0, rc1, HB⟩
    · have hlit : (regOps Try.f11 7)[6]? = some ({ dst := some 103, op := Op.load 23 (Operand.tmp 17), type := 23, pos := "law.go:69", after := #[], guard := none }) := by kernel_rfl
      obtain rfl := Option.some.inj (hlit.symm.trans hoi)
      have r17 : b.tmps.getD 17 undef = (.pointer (some ⟨kq, 0, none⟩)) := rd ((hT.old 17 (by kernel_rfl)).trans t17)
      refine op_go hoi (want_all rfl) fun K hK => ?_
      clear hT hpre hun hlit hoi
      go_simp
      exact hK _ _ ⟨(), fun _ _ => rfl, rfl, pc0, pc1, tc0, tc1, tc2, tc3, tc4, tc5, qc0, qc1, rc0, rc1, HB⟩
    · have hlit : (regOps Try.f11 7)[7]? = some ({ dst := some 104, op := Op.call { callee := Callee.value (Operand.func 45), args := #[Operand.tmp 101, Operand.tmp 102, Operand.tmp 103], argTypes := #[25, 23, 23] }, type := 4, pos := "law.go:69", after := #[{ on := 4, ground := Ground.data }, { on := 5, ground := Ground.data }, { on := 6, ground := Ground.data }, { on := 3, ground := Ground.chain }], guard := none }) := by kernel_rfl
      obtain rfl := Option.some.inj (hlit.symm.trans hoi)
      have r101 : b.tmps.getD 101 undef = (.agg #[.int .i64 d0, .int .i64 d1, .int .i64 e0, .int .i64 e1, .int .i64 f0, .int .i64 f1]) := rd (hT.at 4 (by kernel_rfl) (pre_of hpre 4 (by kernel_rfl)))
      have r102 : b.tmps.getD 102 undef = (.agg #[.int .i64 g0, .int .i64 g1]) := rd (hT.at 5 (by kernel_rfl) (pre_of hpre 5 (by kernel_rfl)))
      have r103 : b.tmps.getD 103 undef = (.agg #[.int .i64 q0, .int .i64 q1]) := rd (hT.at 6 (by kernel_rfl) (pre_of hpre 6 (by kernel_rfl)))
      refine op_go hoi (want_all rfl) fun K hK => ?_
      clear hT hpre hun hlit hoi
      go_simp
      go_at_call 45
      refine (along45 _ _ _ _ _ _ _ _ _ _ _).mono ?_; rw [m2]; rintro e w2 ⟨rfl, hb⟩; replace pc0 := ck hb (a := ⟨kp, 0, none⟩) (v := .int .i64 g0) (by go_simp); replace pc1 := ck hb (a := ⟨kp, 1, none⟩) (v := .int .i64 g1) (by go_simp); replace tc0 := ck hb (a := ⟨kt, 0, none⟩) (v := .int .i64 d0) (by go_simp); replace tc1 := ck hb (a := ⟨kt, 1, none⟩) (v := .int .i64 d1) (by go_simp); replace tc2 := ck hb (a := ⟨kt, 2, none⟩) (v := .int .i64 e0) (by go_simp); replace tc3 := ck hb (a := ⟨kt, 3, none⟩) (v := .int .i64 e1) (by go_simp); replace tc4 := ck hb (a := ⟨kt, 4, none⟩) (v := .int .i64 f0) (by go_simp); replace tc5 := ck hb (a := ⟨kt, 5, none⟩) (v := .int .i64 f1) (by go_simp); replace qc0 := ck hb (a := ⟨kq, 0, none⟩) (v := .int .i64 q0) (by go_simp); replace qc1 := ck hb (a := ⟨kq, 1, none⟩) (v := .int .i64 q1) (by go_simp); replace rc0 := ck hb (a := ⟨kr, 0, none⟩) (v := .int .i64 r0) (by go_simp); replace rc1 := ck hb (a := ⟨kr, 1, none⟩) (v := .int .i64 r1) (by go_simp); replace HB : Below W.heap.size W w2 := bt HB hb; clear hb
      exact hK _ _ ⟨(), fun _ _ => rfl, rfl, pc0, pc1, tc0, tc1, tc2, tc3, tc4, tc5, qc0, qc1, rc0, rc1, HB⟩
    · have hlit : (regOps Try.f11 7)[8]? = some ({ dst := some 105, op := Op.move (Operand.tmp 104), type := 4, pos := "law.go:69", after := #[{ on := 7, ground := Ground.data }, { on := 7, ground := Ground.chain }], guard := none }) := by kernel_rfl
      obtain rfl := Option.some.inj (hlit.symm.trans hoi)
      have r104 : b.tmps.getD 104 undef = (.bool false) := rd (hT.at 7 (by kernel_rfl) (pre_of hpre 7 (by kernel_rfl)))
      refine op_go hoi (want_all rfl) fun K hK => ?_
      clear hT hpre hun hlit hoi
      go_simp
      exact hK _ _ ⟨(), fun _ _ => rfl, rfl, pc0, pc1, tc0, tc1, tc2, tc3, tc4, tc5, qc0, qc1, rc0, rc1, HB⟩
    · have hlit : (regOps Try.f11 7)[9]? = some ({ dst := some 106, op := Op.load 25 (Operand.tmp 15), type := 25, pos := "law.go:69", after := #[{ on := 8, ground := Ground.guard }], guard := some (8, false) }) := by kernel_rfl
      obtain rfl := Option.some.inj (hlit.symm.trans hoi)
      have r15 : b.tmps.getD 15 undef = (.pointer (some ⟨kt, 0, none⟩)) := rd ((hT.old 15 (by kernel_rfl)).trans t15)
      refine op_go hoi (want_yes rfl (d := 105) (by kernel_rfl) (hT.at 8 (by kernel_rfl) (pre_of hpre 8 (by kernel_rfl)))) fun K hK => ?_
      clear hT hpre hun hlit hoi
      go_simp
      exact hK _ _ ⟨(), fun _ _ => rfl, rfl, pc0, pc1, tc0, tc1, tc2, tc3, tc4, tc5, qc0, qc1, rc0, rc1, HB⟩
    · have hlit : (regOps Try.f11 7)[10]? = some ({ dst := some 107, op := Op.load 23 (Operand.tmp 17), type := 23, pos := "law.go:69", after := #[{ on := 8, ground := Ground.guard }], guard := some (8, false) }) := by kernel_rfl
      obtain rfl := Option.some.inj (hlit.symm.trans hoi)
      have r17 : b.tmps.getD 17 undef = (.pointer (some ⟨kq, 0, none⟩)) := rd ((hT.old 17 (by kernel_rfl)).trans t17)
      refine op_go hoi (want_yes rfl (d := 105) (by kernel_rfl) (hT.at 8 (by kernel_rfl) (pre_of hpre 8 (by kernel_rfl)))) fun K hK => ?_
      clear hT hpre hun hlit hoi
      go_simp
      exact hK _ _ ⟨(), fun _ _ => rfl, rfl, pc0, pc1, tc0, tc1, tc2, tc3, tc4, tc5, qc0, qc1, rc0, rc1, HB⟩
    · have hlit : (regOps Try.f11 7)[11]? = some ({ dst := some 108, op := Op.load 23 (Operand.tmp 18), type := 23, pos := "law.go:69", after := #[{ on := 8, ground := Ground.guard }], guard := some (8, false) }) := by kernel_rfl
      obtain rfl := Option.some.inj (hlit.symm.trans hoi)
      have r18 : b.tmps.getD 18 undef = (.pointer (some ⟨kr, 0, none⟩)) := rd ((hT.old 18 (by kernel_rfl)).trans t18)
      refine op_go hoi (want_yes rfl (d := 105) (by kernel_rfl) (hT.at 8 (by kernel_rfl) (pre_of hpre 8 (by kernel_rfl)))) fun K hK => ?_
      clear hT hpre hun hlit hoi
      go_simp
      exact hK _ _ ⟨(), fun _ _ => rfl, rfl, pc0, pc1, tc0, tc1, tc2, tc3, tc4, tc5, qc0, qc1, rc0, rc1, HB⟩
    · have hlit : (regOps Try.f11 7)[12]? = some ({ dst := some 109, op := Op.call { callee := Callee.value (Operand.func 45), args := #[Operand.tmp 106, Operand.tmp 107, Operand.tmp 108], argTypes := #[25, 23, 23] }, type := 4, pos := "law.go:69", after := #[{ on := 9, ground := Ground.data }, { on := 10, ground := Ground.data }, { on := 11, ground := Ground.data }, { on := 8, ground := Ground.chain }, { on := 8, ground := Ground.guard }], guard := some (8, false) }) := by kernel_rfl
      obtain rfl := Option.some.inj (hlit.symm.trans hoi)
      have r106 : b.tmps.getD 106 undef = (.agg #[.int .i64 d0, .int .i64 d1, .int .i64 e0, .int .i64 e1, .int .i64 f0, .int .i64 f1]) := rd (hT.at 9 (by kernel_rfl) (pre_of hpre 9 (by kernel_rfl)))
      have r107 : b.tmps.getD 107 undef = (.agg #[.int .i64 q0, .int .i64 q1]) := rd (hT.at 10 (by kernel_rfl) (pre_of hpre 10 (by kernel_rfl)))
      have r108 : b.tmps.getD 108 undef = (.agg #[.int .i64 r0, .int .i64 r1]) := rd (hT.at 11 (by kernel_rfl) (pre_of hpre 11 (by kernel_rfl)))
      refine op_go hoi (want_yes rfl (d := 105) (by kernel_rfl) (hT.at 8 (by kernel_rfl) (pre_of hpre 8 (by kernel_rfl)))) fun K hK => ?_
      clear hT hpre hun hlit hoi
      go_simp
      go_at_call 45
      refine (along45 _ _ _ _ _ _ _ _ _ _ _).mono ?_; rw [m3]; rintro e w2 ⟨rfl, hb⟩; replace pc0 := ck hb (a := ⟨kp, 0, none⟩) (v := .int .i64 g0) (by go_simp); replace pc1 := ck hb (a := ⟨kp, 1, none⟩) (v := .int .i64 g1) (by go_simp); replace tc0 := ck hb (a := ⟨kt, 0, none⟩) (v := .int .i64 d0) (by go_simp); replace tc1 := ck hb (a := ⟨kt, 1, none⟩) (v := .int .i64 d1) (by go_simp); replace tc2 := ck hb (a := ⟨kt, 2, none⟩) (v := .int .i64 e0) (by go_simp); replace tc3 := ck hb (a := ⟨kt, 3, none⟩) (v := .int .i64 e1) (by go_simp); replace tc4 := ck hb (a := ⟨kt, 4, none⟩) (v := .int .i64 f0) (by go_simp); replace tc5 := ck hb (a := ⟨kt, 5, none⟩) (v := .int .i64 f1) (by go_simp); replace qc0 := ck hb (a := ⟨kq, 0, none⟩) (v := .int .i64 q0) (by go_simp); replace qc1 := ck hb (a := ⟨kq, 1, none⟩) (v := .int .i64 q1) (by go_simp); replace rc0 := ck hb (a := ⟨kr, 0, none⟩) (v := .int .i64 r0) (by go_simp); replace rc1 := ck hb (a := ⟨kr, 1, none⟩) (v := .int .i64 r1) (by go_simp); replace HB : Below W.heap.size W w2 := bt HB hb; clear hb
      exact hK _ _ ⟨(), fun _ _ => rfl, rfl, pc0, pc1, tc0, tc1, tc2, tc3, tc4, tc5, qc0, qc1, rc0, rc1, HB⟩
    · have hlit : (regOps Try.f11 7)[13]? = some ({ dst := some 110, op := Op.pick (Operand.tmp 105) (Operand.const (Value.bool true)) (Operand.tmp 109), type := 4, pos := "law.go:69", after := #[{ on := 8, ground := Ground.data }, { on := 12, ground := Ground.data }], guard := none }) := by kernel_rfl
      obtain rfl := Option.some.inj (hlit.symm.trans hoi)
      have r105 : b.tmps.getD 105 undef = (.bool false) := rd (hT.at 8 (by kernel_rfl) (pre_of hpre 8 (by kernel_rfl)))
      have r109 : b.tmps.getD 109 undef = (.bool true) := rd (hT.at 12 (by kernel_rfl) (pre_of hpre 12 (by kernel_rfl)))
      refine op_go hoi (want_all rfl) fun K hK => ?_
      clear hT hpre hun hlit hoi
      go_simp
      exact hK _ _ ⟨(), fun _ _ => rfl, rfl, pc0, pc1, tc0, tc1, tc2, tc3, tc4, tc5, qc0, qc1, rc0, rc1, HB⟩
    · have hlit : (regOps Try.f11 7)[14]? = some ({ dst := some 111, op := Op.binOp BinOp.eql 4 (Operand.tmp 100) (Operand.tmp 110) 4, type := 4, pos := "law.go:69", after := #[{ on := 3, ground := Ground.data }, { on := 13, ground := Ground.data }], guard := none }) := by kernel_rfl
      obtain rfl := Option.some.inj (hlit.symm.trans hoi)
      have r100 : b.tmps.getD 100 undef = (.bool true) := rd (hT.at 3 (by kernel_rfl) (pre_of hpre 3 (by kernel_rfl)))
      have r110 : b.tmps.getD 110 undef = (.bool true) := rd (hT.at 13 (by kernel_rfl) (pre_of hpre 13 (by kernel_rfl)))
      refine op_go hoi (want_all rfl) fun K hK => ?_
      clear hT hpre hun hlit hoi
      go_simp
      exact hK _ _ ⟨(), fun _ _ => rfl, rfl, pc0, pc1, tc0, tc1, tc2, tc3, tc4, tc5, qc0, qc1, rc0, rc1, HB⟩
    · have hlit : (regOps Try.f11 7)[15]? = some ({ dst := some 112, op := Op.move (Operand.tmp 111), type := 4, pos := "law.go:69", after := #[{ on := 14, ground := Ground.data }, { on := 12, ground := Ground.chain }], guard := none }) := by kernel_rfl
      obtain rfl := Option.some.inj (hlit.symm.trans hoi)
      have r111 : b.tmps.getD 111 undef = (.bool true) := rd (hT.at 14 (by kernel_rfl) (pre_of hpre 14 (by kernel_rfl)))
      refine op_go hoi (want_all rfl) fun K hK => ?_
      clear hT hpre hun hlit hoi
      go_simp
      exact hK _ _ ⟨(), fun _ _ => rfl, rfl, pc0, pc1, tc0, tc1, tc2, tc3, tc4, tc5, qc0, qc1, rc0, rc1, HB⟩
    · have hlit : (regOps Try.f11 7)[16]? = some ({ dst := some 113, op := Op.call { callee := Callee.value (Operand.func 47), args := #[], argTypes := #[] }, type := 4, pos := "law.go:69", after := #[{ on := 15, ground := Ground.chain }, { on := 15, ground := Ground.guard }], guard := some (15, true) }) := by kernel_rfl
      obtain rfl := Option.some.inj (hlit.symm.trans hoi)
      refine op_go hoi (want_yes rfl (d := 112) (by kernel_rfl) (hT.at 15 (by kernel_rfl) (pre_of hpre 15 (by kernel_rfl)))) fun K hK => ?_
      clear hT hpre hun hlit hoi
      go_simp
      go_at_call 47
      refine (awake47 _).mono ?_; rintro e w2 ⟨rfl, hb⟩; replace pc0 := ck hb (a := ⟨kp, 0, none⟩) (v := .int .i64 g0) (by go_simp); replace pc1 := ck hb (a := ⟨kp, 1, none⟩) (v := .int .i64 g1) (by go_simp); replace tc0 := ck hb (a := ⟨kt, 0, none⟩) (v := .int .i64 d0) (by go_simp); replace tc1 := ck hb (a := ⟨kt, 1, none⟩) (v := .int .i64 d1) (by go_simp); replace tc2 := ck hb (a := ⟨kt, 2, none⟩) (v := .int .i64 e0) (by go_simp); replace tc3 := ck hb (a := ⟨kt, 3, none⟩) (v := .int .i64 e1) (by go_simp); replace tc4 := ck hb (a := ⟨kt, 4, none⟩) (v := .int .i64 f0) (by go_simp); replace tc5 := ck hb (a := ⟨kt, 5, none⟩) (v := .int .i64 f1) (by go_simp); replace qc0 := ck hb (a := ⟨kq, 0, none⟩) (v := .int .i64 q0) (by go_simp); replace qc1 := ck hb (a := ⟨kq, 1, none⟩) (v := .int .i64 q1) (by go_simp); replace rc0 := ck hb (a := ⟨kr, 0, none⟩) (v := .int .i64 r0) (by go_simp); replace rc1 := ck hb (a := ⟨kr, 1, none⟩) (v := .int .i64 r1) (by go_simp); replace HB : Below W.heap.size W w2 := bt HB hb; clear hb
      exact hK _ _ ⟨(), fun _ _ => rfl, rfl, pc0, pc1, tc0, tc1, tc2, tc3, tc4, tc5, qc0, qc1, rc0, rc1, HB⟩
    · have hlit : (regOps Try.f11 7)[17]? = some ({ dst := some 114, op := Op.pick (Operand.tmp 112) (Operand.tmp 113) (Operand.const (Value.bool false)), type := 4, pos := "law.go:69", after := #[{ on := 15, ground := Ground.data }, { on := 16, ground := Ground.data }], guard := none }) := by kernel_rfl
      obtain rfl := Option.some.inj (hlit.symm.trans hoi)
      have r112 : b.tmps.getD 112 undef = (.bool true) := rd (hT.at 15 (by kernel_rfl) (pre_of hpre 15 (by kernel_rfl)))
      have r113 : b.tmps.getD 113 undef = (.bool true) := rd (hT.at 16 (by kernel_rfl) (pre_of hpre 16 (by kernel_rfl)))
      refine op_go hoi (want_all rfl) fun K hK => ?_
      clear hT hpre hun hlit hoi
      go_simp
      exact hK _ _ ⟨(), fun _ _ => rfl, rfl, pc0, pc1, tc0, tc1, tc2, tc3, tc4, tc5, qc0, qc1, rc0, rc1, HB⟩
    · have hlit : (regOps Try.f11 7)[18]? = some ({ dst := some 14, op := Op.assign (Operand.tmp 114), type := 4, pos := "law.go:69", after := #[{ on := 17, ground := Ground.data }, { on := 16, ground := Ground.chain }, { on := 0, ground := Ground.phase }, { on := 1, ground := Ground.phase }, { on := 2, ground := Ground.phase }, { on := 3, ground := Ground.phase }, { on := 4, ground := Ground.phase }, { on := 5, ground := Ground.phase }, { on := 6, ground := Ground.phase }, { on := 7, ground := Ground.phase }, { on := 8, ground := Ground.phase }, { on := 9, ground := Ground.phase }, { on := 10, ground := Ground.phase }, { on := 11, ground := Ground.phase }, { on := 12, ground := Ground.phase }, { on := 13, ground := Ground.phase }, { on := 14, ground := Ground.phase }, { on := 15, ground := Ground.phase }, { on := 16, ground := Ground.phase }, { on := 17, ground := Ground.phase }], guard := none }) := by kernel_rfl
      obtain rfl := Option.some.inj (hlit.symm.trans hoi)
      have r114 : b.tmps.getD 114 undef = (.bool true) := rd (hT.at 17 (by kernel_rfl) (pre_of hpre 17 (by kernel_rfl)))
      refine op_go hoi (want_all rfl) fun K hK => ?_
      clear hT hpre hun hlit hoi
      go_simp
      exact hK _ _ ⟨(), fun _ _ => rfl, rfl, pc0, pc1, tc0, tc1, tc2, tc3, tc4, tc5, qc0, qc1, rc0, rc1, HB⟩
  · intro g b w' hT hS
    rw [hT.all ht]
    have hn : (regOps Try.f11 7).size = 19 := by kernel_rfl
    rw [hn]
    exact he w' hS

/-- What each operation of the region leaves. -/
def region11cV (d0 d1 e0 e1 f0 f1 g0 g1 q0 q1 r0 r1 : Int) : Nat → Value
  | 0 => .agg #[.int .i64 d0, .int .i64 d1, .int .i64 e0, .int .i64 e1, .int .i64 f0, .int .i64 f1]
  | 1 => .agg #[.int .i64 g0, .int .i64 g1]
  | 2 => .agg #[.int .i64 r0, .int .i64 r1]
  | 3 => .bool false
  | 4 => .agg #[.int .i64 d0, .int .i64 d1, .int .i64 e0, .int .i64 e1, .int .i64 f0, .int .i64 f1]
  | 5 => .agg #[.int .i64 g0, .int .i64 g1]
  | 6 => .agg #[.int .i64 q0, .int .i64 q1]
  | 7 => .bool false
  | 8 => .bool false
  | 9 => .agg #[.int .i64 d0, .int .i64 d1, .int .i64 e0, .int .i64 e1, .int .i64 f0, .int .i64 f1]
  | 10 => .agg #[.int .i64 q0, .int .i64 q1]
  | 11 => .agg #[.int .i64 r0, .int .i64 r1]
  | 12 => .bool false
  | 13 => .bool false
  | 14 => .bool true
  | 15 => .bool true
  | 16 => .bool true
  | 17 => .bool true
  | 18 => .bool true
  | _ => undef

set_option maxHeartbeats 4000000 in
set_option maxRecDepth 100000 in
theorem region11c (d0 d1 e0 e1 f0 f1 g0 g1 q0 q1 r0 r1 : Int) (kt kp kq kr : Nat) (W : World) (m1 : along ⟨⟨d0, d1⟩, ⟨e0, e1⟩, ⟨f0, f1⟩⟩ ⟨g0, g1⟩ ⟨r0, r1⟩ = false) (m2 : along ⟨⟨d0, d1⟩, ⟨e0, e1⟩, ⟨f0, f1⟩⟩ ⟨g0, g1⟩ ⟨q0, q1⟩ = false) (m3 : along ⟨⟨d0, d1⟩, ⟨e0, e1⟩, ⟨f0, f1⟩⟩ ⟨q0, q1⟩ ⟨r0, r1⟩ = false) {id : Nat} {ops : Array Oper} {Q : Exit → Act → World → Prop} {a : Act} {w : World}
    (ho : ops = (regOps Try.f11 7)) (hsz : a.tmps.size = 115) (t15 : a.tmps[15]? = some (.pointer (some ⟨kt, 0, none⟩))) (t10 : a.tmps[10]? = some (.pointer (some ⟨kp, 0, none⟩))) (t17 : a.tmps[17]? = some (.pointer (some ⟨kq, 0, none⟩))) (t18 : a.tmps[18]? = some (.pointer (some ⟨kr, 0, none⟩)))
    (h0 : w.drew.cell? ⟨kp, 0, none⟩ = some (.int .i64 g0) ∧ w.drew.cell? ⟨kp, 1, none⟩ = some (.int .i64 g1) ∧ w.drew.cell? ⟨kt, 0, none⟩ = some (.int .i64 d0) ∧ w.drew.cell? ⟨kt, 1, none⟩ = some (.int .i64 d1) ∧ w.drew.cell? ⟨kt, 2, none⟩ = some (.int .i64 e0) ∧ w.drew.cell? ⟨kt, 3, none⟩ = some (.int .i64 e1) ∧ w.drew.cell? ⟨kt, 4, none⟩ = some (.int .i64 f0) ∧ w.drew.cell? ⟨kt, 5, none⟩ = some (.int .i64 f1) ∧ w.drew.cell? ⟨kq, 0, none⟩ = some (.int .i64 q0) ∧ w.drew.cell? ⟨kq, 1, none⟩ = some (.int .i64 q1) ∧ w.drew.cell? ⟨kr, 0, none⟩ = some (.int .i64 r0) ∧ w.drew.cell? ⟨kr, 1, none⟩ = some (.int .i64 r1) ∧ Below W.heap.size W w.drew)
    (he : ∀ w', w'.cell? ⟨kp, 0, none⟩ = some (.int .i64 g0) ∧ w'.cell? ⟨kp, 1, none⟩ = some (.int .i64 g1) ∧ w'.cell? ⟨kt, 0, none⟩ = some (.int .i64 d0) ∧ w'.cell? ⟨kt, 1, none⟩ = some (.int .i64 d1) ∧ w'.cell? ⟨kt, 2, none⟩ = some (.int .i64 e0) ∧ w'.cell? ⟨kt, 3, none⟩ = some (.int .i64 e1) ∧ w'.cell? ⟨kt, 4, none⟩ = some (.int .i64 f0) ∧ w'.cell? ⟨kt, 5, none⟩ = some (.int .i64 f1) ∧ w'.cell? ⟨kq, 0, none⟩ = some (.int .i64 q0) ∧ w'.cell? ⟨kq, 1, none⟩ = some (.int .i64 q1) ∧ w'.cell? ⟨kr, 0, none⟩ = some (.int .i64 r0) ∧ w'.cell? ⟨kr, 1, none⟩ = some (.int .i64 r1) ∧ Below W.heap.size W w' → Q .normal ⟨(((((((((((((((((((a.tmps.setIfInBounds 97 (.agg #[.int .i64 d0, .int .i64 d1, .int .i64 e0, .int .i64 e1, .int .i64 f0, .int .i64 f1])).setIfInBounds 98 (.agg #[.int .i64 g0, .int .i64 g1])).setIfInBounds 99 (.agg #[.int .i64 r0, .int .i64 r1])).setIfInBounds 100 (.bool false)).setIfInBounds 101 (.agg #[.int .i64 d0, .int .i64 d1, .int .i64 e0, .int .i64 e1, .int .i64 f0, .int .i64 f1])).setIfInBounds 102 (.agg #[.int .i64 g0, .int .i64 g1])).setIfInBounds 103 (.agg #[.int .i64 q0, .int .i64 q1])).setIfInBounds 104 (.bool false)).setIfInBounds 105 (.bool false)).setIfInBounds 106 (.agg #[.int .i64 d0, .int .i64 d1, .int .i64 e0, .int .i64 e1, .int .i64 f0, .int .i64 f1])).setIfInBounds 107 (.agg #[.int .i64 q0, .int .i64 q1])).setIfInBounds 108 (.agg #[.int .i64 r0, .int .i64 r1])).setIfInBounds 109 (.bool false)).setIfInBounds 110 (.bool false)).setIfInBounds 111 (.bool true)).setIfInBounds 112 (.bool true)).setIfInBounds 113 (.bool true)).setIfInBounds 114 (.bool true)).setIfInBounds 14 (.bool true)), a.defers⟩ w') :
    (Code.region id ops true).wp Try.prog Q a w := by
  have ht : tidy (regOps Try.f11 7) a.tmps.size = true := by rw [hsz]; kernel_rfl
  refine region_tab (G := Unit) (fun _ => (region11cV d0 d1 e0 e1 f0 f1 g0 g1 q0 q1 r0 r1)) (fun _ _ w' => w'.cell? ⟨kp, 0, none⟩ = some (.int .i64 g0) ∧ w'.cell? ⟨kp, 1, none⟩ = some (.int .i64 g1) ∧ w'.cell? ⟨kt, 0, none⟩ = some (.int .i64 d0) ∧ w'.cell? ⟨kt, 1, none⟩ = some (.int .i64 d1) ∧ w'.cell? ⟨kt, 2, none⟩ = some (.int .i64 e0) ∧ w'.cell? ⟨kt, 3, none⟩ = some (.int .i64 e1) ∧ w'.cell? ⟨kt, 4, none⟩ = some (.int .i64 f0) ∧ w'.cell? ⟨kt, 5, none⟩ = some (.int .i64 f1) ∧ w'.cell? ⟨kq, 0, none⟩ = some (.int .i64 q0) ∧ w'.cell? ⟨kq, 1, none⟩ = some (.int .i64 q1) ∧ w'.cell? ⟨kr, 0, none⟩ = some (.int .i64 r0) ∧ w'.cell? ⟨kr, 1, none⟩ = some (.int .i64 r1) ∧ Below W.heap.size W w') () (by kernel_rfl) ho ht h0 ?_ ?_
  · intro i o hoi g L b w' hun hpre hT hS
    clear he h0 ho hsz ht
    have hi : i < (regOps Try.f11 7).size := (Array.getElem?_eq_some_iff.1 hoi).1
    rw [show (regOps Try.f11 7).size = 19 by kernel_rfl] at hi
    obtain ⟨pc0, pc1, tc0, tc1, tc2, tc3, tc4, tc5, qc0, qc1, rc0, rc1, HB⟩ := hS
    have hcases : i = 0 ∨ i = 1 ∨ i = 2 ∨ i = 3 ∨ i = 4 ∨ i = 5 ∨ i = 6 ∨ i = 7 ∨ i = 8 ∨ i = 9 ∨ i = 10 ∨ i = 11 ∨ i = 12 ∨ i = 13 ∨ i = 14 ∨ i = 15 ∨ i = 16 ∨ i = 17 ∨ i = 18 := by omega
    rcases hcases with rfl | rfl | rfl | rfl | rfl | rfl | rfl | rfl | rfl | rfl | rfl | rfl | rfl | rfl | rfl | rfl | rfl | rfl | rfl
    · have hlit : (regOps Try.f11 7)[0]? = some ({ dst := some 97, op := Op.load 25 (Operand.tmp 15), type := 25, pos := "law.go:69", after := #[], guard := none }) := by kernel_rfl
      obtain rfl := Option.some.inj (hlit.symm.trans hoi)
      have r15 : b.tmps.getD 15 undef = (.pointer (some ⟨kt, 0, none⟩)) := rd ((hT.old 15 (by kernel_rfl)).trans t15)
      refine op_go hoi (want_all rfl) fun K hK => ?_
      clear hT hpre hun hlit hoi
      go_simp
      exact hK _ _ ⟨(), fun _ _ => rfl, rfl, pc0, pc1, tc0, tc1, tc2, tc3, tc4, tc5, qc0, qc1, rc0, rc1, HB⟩
    · have hlit : (regOps Try.f11 7)[1]? = some ({ dst := some 98, op := Op.load 23 (Operand.tmp 10), type := 23, pos := "law.go:69", after := #[], guard := none }) := by kernel_rfl
      obtain rfl := Option.some.inj (hlit.symm.trans hoi)
      have r10 : b.tmps.getD 10 undef = (.pointer (some ⟨kp, 0, none⟩)) := rd ((hT.old 10 (by kernel_rfl)).trans t10)
      refine op_go hoi (want_all rfl) fun K hK => ?_
      clear hT hpre hun hlit hoi
      go_simp
      exact hK _ _ ⟨(), fun _ _ => rfl, rfl, pc0, pc1, tc0, tc1, tc2, tc3, tc4, tc5, qc0, qc1, rc0, rc1, HB⟩
    · have hlit : (regOps Try.f11 7)[2]? = some ({ dst := some 99, op := Op.load 23 (Operand.tmp 18), type := 23, pos := "law.go:69", after := #[], guard := none }) := by kernel_rfl
      obtain rfl := Option.some.inj (hlit.symm.trans hoi)
      have r18 : b.tmps.getD 18 undef = (.pointer (some ⟨kr, 0, none⟩)) := rd ((hT.old 18 (by kernel_rfl)).trans t18)
      refine op_go hoi (want_all rfl) fun K hK => ?_
      clear hT hpre hun hlit hoi
      go_simp
      exact hK _ _ ⟨(), fun _ _ => rfl, rfl, pc0, pc1, tc0, tc1, tc2, tc3, tc4, tc5, qc0, qc1, rc0, rc1, HB⟩
    · have hlit : (regOps Try.f11 7)[3]? = some ({ dst := some 100, op := Op.call { callee := Callee.value (Operand.func 45), args := #[Operand.tmp 97, Operand.tmp 98, Operand.tmp 99], argTypes := #[25, 23, 23] }, type := 4, pos := "law.go:69", after := #[{ on := 0, ground := Ground.data }, { on := 1, ground := Ground.data }, { on := 2, ground := Ground.data }], guard := none }) := by kernel_rfl
      obtain rfl := Option.some.inj (hlit.symm.trans hoi)
      have r97 : b.tmps.getD 97 undef = (.agg #[.int .i64 d0, .int .i64 d1, .int .i64 e0, .int .i64 e1, .int .i64 f0, .int .i64 f1]) := rd (hT.at 0 (by kernel_rfl) (pre_of hpre 0 (by kernel_rfl)))
      have r98 : b.tmps.getD 98 undef = (.agg #[.int .i64 g0, .int .i64 g1]) := rd (hT.at 1 (by kernel_rfl) (pre_of hpre 1 (by kernel_rfl)))
      have r99 : b.tmps.getD 99 undef = (.agg #[.int .i64 r0, .int .i64 r1]) := rd (hT.at 2 (by kernel_rfl) (pre_of hpre 2 (by kernel_rfl)))
      refine op_go hoi (want_all rfl) fun K hK => ?_
      clear hT hpre hun hlit hoi
      go_simp
      go_at_call 45
      refine (along45 _ _ _ _ _ _ _ _ _ _ _).mono ?_; rw [m1]; rintro e w2 ⟨rfl, hb⟩; replace pc0 := ck hb (a := ⟨kp, 0, none⟩) (v := .int .i64 g0) (by go_simp); replace pc1 := ck hb (a := ⟨kp, 1, none⟩) (v := .int .i64 g1) (by go_simp); replace tc0 := ck hb (a := ⟨kt, 0, none⟩) (v := .int .i64 d0) (by go_simp); replace tc1 := ck hb (a := ⟨kt, 1, none⟩) (v := .int .i64 d1) (by go_simp); replace tc2 := ck hb (a := ⟨kt, 2, none⟩) (v := .int .i64 e0) (by go_simp); replace tc3 := ck hb (a := ⟨kt, 3, none⟩) (v := .int .i64 e1) (by go_simp); replace tc4 := ck hb (a := ⟨kt, 4, none⟩) (v := .int .i64 f0) (by go_simp); replace tc5 := ck hb (a := ⟨kt, 5, none⟩) (v := .int .i64 f1) (by go_simp); replace qc0 := ck hb (a := ⟨kq, 0, none⟩) (v := .int .i64 q0) (by go_simp); replace qc1 := ck hb (a := ⟨kq, 1, none⟩) (v := .int .i64 q1) (by go_simp); replace rc0 := ck hb (a := ⟨kr, 0, none⟩) (v := .int .i64 r0) (by go_simp); replace rc1 := ck hb (a := ⟨kr, 1, none⟩) (v := .int .i64 r1) (by go_simp); replace HB : Below W.heap.size W w2 := bt HB hb; clear hb
      exact hK _ _ ⟨(), fun _ _ => rfl, rfl, pc0, pc1, tc0, tc1, tc2, tc3, tc4, tc5, qc0, qc1, rc0, rc1, HB⟩
    · have hlit : (regOps Try.f11 7)[4]? = some ({ dst := some 101, op := Op.load 25 (Operand.tmp 15), type := 25, pos := "law.go:69", after := #[], guard := none }) := by kernel_rfl
      obtain rfl := Option.some.inj (hlit.symm.trans hoi)
      have r15 : b.tmps.getD 15 undef = (.pointer (some ⟨kt, 0, none⟩)) := rd ((hT.old 15 (by kernel_rfl)).trans t15)
      refine op_go hoi (want_all rfl) fun K hK => ?_
      clear hT hpre hun hlit hoi
      go_simp
      exact hK _ _ ⟨(), fun _ _ => rfl, rfl, pc0, pc1, tc0, tc1, tc2, tc3, tc4, tc5, qc0, qc1, rc0, rc1, HB⟩
    · have hlit : (regOps Try.f11 7)[5]? = some ({ dst := some 102, op := Op.load 23 (Operand.tmp 10), type := 23, pos := "law.go:69", after := #[], guard := none }) := by kernel_rfl
      obtain rfl := Option.some.inj (hlit.symm.trans hoi)
      have r10 : b.tmps.getD 10 undef = (.pointer (some ⟨kp, 0, none⟩)) := rd ((hT.old 10 (by kernel_rfl)).trans t10)
      refine op_go hoi (want_all rfl) fun K hK => ?_
      clear hT hpre hun hlit hoi
      go_simp
      exact hK _ _ ⟨(), fun _ _ => rfl, rfl, pc0, pc1, tc0, tc1, tc2, tc3, tc4, tc5, qc0, qc1, rc0, rc1, HB⟩
    · have hlit : (regOps Try.f11 7)[6]? = some ({ dst := some 103, op := Op.load 23 (Operand.tmp 17), type := 23, pos := "law.go:69", after := #[], guard := none }) := by kernel_rfl
      obtain rfl := Option.some.inj (hlit.symm.trans hoi)
      have r17 : b.tmps.getD 17 undef = (.pointer (some ⟨kq, 0, none⟩)) := rd ((hT.old 17 (by kernel_rfl)).trans t17)
      refine op_go hoi (want_all rfl) fun K hK => ?_
      clear hT hpre hun hlit hoi
      go_simp
      exact hK _ _ ⟨(), fun _ _ => rfl, rfl, pc0, pc1, tc0, tc1, tc2, tc3, tc4, tc5, qc0, qc1, rc0, rc1, HB⟩
    · have hlit : (regOps Try.f11 7)[7]? = some ({ dst := some 104, op := Op.call { callee := Callee.value (Operand.func 45), args := #[Operand.tmp 101, Operand.tmp 102, Operand.tmp 103], argTypes := #[25, 23, 23] }, type := 4, pos := "law.go:69", after := #[{ on := 4, ground := Ground.data }, { on := 5, ground := Ground.data }, { on := 6, ground := Ground.data }, { on := 3, ground := Ground.chain }], guard := none }) := by kernel_rfl
      obtain rfl := Option.some.inj (hlit.symm.trans hoi)
      have r101 : b.tmps.getD 101 undef = (.agg #[.int .i64 d0, .int .i64 d1, .int .i64 e0, .int .i64 e1, .int .i64 f0, .int .i64 f1]) := rd (hT.at 4 (by kernel_rfl) (pre_of hpre 4 (by kernel_rfl)))
      have r102 : b.tmps.getD 102 undef = (.agg #[.int .i64 g0, .int .i64 g1]) := rd (hT.at 5 (by kernel_rfl) (pre_of hpre 5 (by kernel_rfl)))
      have r103 : b.tmps.getD 103 undef = (.agg #[.int .i64 q0, .int .i64 q1]) := rd (hT.at 6 (by kernel_rfl) (pre_of hpre 6 (by kernel_rfl)))
      refine op_go hoi (want_all rfl) fun K hK => ?_
      clear hT hpre hun hlit hoi
      go_simp
      go_at_call 45
      refine (along45 _ _ _ _ _ _ _ _ _ _ _).mono ?_; rw [m2]; rintro e w2 ⟨rfl, hb⟩; replace pc0 := ck hb (a := ⟨kp, 0, none⟩) (v := .int .i64 g0) (by go_simp); replace pc1 := ck hb (a := ⟨kp, 1, none⟩) (v := .int .i64 g1) (by go_simp); replace tc0 := ck hb (a := ⟨kt, 0, none⟩) (v := .int .i64 d0) (by go_simp); replace tc1 := ck hb (a := ⟨kt, 1, none⟩) (v := .int .i64 d1) (by go_simp); replace tc2 := ck hb (a := ⟨kt, 2, none⟩) (v := .int .i64 e0) (by go_simp); replace tc3 := ck hb (a := ⟨kt, 3, none⟩) (v := .int .i64 e1) (by go_simp); replace tc4 := ck hb (a := ⟨kt, 4, none⟩) (v := .int .i64 f0) (by go_simp); replace tc5 := ck hb (a := ⟨kt, 5, none⟩) (v := .int .i64 f1) (by go_simp); replace qc0 := ck hb (a := ⟨kq, 0, none⟩) (v := .int .i64 q0) (by go_simp); replace qc1 := ck hb (a := ⟨kq, 1, none⟩) (v := .int .i64 q1) (by go_simp); replace rc0 := ck hb (a := ⟨kr, 0, none⟩) (v := .int .i64 r0) (by go_simp); replace rc1 := ck hb (a := ⟨kr, 1, none⟩) (v := .int .i64 r1) (by go_simp); replace HB : Below W.heap.size W w2 := bt HB hb; clear hb
      exact hK _ _ ⟨(), fun _ _ => rfl, rfl, pc0, pc1, tc0, tc1, tc2, tc3, tc4, tc5, qc0, qc1, rc0, rc1, HB⟩
    · have hlit : (regOps Try.f11 7)[8]? = some ({ dst := some 105, op := Op.move (Operand.tmp 104), type := 4, pos := "law.go:69", after := #[{ on := 7, ground := Ground.data }, { on := 7, ground := Ground.chain }], guard := none }) := by kernel_rfl
      obtain rfl := Option.some.inj (hlit.symm.trans hoi)
      have r104 : b.tmps.getD 104 undef = (.bool false) := rd (hT.at 7 (by kernel_rfl) (pre_of hpre 7 (by kernel_rfl)))
      refine op_go hoi (want_all rfl) fun K hK => ?_
      clear hT hpre hun hlit hoi
      go_simp
      exact hK _ _ ⟨(), fun _ _ => rfl, rfl, pc0, pc1, tc0, tc1, tc2, tc3, tc4, tc5, qc0, qc1, rc0, rc1, HB⟩
    · have hlit : (regOps Try.f11 7)[9]? = some ({ dst := some 106, op := Op.load 25 (Operand.tmp 15), type := 25, pos := "law.go:69", after := #[{ on := 8, ground := Ground.guard }], guard := some (8, false) }) := by kernel_rfl
      obtain rfl := Option.some.inj (hlit.symm.trans hoi)
      have r15 : b.tmps.getD 15 undef = (.pointer (some ⟨kt, 0, none⟩)) := rd ((hT.old 15 (by kernel_rfl)).trans t15)
      refine op_go hoi (want_yes rfl (d := 105) (by kernel_rfl) (hT.at 8 (by kernel_rfl) (pre_of hpre 8 (by kernel_rfl)))) fun K hK => ?_
      clear hT hpre hun hlit hoi
      go_simp
      exact hK _ _ ⟨(), fun _ _ => rfl, rfl, pc0, pc1, tc0, tc1, tc2, tc3, tc4, tc5, qc0, qc1, rc0, rc1, HB⟩
    · have hlit : (regOps Try.f11 7)[10]? = some ({ dst := some 107, op := Op.load 23 (Operand.tmp 17), type := 23, pos := "law.go:69", after := #[{ on := 8, ground := Ground.guard }], guard := some (8, false) }) := by kernel_rfl
      obtain rfl := Option.some.inj (hlit.symm.trans hoi)
      have r17 : b.tmps.getD 17 undef = (.pointer (some ⟨kq, 0, none⟩)) := rd ((hT.old 17 (by kernel_rfl)).trans t17)
      refine op_go hoi (want_yes rfl (d := 105) (by kernel_rfl) (hT.at 8 (by kernel_rfl) (pre_of hpre 8 (by kernel_rfl)))) fun K hK => ?_
      clear hT hpre hun hlit hoi
      go_simp
      exact hK _ _ ⟨(), fun _ _ => rfl, rfl, pc0, pc1, tc0, tc1, tc2, tc3, tc4, tc5, qc0, qc1, rc0, rc1, HB⟩
    · have hlit : (regOps Try.f11 7)[11]? = some ({ dst := some 108, op := Op.load 23 (Operand.tmp 18), type := 23, pos := "law.go:69", after := #[{ on := 8, ground := Ground.guard }], guard := some (8, false) }) := by kernel_rfl
      obtain rfl := Option.some.inj (hlit.symm.trans hoi)
      have r18 : b.tmps.getD 18 undef = (.pointer (some ⟨kr, 0, none⟩)) := rd ((hT.old 18 (by kernel_rfl)).trans t18)
      refine op_go hoi (want_yes rfl (d := 105) (by kernel_rfl) (hT.at 8 (by kernel_rfl) (pre_of hpre 8 (by kernel_rfl)))) fun K hK => ?_
      clear hT hpre hun hlit hoi
      go_simp
      exact hK _ _ ⟨(), fun _ _ => rfl, rfl, pc0, pc1, tc0, tc1, tc2, tc3, tc4, tc5, qc0, qc1, rc0, rc1, HB⟩
    · have hlit : (regOps Try.f11 7)[12]? = some ({ dst := some 109, op := Op.call { callee := Callee.value (Operand.func 45), args := #[Operand.tmp 106, Operand.tmp 107, Operand.tmp 108], argTypes := #[25, 23, 23] }, type := 4, pos := "law.go:69", after := #[{ on := 9, ground := Ground.data }, { on := 10, ground := Ground.data }, { on := 11, ground := Ground.data }, { on := 8, ground := Ground.chain }, { on := 8, ground := Ground.guard }], guard := some (8, false) }) := by kernel_rfl
      obtain rfl := Option.some.inj (hlit.symm.trans hoi)
      have r106 : b.tmps.getD 106 undef = (.agg #[.int .i64 d0, .int .i64 d1, .int .i64 e0, .int .i64 e1, .int .i64 f0, .int .i64 f1]) := rd (hT.at 9 (by kernel_rfl) (pre_of hpre 9 (by kernel_rfl)))
      have r107 : b.tmps.getD 107 undef = (.agg #[.int .i64 q0, .int .i64 q1]) := rd (hT.at 10 (by kernel_rfl) (pre_of hpre 10 (by kernel_rfl)))
      have r108 : b.tmps.getD 108 undef = (.agg #[.int .i64 r0, .int .i64 r1]) := rd (hT.at 11 (by kernel_rfl) (pre_of hpre 11 (by kernel_rfl)))
      refine op_go hoi (want_yes rfl (d := 105) (by kernel_rfl) (hT.at 8 (by kernel_rfl) (pre_of hpre 8 (by kernel_rfl)))) fun K hK => ?_
      clear hT hpre hun hlit hoi
      go_simp
      go_at_call 45
      refine (along45 _ _ _ _ _ _ _ _ _ _ _).mono ?_; rw [m3]; rintro e w2 ⟨rfl, hb⟩; replace pc0 := ck hb (a := ⟨kp, 0, none⟩) (v := .int .i64 g0) (by go_simp); replace pc1 := ck hb (a := ⟨kp, 1, none⟩) (v := .int .i64 g1) (by go_simp); replace tc0 := ck hb (a := ⟨kt, 0, none⟩) (v := .int .i64 d0) (by go_simp); replace tc1 := ck hb (a := ⟨kt, 1, none⟩) (v := .int .i64 d1) (by go_simp); replace tc2 := ck hb (a := ⟨kt, 2, none⟩) (v := .int .i64 e0) (by go_simp); replace tc3 := ck hb (a := ⟨kt, 3, none⟩) (v := .int .i64 e1) (by go_simp); replace tc4 := ck hb (a := ⟨kt, 4, none⟩) (v := .int .i64 f0) (by go_simp); replace tc5 := ck hb (a := ⟨kt, 5, none⟩) (v := .int .i64 f1) (by go_simp); replace qc0 := ck hb (a := ⟨kq, 0, none⟩) (v := .int .i64 q0) (by go_simp); replace qc1 := ck hb (a := ⟨kq, 1, none⟩) (v := .int .i64 q1) (by go_simp); replace rc0 := ck hb (a := ⟨kr, 0, none⟩) (v := .int .i64 r0) (by go_simp); replace rc1 := ck hb (a := ⟨kr, 1, none⟩) (v := .int .i64 r1) (by go_simp); replace HB : Below W.heap.size W w2 := bt HB hb; clear hb
      exact hK _ _ ⟨(), fun _ _ => rfl, rfl, pc0, pc1, tc0, tc1, tc2, tc3, tc4, tc5, qc0, qc1, rc0, rc1, HB⟩
    · have hlit : (regOps Try.f11 7)[13]? = some ({ dst := some 110, op := Op.pick (Operand.tmp 105) (Operand.const (Value.bool true)) (Operand.tmp 109), type := 4, pos := "law.go:69", after := #[{ on := 8, ground := Ground.data }, { on := 12, ground := Ground.data }], guard := none }) := by kernel_rfl
      obtain rfl := Option.some.inj (hlit.symm.trans hoi)
      have r105 : b.tmps.getD 105 undef = (.bool false) := rd (hT.at 8 (by kernel_rfl) (pre_of hpre 8 (by kernel_rfl)))
      have r109 : b.tmps.getD 109 undef = (.bool false) := rd (hT.at 12 (by kernel_rfl) (pre_of hpre 12 (by kernel_rfl)))
      refine op_go hoi (want_all rfl) fun K hK => ?_
      clear hT hpre hun hlit hoi
      go_simp
      exact hK _ _ ⟨(), fun _ _ => rfl, rfl, pc0, pc1, tc0, tc1, tc2, tc3, tc4, tc5, qc0, qc1, rc0, rc1, HB⟩
    · have hlit : (regOps Try.f11 7)[14]? = some ({ dst := some 111, op := Op.binOp BinOp.eql 4 (Operand.tmp 100) (Operand.tmp 110) 4, type := 4, pos := "law.go:69", after := #[{ on := 3, ground := Ground.data }, { on := 13, ground := Ground.data }], guard := none }) := by kernel_rfl
      obtain rfl := Option.some.inj (hlit.symm.trans hoi)
      have r100 : b.tmps.getD 100 undef = (.bool false) := rd (hT.at 3 (by kernel_rfl) (pre_of hpre 3 (by kernel_rfl)))
      have r110 : b.tmps.getD 110 undef = (.bool false) := rd (hT.at 13 (by kernel_rfl) (pre_of hpre 13 (by kernel_rfl)))
      refine op_go hoi (want_all rfl) fun K hK => ?_
      clear hT hpre hun hlit hoi
      go_simp
      exact hK _ _ ⟨(), fun _ _ => rfl, rfl, pc0, pc1, tc0, tc1, tc2, tc3, tc4, tc5, qc0, qc1, rc0, rc1, HB⟩
    · have hlit : (regOps Try.f11 7)[15]? = some ({ dst := some 112, op := Op.move (Operand.tmp 111), type := 4, pos := "law.go:69", after := #[{ on := 14, ground := Ground.data }, { on := 12, ground := Ground.chain }], guard := none }) := by kernel_rfl
      obtain rfl := Option.some.inj (hlit.symm.trans hoi)
      have r111 : b.tmps.getD 111 undef = (.bool true) := rd (hT.at 14 (by kernel_rfl) (pre_of hpre 14 (by kernel_rfl)))
      refine op_go hoi (want_all rfl) fun K hK => ?_
      clear hT hpre hun hlit hoi
      go_simp
      exact hK _ _ ⟨(), fun _ _ => rfl, rfl, pc0, pc1, tc0, tc1, tc2, tc3, tc4, tc5, qc0, qc1, rc0, rc1, HB⟩
    · have hlit : (regOps Try.f11 7)[16]? = some ({ dst := some 113, op := Op.call { callee := Callee.value (Operand.func 47), args := #[], argTypes := #[] }, type := 4, pos := "law.go:69", after := #[{ on := 15, ground := Ground.chain }, { on := 15, ground := Ground.guard }], guard := some (15, true) }) := by kernel_rfl
      obtain rfl := Option.some.inj (hlit.symm.trans hoi)
      refine op_go hoi (want_yes rfl (d := 112) (by kernel_rfl) (hT.at 15 (by kernel_rfl) (pre_of hpre 15 (by kernel_rfl)))) fun K hK => ?_
      clear hT hpre hun hlit hoi
      go_simp
      go_at_call 47
      refine (awake47 _).mono ?_; rintro e w2 ⟨rfl, hb⟩; replace pc0 := ck hb (a := ⟨kp, 0, none⟩) (v := .int .i64 g0) (by go_simp); replace pc1 := ck hb (a := ⟨kp, 1, none⟩) (v := .int .i64 g1) (by go_simp); replace tc0 := ck hb (a := ⟨kt, 0, none⟩) (v := .int .i64 d0) (by go_simp); replace tc1 := ck hb (a := ⟨kt, 1, none⟩) (v := .int .i64 d1) (by go_simp); replace tc2 := ck hb (a := ⟨kt, 2, none⟩) (v := .int .i64 e0) (by go_simp); replace tc3 := ck hb (a := ⟨kt, 3, none⟩) (v := .int .i64 e1) (by go_simp); replace tc4 := ck hb (a := ⟨kt, 4, none⟩) (v := .int .i64 f0) (by go_simp); replace tc5 := ck hb (a := ⟨kt, 5, none⟩) (v := .int .i64 f1) (by go_simp); replace qc0 := ck hb (a := ⟨kq, 0, none⟩) (v := .int .i64 q0) (by go_simp); replace qc1 := ck hb (a := ⟨kq, 1, none⟩) (v := .int .i64 q1) (by go_simp); replace rc0 := ck hb (a := ⟨kr, 0, none⟩) (v := .int .i64 r0) (by go_simp); replace rc1 := ck hb (a := ⟨kr, 1, none⟩) (v := .int .i64 r1) (by go_simp); replace HB : Below W.heap.size W w2 := bt HB hb; clear hb
      exact hK _ _ ⟨(), fun _ _ => rfl, rfl, pc0, pc1, tc0, tc1, tc2, tc3, tc4, tc5, qc0, qc1, rc0, rc1, HB⟩
    · have hlit : (regOps Try.f11 7)[17]? = some ({ dst := some 114, op := Op.pick (Operand.tmp 112) (Operand.tmp 113) (Operand.const (Value.bool false)), type := 4, pos := "law.go:69", after := #[{ on := 15, ground := Ground.data }, { on := 16, ground := Ground.data }], guard := none }) := by kernel_rfl
      obtain rfl := Option.some.inj (hlit.symm.trans hoi)
      have r112 : b.tmps.getD 112 undef = (.bool true) := rd (hT.at 15 (by kernel_rfl) (pre_of hpre 15 (by kernel_rfl)))
      have r113 : b.tmps.getD 113 undef = (.bool true) := rd (hT.at 16 (by kernel_rfl) (pre_of hpre 16 (by kernel_rfl)))
      refine op_go hoi (want_all rfl) fun K hK => ?_
      clear hT hpre hun hlit hoi
      go_simp
      exact hK _ _ ⟨(), fun _ _ => rfl, rfl, pc0, pc1, tc0, tc1, tc2, tc3, tc4, tc5, qc0, qc1, rc0, rc1, HB⟩
    · have hlit : (regOps Try.f11 7)[18]? = some ({ dst := some 14, op := Op.assign (Operand.tmp 114), type := 4, pos := "law.go:69", after := #[{ on := 17, ground := Ground.data }, { on := 16, ground := Ground.chain }, { on := 0, ground := Ground.phase }, { on := 1, ground := Ground.phase }, { on := 2, ground := Ground.phase }, { on := 3, ground := Ground.phase }, { on := 4, ground := Ground.phase }, { on := 5, ground := Ground.phase }, { on := 6, ground := Ground.phase }, { on := 7, ground := Ground.phase }, { on := 8, ground := Ground.phase }, { on := 9, ground := Ground.phase }, { on := 10, ground := Ground.phase }, { on := 11, ground := Ground.phase }, { on := 12, ground := Ground.phase }, { on := 13, ground := Ground.phase }, { on := 14, ground := Ground.phase }, { on := 15, ground := Ground.phase }, { on := 16, ground := Ground.phase }, { on := 17, ground := Ground.phase }], guard := none }) := by kernel_rfl
      obtain rfl := Option.some.inj (hlit.symm.trans hoi)
      have r114 : b.tmps.getD 114 undef = (.bool true) := rd (hT.at 17 (by kernel_rfl) (pre_of hpre 17 (by kernel_rfl)))
      refine op_go hoi (want_all rfl) fun K hK => ?_
      clear hT hpre hun hlit hoi
      go_simp
      exact hK _ _ ⟨(), fun _ _ => rfl, rfl, pc0, pc1, tc0, tc1, tc2, tc3, tc4, tc5, qc0, qc1, rc0, rc1, HB⟩
  · intro g b w' hT hS
    rw [hT.all ht]
    have hn : (regOps Try.f11 7).size = 19 := by kernel_rfl
    rw [hn]
    exact he w' hS

end Go.Proofs.Ytandgbpbabmdfaa
