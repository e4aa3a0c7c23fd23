import Derived.Test.YtandgbpbabmdfaaT60
import Derived.Test.YtandgbpbabmdfaaT61
import Derived.Test.YtandgbpbabmdfaaRh
namespace Go.Proofs.Ytandgbpbabmdfaa
open Go.RowKit
attribute [local go_sem high] eq23 eq25 mn_two mx_two mn_three mx_three mx_four

/-- What each operation of the region leaves. -/
def region4_12V (d0 d1 e0 e1 f0 f1 : Int) (kt kp cp k1 k2 cq : Nat) : Nat → Value
  | 0 => .pointer (some ⟨kt, 0, none⟩)
  | 1 => .agg #[.int .i64 d0, .int .i64 d1]
  | 2 => .slice (some ⟨kp, 0, none⟩) 3 cp
  | 3 => .pointer (some ⟨kp, 0, none⟩)
  | 4 => .agg #[.int .i64 d0, .int .i64 d1]
  | 5 => .bool false
  | 6 => .bool false
  | 7 => .pointer (some ⟨kt, 0, none⟩)
  | 8 => .agg #[.int .i64 d0, .int .i64 d1]
  | 9 => .pointer (some ⟨kt, 2, none⟩)
  | 10 => .agg #[.int .i64 e0, .int .i64 e1]
  | 11 => .pointer (some ⟨kt, 4, none⟩)
  | 12 => .agg #[.int .i64 f0, .int .i64 f1]
  | 13 => .slice (some ⟨k1, 0, none⟩) 3 3
  | 14 => .slice (some ⟨k2, 0, none⟩) 3 cq
  | 15 => .slice (some ⟨kp, 0, none⟩) 3 cp
  | 16 => .bool true
  | 17 => .bool false
  | 18 => .bool false
  | _ => undef

set_option maxHeartbeats 4000000 in
set_option maxRecDepth 100000 in
theorem region4_12 (d0 d1 e0 e1 f0 f1 y0 y1 z0 z1 : Int) (kt kp cp : Nat) (W : World) (hs : srt ⟨d0, d1⟩ ⟨e0, e1⟩ ⟨f0, f1⟩ = (⟨d0, d1⟩, ⟨y0, y1⟩, ⟨z0, z1⟩)) (nab : (⟨d0, d1⟩ : Pt) ≠ ⟨e0, e1⟩) (nbc : (⟨e0, e1⟩ : Pt) ≠ ⟨f0, f1⟩) (nac : (⟨d0, d1⟩ : Pt) ≠ ⟨f0, f1⟩) {id : Nat} {ops : Array Oper} {Q : Exit → Act → World → Prop} {a : Act} {w : World}
    (ho : ops = (regOps Try.f4 12)) (hsz : a.tmps.size = 151) (t7 : a.tmps[7]? = some (.pointer (some ⟨kt, 0, none⟩))) (t13 : a.tmps[13]? = some (.slice (some ⟨kp, 0, none⟩) 3 cp))
    (h0 : w.cell? ⟨kt, 0, none⟩ = some (.int .i64 d0) ∧ w.cell? ⟨kt, 1, none⟩ = some (.int .i64 d1) ∧ w.cell? ⟨kt, 2, none⟩ = some (.int .i64 e0) ∧ w.cell? ⟨kt, 3, none⟩ = some (.int .i64 e1) ∧ w.cell? ⟨kt, 4, none⟩ = some (.int .i64 f0) ∧ w.cell? ⟨kt, 5, none⟩ = some (.int .i64 f1) ∧ w.cell? ⟨kp, 0, none⟩ = some (.int .i64 d0) ∧ w.cell? ⟨kp, 1, none⟩ = some (.int .i64 d1) ∧ w.cell? ⟨kp, 2, none⟩ = some (.int .i64 y0) ∧ w.cell? ⟨kp, 3, none⟩ = some (.int .i64 y1) ∧ w.cell? ⟨kp, 4, none⟩ = some (.int .i64 z0) ∧ w.cell? ⟨kp, 5, none⟩ = some (.int .i64 z1) ∧ Below W.heap.size W w)
    (he : ∀ k1 k2 cq w', w'.cell? ⟨kt, 0, none⟩ = some (.int .i64 d0) ∧ w'.cell? ⟨kt, 1, none⟩ = some (.int .i64 d1) ∧ w'.cell? ⟨kt, 2, none⟩ = some (.int .i64 e0) ∧ w'.cell? ⟨kt, 3, none⟩ = some (.int .i64 e1) ∧ w'.cell? ⟨kt, 4, none⟩ = some (.int .i64 f0) ∧ w'.cell? ⟨kt, 5, none⟩ = some (.int .i64 f1) ∧ w'.cell? ⟨kp, 0, none⟩ = some (.int .i64 d0) ∧ w'.cell? ⟨kp, 1, none⟩ = some (.int .i64 d1) ∧ w'.cell? ⟨kp, 2, none⟩ = some (.int .i64 y0) ∧ w'.cell? ⟨kp, 3, none⟩ = some (.int .i64 y1) ∧ w'.cell? ⟨kp, 4, none⟩ = some (.int .i64 z0) ∧ w'.cell? ⟨kp, 5, none⟩ = some (.int .i64 z1) ∧ Below W.heap.size W w' → Q .normal ⟨(((((((((((((((((((a.tmps.setIfInBounds 93 (.pointer (some ⟨kt, 0, none⟩))).setIfInBounds 94 (.agg #[.int .i64 d0, .int .i64 d1])).setIfInBounds 95 (.slice (some ⟨kp, 0, none⟩) 3 cp)).setIfInBounds 96 (.pointer (some ⟨kp, 0, none⟩))).setIfInBounds 97 (.agg #[.int .i64 d0, .int .i64 d1])).setIfInBounds 98 (.bool false)).setIfInBounds 99 (.bool false)).setIfInBounds 100 (.pointer (some ⟨kt, 0, none⟩))).setIfInBounds 101 (.agg #[.int .i64 d0, .int .i64 d1])).setIfInBounds 102 (.pointer (some ⟨kt, 2, none⟩))).setIfInBounds 103 (.agg #[.int .i64 e0, .int .i64 e1])).setIfInBounds 104 (.pointer (some ⟨kt, 4, none⟩))).setIfInBounds 105 (.agg #[.int .i64 f0, .int .i64 f1])).setIfInBounds 106 (.slice (some ⟨k1, 0, none⟩) 3 3)).setIfInBounds 107 (.slice (some ⟨k2, 0, none⟩) 3 cq)).setIfInBounds 108 (.slice (some ⟨kp, 0, none⟩) 3 cp)).setIfInBounds 109 (.bool true)).setIfInBounds 110 (.bool false)).setIfInBounds 111 (.bool false)), a.defers⟩ w') :
    (Code.region id ops true).wp Try.prog Q a w := by
  have ht : tidy (regOps Try.f4 12) a.tmps.size = true := by rw [hsz]; kernel_rfl
  obtain ⟨tc0, tc1, tc2, tc3, tc4, tc5, pc0, pc1, pc2, pc3, pc4, pc5, HB0⟩ := h0
  refine region_tab (G := Nat × Nat × Nat) (fun g => (region4_12V d0 d1 e0 e1 f0 f1 kt kp cp g.1 g.2.1 g.2.2)) (fun g L w' => w'.cell? ⟨kt, 0, none⟩ = some (.int .i64 d0) ∧ w'.cell? ⟨kt, 1, none⟩ = some (.int .i64 d1) ∧ w'.cell? ⟨kt, 2, none⟩ = some (.int .i64 e0) ∧ w'.cell? ⟨kt, 3, none⟩ = some (.int .i64 e1) ∧ w'.cell? ⟨kt, 4, none⟩ = some (.int .i64 f0) ∧ w'.cell? ⟨kt, 5, none⟩ = some (.int .i64 f1) ∧ w'.cell? ⟨kp, 0, none⟩ = some (.int .i64 d0) ∧ w'.cell? ⟨kp, 1, none⟩ = some (.int .i64 d1) ∧ w'.cell? ⟨kp, 2, none⟩ = some (.int .i64 y0) ∧ w'.cell? ⟨kp, 3, none⟩ = some (.int .i64 y1) ∧ w'.cell? ⟨kp, 4, none⟩ = some (.int .i64 z0) ∧ w'.cell? ⟨kp, 5, none⟩ = some (.int .i64 z1) ∧ Below W.heap.size W w' ∧ (L 13 = true → w'.cell? ⟨g.1, 0, none⟩ = some (.int .i64 d0) ∧ w'.cell? ⟨g.1, 1, none⟩ = some (.int .i64 d1) ∧ w'.cell? ⟨g.1, 2, none⟩ = some (.int .i64 e0) ∧ w'.cell? ⟨g.1, 3, none⟩ = some (.int .i64 e1) ∧ w'.cell? ⟨g.1, 4, none⟩ = some (.int .i64 f0) ∧ w'.cell? ⟨g.1, 5, none⟩ = some (.int .i64 f1)) ∧ (L 14 = true → w'.cell? ⟨g.2.1, 0, none⟩ = some (.int .i64 d0) ∧ w'.cell? ⟨g.2.1, 1, none⟩ = some (.int .i64 d1) ∧ w'.cell? ⟨g.2.1, 2, none⟩ = some (.int .i64 y0) ∧ w'.cell? ⟨g.2.1, 3, none⟩ = some (.int .i64 y1) ∧ w'.cell? ⟨g.2.1, 4, none⟩ = some (.int .i64 z0) ∧ w'.cell? ⟨g.2.1, 5, none⟩ = some (.int .i64 z1))) (0, 0, 0) (by kernel_rfl) ho ht ⟨tc0, tc1, tc2, tc3, tc4, tc5, pc0, pc1, pc2, pc3, pc4, pc5, bd HB0, fun h => (by cases h), fun h => (by cases h)⟩ ?_ ?_
  · intro i o hoi g L b w' hun hpre hT hS
    clear he tc0 tc1 tc2 tc3 tc4 tc5 pc0 pc1 pc2 pc3 pc4 pc5 ho hsz ht HB0
    have hi : i < (regOps Try.f4 12).size := (Array.getElem?_eq_some_iff.1 hoi).1
    rw [show (regOps Try.f4 12).size = 19 by kernel_rfl] at hi
    obtain ⟨k1, k2, cq⟩ := g
    dsimp only at hT hS
    obtain ⟨tc0, tc1, tc2, tc3, tc4, tc5, pc0, pc1, pc2, pc3, pc4, pc5, HB, A1, A2⟩ := hS
    have hcases : i = 0 ∨ i = 1 ∨ i = 2 ∨ i = 3 ∨ i = 4 ∨ i = 5 ∨ i = 6 ∨ i = 7 ∨ i = 8 ∨ i = 9 ∨ i = 10 ∨ i = 11 ∨ i = 12 ∨ i = 13 ∨ i = 14 ∨ i = 15 ∨ i = 16 ∨ i = 17 ∨ i = 18 := by omega
    rcases hcases with rfl | rfl | rfl | rfl | rfl | rfl | rfl | rfl | rfl | rfl | rfl | rfl | rfl | rfl | rfl | rfl | rfl | rfl | rfl
    · have hlit : (regOps Try.f4 12)[0]? = some ({ dst := some 93, op := Op.fieldAddr 25 (Operand.tmp 7) 0, type := 0, pos := "law.go:42", after := #[], guard := none }) := by kernel_rfl
      obtain rfl := Option.some.inj (hlit.symm.trans hoi)
      have r7 : b.tmps.getD 7 undef = (.pointer (some ⟨kt, 0, none⟩)) := rd ((hT.old 7 (by kernel_rfl)).trans t7)
      refine op_go hoi (want_all rfl) fun K hK => ?_
      clear hT hpre hlit hoi
      go_simp
      exact hK _ _ ⟨(k1, k2, cq), fun _ _ => rfl, rfl, tc0, tc1, tc2, tc3, tc4, tc5, pc0, pc1, pc2, pc3, pc4, pc5, HB, A1, A2⟩
    · have hlit : (regOps Try.f4 12)[1]? = some ({ dst := some 94, op := Op.load 23 (Operand.tmp 93), type := 23, pos := "law.go:42", after := #[{ on := 0, ground := Ground.data }], guard := none }) := by kernel_rfl
      obtain rfl := Option.some.inj (hlit.symm.trans hoi)
      have r93 : b.tmps.getD 93 undef = (.pointer (some ⟨kt, 0, none⟩)) := rd (hT.at 0 (by kernel_rfl) (pre_of hpre 0 (by kernel_rfl)))
      refine op_go hoi (want_all rfl) fun K hK => ?_
      clear hT hpre hlit hoi
      go_simp
      exact hK _ _ ⟨(k1, k2, cq), fun _ _ => rfl, rfl, tc0, tc1, tc2, tc3, tc4, tc5, pc0, pc1, pc2, pc3, pc4, pc5, HB, A1, A2⟩
    · have hlit : (regOps Try.f4 12)[2]? = some ({ dst := some 95, op := Op.move (Operand.tmp 13), type := 41, pos := "law.go:42", after := #[], guard := none }) := by kernel_rfl
      obtain rfl := Option.some.inj (hlit.symm.trans hoi)
      have r13 : b.tmps.getD 13 undef = (.slice (some ⟨kp, 0, none⟩) 3 cp) := rd ((hT.old 13 (by kernel_rfl)).trans t13)
      refine op_go hoi (want_all rfl) fun K hK => ?_
      clear hT hpre hlit hoi
      go_simp
      exact hK _ _ ⟨(k1, k2, cq), fun _ _ => rfl, rfl, tc0, tc1, tc2, tc3, tc4, tc5, pc0, pc1, pc2, pc3, pc4, pc5, HB, A1, A2⟩
    · have hlit : (regOps Try.f4 12)[3]? = some ({ dst := some 96, op := Op.indexAddr 41 (Operand.tmp 95) (Operand.const (Value.int IntKind.i64 0)), type := 0, pos := "law.go:42", after := #[{ on := 2, ground := Ground.data }], guard := none }) := by kernel_rfl
      obtain rfl := Option.some.inj (hlit.symm.trans hoi)
      have r95 : b.tmps.getD 95 undef = (.slice (some ⟨kp, 0, none⟩) 3 cp) := rd (hT.at 2 (by kernel_rfl) (pre_of hpre 2 (by kernel_rfl)))
      refine op_go hoi (want_all rfl) fun K hK => ?_
      clear hT hpre hlit hoi
      go_simp
      exact hK _ _ ⟨(k1, k2, cq), fun _ _ => rfl, rfl, tc0, tc1, tc2, tc3, tc4, tc5, pc0, pc1, pc2, pc3, pc4, pc5, HB, A1, A2⟩
    · have hlit : (regOps Try.f4 12)[4]? = some ({ dst := some 97, op := Op.load 23 (Operand.tmp 96), type := 23, pos := "law.go:42", after := #[{ on := 3, ground := Ground.data }], guard := none }) := by kernel_rfl
      obtain rfl := Option.some.inj (hlit.symm.trans hoi)
      have r96 : b.tmps.getD 96 undef = (.pointer (some ⟨kp, 0, none⟩)) := rd (hT.at 3 (by kernel_rfl) (pre_of hpre 3 (by kernel_rfl)))
      refine op_go hoi (want_all rfl) fun K hK => ?_
      clear hT hpre hlit hoi
      go_simp
      exact hK _ _ ⟨(k1, k2, cq), fun _ _ => rfl, rfl, tc0, tc1, tc2, tc3, tc4, tc5, pc0, pc1, pc2, pc3, pc4, pc5, HB, A1, A2⟩
    · have hlit : (regOps Try.f4 12)[5]? = some ({ dst := some 98, op := Op.binOp BinOp.neq 23 (Operand.tmp 94) (Operand.tmp 97) 23, type := 4, pos := "law.go:42", after := #[{ on := 1, ground := Ground.data }, { on := 4, ground := Ground.data }], guard := none }) := by kernel_rfl
      obtain rfl := Option.some.inj (hlit.symm.trans hoi)
      have r94 : b.tmps.getD 94 undef = (.agg #[.int .i64 d0, .int .i64 d1]) := rd (hT.at 1 (by kernel_rfl) (pre_of hpre 1 (by kernel_rfl)))
      have r97 : b.tmps.getD 97 undef = (.agg #[.int .i64 d0, .int .i64 d1]) := rd (hT.at 4 (by kernel_rfl) (pre_of hpre 4 (by kernel_rfl)))
      refine op_go hoi (want_all rfl) fun K hK => ?_
      clear hT hpre hlit hoi
      go_simp
      exact hK _ _ ⟨(k1, k2, cq), fun _ _ => rfl, rfl, tc0, tc1, tc2, tc3, tc4, tc5, pc0, pc1, pc2, pc3, pc4, pc5, HB, A1, A2⟩
    · have hlit : (regOps Try.f4 12)[6]? = some ({ dst := some 99, op := Op.move (Operand.tmp 98), type := 4, pos := "law.go:42", after := #[{ on := 5, ground := Ground.data }], guard := none }) := by kernel_rfl
      obtain rfl := Option.some.inj (hlit.symm.trans hoi)
      have r98 : b.tmps.getD 98 undef = (.bool false) := rd (hT.at 5 (by kernel_rfl) (pre_of hpre 5 (by kernel_rfl)))
      refine op_go hoi (want_all rfl) fun K hK => ?_
      clear hT hpre hlit hoi
      go_simp
      exact hK _ _ ⟨(k1, k2, cq), fun _ _ => rfl, rfl, tc0, tc1, tc2, tc3, tc4, tc5, pc0, pc1, pc2, pc3, pc4, pc5, HB, A1, A2⟩
    · have hlit : (regOps Try.f4 12)[7]? = some ({ dst := some 100, op := Op.fieldAddr 25 (Operand.tmp 7) 0, type := 0, pos := "law.go:42", after := #[{ on := 6, ground := Ground.guard }], guard := some (6, false) }) := by kernel_rfl
      obtain rfl := Option.some.inj (hlit.symm.trans hoi)
      have r7 : b.tmps.getD 7 undef = (.pointer (some ⟨kt, 0, none⟩)) := rd ((hT.old 7 (by kernel_rfl)).trans t7)
      refine op_go hoi (want_yes rfl (d := 99) (by kernel_rfl) (hT.at 6 (by kernel_rfl) (pre_of hpre 6 (by kernel_rfl)))) fun K hK => ?_
      clear hT hpre hlit hoi
      go_simp
      exact hK _ _ ⟨(k1, k2, cq), fun _ _ => rfl, rfl, tc0, tc1, tc2, tc3, tc4, tc5, pc0, pc1, pc2, pc3, pc4, pc5, HB, A1, A2⟩
    · have hlit : (regOps Try.f4 12)[8]? = some ({ dst := some 101, op := Op.load 23 (Operand.tmp 100), type := 23, pos := "law.go:42", after := #[{ on := 7, ground := Ground.data }, { on := 6, ground := Ground.guard }], guard := some (6, false) }) := by kernel_rfl
      obtain rfl := Option.some.inj (hlit.symm.trans hoi)
      have r100 : b.tmps.getD 100 undef = (.pointer (some ⟨kt, 0, none⟩)) := rd (hT.at 7 (by kernel_rfl) (pre_of hpre 7 (by kernel_rfl)))
      refine op_go hoi (want_yes rfl (d := 99) (by kernel_rfl) (hT.at 6 (by kernel_rfl) (pre_of hpre 6 (by kernel_rfl)))) fun K hK => ?_
      clear hT hpre hlit hoi
      go_simp
      exact hK _ _ ⟨(k1, k2, cq), fun _ _ => rfl, rfl, tc0, tc1, tc2, tc3, tc4, tc5, pc0, pc1, pc2, pc3, pc4, pc5, HB, A1, A2⟩
    · have hlit : (regOps Try.f4 12)[9]? = some ({ dst := some 102, op := Op.fieldAddr 25 (Operand.tmp 7) 1, type := 0, pos := "law.go:42", after := #[{ on := 6, ground := Ground.guard }], guard := some (6, false) }) := by kernel_rfl
      obtain rfl := Option.some.inj (hlit.symm.trans hoi)
      have r7 : b.tmps.getD 7 undef = (.pointer (some ⟨kt, 0, none⟩)) := rd ((hT.old 7 (by kernel_rfl)).trans t7)
      refine op_go hoi (want_yes rfl (d := 99) (by kernel_rfl) (hT.at 6 (by kernel_rfl) (pre_of hpre 6 (by kernel_rfl)))) fun K hK => ?_
      clear hT hpre hlit hoi
      go_simp
      exact hK _ _ ⟨(k1, k2, cq), fun _ _ => rfl, rfl, tc0, tc1, tc2, tc3, tc4, tc5, pc0, pc1, pc2, pc3, pc4, pc5, HB, A1, A2⟩
    · have hlit : (regOps Try.f4 12)[10]? = some ({ dst := some 103, op := Op.load 23 (Operand.tmp 102), type := 23, pos := "law.go:42", after := #[{ on := 9, ground := Ground.data }, { on := 6, ground := Ground.guard }], guard := some (6, false) }) := by kernel_rfl
      obtain rfl := Option.some.inj (hlit.symm.trans hoi)
      have r102 : b.tmps.getD 102 undef = (.pointer (some ⟨kt, 2, none⟩)) := rd (hT.at 9 (by kernel_rfl) (pre_of hpre 9 (by kernel_rfl)))
      refine op_go hoi (want_yes rfl (d := 99) (by kernel_rfl) (hT.at 6 (by kernel_rfl) (pre_of hpre 6 (by kernel_rfl)))) fun K hK => ?_
      clear hT hpre hlit hoi
      go_simp
      exact hK _ _ ⟨(k1, k2, cq), fun _ _ => rfl, rfl, tc0, tc1, tc2, tc3, tc4, tc5, pc0, pc1, pc2, pc3, pc4, pc5, HB, A1, A2⟩
    · have hlit : (regOps Try.f4 12)[11]? = some ({ dst := some 104, op := Op.fieldAddr 25 (Operand.tmp 7) 2, type := 0, pos := "law.go:42", after := #[{ on := 6, ground := Ground.guard }], guard := some (6, false) }) := by kernel_rfl
      obtain rfl := Option.some.inj (hlit.symm.trans hoi)
      have r7 : b.tmps.getD 7 undef = (.pointer (some ⟨kt, 0, none⟩)) := rd ((hT.old 7 (by kernel_rfl)).trans t7)
      refine op_go hoi (want_yes rfl (d := 99) (by kernel_rfl) (hT.at 6 (by kernel_rfl) (pre_of hpre 6 (by kernel_rfl)))) fun K hK => ?_
      clear hT hpre hlit hoi
      go_simp
      exact hK _ _ ⟨(k1, k2, cq), fun _ _ => rfl, rfl, tc0, tc1, tc2, tc3, tc4, tc5, pc0, pc1, pc2, pc3, pc4, pc5, HB, A1, A2⟩
    · have hlit : (regOps Try.f4 12)[12]? = some ({ dst := some 105, op := Op.load 23 (Operand.tmp 104), type := 23, pos := "law.go:42", after := #[{ on := 11, ground := Ground.data }, { on := 6, ground := Ground.guard }], guard := some (6, false) }) := by kernel_rfl
      obtain rfl := Option.some.inj (hlit.symm.trans hoi)
      have r104 : b.tmps.getD 104 undef = (.pointer (some ⟨kt, 4, none⟩)) := rd (hT.at 11 (by kernel_rfl) (pre_of hpre 11 (by kernel_rfl)))
      refine op_go hoi (want_yes rfl (d := 99) (by kernel_rfl) (hT.at 6 (by kernel_rfl) (pre_of hpre 6 (by kernel_rfl)))) fun K hK => ?_
      clear hT hpre hlit hoi
      go_simp
      exact hK _ _ ⟨(k1, k2, cq), fun _ _ => rfl, rfl, tc0, tc1, tc2, tc3, tc4, tc5, pc0, pc1, pc2, pc3, pc4, pc5, HB, A1, A2⟩
    · have hlit : (regOps Try.f4 12)[13]? = some ({ dst := some 106, op := Op.buildSlice 41 3 #[(0, Operand.tmp 101), (1, Operand.tmp 103), (2, Operand.tmp 105)], type := 41, pos := "law.go:42", after := #[{ on := 8, ground := Ground.data }, { on := 10, ground := Ground.data }, { on := 12, ground := Ground.data }, { on := 6, ground := Ground.guard }], guard := some (6, false) }) := by kernel_rfl
      obtain rfl := Option.some.inj (hlit.symm.trans hoi)
      have r101 : b.tmps.getD 101 undef = (.agg #[.int .i64 d0, .int .i64 d1]) := rd (hT.at 8 (by kernel_rfl) (pre_of hpre 8 (by kernel_rfl)))
      have q101 : b.tmps[101]?.getD undef = (.agg #[.int .i64 d0, .int .i64 d1]) := (Array.getD_eq_getD_getElem? ..).symm.trans r101
      have r103 : b.tmps.getD 103 undef = (.agg #[.int .i64 e0, .int .i64 e1]) := rd (hT.at 10 (by kernel_rfl) (pre_of hpre 10 (by kernel_rfl)))
      have q103 : b.tmps[103]?.getD undef = (.agg #[.int .i64 e0, .int .i64 e1]) := (Array.getD_eq_getD_getElem? ..).symm.trans r103
      have r105 : b.tmps.getD 105 undef = (.agg #[.int .i64 f0, .int .i64 f1]) := rd (hT.at 12 (by kernel_rfl) (pre_of hpre 12 (by kernel_rfl)))
      have q105 : b.tmps[105]?.getD undef = (.agg #[.int .i64 f0, .int .i64 f1]) := (Array.getD_eq_getD_getElem? ..).symm.trans r105
      refine op_go hoi (want_yes rfl (d := 99) (by kernel_rfl) (hT.at 6 (by kernel_rfl) (pre_of hpre 6 (by kernel_rfl)))) fun K hK => ?_
      clear hT hpre hlit hoi
      go_simp
      have lw_tc0 := World.block_lt_of_cell? w' _ tc0
      have lw_tc1 := World.block_lt_of_cell? w' _ tc1
      have lw_tc2 := World.block_lt_of_cell? w' _ tc2
      have lw_tc3 := World.block_lt_of_cell? w' _ tc3
      have lw_tc4 := World.block_lt_of_cell? w' _ tc4
      have lw_tc5 := World.block_lt_of_cell? w' _ tc5
      have lw_pc0 := World.block_lt_of_cell? w' _ pc0
      have lw_pc1 := World.block_lt_of_cell? w' _ pc1
      have lw_pc2 := World.block_lt_of_cell? w' _ pc2
      have lw_pc3 := World.block_lt_of_cell? w' _ pc3
      have lw_pc4 := World.block_lt_of_cell? w' _ pc4
      have lw_pc5 := World.block_lt_of_cell? w' _ pc5
      refine hK _ _ ⟨(w'.heap.size, k2, cq), fun j hj => ?_, rfl, by go_simp, by go_simp, by go_simp, by go_simp, by go_simp, by go_simp, by go_simp, by go_simp, by go_simp, by go_simp, by go_simp, by go_simp, ba HB _, fun _ => ⟨by go_simp, by go_simp, by go_simp, by go_simp, by go_simp, by go_simp⟩, fun h => (by obtain ⟨h0, h1, h2, h3, h4, h5⟩ := A2 h; exact ⟨ga h0, ga h1, ga h2, ga h3, ga h4, ga h5⟩)⟩
      by_cases e : j = 13
      · subst e; rw [hun] at hj; cases hj
      · unfold region4_12V; split <;> first | rfl | (exact absurd rfl e)
    · have hlit : (regOps Try.f4 12)[14]? = some ({ dst := some 107, op := Op.call { callee := Callee.value (Operand.func 38), args := #[Operand.tmp 106], argTypes := #[41] }, type := 41, pos := "law.go:42", after := #[{ on := 13, ground := Ground.data }, { on := 6, ground := Ground.chain }, { on := 6, ground := Ground.guard }], guard := some (6, false) }) := by kernel_rfl
      obtain rfl := Option.some.inj (hlit.symm.trans hoi)
      have r106 : b.tmps.getD 106 undef = (.slice (some ⟨k1, 0, none⟩) 3 3) := rd (hT.at 13 (by kernel_rfl) (pre_of hpre 13 (by kernel_rfl)))
      obtain ⟨h0, h1, h2, h3, h4, h5⟩ := A1 (pre_of hpre 13 (by kernel_rfl))
      refine op_go hoi (want_yes rfl (d := 99) (by kernel_rfl) (hT.at 6 (by kernel_rfl) (pre_of hpre 6 (by kernel_rfl)))) fun K hK => ?_
      clear hT hpre hlit hoi
      go_simp
      go_at_call 38
      refine (srt38 k1 3 d0 d1 e0 e1 f0 f1 w' h0 h1 h2 h3 h4 h5 nab nbc nac).mono ?_; rw [hs]; rintro e w2 ⟨k3, cr, rfl, hb, u0, u1, u2, u3, u4, u5⟩; replace tc0 := ck hb tc0; replace tc1 := ck hb tc1; replace tc2 := ck hb tc2; replace tc3 := ck hb tc3; replace tc4 := ck hb tc4; replace tc5 := ck hb tc5; replace pc0 := ck hb pc0; replace pc1 := ck hb pc1; replace pc2 := ck hb pc2; replace pc3 := ck hb pc3; replace pc4 := ck hb pc4; replace pc5 := ck hb pc5; replace HB : Below W.heap.size W w2 := bt HB hb
      refine hK _ _ ⟨(k1, k3, cr), fun j hj => ?_, rfl, tc0, tc1, tc2, tc3, tc4, tc5, pc0, pc1, pc2, pc3, pc4, pc5, HB, fun h => (by obtain ⟨h0, h1, h2, h3, h4, h5⟩ := A1 h; exact ⟨ck hb h0, ck hb h1, ck hb h2, ck hb h3, ck hb h4, ck hb h5⟩), fun _ => ⟨u0, u1, u2, u3, u4, u5⟩⟩
      by_cases e : j = 14
      · subst e; rw [hun] at hj; cases hj
      · unfold region4_12V; split <;> first | rfl | (exact absurd rfl e)
    · have hlit : (regOps Try.f4 12)[15]? = some ({ dst := some 108, op := Op.move (Operand.tmp 13), type := 41, pos := "law.go:42", after := #[{ on := 6, ground := Ground.guard }], guard := some (6, false) }) := by kernel_rfl
      obtain rfl := Option.some.inj (hlit.symm.trans hoi)
      have r13 : b.tmps.getD 13 undef = (.slice (some ⟨kp, 0, none⟩) 3 cp) := rd ((hT.old 13 (by kernel_rfl)).trans t13)
      refine op_go hoi (want_yes rfl (d := 99) (by kernel_rfl) (hT.at 6 (by kernel_rfl) (pre_of hpre 6 (by kernel_rfl)))) fun K hK => ?_
      clear hT hpre hlit hoi
      go_simp
      exact hK _ _ ⟨(k1, k2, cq), fun _ _ => rfl, rfl, tc0, tc1, tc2, tc3, tc4, tc5, pc0, pc1, pc2, pc3, pc4, pc5, HB, A1, A2⟩
    · have hlit : (regOps Try.f4 12)[16]? = some ({ dst := some 109, op := Op.call { callee := Callee.value (Operand.func 39), args := #[Operand.tmp 107, Operand.tmp 108], argTypes := #[41, 41] }, type := 4, pos := "law.go:42", after := #[{ on := 14, ground := Ground.data }, { on := 15, ground := Ground.data }, { on := 14, ground := Ground.chain }, { on := 6, ground := Ground.guard }], guard := some (6, false) }) := by kernel_rfl
      obtain rfl := Option.some.inj (hlit.symm.trans hoi)
      have r107 : b.tmps.getD 107 undef = (.slice (some ⟨k2, 0, none⟩) 3 cq) := rd (hT.at 14 (by kernel_rfl) (pre_of hpre 14 (by kernel_rfl)))
      have r108 : b.tmps.getD 108 undef = (.slice (some ⟨kp, 0, none⟩) 3 cp) := rd (hT.at 15 (by kernel_rfl) (pre_of hpre 15 (by kernel_rfl)))
      obtain ⟨h0, h1, h2, h3, h4, h5⟩ := A2 (pre_of hpre 14 (by kernel_rfl))
      refine op_go hoi (want_yes rfl (d := 99) (by kernel_rfl) (hT.at 6 (by kernel_rfl) (pre_of hpre 6 (by kernel_rfl)))) fun K hK => ?_
      clear hT hpre hlit hoi
      go_simp
      go_at_call 39
      refine (pts39 d0 d1 y0 y1 z0 z1 k2 kp cq cp w' h0 h1 h2 h3 h4 h5 pc0 pc1 pc2 pc3 pc4 pc5).mono ?_; rintro e w2 ⟨rfl, hb⟩; replace tc0 := ck hb tc0; replace tc1 := ck hb tc1; replace tc2 := ck hb tc2; replace tc3 := ck hb tc3; replace tc4 := ck hb tc4; replace tc5 := ck hb tc5; replace pc0 := ck hb pc0; replace pc1 := ck hb pc1; replace pc2 := ck hb pc2; replace pc3 := ck hb pc3; replace pc4 := ck hb pc4; replace pc5 := ck hb pc5; replace HB : Below W.heap.size W w2 := bt HB hb
      exact hK _ _ ⟨(k1, k2, cq), fun _ _ => rfl, rfl, tc0, tc1, tc2, tc3, tc4, tc5, pc0, pc1, pc2, pc3, pc4, pc5, HB, fun h => (by obtain ⟨h0, h1, h2, h3, h4, h5⟩ := A1 h; exact ⟨ck hb h0, ck hb h1, ck hb h2, ck hb h3, ck hb h4, ck hb h5⟩), fun h => (by obtain ⟨h0, h1, h2, h3, h4, h5⟩ := A2 h; exact ⟨ck hb h0, ck hb h1, ck hb h2, ck hb h3, ck hb h4, ck hb h5⟩)⟩
    · have hlit : (regOps Try.f4 12)[17]? = some ({ dst := some 110, op := Op.unOp UnOp.not 4 (Operand.tmp 109), type := 4, pos := "law.go:42", after := #[{ on := 16, ground := Ground.data }, { on := 6, ground := Ground.guard }], guard := some (6, false) }) := by kernel_rfl
      obtain rfl := Option.some.inj (hlit.symm.trans hoi)
      have r109 : b.tmps.getD 109 undef = (.bool true) := rd (hT.at 16 (by kernel_rfl) (pre_of hpre 16 (by kernel_rfl)))
      refine op_go hoi (want_yes rfl (d := 99) (by kernel_rfl) (hT.at 6 (by kernel_rfl) (pre_of hpre 6 (by kernel_rfl)))) fun K hK => ?_
      clear hT hpre hlit hoi
      go_simp
      exact hK _ _ ⟨(k1, k2, cq), fun _ _ => rfl, rfl, tc0, tc1, tc2, tc3, tc4, tc5, pc0, pc1, pc2, pc3, pc4, pc5, HB, A1, A2⟩
    · have hlit : (regOps Try.f4 12)[18]? = some ({ dst := some 111, op := Op.pick (Operand.tmp 99) (Operand.const (Value.bool true)) (Operand.tmp 110), type := 4, pos := "law.go:42", after := #[{ on := 6, ground := Ground.data }, { on := 17, ground := Ground.data }], guard := none }) := by kernel_rfl
      obtain rfl := Option.some.inj (hlit.symm.trans hoi)
      have r99 : b.tmps.getD 99 undef = (.bool false) := rd (hT.at 6 (by kernel_rfl) (pre_of hpre 6 (by kernel_rfl)))
      have r110 : b.tmps.getD 110 undef = (.bool false) := rd (hT.at 17 (by kernel_rfl) (pre_of hpre 17 (by kernel_rfl)))
      refine op_go hoi (want_all rfl) fun K hK => ?_
      clear hT hpre hlit hoi
      go_simp
      exact hK _ _ ⟨(k1, k2, cq), fun _ _ => rfl, rfl, tc0, tc1, tc2, tc3, tc4, tc5, pc0, pc1, pc2, pc3, pc4, pc5, HB, A1, A2⟩
  · intro g b w' hT hS
    rw [hT.all ht]
    have hn : (regOps Try.f4 12).size = 19 := by kernel_rfl
    rw [hn] at hS ⊢
    obtain ⟨k1, k2, cq⟩ := g
    dsimp only at hS
    obtain ⟨tc0, tc1, tc2, tc3, tc4, tc5, pc0, pc1, pc2, pc3, pc4, pc5, HB, -, -⟩ := hS
    exact he k1 k2 cq w' ⟨tc0, tc1, tc2, tc3, tc4, tc5, pc0, pc1, pc2, pc3, pc4, pc5, HB⟩

end Go.Proofs.Ytandgbpbabmdfaa
