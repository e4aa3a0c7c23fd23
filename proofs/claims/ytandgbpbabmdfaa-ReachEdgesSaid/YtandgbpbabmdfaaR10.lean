import Derived.Test.YtandgbpbabmdfaaT18
import Derived.Test.YtandgbpbabmdfaaRg
namespace Go.Proofs.Ytandgbpbabmdfaa
open Go.RowKit
attribute [local go_sem high] eq23 eq25 mn_two mx_two mn_three mx_three mx_four

/-- What each operation of the region leaves. -/
def region10vV (d0 d1 e0 e1 f0 f1 x0 x1 y0 y1 z0 z1 j : Int) (kx ky kz : Nat) : Nat → Value
  | 0 => .agg #[.int .i64 d0, .int .i64 d1, .int .i64 e0, .int .i64 e1, .int .i64 f0, .int .i64 f1]
  | 1 => .int .i64 j
  | 2 => .agg #[.int .i64 x0, .int .i64 x1]
  | 3 => .agg #[.int .i64 d0, .int .i64 d1, .int .i64 e0, .int .i64 e1, .int .i64 f0, .int .i64 f1]
  | 4 => .int .i64 j
  | 5 => .int .i64 (j + 1)
  | 6 => .agg #[.int .i64 y0, .int .i64 y1]
  | 7 => .agg #[.int .i64 d0, .int .i64 d1, .int .i64 e0, .int .i64 e1, .int .i64 f0, .int .i64 f1]
  | 8 => .int .i64 j
  | 9 => .int .i64 (j + 2)
  | 10 => .agg #[.int .i64 z0, .int .i64 z1]
  | 11 => .pointer (some ⟨kx, 0, none⟩)
  | 12 => .pointer (some ⟨ky, 0, none⟩)
  | 13 => .pointer (some ⟨kz, 0, none⟩)
  | 14 => undef
  | 15 => undef
  | 16 => undef
  | _ => undef

set_option maxHeartbeats 4000000 in
set_option maxRecDepth 100000 in
theorem region10v (g0 g1 k0 k1 d0 d1 e0 e1 f0 f1 x0 x1 y0 y1 z0 z1 j : Int) (kp kq kt : Nat) (W : World) (m1 : cor ⟨⟨d0, d1⟩, ⟨e0, e1⟩, ⟨f0, f1⟩⟩ j = ⟨x0, x1⟩) (m2 : cor ⟨⟨d0, d1⟩, ⟨e0, e1⟩, ⟨f0, f1⟩⟩ (j + 1) = ⟨y0, y1⟩) (m3 : cor ⟨⟨d0, d1⟩, ⟨e0, e1⟩, ⟨f0, f1⟩⟩ (j + 2) = ⟨z0, z1⟩) (eq1 : IntKind.i64.wrap (j + 1) = j + 1) (eq2 : IntKind.i64.wrap (j + 2) = j + 2) {id : Nat} {ops : Array Oper} {Q : Exit → Act → World → Prop} {a : Act} {w : World}
    (ho : ops = (regOps Try.f10 5)) (hsz : a.tmps.size = 114) (t13 : a.tmps[13]? = some (.pointer (some ⟨kt, 0, none⟩))) (t5 : a.tmps[5]? = some (.int .i64 j))
    (h0 : w.cell? ⟨kp, 0, none⟩ = some (.int .i64 g0) ∧ w.cell? ⟨kp, 1, none⟩ = some (.int .i64 g1) ∧ w.cell? ⟨kq, 0, none⟩ = some (.int .i64 k0) ∧ w.cell? ⟨kq, 1, none⟩ = some (.int .i64 k1) ∧ w.cell? ⟨kt, 0, none⟩ = some (.int .i64 d0) ∧ w.cell? ⟨kt, 1, none⟩ = some (.int .i64 d1) ∧ w.cell? ⟨kt, 2, none⟩ = some (.int .i64 e0) ∧ w.cell? ⟨kt, 3, none⟩ = some (.int .i64 e1) ∧ w.cell? ⟨kt, 4, none⟩ = some (.int .i64 f0) ∧ w.cell? ⟨kt, 5, none⟩ = some (.int .i64 f1) ∧ Below W.heap.size W w)
    (he : ∀ kx ky kz w', w'.cell? ⟨kp, 0, none⟩ = some (.int .i64 g0) ∧ w'.cell? ⟨kp, 1, none⟩ = some (.int .i64 g1) ∧ w'.cell? ⟨kq, 0, none⟩ = some (.int .i64 k0) ∧ w'.cell? ⟨kq, 1, none⟩ = some (.int .i64 k1) ∧ w'.cell? ⟨kt, 0, none⟩ = some (.int .i64 d0) ∧ w'.cell? ⟨kt, 1, none⟩ = some (.int .i64 d1) ∧ w'.cell? ⟨kt, 2, none⟩ = some (.int .i64 e0) ∧ w'.cell? ⟨kt, 3, none⟩ = some (.int .i64 e1) ∧ w'.cell? ⟨kt, 4, none⟩ = some (.int .i64 f0) ∧ w'.cell? ⟨kt, 5, none⟩ = some (.int .i64 f1) ∧ Below W.heap.size W w' → w'.cell? ⟨kx, 0, none⟩ = some (.int .i64 x0) ∧ w'.cell? ⟨kx, 1, none⟩ = some (.int .i64 x1) ∧ w'.cell? ⟨ky, 0, none⟩ = some (.int .i64 y0) ∧ w'.cell? ⟨ky, 1, none⟩ = some (.int .i64 y1) ∧ w'.cell? ⟨kz, 0, none⟩ = some (.int .i64 z0) ∧ w'.cell? ⟨kz, 1, none⟩ = some (.int .i64 z1) ∧ w'.frozen? ⟨kx, 0, none⟩ = false ∧ w'.frozen? ⟨kx, 1, none⟩ = false ∧ w'.frozen? ⟨ky, 0, none⟩ = false ∧ w'.frozen? ⟨ky, 1, none⟩ = false ∧ w'.frozen? ⟨kz, 0, none⟩ = false ∧ w'.frozen? ⟨kz, 1, none⟩ = false ∧ w.heap.size ≤ kx ∧ w.heap.size ≤ ky ∧ w.heap.size ≤ kz ∧ kx ≠ ky ∧ kx ≠ kz ∧ ky ≠ kz → Q .normal ⟨((((((((((((((a.tmps.setIfInBounds 30 (.agg #[.int .i64 d0, .int .i64 d1, .int .i64 e0, .int .i64 e1, .int .i64 f0, .int .i64 f1])).setIfInBounds 31 (.int .i64 j)).setIfInBounds 32 (.agg #[.int .i64 x0, .int .i64 x1])).setIfInBounds 33 (.agg #[.int .i64 d0, .int .i64 d1, .int .i64 e0, .int .i64 e1, .int .i64 f0, .int .i64 f1])).setIfInBounds 34 (.int .i64 j)).setIfInBounds 35 (.int .i64 (j + 1))).setIfInBounds 36 (.agg #[.int .i64 y0, .int .i64 y1])).setIfInBounds 37 (.agg #[.int .i64 d0, .int .i64 d1, .int .i64 e0, .int .i64 e1, .int .i64 f0, .int .i64 f1])).setIfInBounds 38 (.int .i64 j)).setIfInBounds 39 (.int .i64 (j + 2))).setIfInBounds 40 (.agg #[.int .i64 z0, .int .i64 z1])).setIfInBounds 15 (.pointer (some ⟨kx, 0, none⟩))).setIfInBounds 16 (.pointer (some ⟨ky, 0, none⟩))).setIfInBounds 17 (.pointer (some ⟨kz, 0, none⟩))), a.defers⟩ w') :
    (Code.region id ops true).wp Try.prog Q a w := by
  have ht : tidy (regOps Try.f10 5) a.tmps.size = true := by rw [hsz]; kernel_rfl
  obtain ⟨pc0, pc1, qc0, qc1, tc0, tc1, tc2, tc3, tc4, tc5, HB0⟩ := h0
  have lt_kp := World.block_lt_of_cell? w _ pc0
  have lt_kq := World.block_lt_of_cell? w _ qc0
  have lt_kt := World.block_lt_of_cell? w _ tc0
  have sz0 := HB0.size
  refine region_tab (G := Nat × Nat × Nat) (fun g => (region10vV d0 d1 e0 e1 f0 f1 x0 x1 y0 y1 z0 z1 j  g.1 g.2.1 g.2.2)) (fun g L w' => w'.cell? ⟨kp, 0, none⟩ = some (.int .i64 g0) ∧ w'.cell? ⟨kp, 1, none⟩ = some (.int .i64 g1) ∧ w'.cell? ⟨kq, 0, none⟩ = some (.int .i64 k0) ∧ w'.cell? ⟨kq, 1, none⟩ = some (.int .i64 k1) ∧ w'.cell? ⟨kt, 0, none⟩ = some (.int .i64 d0) ∧ w'.cell? ⟨kt, 1, none⟩ = some (.int .i64 d1) ∧ w'.cell? ⟨kt, 2, none⟩ = some (.int .i64 e0) ∧ w'.cell? ⟨kt, 3, none⟩ = some (.int .i64 e1) ∧ w'.cell? ⟨kt, 4, none⟩ = some (.int .i64 f0) ∧ w'.cell? ⟨kt, 5, none⟩ = some (.int .i64 f1) ∧ Below W.heap.size W w' ∧ w.heap.size ≤ w'.heap.size ∧ (L 11 = true → w.heap.size ≤ g.1 ∧ w'.frozen? ⟨g.1, 0, none⟩ = false ∧ w'.frozen? ⟨g.1, 1, none⟩ = false ∧ ∃ u0 u1 : Int, w'.cell? ⟨g.1, 0, none⟩ = some (.int .i64 u0) ∧ w'.cell? ⟨g.1, 1, none⟩ = some (.int .i64 u1) ∧ (L 14 = true → u0 = x0 ∧ u1 = x1)) ∧ (L 14 = true → L 11 = true) ∧ (L 12 = true → w.heap.size ≤ g.2.1 ∧ w'.frozen? ⟨g.2.1, 0, none⟩ = false ∧ w'.frozen? ⟨g.2.1, 1, none⟩ = false ∧ ∃ u0 u1 : Int, w'.cell? ⟨g.2.1, 0, none⟩ = some (.int .i64 u0) ∧ w'.cell? ⟨g.2.1, 1, none⟩ = some (.int .i64 u1) ∧ (L 15 = true → u0 = y0 ∧ u1 = y1)) ∧ (L 15 = true → L 12 = true) ∧ (L 13 = true → w.heap.size ≤ g.2.2 ∧ w'.frozen? ⟨g.2.2, 0, none⟩ = false ∧ w'.frozen? ⟨g.2.2, 1, none⟩ = false ∧ ∃ u0 u1 : Int, w'.cell? ⟨g.2.2, 0, none⟩ = some (.int .i64 u0) ∧ w'.cell? ⟨g.2.2, 1, none⟩ = some (.int .i64 u1) ∧ (L 16 = true → u0 = z0 ∧ u1 = z1)) ∧ (L 16 = true → L 13 = true) ∧ (L 11 = true → L 12 = true → g.1 ≠ g.2.1) ∧ (L 11 = true → L 13 = true → g.1 ≠ g.2.2) ∧ (L 12 = true → L 13 = true → g.2.1 ≠ g.2.2)) (0, 0, 0) (by kernel_rfl) ho ht ⟨pc0, pc1, qc0, qc1, tc0, tc1, tc2, tc3, tc4, tc5, bd HB0, Nat.le_refl _, fun h => (by cases h), fun h => (by cases h), fun h => (by cases h), fun h => (by cases h), fun h => (by cases h), fun h => (by cases h), fun h => (by cases h), fun h => (by cases h), fun h => (by cases h)⟩ ?_ ?_
  · intro i o hoi g L b w' hun hpre hT hS
    clear he pc0 pc1 qc0 qc1 tc0 tc1 tc2 tc3 tc4 tc5 ho hsz ht HB0
    have hi : i < (regOps Try.f10 5).size := (Array.getElem?_eq_some_iff.1 hoi).1
    rw [show (regOps Try.f10 5).size = 17 by kernel_rfl] at hi
    obtain ⟨kx, ky, kz⟩ := g
    dsimp only at hT hS
    obtain ⟨pc0, pc1, qc0, qc1, tc0, tc1, tc2, tc3, tc4, tc5, HB, szw, fx, sx, fy, sy, fz, sz, dxy, dxz, dyz⟩ := hS
    have hcases : i = 0 ∨ i = 1 ∨ i = 2 ∨ i = 3 ∨ i = 4 ∨ i = 5 ∨ i = 6 ∨ i = 7 ∨ i = 8 ∨ i = 9 ∨ i = 10 ∨ i = 11 ∨ i = 12 ∨ i = 13 ∨ i = 14 ∨ i = 15 ∨ i = 16 := by omega
    rcases hcases with rfl | rfl | rfl | rfl | rfl | rfl | rfl | rfl | rfl | rfl | rfl | rfl | rfl | rfl | rfl | rfl | rfl
    · have hlit : (regOps Try.f10 5)[0]? = some ({ dst := some 30, op := Op.load 25 (Operand.tmp 13), type := 25, pos := "law.go:49", after := #[], guard := none }) := by kernel_rfl
      obtain rfl := Option.some.inj (hlit.symm.trans hoi)
      have r13 : b.tmps.getD 13 undef = (.pointer (some ⟨kt, 0, none⟩)) := rd ((hT.old 13 (by kernel_rfl)).trans t13)
      refine op_go hoi (want_all rfl) fun K hK => ?_
      clear hT hpre hlit hoi
      go_simp
      exact hK _ _ ⟨(kx, ky, kz), fun _ _ => rfl, rfl, pc0, pc1, qc0, qc1, tc0, tc1, tc2, tc3, tc4, tc5, HB, szw, fx, sx, fy, sy, fz, sz, dxy, dxz, dyz⟩
    · have hlit : (regOps Try.f10 5)[1]? = some ({ dst := some 31, op := Op.move (Operand.tmp 5), type := 3, pos := "law.go:49", after := #[], guard := none }) := by kernel_rfl
      obtain rfl := Option.some.inj (hlit.symm.trans hoi)
      have r5 : b.tmps.getD 5 undef = (.int .i64 j) := rd ((hT.old 5 (by kernel_rfl)).trans t5)
      refine op_go hoi (want_all rfl) fun K hK => ?_
      clear hT hpre hlit hoi
      go_simp
      exact hK _ _ ⟨(kx, ky, kz), fun _ _ => rfl, rfl, pc0, pc1, qc0, qc1, tc0, tc1, tc2, tc3, tc4, tc5, HB, szw, fx, sx, fy, sy, fz, sz, dxy, dxz, dyz⟩
    · have hlit : (regOps Try.f10 5)[2]? = some ({ dst := some 32, op := Op.call { callee := Callee.value (Operand.func 29), args := #[Operand.tmp 30, Operand.tmp 31], argTypes := #[25, 3] }, type := 23, pos := "law.go:49", after := #[{ on := 0, ground := Ground.data }, { on := 1, ground := Ground.data }], guard := none }) := by kernel_rfl
      obtain rfl := Option.some.inj (hlit.symm.trans hoi)
      have r30 : b.tmps.getD 30 undef = (.agg #[.int .i64 d0, .int .i64 d1, .int .i64 e0, .int .i64 e1, .int .i64 f0, .int .i64 f1]) := rd (hT.at 0 (by kernel_rfl) (pre_of hpre 0 (by kernel_rfl)))
      have r31 : b.tmps.getD 31 undef = (.int .i64 j) := rd (hT.at 1 (by kernel_rfl) (pre_of hpre 1 (by kernel_rfl)))
      refine op_go hoi (want_all rfl) fun K hK => ?_
      clear hT hpre hlit hoi
      go_simp
      go_at_call 29
      refine (cor29 _ _ _ _ _ _ _ _).mono ?_; rw [m1]; rintro e w2 ⟨rfl, hb⟩; replace pc0 := ck hb pc0; replace pc1 := ck hb pc1; replace qc0 := ck hb qc0; replace qc1 := ck hb qc1; replace tc0 := ck hb tc0; replace tc1 := ck hb tc1; replace tc2 := ck hb tc2; replace tc3 := ck hb tc3; replace tc4 := ck hb tc4; replace tc5 := ck hb tc5; replace szw : w.heap.size ≤ w2.heap.size := Nat.le_trans szw hb.size; replace fx : L 11 = true → w.heap.size ≤ kx ∧ w2.frozen? ⟨kx, 0, none⟩ = false ∧ w2.frozen? ⟨kx, 1, none⟩ = false ∧ ∃ u0 u1 : Int, w2.cell? ⟨kx, 0, none⟩ = some (Value.int .i64 u0) ∧ w2.cell? ⟨kx, 1, none⟩ = some (Value.int .i64 u1) ∧ (L 14 = true → u0 = x0 ∧ u1 = x1) := fun h => (by obtain ⟨ge, fz0, fz1, u0, u1, ce0, ce1, us⟩ := fx h; exact ⟨ge, cf hb (World.block_lt_of_cell? _ _ ce0) fz0, cf hb (World.block_lt_of_cell? _ _ ce1) fz1, u0, u1, ck hb ce0, ck hb ce1, us⟩); replace fy : L 12 = true → w.heap.size ≤ ky ∧ w2.frozen? ⟨ky, 0, none⟩ = false ∧ w2.frozen? ⟨ky, 1, none⟩ = false ∧ ∃ u0 u1 : Int, w2.cell? ⟨ky, 0, none⟩ = some (Value.int .i64 u0) ∧ w2.cell? ⟨ky, 1, none⟩ = some (Value.int .i64 u1) ∧ (L 15 = true → u0 = y0 ∧ u1 = y1) := fun h => (by obtain ⟨ge, fz0, fz1, u0, u1, ce0, ce1, us⟩ := fy h; exact ⟨ge, cf hb (World.block_lt_of_cell? _ _ ce0) fz0, cf hb (World.block_lt_of_cell? _ _ ce1) fz1, u0, u1, ck hb ce0, ck hb ce1, us⟩); replace fz : L 13 = true → w.heap.size ≤ kz ∧ w2.frozen? ⟨kz, 0, none⟩ = false ∧ w2.frozen? ⟨kz, 1, none⟩ = false ∧ ∃ u0 u1 : Int, w2.cell? ⟨kz, 0, none⟩ = some (Value.int .i64 u0) ∧ w2.cell? ⟨kz, 1, none⟩ = some (Value.int .i64 u1) ∧ (L 16 = true → u0 = z0 ∧ u1 = z1) := fun h => (by obtain ⟨ge, fz0, fz1, u0, u1, ce0, ce1, us⟩ := fz h; exact ⟨ge, cf hb (World.block_lt_of_cell? _ _ ce0) fz0, cf hb (World.block_lt_of_cell? _ _ ce1) fz1, u0, u1, ck hb ce0, ck hb ce1, us⟩); replace HB : Below W.heap.size W w2 := bt HB hb; clear hb
      exact hK _ _ ⟨(kx, ky, kz), fun _ _ => rfl, rfl, pc0, pc1, qc0, qc1, tc0, tc1, tc2, tc3, tc4, tc5, HB, szw, fx, sx, fy, sy, fz, sz, dxy, dxz, dyz⟩
    · have hlit : (regOps Try.f10 5)[3]? = some ({ dst := some 33, op := Op.load 25 (Operand.tmp 13), type := 25, pos := "law.go:49", after := #[], guard := none }) := by kernel_rfl
      obtain rfl := Option.some.inj (hlit.symm.trans hoi)
      have r13 : b.tmps.getD 13 undef = (.pointer (some ⟨kt, 0, none⟩)) := rd ((hT.old 13 (by kernel_rfl)).trans t13)
      refine op_go hoi (want_all rfl) fun K hK => ?_
      clear hT hpre hlit hoi
      go_simp
      exact hK _ _ ⟨(kx, ky, kz), fun _ _ => rfl, rfl, pc0, pc1, qc0, qc1, tc0, tc1, tc2, tc3, tc4, tc5, HB, szw, fx, sx, fy, sy, fz, sz, dxy, dxz, dyz⟩
    · have hlit : (regOps Try.f10 5)[4]? = some ({ dst := some 34, op := Op.move (Operand.tmp 5), type := 3, pos := "law.go:49", after := #[], guard := none }) := by kernel_rfl
      obtain rfl := Option.some.inj (hlit.symm.trans hoi)
      have r5 : b.tmps.getD 5 undef = (.int .i64 j) := rd ((hT.old 5 (by kernel_rfl)).trans t5)
      refine op_go hoi (want_all rfl) fun K hK => ?_
      clear hT hpre hlit hoi
      go_simp
      exact hK _ _ ⟨(kx, ky, kz), fun _ _ => rfl, rfl, pc0, pc1, qc0, qc1, tc0, tc1, tc2, tc3, tc4, tc5, HB, szw, fx, sx, fy, sy, fz, sz, dxy, dxz, dyz⟩
    · have hlit : (regOps Try.f10 5)[5]? = some ({ dst := some 35, op := Op.binOp BinOp.add 3 (Operand.tmp 34) (Operand.const (Value.int IntKind.i64 1)) 3, type := 3, pos := "law.go:49", after := #[{ on := 4, ground := Ground.data }], guard := none }) := by kernel_rfl
      obtain rfl := Option.some.inj (hlit.symm.trans hoi)
      have r34 : b.tmps.getD 34 undef = (.int .i64 j) := rd (hT.at 4 (by kernel_rfl) (pre_of hpre 4 (by kernel_rfl)))
      refine op_go hoi (want_all rfl) fun K hK => ?_
      clear hT hpre hlit hoi
      go_simp
      exact hK _ _ ⟨(kx, ky, kz), fun _ _ => rfl, rfl, pc0, pc1, qc0, qc1, tc0, tc1, tc2, tc3, tc4, tc5, HB, szw, fx, sx, fy, sy, fz, sz, dxy, dxz, dyz⟩
    · have hlit : (regOps Try.f10 5)[6]? = some ({ dst := some 36, op := Op.call { callee := Callee.value (Operand.func 29), args := #[Operand.tmp 33, Operand.tmp 35], argTypes := #[25, 3] }, type := 23, pos := "law.go:49", after := #[{ on := 3, ground := Ground.data }, { on := 5, ground := Ground.data }, { on := 2, ground := Ground.chain }], guard := none }) := by kernel_rfl
      obtain rfl := Option.some.inj (hlit.symm.trans hoi)
      have r33 : b.tmps.getD 33 undef = (.agg #[.int .i64 d0, .int .i64 d1, .int .i64 e0, .int .i64 e1, .int .i64 f0, .int .i64 f1]) := rd (hT.at 3 (by kernel_rfl) (pre_of hpre 3 (by kernel_rfl)))
      have r35 : b.tmps.getD 35 undef = (.int .i64 (j + 1)) := rd (hT.at 5 (by kernel_rfl) (pre_of hpre 5 (by kernel_rfl)))
      refine op_go hoi (want_all rfl) fun K hK => ?_
      clear hT hpre hlit hoi
      go_simp
      go_at_call 29
      refine (cor29 _ _ _ _ _ _ _ _).mono ?_; rw [m2]; rintro e w2 ⟨rfl, hb⟩; replace pc0 := ck hb pc0; replace pc1 := ck hb pc1; replace qc0 := ck hb qc0; replace qc1 := ck hb qc1; replace tc0 := ck hb tc0; replace tc1 := ck hb tc1; replace tc2 := ck hb tc2; replace tc3 := ck hb tc3; replace tc4 := ck hb tc4; replace tc5 := ck hb tc5; replace szw : w.heap.size ≤ w2.heap.size := Nat.le_trans szw hb.size; replace fx : L 11 = true → w.heap.size ≤ kx ∧ w2.frozen? ⟨kx, 0, none⟩ = false ∧ w2.frozen? ⟨kx, 1, none⟩ = false ∧ ∃ u0 u1 : Int, w2.cell? ⟨kx, 0, none⟩ = some (Value.int .i64 u0) ∧ w2.cell? ⟨kx, 1, none⟩ = some (Value.int .i64 u1) ∧ (L 14 = true → u0 = x0 ∧ u1 = x1) := fun h => (by obtain ⟨ge, fz0, fz1, u0, u1, ce0, ce1, us⟩ := fx h; exact ⟨ge, cf hb (World.block_lt_of_cell? _ _ ce0) fz0, cf hb (World.block_lt_of_cell? _ _ ce1) fz1, u0, u1, ck hb ce0, ck hb ce1, us⟩); replace fy : L 12 = true → w.heap.size ≤ ky ∧ w2.frozen? ⟨ky, 0, none⟩ = false ∧ w2.frozen? ⟨ky, 1, none⟩ = false ∧ ∃ u0 u1 : Int, w2.cell? ⟨ky, 0, none⟩ = some (Value.int .i64 u0) ∧ w2.cell? ⟨ky, 1, none⟩ = some (Value.int .i64 u1) ∧ (L 15 = true → u0 = y0 ∧ u1 = y1) := fun h => (by obtain ⟨ge, fz0, fz1, u0, u1, ce0, ce1, us⟩ := fy h; exact ⟨ge, cf hb (World.block_lt_of_cell? _ _ ce0) fz0, cf hb (World.block_lt_of_cell? _ _ ce1) fz1, u0, u1, ck hb ce0, ck hb ce1, us⟩); replace fz : L 13 = true → w.heap.size ≤ kz ∧ w2.frozen? ⟨kz, 0, none⟩ = false ∧ w2.frozen? ⟨kz, 1, none⟩ = false ∧ ∃ u0 u1 : Int, w2.cell? ⟨kz, 0, none⟩ = some (Value.int .i64 u0) ∧ w2.cell? ⟨kz, 1, none⟩ = some (Value.int .i64 u1) ∧ (L 16 = true → u0 = z0 ∧ u1 = z1) := fun h => (by obtain ⟨ge, fz0, fz1, u0, u1, ce0, ce1, us⟩ := fz h; exact ⟨ge, cf hb (World.block_lt_of_cell? _ _ ce0) fz0, cf hb (World.block_lt_of_cell? _ _ ce1) fz1, u0, u1, ck hb ce0, ck hb ce1, us⟩); replace HB : Below W.heap.size W w2 := bt HB hb; clear hb
      exact hK _ _ ⟨(kx, ky, kz), fun _ _ => rfl, rfl, pc0, pc1, qc0, qc1, tc0, tc1, tc2, tc3, tc4, tc5, HB, szw, fx, sx, fy, sy, fz, sz, dxy, dxz, dyz⟩
    · have hlit : (regOps Try.f10 5)[7]? = some ({ dst := some 37, op := Op.load 25 (Operand.tmp 13), type := 25, pos := "law.go:49", after := #[], guard := none }) := by kernel_rfl
      obtain rfl := Option.some.inj (hlit.symm.trans hoi)
      have r13 : b.tmps.getD 13 undef = (.pointer (some ⟨kt, 0, none⟩)) := rd ((hT.old 13 (by kernel_rfl)).trans t13)
      refine op_go hoi (want_all rfl) fun K hK => ?_
      clear hT hpre hlit hoi
      go_simp
      exact hK _ _ ⟨(kx, ky, kz), fun _ _ => rfl, rfl, pc0, pc1, qc0, qc1, tc0, tc1, tc2, tc3, tc4, tc5, HB, szw, fx, sx, fy, sy, fz, sz, dxy, dxz, dyz⟩
    · have hlit : (regOps Try.f10 5)[8]? = some ({ dst := some 38, op := Op.move (Operand.tmp 5), type := 3, pos := "law.go:49", after := #[], guard := none }) := by kernel_rfl
      obtain rfl := Option.some.inj (hlit.symm.trans hoi)
      have r5 : b.tmps.getD 5 undef = (.int .i64 j) := rd ((hT.old 5 (by kernel_rfl)).trans t5)
      refine op_go hoi (want_all rfl) fun K hK => ?_
      clear hT hpre hlit hoi
      go_simp
      exact hK _ _ ⟨(kx, ky, kz), fun _ _ => rfl, rfl, pc0, pc1, qc0, qc1, tc0, tc1, tc2, tc3, tc4, tc5, HB, szw, fx, sx, fy, sy, fz, sz, dxy, dxz, dyz⟩
    · have hlit : (regOps Try.f10 5)[9]? = some ({ dst := some 39, op := Op.binOp BinOp.add 3 (Operand.tmp 38) (Operand.const (Value.int IntKind.i64 2)) 3, type := 3, pos := "law.go:49", after := #[{ on := 8, ground := Ground.data }], guard := none }) := by kernel_rfl
      obtain rfl := Option.some.inj (hlit.symm.trans hoi)
      have r38 : b.tmps.getD 38 undef = (.int .i64 j) := rd (hT.at 8 (by kernel_rfl) (pre_of hpre 8 (by kernel_rfl)))
      refine op_go hoi (want_all rfl) fun K hK => ?_
      clear hT hpre hlit hoi
      go_simp
      exact hK _ _ ⟨(kx, ky, kz), fun _ _ => rfl, rfl, pc0, pc1, qc0, qc1, tc0, tc1, tc2, tc3, tc4, tc5, HB, szw, fx, sx, fy, sy, fz, sz, dxy, dxz, dyz⟩
    · have hlit : (regOps Try.f10 5)[10]? = some ({ dst := some 40, op := Op.call { callee := Callee.value (Operand.func 29), args := #[Operand.tmp 37, Operand.tmp 39], argTypes := #[25, 3] }, type := 23, pos := "law.go:49", after := #[{ on := 7, ground := Ground.data }, { on := 9, ground := Ground.data }, { on := 6, ground := Ground.chain }], guard := none }) := by kernel_rfl
      obtain rfl := Option.some.inj (hlit.symm.trans hoi)
      have r37 : b.tmps.getD 37 undef = (.agg #[.int .i64 d0, .int .i64 d1, .int .i64 e0, .int .i64 e1, .int .i64 f0, .int .i64 f1]) := rd (hT.at 7 (by kernel_rfl) (pre_of hpre 7 (by kernel_rfl)))
      have r39 : b.tmps.getD 39 undef = (.int .i64 (j + 2)) := rd (hT.at 9 (by kernel_rfl) (pre_of hpre 9 (by kernel_rfl)))
      refine op_go hoi (want_all rfl) fun K hK => ?_
      clear hT hpre hlit hoi
      go_simp
      go_at_call 29
      refine (cor29 _ _ _ _ _ _ _ _).mono ?_; rw [m3]; rintro e w2 ⟨rfl, hb⟩; replace pc0 := ck hb pc0; replace pc1 := ck hb pc1; replace qc0 := ck hb qc0; replace qc1 := ck hb qc1; replace tc0 := ck hb tc0; replace tc1 := ck hb tc1; replace tc2 := ck hb tc2; replace tc3 := ck hb tc3; replace tc4 := ck hb tc4; replace tc5 := ck hb tc5; replace szw : w.heap.size ≤ w2.heap.size := Nat.le_trans szw hb.size; replace fx : L 11 = true → w.heap.size ≤ kx ∧ w2.frozen? ⟨kx, 0, none⟩ = false ∧ w2.frozen? ⟨kx, 1, none⟩ = false ∧ ∃ u0 u1 : Int, w2.cell? ⟨kx, 0, none⟩ = some (Value.int .i64 u0) ∧ w2.cell? ⟨kx, 1, none⟩ = some (Value.int .i64 u1) ∧ (L 14 = true → u0 = x0 ∧ u1 = x1) := fun h => (by obtain ⟨ge, fz0, fz1, u0, u1, ce0, ce1, us⟩ := fx h; exact ⟨ge, cf hb (World.block_lt_of_cell? _ _ ce0) fz0, cf hb (World.block_lt_of_cell? _ _ ce1) fz1, u0, u1, ck hb ce0, ck hb ce1, us⟩); replace fy : L 12 = true → w.heap.size ≤ ky ∧ w2.frozen? ⟨ky, 0, none⟩ = false ∧ w2.frozen? ⟨ky, 1, none⟩ = false ∧ ∃ u0 u1 : Int, w2.cell? ⟨ky, 0, none⟩ = some (Value.int .i64 u0) ∧ w2.cell? ⟨ky, 1, none⟩ = some (Value.int .i64 u1) ∧ (L 15 = true → u0 = y0 ∧ u1 = y1) := fun h => (by obtain ⟨ge, fz0, fz1, u0, u1, ce0, ce1, us⟩ := fy h; exact ⟨ge, cf hb (World.block_lt_of_cell? _ _ ce0) fz0, cf hb (World.block_lt_of_cell? _ _ ce1) fz1, u0, u1, ck hb ce0, ck hb ce1, us⟩); replace fz : L 13 = true → w.heap.size ≤ kz ∧ w2.frozen? ⟨kz, 0, none⟩ = false ∧ w2.frozen? ⟨kz, 1, none⟩ = false ∧ ∃ u0 u1 : Int, w2.cell? ⟨kz, 0, none⟩ = some (Value.int .i64 u0) ∧ w2.cell? ⟨kz, 1, none⟩ = some (Value.int .i64 u1) ∧ (L 16 = true → u0 = z0 ∧ u1 = z1) := fun h => (by obtain ⟨ge, fz0, fz1, u0, u1, ce0, ce1, us⟩ := fz h; exact ⟨ge, cf hb (World.block_lt_of_cell? _ _ ce0) fz0, cf hb (World.block_lt_of_cell? _ _ ce1) fz1, u0, u1, ck hb ce0, ck hb ce1, us⟩); replace HB : Below W.heap.size W w2 := bt HB hb; clear hb
      exact hK _ _ ⟨(kx, ky, kz), fun _ _ => rfl, rfl, pc0, pc1, qc0, qc1, tc0, tc1, tc2, tc3, tc4, tc5, HB, szw, fx, sx, fy, sy, fz, sz, dxy, dxz, dyz⟩
    · have hlit : (regOps Try.f10 5)[11]? = some ({ dst := some 15, op := Op.alloc 23, type := 0, pos := "law.go:49", after := #[], guard := none }) := by kernel_rfl
      obtain rfl := Option.some.inj (hlit.symm.trans hoi)
      refine op_go hoi (want_all rfl) fun K hK => ?_
      clear hT hpre hlit hoi
      go_simp
      have lw_pc0 := World.block_lt_of_cell? w' _ pc0
      have lw_pc1 := World.block_lt_of_cell? w' _ pc1
      have lw_qc0 := World.block_lt_of_cell? w' _ qc0
      have lw_qc1 := World.block_lt_of_cell? w' _ qc1
      have lw_tc0 := World.block_lt_of_cell? w' _ tc0
      have lw_tc1 := World.block_lt_of_cell? w' _ tc1
      have lw_tc2 := World.block_lt_of_cell? w' _ tc2
      have lw_tc3 := World.block_lt_of_cell? w' _ tc3
      have lw_tc4 := World.block_lt_of_cell? w' _ tc4
      have lw_tc5 := World.block_lt_of_cell? w' _ tc5
      refine hK _ _ ⟨(w'.heap.size, ky, kz), fun j hj => ?_, rfl, by go_simp, by go_simp, by go_simp, by go_simp, by go_simp, by go_simp, by go_simp, by go_simp, by go_simp, by go_simp, ba HB _, by simp; omega, fun _ => ⟨szw, by go_simp, by go_simp, 0, 0, by go_simp, by go_simp, fun h => absurd ((sx h).symm.trans hun) (by decide)⟩, fun _ => rfl, fun h => (by obtain ⟨ge, fz0, fz1, u0, u1, ce0, ce1, us⟩ := fy h; have lq := World.block_lt_of_cell? _ _ ce0; have lp := Nat.ne_of_lt lq; exact ⟨ge, by go_simp, by go_simp, u0, u1, by go_simp, by go_simp, us⟩), sy, fun h => (by obtain ⟨ge, fz0, fz1, u0, u1, ce0, ce1, us⟩ := fz h; have lq := World.block_lt_of_cell? _ _ ce0; have lp := Nat.ne_of_lt lq; exact ⟨ge, by go_simp, by go_simp, u0, u1, by go_simp, by go_simp, us⟩), sz, fun _ h => (by obtain ⟨ge, _, _, u0, u1, ce0, ce1, us⟩ := fy h; exact fun e => Nat.ne_of_lt (World.block_lt_of_cell? _ _ ce0) e.symm), fun _ h => (by obtain ⟨ge, _, _, u0, u1, ce0, ce1, us⟩ := fz h; exact fun e => Nat.ne_of_lt (World.block_lt_of_cell? _ _ ce0) e.symm), dyz⟩
      by_cases e : j = 11
      · subst e; rw [hun] at hj; cases hj
      · unfold region10vV; split <;> first | rfl | (exact absurd rfl e)
    · have hlit : (regOps Try.f10 5)[12]? = some ({ dst := some 16, op := Op.alloc 23, type := 0, pos := "law.go:49", after := #[], guard := none }) := by kernel_rfl
      obtain rfl := Option.some.inj (hlit.symm.trans hoi)
      refine op_go hoi (want_all rfl) fun K hK => ?_
      clear hT hpre hlit hoi
      go_simp
      have lw_pc0 := World.block_lt_of_cell? w' _ pc0
      have lw_pc1 := World.block_lt_of_cell? w' _ pc1
      have lw_qc0 := World.block_lt_of_cell? w' _ qc0
      have lw_qc1 := World.block_lt_of_cell? w' _ qc1
      have lw_tc0 := World.block_lt_of_cell? w' _ tc0
      have lw_tc1 := World.block_lt_of_cell? w' _ tc1
      have lw_tc2 := World.block_lt_of_cell? w' _ tc2
      have lw_tc3 := World.block_lt_of_cell? w' _ tc3
      have lw_tc4 := World.block_lt_of_cell? w' _ tc4
      have lw_tc5 := World.block_lt_of_cell? w' _ tc5
      refine hK _ _ ⟨(kx, w'.heap.size, kz), fun j hj => ?_, rfl, by go_simp, by go_simp, by go_simp, by go_simp, by go_simp, by go_simp, by go_simp, by go_simp, by go_simp, by go_simp, ba HB _, by simp; omega, fun h => (by obtain ⟨ge, fz0, fz1, u0, u1, ce0, ce1, us⟩ := fx h; have lq := World.block_lt_of_cell? _ _ ce0; have lp := Nat.ne_of_lt lq; exact ⟨ge, by go_simp, by go_simp, u0, u1, by go_simp, by go_simp, us⟩), sx, fun _ => ⟨szw, by go_simp, by go_simp, 0, 0, by go_simp, by go_simp, fun h => absurd ((sy h).symm.trans hun) (by decide)⟩, fun _ => rfl, fun h => (by obtain ⟨ge, fz0, fz1, u0, u1, ce0, ce1, us⟩ := fz h; have lq := World.block_lt_of_cell? _ _ ce0; have lp := Nat.ne_of_lt lq; exact ⟨ge, by go_simp, by go_simp, u0, u1, by go_simp, by go_simp, us⟩), sz, fun h _ => (by obtain ⟨ge, _, _, u0, u1, ce0, ce1, us⟩ := fx h; exact Nat.ne_of_lt (World.block_lt_of_cell? _ _ ce0)), dxz, fun _ h => (by obtain ⟨ge, _, _, u0, u1, ce0, ce1, us⟩ := fz h; exact fun e => Nat.ne_of_lt (World.block_lt_of_cell? _ _ ce0) e.symm)⟩
      by_cases e : j = 12
      · subst e; rw [hun] at hj; cases hj
      · unfold region10vV; split <;> first | rfl | (exact absurd rfl e)
    · have hlit : (regOps Try.f10 5)[13]? = some ({ dst := some 17, op := Op.alloc 23, type := 0, pos := "law.go:49", after := #[], guard := none }) := by kernel_rfl
      obtain rfl := Option.some.inj (hlit.symm.trans hoi)
      refine op_go hoi (want_all rfl) fun K hK => ?_
      clear hT hpre hlit hoi
      go_simp
      have lw_pc0 := World.block_lt_of_cell? w' _ pc0
      have lw_pc1 := World.block_lt_of_cell? w' _ pc1
      have lw_qc0 := World.block_lt_of_cell? w' _ qc0
      have lw_qc1 := World.block_lt_of_cell? w' _ qc1
      have lw_tc0 := World.block_lt_of_cell? w' _ tc0
      have lw_tc1 := World.block_lt_of_cell? w' _ tc1
      have lw_tc2 := World.block_lt_of_cell? w' _ tc2
      have lw_tc3 := World.block_lt_of_cell? w' _ tc3
      have lw_tc4 := World.block_lt_of_cell? w' _ tc4
      have lw_tc5 := World.block_lt_of_cell? w' _ tc5
      refine hK _ _ ⟨(kx, ky, w'.heap.size), fun j hj => ?_, rfl, by go_simp, by go_simp, by go_simp, by go_simp, by go_simp, by go_simp, by go_simp, by go_simp, by go_simp, by go_simp, ba HB _, by simp; omega, fun h => (by obtain ⟨ge, fz0, fz1, u0, u1, ce0, ce1, us⟩ := fx h; have lq := World.block_lt_of_cell? _ _ ce0; have lp := Nat.ne_of_lt lq; exact ⟨ge, by go_simp, by go_simp, u0, u1, by go_simp, by go_simp, us⟩), sx, fun h => (by obtain ⟨ge, fz0, fz1, u0, u1, ce0, ce1, us⟩ := fy h; have lq := World.block_lt_of_cell? _ _ ce0; have lp := Nat.ne_of_lt lq; exact ⟨ge, by go_simp, by go_simp, u0, u1, by go_simp, by go_simp, us⟩), sy, fun _ => ⟨szw, by go_simp, by go_simp, 0, 0, by go_simp, by go_simp, fun h => absurd ((sz h).symm.trans hun) (by decide)⟩, fun _ => rfl, dxy, fun h _ => (by obtain ⟨ge, _, _, u0, u1, ce0, ce1, us⟩ := fx h; exact Nat.ne_of_lt (World.block_lt_of_cell? _ _ ce0)), fun h _ => (by obtain ⟨ge, _, _, u0, u1, ce0, ce1, us⟩ := fy h; exact Nat.ne_of_lt (World.block_lt_of_cell? _ _ ce0))⟩
      by_cases e : j = 13
      · subst e; rw [hun] at hj; cases hj
      · unfold region10vV; split <;> first | rfl | (exact absurd rfl e)
    · have hlit : (regOps Try.f10 5)[14]? = some ({ dst := none, op := Op.store 23 (Operand.tmp 15) (Operand.tmp 32), type := 0, pos := "law.go:49", after := #[{ on := 11, ground := Ground.data }, { on := 2, ground := Ground.data }, { on := 10, ground := Ground.chain }, { on := 0, ground := Ground.phase }, { on := 1, ground := Ground.phase }, { on := 2, ground := Ground.phase }, { on := 3, ground := Ground.textOnly Departure.lateStores }, { on := 4, ground := Ground.textOnly Departure.lateStores }, { on := 5, ground := Ground.textOnly Departure.lateStores }, { on := 6, ground := Ground.textOnly Departure.lateStoresUnsure }, { on := 7, ground := Ground.textOnly Departure.lateStores }, { on := 8, ground := Ground.textOnly Departure.lateStores }, { on := 9, ground := Ground.textOnly Departure.lateStores }, { on := 10, ground := Ground.textOnly Departure.lateStoresUnsure }, { on := 11, ground := Ground.phase }, { on := 12, ground := Ground.phase }, { on := 13, ground := Ground.phase }], guard := none }) := by kernel_rfl
      obtain rfl := Option.some.inj (hlit.symm.trans hoi)
      have r15 : b.tmps.getD 15 undef = (.pointer (some ⟨kx, 0, none⟩)) := rd (hT.at 11 (by kernel_rfl) (pre_of hpre 11 (by kernel_rfl)))
      have r32 : b.tmps.getD 32 undef = (.agg #[.int .i64 x0, .int .i64 x1]) := rd (hT.at 2 (by kernel_rfl) (pre_of hpre 2 (by kernel_rfl)))
      have pr : L 11 = true := pre_of hpre 11 (by kernel_rfl)
      obtain ⟨ge, fz0, fz1, u0, u1, ce0, ce1, -⟩ := fx pr
      have ne_kp : ¬ kp = kx := Nat.ne_of_lt (Nat.lt_of_lt_of_le lt_kp ge)
      have nf_kp : ¬ kx = kp := fun h => ne_kp h.symm
      have ne_kq : ¬ kq = kx := Nat.ne_of_lt (Nat.lt_of_lt_of_le lt_kq ge)
      have nf_kq : ¬ kx = kq := fun h => ne_kq h.symm
      have ne_kt : ¬ kt = kx := Nat.ne_of_lt (Nat.lt_of_lt_of_le lt_kt ge)
      have nf_kt : ¬ kx = kt := fun h => ne_kt h.symm
      refine op_go hoi (want_all rfl) fun K hK => ?_
      clear hT hpre hlit hoi
      go_simp
      exact hK _ _ ⟨(kx, ky, kz), fun _ _ => rfl, rfl, by go_simp, by go_simp, by go_simp, by go_simp, by go_simp, by go_simp, by go_simp, by go_simp, by go_simp, by go_simp, bs (bs (HB) (Nat.le_trans sz0 ge) _) (Nat.le_trans sz0 ge) _, by simp; omega, fun _ => ⟨ge, by go_simp, by go_simp, x0, x1, by go_simp, by go_simp, fun _ => ⟨rfl, rfl⟩⟩, fun _ => pr, fun h => (by have nk := dxy pr h; have nj := nk.symm; obtain ⟨gf, gz0, gz1, v0, v1, cg0, cg1, us⟩ := fy h; exact ⟨gf, by go_simp, by go_simp, v0, v1, by go_simp, by go_simp, us⟩), sy, fun h => (by have nk := dxz pr h; have nj := nk.symm; obtain ⟨gf, gz0, gz1, v0, v1, cg0, cg1, us⟩ := fz h; exact ⟨gf, by go_simp, by go_simp, v0, v1, by go_simp, by go_simp, us⟩), sz, dxy, dxz, dyz⟩
    · have hlit : (regOps Try.f10 5)[15]? = some ({ dst := none, op := Op.store 23 (Operand.tmp 16) (Operand.tmp 36), type := 0, pos := "law.go:49", after := #[{ on := 12, ground := Ground.data }, { on := 6, ground := Ground.data }, { on := 14, ground := Ground.chain }, { on := 0, ground := Ground.phase }, { on := 1, ground := Ground.phase }, { on := 2, ground := Ground.phase }, { on := 3, ground := Ground.phase }, { on := 4, ground := Ground.phase }, { on := 5, ground := Ground.phase }, { on := 6, ground := Ground.phase }, { on := 7, ground := Ground.textOnly Departure.lateStores }, { on := 8, ground := Ground.textOnly Departure.lateStores }, { on := 9, ground := Ground.textOnly Departure.lateStores }, { on := 10, ground := Ground.textOnly Departure.lateStoresUnsure }, { on := 11, ground := Ground.phase }, { on := 12, ground := Ground.phase }, { on := 13, ground := Ground.phase }, { on := 14, ground := Ground.phase }], guard := none }) := by kernel_rfl
      obtain rfl := Option.some.inj (hlit.symm.trans hoi)
      have r16 : b.tmps.getD 16 undef = (.pointer (some ⟨ky, 0, none⟩)) := rd (hT.at 12 (by kernel_rfl) (pre_of hpre 12 (by kernel_rfl)))
      have r36 : b.tmps.getD 36 undef = (.agg #[.int .i64 y0, .int .i64 y1]) := rd (hT.at 6 (by kernel_rfl) (pre_of hpre 6 (by kernel_rfl)))
      have pr : L 12 = true := pre_of hpre 12 (by kernel_rfl)
      obtain ⟨ge, fz0, fz1, u0, u1, ce0, ce1, -⟩ := fy pr
      have ne_kp : ¬ kp = ky := Nat.ne_of_lt (Nat.lt_of_lt_of_le lt_kp ge)
      have nf_kp : ¬ ky = kp := fun h => ne_kp h.symm
      have ne_kq : ¬ kq = ky := Nat.ne_of_lt (Nat.lt_of_lt_of_le lt_kq ge)
      have nf_kq : ¬ ky = kq := fun h => ne_kq h.symm
      have ne_kt : ¬ kt = ky := Nat.ne_of_lt (Nat.lt_of_lt_of_le lt_kt ge)
      have nf_kt : ¬ ky = kt := fun h => ne_kt h.symm
      refine op_go hoi (want_all rfl) fun K hK => ?_
      clear hT hpre hlit hoi
      go_simp
      exact hK _ _ ⟨(kx, ky, kz), fun _ _ => rfl, rfl, by go_simp, by go_simp, by go_simp, by go_simp, by go_simp, by go_simp, by go_simp, by go_simp, by go_simp, by go_simp, bs (bs (HB) (Nat.le_trans sz0 ge) _) (Nat.le_trans sz0 ge) _, by simp; omega, fun h => (by have nk := (dxy h pr).symm; have nj := nk.symm; obtain ⟨gf, gz0, gz1, v0, v1, cg0, cg1, us⟩ := fx h; exact ⟨gf, by go_simp, by go_simp, v0, v1, by go_simp, by go_simp, us⟩), sx, fun _ => ⟨ge, by go_simp, by go_simp, y0, y1, by go_simp, by go_simp, fun _ => ⟨rfl, rfl⟩⟩, fun _ => pr, fun h => (by have nk := dyz pr h; have nj := nk.symm; obtain ⟨gf, gz0, gz1, v0, v1, cg0, cg1, us⟩ := fz h; exact ⟨gf, by go_simp, by go_simp, v0, v1, by go_simp, by go_simp, us⟩), sz, dxy, dxz, dyz⟩
    · have hlit : (regOps Try.f10 5)[16]? = some ({ dst := none, op := Op.store 23 (Operand.tmp 17) (Operand.tmp 40), type := 0, pos := "law.go:49", after := #[{ on := 13, ground := Ground.data }, { on := 10, ground := Ground.data }, { on := 15, ground := Ground.chain }, { on := 0, ground := Ground.phase }, { on := 1, ground := Ground.phase }, { on := 2, ground := Ground.phase }, { on := 3, ground := Ground.phase }, { on := 4, ground := Ground.phase }, { on := 5, ground := Ground.phase }, { on := 6, ground := Ground.phase }, { on := 7, ground := Ground.phase }, { on := 8, ground := Ground.phase }, { on := 9, ground := Ground.phase }, { on := 10, ground := Ground.phase }, { on := 11, ground := Ground.phase }, { on := 12, ground := Ground.phase }, { on := 13, ground := Ground.phase }, { on := 14, ground := Ground.phase }, { on := 15, ground := Ground.phase }], guard := none }) := by kernel_rfl
      obtain rfl := Option.some.inj (hlit.symm.trans hoi)
      have r17 : b.tmps.getD 17 undef = (.pointer (some ⟨kz, 0, none⟩)) := rd (hT.at 13 (by kernel_rfl) (pre_of hpre 13 (by kernel_rfl)))
      have r40 : b.tmps.getD 40 undef = (.agg #[.int .i64 z0, .int .i64 z1]) := rd (hT.at 10 (by kernel_rfl) (pre_of hpre 10 (by kernel_rfl)))
      have pr : L 13 = true := pre_of hpre 13 (by kernel_rfl)
      obtain ⟨ge, fz0, fz1, u0, u1, ce0, ce1, -⟩ := fz pr
      have ne_kp : ¬ kp = kz := Nat.ne_of_lt (Nat.lt_of_lt_of_le lt_kp ge)
      have nf_kp : ¬ kz = kp := fun h => ne_kp h.symm
      have ne_kq : ¬ kq = kz := Nat.ne_of_lt (Nat.lt_of_lt_of_le lt_kq ge)
      have nf_kq : ¬ kz = kq := fun h => ne_kq h.symm
      have ne_kt : ¬ kt = kz := Nat.ne_of_lt (Nat.lt_of_lt_of_le lt_kt ge)
      have nf_kt : ¬ kz = kt := fun h => ne_kt h.symm
      refine op_go hoi (want_all rfl) fun K hK => ?_
      clear hT hpre hlit hoi
      go_simp
      exact hK _ _ ⟨(kx, ky, kz), fun _ _ => rfl, rfl, by go_simp, by go_simp, by go_simp, by go_simp, by go_simp, by go_simp, by go_simp, by go_simp, by go_simp, by go_simp, bs (bs (HB) (Nat.le_trans sz0 ge) _) (Nat.le_trans sz0 ge) _, by simp; omega, fun h => (by have nk := (dxz h pr).symm; have nj := nk.symm; obtain ⟨gf, gz0, gz1, v0, v1, cg0, cg1, us⟩ := fx h; exact ⟨gf, by go_simp, by go_simp, v0, v1, by go_simp, by go_simp, us⟩), sx, fun h => (by have nk := (dyz h pr).symm; have nj := nk.symm; obtain ⟨gf, gz0, gz1, v0, v1, cg0, cg1, us⟩ := fy h; exact ⟨gf, by go_simp, by go_simp, v0, v1, by go_simp, by go_simp, us⟩), sy, fun _ => ⟨ge, by go_simp, by go_simp, z0, z1, by go_simp, by go_simp, fun _ => ⟨rfl, rfl⟩⟩, fun _ => pr, dxy, dxz, dyz⟩
  · intro g b w' hT hS
    rw [hT.all ht]
    have hn : (regOps Try.f10 5).size = 17 := by kernel_rfl
    rw [hn] at hS ⊢
    obtain ⟨kx, ky, kz⟩ := g
    dsimp only at hS
    obtain ⟨pc0, pc1, qc0, qc1, tc0, tc1, tc2, tc3, tc4, tc5, HB, szw, fx, sx, fy, sy, fz, sz, dxy, dxz, dyz⟩ := hS
    obtain ⟨gex, fzx0, fzx1, ux0, ux1, cex0, cex1, usx⟩ := fx rfl
    obtain ⟨rfl, rfl⟩ := usx rfl
    obtain ⟨gey, fzy0, fzy1, uy0, uy1, cey0, cey1, usy⟩ := fy rfl
    obtain ⟨rfl, rfl⟩ := usy rfl
    obtain ⟨gez, fzz0, fzz1, uz0, uz1, cez0, cez1, usz⟩ := fz rfl
    obtain ⟨rfl, rfl⟩ := usz rfl
    exact he kx ky kz w' ⟨pc0, pc1, qc0, qc1, tc0, tc1, tc2, tc3, tc4, tc5, HB⟩ ⟨cex0, cex1, cey0, cey1, cez0, cez1, fzx0, fzx1, fzy0, fzy1, fzz0, fzz1, gex, gey, gez, dxy rfl rfl, dxz rfl rfl, dyz rfl rfl⟩

/-- What each operation of the region leaves. -/
def region10aV (g0 g1 k0 k1 d0 d1 e0 e1 f0 f1 x0 x1 y0 y1 : Int) : Nat → Value
  | 0 => .agg #[.int .i64 d0, .int .i64 d1, .int .i64 e0, .int .i64 e1, .int .i64 f0, .int .i64 f1]
  | 1 => .agg #[.int .i64 x0, .int .i64 x1]
  | 2 => .agg #[.int .i64 y0, .int .i64 y1]
  | 3 => .bool true
  | 4 => .bool false
  | 5 => .bool false
  | 6 => .agg #[.int .i64 d0, .int .i64 d1, .int .i64 e0, .int .i64 e1, .int .i64 f0, .int .i64 f1]
  | 7 => .agg #[.int .i64 y0, .int .i64 y1]
  | 8 => .agg #[.int .i64 x0, .int .i64 x1]
  | 9 => .bool true
  | 10 => .bool false
  | 11 => .bool false
  | 12 => .bool false
  | 13 => .agg #[.int .i64 d0, .int .i64 d1, .int .i64 e0, .int .i64 e1, .int .i64 f0, .int .i64 f1]
  | 14 => .agg #[.int .i64 g0, .int .i64 g1]
  | 15 => .agg #[.int .i64 k0, .int .i64 k1]
  | 16 => .bool (along ⟨⟨d0, d1⟩, ⟨e0, e1⟩, ⟨f0, f1⟩⟩ ⟨g0, g1⟩ ⟨k0, k1⟩)
  | 17 => .agg #[.int .i64 d0, .int .i64 d1, .int .i64 e0, .int .i64 e1, .int .i64 f0, .int .i64 f1]
  | 18 => .agg #[.int .i64 k0, .int .i64 k1]
  | 19 => .agg #[.int .i64 g0, .int .i64 g1]
  | 20 => .bool (along ⟨⟨d0, d1⟩, ⟨e0, e1⟩, ⟨f0, f1⟩⟩ ⟨g0, g1⟩ ⟨k0, k1⟩)
  | 21 => .bool false
  | 22 => .bool false
  | _ => undef

set_option maxHeartbeats 4000000 in
set_option maxRecDepth 100000 in
theorem region10a (g0 g1 k0 k1 d0 d1 e0 e1 f0 f1 x0 x1 y0 y1 z0 z1 : Int) (kp kq kt kx ky kz : Nat) (W : World) (m1 : along ⟨⟨d0, d1⟩, ⟨e0, e1⟩, ⟨f0, f1⟩⟩ ⟨x0, x1⟩ ⟨y0, y1⟩ = true) (m2 : along ⟨⟨d0, d1⟩, ⟨e0, e1⟩, ⟨f0, f1⟩⟩ ⟨y0, y1⟩ ⟨x0, x1⟩ = true) (m3 : along ⟨⟨d0, d1⟩, ⟨e0, e1⟩, ⟨f0, f1⟩⟩ ⟨k0, k1⟩ ⟨g0, g1⟩ = along ⟨⟨d0, d1⟩, ⟨e0, e1⟩, ⟨f0, f1⟩⟩ ⟨g0, g1⟩ ⟨k0, k1⟩) {id : Nat} {ops : Array Oper} {Q : Exit → Act → World → Prop} {a : Act} {w : World}
    (ho : ops = (regOps Try.f10 6)) (hsz : a.tmps.size = 114) (t13 : a.tmps[13]? = some (.pointer (some ⟨kt, 0, none⟩))) (t15 : a.tmps[15]? = some (.pointer (some ⟨kx, 0, none⟩))) (t16 : a.tmps[16]? = some (.pointer (some ⟨ky, 0, none⟩))) (t9 : a.tmps[9]? = some (.pointer (some ⟨kp, 0, none⟩))) (t10 : a.tmps[10]? = some (.pointer (some ⟨kq, 0, none⟩)))
    (h0 : w.drew.cell? ⟨kp, 0, none⟩ = some (.int .i64 g0) ∧ w.drew.cell? ⟨kp, 1, none⟩ = some (.int .i64 g1) ∧ w.drew.cell? ⟨kq, 0, none⟩ = some (.int .i64 k0) ∧ w.drew.cell? ⟨kq, 1, none⟩ = some (.int .i64 k1) ∧ w.drew.cell? ⟨kt, 0, none⟩ = some (.int .i64 d0) ∧ w.drew.cell? ⟨kt, 1, none⟩ = some (.int .i64 d1) ∧ w.drew.cell? ⟨kt, 2, none⟩ = some (.int .i64 e0) ∧ w.drew.cell? ⟨kt, 3, none⟩ = some (.int .i64 e1) ∧ w.drew.cell? ⟨kt, 4, none⟩ = some (.int .i64 f0) ∧ w.drew.cell? ⟨kt, 5, none⟩ = some (.int .i64 f1) ∧ w.drew.cell? ⟨kx, 0, none⟩ = some (.int .i64 x0) ∧ w.drew.cell? ⟨kx, 1, none⟩ = some (.int .i64 x1) ∧ w.drew.cell? ⟨ky, 0, none⟩ = some (.int .i64 y0) ∧ w.drew.cell? ⟨ky, 1, none⟩ = some (.int .i64 y1) ∧ w.drew.cell? ⟨kz, 0, none⟩ = some (.int .i64 z0) ∧ w.drew.cell? ⟨kz, 1, none⟩ = some (.int .i64 z1) ∧ Below W.heap.size W w.drew)
    (he : ∀ w', w'.cell? ⟨kp, 0, none⟩ = some (.int .i64 g0) ∧ w'.cell? ⟨kp, 1, none⟩ = some (.int .i64 g1) ∧ w'.cell? ⟨kq, 0, none⟩ = some (.int .i64 k0) ∧ w'.cell? ⟨kq, 1, none⟩ = some (.int .i64 k1) ∧ w'.cell? ⟨kt, 0, none⟩ = some (.int .i64 d0) ∧ w'.cell? ⟨kt, 1, none⟩ = some (.int .i64 d1) ∧ w'.cell? ⟨kt, 2, none⟩ = some (.int .i64 e0) ∧ w'.cell? ⟨kt, 3, none⟩ = some (.int .i64 e1) ∧ w'.cell? ⟨kt, 4, none⟩ = some (.int .i64 f0) ∧ w'.cell? ⟨kt, 5, none⟩ = some (.int .i64 f1) ∧ w'.cell? ⟨kx, 0, none⟩ = some (.int .i64 x0) ∧ w'.cell? ⟨kx, 1, none⟩ = some (.int .i64 x1) ∧ w'.cell? ⟨ky, 0, none⟩ = some (.int .i64 y0) ∧ w'.cell? ⟨ky, 1, none⟩ = some (.int .i64 y1) ∧ w'.cell? ⟨kz, 0, none⟩ = some (.int .i64 z0) ∧ w'.cell? ⟨kz, 1, none⟩ = some (.int .i64 z1) ∧ Below W.heap.size W w' → Q .normal ⟨(((((((((((((((((((((((a.tmps.setIfInBounds 41 (.agg #[.int .i64 d0, .int .i64 d1, .int .i64 e0, .int .i64 e1, .int .i64 f0, .int .i64 f1])).setIfInBounds 42 (.agg #[.int .i64 x0, .int .i64 x1])).setIfInBounds 43 (.agg #[.int .i64 y0, .int .i64 y1])).setIfInBounds 44 (.bool true)).setIfInBounds 45 (.bool false)).setIfInBounds 46 (.bool false)).setIfInBounds 47 (.agg #[.int .i64 d0, .int .i64 d1, .int .i64 e0, .int .i64 e1, .int .i64 f0, .int .i64 f1])).setIfInBounds 48 (.agg #[.int .i64 y0, .int .i64 y1])).setIfInBounds 49 (.agg #[.int .i64 x0, .int .i64 x1])).setIfInBounds 50 (.bool true)).setIfInBounds 51 (.bool false)).setIfInBounds 52 (.bool false)).setIfInBounds 53 (.bool false)).setIfInBounds 54 (.agg #[.int .i64 d0, .int .i64 d1, .int .i64 e0, .int .i64 e1, .int .i64 f0, .int .i64 f1])).setIfInBounds 55 (.agg #[.int .i64 g0, .int .i64 g1])).setIfInBounds 56 (.agg #[.int .i64 k0, .int .i64 k1])).setIfInBounds 57 (.bool (along ⟨⟨d0, d1⟩, ⟨e0, e1⟩, ⟨f0, f1⟩⟩ ⟨g0, g1⟩ ⟨k0, k1⟩))).setIfInBounds 58 (.agg #[.int .i64 d0, .int .i64 d1, .int .i64 e0, .int .i64 e1, .int .i64 f0, .int .i64 f1])).setIfInBounds 59 (.agg #[.int .i64 k0, .int .i64 k1])).setIfInBounds 60 (.agg #[.int .i64 g0, .int .i64 g1])).setIfInBounds 61 (.bool (along ⟨⟨d0, d1⟩, ⟨e0, e1⟩, ⟨f0, f1⟩⟩ ⟨g0, g1⟩ ⟨k0, k1⟩))).setIfInBounds 62 (.bool false)).setIfInBounds 63 (.bool false)), a.defers⟩ w') :
    (Code.region id ops true).wp Try.prog Q a w := by
  have ht : tidy (regOps Try.f10 6) a.tmps.size = true := by rw [hsz]; kernel_rfl
  refine region_tab (G := Unit) (fun _ => (region10aV g0 g1 k0 k1 d0 d1 e0 e1 f0 f1 x0 x1 y0 y1 )) (fun _ _ w' => w'.cell? ⟨kp, 0, none⟩ = some (.int .i64 g0) ∧ w'.cell? ⟨kp, 1, none⟩ = some (.int .i64 g1) ∧ w'.cell? ⟨kq, 0, none⟩ = some (.int .i64 k0) ∧ w'.cell? ⟨kq, 1, none⟩ = some (.int .i64 k1) ∧ w'.cell? ⟨kt, 0, none⟩ = some (.int .i64 d0) ∧ w'.cell? ⟨kt, 1, none⟩ = some (.int .i64 d1) ∧ w'.cell? ⟨kt, 2, none⟩ = some (.int .i64 e0) ∧ w'.cell? ⟨kt, 3, none⟩ = some (.int .i64 e1) ∧ w'.cell? ⟨kt, 4, none⟩ = some (.int .i64 f0) ∧ w'.cell? ⟨kt, 5, none⟩ = some (.int .i64 f1) ∧ w'.cell? ⟨kx, 0, none⟩ = some (.int .i64 x0) ∧ w'.cell? ⟨kx, 1, none⟩ = some (.int .i64 x1) ∧ w'.cell? ⟨ky, 0, none⟩ = some (.int .i64 y0) ∧ w'.cell? ⟨ky, 1, none⟩ = some (.int .i64 y1) ∧ w'.cell? ⟨kz, 0, none⟩ = some (.int .i64 z0) ∧ w'.cell? ⟨kz, 1, none⟩ = some (.int .i64 z1) ∧ Below W.heap.size W w') () (by kernel_rfl) ho ht h0 ?_ ?_
  · intro i o hoi g L b w' hun hpre hT hS
    clear he h0 ho hsz ht
    have hi : i < (regOps Try.f10 6).size := (Array.getElem?_eq_some_iff.1 hoi).1
    rw [show (regOps Try.f10 6).size = 23 by kernel_rfl] at hi
    obtain ⟨pc0, pc1, qc0, qc1, tc0, tc1, tc2, tc3, tc4, tc5, xc0, xc1, yc0, yc1, zc0, zc1, HB⟩ := hS
    have hcases : i = 0 ∨ i = 1 ∨ i = 2 ∨ i = 3 ∨ i = 4 ∨ i = 5 ∨ i = 6 ∨ i = 7 ∨ i = 8 ∨ i = 9 ∨ i = 10 ∨ i = 11 ∨ i = 12 ∨ i = 13 ∨ i = 14 ∨ i = 15 ∨ i = 16 ∨ i = 17 ∨ i = 18 ∨ i = 19 ∨ i = 20 ∨ i = 21 ∨ i = 22 := by omega
    rcases hcases with rfl | rfl | rfl | rfl | rfl | rfl | rfl | rfl | rfl | rfl | rfl | rfl | rfl | rfl | rfl | rfl | rfl | rfl | rfl | rfl | rfl | rfl | rfl
    · have hlit : (regOps Try.f10 6)[0]? = some ({ dst := some 41, op := Op.load 25 (Operand.tmp 13), type := 25, pos := "law.go:50", after := #[], guard := none }) := by kernel_rfl
      obtain rfl := Option.some.inj (hlit.symm.trans hoi)
      have r13 : b.tmps.getD 13 undef = (.pointer (some ⟨kt, 0, none⟩)) := rd ((hT.old 13 (by kernel_rfl)).trans t13)
      refine op_go hoi (want_all rfl) fun K hK => ?_
      clear hT hpre hun hlit hoi
      go_simp
      exact hK _ _ ⟨(), fun _ _ => rfl, rfl, pc0, pc1, qc0, qc1, tc0, tc1, tc2, tc3, tc4, tc5, xc0, xc1, yc0, yc1, zc0, zc1, HB⟩
    · have hlit : (regOps Try.f10 6)[1]? = some ({ dst := some 42, op := Op.load 23 (Operand.tmp 15), type := 23, pos := "law.go:50", after := #[], guard := none }) := by kernel_rfl
      obtain rfl := Option.some.inj (hlit.symm.trans hoi)
      have r15 : b.tmps.getD 15 undef = (.pointer (some ⟨kx, 0, none⟩)) := rd ((hT.old 15 (by kernel_rfl)).trans t15)
      refine op_go hoi (want_all rfl) fun K hK => ?_
      clear hT hpre hun hlit hoi
      go_simp
      exact hK _ _ ⟨(), fun _ _ => rfl, rfl, pc0, pc1, qc0, qc1, tc0, tc1, tc2, tc3, tc4, tc5, xc0, xc1, yc0, yc1, zc0, zc1, HB⟩
    · have hlit : (regOps Try.f10 6)[2]? = some ({ dst := some 43, op := Op.load 23 (Operand.tmp 16), type := 23, pos := "law.go:50", after := #[], guard := none }) := by kernel_rfl
      obtain rfl := Option.some.inj (hlit.symm.trans hoi)
      have r16 : b.tmps.getD 16 undef = (.pointer (some ⟨ky, 0, none⟩)) := rd ((hT.old 16 (by kernel_rfl)).trans t16)
      refine op_go hoi (want_all rfl) fun K hK => ?_
      clear hT hpre hun hlit hoi
      go_simp
      exact hK _ _ ⟨(), fun _ _ => rfl, rfl, pc0, pc1, qc0, qc1, tc0, tc1, tc2, tc3, tc4, tc5, xc0, xc1, yc0, yc1, zc0, zc1, HB⟩
    · have hlit : (regOps Try.f10 6)[3]? = some ({ dst := some 44, op := Op.call { callee := Callee.value (Operand.func 45), args := #[Operand.tmp 41, Operand.tmp 42, Operand.tmp 43], argTypes := #[25, 23, 23] }, type := 4, pos := "law.go:50", after := #[{ on := 0, ground := Ground.data }, { on := 1, ground := Ground.data }, { on := 2, ground := Ground.data }], guard := none }) := by kernel_rfl
      obtain rfl := Option.some.inj (hlit.symm.trans hoi)
      have r41 : b.tmps.getD 41 undef = (.agg #[.int .i64 d0, .int .i64 d1, .int .i64 e0, .int .i64 e1, .int .i64 f0, .int .i64 f1]) := rd (hT.at 0 (by kernel_rfl) (pre_of hpre 0 (by kernel_rfl)))
      have r42 : b.tmps.getD 42 undef = (.agg #[.int .i64 x0, .int .i64 x1]) := rd (hT.at 1 (by kernel_rfl) (pre_of hpre 1 (by kernel_rfl)))
      have r43 : b.tmps.getD 43 undef = (.agg #[.int .i64 y0, .int .i64 y1]) := rd (hT.at 2 (by kernel_rfl) (pre_of hpre 2 (by kernel_rfl)))
      refine op_go hoi (want_all rfl) fun K hK => ?_
      clear hT hpre hun hlit hoi
      go_simp
      go_at_call 45
      refine (along45 _ _ _ _ _ _ _ _ _ _ _).mono ?_; rw [m1]; rintro e w2 ⟨rfl, hb⟩; replace pc0 := ck hb (a := ⟨kp, 0, none⟩) (v := .int .i64 g0) (by go_simp); replace pc1 := ck hb (a := ⟨kp, 1, none⟩) (v := .int .i64 g1) (by go_simp); replace qc0 := ck hb (a := ⟨kq, 0, none⟩) (v := .int .i64 k0) (by go_simp); replace qc1 := ck hb (a := ⟨kq, 1, none⟩) (v := .int .i64 k1) (by go_simp); replace tc0 := ck hb (a := ⟨kt, 0, none⟩) (v := .int .i64 d0) (by go_simp); replace tc1 := ck hb (a := ⟨kt, 1, none⟩) (v := .int .i64 d1) (by go_simp); replace tc2 := ck hb (a := ⟨kt, 2, none⟩) (v := .int .i64 e0) (by go_simp); replace tc3 := ck hb (a := ⟨kt, 3, none⟩) (v := .int .i64 e1) (by go_simp); replace tc4 := ck hb (a := ⟨kt, 4, none⟩) (v := .int .i64 f0) (by go_simp); replace tc5 := ck hb (a := ⟨kt, 5, none⟩) (v := .int .i64 f1) (by go_simp); replace xc0 := ck hb (a := ⟨kx, 0, none⟩) (v := .int .i64 x0) (by go_simp); replace xc1 := ck hb (a := ⟨kx, 1, none⟩) (v := .int .i64 x1) (by go_simp); replace yc0 := ck hb (a := ⟨ky, 0, none⟩) (v := .int .i64 y0) (by go_simp); replace yc1 := ck hb (a := ⟨ky, 1, none⟩) (v := .int .i64 y1) (by go_simp); replace zc0 := ck hb (a := ⟨kz, 0, none⟩) (v := .int .i64 z0) (by go_simp); replace zc1 := ck hb (a := ⟨kz, 1, none⟩) (v := .int .i64 z1) (by go_simp); replace HB : Below W.heap.size W w2 := bt HB hb; clear hb
      exact hK _ _ ⟨(), fun _ _ => rfl, rfl, pc0, pc1, qc0, qc1, tc0, tc1, tc2, tc3, tc4, tc5, xc0, xc1, yc0, yc1, zc0, zc1, HB⟩
    · have hlit : (regOps Try.f10 6)[4]? = some ({ dst := some 45, op := Op.unOp UnOp.not 4 (Operand.tmp 44), type := 4, pos := "law.go:50", after := #[{ on := 3, ground := Ground.data }], guard := none }) := by kernel_rfl
      obtain rfl := Option.some.inj (hlit.symm.trans hoi)
      have r44 : b.tmps.getD 44 undef = (.bool true) := rd (hT.at 3 (by kernel_rfl) (pre_of hpre 3 (by kernel_rfl)))
      refine op_go hoi (want_all rfl) fun K hK => ?_
      clear hT hpre hun hlit hoi
      go_simp
      exact hK _ _ ⟨(), fun _ _ => rfl, rfl, pc0, pc1, qc0, qc1, tc0, tc1, tc2, tc3, tc4, tc5, xc0, xc1, yc0, yc1, zc0, zc1, HB⟩
    · have hlit : (regOps Try.f10 6)[5]? = some ({ dst := some 46, op := Op.move (Operand.tmp 45), type := 4, pos := "law.go:50", after := #[{ on := 4, ground := Ground.data }, { on := 3, ground := Ground.chain }], guard := none }) := by kernel_rfl
      obtain rfl := Option.some.inj (hlit.symm.trans hoi)
      have r45 : b.tmps.getD 45 undef = (.bool false) := rd (hT.at 4 (by kernel_rfl) (pre_of hpre 4 (by kernel_rfl)))
      refine op_go hoi (want_all rfl) fun K hK => ?_
      clear hT hpre hun hlit hoi
      go_simp
      exact hK _ _ ⟨(), fun _ _ => rfl, rfl, pc0, pc1, qc0, qc1, tc0, tc1, tc2, tc3, tc4, tc5, xc0, xc1, yc0, yc1, zc0, zc1, HB⟩
    · have hlit : (regOps Try.f10 6)[6]? = some ({ dst := some 47, op := Op.load 25 (Operand.tmp 13), type := 25, pos := "law.go:50", after := #[{ on := 5, ground := Ground.guard }], guard := some (5, false) }) := by kernel_rfl
      obtain rfl := Option.some.inj (hlit.symm.trans hoi)
      have r13 : b.tmps.getD 13 undef = (.pointer (some ⟨kt, 0, none⟩)) := rd ((hT.old 13 (by kernel_rfl)).trans t13)
      refine op_go hoi (want_yes rfl (d := 46) (by kernel_rfl) (hT.at 5 (by kernel_rfl) (pre_of hpre 5 (by kernel_rfl)))) fun K hK => ?_
      clear hT hpre hun hlit hoi
      go_simp
      exact hK _ _ ⟨(), fun _ _ => rfl, rfl, pc0, pc1, qc0, qc1, tc0, tc1, tc2, tc3, tc4, tc5, xc0, xc1, yc0, yc1, zc0, zc1, HB⟩
    · have hlit : (regOps Try.f10 6)[7]? = some ({ dst := some 48, op := Op.load 23 (Operand.tmp 16), type := 23, pos := "law.go:50", after := #[{ on := 5, ground := Ground.guard }], guard := some (5, false) }) := by kernel_rfl
      obtain rfl := Option.some.inj (hlit.symm.trans hoi)
      have r16 : b.tmps.getD 16 undef = (.pointer (some ⟨ky, 0, none⟩)) := rd ((hT.old 16 (by kernel_rfl)).trans t16)
      refine op_go hoi (want_yes rfl (d := 46) (by kernel_rfl) (hT.at 5 (by kernel_rfl) (pre_of hpre 5 (by kernel_rfl)))) fun K hK => ?_
      clear hT hpre hun hlit hoi
      go_simp
      exact hK _ _ ⟨(), fun _ _ => rfl, rfl, pc0, pc1, qc0, qc1, tc0, tc1, tc2, tc3, tc4, tc5, xc0, xc1, yc0, yc1, zc0, zc1, HB⟩
    · have hlit : (regOps Try.f10 6)[8]? = some ({ dst := some 49, op := Op.load 23 (Operand.tmp 15), type := 23, pos := "law.go:50", after := #[{ on := 5, ground := Ground.guard }], guard := some (5, false) }) := by kernel_rfl
      obtain rfl := Option.some.inj (hlit.symm.trans hoi)
      have r15 : b.tmps.getD 15 undef = (.pointer (some ⟨kx, 0, none⟩)) := rd ((hT.old 15 (by kernel_rfl)).trans t15)
      refine op_go hoi (want_yes rfl (d := 46) (by kernel_rfl) (hT.at 5 (by kernel_rfl) (pre_of hpre 5 (by kernel_rfl)))) fun K hK => ?_
      clear hT hpre hun hlit hoi
      go_simp
      exact hK _ _ ⟨(), fun _ _ => rfl, rfl, pc0, pc1, qc0, qc1, tc0, tc1, tc2, tc3, tc4, tc5, xc0, xc1, yc0, yc1, zc0, zc1, HB⟩
    · have hlit : (regOps Try.f10 6)[9]? = some ({ dst := some 50, op := Op.call { callee := Callee.value (Operand.func 45), args := #[Operand.tmp 47, Operand.tmp 48, Operand.tmp 49], argTypes := #[25, 23, 23] }, type := 4, pos := "law.go:50", after := #[{ on := 6, ground := Ground.data }, { on := 7, ground := Ground.data }, { on := 8, ground := Ground.data }, { on := 5, ground := Ground.chain }, { on := 5, ground := Ground.guard }], guard := some (5, false) }) := by kernel_rfl
      obtain rfl := Option.some.inj (hlit.symm.trans hoi)
      have r47 : b.tmps.getD 47 undef = (.agg #[.int .i64 d0, .int .i64 d1, .int .i64 e0, .int .i64 e1, .int .i64 f0, .int .i64 f1]) := rd (hT.at 6 (by kernel_rfl) (pre_of hpre 6 (by kernel_rfl)))
      have r48 : b.tmps.getD 48 undef = (.agg #[.int .i64 y0, .int .i64 y1]) := rd (hT.at 7 (by kernel_rfl) (pre_of hpre 7 (by kernel_rfl)))
      have r49 : b.tmps.getD 49 undef = (.agg #[.int .i64 x0, .int .i64 x1]) := rd (hT.at 8 (by kernel_rfl) (pre_of hpre 8 (by kernel_rfl)))
      refine op_go hoi (want_yes rfl (d := 46) (by kernel_rfl) (hT.at 5 (by kernel_rfl) (pre_of hpre 5 (by kernel_rfl)))) fun K hK => ?_
      clear hT hpre hun hlit hoi
      go_simp
      go_at_call 45
      refine (along45 _ _ _ _ _ _ _ _ _ _ _).mono ?_; rw [m2]; rintro e w2 ⟨rfl, hb⟩; replace pc0 := ck hb (a := ⟨kp, 0, none⟩) (v := .int .i64 g0) (by go_simp); replace pc1 := ck hb (a := ⟨kp, 1, none⟩) (v := .int .i64 g1) (by go_simp); replace qc0 := ck hb (a := ⟨kq, 0, none⟩) (v := .int .i64 k0) (by go_simp); replace qc1 := ck hb (a := ⟨kq, 1, none⟩) (v := .int .i64 k1) (by go_simp); replace tc0 := ck hb (a := ⟨kt, 0, none⟩) (v := .int .i64 d0) (by go_simp); replace tc1 := ck hb (a := ⟨kt, 1, none⟩) (v := .int .i64 d1) (by go_simp); replace tc2 := ck hb (a := ⟨kt, 2, none⟩) (v := .int .i64 e0) (by go_simp); replace tc3 := ck hb (a := ⟨kt, 3, none⟩) (v := .int .i64 e1) (by go_simp); replace tc4 := ck hb (a := ⟨kt, 4, none⟩) (v := .int .i64 f0) (by go_simp); replace tc5 := ck hb (a := ⟨kt, 5, none⟩) (v := .int .i64 f1) (by go_simp); replace xc0 := ck hb (a := ⟨kx, 0, none⟩) (v := .int .i64 x0) (by go_simp); replace xc1 := ck hb (a := ⟨kx, 1, none⟩) (v := .int .i64 x1) (by go_simp); replace yc0 := ck hb (a := ⟨ky, 0, none⟩) (v := .int .i64 y0) (by go_simp); replace yc1 := ck hb (a := ⟨ky, 1, none⟩) (v := .int .i64 y1) (by go_simp); replace zc0 := ck hb (a := ⟨kz, 0, none⟩) (v := .int .i64 z0) (by go_simp); replace zc1 := ck hb (a := ⟨kz, 1, none⟩) (v := .int .i64 z1) (by go_simp); replace HB : Below W.heap.size W w2 := bt HB hb; clear hb
      exact hK _ _ ⟨(), fun _ _ => rfl, rfl, pc0, pc1, qc0, qc1, tc0, tc1, tc2, tc3, tc4, tc5, xc0, xc1, yc0, yc1, zc0, zc1, HB⟩
    · have hlit : (regOps Try.f10 6)[10]? = some ({ dst := some 51, op := Op.unOp UnOp.not 4 (Operand.tmp 50), type := 4, pos := "law.go:50", after := #[{ on := 9, ground := Ground.data }, { on := 5, ground := Ground.guard }], guard := some (5, false) }) := by kernel_rfl
      obtain rfl := Option.some.inj (hlit.symm.trans hoi)
      have r50 : b.tmps.getD 50 undef = (.bool true) := rd (hT.at 9 (by kernel_rfl) (pre_of hpre 9 (by kernel_rfl)))
      refine op_go hoi (want_yes rfl (d := 46) (by kernel_rfl) (hT.at 5 (by kernel_rfl) (pre_of hpre 5 (by kernel_rfl)))) fun K hK => ?_
      clear hT hpre hun hlit hoi
      go_simp
      exact hK _ _ ⟨(), fun _ _ => rfl, rfl, pc0, pc1, qc0, qc1, tc0, tc1, tc2, tc3, tc4, tc5, xc0, xc1, yc0, yc1, zc0, zc1, HB⟩
    · have hlit : (regOps Try.f10 6)[11]? = some ({ dst := some 52, op := Op.pick (Operand.tmp 46) (Operand.const (Value.bool true)) (Operand.tmp 51), type := 4, pos := "law.go:50", after := #[{ on := 5, ground := Ground.data }, { on := 10, ground := Ground.data }], guard := none }) := by kernel_rfl
      obtain rfl := Option.some.inj (hlit.symm.trans hoi)
      have r46 : b.tmps.getD 46 undef = (.bool false) := rd (hT.at 5 (by kernel_rfl) (pre_of hpre 5 (by kernel_rfl)))
      have r51 : b.tmps.getD 51 undef = (.bool false) := rd (hT.at 10 (by kernel_rfl) (pre_of hpre 10 (by kernel_rfl)))
      refine op_go hoi (want_all rfl) fun K hK => ?_
      clear hT hpre hun hlit hoi
      go_simp
      exact hK _ _ ⟨(), fun _ _ => rfl, rfl, pc0, pc1, qc0, qc1, tc0, tc1, tc2, tc3, tc4, tc5, xc0, xc1, yc0, yc1, zc0, zc1, HB⟩
    · have hlit : (regOps Try.f10 6)[12]? = some ({ dst := some 53, op := Op.move (Operand.tmp 52), type := 4, pos := "law.go:50", after := #[{ on := 11, ground := Ground.data }, { on := 9, ground := Ground.chain }], guard := none }) := by kernel_rfl
      obtain rfl := Option.some.inj (hlit.symm.trans hoi)
      have r52 : b.tmps.getD 52 undef = (.bool false) := rd (hT.at 11 (by kernel_rfl) (pre_of hpre 11 (by kernel_rfl)))
      refine op_go hoi (want_all rfl) fun K hK => ?_
      clear hT hpre hun hlit hoi
      go_simp
      exact hK _ _ ⟨(), fun _ _ => rfl, rfl, pc0, pc1, qc0, qc1, tc0, tc1, tc2, tc3, tc4, tc5, xc0, xc1, yc0, yc1, zc0, zc1, HB⟩
    · have hlit : (regOps Try.f10 6)[13]? = some ({ dst := some 54, op := Op.load 25 (Operand.tmp 13), type := 25, pos := "law.go:50", after := #[{ on := 12, ground := Ground.guard }], guard := some (12, false) }) := by kernel_rfl
      obtain rfl := Option.some.inj (hlit.symm.trans hoi)
      have r13 : b.tmps.getD 13 undef = (.pointer (some ⟨kt, 0, none⟩)) := rd ((hT.old 13 (by kernel_rfl)).trans t13)
      refine op_go hoi (want_yes rfl (d := 53) (by kernel_rfl) (hT.at 12 (by kernel_rfl) (pre_of hpre 12 (by kernel_rfl)))) fun K hK => ?_
      clear hT hpre hun hlit hoi
      go_simp
      exact hK _ _ ⟨(), fun _ _ => rfl, rfl, pc0, pc1, qc0, qc1, tc0, tc1, tc2, tc3, tc4, tc5, xc0, xc1, yc0, yc1, zc0, zc1, HB⟩
    · have hlit : (regOps Try.f10 6)[14]? = some ({ dst := some 55, op := Op.load 23 (Operand.tmp 9), type := 23, pos := "law.go:50", after := #[{ on := 12, ground := Ground.guard }], guard := some (12, false) }) := by kernel_rfl
      obtain rfl := Option.some.inj (hlit.symm.trans hoi)
      have r9 : b.tmps.getD 9 undef = (.pointer (some ⟨kp, 0, none⟩)) := rd ((hT.old 9 (by kernel_rfl)).trans t9)
      refine op_go hoi (want_yes rfl (d := 53) (by kernel_rfl) (hT.at 12 (by kernel_rfl) (pre_of hpre 12 (by kernel_rfl)))) fun K hK => ?_
      clear hT hpre hun hlit hoi
      go_simp
      exact hK _ _ ⟨(), fun _ _ => rfl, rfl, pc0, pc1, qc0, qc1, tc0, tc1, tc2, tc3, tc4, tc5, xc0, xc1, yc0, yc1, zc0, zc1, HB⟩
    · have hlit : (regOps Try.f10 6)[15]? = some ({ dst := some 56, op := Op.load 23 (Operand.tmp 10), type := 23, pos := "law.go:50", after := #[{ on := 12, ground := Ground.guard }], guard := some (12, false) }) := by kernel_rfl
      obtain rfl := Option.some.inj (hlit.symm.trans hoi)
      have r10 : b.tmps.getD 10 undef = (.pointer (some ⟨kq, 0, none⟩)) := rd ((hT.old 10 (by kernel_rfl)).trans t10)
      refine op_go hoi (want_yes rfl (d := 53) (by kernel_rfl) (hT.at 12 (by kernel_rfl) (pre_of hpre 12 (by kernel_rfl)))) fun K hK => ?_
      clear hT hpre hun hlit hoi
      go_simp
      exact hK _ _ ⟨(), fun _ _ => rfl, rfl, pc0, pc1, qc0, qc1, tc0, tc1, tc2, tc3, tc4, tc5, xc0, xc1, yc0, yc1, zc0, zc1, HB⟩
    · have hlit : (regOps Try.f10 6)[16]? = some ({ dst := some 57, op := Op.call { callee := Callee.value (Operand.func 45), args := #[Operand.tmp 54, Operand.tmp 55, Operand.tmp 56], argTypes := #[25, 23, 23] }, type := 4, pos := "law.go:50", after := #[{ on := 13, ground := Ground.data }, { on := 14, ground := Ground.data }, { on := 15, ground := Ground.data }, { on := 12, ground := Ground.chain }, { on := 12, ground := Ground.guard }], guard := some (12, false) }) := by kernel_rfl
      obtain rfl := Option.some.inj (hlit.symm.trans hoi)
      have r54 : b.tmps.getD 54 undef = (.agg #[.int .i64 d0, .int .i64 d1, .int .i64 e0, .int .i64 e1, .int .i64 f0, .int .i64 f1]) := rd (hT.at 13 (by kernel_rfl) (pre_of hpre 13 (by kernel_rfl)))
      have r55 : b.tmps.getD 55 undef = (.agg #[.int .i64 g0, .int .i64 g1]) := rd (hT.at 14 (by kernel_rfl) (pre_of hpre 14 (by kernel_rfl)))
      have r56 : b.tmps.getD 56 undef = (.agg #[.int .i64 k0, .int .i64 k1]) := rd (hT.at 15 (by kernel_rfl) (pre_of hpre 15 (by kernel_rfl)))
      refine op_go hoi (want_yes rfl (d := 53) (by kernel_rfl) (hT.at 12 (by kernel_rfl) (pre_of hpre 12 (by kernel_rfl)))) fun K hK => ?_
      clear hT hpre hun hlit hoi
      go_simp
      go_at_call 45
      refine (along45 _ _ _ _ _ _ _ _ _ _ _).mono ?_; rintro e w2 ⟨rfl, hb⟩; replace pc0 := ck hb (a := ⟨kp, 0, none⟩) (v := .int .i64 g0) (by go_simp); replace pc1 := ck hb (a := ⟨kp, 1, none⟩) (v := .int .i64 g1) (by go_simp); replace qc0 := ck hb (a := ⟨kq, 0, none⟩) (v := .int .i64 k0) (by go_simp); replace qc1 := ck hb (a := ⟨kq, 1, none⟩) (v := .int .i64 k1) (by go_simp); replace tc0 := ck hb (a := ⟨kt, 0, none⟩) (v := .int .i64 d0) (by go_simp); replace tc1 := ck hb (a := ⟨kt, 1, none⟩) (v := .int .i64 d1) (by go_simp); replace tc2 := ck hb (a := ⟨kt, 2, none⟩) (v := .int .i64 e0) (by go_simp); replace tc3 := ck hb (a := ⟨kt, 3, none⟩) (v := .int .i64 e1) (by go_simp); replace tc4 := ck hb (a := ⟨kt, 4, none⟩) (v := .int .i64 f0) (by go_simp); replace tc5 := ck hb (a := ⟨kt, 5, none⟩) (v := .int .i64 f1) (by go_simp); replace xc0 := ck hb (a := ⟨kx, 0, none⟩) (v := .int .i64 x0) (by go_simp); replace xc1 := ck hb (a := ⟨kx, 1, none⟩) (v := .int .i64 x1) (by go_simp); replace yc0 := ck hb (a := ⟨ky, 0, none⟩) (v := .int .i64 y0) (by go_simp); replace yc1 := ck hb (a := ⟨ky, 1, none⟩) (v := .int .i64 y1) (by go_simp); replace zc0 := ck hb (a := ⟨kz, 0, none⟩) (v := .int .i64 z0) (by go_simp); replace zc1 := ck hb (a := ⟨kz, 1, none⟩) (v := .int .i64 z1) (by go_simp); replace HB : Below W.heap.size W w2 := bt HB hb; clear hb
      exact hK _ _ ⟨(), fun _ _ => rfl, rfl, pc0, pc1, qc0, qc1, tc0, tc1, tc2, tc3, tc4, tc5, xc0, xc1, yc0, yc1, zc0, zc1, HB⟩
    · have hlit : (regOps Try.f10 6)[17]? = some ({ dst := some 58, op := Op.load 25 (Operand.tmp 13), type := 25, pos := "law.go:50", after := #[{ on := 12, ground := Ground.guard }], guard := some (12, false) }) := by kernel_rfl
      obtain rfl := Option.some.inj (hlit.symm.trans hoi)
      have r13 : b.tmps.getD 13 undef = (.pointer (some ⟨kt, 0, none⟩)) := rd ((hT.old 13 (by kernel_rfl)).trans t13)
      refine op_go hoi (want_yes rfl (d := 53) (by kernel_rfl) (hT.at 12 (by kernel_rfl) (pre_of hpre 12 (by kernel_rfl)))) fun K hK => ?_
      clear hT hpre hun hlit hoi
      go_simp
      exact hK _ _ ⟨(), fun _ _ => rfl, rfl, pc0, pc1, qc0, qc1, tc0, tc1, tc2, tc3, tc4, tc5, xc0, xc1, yc0, yc1, zc0, zc1, HB⟩
    · have hlit : (regOps Try.f10 6)[18]? = some ({ dst := some 59, op := Op.load 23 (Operand.tmp 10), type := 23, pos := "law.go:50", after := #[{ on := 12, ground := Ground.guard }], guard := some (12, false) }) := by kernel_rfl
      obtain rfl := Option.some.inj (hlit.symm.trans hoi)
      have r10 : b.tmps.getD 10 undef = (.pointer (some ⟨kq, 0, none⟩)) := rd ((hT.old 10 (by kernel_rfl)).trans t10)
      refine op_go hoi (want_yes rfl (d := 53) (by kernel_rfl) (hT.at 12 (by kernel_rfl) (pre_of hpre 12 (by kernel_rfl)))) fun K hK => ?_
      clear hT hpre hun hlit hoi
      go_simp
      exact hK _ _ ⟨(), fun _ _ => rfl, rfl, pc0, pc1, qc0, qc1, tc0, tc1, tc2, tc3, tc4, tc5, xc0, xc1, yc0, yc1, zc0, zc1, HB⟩
    · have hlit : (regOps Try.f10 6)[19]? = some ({ dst := some 60, op := Op.load 23 (Operand.tmp 9), type := 23, pos := "law.go:50", after := #[{ on := 12, ground := Ground.guard }], guard := some (12, false) }) := by kernel_rfl
      obtain rfl := Option.some.inj (hlit.symm.trans hoi)
      have r9 : b.tmps.getD 9 undef = (.pointer (some ⟨kp, 0, none⟩)) := rd ((hT.old 9 (by kernel_rfl)).trans t9)
      refine op_go hoi (want_yes rfl (d := 53) (by kernel_rfl) (hT.at 12 (by kernel_rfl) (pre_of hpre 12 (by kernel_rfl)))) fun K hK => ?_
      clear hT hpre hun hlit hoi
      go_simp
      exact hK _ _ ⟨(), fun _ _ => rfl, rfl, pc0, pc1, qc0, qc1, tc0, tc1, tc2, tc3, tc4, tc5, xc0, xc1, yc0, yc1, zc0, zc1, HB⟩
    · have hlit : (regOps Try.f10 6)[20]? = some ({ dst := some 61, op := Op.call { callee := Callee.value (Operand.func 45), args := #[Operand.tmp 58, Operand.tmp 59, Operand.tmp 60], argTypes := #[25, 23, 23] }, type := 4, pos := "law.go:50", after := #[{ on := 17, ground := Ground.data }, { on := 18, ground := Ground.data }, { on := 19, ground := Ground.data }, { on := 16, ground := Ground.chain }, { on := 12, ground := Ground.guard }], guard := some (12, false) }) := by kernel_rfl
      obtain rfl := Option.some.inj (hlit.symm.trans hoi)
      have r58 : b.tmps.getD 58 undef = (.agg #[.int .i64 d0, .int .i64 d1, .int .i64 e0, .int .i64 e1, .int .i64 f0, .int .i64 f1]) := rd (hT.at 17 (by kernel_rfl) (pre_of hpre 17 (by kernel_rfl)))
      have r59 : b.tmps.getD 59 undef = (.agg #[.int .i64 k0, .int .i64 k1]) := rd (hT.at 18 (by kernel_rfl) (pre_of hpre 18 (by kernel_rfl)))
      have r60 : b.tmps.getD 60 undef = (.agg #[.int .i64 g0, .int .i64 g1]) := rd (hT.at 19 (by kernel_rfl) (pre_of hpre 19 (by kernel_rfl)))
      refine op_go hoi (want_yes rfl (d := 53) (by kernel_rfl) (hT.at 12 (by kernel_rfl) (pre_of hpre 12 (by kernel_rfl)))) fun K hK => ?_
      clear hT hpre hun hlit hoi
      go_simp
      go_at_call 45
      refine (along45 _ _ _ _ _ _ _ _ _ _ _).mono ?_; rw [m3]; rintro e w2 ⟨rfl, hb⟩; replace pc0 := ck hb (a := ⟨kp, 0, none⟩) (v := .int .i64 g0) (by go_simp); replace pc1 := ck hb (a := ⟨kp, 1, none⟩) (v := .int .i64 g1) (by go_simp); replace qc0 := ck hb (a := ⟨kq, 0, none⟩) (v := .int .i64 k0) (by go_simp); replace qc1 := ck hb (a := ⟨kq, 1, none⟩) (v := .int .i64 k1) (by go_simp); replace tc0 := ck hb (a := ⟨kt, 0, none⟩) (v := .int .i64 d0) (by go_simp); replace tc1 := ck hb (a := ⟨kt, 1, none⟩) (v := .int .i64 d1) (by go_simp); replace tc2 := ck hb (a := ⟨kt, 2, none⟩) (v := .int .i64 e0) (by go_simp); replace tc3 := ck hb (a := ⟨kt, 3, none⟩) (v := .int .i64 e1) (by go_simp); replace tc4 := ck hb (a := ⟨kt, 4, none⟩) (v := .int .i64 f0) (by go_simp); replace tc5 := ck hb (a := ⟨kt, 5, none⟩) (v := .int .i64 f1) (by go_simp); replace xc0 := ck hb (a := ⟨kx, 0, none⟩) (v := .int .i64 x0) (by go_simp); replace xc1 := ck hb (a := ⟨kx, 1, none⟩) (v := .int .i64 x1) (by go_simp); replace yc0 := ck hb (a := ⟨ky, 0, none⟩) (v := .int .i64 y0) (by go_simp); replace yc1 := ck hb (a := ⟨ky, 1, none⟩) (v := .int .i64 y1) (by go_simp); replace zc0 := ck hb (a := ⟨kz, 0, none⟩) (v := .int .i64 z0) (by go_simp); replace zc1 := ck hb (a := ⟨kz, 1, none⟩) (v := .int .i64 z1) (by go_simp); replace HB : Below W.heap.size W w2 := bt HB hb; clear hb
      exact hK _ _ ⟨(), fun _ _ => rfl, rfl, pc0, pc1, qc0, qc1, tc0, tc1, tc2, tc3, tc4, tc5, xc0, xc1, yc0, yc1, zc0, zc1, HB⟩
    · have hlit : (regOps Try.f10 6)[21]? = some ({ dst := some 62, op := Op.binOp BinOp.neq 4 (Operand.tmp 57) (Operand.tmp 61) 4, type := 4, pos := "law.go:50", after := #[{ on := 16, ground := Ground.data }, { on := 20, ground := Ground.data }, { on := 12, ground := Ground.guard }], guard := some (12, false) }) := by kernel_rfl
      obtain rfl := Option.some.inj (hlit.symm.trans hoi)
      have r57 : b.tmps.getD 57 undef = (.bool (along ⟨⟨d0, d1⟩, ⟨e0, e1⟩, ⟨f0, f1⟩⟩ ⟨g0, g1⟩ ⟨k0, k1⟩)) := rd (hT.at 16 (by kernel_rfl) (pre_of hpre 16 (by kernel_rfl)))
      have r61 : b.tmps.getD 61 undef = (.bool (along ⟨⟨d0, d1⟩, ⟨e0, e1⟩, ⟨f0, f1⟩⟩ ⟨g0, g1⟩ ⟨k0, k1⟩)) := rd (hT.at 20 (by kernel_rfl) (pre_of hpre 20 (by kernel_rfl)))
      refine op_go hoi (want_yes rfl (d := 53) (by kernel_rfl) (hT.at 12 (by kernel_rfl) (pre_of hpre 12 (by kernel_rfl)))) fun K hK => ?_
      clear hT hpre hun hlit hoi
      go_simp
      exact hK _ _ ⟨(), fun _ _ => rfl, rfl, pc0, pc1, qc0, qc1, tc0, tc1, tc2, tc3, tc4, tc5, xc0, xc1, yc0, yc1, zc0, zc1, HB⟩
    · have hlit : (regOps Try.f10 6)[22]? = some ({ dst := some 63, op := Op.pick (Operand.tmp 53) (Operand.const (Value.bool true)) (Operand.tmp 62), type := 4, pos := "law.go:50", after := #[{ on := 12, ground := Ground.data }, { on := 21, ground := Ground.data }], guard := none }) := by kernel_rfl
      obtain rfl := Option.some.inj (hlit.symm.trans hoi)
      have r53 : b.tmps.getD 53 undef = (.bool false) := rd (hT.at 12 (by kernel_rfl) (pre_of hpre 12 (by kernel_rfl)))
      have r62 : b.tmps.getD 62 undef = (.bool false) := rd (hT.at 21 (by kernel_rfl) (pre_of hpre 21 (by kernel_rfl)))
      refine op_go hoi (want_all rfl) fun K hK => ?_
      clear hT hpre hun hlit hoi
      go_simp
      exact hK _ _ ⟨(), fun _ _ => rfl, rfl, pc0, pc1, qc0, qc1, tc0, tc1, tc2, tc3, tc4, tc5, xc0, xc1, yc0, yc1, zc0, zc1, HB⟩
  · intro g b w' hT hS
    rw [hT.all ht]
    have hn : (regOps Try.f10 6).size = 23 := by kernel_rfl
    rw [hn]
    exact he w' hS

end Go.Proofs.Ytandgbpbabmdfaa
