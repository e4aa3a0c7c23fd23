import Derived.Test.YtandgbpbabmdfaaT33
namespace Go.Proofs.Ytandgbpbabmdfaa
open Go.RowKit
attribute [local go_sem high] eq23 eq25 mn_two mx_two mn_three mx_three mx_four

/-- What each operation of the region leaves. -/
def region54_6V (a0 a1 b0 b1 c0 c1 d0 d1 u0 u1 v0 v1 x0 x1 : Int) (ka kb kc kd : Nat) : Nat → Value
  | 0 => .pointer (some ⟨ka, 0, none⟩)
  | 1 => .int .i64 a0
  | 2 => .pointer (some ⟨kd, 0, none⟩)
  | 3 => .int .i64 d0
  | 4 => .int .i64 u0
  | 5 => .pointer (some ⟨ka, 1, none⟩)
  | 6 => .int .i64 a1
  | 7 => .pointer (some ⟨kd, 1, none⟩)
  | 8 => .int .i64 d1
  | 9 => .int .i64 u1
  | 10 => .pointer (some ⟨kb, 0, none⟩)
  | 11 => .int .i64 b0
  | 12 => .pointer (some ⟨kd, 0, none⟩)
  | 13 => .int .i64 d0
  | 14 => .int .i64 v0
  | 15 => .pointer (some ⟨kb, 1, none⟩)
  | 16 => .int .i64 b1
  | 17 => .pointer (some ⟨kd, 1, none⟩)
  | 18 => .int .i64 d1
  | 19 => .int .i64 v1
  | 20 => .pointer (some ⟨kc, 0, none⟩)
  | 21 => .int .i64 c0
  | 22 => .pointer (some ⟨kd, 0, none⟩)
  | 23 => .int .i64 d0
  | 24 => .int .i64 x0
  | 25 => .pointer (some ⟨kc, 1, none⟩)
  | 26 => .int .i64 c1
  | 27 => .pointer (some ⟨kd, 1, none⟩)
  | 28 => .int .i64 d1
  | 29 => .int .i64 x1
  | 30 => .int .i64 u0
  | 31 => .int .i64 u1
  | 32 => .int .i64 v0
  | 33 => .int .i64 v1
  | 34 => .int .i64 x0
  | 35 => .int .i64 x1
  | _ => undef

set_option maxHeartbeats 4000000 in
set_option maxRecDepth 100000 in
theorem region54_6 (a0 a1 b0 b1 c0 c1 d0 d1 u0 u1 v0 v1 x0 x1 : Int) (ka kb kc kd : Nat) (W : World) (eqa0 : IntKind.i64.wrap (a0 - d0) = u0) (eqa1 : IntKind.i64.wrap (a1 - d1) = u1) (eqb0 : IntKind.i64.wrap (b0 - d0) = v0) (eqb1 : IntKind.i64.wrap (b1 - d1) = v1) (eqc0 : IntKind.i64.wrap (c0 - d0) = x0) (eqc1 : IntKind.i64.wrap (c1 - d1) = x1) {id : Nat} {ops : Array Oper} {Q : Exit → Act → World → Prop} {a : Act} {w : World}
    (ho : ops = (regOps Try.f54 6)) (hsz : a.tmps.size = 179) (t4 : a.tmps[4]? = some (.pointer (some ⟨ka, 0, none⟩))) (t5 : a.tmps[5]? = some (.pointer (some ⟨kb, 0, none⟩))) (t6 : a.tmps[6]? = some (.pointer (some ⟨kc, 0, none⟩))) (t7 : a.tmps[7]? = some (.pointer (some ⟨kd, 0, none⟩)))
    (h0 : w.drew.cell? ⟨ka, 0, none⟩ = some (.int .i64 a0) ∧ w.drew.cell? ⟨ka, 1, none⟩ = some (.int .i64 a1) ∧ w.drew.cell? ⟨kb, 0, none⟩ = some (.int .i64 b0) ∧ w.drew.cell? ⟨kb, 1, none⟩ = some (.int .i64 b1) ∧ w.drew.cell? ⟨kc, 0, none⟩ = some (.int .i64 c0) ∧ w.drew.cell? ⟨kc, 1, none⟩ = some (.int .i64 c1) ∧ w.drew.cell? ⟨kd, 0, none⟩ = some (.int .i64 d0) ∧ w.drew.cell? ⟨kd, 1, none⟩ = some (.int .i64 d1) ∧ Below W.heap.size W w.drew)
    (he : ∀ w', w'.cell? ⟨ka, 0, none⟩ = some (.int .i64 a0) ∧ w'.cell? ⟨ka, 1, none⟩ = some (.int .i64 a1) ∧ w'.cell? ⟨kb, 0, none⟩ = some (.int .i64 b0) ∧ w'.cell? ⟨kb, 1, none⟩ = some (.int .i64 b1) ∧ w'.cell? ⟨kc, 0, none⟩ = some (.int .i64 c0) ∧ w'.cell? ⟨kc, 1, none⟩ = some (.int .i64 c1) ∧ w'.cell? ⟨kd, 0, none⟩ = some (.int .i64 d0) ∧ w'.cell? ⟨kd, 1, none⟩ = some (.int .i64 d1) ∧ Below W.heap.size W w' → Q .normal ⟨((((((((((((((((((((((((((((((((((((a.tmps.setIfInBounds 53 (.pointer (some ⟨ka, 0, none⟩))).setIfInBounds 54 (.int .i64 a0)).setIfInBounds 55 (.pointer (some ⟨kd, 0, none⟩))).setIfInBounds 56 (.int .i64 d0)).setIfInBounds 57 (.int .i64 u0)).setIfInBounds 58 (.pointer (some ⟨ka, 1, none⟩))).setIfInBounds 59 (.int .i64 a1)).setIfInBounds 60 (.pointer (some ⟨kd, 1, none⟩))).setIfInBounds 61 (.int .i64 d1)).setIfInBounds 62 (.int .i64 u1)).setIfInBounds 63 (.pointer (some ⟨kb, 0, none⟩))).setIfInBounds 64 (.int .i64 b0)).setIfInBounds 65 (.pointer (some ⟨kd, 0, none⟩))).setIfInBounds 66 (.int .i64 d0)).setIfInBounds 67 (.int .i64 v0)).setIfInBounds 68 (.pointer (some ⟨kb, 1, none⟩))).setIfInBounds 69 (.int .i64 b1)).setIfInBounds 70 (.pointer (some ⟨kd, 1, none⟩))).setIfInBounds 71 (.int .i64 d1)).setIfInBounds 72 (.int .i64 v1)).setIfInBounds 73 (.pointer (some ⟨kc, 0, none⟩))).setIfInBounds 74 (.int .i64 c0)).setIfInBounds 75 (.pointer (some ⟨kd, 0, none⟩))).setIfInBounds 76 (.int .i64 d0)).setIfInBounds 77 (.int .i64 x0)).setIfInBounds 78 (.pointer (some ⟨kc, 1, none⟩))).setIfInBounds 79 (.int .i64 c1)).setIfInBounds 80 (.pointer (some ⟨kd, 1, none⟩))).setIfInBounds 81 (.int .i64 d1)).setIfInBounds 82 (.int .i64 x1)).setIfInBounds 10 (.int .i64 u0)).setIfInBounds 11 (.int .i64 u1)).setIfInBounds 12 (.int .i64 v0)).setIfInBounds 13 (.int .i64 v1)).setIfInBounds 14 (.int .i64 x0)).setIfInBounds 15 (.int .i64 x1)), a.defers⟩ w') :
    (Code.region id ops true).wp Try.prog Q a w := by
  have ht : tidy (regOps Try.f54 6) a.tmps.size = true := by rw [hsz]; kernel_rfl
  refine region_tab (G := Unit) (fun _ => (region54_6V a0 a1 b0 b1 c0 c1 d0 d1 u0 u1 v0 v1 x0 x1 ka kb kc kd )) (fun _ _ w' => w'.cell? ⟨ka, 0, none⟩ = some (.int .i64 a0) ∧ w'.cell? ⟨ka, 1, none⟩ = some (.int .i64 a1) ∧ w'.cell? ⟨kb, 0, none⟩ = some (.int .i64 b0) ∧ w'.cell? ⟨kb, 1, none⟩ = some (.int .i64 b1) ∧ w'.cell? ⟨kc, 0, none⟩ = some (.int .i64 c0) ∧ w'.cell? ⟨kc, 1, none⟩ = some (.int .i64 c1) ∧ w'.cell? ⟨kd, 0, none⟩ = some (.int .i64 d0) ∧ w'.cell? ⟨kd, 1, none⟩ = some (.int .i64 d1) ∧ Below W.heap.size W w') () (by kernel_rfl) ho ht h0 ?_ ?_
  · intro i o hoi g L b w' hun hpre hT hS
    clear he h0 ho hsz ht
    have hi : i < (regOps Try.f54 6).size := (Array.getElem?_eq_some_iff.1 hoi).1
    rw [show (regOps Try.f54 6).size = 36 by kernel_rfl] at hi
    obtain ⟨ac0, ac1, bc0, bc1, cc0, cc1, ddc0, ddc1, HB⟩ := hS
    have hcases : i = 0 ∨ i = 1 ∨ i = 2 ∨ i = 3 ∨ i = 4 ∨ i = 5 ∨ i = 6 ∨ i = 7 ∨ i = 8 ∨ i = 9 ∨ i = 10 ∨ i = 11 ∨ i = 12 ∨ i = 13 ∨ i = 14 ∨ i = 15 ∨ i = 16 ∨ i = 17 ∨ i = 18 ∨ i = 19 ∨ i = 20 ∨ i = 21 ∨ i = 22 ∨ i = 23 ∨ i = 24 ∨ i = 25 ∨ i = 26 ∨ i = 27 ∨ i = 28 ∨ i = 29 ∨ i = 30 ∨ i = 31 ∨ i = 32 ∨ i = 33 ∨ i = 34 ∨ i = 35 := by omega
    rcases hcases with rfl | rfl | rfl | rfl | rfl | rfl | rfl | rfl | rfl | rfl | rfl | rfl | rfl | rfl | rfl | rfl | rfl | rfl | rfl | rfl | rfl | rfl | rfl | rfl | rfl | rfl | rfl | rfl | rfl | rfl | rfl | rfl | rfl | rfl | rfl | rfl
    · have hlit : (regOps Try.f54 6)[0]? = some ({ dst := some 53, op := Op.fieldAddr 23 (Operand.tmp 4) 0, type := 0, pos := "geom.go:196", after := #[], guard := none }) := by kernel_rfl
      obtain rfl := Option.some.inj (hlit.symm.trans hoi)
      have r4 : b.tmps.getD 4 undef = (.pointer (some ⟨ka, 0, none⟩)) := rd ((hT.old 4 (by kernel_rfl)).trans t4)
      refine op_go hoi (want_all rfl) fun K hK => ?_
      clear hT hpre hun hlit hoi
      go_simp
      exact hK _ _ ⟨(), fun _ _ => rfl, rfl, ac0, ac1, bc0, bc1, cc0, cc1, ddc0, ddc1, HB⟩
    · have hlit : (regOps Try.f54 6)[1]? = some ({ dst := some 54, op := Op.load 3 (Operand.tmp 53), type := 3, pos := "geom.go:196", after := #[{ on := 0, ground := Ground.data }], guard := none }) := by kernel_rfl
      obtain rfl := Option.some.inj (hlit.symm.trans hoi)
      have r53 : b.tmps.getD 53 undef = (.pointer (some ⟨ka, 0, none⟩)) := rd (hT.at 0 (by kernel_rfl) (pre_of hpre 0 (by kernel_rfl)))
      refine op_go hoi (want_all rfl) fun K hK => ?_
      clear hT hpre hun hlit hoi
      go_simp
      exact hK _ _ ⟨(), fun _ _ => rfl, rfl, ac0, ac1, bc0, bc1, cc0, cc1, ddc0, ddc1, HB⟩
    · have hlit : (regOps Try.f54 6)[2]? = some ({ dst := some 55, op := Op.fieldAddr 23 (Operand.tmp 7) 0, type := 0, pos := "geom.go:196", after := #[], guard := none }) := by kernel_rfl
      obtain rfl := Option.some.inj (hlit.symm.trans hoi)
      have r7 : b.tmps.getD 7 undef = (.pointer (some ⟨kd, 0, none⟩)) := rd ((hT.old 7 (by kernel_rfl)).trans t7)
      refine op_go hoi (want_all rfl) fun K hK => ?_
      clear hT hpre hun hlit hoi
      go_simp
      exact hK _ _ ⟨(), fun _ _ => rfl, rfl, ac0, ac1, bc0, bc1, cc0, cc1, ddc0, ddc1, HB⟩
    · have hlit : (regOps Try.f54 6)[3]? = some ({ dst := some 56, op := Op.load 3 (Operand.tmp 55), type := 3, pos := "geom.go:196", after := #[{ on := 2, ground := Ground.data }], guard := none }) := by kernel_rfl
      obtain rfl := Option.some.inj (hlit.symm.trans hoi)
      have r55 : b.tmps.getD 55 undef = (.pointer (some ⟨kd, 0, none⟩)) := rd (hT.at 2 (by kernel_rfl) (pre_of hpre 2 (by kernel_rfl)))
      refine op_go hoi (want_all rfl) fun K hK => ?_
      clear hT hpre hun hlit hoi
      go_simp
      exact hK _ _ ⟨(), fun _ _ => rfl, rfl, ac0, ac1, bc0, bc1, cc0, cc1, ddc0, ddc1, HB⟩
    · have hlit : (regOps Try.f54 6)[4]? = some ({ dst := some 57, op := Op.binOp BinOp.sub 3 (Operand.tmp 54) (Operand.tmp 56) 3, type := 3, pos := "geom.go:196", after := #[{ on := 1, ground := Ground.data }, { on := 3, ground := Ground.data }], guard := none }) := by kernel_rfl
      obtain rfl := Option.some.inj (hlit.symm.trans hoi)
      have r54 : b.tmps.getD 54 undef = (.int .i64 a0) := rd (hT.at 1 (by kernel_rfl) (pre_of hpre 1 (by kernel_rfl)))
      have r56 : b.tmps.getD 56 undef = (.int .i64 d0) := rd (hT.at 3 (by kernel_rfl) (pre_of hpre 3 (by kernel_rfl)))
      refine op_go hoi (want_all rfl) fun K hK => ?_
      clear hT hpre hun hlit hoi
      go_simp
      exact hK _ _ ⟨(), fun _ _ => rfl, rfl, ac0, ac1, bc0, bc1, cc0, cc1, ddc0, ddc1, HB⟩
    · have hlit : (regOps Try.f54 6)[5]? = some ({ dst := some 58, op := Op.fieldAddr 23 (Operand.tmp 4) 1, type := 0, pos := "geom.go:196", after := #[{ on := 30, ground := Ground.gcOnly Departure.lateStores }], guard := none }) := by kernel_rfl
      obtain rfl := Option.some.inj (hlit.symm.trans hoi)
      have r4 : b.tmps.getD 4 undef = (.pointer (some ⟨ka, 0, none⟩)) := rd ((hT.old 4 (by kernel_rfl)).trans t4)
      refine op_go hoi (want_all rfl) fun K hK => ?_
      clear hT hpre hun hlit hoi
      go_simp
      exact hK _ _ ⟨(), fun _ _ => rfl, rfl, ac0, ac1, bc0, bc1, cc0, cc1, ddc0, ddc1, HB⟩
    · have hlit : (regOps Try.f54 6)[6]? = some ({ dst := some 59, op := Op.load 3 (Operand.tmp 58), type := 3, pos := "geom.go:196", after := #[{ on := 5, ground := Ground.data }, { on := 30, ground := Ground.gcOnly Departure.lateStores }], guard := none }) := by kernel_rfl
      obtain rfl := Option.some.inj (hlit.symm.trans hoi)
      have r58 : b.tmps.getD 58 undef = (.pointer (some ⟨ka, 1, none⟩)) := rd (hT.at 5 (by kernel_rfl) (pre_of hpre 5 (by kernel_rfl)))
      refine op_go hoi (want_all rfl) fun K hK => ?_
      clear hT hpre hun hlit hoi
      go_simp
      exact hK _ _ ⟨(), fun _ _ => rfl, rfl, ac0, ac1, bc0, bc1, cc0, cc1, ddc0, ddc1, HB⟩
    · have hlit : (regOps Try.f54 6)[7]? = some ({ dst := some 60, op := Op.fieldAddr 23 (Operand.tmp 7) 1, type := 0, pos := "geom.go:196", after := #[{ on := 30, ground := Ground.gcOnly Departure.lateStores }], guard := none }) := by kernel_rfl
      obtain rfl := Option.some.inj (hlit.symm.trans hoi)
      have r7 : b.tmps.getD 7 undef = (.pointer (some ⟨kd, 0, none⟩)) := rd ((hT.old 7 (by kernel_rfl)).trans t7)
      refine op_go hoi (want_all rfl) fun K hK => ?_
      clear hT hpre hun hlit hoi
      go_simp
      exact hK _ _ ⟨(), fun _ _ => rfl, rfl, ac0, ac1, bc0, bc1, cc0, cc1, ddc0, ddc1, HB⟩
    · have hlit : (regOps Try.f54 6)[8]? = some ({ dst := some 61, op := Op.load 3 (Operand.tmp 60), type := 3, pos := "geom.go:196", after := #[{ on := 7, ground := Ground.data }, { on := 30, ground := Ground.gcOnly Departure.lateStores }], guard := none }) := by kernel_rfl
      obtain rfl := Option.some.inj (hlit.symm.trans hoi)
      have r60 : b.tmps.getD 60 undef = (.pointer (some ⟨kd, 1, none⟩)) := rd (hT.at 7 (by kernel_rfl) (pre_of hpre 7 (by kernel_rfl)))
      refine op_go hoi (want_all rfl) fun K hK => ?_
      clear hT hpre hun hlit hoi
      go_simp
      exact hK _ _ ⟨(), fun _ _ => rfl, rfl, ac0, ac1, bc0, bc1, cc0, cc1, ddc0, ddc1, HB⟩
    · have hlit : (regOps Try.f54 6)[9]? = some ({ dst := some 62, op := Op.binOp BinOp.sub 3 (Operand.tmp 59) (Operand.tmp 61) 3, type := 3, pos := "geom.go:196", after := #[{ on := 6, ground := Ground.data }, { on := 8, ground := Ground.data }, { on := 30, ground := Ground.gcOnly Departure.lateStores }], guard := none }) := by kernel_rfl
      obtain rfl := Option.some.inj (hlit.symm.trans hoi)
      have r59 : b.tmps.getD 59 undef = (.int .i64 a1) := rd (hT.at 6 (by kernel_rfl) (pre_of hpre 6 (by kernel_rfl)))
      have r61 : b.tmps.getD 61 undef = (.int .i64 d1) := rd (hT.at 8 (by kernel_rfl) (pre_of hpre 8 (by kernel_rfl)))
      refine op_go hoi (want_all rfl) fun K hK => ?_
      clear hT hpre hun hlit hoi
      go_simp
      exact hK _ _ ⟨(), fun _ _ => rfl, rfl, ac0, ac1, bc0, bc1, cc0, cc1, ddc0, ddc1, HB⟩
    · have hlit : (regOps Try.f54 6)[10]? = some ({ dst := some 63, op := Op.fieldAddr 23 (Operand.tmp 5) 0, type := 0, pos := "geom.go:196", after := #[{ on := 31, ground := Ground.gcOnly Departure.lateStores }], guard := none }) := by kernel_rfl
      obtain rfl := Option.some.inj (hlit.symm.trans hoi)
      have r5 : b.tmps.getD 5 undef = (.pointer (some ⟨kb, 0, none⟩)) := rd ((hT.old 5 (by kernel_rfl)).trans t5)
      refine op_go hoi (want_all rfl) fun K hK => ?_
      clear hT hpre hun hlit hoi
      go_simp
      exact hK _ _ ⟨(), fun _ _ => rfl, rfl, ac0, ac1, bc0, bc1, cc0, cc1, ddc0, ddc1, HB⟩
    · have hlit : (regOps Try.f54 6)[11]? = some ({ dst := some 64, op := Op.load 3 (Operand.tmp 63), type := 3, pos := "geom.go:196", after := #[{ on := 10, ground := Ground.data }, { on := 31, ground := Ground.gcOnly Departure.lateStores }], guard := none }) := by kernel_rfl
      obtain rfl := Option.some.inj (hlit.symm.trans hoi)
      have r63 : b.tmps.getD 63 undef = (.pointer (some ⟨kb, 0, none⟩)) := rd (hT.at 10 (by kernel_rfl) (pre_of hpre 10 (by kernel_rfl)))
      refine op_go hoi (want_all rfl) fun K hK => ?_
      clear hT hpre hun hlit hoi
      go_simp
      exact hK _ _ ⟨(), fun _ _ => rfl, rfl, ac0, ac1, bc0, bc1, cc0, cc1, ddc0, ddc1, HB⟩
    · have hlit : (regOps Try.f54 6)[12]? = some ({ dst := some 65, op := Op.fieldAddr 23 (Operand.tmp 7) 0, type := 0, pos := "geom.go:196", after := #[{ on := 31, ground := Ground.gcOnly Departure.lateStores }], guard := none }) := by kernel_rfl
      obtain rfl := Option.some.inj (hlit.symm.trans hoi)
      have r7 : b.tmps.getD 7 undef = (.pointer (some ⟨kd, 0, none⟩)) := rd ((hT.old 7 (by kernel_rfl)).trans t7)
      refine op_go hoi (want_all rfl) fun K hK => ?_
      clear hT hpre hun hlit hoi
      go_simp
      exact hK _ _ ⟨(), fun _ _ => rfl, rfl, ac0, ac1, bc0, bc1, cc0, cc1, ddc0, ddc1, HB⟩
    · have hlit : (regOps Try.f54 6)[13]? = some ({ dst := some 66, op := Op.load 3 (Operand.tmp 65), type := 3, pos := "geom.go:196", after := #[{ on := 12, ground := Ground.data }, { on := 31, ground := Ground.gcOnly Departure.lateStores }], guard := none }) := by kernel_rfl
      obtain rfl := Option.some.inj (hlit.symm.trans hoi)
      have r65 : b.tmps.getD 65 undef = (.pointer (some ⟨kd, 0, none⟩)) := rd (hT.at 12 (by kernel_rfl) (pre_of hpre 12 (by kernel_rfl)))
      refine op_go hoi (want_all rfl) fun K hK => ?_
      clear hT hpre hun hlit hoi
      go_simp
      exact hK _ _ ⟨(), fun _ _ => rfl, rfl, ac0, ac1, bc0, bc1, cc0, cc1, ddc0, ddc1, HB⟩
    · have hlit : (regOps Try.f54 6)[14]? = some ({ dst := some 67, op := Op.binOp BinOp.sub 3 (Operand.tmp 64) (Operand.tmp 66) 3, type := 3, pos := "geom.go:196", after := #[{ on := 11, ground := Ground.data }, { on := 13, ground := Ground.data }, { on := 31, ground := Ground.gcOnly Departure.lateStores }], guard := none }) := by kernel_rfl
      obtain rfl := Option.some.inj (hlit.symm.trans hoi)
      have r64 : b.tmps.getD 64 undef = (.int .i64 b0) := rd (hT.at 11 (by kernel_rfl) (pre_of hpre 11 (by kernel_rfl)))
      have r66 : b.tmps.getD 66 undef = (.int .i64 d0) := rd (hT.at 13 (by kernel_rfl) (pre_of hpre 13 (by kernel_rfl)))
      refine op_go hoi (want_all rfl) fun K hK => ?_
      clear hT hpre hun hlit hoi
      go_simp
      exact hK _ _ ⟨(), fun _ _ => rfl, rfl, ac0, ac1, bc0, bc1, cc0, cc1, ddc0, ddc1, HB⟩
    · have hlit : (regOps Try.f54 6)[15]? = some ({ dst := some 68, op := Op.fieldAddr 23 (Operand.tmp 5) 1, type := 0, pos := "geom.go:196", after := #[{ on := 32, ground := Ground.gcOnly Departure.lateStores }], guard := none }) := by kernel_rfl
      obtain rfl := Option.some.inj (hlit.symm.trans hoi)
      have r5 : b.tmps.getD 5 undef = (.pointer (some ⟨kb, 0, none⟩)) := rd ((hT.old 5 (by kernel_rfl)).trans t5)
      refine op_go hoi (want_all rfl) fun K hK => ?_
      clear hT hpre hun hlit hoi
      go_simp
      exact hK _ _ ⟨(), fun _ _ => rfl, rfl, ac0, ac1, bc0, bc1, cc0, cc1, ddc0, ddc1, HB⟩
    · have hlit : (regOps Try.f54 6)[16]? = some ({ dst := some 69, op := Op.load 3 (Operand.tmp 68), type := 3, pos := "geom.go:196", after := #[{ on := 15, ground := Ground.data }, { on := 32, ground := Ground.gcOnly Departure.lateStores }], guard := none }) := by kernel_rfl
      obtain rfl := Option.some.inj (hlit.symm.trans hoi)
      have r68 : b.tmps.getD 68 undef = (.pointer (some ⟨kb, 1, none⟩)) := rd (hT.at 15 (by kernel_rfl) (pre_of hpre 15 (by kernel_rfl)))
      refine op_go hoi (want_all rfl) fun K hK => ?_
      clear hT hpre hun hlit hoi
      go_simp
      exact hK _ _ ⟨(), fun _ _ => rfl, rfl, ac0, ac1, bc0, bc1, cc0, cc1, ddc0, ddc1, HB⟩
    · have hlit : (regOps Try.f54 6)[17]? = some ({ dst := some 70, op := Op.fieldAddr 23 (Operand.tmp 7) 1, type := 0, pos := "geom.go:196", after := #[{ on := 32, ground := Ground.gcOnly Departure.lateStores }], guard := none }) := by kernel_rfl
      obtain rfl := Option.some.inj (hlit.symm.trans hoi)
      have r7 : b.tmps.getD 7 undef = (.pointer (some ⟨kd, 0, none⟩)) := rd ((hT.old 7 (by kernel_rfl)).trans t7)
      refine op_go hoi (want_all rfl) fun K hK => ?_
      clear hT hpre hun hlit hoi
      go_simp
      exact hK _ _ ⟨(), fun _ _ => rfl, rfl, ac0, ac1, bc0, bc1, cc0, cc1, ddc0, ddc1, HB⟩
    · have hlit : (regOps Try.f54 6)[18]? = some ({ dst := some 71, op := Op.load 3 (Operand.tmp 70), type := 3, pos := "geom.go:196", after := #[{ on := 17, ground := Ground.data }, { on := 32, ground := Ground.gcOnly Departure.lateStores }], guard := none }) := by kernel_rfl
      obtain rfl := Option.some.inj (hlit.symm.trans hoi)
      have r70 : b.tmps.getD 70 undef = (.pointer (some ⟨kd, 1, none⟩)) := rd (hT.at 17 (by kernel_rfl) (pre_of hpre 17 (by kernel_rfl)))
      refine op_go hoi (want_all rfl) fun K hK => ?_
      clear hT hpre hun hlit hoi
      go_simp
      exact hK _ _ ⟨(), fun _ _ => rfl, rfl, ac0, ac1, bc0, bc1, cc0, cc1, ddc0, ddc1, HB⟩
    · have hlit : (regOps Try.f54 6)[19]? = some ({ dst := some 72, op := Op.binOp BinOp.sub 3 (Operand.tmp 69) (Operand.tmp 71) 3, type := 3, pos := "geom.go:196", after := #[{ on := 16, ground := Ground.data }, { on := 18, ground := Ground.data }, { on := 32, ground := Ground.gcOnly Departure.lateStores }], guard := none }) := by kernel_rfl
      obtain rfl := Option.some.inj (hlit.symm.trans hoi)
      have r69 : b.tmps.getD 69 undef = (.int .i64 b1) := rd (hT.at 16 (by kernel_rfl) (pre_of hpre 16 (by kernel_rfl)))
      have r71 : b.tmps.getD 71 undef = (.int .i64 d1) := rd (hT.at 18 (by kernel_rfl) (pre_of hpre 18 (by kernel_rfl)))
      refine op_go hoi (want_all rfl) fun K hK => ?_
      clear hT hpre hun hlit hoi
      go_simp
      exact hK _ _ ⟨(), fun _ _ => rfl, rfl, ac0, ac1, bc0, bc1, cc0, cc1, ddc0, ddc1, HB⟩
    · have hlit : (regOps Try.f54 6)[20]? = some ({ dst := some 73, op := Op.fieldAddr 23 (Operand.tmp 6) 0, type := 0, pos := "geom.go:196", after := #[{ on := 33, ground := Ground.gcOnly Departure.lateStores }], guard := none }) := by kernel_rfl
      obtain rfl := Option.some.inj (hlit.symm.trans hoi)
      have r6 : b.tmps.getD 6 undef = (.pointer (some ⟨kc, 0, none⟩)) := rd ((hT.old 6 (by kernel_rfl)).trans t6)
      refine op_go hoi (want_all rfl) fun K hK => ?_
      clear hT hpre hun hlit hoi
      go_simp
      exact hK _ _ ⟨(), fun _ _ => rfl, rfl, ac0, ac1, bc0, bc1, cc0, cc1, ddc0, ddc1, HB⟩
    · have hlit : (regOps Try.f54 6)[21]? = some ({ dst := some 74, op := Op.load 3 (Operand.tmp 73), type := 3, pos := "geom.go:196", after := #[{ on := 20, ground := Ground.data }, { on := 33, ground := Ground.gcOnly Departure.lateStores }], guard := none }) := by kernel_rfl
      obtain rfl := Option.some.inj (hlit.symm.trans hoi)
      have r73 : b.tmps.getD 73 undef = (.pointer (some ⟨kc, 0, none⟩)) := rd (hT.at 20 (by kernel_rfl) (pre_of hpre 20 (by kernel_rfl)))
      refine op_go hoi (want_all rfl) fun K hK => ?_
      clear hT hpre hun hlit hoi
      go_simp
      exact hK _ _ ⟨(), fun _ _ => rfl, rfl, ac0, ac1, bc0, bc1, cc0, cc1, ddc0, ddc1, HB⟩
    · have hlit : (regOps Try.f54 6)[22]? = some ({ dst := some 75, op := Op.fieldAddr 23 (Operand.tmp 7) 0, type := 0, pos := "geom.go:196", after := #[{ on := 33, ground := Ground.gcOnly Departure.lateStores }], guard := none }) := by kernel_rfl
      obtain rfl := Option.some.inj (hlit.symm.trans hoi)
      have r7 : b.tmps.getD 7 undef = (.pointer (some ⟨kd, 0, none⟩)) := rd ((hT.old 7 (by kernel_rfl)).trans t7)
      refine op_go hoi (want_all rfl) fun K hK => ?_
      clear hT hpre hun hlit hoi
      go_simp
      exact hK _ _ ⟨(), fun _ _ => rfl, rfl, ac0, ac1, bc0, bc1, cc0, cc1, ddc0, ddc1, HB⟩
    · have hlit : (regOps Try.f54 6)[23]? = some ({ dst := some 76, op := Op.load 3 (Operand.tmp 75), type := 3, pos := "geom.go:196", after := #[{ on := 22, ground := Ground.data }, { on := 33, ground := Ground.gcOnly Departure.lateStores }], guard := none }) := by kernel_rfl
      obtain rfl := Option.some.inj (hlit.symm.trans hoi)
      have r75 : b.tmps.getD 75 undef = (.pointer (some ⟨kd, 0, none⟩)) := rd (hT.at 22 (by kernel_rfl) (pre_of hpre 22 (by kernel_rfl)))
      refine op_go hoi (want_all rfl) fun K hK => ?_
      clear hT hpre hun hlit hoi
      go_simp
      exact hK _ _ ⟨(), fun _ _ => rfl, rfl, ac0, ac1, bc0, bc1, cc0, cc1, ddc0, ddc1, HB⟩
    · have hlit : (regOps Try.f54 6)[24]? = some ({ dst := some 77, op := Op.binOp BinOp.sub 3 (Operand.tmp 74) (Operand.tmp 76) 3, type := 3, pos := "geom.go:196", after := #[{ on := 21, ground := Ground.data }, { on := 23, ground := Ground.data }, { on := 33, ground := Ground.gcOnly Departure.lateStores }], guard := none }) := by kernel_rfl
      obtain rfl := Option.some.inj (hlit.symm.trans hoi)
      have r74 : b.tmps.getD 74 undef = (.int .i64 c0) := rd (hT.at 21 (by kernel_rfl) (pre_of hpre 21 (by kernel_rfl)))
      have r76 : b.tmps.getD 76 undef = (.int .i64 d0) := rd (hT.at 23 (by kernel_rfl) (pre_of hpre 23 (by kernel_rfl)))
      refine op_go hoi (want_all rfl) fun K hK => ?_
      clear hT hpre hun hlit hoi
      go_simp
      exact hK _ _ ⟨(), fun _ _ => rfl, rfl, ac0, ac1, bc0, bc1, cc0, cc1, ddc0, ddc1, HB⟩
    · have hlit : (regOps Try.f54 6)[25]? = some ({ dst := some 78, op := Op.fieldAddr 23 (Operand.tmp 6) 1, type := 0, pos := "geom.go:196", after := #[{ on := 34, ground := Ground.gcOnly Departure.lateStores }], guard := none }) := by kernel_rfl
      obtain rfl := Option.some.inj (hlit.symm.trans hoi)
      have r6 : b.tmps.getD 6 undef = (.pointer (some ⟨kc, 0, none⟩)) := rd ((hT.old 6 (by kernel_rfl)).trans t6)
      refine op_go hoi (want_all rfl) fun K hK => ?_
      clear hT hpre hun hlit hoi
      go_simp
      exact hK _ _ ⟨(), fun _ _ => rfl, rfl, ac0, ac1, bc0, bc1, cc0, cc1, ddc0, ddc1, HB⟩
    · have hlit : (regOps Try.f54 6)[26]? = some ({ dst := some 79, op := Op.load 3 (Operand.tmp 78), type := 3, pos := "geom.go:196", after := #[{ on := 25, ground := Ground.data }, { on := 34, ground := Ground.gcOnly Departure.lateStores }], guard := none }) := by kernel_rfl
      obtain rfl := Option.some.inj (hlit.symm.trans hoi)
      have r78 : b.tmps.getD 78 undef = (.pointer (some ⟨kc, 1, none⟩)) := rd (hT.at 25 (by kernel_rfl) (pre_of hpre 25 (by kernel_rfl)))
      refine op_go hoi (want_all rfl) fun K hK => ?_
      clear hT hpre hun hlit hoi
      go_simp
      exact hK _ _ ⟨(), fun _ _ => rfl, rfl, ac0, ac1, bc0, bc1, cc0, cc1, ddc0, ddc1, HB⟩
    · have hlit : (regOps Try.f54 6)[27]? = some ({ dst := some 80, op := Op.fieldAddr 23 (Operand.tmp 7) 1, type := 0, pos := "geom.go:196", after := #[{ on := 34, ground := Ground.gcOnly Departure.lateStores }], guard := none }) := by kernel_rfl
      obtain rfl := Option.some.inj (hlit.symm.trans hoi)
      have r7 : b.tmps.getD 7 undef = (.pointer (some ⟨kd, 0, none⟩)) := rd ((hT.old 7 (by kernel_rfl)).trans t7)
      refine op_go hoi (want_all rfl) fun K hK => ?_
      clear hT hpre hun hlit hoi
      go_simp
      exact hK _ _ ⟨(), fun _ _ => rfl, rfl, ac0, ac1, bc0, bc1, cc0, cc1, ddc0, ddc1, HB⟩
    · have hlit : (regOps Try.f54 6)[28]? = some ({ dst := some 81, op := Op.load 3 (Operand.tmp 80), type := 3, pos := "geom.go:196", after := #[{ on := 27, ground := Ground.data }, { on := 34, ground := Ground.gcOnly Departure.lateStores }], guard := none }) := by kernel_rfl
      obtain rfl := Option.some.inj (hlit.symm.trans hoi)
      have r80 : b.tmps.getD 80 undef = (.pointer (some ⟨kd, 1, none⟩)) := rd (hT.at 27 (by kernel_rfl) (pre_of hpre 27 (by kernel_rfl)))
      refine op_go hoi (want_all rfl) fun K hK => ?_
      clear hT hpre hun hlit hoi
      go_simp
      exact hK _ _ ⟨(), fun _ _ => rfl, rfl, ac0, ac1, bc0, bc1, cc0, cc1, ddc0, ddc1, HB⟩
    · have hlit : (regOps Try.f54 6)[29]? = some ({ dst := some 82, op := Op.binOp BinOp.sub 3 (Operand.tmp 79) (Operand.tmp 81) 3, type := 3, pos := "geom.go:196", after := #[{ on := 26, ground := Ground.data }, { on := 28, ground := Ground.data }, { on := 34, ground := Ground.gcOnly Departure.lateStores }], guard := none }) := by kernel_rfl
      obtain rfl := Option.some.inj (hlit.symm.trans hoi)
      have r79 : b.tmps.getD 79 undef = (.int .i64 c1) := rd (hT.at 26 (by kernel_rfl) (pre_of hpre 26 (by kernel_rfl)))
      have r81 : b.tmps.getD 81 undef = (.int .i64 d1) := rd (hT.at 28 (by kernel_rfl) (pre_of hpre 28 (by kernel_rfl)))
      refine op_go hoi (want_all rfl) fun K hK => ?_
      clear hT hpre hun hlit hoi
      go_simp
      exact hK _ _ ⟨(), fun _ _ => rfl, rfl, ac0, ac1, bc0, bc1, cc0, cc1, ddc0, ddc1, HB⟩
    · have hlit : (regOps Try.f54 6)[30]? = some ({ dst := some 10, op := Op.assign (Operand.tmp 57), type := 3, pos := "geom.go:196", after := #[{ on := 4, ground := Ground.data }, { on := 0, ground := Ground.phase }, { on := 1, ground := Ground.phase }, { on := 2, ground := Ground.phase }, { on := 3, ground := Ground.phase }, { on := 4, ground := Ground.phase }, { on := 5, ground := Ground.textOnly Departure.lateStores }, { on := 6, ground := Ground.textOnly Departure.lateStores }, { on := 7, ground := Ground.textOnly Departure.lateStores }, { on := 8, ground := Ground.textOnly Departure.lateStores }, { on := 9, ground := Ground.textOnly Departure.lateStores }, { on := 10, ground := Ground.textOnly Departure.lateStores }, { on := 11, ground := Ground.textOnly Departure.lateStores }, { on := 12, ground := Ground.textOnly Departure.lateStores }, { on := 13, ground := Ground.textOnly Departure.lateStores }, { on := 14, ground := Ground.textOnly Departure.lateStores }, { on := 15, ground := Ground.textOnly Departure.lateStores }, { on := 16, ground := Ground.textOnly Departure.lateStores }, { on := 17, ground := Ground.textOnly Departure.lateStores }, { on := 18, ground := Ground.textOnly Departure.lateStores }, { on := 19, ground := Ground.textOnly Departure.lateStores }, { on := 20, ground := Ground.textOnly Departure.lateStores }, { on := 21, ground := Ground.textOnly Departure.lateStores }, { on := 22, ground := Ground.textOnly Departure.lateStores }, { on := 23, ground := Ground.textOnly Departure.lateStores }, { on := 24, ground := Ground.textOnly Departure.lateStores }, { on := 25, ground := Ground.textOnly Departure.lateStores }, { on := 26, ground := Ground.textOnly Departure.lateStores }, { on := 27, ground := Ground.textOnly Departure.lateStores }, { on := 28, ground := Ground.textOnly Departure.lateStores }, { on := 29, ground := Ground.textOnly Departure.lateStores }], guard := none }) := by kernel_rfl
      obtain rfl := Option.some.inj (hlit.symm.trans hoi)
      have r57 : b.tmps.getD 57 undef = (.int .i64 u0) := rd (hT.at 4 (by kernel_rfl) (pre_of hpre 4 (by kernel_rfl)))
      refine op_go hoi (want_all rfl) fun K hK => ?_
      clear hT hpre hun hlit hoi
      go_simp
      exact hK _ _ ⟨(), fun _ _ => rfl, rfl, ac0, ac1, bc0, bc1, cc0, cc1, ddc0, ddc1, HB⟩
    · have hlit : (regOps Try.f54 6)[31]? = some ({ dst := some 11, op := Op.assign (Operand.tmp 62), type := 3, pos := "geom.go:196", after := #[{ on := 9, ground := Ground.data }, { on := 30, ground := Ground.chain }, { on := 0, ground := Ground.phase }, { on := 1, ground := Ground.phase }, { on := 2, ground := Ground.phase }, { on := 3, ground := Ground.phase }, { on := 4, ground := Ground.phase }, { on := 5, ground := Ground.phase }, { on := 6, ground := Ground.phase }, { on := 7, ground := Ground.phase }, { on := 8, ground := Ground.phase }, { on := 9, ground := Ground.phase }, { on := 10, ground := Ground.textOnly Departure.lateStores }, { on := 11, ground := Ground.textOnly Departure.lateStores }, { on := 12, ground := Ground.textOnly Departure.lateStores }, { on := 13, ground := Ground.textOnly Departure.lateStores }, { on := 14, ground := Ground.textOnly Departure.lateStores }, { on := 15, ground := Ground.textOnly Departure.lateStores }, { on := 16, ground := Ground.textOnly Departure.lateStores }, { on := 17, ground := Ground.textOnly Departure.lateStores }, { on := 18, ground := Ground.textOnly Departure.lateStores }, { on := 19, ground := Ground.textOnly Departure.lateStores }, { on := 20, ground := Ground.textOnly Departure.lateStores }, { on := 21, ground := Ground.textOnly Departure.lateStores }, { on := 22, ground := Ground.textOnly Departure.lateStores }, { on := 23, ground := Ground.textOnly Departure.lateStores }, { on := 24, ground := Ground.textOnly Departure.lateStores }, { on := 25, ground := Ground.textOnly Departure.lateStores }, { on := 26, ground := Ground.textOnly Departure.lateStores }, { on := 27, ground := Ground.textOnly Departure.lateStores }, { on := 28, ground := Ground.textOnly Departure.lateStores }, { on := 29, ground := Ground.textOnly Departure.lateStores }, { on := 30, ground := Ground.phase }], guard := none }) := by kernel_rfl
      obtain rfl := Option.some.inj (hlit.symm.trans hoi)
      have r62 : b.tmps.getD 62 undef = (.int .i64 u1) := rd (hT.at 9 (by kernel_rfl) (pre_of hpre 9 (by kernel_rfl)))
      refine op_go hoi (want_all rfl) fun K hK => ?_
      clear hT hpre hun hlit hoi
      go_simp
      exact hK _ _ ⟨(), fun _ _ => rfl, rfl, ac0, ac1, bc0, bc1, cc0, cc1, ddc0, ddc1, HB⟩
    · have hlit : (regOps Try.f54 6)[32]? = some ({ dst := some 12, op := Op.assign (Operand.tmp 67), type := 3, pos := "geom.go:196", after := #[{ on := 14, ground := Ground.data }, { on := 31, ground := Ground.chain }, { on := 0, ground := Ground.phase }, { on := 1, ground := Ground.phase }, { on := 2, ground := Ground.phase }, { on := 3, ground := Ground.phase }, { on := 4, ground := Ground.phase }, { on := 5, ground := Ground.phase }, { on := 6, ground := Ground.phase }, { on := 7, ground := Ground.phase }, { on := 8, ground := Ground.phase }, { on := 9, ground := Ground.phase }, { on := 10, ground := Ground.phase }, { on := 11, ground := Ground.phase }, { on := 12, ground := Ground.phase }, { on := 13, ground := Ground.phase }, { on := 14, ground := Ground.phase }, { on := 15, ground := Ground.textOnly Departure.lateStores }, { on := 16, ground := Ground.textOnly Departure.lateStores }, { on := 17, ground := Ground.textOnly Departure.lateStores }, { on := 18, ground := Ground.textOnly Departure.lateStores }, { on := 19, ground := Ground.textOnly Departure.lateStores }, { on := 20, ground := Ground.textOnly Departure.lateStores }, { on := 21, ground := Ground.textOnly Departure.lateStores }, { on := 22, ground := Ground.textOnly Departure.lateStores }, { on := 23, ground := Ground.textOnly Departure.lateStores }, { on := 24, ground := Ground.textOnly Departure.lateStores }, { on := 25, ground := Ground.textOnly Departure.lateStores }, { on := 26, ground := Ground.textOnly Departure.lateStores }, { on := 27, ground := Ground.textOnly Departure.lateStores }, { on := 28, ground := Ground.textOnly Departure.lateStores }, { on := 29, ground := Ground.textOnly Departure.lateStores }, { on := 30, ground := Ground.phase }, { on := 31, ground := Ground.phase }], guard := none }) := by kernel_rfl
      obtain rfl := Option.some.inj (hlit.symm.trans hoi)
      have r67 : b.tmps.getD 67 undef = (.int .i64 v0) := rd (hT.at 14 (by kernel_rfl) (pre_of hpre 14 (by kernel_rfl)))
      refine op_go hoi (want_all rfl) fun K hK => ?_
      clear hT hpre hun hlit hoi
      go_simp
      exact hK _ _ ⟨(), fun _ _ => rfl, rfl, ac0, ac1, bc0, bc1, cc0, cc1, ddc0, ddc1, HB⟩
    · have hlit : (regOps Try.f54 6)[33]? = some ({ dst := some 13, op := Op.assign (Operand.tmp 72), type := 3, pos := "geom.go:196", after := #[{ on := 19, ground := Ground.data }, { on := 32, ground := Ground.chain }, { on := 0, ground := Ground.phase }, { on := 1, ground := Ground.phase }, { on := 2, ground := Ground.phase }, { on := 3, ground := Ground.phase }, { on := 4, ground := Ground.phase }, { on := 5, ground := Ground.phase }, { on := 6, ground := Ground.phase }, { on := 7, ground := Ground.phase }, { on := 8, ground := Ground.phase }, { on := 9, ground := Ground.phase }, { on := 10, ground := Ground.phase }, { on := 11, ground := Ground.phase }, { on := 12, ground := Ground.phase }, { on := 13, ground := Ground.phase }, { on := 14, ground := Ground.phase }, { on := 15, ground := Ground.phase }, { on := 16, ground := Ground.phase }, { on := 17, ground := Ground.phase }, { on := 18, ground := Ground.phase }, { on := 19, ground := Ground.phase }, { on := 20, ground := Ground.textOnly Departure.lateStores }, { on := 21, ground := Ground.textOnly Departure.lateStores }, { on := 22, ground := Ground.textOnly Departure.lateStores }, { on := 23, ground := Ground.textOnly Departure.lateStores }, { on := 24, ground := Ground.textOnly Departure.lateStores }, { on := 25, ground := Ground.textOnly Departure.lateStores }, { on := 26, ground := Ground.textOnly Departure.lateStores }, { on := 27, ground := Ground.textOnly Departure.lateStores }, { on := 28, ground := Ground.textOnly Departure.lateStores }, { on := 29, ground := Ground.textOnly Departure.lateStores }, { on := 30, ground := Ground.phase }, { on := 31, ground := Ground.phase }, { on := 32, ground := Ground.phase }], guard := none }) := by kernel_rfl
      obtain rfl := Option.some.inj (hlit.symm.trans hoi)
      have r72 : b.tmps.getD 72 undef = (.int .i64 v1) := rd (hT.at 19 (by kernel_rfl) (pre_of hpre 19 (by kernel_rfl)))
      refine op_go hoi (want_all rfl) fun K hK => ?_
      clear hT hpre hun hlit hoi
      go_simp
      exact hK _ _ ⟨(), fun _ _ => rfl, rfl, ac0, ac1, bc0, bc1, cc0, cc1, ddc0, ddc1, HB⟩
    · have hlit : (regOps Try.f54 6)[34]? = some ({ dst := some 14, op := Op.assign (Operand.tmp 77), type := 3, pos := "geom.go:196", after := #[{ on := 24, ground := Ground.data }, { on := 33, ground := Ground.chain }, { on := 0, ground := Ground.phase }, { on := 1, ground := Ground.phase }, { on := 2, ground := Ground.phase }, { on := 3, ground := Ground.phase }, { on := 4, ground := Ground.phase }, { on := 5, ground := Ground.phase }, { on := 6, ground := Ground.phase }, { on := 7, ground := Ground.phase }, { on := 8, ground := Ground.phase }, { on := 9, ground := Ground.phase }, { on := 10, ground := Ground.phase }, { on := 11, ground := Ground.phase }, { on := 12, ground := Ground.phase }, { on := 13, ground := Ground.phase }, { on := 14, ground := Ground.phase }, { on := 15, ground := Ground.phase }, { on := 16, ground := Ground.phase }, { on := 17, ground := Ground.phase }, { on := 18, ground := Ground.phase }, { on := 19, ground := Ground.phase }, { on := 20, ground := Ground.phase }, { on := 21, ground := Ground.phase }, { on := 22, ground := Ground.phase }, { on := 23, ground := Ground.phase }, { on := 24, ground := Ground.phase }, { on := 25, ground := Ground.textOnly Departure.lateStores }, { on := 26, ground := Ground.textOnly Departure.lateStores }, { on := 27, ground := Ground.textOnly Departure.lateStores }, { on := 28, ground := Ground.textOnly Departure.lateStores }, { on := 29, ground := Ground.textOnly Departure.lateStores }, { on := 30, ground := Ground.phase }, { on := 31, ground := Ground.phase }, { on := 32, ground := Ground.phase }, { on := 33, ground := Ground.phase }], guard := none }) := by kernel_rfl
      obtain rfl := Option.some.inj (hlit.symm.trans hoi)
      have r77 : b.tmps.getD 77 undef = (.int .i64 x0) := rd (hT.at 24 (by kernel_rfl) (pre_of hpre 24 (by kernel_rfl)))
      refine op_go hoi (want_all rfl) fun K hK => ?_
      clear hT hpre hun hlit hoi
      go_simp
      exact hK _ _ ⟨(), fun _ _ => rfl, rfl, ac0, ac1, bc0, bc1, cc0, cc1, ddc0, ddc1, HB⟩
    · have hlit : (regOps Try.f54 6)[35]? = some ({ dst := some 15, op := Op.assign (Operand.tmp 82), type := 3, pos := "geom.go:196", after := #[{ on := 29, ground := Ground.data }, { on := 34, ground := Ground.chain }, { on := 0, ground := Ground.phase }, { on := 1, ground := Ground.phase }, { on := 2, ground := Ground.phase }, { on := 3, ground := Ground.phase }, { on := 4, ground := Ground.phase }, { on := 5, ground := Ground.phase }, { on := 6, ground := Ground.phase }, { on := 7, ground := Ground.phase }, { on := 8, ground := Ground.phase }, { on := 9, ground := Ground.phase }, { on := 10, ground := Ground.phase }, { on := 11, ground := Ground.phase }, { on := 12, ground := Ground.phase }, { on := 13, ground := Ground.phase }, { on := 14, ground := Ground.phase }, { on := 15, ground := Ground.phase }, { on := 16, ground := Ground.phase }, { on := 17, ground := Ground.phase }, { on := 18, ground := Ground.phase }, { on := 19, ground := Ground.phase }, { on := 20, ground := Ground.phase }, { on := 21, ground := Ground.phase }, { on := 22, ground := Ground.phase }, { on := 23, ground := Ground.phase }, { on := 24, ground := Ground.phase }, { on := 25, ground := Ground.phase }, { on := 26, ground := Ground.phase }, { on := 27, ground := Ground.phase }, { on := 28, ground := Ground.phase }, { on := 29, ground := Ground.phase }, { on := 30, ground := Ground.phase }, { on := 31, ground := Ground.phase }, { on := 32, ground := Ground.phase }, { on := 33, ground := Ground.phase }, { on := 34, ground := Ground.phase }], guard := none }) := by kernel_rfl
      obtain rfl := Option.some.inj (hlit.symm.trans hoi)
      have r82 : b.tmps.getD 82 undef = (.int .i64 x1) := rd (hT.at 29 (by kernel_rfl) (pre_of hpre 29 (by kernel_rfl)))
      refine op_go hoi (want_all rfl) fun K hK => ?_
      clear hT hpre hun hlit hoi
      go_simp
      exact hK _ _ ⟨(), fun _ _ => rfl, rfl, ac0, ac1, bc0, bc1, cc0, cc1, ddc0, ddc1, HB⟩
  · intro g b w' hT hS
    rw [hT.all ht]
    have hn : (regOps Try.f54 6).size = 36 := by kernel_rfl
    rw [hn]
    exact he w' hS

/-- What each operation of the region leaves. -/
def region54_8V (u0 u1 v0 v1 x0 x1 z0 z1 p0 p1 q0 q1 y0 y1 m1 m2 m3 m4 m5 m6 : Int) : Nat → Value
  | 0 => .agg #[.int .i64 z0, .int .u64 z1]
  | 1 => .int .i64 v0
  | 2 => .int .i64 v0
  | 3 => .int .i64 m1
  | 4 => .int .i64 v1
  | 5 => .int .i64 v1
  | 6 => .int .i64 m2
  | 7 => .int .i64 m3
  | 8 => .int .i64 u0
  | 9 => .int .i64 x1
  | 10 => .int .i64 m4
  | 11 => .int .i64 x0
  | 12 => .int .i64 u1
  | 13 => .int .i64 m5
  | 14 => .int .i64 m6
  | 15 => .agg #[.int .i64 p0, .int .u64 p1]
  | 16 => .agg #[.int .i64 q0, .int .u64 q1]
  | 17 => .agg #[.int .i64 y0, .int .u64 y1]
  | 18 => undef
  | _ => undef

set_option maxHeartbeats 4000000 in
set_option maxRecDepth 100000 in
theorem region54_8 (a0 a1 b0 b1 c0 c1 d0 d1 u0 u1 v0 v1 x0 x1 z0 z1 p0 p1 q0 q1 y0 y1 m1 m2 m3 m4 m5 m6 : Int) (ka kb kc kd kz : Nat) (W : World) (eq1 : IntKind.i64.wrap (v0 * v0) = m1) (eq2 : IntKind.i64.wrap (v1 * v1) = m2) (eq3 : IntKind.i64.wrap (m1 + m2) = m3) (eq4 : IntKind.i64.wrap (u0 * x1) = m4) (eq5 : IntKind.i64.wrap (x0 * u1) = m5) (eq6 : IntKind.i64.wrap (m4 - m5) = m6) (cm : ∀ w : World, Calls Try.prog 67 #[.int .i64 m3, .int .i64 m6] w fun e w' => e = .returned (.agg #[.int .i64 p0, .int .u64 p1]) ∧ Below w.heap.size w w') (cn : ∀ w : World, Calls Try.prog 73 #[.agg #[.int .i64 p0, .int .u64 p1]] w fun e w' => e = .returned (.agg #[.int .i64 q0, .int .u64 q1]) ∧ Below w.heap.size w w') (ca : ∀ w : World, Calls Try.prog 72 #[.agg #[.int .i64 z0, .int .u64 z1], .agg #[.int .i64 q0, .int .u64 q1]] w fun e w' => e = .returned (.agg #[.int .i64 y0, .int .u64 y1]) ∧ Below w.heap.size w w') (nekakz : ¬ ka = kz) (nekbkz : ¬ kb = kz) (nekckz : ¬ kc = kz) (nekdkz : ¬ kd = kz) {id : Nat} {ops : Array Oper} {Q : Exit → Act → World → Prop} {a : Act} {w : World}
    (ho : ops = (regOps Try.f54 8)) (hsz : a.tmps.size = 179) (t10 : a.tmps[10]? = some (.int .i64 u0)) (t11 : a.tmps[11]? = some (.int .i64 u1)) (t12 : a.tmps[12]? = some (.int .i64 v0)) (t13 : a.tmps[13]? = some (.int .i64 v1)) (t14 : a.tmps[14]? = some (.int .i64 x0)) (t15 : a.tmps[15]? = some (.int .i64 x1)) (t16 : a.tmps[16]? = some (.pointer (some ⟨kz, 0, none⟩))) (gez : W.heap.size ≤ kz)
    (h0 : w.cell? ⟨ka, 0, none⟩ = some (.int .i64 a0) ∧ w.cell? ⟨ka, 1, none⟩ = some (.int .i64 a1) ∧ w.cell? ⟨kb, 0, none⟩ = some (.int .i64 b0) ∧ w.cell? ⟨kb, 1, none⟩ = some (.int .i64 b1) ∧ w.cell? ⟨kc, 0, none⟩ = some (.int .i64 c0) ∧ w.cell? ⟨kc, 1, none⟩ = some (.int .i64 c1) ∧ w.cell? ⟨kd, 0, none⟩ = some (.int .i64 d0) ∧ w.cell? ⟨kd, 1, none⟩ = some (.int .i64 d1) ∧ Below W.heap.size W w) (hs0 : w.frozen? ⟨kz, 0, none⟩ = false ∧ w.frozen? ⟨kz, 1, none⟩ = false ∧ w.cell? ⟨kz, 0, none⟩ = some (.int .i64 z0) ∧ w.cell? ⟨kz, 1, none⟩ = some (.int .u64 z1))
    (he : ∀ w', w'.cell? ⟨ka, 0, none⟩ = some (.int .i64 a0) ∧ w'.cell? ⟨ka, 1, none⟩ = some (.int .i64 a1) ∧ w'.cell? ⟨kb, 0, none⟩ = some (.int .i64 b0) ∧ w'.cell? ⟨kb, 1, none⟩ = some (.int .i64 b1) ∧ w'.cell? ⟨kc, 0, none⟩ = some (.int .i64 c0) ∧ w'.cell? ⟨kc, 1, none⟩ = some (.int .i64 c1) ∧ w'.cell? ⟨kd, 0, none⟩ = some (.int .i64 d0) ∧ w'.cell? ⟨kd, 1, none⟩ = some (.int .i64 d1) ∧ Below W.heap.size W w' → w'.frozen? ⟨kz, 0, none⟩ = false ∧ w'.frozen? ⟨kz, 1, none⟩ = false ∧ w'.cell? ⟨kz, 0, none⟩ = some (.int .i64 y0) ∧ w'.cell? ⟨kz, 1, none⟩ = some (.int .u64 y1) → Q .normal ⟨((((((((((((((((((a.tmps.setIfInBounds 98 (.agg #[.int .i64 z0, .int .u64 z1])).setIfInBounds 99 (.int .i64 v0)).setIfInBounds 100 (.int .i64 v0)).setIfInBounds 101 (.int .i64 m1)).setIfInBounds 102 (.int .i64 v1)).setIfInBounds 103 (.int .i64 v1)).setIfInBounds 104 (.int .i64 m2)).setIfInBounds 105 (.int .i64 m3)).setIfInBounds 106 (.int .i64 u0)).setIfInBounds 107 (.int .i64 x1)).setIfInBounds 108 (.int .i64 m4)).setIfInBounds 109 (.int .i64 x0)).setIfInBounds 110 (.int .i64 u1)).setIfInBounds 111 (.int .i64 m5)).setIfInBounds 112 (.int .i64 m6)).setIfInBounds 113 (.agg #[.int .i64 p0, .int .u64 p1])).setIfInBounds 114 (.agg #[.int .i64 q0, .int .u64 q1])).setIfInBounds 115 (.agg #[.int .i64 y0, .int .u64 y1])), a.defers⟩ w') :
    (Code.region id ops true).wp Try.prog Q a w := by
  have ht : tidy (regOps Try.f54 8) a.tmps.size = true := by rw [hsz]; kernel_rfl
  obtain ⟨ac0, ac1, bc0, bc1, cc0, cc1, ddc0, ddc1, HB0⟩ := h0
  obtain ⟨zz0, zz1, cz0, cz1⟩ := hs0
  have ltz := World.block_lt_of_cell? w _ cz0
  refine region_tab2 (G := Unit) (fun _ => (region54_8V u0 u1 v0 v1 x0 x1 z0 z1 p0 p1 q0 q1 y0 y1 m1 m2 m3 m4 m5 m6 )) (fun _ L w' => w'.cell? ⟨ka, 0, none⟩ = some (.int .i64 a0) ∧ w'.cell? ⟨ka, 1, none⟩ = some (.int .i64 a1) ∧ w'.cell? ⟨kb, 0, none⟩ = some (.int .i64 b0) ∧ w'.cell? ⟨kb, 1, none⟩ = some (.int .i64 b1) ∧ w'.cell? ⟨kc, 0, none⟩ = some (.int .i64 c0) ∧ w'.cell? ⟨kc, 1, none⟩ = some (.int .i64 c1) ∧ w'.cell? ⟨kd, 0, none⟩ = some (.int .i64 d0) ∧ w'.cell? ⟨kd, 1, none⟩ = some (.int .i64 d1) ∧ Below W.heap.size W w' ∧ w.heap.size ≤ w'.heap.size ∧ w'.frozen? ⟨kz, 0, none⟩ = false ∧ w'.frozen? ⟨kz, 1, none⟩ = false ∧ (L 18 = false → w'.cell? ⟨kz, 0, none⟩ = some (.int .i64 z0) ∧ w'.cell? ⟨kz, 1, none⟩ = some (.int .u64 z1)) ∧ (L 18 = true → w'.cell? ⟨kz, 0, none⟩ = some (.int .i64 y0) ∧ w'.cell? ⟨kz, 1, none⟩ = some (.int .u64 y1))) () (by kernel_rfl) ho ht ⟨ac0, ac1, bc0, bc1, cc0, cc1, ddc0, ddc1, bd HB0, Nat.le_refl _, zz0, zz1, fun _ => ⟨cz0, cz1⟩, fun h => (by cases h)⟩ ?_ ?_
  · intro i o hoi g L b w' hun hdn hpre hT hS
    clear he ac0 ac1 bc0 bc1 cc0 cc1 ddc0 ddc1 cz0 cz1 zz0 zz1 ho hsz ht HB0
    have hi : i < (regOps Try.f54 8).size := (Array.getElem?_eq_some_iff.1 hoi).1
    rw [show (regOps Try.f54 8).size = 19 by kernel_rfl] at hi
    obtain ⟨ac0, ac1, bc0, bc1, cc0, cc1, ddc0, ddc1, HB, szw, zz0, zz1, oz, nz⟩ := hS
    have hcases : i = 0 ∨ i = 1 ∨ i = 2 ∨ i = 3 ∨ i = 4 ∨ i = 5 ∨ i = 6 ∨ i = 7 ∨ i = 8 ∨ i = 9 ∨ i = 10 ∨ i = 11 ∨ i = 12 ∨ i = 13 ∨ i = 14 ∨ i = 15 ∨ i = 16 ∨ i = 17 ∨ i = 18 := by omega
    rcases hcases with rfl | rfl | rfl | rfl | rfl | rfl | rfl | rfl | rfl | rfl | rfl | rfl | rfl | rfl | rfl | rfl | rfl | rfl | rfl
    · have hlit : (regOps Try.f54 8)[0]? = some ({ dst := some 98, op := Op.load 73 (Operand.tmp 16), type := 73, pos := "geom.go:198", after := #[], guard := none }) := by kernel_rfl
      obtain rfl := Option.some.inj (hlit.symm.trans hoi)
      have r16 : b.tmps.getD 16 undef = (.pointer (some ⟨kz, 0, none⟩)) := rd ((hT.old 16 (by kernel_rfl)).trans t16)
      have nl : L 18 = false := Down.not (fun h => (hdn.step (k := 17) (j := 0) (by kernel_rfl) (hdn.step (k := 18) (j := 17) (by kernel_rfl) h))) hun
      obtain ⟨cz0, cz1⟩ := oz nl
      refine op_go hoi (want_all rfl) fun K hK => ?_
      clear hT hpre hlit hoi hdn
      go_simp
      exact hK _ _ ⟨(), fun _ _ => rfl, rfl, ac0, ac1, bc0, bc1, cc0, cc1, ddc0, ddc1, HB, szw, zz0, zz1, oz, nz⟩
    · have hlit : (regOps Try.f54 8)[1]? = some ({ dst := some 99, op := Op.move (Operand.tmp 12), type := 3, pos := "geom.go:198", after := #[], guard := none }) := by kernel_rfl
      obtain rfl := Option.some.inj (hlit.symm.trans hoi)
      have r12 : b.tmps.getD 12 undef = (.int .i64 v0) := rd ((hT.old 12 (by kernel_rfl)).trans t12)
      refine op_go hoi (want_all rfl) fun K hK => ?_
      clear hT hpre hlit hoi hdn
      go_simp
      exact hK _ _ ⟨(), fun _ _ => rfl, rfl, ac0, ac1, bc0, bc1, cc0, cc1, ddc0, ddc1, HB, szw, zz0, zz1, oz, nz⟩
    · have hlit : (regOps Try.f54 8)[2]? = some ({ dst := some 100, op := Op.move (Operand.tmp 12), type := 3, pos := "geom.go:198", after := #[], guard := none }) := by kernel_rfl
      obtain rfl := Option.some.inj (hlit.symm.trans hoi)
      have r12 : b.tmps.getD 12 undef = (.int .i64 v0) := rd ((hT.old 12 (by kernel_rfl)).trans t12)
      refine op_go hoi (want_all rfl) fun K hK => ?_
      clear hT hpre hlit hoi hdn
      go_simp
      exact hK _ _ ⟨(), fun _ _ => rfl, rfl, ac0, ac1, bc0, bc1, cc0, cc1, ddc0, ddc1, HB, szw, zz0, zz1, oz, nz⟩
    · have hlit : (regOps Try.f54 8)[3]? = some ({ dst := some 101, op := Op.binOp BinOp.mul 3 (Operand.tmp 99) (Operand.tmp 100) 3, type := 3, pos := "geom.go:198", after := #[{ on := 1, ground := Ground.data }, { on := 2, ground := Ground.data }], guard := none }) := by kernel_rfl
      obtain rfl := Option.some.inj (hlit.symm.trans hoi)
      have r99 : b.tmps.getD 99 undef = (.int .i64 v0) := rd (hT.at 1 (by kernel_rfl) (pre_of hpre 1 (by kernel_rfl)))
      have r100 : b.tmps.getD 100 undef = (.int .i64 v0) := rd (hT.at 2 (by kernel_rfl) (pre_of hpre 2 (by kernel_rfl)))
      refine op_go hoi (want_all rfl) fun K hK => ?_
      clear hT hpre hlit hoi hdn
      go_simp
      exact hK _ _ ⟨(), fun _ _ => rfl, rfl, ac0, ac1, bc0, bc1, cc0, cc1, ddc0, ddc1, HB, szw, zz0, zz1, oz, nz⟩
    · have hlit : (regOps Try.f54 8)[4]? = some ({ dst := some 102, op := Op.move (Operand.tmp 13), type := 3, pos := "geom.go:198", after := #[], guard := none }) := by kernel_rfl
      obtain rfl := Option.some.inj (hlit.symm.trans hoi)
      have r13 : b.tmps.getD 13 undef = (.int .i64 v1) := rd ((hT.old 13 (by kernel_rfl)).trans t13)
      refine op_go hoi (want_all rfl) fun K hK => ?_
      clear hT hpre hlit hoi hdn
      go_simp
      exact hK _ _ ⟨(), fun _ _ => rfl, rfl, ac0, ac1, bc0, bc1, cc0, cc1, ddc0, ddc1, HB, szw, zz0, zz1, oz, nz⟩
    · have hlit : (regOps Try.f54 8)[5]? = some ({ dst := some 103, op := Op.move (Operand.tmp 13), type := 3, pos := "geom.go:198", after := #[], guard := none }) := by kernel_rfl
      obtain rfl := Option.some.inj (hlit.symm.trans hoi)
      have r13 : b.tmps.getD 13 undef = (.int .i64 v1) := rd ((hT.old 13 (by kernel_rfl)).trans t13)
      refine op_go hoi (want_all rfl) fun K hK => ?_
      clear hT hpre hlit hoi hdn
      go_simp
      exact hK _ _ ⟨(), fun _ _ => rfl, rfl, ac0, ac1, bc0, bc1, cc0, cc1, ddc0, ddc1, HB, szw, zz0, zz1, oz, nz⟩
    · have hlit : (regOps Try.f54 8)[6]? = some ({ dst := some 104, op := Op.binOp BinOp.mul 3 (Operand.tmp 102) (Operand.tmp 103) 3, type := 3, pos := "geom.go:198", after := #[{ on := 4, ground := Ground.data }, { on := 5, ground := Ground.data }], guard := none }) := by kernel_rfl
      obtain rfl := Option.some.inj (hlit.symm.trans hoi)
      have r102 : b.tmps.getD 102 undef = (.int .i64 v1) := rd (hT.at 4 (by kernel_rfl) (pre_of hpre 4 (by kernel_rfl)))
      have r103 : b.tmps.getD 103 undef = (.int .i64 v1) := rd (hT.at 5 (by kernel_rfl) (pre_of hpre 5 (by kernel_rfl)))
      refine op_go hoi (want_all rfl) fun K hK => ?_
      clear hT hpre hlit hoi hdn
      go_simp
      exact hK _ _ ⟨(), fun _ _ => rfl, rfl, ac0, ac1, bc0, bc1, cc0, cc1, ddc0, ddc1, HB, szw, zz0, zz1, oz, nz⟩
    · have hlit : (regOps Try.f54 8)[7]? = some ({ dst := some 105, op := Op.binOp BinOp.add 3 (Operand.tmp 101) (Operand.tmp 104) 3, type := 3, pos := "geom.go:198", after := #[{ on := 3, ground := Ground.data }, { on := 6, ground := Ground.data }], guard := none }) := by kernel_rfl
      obtain rfl := Option.some.inj (hlit.symm.trans hoi)
      have r101 : b.tmps.getD 101 undef = (.int .i64 m1) := rd (hT.at 3 (by kernel_rfl) (pre_of hpre 3 (by kernel_rfl)))
      have r104 : b.tmps.getD 104 undef = (.int .i64 m2) := rd (hT.at 6 (by kernel_rfl) (pre_of hpre 6 (by kernel_rfl)))
      refine op_go hoi (want_all rfl) fun K hK => ?_
      clear hT hpre hlit hoi hdn
      go_simp
      exact hK _ _ ⟨(), fun _ _ => rfl, rfl, ac0, ac1, bc0, bc1, cc0, cc1, ddc0, ddc1, HB, szw, zz0, zz1, oz, nz⟩
    · have hlit : (regOps Try.f54 8)[8]? = some ({ dst := some 106, op := Op.move (Operand.tmp 10), type := 3, pos := "geom.go:198", after := #[], guard := none }) := by kernel_rfl
      obtain rfl := Option.some.inj (hlit.symm.trans hoi)
      have r10 : b.tmps.getD 10 undef = (.int .i64 u0) := rd ((hT.old 10 (by kernel_rfl)).trans t10)
      refine op_go hoi (want_all rfl) fun K hK => ?_
      clear hT hpre hlit hoi hdn
      go_simp
      exact hK _ _ ⟨(), fun _ _ => rfl, rfl, ac0, ac1, bc0, bc1, cc0, cc1, ddc0, ddc1, HB, szw, zz0, zz1, oz, nz⟩
    · have hlit : (regOps Try.f54 8)[9]? = some ({ dst := some 107, op := Op.move (Operand.tmp 15), type := 3, pos := "geom.go:198", after := #[], guard := none }) := by kernel_rfl
      obtain rfl := Option.some.inj (hlit.symm.trans hoi)
      have r15 : b.tmps.getD 15 undef = (.int .i64 x1) := rd ((hT.old 15 (by kernel_rfl)).trans t15)
      refine op_go hoi (want_all rfl) fun K hK => ?_
      clear hT hpre hlit hoi hdn
      go_simp
      exact hK _ _ ⟨(), fun _ _ => rfl, rfl, ac0, ac1, bc0, bc1, cc0, cc1, ddc0, ddc1, HB, szw, zz0, zz1, oz, nz⟩
    · have hlit : (regOps Try.f54 8)[10]? = some ({ dst := some 108, op := Op.binOp BinOp.mul 3 (Operand.tmp 106) (Operand.tmp 107) 3, type := 3, pos := "geom.go:198", after := #[{ on := 8, ground := Ground.data }, { on := 9, ground := Ground.data }], guard := none }) := by kernel_rfl
      obtain rfl := Option.some.inj (hlit.symm.trans hoi)
      have r106 : b.tmps.getD 106 undef = (.int .i64 u0) := rd (hT.at 8 (by kernel_rfl) (pre_of hpre 8 (by kernel_rfl)))
      have r107 : b.tmps.getD 107 undef = (.int .i64 x1) := rd (hT.at 9 (by kernel_rfl) (pre_of hpre 9 (by kernel_rfl)))
      refine op_go hoi (want_all rfl) fun K hK => ?_
      clear hT hpre hlit hoi hdn
      go_simp
      exact hK _ _ ⟨(), fun _ _ => rfl, rfl, ac0, ac1, bc0, bc1, cc0, cc1, ddc0, ddc1, HB, szw, zz0, zz1, oz, nz⟩
    · have hlit : (regOps Try.f54 8)[11]? = some ({ dst := some 109, op := Op.move (Operand.tmp 14), type := 3, pos := "geom.go:198", after := #[], guard := none }) := by kernel_rfl
      obtain rfl := Option.some.inj (hlit.symm.trans hoi)
      have r14 : b.tmps.getD 14 undef = (.int .i64 x0) := rd ((hT.old 14 (by kernel_rfl)).trans t14)
      refine op_go hoi (want_all rfl) fun K hK => ?_
      clear hT hpre hlit hoi hdn
      go_simp
      exact hK _ _ ⟨(), fun _ _ => rfl, rfl, ac0, ac1, bc0, bc1, cc0, cc1, ddc0, ddc1, HB, szw, zz0, zz1, oz, nz⟩
    · have hlit : (regOps Try.f54 8)[12]? = some ({ dst := some 110, op := Op.move (Operand.tmp 11), type := 3, pos := "geom.go:198", after := #[], guard := none }) := by kernel_rfl
      obtain rfl := Option.some.inj (hlit.symm.trans hoi)
      have r11 : b.tmps.getD 11 undef = (.int .i64 u1) := rd ((hT.old 11 (by kernel_rfl)).trans t11)
      refine op_go hoi (want_all rfl) fun K hK => ?_
      clear hT hpre hlit hoi hdn
      go_simp
      exact hK _ _ ⟨(), fun _ _ => rfl, rfl, ac0, ac1, bc0, bc1, cc0, cc1, ddc0, ddc1, HB, szw, zz0, zz1, oz, nz⟩
    · have hlit : (regOps Try.f54 8)[13]? = some ({ dst := some 111, op := Op.binOp BinOp.mul 3 (Operand.tmp 109) (Operand.tmp 110) 3, type := 3, pos := "geom.go:198", after := #[{ on := 11, ground := Ground.data }, { on := 12, ground := Ground.data }], guard := none }) := by kernel_rfl
      obtain rfl := Option.some.inj (hlit.symm.trans hoi)
      have r109 : b.tmps.getD 109 undef = (.int .i64 x0) := rd (hT.at 11 (by kernel_rfl) (pre_of hpre 11 (by kernel_rfl)))
      have r110 : b.tmps.getD 110 undef = (.int .i64 u1) := rd (hT.at 12 (by kernel_rfl) (pre_of hpre 12 (by kernel_rfl)))
      refine op_go hoi (want_all rfl) fun K hK => ?_
      clear hT hpre hlit hoi hdn
      go_simp
      exact hK _ _ ⟨(), fun _ _ => rfl, rfl, ac0, ac1, bc0, bc1, cc0, cc1, ddc0, ddc1, HB, szw, zz0, zz1, oz, nz⟩
    · have hlit : (regOps Try.f54 8)[14]? = some ({ dst := some 112, op := Op.binOp BinOp.sub 3 (Operand.tmp 108) (Operand.tmp 111) 3, type := 3, pos := "geom.go:198", after := #[{ on := 10, ground := Ground.data }, { on := 13, ground := Ground.data }], guard := none }) := by kernel_rfl
      obtain rfl := Option.some.inj (hlit.symm.trans hoi)
      have r108 : b.tmps.getD 108 undef = (.int .i64 m4) := rd (hT.at 10 (by kernel_rfl) (pre_of hpre 10 (by kernel_rfl)))
      have r111 : b.tmps.getD 111 undef = (.int .i64 m5) := rd (hT.at 13 (by kernel_rfl) (pre_of hpre 13 (by kernel_rfl)))
      refine op_go hoi (want_all rfl) fun K hK => ?_
      clear hT hpre hlit hoi hdn
      go_simp
      exact hK _ _ ⟨(), fun _ _ => rfl, rfl, ac0, ac1, bc0, bc1, cc0, cc1, ddc0, ddc1, HB, szw, zz0, zz1, oz, nz⟩
    · have hlit : (regOps Try.f54 8)[15]? = some ({ dst := some 113, op := Op.call { callee := Callee.value (Operand.func 67), args := #[Operand.tmp 105, Operand.tmp 112], argTypes := #[3, 3] }, type := 73, pos := "geom.go:198", after := #[{ on := 7, ground := Ground.data }, { on := 14, ground := Ground.data }], guard := none }) := by kernel_rfl
      obtain rfl := Option.some.inj (hlit.symm.trans hoi)
      have r105 : b.tmps.getD 105 undef = (.int .i64 m3) := rd (hT.at 7 (by kernel_rfl) (pre_of hpre 7 (by kernel_rfl)))
      have r112 : b.tmps.getD 112 undef = (.int .i64 m6) := rd (hT.at 14 (by kernel_rfl) (pre_of hpre 14 (by kernel_rfl)))
      refine op_go hoi (want_all rfl) fun K hK => ?_
      clear hT hpre hlit hoi hdn
      go_simp
      go_at_call 67
      refine (cm w').mono ?_; rintro e w2 ⟨rfl, hb⟩; replace ac0 := ck hb ac0; replace ac1 := ck hb ac1; replace bc0 := ck hb bc0; replace bc1 := ck hb bc1; replace cc0 := ck hb cc0; replace cc1 := ck hb cc1; replace ddc0 := ck hb ddc0; replace ddc1 := ck hb ddc1; replace zz0 := cf hb (Nat.lt_of_lt_of_le ltz szw) zz0; replace zz1 := cf hb (Nat.lt_of_lt_of_le ltz szw) zz1; replace oz : L 18 = false → w2.cell? ⟨kz, 0, none⟩ = some (.int .i64 z0) ∧ w2.cell? ⟨kz, 1, none⟩ = some (.int .u64 z1) := fun h => (by obtain ⟨x0, x1⟩ := oz h; exact ⟨ck hb x0, ck hb x1⟩); replace nz : L 18 = true → w2.cell? ⟨kz, 0, none⟩ = some (.int .i64 y0) ∧ w2.cell? ⟨kz, 1, none⟩ = some (.int .u64 y1) := fun h => (by obtain ⟨x0, x1⟩ := nz h; exact ⟨ck hb x0, ck hb x1⟩); replace szw : w.heap.size ≤ w2.heap.size := Nat.le_trans szw hb.size; replace HB : Below W.heap.size W w2 := bt HB hb; clear hb
      exact hK _ _ ⟨(), fun _ _ => rfl, rfl, ac0, ac1, bc0, bc1, cc0, cc1, ddc0, ddc1, HB, szw, zz0, zz1, oz, nz⟩
    · have hlit : (regOps Try.f54 8)[16]? = some ({ dst := some 114, op := Op.call { callee := Callee.value (Operand.func 73), args := #[Operand.tmp 113], argTypes := #[73] }, type := 73, pos := "geom.go:198", after := #[{ on := 15, ground := Ground.data }, { on := 15, ground := Ground.chain }], guard := none }) := by kernel_rfl
      obtain rfl := Option.some.inj (hlit.symm.trans hoi)
      have r113 : b.tmps.getD 113 undef = (.agg #[.int .i64 p0, .int .u64 p1]) := rd (hT.at 15 (by kernel_rfl) (pre_of hpre 15 (by kernel_rfl)))
      refine op_go hoi (want_all rfl) fun K hK => ?_
      clear hT hpre hlit hoi hdn
      go_simp
      go_at_call 73
      refine (cn w').mono ?_; rintro e w2 ⟨rfl, hb⟩; replace ac0 := ck hb ac0; replace ac1 := ck hb ac1; replace bc0 := ck hb bc0; replace bc1 := ck hb bc1; replace cc0 := ck hb cc0; replace cc1 := ck hb cc1; replace ddc0 := ck hb ddc0; replace ddc1 := ck hb ddc1; replace zz0 := cf hb (Nat.lt_of_lt_of_le ltz szw) zz0; replace zz1 := cf hb (Nat.lt_of_lt_of_le ltz szw) zz1; replace oz : L 18 = false → w2.cell? ⟨kz, 0, none⟩ = some (.int .i64 z0) ∧ w2.cell? ⟨kz, 1, none⟩ = some (.int .u64 z1) := fun h => (by obtain ⟨x0, x1⟩ := oz h; exact ⟨ck hb x0, ck hb x1⟩); replace nz : L 18 = true → w2.cell? ⟨kz, 0, none⟩ = some (.int .i64 y0) ∧ w2.cell? ⟨kz, 1, none⟩ = some (.int .u64 y1) := fun h => (by obtain ⟨x0, x1⟩ := nz h; exact ⟨ck hb x0, ck hb x1⟩); replace szw : w.heap.size ≤ w2.heap.size := Nat.le_trans szw hb.size; replace HB : Below W.heap.size W w2 := bt HB hb; clear hb
      exact hK _ _ ⟨(), fun _ _ => rfl, rfl, ac0, ac1, bc0, bc1, cc0, cc1, ddc0, ddc1, HB, szw, zz0, zz1, oz, nz⟩
    · have hlit : (regOps Try.f54 8)[17]? = some ({ dst := some 115, op := Op.call { callee := Callee.value (Operand.func 72), args := #[Operand.tmp 98, Operand.tmp 114], argTypes := #[73, 73] }, type := 73, pos := "geom.go:198", after := #[{ on := 0, ground := Ground.data }, { on := 16, ground := Ground.data }, { on := 16, ground := Ground.chain }], guard := none }) := by kernel_rfl
      obtain rfl := Option.some.inj (hlit.symm.trans hoi)
      have r98 : b.tmps.getD 98 undef = (.agg #[.int .i64 z0, .int .u64 z1]) := rd (hT.at 0 (by kernel_rfl) (pre_of hpre 0 (by kernel_rfl)))
      have r114 : b.tmps.getD 114 undef = (.agg #[.int .i64 q0, .int .u64 q1]) := rd (hT.at 16 (by kernel_rfl) (pre_of hpre 16 (by kernel_rfl)))
      refine op_go hoi (want_all rfl) fun K hK => ?_
      clear hT hpre hlit hoi hdn
      go_simp
      go_at_call 72
      refine (ca w').mono ?_; rintro e w2 ⟨rfl, hb⟩; replace ac0 := ck hb ac0; replace ac1 := ck hb ac1; replace bc0 := ck hb bc0; replace bc1 := ck hb bc1; replace cc0 := ck hb cc0; replace cc1 := ck hb cc1; replace ddc0 := ck hb ddc0; replace ddc1 := ck hb ddc1; replace zz0 := cf hb (Nat.lt_of_lt_of_le ltz szw) zz0; replace zz1 := cf hb (Nat.lt_of_lt_of_le ltz szw) zz1; replace oz : L 18 = false → w2.cell? ⟨kz, 0, none⟩ = some (.int .i64 z0) ∧ w2.cell? ⟨kz, 1, none⟩ = some (.int .u64 z1) := fun h => (by obtain ⟨x0, x1⟩ := oz h; exact ⟨ck hb x0, ck hb x1⟩); replace nz : L 18 = true → w2.cell? ⟨kz, 0, none⟩ = some (.int .i64 y0) ∧ w2.cell? ⟨kz, 1, none⟩ = some (.int .u64 y1) := fun h => (by obtain ⟨x0, x1⟩ := nz h; exact ⟨ck hb x0, ck hb x1⟩); replace szw : w.heap.size ≤ w2.heap.size := Nat.le_trans szw hb.size; replace HB : Below W.heap.size W w2 := bt HB hb; clear hb
      exact hK _ _ ⟨(), fun _ _ => rfl, rfl, ac0, ac1, bc0, bc1, cc0, cc1, ddc0, ddc1, HB, szw, zz0, zz1, oz, nz⟩
    · have hlit : (regOps Try.f54 8)[18]? = some ({ dst := none, op := Op.store 73 (Operand.tmp 16) (Operand.tmp 115), type := 0, pos := "geom.go:198", after := #[{ on := 17, ground := Ground.data }, { on := 17, ground := Ground.chain }, { on := 0, ground := Ground.phase }, { on := 1, ground := Ground.phase }, { on := 2, ground := Ground.phase }, { on := 3, ground := Ground.phase }, { on := 4, ground := Ground.phase }, { on := 5, ground := Ground.phase }, { on := 6, ground := Ground.phase }, { on := 7, ground := Ground.phase }, { on := 8, ground := Ground.phase }, { on := 9, ground := Ground.phase }, { on := 10, ground := Ground.phase }, { on := 11, ground := Ground.phase }, { on := 12, ground := Ground.phase }, { on := 13, ground := Ground.phase }, { on := 14, ground := Ground.phase }, { on := 15, ground := Ground.phase }, { on := 16, ground := Ground.phase }, { on := 17, ground := Ground.phase }], guard := none }) := by kernel_rfl
      obtain rfl := Option.some.inj (hlit.symm.trans hoi)
      have r16 : b.tmps.getD 16 undef = (.pointer (some ⟨kz, 0, none⟩)) := rd ((hT.old 16 (by kernel_rfl)).trans t16)
      have r115 : b.tmps.getD 115 undef = (.agg #[.int .i64 y0, .int .u64 y1]) := rd (hT.at 17 (by kernel_rfl) (pre_of hpre 17 (by kernel_rfl)))
      obtain ⟨cz0, cz1⟩ := oz hun
      refine op_go hoi (want_all rfl) fun K hK => ?_
      clear hT hpre hlit hoi hdn
      go_simp
      exact hK _ _ ⟨(), fun _ _ => rfl, rfl, so (so (ac0) nekakz) nekakz, so (so (ac1) nekakz) nekakz, so (so (bc0) nekbkz) nekbkz, so (so (bc1) nekbkz) nekbkz, so (so (cc0) nekckz) nekckz, so (so (cc1) nekckz) nekckz, so (so (ddc0) nekdkz) nekdkz, so (so (ddc1) nekdkz) nekdkz, bs (bs (HB) gez _) gez _, sz (sz (szw)), sf (sf (zz0)), sf (sf (zz1)), fun h => (by cases h), fun _ => ⟨sb (ss (cz0)) (by decide), ss (sb (cz1) (by decide))⟩⟩
  · intro g b w' hT hS
    rw [hT.all ht]
    have hn : (regOps Try.f54 8).size = 19 := by kernel_rfl
    rw [hn] at hS ⊢
    obtain ⟨ac0, ac1, bc0, bc1, cc0, cc1, ddc0, ddc1, HB, szw, zz0, zz1, oz, nz⟩ := hS
    obtain ⟨cz0, cz1⟩ := nz rfl
    exact he w' ⟨ac0, ac1, bc0, bc1, cc0, cc1, ddc0, ddc1, HB⟩ ⟨zz0, zz1, cz0, cz1⟩

/-- What each operation of the region leaves. -/
def region54_9V (u0 u1 v0 v1 x0 x1 z0 z1 p0 p1 y0 y1 m1 m2 m3 m4 m5 m6 : Int) : Nat → Value
  | 0 => .agg #[.int .i64 z0, .int .u64 z1]
  | 1 => .int .i64 x0
  | 2 => .int .i64 x0
  | 3 => .int .i64 m1
  | 4 => .int .i64 x1
  | 5 => .int .i64 x1
  | 6 => .int .i64 m2
  | 7 => .int .i64 m3
  | 8 => .int .i64 u0
  | 9 => .int .i64 v1
  | 10 => .int .i64 m4
  | 11 => .int .i64 v0
  | 12 => .int .i64 u1
  | 13 => .int .i64 m5
  | 14 => .int .i64 m6
  | 15 => .agg #[.int .i64 p0, .int .u64 p1]
  | 16 => .agg #[.int .i64 y0, .int .u64 y1]
  | 17 => undef
  | _ => undef

set_option maxHeartbeats 4000000 in
set_option maxRecDepth 100000 in
theorem region54_9 (a0 a1 b0 b1 c0 c1 d0 d1 u0 u1 v0 v1 x0 x1 z0 z1 p0 p1 y0 y1 m1 m2 m3 m4 m5 m6 : Int) (ka kb kc kd kz : Nat) (W : World) (eq1 : IntKind.i64.wrap (x0 * x0) = m1) (eq2 : IntKind.i64.wrap (x1 * x1) = m2) (eq3 : IntKind.i64.wrap (m1 + m2) = m3) (eq4 : IntKind.i64.wrap (u0 * v1) = m4) (eq5 : IntKind.i64.wrap (v0 * u1) = m5) (eq6 : IntKind.i64.wrap (m4 - m5) = m6) (cm : ∀ w : World, Calls Try.prog 67 #[.int .i64 m3, .int .i64 m6] w fun e w' => e = .returned (.agg #[.int .i64 p0, .int .u64 p1]) ∧ Below w.heap.size w w') (ca : ∀ w : World, Calls Try.prog 72 #[.agg #[.int .i64 z0, .int .u64 z1], .agg #[.int .i64 p0, .int .u64 p1]] w fun e w' => e = .returned (.agg #[.int .i64 y0, .int .u64 y1]) ∧ Below w.heap.size w w') (nekakz : ¬ ka = kz) (nekbkz : ¬ kb = kz) (nekckz : ¬ kc = kz) (nekdkz : ¬ kd = kz) {id : Nat} {ops : Array Oper} {Q : Exit → Act → World → Prop} {a : Act} {w : World}
    (ho : ops = (regOps Try.f54 9)) (hsz : a.tmps.size = 179) (t10 : a.tmps[10]? = some (.int .i64 u0)) (t11 : a.tmps[11]? = some (.int .i64 u1)) (t12 : a.tmps[12]? = some (.int .i64 v0)) (t13 : a.tmps[13]? = some (.int .i64 v1)) (t14 : a.tmps[14]? = some (.int .i64 x0)) (t15 : a.tmps[15]? = some (.int .i64 x1)) (t16 : a.tmps[16]? = some (.pointer (some ⟨kz, 0, none⟩))) (gez : W.heap.size ≤ kz)
    (h0 : w.cell? ⟨ka, 0, none⟩ = some (.int .i64 a0) ∧ w.cell? ⟨ka, 1, none⟩ = some (.int .i64 a1) ∧ w.cell? ⟨kb, 0, none⟩ = some (.int .i64 b0) ∧ w.cell? ⟨kb, 1, none⟩ = some (.int .i64 b1) ∧ w.cell? ⟨kc, 0, none⟩ = some (.int .i64 c0) ∧ w.cell? ⟨kc, 1, none⟩ = some (.int .i64 c1) ∧ w.cell? ⟨kd, 0, none⟩ = some (.int .i64 d0) ∧ w.cell? ⟨kd, 1, none⟩ = some (.int .i64 d1) ∧ Below W.heap.size W w) (hs0 : w.frozen? ⟨kz, 0, none⟩ = false ∧ w.frozen? ⟨kz, 1, none⟩ = false ∧ w.cell? ⟨kz, 0, none⟩ = some (.int .i64 z0) ∧ w.cell? ⟨kz, 1, none⟩ = some (.int .u64 z1))
    (he : ∀ w', w'.cell? ⟨ka, 0, none⟩ = some (.int .i64 a0) ∧ w'.cell? ⟨ka, 1, none⟩ = some (.int .i64 a1) ∧ w'.cell? ⟨kb, 0, none⟩ = some (.int .i64 b0) ∧ w'.cell? ⟨kb, 1, none⟩ = some (.int .i64 b1) ∧ w'.cell? ⟨kc, 0, none⟩ = some (.int .i64 c0) ∧ w'.cell? ⟨kc, 1, none⟩ = some (.int .i64 c1) ∧ w'.cell? ⟨kd, 0, none⟩ = some (.int .i64 d0) ∧ w'.cell? ⟨kd, 1, none⟩ = some (.int .i64 d1) ∧ Below W.heap.size W w' → w'.frozen? ⟨kz, 0, none⟩ = false ∧ w'.frozen? ⟨kz, 1, none⟩ = false ∧ w'.cell? ⟨kz, 0, none⟩ = some (.int .i64 y0) ∧ w'.cell? ⟨kz, 1, none⟩ = some (.int .u64 y1) → Q .normal ⟨(((((((((((((((((a.tmps.setIfInBounds 116 (.agg #[.int .i64 z0, .int .u64 z1])).setIfInBounds 117 (.int .i64 x0)).setIfInBounds 118 (.int .i64 x0)).setIfInBounds 119 (.int .i64 m1)).setIfInBounds 120 (.int .i64 x1)).setIfInBounds 121 (.int .i64 x1)).setIfInBounds 122 (.int .i64 m2)).setIfInBounds 123 (.int .i64 m3)).setIfInBounds 124 (.int .i64 u0)).setIfInBounds 125 (.int .i64 v1)).setIfInBounds 126 (.int .i64 m4)).setIfInBounds 127 (.int .i64 v0)).setIfInBounds 128 (.int .i64 u1)).setIfInBounds 129 (.int .i64 m5)).setIfInBounds 130 (.int .i64 m6)).setIfInBounds 131 (.agg #[.int .i64 p0, .int .u64 p1])).setIfInBounds 132 (.agg #[.int .i64 y0, .int .u64 y1])), a.defers⟩ w') :
    (Code.region id ops true).wp Try.prog Q a w := by
  have ht : tidy (regOps Try.f54 9) a.tmps.size = true := by rw [hsz]; kernel_rfl
  obtain ⟨ac0, ac1, bc0, bc1, cc0, cc1, ddc0, ddc1, HB0⟩ := h0
  obtain ⟨zz0, zz1, cz0, cz1⟩ := hs0
  have ltz := World.block_lt_of_cell? w _ cz0
  refine region_tab2 (G := Unit) (fun _ => (region54_9V u0 u1 v0 v1 x0 x1 z0 z1 p0 p1 y0 y1 m1 m2 m3 m4 m5 m6 )) (fun _ L w' => w'.cell? ⟨ka, 0, none⟩ = some (.int .i64 a0) ∧ w'.cell? ⟨ka, 1, none⟩ = some (.int .i64 a1) ∧ w'.cell? ⟨kb, 0, none⟩ = some (.int .i64 b0) ∧ w'.cell? ⟨kb, 1, none⟩ = some (.int .i64 b1) ∧ w'.cell? ⟨kc, 0, none⟩ = some (.int .i64 c0) ∧ w'.cell? ⟨kc, 1, none⟩ = some (.int .i64 c1) ∧ w'.cell? ⟨kd, 0, none⟩ = some (.int .i64 d0) ∧ w'.cell? ⟨kd, 1, none⟩ = some (.int .i64 d1) ∧ Below W.heap.size W w' ∧ w.heap.size ≤ w'.heap.size ∧ w'.frozen? ⟨kz, 0, none⟩ = false ∧ w'.frozen? ⟨kz, 1, none⟩ = false ∧ (L 17 = false → w'.cell? ⟨kz, 0, none⟩ = some (.int .i64 z0) ∧ w'.cell? ⟨kz, 1, none⟩ = some (.int .u64 z1)) ∧ (L 17 = true → w'.cell? ⟨kz, 0, none⟩ = some (.int .i64 y0) ∧ w'.cell? ⟨kz, 1, none⟩ = some (.int .u64 y1))) () (by kernel_rfl) ho ht ⟨ac0, ac1, bc0, bc1, cc0, cc1, ddc0, ddc1, bd HB0, Nat.le_refl _, zz0, zz1, fun _ => ⟨cz0, cz1⟩, fun h => (by cases h)⟩ ?_ ?_
  · intro i o hoi g L b w' hun hdn hpre hT hS
    clear he ac0 ac1 bc0 bc1 cc0 cc1 ddc0 ddc1 cz0 cz1 zz0 zz1 ho hsz ht HB0
    have hi : i < (regOps Try.f54 9).size := (Array.getElem?_eq_some_iff.1 hoi).1
    rw [show (regOps Try.f54 9).size = 18 by kernel_rfl] at hi
    obtain ⟨ac0, ac1, bc0, bc1, cc0, cc1, ddc0, ddc1, HB, szw, zz0, zz1, oz, nz⟩ := hS
    have hcases : i = 0 ∨ i = 1 ∨ i = 2 ∨ i = 3 ∨ i = 4 ∨ i = 5 ∨ i = 6 ∨ i = 7 ∨ i = 8 ∨ i = 9 ∨ i = 10 ∨ i = 11 ∨ i = 12 ∨ i = 13 ∨ i = 14 ∨ i = 15 ∨ i = 16 ∨ i = 17 := by omega
    rcases hcases with rfl | rfl | rfl | rfl | rfl | rfl | rfl | rfl | rfl | rfl | rfl | rfl | rfl | rfl | rfl | rfl | rfl | rfl
    · have hlit : (regOps Try.f54 9)[0]? = some ({ dst := some 116, op := Op.load 73 (Operand.tmp 16), type := 73, pos := "geom.go:199", after := #[], guard := none }) := by kernel_rfl
      obtain rfl := Option.some.inj (hlit.symm.trans hoi)
      have r16 : b.tmps.getD 16 undef = (.pointer (some ⟨kz, 0, none⟩)) := rd ((hT.old 16 (by kernel_rfl)).trans t16)
      have nl : L 17 = false := Down.not (fun h => (hdn.step (k := 16) (j := 0) (by kernel_rfl) (hdn.step (k := 17) (j := 16) (by kernel_rfl) h))) hun
      obtain ⟨cz0, cz1⟩ := oz nl
      refine op_go hoi (want_all rfl) fun K hK => ?_
      clear hT hpre hlit hoi hdn
      go_simp
      exact hK _ _ ⟨(), fun _ _ => rfl, rfl, ac0, ac1, bc0, bc1, cc0, cc1, ddc0, ddc1, HB, szw, zz0, zz1, oz, nz⟩
    · have hlit : (regOps Try.f54 9)[1]? = some ({ dst := some 117, op := Op.move (Operand.tmp 14), type := 3, pos := "geom.go:199", after := #[], guard := none }) := by kernel_rfl
      obtain rfl := Option.some.inj (hlit.symm.trans hoi)
      have r14 : b.tmps.getD 14 undef = (.int .i64 x0) := rd ((hT.old 14 (by kernel_rfl)).trans t14)
      refine op_go hoi (want_all rfl) fun K hK => ?_
      clear hT hpre hlit hoi hdn
      go_simp
      exact hK _ _ ⟨(), fun _ _ => rfl, rfl, ac0, ac1, bc0, bc1, cc0, cc1, ddc0, ddc1, HB, szw, zz0, zz1, oz, nz⟩
    · have hlit : (regOps Try.f54 9)[2]? = some ({ dst := some 118, op := Op.move (Operand.tmp 14), type := 3, pos := "geom.go:199", after := #[], guard := none }) := by kernel_rfl
      obtain rfl := Option.some.inj (hlit.symm.trans hoi)
      have r14 : b.tmps.getD 14 undef = (.int .i64 x0) := rd ((hT.old 14 (by kernel_rfl)).trans t14)
      refine op_go hoi (want_all rfl) fun K hK => ?_
      clear hT hpre hlit hoi hdn
      go_simp
      exact hK _ _ ⟨(), fun _ _ => rfl, rfl, ac0, ac1, bc0, bc1, cc0, cc1, ddc0, ddc1, HB, szw, zz0, zz1, oz, nz⟩
    · have hlit : (regOps Try.f54 9)[3]? = some ({ dst := some 119, op := Op.binOp BinOp.mul 3 (Operand.tmp 117) (Operand.tmp 118) 3, type := 3, pos := "geom.go:199", after := #[{ on := 1, ground := Ground.data }, { on := 2, ground := Ground.data }], guard := none }) := by kernel_rfl
      obtain rfl := Option.some.inj (hlit.symm.trans hoi)
      have r117 : b.tmps.getD 117 undef = (.int .i64 x0) := rd (hT.at 1 (by kernel_rfl) (pre_of hpre 1 (by kernel_rfl)))
      have r118 : b.tmps.getD 118 undef = (.int .i64 x0) := rd (hT.at 2 (by kernel_rfl) (pre_of hpre 2 (by kernel_rfl)))
      refine op_go hoi (want_all rfl) fun K hK => ?_
      clear hT hpre hlit hoi hdn
      go_simp
      exact hK _ _ ⟨(), fun _ _ => rfl, rfl, ac0, ac1, bc0, bc1, cc0, cc1, ddc0, ddc1, HB, szw, zz0, zz1, oz, nz⟩
    · have hlit : (regOps Try.f54 9)[4]? = some ({ dst := some 120, op := Op.move (Operand.tmp 15), type := 3, pos := "geom.go:199", after := #[], guard := none }) := by kernel_rfl
      obtain rfl := Option.some.inj (hlit.symm.trans hoi)
      have r15 : b.tmps.getD 15 undef = (.int .i64 x1) := rd ((hT.old 15 (by kernel_rfl)).trans t15)
      refine op_go hoi (want_all rfl) fun K hK => ?_
      clear hT hpre hlit hoi hdn
      go_simp
      exact hK _ _ ⟨(), fun _ _ => rfl, rfl, ac0, ac1, bc0, bc1, cc0, cc1, ddc0, ddc1, HB, szw, zz0, zz1, oz, nz⟩
    · have hlit : (regOps Try.f54 9)[5]? = some ({ dst := some 121, op := Op.move (Operand.tmp 15), type := 3, pos := "geom.go:199", after := #[], guard := none }) := by kernel_rfl
      obtain rfl := Option.some.inj (hlit.symm.trans hoi)
      have r15 : b.tmps.getD 15 undef = (.int .i64 x1) := rd ((hT.old 15 (by kernel_rfl)).trans t15)
      refine op_go hoi (want_all rfl) fun K hK => ?_
      clear hT hpre hlit hoi hdn
      go_simp
      exact hK _ _ ⟨(), fun _ _ => rfl, rfl, ac0, ac1, bc0, bc1, cc0, cc1, ddc0, ddc1, HB, szw, zz0, zz1, oz, nz⟩
    · have hlit : (regOps Try.f54 9)[6]? = some ({ dst := some 122, op := Op.binOp BinOp.mul 3 (Operand.tmp 120) (Operand.tmp 121) 3, type := 3, pos := "geom.go:199", after := #[{ on := 4, ground := Ground.data }, { on := 5, ground := Ground.data }], guard := none }) := by kernel_rfl
      obtain rfl := Option.some.inj (hlit.symm.trans hoi)
      have r120 : b.tmps.getD 120 undef = (.int .i64 x1) := rd (hT.at 4 (by kernel_rfl) (pre_of hpre 4 (by kernel_rfl)))
      have r121 : b.tmps.getD 121 undef = (.int .i64 x1) := rd (hT.at 5 (by kernel_rfl) (pre_of hpre 5 (by kernel_rfl)))
      refine op_go hoi (want_all rfl) fun K hK => ?_
      clear hT hpre hlit hoi hdn
      go_simp
      exact hK _ _ ⟨(), fun _ _ => rfl, rfl, ac0, ac1, bc0, bc1, cc0, cc1, ddc0, ddc1, HB, szw, zz0, zz1, oz, nz⟩
    · have hlit : (regOps Try.f54 9)[7]? = some ({ dst := some 123, op := Op.binOp BinOp.add 3 (Operand.tmp 119) (Operand.tmp 122) 3, type := 3, pos := "geom.go:199", after := #[{ on := 3, ground := Ground.data }, { on := 6, ground := Ground.data }], guard := none }) := by kernel_rfl
      obtain rfl := Option.some.inj (hlit.symm.trans hoi)
      have r119 : b.tmps.getD 119 undef = (.int .i64 m1) := rd (hT.at 3 (by kernel_rfl) (pre_of hpre 3 (by kernel_rfl)))
      have r122 : b.tmps.getD 122 undef = (.int .i64 m2) := rd (hT.at 6 (by kernel_rfl) (pre_of hpre 6 (by kernel_rfl)))
      refine op_go hoi (want_all rfl) fun K hK => ?_
      clear hT hpre hlit hoi hdn
      go_simp
      exact hK _ _ ⟨(), fun _ _ => rfl, rfl, ac0, ac1, bc0, bc1, cc0, cc1, ddc0, ddc1, HB, szw, zz0, zz1, oz, nz⟩
    · have hlit : (regOps Try.f54 9)[8]? = some ({ dst := some 124, op := Op.move (Operand.tmp 10), type := 3, pos := "geom.go:199", after := #[], guard := none }) := by kernel_rfl
      obtain rfl := Option.some.inj (hlit.symm.trans hoi)
      have r10 : b.tmps.getD 10 undef = (.int .i64 u0) := rd ((hT.old 10 (by kernel_rfl)).trans t10)
      refine op_go hoi (want_all rfl) fun K hK => ?_
      clear hT hpre hlit hoi hdn
      go_simp
      exact hK _ _ ⟨(), fun _ _ => rfl, rfl, ac0, ac1, bc0, bc1, cc0, cc1, ddc0, ddc1, HB, szw, zz0, zz1, oz, nz⟩
    · have hlit : (regOps Try.f54 9)[9]? = some ({ dst := some 125, op := Op.move (Operand.tmp 13), type := 3, pos := "geom.go:199", after := #[], guard := none }) := by kernel_rfl
      obtain rfl := Option.some.inj (hlit.symm.trans hoi)
      have r13 : b.tmps.getD 13 undef = (.int .i64 v1) := rd ((hT.old 13 (by kernel_rfl)).trans t13)
      refine op_go hoi (want_all rfl) fun K hK => ?_
      clear hT hpre hlit hoi hdn
      go_simp
      exact hK _ _ ⟨(), fun _ _ => rfl, rfl, ac0, ac1, bc0, bc1, cc0, cc1, ddc0, ddc1, HB, szw, zz0, zz1, oz, nz⟩
    · have hlit : (regOps Try.f54 9)[10]? = some ({ dst := some 126, op := Op.binOp BinOp.mul 3 (Operand.tmp 124) (Operand.tmp 125) 3, type := 3, pos := "geom.go:199", after := #[{ on := 8, ground := Ground.data }, { on := 9, ground := Ground.data }], guard := none }) := by kernel_rfl
      obtain rfl := Option.some.inj (hlit.symm.trans hoi)
      have r124 : b.tmps.getD 124 undef = (.int .i64 u0) := rd (hT.at 8 (by kernel_rfl) (pre_of hpre 8 (by kernel_rfl)))
      have r125 : b.tmps.getD 125 undef = (.int .i64 v1) := rd (hT.at 9 (by kernel_rfl) (pre_of hpre 9 (by kernel_rfl)))
      refine op_go hoi (want_all rfl) fun K hK => ?_
      clear hT hpre hlit hoi hdn
      go_simp
      exact hK _ _ ⟨(), fun _ _ => rfl, rfl, ac0, ac1, bc0, bc1, cc0, cc1, ddc0, ddc1, HB, szw, zz0, zz1, oz, nz⟩
    · have hlit : (regOps Try.f54 9)[11]? = some ({ dst := some 127, op := Op.move (Operand.tmp 12), type := 3, pos := "geom.go:199", after := #[], guard := none }) := by kernel_rfl
      obtain rfl := Option.some.inj (hlit.symm.trans hoi)
      have r12 : b.tmps.getD 12 undef = (.int .i64 v0) := rd ((hT.old 12 (by kernel_rfl)).trans t12)
      refine op_go hoi (want_all rfl) fun K hK => ?_
      clear hT hpre hlit hoi hdn
      go_simp
      exact hK _ _ ⟨(), fun _ _ => rfl, rfl, ac0, ac1, bc0, bc1, cc0, cc1, ddc0, ddc1, HB, szw, zz0, zz1, oz, nz⟩
    · have hlit : (regOps Try.f54 9)[12]? = some ({ dst := some 128, op := Op.move (Operand.tmp 11), type := 3, pos := "geom.go:199", after := #[], guard := none }) := by kernel_rfl
      obtain rfl := Option.some.inj (hlit.symm.trans hoi)
      have r11 : b.tmps.getD 11 undef = (.int .i64 u1) := rd ((hT.old 11 (by kernel_rfl)).trans t11)
      refine op_go hoi (want_all rfl) fun K hK => ?_
      clear hT hpre hlit hoi hdn
      go_simp
      exact hK _ _ ⟨(), fun _ _ => rfl, rfl, ac0, ac1, bc0, bc1, cc0, cc1, ddc0, ddc1, HB, szw, zz0, zz1, oz, nz⟩
    · have hlit : (regOps Try.f54 9)[13]? = some ({ dst := some 129, op := Op.binOp BinOp.mul 3 (Operand.tmp 127) (Operand.tmp 128) 3, type := 3, pos := "geom.go:199", after := #[{ on := 11, ground := Ground.data }, { on := 12, ground := Ground.data }], guard := none }) := by kernel_rfl
      obtain rfl := Option.some.inj (hlit.symm.trans hoi)
      have r127 : b.tmps.getD 127 undef = (.int .i64 v0) := rd (hT.at 11 (by kernel_rfl) (pre_of hpre 11 (by kernel_rfl)))
      have r128 : b.tmps.getD 128 undef = (.int .i64 u1) := rd (hT.at 12 (by kernel_rfl) (pre_of hpre 12 (by kernel_rfl)))
      refine op_go hoi (want_all rfl) fun K hK => ?_
      clear hT hpre hlit hoi hdn
      go_simp
      exact hK _ _ ⟨(), fun _ _ => rfl, rfl, ac0, ac1, bc0, bc1, cc0, cc1, ddc0, ddc1, HB, szw, zz0, zz1, oz, nz⟩
    · have hlit : (regOps Try.f54 9)[14]? = some ({ dst := some 130, op := Op.binOp BinOp.sub 3 (Operand.tmp 126) (Operand.tmp 129) 3, type := 3, pos := "geom.go:199", after := #[{ on := 10, ground := Ground.data }, { on := 13, ground := Ground.data }], guard := none }) := by kernel_rfl
      obtain rfl := Option.some.inj (hlit.symm.trans hoi)
      have r126 : b.tmps.getD 126 undef = (.int .i64 m4) := rd (hT.at 10 (by kernel_rfl) (pre_of hpre 10 (by kernel_rfl)))
      have r129 : b.tmps.getD 129 undef = (.int .i64 m5) := rd (hT.at 13 (by kernel_rfl) (pre_of hpre 13 (by kernel_rfl)))
      refine op_go hoi (want_all rfl) fun K hK => ?_
      clear hT hpre hlit hoi hdn
      go_simp
      exact hK _ _ ⟨(), fun _ _ => rfl, rfl, ac0, ac1, bc0, bc1, cc0, cc1, ddc0, ddc1, HB, szw, zz0, zz1, oz, nz⟩
    · have hlit : (regOps Try.f54 9)[15]? = some ({ dst := some 131, op := Op.call { callee := Callee.value (Operand.func 67), args := #[Operand.tmp 123, Operand.tmp 130], argTypes := #[3, 3] }, type := 73, pos := "geom.go:199", after := #[{ on := 7, ground := Ground.data }, { on := 14, ground := Ground.data }], guard := none }) := by kernel_rfl
      obtain rfl := Option.some.inj (hlit.symm.trans hoi)
      have r123 : b.tmps.getD 123 undef = (.int .i64 m3) := rd (hT.at 7 (by kernel_rfl) (pre_of hpre 7 (by kernel_rfl)))
      have r130 : b.tmps.getD 130 undef = (.int .i64 m6) := rd (hT.at 14 (by kernel_rfl) (pre_of hpre 14 (by kernel_rfl)))
      refine op_go hoi (want_all rfl) fun K hK => ?_
      clear hT hpre hlit hoi hdn
      go_simp
      go_at_call 67
      refine (cm w').mono ?_; rintro e w2 ⟨rfl, hb⟩; replace ac0 := ck hb ac0; replace ac1 := ck hb ac1; replace bc0 := ck hb bc0; replace bc1 := ck hb bc1; replace cc0 := ck hb cc0; replace cc1 := ck hb cc1; replace ddc0 := ck hb ddc0; replace ddc1 := ck hb ddc1; replace zz0 := cf hb (Nat.lt_of_lt_of_le ltz szw) zz0; replace zz1 := cf hb (Nat.lt_of_lt_of_le ltz szw) zz1; replace oz : L 17 = false → w2.cell? ⟨kz, 0, none⟩ = some (.int .i64 z0) ∧ w2.cell? ⟨kz, 1, none⟩ = some (.int .u64 z1) := fun h => (by obtain ⟨x0, x1⟩ := oz h; exact ⟨ck hb x0, ck hb x1⟩); replace nz : L 17 = true → w2.cell? ⟨kz, 0, none⟩ = some (.int .i64 y0) ∧ w2.cell? ⟨kz, 1, none⟩ = some (.int .u64 y1) := fun h => (by obtain ⟨x0, x1⟩ := nz h; exact ⟨ck hb x0, ck hb x1⟩); replace szw : w.heap.size ≤ w2.heap.size := Nat.le_trans szw hb.size; replace HB : Below W.heap.size W w2 := bt HB hb; clear hb
      exact hK _ _ ⟨(), fun _ _ => rfl, rfl, ac0, ac1, bc0, bc1, cc0, cc1, ddc0, ddc1, HB, szw, zz0, zz1, oz, nz⟩
    · have hlit : (regOps Try.f54 9)[16]? = some ({ dst := some 132, op := Op.call { callee := Callee.value (Operand.func 72), args := #[Operand.tmp 116, Operand.tmp 131], argTypes := #[73, 73] }, type := 73, pos := "geom.go:199", after := #[{ on := 0, ground := Ground.data }, { on := 15, ground := Ground.data }, { on := 15, ground := Ground.chain }], guard := none }) := by kernel_rfl
      obtain rfl := Option.some.inj (hlit.symm.trans hoi)
      have r116 : b.tmps.getD 116 undef = (.agg #[.int .i64 z0, .int .u64 z1]) := rd (hT.at 0 (by kernel_rfl) (pre_of hpre 0 (by kernel_rfl)))
      have r131 : b.tmps.getD 131 undef = (.agg #[.int .i64 p0, .int .u64 p1]) := rd (hT.at 15 (by kernel_rfl) (pre_of hpre 15 (by kernel_rfl)))
      refine op_go hoi (want_all rfl) fun K hK => ?_
      clear hT hpre hlit hoi hdn
      go_simp
      go_at_call 72
      refine (ca w').mono ?_; rintro e w2 ⟨rfl, hb⟩; replace ac0 := ck hb ac0; replace ac1 := ck hb ac1; replace bc0 := ck hb bc0; replace bc1 := ck hb bc1; replace cc0 := ck hb cc0; replace cc1 := ck hb cc1; replace ddc0 := ck hb ddc0; replace ddc1 := ck hb ddc1; replace zz0 := cf hb (Nat.lt_of_lt_of_le ltz szw) zz0; replace zz1 := cf hb (Nat.lt_of_lt_of_le ltz szw) zz1; replace oz : L 17 = false → w2.cell? ⟨kz, 0, none⟩ = some (.int .i64 z0) ∧ w2.cell? ⟨kz, 1, none⟩ = some (.int .u64 z1) := fun h => (by obtain ⟨x0, x1⟩ := oz h; exact ⟨ck hb x0, ck hb x1⟩); replace nz : L 17 = true → w2.cell? ⟨kz, 0, none⟩ = some (.int .i64 y0) ∧ w2.cell? ⟨kz, 1, none⟩ = some (.int .u64 y1) := fun h => (by obtain ⟨x0, x1⟩ := nz h; exact ⟨ck hb x0, ck hb x1⟩); replace szw : w.heap.size ≤ w2.heap.size := Nat.le_trans szw hb.size; replace HB : Below W.heap.size W w2 := bt HB hb; clear hb
      exact hK _ _ ⟨(), fun _ _ => rfl, rfl, ac0, ac1, bc0, bc1, cc0, cc1, ddc0, ddc1, HB, szw, zz0, zz1, oz, nz⟩
    · have hlit : (regOps Try.f54 9)[17]? = some ({ dst := none, op := Op.store 73 (Operand.tmp 16) (Operand.tmp 132), type := 0, pos := "geom.go:199", after := #[{ on := 16, ground := Ground.data }, { on := 16, ground := Ground.chain }, { on := 0, ground := Ground.phase }, { on := 1, ground := Ground.phase }, { on := 2, ground := Ground.phase }, { on := 3, ground := Ground.phase }, { on := 4, ground := Ground.phase }, { on := 5, ground := Ground.phase }, { on := 6, ground := Ground.phase }, { on := 7, ground := Ground.phase }, { on := 8, ground := Ground.phase }, { on := 9, ground := Ground.phase }, { on := 10, ground := Ground.phase }, { on := 11, ground := Ground.phase }, { on := 12, ground := Ground.phase }, { on := 13, ground := Ground.phase }, { on := 14, ground := Ground.phase }, { on := 15, ground := Ground.phase }, { on := 16, ground := Ground.phase }], guard := none }) := by kernel_rfl
      obtain rfl := Option.some.inj (hlit.symm.trans hoi)
      have r16 : b.tmps.getD 16 undef = (.pointer (some ⟨kz, 0, none⟩)) := rd ((hT.old 16 (by kernel_rfl)).trans t16)
      have r132 : b.tmps.getD 132 undef = (.agg #[.int .i64 y0, .int .u64 y1]) := rd (hT.at 16 (by kernel_rfl) (pre_of hpre 16 (by kernel_rfl)))
      obtain ⟨cz0, cz1⟩ := oz hun
      refine op_go hoi (want_all rfl) fun K hK => ?_
      clear hT hpre hlit hoi hdn
      go_simp
      exact hK _ _ ⟨(), fun _ _ => rfl, rfl, so (so (ac0) nekakz) nekakz, so (so (ac1) nekakz) nekakz, so (so (bc0) nekbkz) nekbkz, so (so (bc1) nekbkz) nekbkz, so (so (cc0) nekckz) nekckz, so (so (cc1) nekckz) nekckz, so (so (ddc0) nekdkz) nekdkz, so (so (ddc1) nekdkz) nekdkz, bs (bs (HB) gez _) gez _, sz (sz (szw)), sf (sf (zz0)), sf (sf (zz1)), fun h => (by cases h), fun _ => ⟨sb (ss (cz0)) (by decide), ss (sb (cz1) (by decide))⟩⟩
  · intro g b w' hT hS
    rw [hT.all ht]
    have hn : (regOps Try.f54 9).size = 18 := by kernel_rfl
    rw [hn] at hS ⊢
    obtain ⟨ac0, ac1, bc0, bc1, cc0, cc1, ddc0, ddc1, HB, szw, zz0, zz1, oz, nz⟩ := hS
    obtain ⟨cz0, cz1⟩ := nz rfl
    exact he w' ⟨ac0, ac1, bc0, bc1, cc0, cc1, ddc0, ddc1, HB⟩ ⟨zz0, zz1, cz0, cz1⟩

end Go.Proofs.Ytandgbpbabmdfaa
