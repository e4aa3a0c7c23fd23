import Derived.Test.YtandgbpbabmdfaaT24
import Derived.Test.YtandgbpbabmdfaaRh
import Derived.Test.YtandgbpbabmdfaaMy
namespace Go.Proofs.Ytandgbpbabmdfaa
open Go.RowKit
attribute [local go_sem high] eq23 eq25 mn_two mx_two mn_three mx_three mx_four

/-- What each operation of the region leaves. -/
def region55aV (p0 p1 a0 a1 b0 b1 : Int) (ks : Nat) : Nat → Value
  | 0 => .agg #[.int .i64 p0, .int .i64 p1]
  | 1 => .agg #[.int .i64 a0, .int .i64 a1]
  | 2 => .agg #[.int .i64 b0, .int .i64 b1]
  | 3 => .slice (some ⟨ks, 0, none⟩) 3 3
  | 4 => .bool false
  | 5 => .bool false
  | 6 => undef
  | 7 => undef
  | 8 => undef
  | 9 => undef
  | 10 => undef
  | 11 => .bool false
  | 12 => .bool false
  | 13 => undef
  | 14 => undef
  | 15 => undef
  | 16 => undef
  | 17 => undef
  | 18 => undef
  | 19 => undef
  | 20 => undef
  | 21 => .bool false
  | 22 => .bool false
  | 23 => undef
  | 24 => undef
  | 25 => undef
  | 26 => undef
  | 27 => undef
  | 28 => undef
  | 29 => undef
  | 30 => undef
  | 31 => .bool false
  | 32 => .bool false
  | _ => undef

set_option maxHeartbeats 4000000 in
set_option maxRecDepth 100000 in
theorem region55a (p0 p1 a0 a1 b0 b1 : Int) (kp ka kb : Nat) (W : World) (m1 : (val ⟨p0, p1⟩ && val ⟨a0, a1⟩ && val ⟨b0, b1⟩) = false) {id : Nat} {ops : Array Oper} {Q : Exit → Act → World → Prop} {a : Act} {w : World}
    (ho : ops = (regOps Try.f55 1)) (hsz : a.tmps.size = 39) (t3 : a.tmps[3]? = some (.pointer (some ⟨kp, 0, none⟩))) (t4 : a.tmps[4]? = some (.pointer (some ⟨ka, 0, none⟩))) (t5 : a.tmps[5]? = some (.pointer (some ⟨kb, 0, none⟩)))
    (h0 : w.cell? ⟨kp, 0, none⟩ = some (.int .i64 p0) ∧ w.cell? ⟨kp, 1, none⟩ = some (.int .i64 p1) ∧ w.cell? ⟨ka, 0, none⟩ = some (.int .i64 a0) ∧ w.cell? ⟨ka, 1, none⟩ = some (.int .i64 a1) ∧ w.cell? ⟨kb, 0, none⟩ = some (.int .i64 b0) ∧ w.cell? ⟨kb, 1, none⟩ = some (.int .i64 b1) ∧ Below W.heap.size W w)
    (he : ∀ ks w', w'.cell? ⟨kp, 0, none⟩ = some (.int .i64 p0) ∧ w'.cell? ⟨kp, 1, none⟩ = some (.int .i64 p1) ∧ w'.cell? ⟨ka, 0, none⟩ = some (.int .i64 a0) ∧ w'.cell? ⟨ka, 1, none⟩ = some (.int .i64 a1) ∧ w'.cell? ⟨kb, 0, none⟩ = some (.int .i64 b0) ∧ w'.cell? ⟨kb, 1, none⟩ = some (.int .i64 b1) ∧ Below W.heap.size W w' → w'.cell? ⟨ks, 0, none⟩ = some (.int .i64 p0) ∧ w'.cell? ⟨ks, 1, none⟩ = some (.int .i64 p1) ∧ w'.cell? ⟨ks, 2, none⟩ = some (.int .i64 a0) ∧ w'.cell? ⟨ks, 3, none⟩ = some (.int .i64 a1) ∧ w'.cell? ⟨ks, 4, none⟩ = some (.int .i64 b0) ∧ w'.cell? ⟨ks, 5, none⟩ = some (.int .i64 b1) ∧ w'.frozen? ⟨ks, 0, none⟩ = false ∧ w'.frozen? ⟨ks, 1, none⟩ = false ∧ w'.frozen? ⟨ks, 2, none⟩ = false ∧ w'.frozen? ⟨ks, 3, none⟩ = false ∧ w'.frozen? ⟨ks, 4, none⟩ = false ∧ w'.frozen? ⟨ks, 5, none⟩ = false ∧ w.heap.size ≤ ks → Q .normal ⟨(((((((((((((((((((((((((((((((((a.tmps.setIfInBounds 7 (.agg #[.int .i64 p0, .int .i64 p1])).setIfInBounds 8 (.agg #[.int .i64 a0, .int .i64 a1])).setIfInBounds 9 (.agg #[.int .i64 b0, .int .i64 b1])).setIfInBounds 10 (.slice (some ⟨ks, 0, none⟩) 3 3)).setIfInBounds 11 (.bool false)).setIfInBounds 12 (.bool false)).setIfInBounds 13 (undef)).setIfInBounds 14 (undef)).setIfInBounds 15 (undef)).setIfInBounds 16 (undef)).setIfInBounds 17 (undef)).setIfInBounds 18 (.bool false)).setIfInBounds 19 (.bool false)).setIfInBounds 20 (undef)).setIfInBounds 21 (undef)).setIfInBounds 22 (undef)).setIfInBounds 23 (undef)).setIfInBounds 24 (undef)).setIfInBounds 25 (undef)).setIfInBounds 26 (undef)).setIfInBounds 27 (undef)).setIfInBounds 28 (.bool false)).setIfInBounds 29 (.bool false)).setIfInBounds 30 (undef)).setIfInBounds 31 (undef)).setIfInBounds 32 (undef)).setIfInBounds 33 (undef)).setIfInBounds 34 (undef)).setIfInBounds 35 (undef)).setIfInBounds 36 (undef)).setIfInBounds 37 (undef)).setIfInBounds 38 (.bool false)).setIfInBounds 6 (.bool false)), a.defers⟩ w') :
    (Code.region id ops true).wp Try.prog Q a w := by
  have ht : tidy (regOps Try.f55 1) a.tmps.size = true := by rw [hsz]; kernel_rfl
  obtain ⟨pc0, pc1, ac0, ac1, bc0, bc1, HB0⟩ := h0
  have lt_kp := World.block_lt_of_cell? w _ pc0
  have lt_ka := World.block_lt_of_cell? w _ ac0
  have lt_kb := World.block_lt_of_cell? w _ bc0
  have sz0 := HB0.size
  refine region_tab (G := Nat) (fun g => (region55aV p0 p1 a0 a1 b0 b1  g)) (fun g L w' => w'.cell? ⟨kp, 0, none⟩ = some (.int .i64 p0) ∧ w'.cell? ⟨kp, 1, none⟩ = some (.int .i64 p1) ∧ w'.cell? ⟨ka, 0, none⟩ = some (.int .i64 a0) ∧ w'.cell? ⟨ka, 1, none⟩ = some (.int .i64 a1) ∧ w'.cell? ⟨kb, 0, none⟩ = some (.int .i64 b0) ∧ w'.cell? ⟨kb, 1, none⟩ = some (.int .i64 b1) ∧ Below W.heap.size W w' ∧ w.heap.size ≤ w'.heap.size ∧ (L 3 = true → w.heap.size ≤ g ∧ w'.frozen? ⟨g, 0, none⟩ = false ∧ w'.frozen? ⟨g, 1, none⟩ = false ∧ w'.frozen? ⟨g, 2, none⟩ = false ∧ w'.frozen? ⟨g, 3, none⟩ = false ∧ w'.frozen? ⟨g, 4, none⟩ = false ∧ w'.frozen? ⟨g, 5, none⟩ = false ∧ ∃ u0 u1 u2 u3 u4 u5 : Int, w'.cell? ⟨g, 0, none⟩ = some (.int .i64 u0) ∧ w'.cell? ⟨g, 1, none⟩ = some (.int .i64 u1) ∧ w'.cell? ⟨g, 2, none⟩ = some (.int .i64 u2) ∧ w'.cell? ⟨g, 3, none⟩ = some (.int .i64 u3) ∧ w'.cell? ⟨g, 4, none⟩ = some (.int .i64 u4) ∧ w'.cell? ⟨g, 5, none⟩ = some (.int .i64 u5) ∧ (L 3 = true → u0 = p0 ∧ u1 = p1 ∧ u2 = a0 ∧ u3 = a1 ∧ u4 = b0 ∧ u5 = b1)) ∧ (L 3 = true → L 3 = true)) 0 (by kernel_rfl) ho ht ⟨pc0, pc1, ac0, ac1, bc0, bc1, bd HB0, Nat.le_refl _, fun h => (by cases h), fun h => (by cases h)⟩ ?_ ?_
  · intro i o hoi ks L b w' hun hpre hT hS
    clear he pc0 pc1 ac0 ac1 bc0 bc1 ho hsz ht HB0
    have hi : i < (regOps Try.f55 1).size := (Array.getElem?_eq_some_iff.1 hoi).1
    rw [show (regOps Try.f55 1).size = 33 by kernel_rfl] at hi
    skip
    skip
    obtain ⟨pc0, pc1, ac0, ac1, bc0, bc1, HB, szw, fs, ss⟩ := hS
    have hcases : i = 0 ∨ i = 1 ∨ i = 2 ∨ i = 3 ∨ i = 4 ∨ i = 5 ∨ i = 6 ∨ i = 7 ∨ i = 8 ∨ i = 9 ∨ i = 10 ∨ i = 11 ∨ i = 12 ∨ i = 13 ∨ i = 14 ∨ i = 15 ∨ i = 16 ∨ i = 17 ∨ i = 18 ∨ i = 19 ∨ i = 20 ∨ i = 21 ∨ i = 22 ∨ i = 23 ∨ i = 24 ∨ i = 25 ∨ i = 26 ∨ i = 27 ∨ i = 28 ∨ i = 29 ∨ i = 30 ∨ i = 31 ∨ i = 32 := by omega
    rcases hcases with rfl | rfl | rfl | rfl | rfl | rfl | rfl | rfl | rfl | rfl | rfl | rfl | rfl | rfl | rfl | rfl | rfl | rfl | rfl | rfl | rfl | rfl | rfl | rfl | rfl | rfl | rfl | rfl | rfl | rfl | rfl | rfl | rfl
    · have hlit : (regOps Try.f55 1)[0]? = some ({ dst := some 7, op := Op.load 23 (Operand.tmp 3), type := 23, pos := "exact.go:86", after := #[], guard := none }) := by kernel_rfl
      obtain rfl := Option.some.inj (hlit.symm.trans hoi)
      have r3 : b.tmps.getD 3 undef = (.pointer (some ⟨kp, 0, none⟩)) := rd ((hT.old 3 (by kernel_rfl)).trans t3)
      refine op_go hoi (want_all rfl) fun K hK => ?_
      clear hT hpre hlit hoi
      go_simp
      exact hK _ _ ⟨ks, fun _ _ => rfl, rfl, pc0, pc1, ac0, ac1, bc0, bc1, HB, szw, fs, ss⟩
    · have hlit : (regOps Try.f55 1)[1]? = some ({ dst := some 8, op := Op.load 23 (Operand.tmp 4), type := 23, pos := "exact.go:86", after := #[], guard := none }) := by kernel_rfl
      obtain rfl := Option.some.inj (hlit.symm.trans hoi)
      have r4 : b.tmps.getD 4 undef = (.pointer (some ⟨ka, 0, none⟩)) := rd ((hT.old 4 (by kernel_rfl)).trans t4)
      refine op_go hoi (want_all rfl) fun K hK => ?_
      clear hT hpre hlit hoi
      go_simp
      exact hK _ _ ⟨ks, fun _ _ => rfl, rfl, pc0, pc1, ac0, ac1, bc0, bc1, HB, szw, fs, ss⟩
    · have hlit : (regOps Try.f55 1)[2]? = some ({ dst := some 9, op := Op.load 23 (Operand.tmp 5), type := 23, pos := "exact.go:86", after := #[], guard := none }) := by kernel_rfl
      obtain rfl := Option.some.inj (hlit.symm.trans hoi)
      have r5 : b.tmps.getD 5 undef = (.pointer (some ⟨kb, 0, none⟩)) := rd ((hT.old 5 (by kernel_rfl)).trans t5)
      refine op_go hoi (want_all rfl) fun K hK => ?_
      clear hT hpre hlit hoi
      go_simp
      exact hK _ _ ⟨ks, fun _ _ => rfl, rfl, pc0, pc1, ac0, ac1, bc0, bc1, HB, szw, fs, ss⟩
    · have hlit : (regOps Try.f55 1)[3]? = some ({ dst := some 10, op := Op.buildSlice 41 3 #[(0, Operand.tmp 7), (1, Operand.tmp 8), (2, Operand.tmp 9)], type := 41, pos := "exact.go:86", after := #[{ on := 0, ground := Ground.data }, { on := 1, ground := Ground.data }, { on := 2, ground := Ground.data }], guard := none }) := by kernel_rfl
      obtain rfl := Option.some.inj (hlit.symm.trans hoi)
      have r7 : b.tmps.getD 7 undef = (.agg #[.int .i64 p0, .int .i64 p1]) := rd (hT.at 0 (by kernel_rfl) (pre_of hpre 0 (by kernel_rfl)))
      have q7 : b.tmps[7]?.getD undef = (.agg #[.int .i64 p0, .int .i64 p1]) := (Array.getD_eq_getD_getElem? ..).symm.trans r7
      have r8 : b.tmps.getD 8 undef = (.agg #[.int .i64 a0, .int .i64 a1]) := rd (hT.at 1 (by kernel_rfl) (pre_of hpre 1 (by kernel_rfl)))
      have q8 : b.tmps[8]?.getD undef = (.agg #[.int .i64 a0, .int .i64 a1]) := (Array.getD_eq_getD_getElem? ..).symm.trans r8
      have r9 : b.tmps.getD 9 undef = (.agg #[.int .i64 b0, .int .i64 b1]) := rd (hT.at 2 (by kernel_rfl) (pre_of hpre 2 (by kernel_rfl)))
      have q9 : b.tmps[9]?.getD undef = (.agg #[.int .i64 b0, .int .i64 b1]) := (Array.getD_eq_getD_getElem? ..).symm.trans r9
      refine op_go hoi (want_all rfl) fun K hK => ?_
      clear hT hpre hlit hoi
      go_simp
      have lw_pc0 := World.block_lt_of_cell? w' _ pc0
      have lw_pc1 := World.block_lt_of_cell? w' _ pc1
      have lw_ac0 := World.block_lt_of_cell? w' _ ac0
      have lw_ac1 := World.block_lt_of_cell? w' _ ac1
      have lw_bc0 := World.block_lt_of_cell? w' _ bc0
      have lw_bc1 := World.block_lt_of_cell? w' _ bc1
      refine hK _ _ ⟨w'.heap.size, fun j hj => ?_, rfl, by go_simp, by go_simp, by go_simp, by go_simp, by go_simp, by go_simp, ba HB _, by simp; omega, fun _ => ⟨szw, by go_simp, by go_simp, by go_simp, by go_simp, by go_simp, by go_simp, p0, p1, a0, a1, b0, b1, by go_simp, by go_simp, by go_simp, by go_simp, by go_simp, by go_simp, fun _ => ⟨rfl, rfl, rfl, rfl, rfl, rfl⟩⟩, fun _ => rfl⟩
      by_cases e : j = 3
      · subst e; rw [hun] at hj; cases hj
      · unfold region55aV; split <;> first | rfl | (exact absurd rfl e)
    · have hlit : (regOps Try.f55 1)[4]? = some ({ dst := some 11, op := Op.call { callee := Callee.value (Operand.func 69), args := #[Operand.tmp 10], argTypes := #[41] }, type := 4, pos := "exact.go:86", after := #[{ on := 3, ground := Ground.data }], guard := none }) := by kernel_rfl
      obtain rfl := Option.some.inj (hlit.symm.trans hoi)
      have r10 : b.tmps.getD 10 undef = (.slice (some ⟨ks, 0, none⟩) 3 3) := rd (hT.at 3 (by kernel_rfl) (pre_of hpre 3 (by kernel_rfl)))
      have pr : L 3 = true := pre_of hpre 3 (by kernel_rfl)
      obtain ⟨ge, fz0, fz1, fz2, fz3, fz4, fz5, u0, u1, u2, u3, u4, u5, ce0, ce1, ce2, ce3, ce4, ce5, us⟩ := fs pr
      obtain ⟨us0, us1, us2, us3, us4, us5⟩ := us pr
      rw [us0] at ce0
      rw [us1] at ce1
      rw [us2] at ce2
      rw [us3] at ce3
      rw [us4] at ce4
      rw [us5] at ce5
      refine op_go hoi (want_all rfl) fun K hK => ?_
      clear hT hpre hlit hoi
      go_simp
      go_at_call 69
      refine (all3 _ _ _ _ _ _ _ _ _ ce0 ce1 ce2 ce3 ce4 ce5).mono ?_; rw [m1]; rintro e w2 ⟨rfl, hb⟩; replace pc0 := ck hb pc0; replace pc1 := ck hb pc1; replace ac0 := ck hb ac0; replace ac1 := ck hb ac1; replace bc0 := ck hb bc0; replace bc1 := ck hb bc1; replace szw : w.heap.size ≤ w2.heap.size := Nat.le_trans szw hb.size; replace fs : L 3 = true → w.heap.size ≤ ks ∧ w2.frozen? ⟨ks, 0, none⟩ = false ∧ w2.frozen? ⟨ks, 1, none⟩ = false ∧ w2.frozen? ⟨ks, 2, none⟩ = false ∧ w2.frozen? ⟨ks, 3, none⟩ = false ∧ w2.frozen? ⟨ks, 4, none⟩ = false ∧ w2.frozen? ⟨ks, 5, none⟩ = false ∧ ∃ u0 u1 u2 u3 u4 u5 : Int, w2.cell? ⟨ks, 0, none⟩ = some (Value.int .i64 u0) ∧ w2.cell? ⟨ks, 1, none⟩ = some (Value.int .i64 u1) ∧ w2.cell? ⟨ks, 2, none⟩ = some (Value.int .i64 u2) ∧ w2.cell? ⟨ks, 3, none⟩ = some (Value.int .i64 u3) ∧ w2.cell? ⟨ks, 4, none⟩ = some (Value.int .i64 u4) ∧ w2.cell? ⟨ks, 5, none⟩ = some (Value.int .i64 u5) ∧ (L 3 = true → u0 = p0 ∧ u1 = p1 ∧ u2 = a0 ∧ u3 = a1 ∧ u4 = b0 ∧ u5 = b1) := fun h => (by obtain ⟨ge, fz0, fz1, fz2, fz3, fz4, fz5, u0, u1, u2, u3, u4, u5, ce0, ce1, ce2, ce3, ce4, ce5, us⟩ := fs h; exact ⟨ge, cf hb (World.block_lt_of_cell? _ _ ce0) fz0, cf hb (World.block_lt_of_cell? _ _ ce1) fz1, cf hb (World.block_lt_of_cell? _ _ ce2) fz2, cf hb (World.block_lt_of_cell? _ _ ce3) fz3, cf hb (World.block_lt_of_cell? _ _ ce4) fz4, cf hb (World.block_lt_of_cell? _ _ ce5) fz5, u0, u1, u2, u3, u4, u5, ck hb ce0, ck hb ce1, ck hb ce2, ck hb ce3, ck hb ce4, ck hb ce5, us⟩); replace HB : Below W.heap.size W w2 := bt HB hb; clear hb
      exact hK _ _ ⟨ks, fun _ _ => rfl, rfl, pc0, pc1, ac0, ac1, bc0, bc1, HB, szw, fs, ss⟩
    · have hlit : (regOps Try.f55 1)[5]? = some ({ dst := some 12, op := Op.move (Operand.tmp 11), type := 4, pos := "exact.go:86", after := #[{ on := 4, ground := Ground.data }, { on := 4, ground := Ground.chain }], guard := none }) := by kernel_rfl
      obtain rfl := Option.some.inj (hlit.symm.trans hoi)
      have r11 : b.tmps.getD 11 undef = (.bool false) := rd (hT.at 4 (by kernel_rfl) (pre_of hpre 4 (by kernel_rfl)))
      refine op_go hoi (want_all rfl) fun K hK => ?_
      clear hT hpre hlit hoi
      go_simp
      exact hK _ _ ⟨ks, fun _ _ => rfl, rfl, pc0, pc1, ac0, ac1, bc0, bc1, HB, szw, fs, ss⟩
    · have hlit : (regOps Try.f55 1)[6]? = some ({ dst := some 13, op := Op.load 23 (Operand.tmp 4), type := 23, pos := "exact.go:86", after := #[{ on := 5, ground := Ground.guard }], guard := some (5, true) }) := by kernel_rfl
      obtain rfl := Option.some.inj (hlit.symm.trans hoi)
      exact op_not hoi (want_no rfl (d := 12) (by kernel_rfl) (hT.at 5 (by kernel_rfl) (pre_of hpre 5 (by kernel_rfl)))) ⟨ks, fun _ _ => rfl, rfl, pc0, pc1, ac0, ac1, bc0, bc1, HB, szw, fs, ss⟩
    · have hlit : (regOps Try.f55 1)[7]? = some ({ dst := some 14, op := Op.load 23 (Operand.tmp 5), type := 23, pos := "exact.go:86", after := #[{ on := 5, ground := Ground.guard }], guard := some (5, true) }) := by kernel_rfl
      obtain rfl := Option.some.inj (hlit.symm.trans hoi)
      exact op_not hoi (want_no rfl (d := 12) (by kernel_rfl) (hT.at 5 (by kernel_rfl) (pre_of hpre 5 (by kernel_rfl)))) ⟨ks, fun _ _ => rfl, rfl, pc0, pc1, ac0, ac1, bc0, bc1, HB, szw, fs, ss⟩
    · have hlit : (regOps Try.f55 1)[8]? = some ({ dst := some 15, op := Op.load 23 (Operand.tmp 3), type := 23, pos := "exact.go:86", after := #[{ on := 5, ground := Ground.guard }], guard := some (5, true) }) := by kernel_rfl
      obtain rfl := Option.some.inj (hlit.symm.trans hoi)
      exact op_not hoi (want_no rfl (d := 12) (by kernel_rfl) (hT.at 5 (by kernel_rfl) (pre_of hpre 5 (by kernel_rfl)))) ⟨ks, fun _ _ => rfl, rfl, pc0, pc1, ac0, ac1, bc0, bc1, HB, szw, fs, ss⟩
    · have hlit : (regOps Try.f55 1)[9]? = some ({ dst := some 16, op := Op.call { callee := Callee.value (Operand.func 52), args := #[Operand.tmp 13, Operand.tmp 14, Operand.tmp 15], argTypes := #[23, 23, 23] }, type := 3, pos := "exact.go:86", after := #[{ on := 6, ground := Ground.data }, { on := 7, ground := Ground.data }, { on := 8, ground := Ground.data }, { on := 5, ground := Ground.chain }, { on := 5, ground := Ground.guard }], guard := some (5, true) }) := by kernel_rfl
      obtain rfl := Option.some.inj (hlit.symm.trans hoi)
      exact op_not hoi (want_no rfl (d := 12) (by kernel_rfl) (hT.at 5 (by kernel_rfl) (pre_of hpre 5 (by kernel_rfl)))) ⟨ks, fun _ _ => rfl, rfl, pc0, pc1, ac0, ac1, bc0, bc1, HB, szw, fs, ss⟩
    · have hlit : (regOps Try.f55 1)[10]? = some ({ dst := some 17, op := Op.binOp BinOp.eql 3 (Operand.tmp 16) (Operand.const (Value.int IntKind.i64 0)) 3, type := 4, pos := "exact.go:86", after := #[{ on := 9, ground := Ground.data }, { on := 5, ground := Ground.guard }], guard := some (5, true) }) := by kernel_rfl
      obtain rfl := Option.some.inj (hlit.symm.trans hoi)
      exact op_not hoi (want_no rfl (d := 12) (by kernel_rfl) (hT.at 5 (by kernel_rfl) (pre_of hpre 5 (by kernel_rfl)))) ⟨ks, fun _ _ => rfl, rfl, pc0, pc1, ac0, ac1, bc0, bc1, HB, szw, fs, ss⟩
    · have hlit : (regOps Try.f55 1)[11]? = some ({ dst := some 18, op := Op.pick (Operand.tmp 12) (Operand.tmp 17) (Operand.const (Value.bool false)), type := 4, pos := "exact.go:86", after := #[{ on := 5, ground := Ground.data }, { on := 10, ground := Ground.data }], guard := none }) := by kernel_rfl
      obtain rfl := Option.some.inj (hlit.symm.trans hoi)
      have r12 : b.tmps.getD 12 undef = (.bool false) := rd (hT.at 5 (by kernel_rfl) (pre_of hpre 5 (by kernel_rfl)))
      have r17 : b.tmps.getD 17 undef = (undef) := rd (hT.at 10 (by kernel_rfl) (pre_of hpre 10 (by kernel_rfl)))
      refine op_go hoi (want_all rfl) fun K hK => ?_
      clear hT hpre hlit hoi
      go_simp
      exact hK _ _ ⟨ks, fun _ _ => rfl, rfl, pc0, pc1, ac0, ac1, bc0, bc1, HB, szw, fs, ss⟩
    · have hlit : (regOps Try.f55 1)[12]? = some ({ dst := some 19, op := Op.move (Operand.tmp 18), type := 4, pos := "exact.go:86", after := #[{ on := 11, ground := Ground.data }, { on := 9, ground := Ground.chain }], guard := none }) := by kernel_rfl
      obtain rfl := Option.some.inj (hlit.symm.trans hoi)
      have r18 : b.tmps.getD 18 undef = (.bool false) := rd (hT.at 11 (by kernel_rfl) (pre_of hpre 11 (by kernel_rfl)))
      refine op_go hoi (want_all rfl) fun K hK => ?_
      clear hT hpre hlit hoi
      go_simp
      exact hK _ _ ⟨ks, fun _ _ => rfl, rfl, pc0, pc1, ac0, ac1, bc0, bc1, HB, szw, fs, ss⟩
    · have hlit : (regOps Try.f55 1)[13]? = some ({ dst := some 20, op := Op.load 23 (Operand.tmp 4), type := 23, pos := "exact.go:86", after := #[{ on := 12, ground := Ground.guard }], guard := some (12, true) }) := by kernel_rfl
      obtain rfl := Option.some.inj (hlit.symm.trans hoi)
      exact op_not hoi (want_no rfl (d := 19) (by kernel_rfl) (hT.at 12 (by kernel_rfl) (pre_of hpre 12 (by kernel_rfl)))) ⟨ks, fun _ _ => rfl, rfl, pc0, pc1, ac0, ac1, bc0, bc1, HB, szw, fs, ss⟩
    · have hlit : (regOps Try.f55 1)[14]? = some ({ dst := some 21, op := Op.load 23 (Operand.tmp 3), type := 23, pos := "exact.go:86", after := #[{ on := 12, ground := Ground.guard }], guard := some (12, true) }) := by kernel_rfl
      obtain rfl := Option.some.inj (hlit.symm.trans hoi)
      exact op_not hoi (want_no rfl (d := 19) (by kernel_rfl) (hT.at 12 (by kernel_rfl) (pre_of hpre 12 (by kernel_rfl)))) ⟨ks, fun _ _ => rfl, rfl, pc0, pc1, ac0, ac1, bc0, bc1, HB, szw, fs, ss⟩
    · have hlit : (regOps Try.f55 1)[15]? = some ({ dst := some 22, op := Op.call { callee := Callee.value (Operand.func 50), args := #[Operand.tmp 20, Operand.tmp 21], argTypes := #[23, 23] }, type := 3, pos := "exact.go:86", after := #[{ on := 13, ground := Ground.data }, { on := 14, ground := Ground.data }, { on := 12, ground := Ground.chain }, { on := 12, ground := Ground.guard }], guard := some (12, true) }) := by kernel_rfl
      obtain rfl := Option.some.inj (hlit.symm.trans hoi)
      exact op_not hoi (want_no rfl (d := 19) (by kernel_rfl) (hT.at 12 (by kernel_rfl) (pre_of hpre 12 (by kernel_rfl)))) ⟨ks, fun _ _ => rfl, rfl, pc0, pc1, ac0, ac1, bc0, bc1, HB, szw, fs, ss⟩
    · have hlit : (regOps Try.f55 1)[16]? = some ({ dst := some 23, op := Op.load 23 (Operand.tmp 3), type := 23, pos := "exact.go:86", after := #[{ on := 12, ground := Ground.guard }], guard := some (12, true) }) := by kernel_rfl
      obtain rfl := Option.some.inj (hlit.symm.trans hoi)
      exact op_not hoi (want_no rfl (d := 19) (by kernel_rfl) (hT.at 12 (by kernel_rfl) (pre_of hpre 12 (by kernel_rfl)))) ⟨ks, fun _ _ => rfl, rfl, pc0, pc1, ac0, ac1, bc0, bc1, HB, szw, fs, ss⟩
    · have hlit : (regOps Try.f55 1)[17]? = some ({ dst := some 24, op := Op.load 23 (Operand.tmp 5), type := 23, pos := "exact.go:86", after := #[{ on := 12, ground := Ground.guard }], guard := some (12, true) }) := by kernel_rfl
      obtain rfl := Option.some.inj (hlit.symm.trans hoi)
      exact op_not hoi (want_no rfl (d := 19) (by kernel_rfl) (hT.at 12 (by kernel_rfl) (pre_of hpre 12 (by kernel_rfl)))) ⟨ks, fun _ _ => rfl, rfl, pc0, pc1, ac0, ac1, bc0, bc1, HB, szw, fs, ss⟩
    · have hlit : (regOps Try.f55 1)[18]? = some ({ dst := some 25, op := Op.call { callee := Callee.value (Operand.func 50), args := #[Operand.tmp 23, Operand.tmp 24], argTypes := #[23, 23] }, type := 3, pos := "exact.go:86", after := #[{ on := 16, ground := Ground.data }, { on := 17, ground := Ground.data }, { on := 15, ground := Ground.chain }, { on := 12, ground := Ground.guard }], guard := some (12, true) }) := by kernel_rfl
      obtain rfl := Option.some.inj (hlit.symm.trans hoi)
      exact op_not hoi (want_no rfl (d := 19) (by kernel_rfl) (hT.at 12 (by kernel_rfl) (pre_of hpre 12 (by kernel_rfl)))) ⟨ks, fun _ _ => rfl, rfl, pc0, pc1, ac0, ac1, bc0, bc1, HB, szw, fs, ss⟩
    · have hlit : (regOps Try.f55 1)[19]? = some ({ dst := some 26, op := Op.binOp BinOp.mul 3 (Operand.tmp 22) (Operand.tmp 25) 3, type := 3, pos := "exact.go:86", after := #[{ on := 15, ground := Ground.data }, { on := 18, ground := Ground.data }, { on := 12, ground := Ground.guard }], guard := some (12, true) }) := by kernel_rfl
      obtain rfl := Option.some.inj (hlit.symm.trans hoi)
      exact op_not hoi (want_no rfl (d := 19) (by kernel_rfl) (hT.at 12 (by kernel_rfl) (pre_of hpre 12 (by kernel_rfl)))) ⟨ks, fun _ _ => rfl, rfl, pc0, pc1, ac0, ac1, bc0, bc1, HB, szw, fs, ss⟩
    · have hlit : (regOps Try.f55 1)[20]? = some ({ dst := some 27, op := Op.binOp BinOp.geq 3 (Operand.tmp 26) (Operand.const (Value.int IntKind.i64 0)) 3, type := 4, pos := "exact.go:86", after := #[{ on := 19, ground := Ground.data }, { on := 12, ground := Ground.guard }], guard := some (12, true) }) := by kernel_rfl
      obtain rfl := Option.some.inj (hlit.symm.trans hoi)
      exact op_not hoi (want_no rfl (d := 19) (by kernel_rfl) (hT.at 12 (by kernel_rfl) (pre_of hpre 12 (by kernel_rfl)))) ⟨ks, fun _ _ => rfl, rfl, pc0, pc1, ac0, ac1, bc0, bc1, HB, szw, fs, ss⟩
    · have hlit : (regOps Try.f55 1)[21]? = some ({ dst := some 28, op := Op.pick (Operand.tmp 19) (Operand.tmp 27) (Operand.const (Value.bool false)), type := 4, pos := "exact.go:86", after := #[{ on := 12, ground := Ground.data }, { on := 20, ground := Ground.data }], guard := none }) := by kernel_rfl
      obtain rfl := Option.some.inj (hlit.symm.trans hoi)
      have r19 : b.tmps.getD 19 undef = (.bool false) := rd (hT.at 12 (by kernel_rfl) (pre_of hpre 12 (by kernel_rfl)))
      have r27 : b.tmps.getD 27 undef = (undef) := rd (hT.at 20 (by kernel_rfl) (pre_of hpre 20 (by kernel_rfl)))
      refine op_go hoi (want_all rfl) fun K hK => ?_
      clear hT hpre hlit hoi
      go_simp
      exact hK _ _ ⟨ks, fun _ _ => rfl, rfl, pc0, pc1, ac0, ac1, bc0, bc1, HB, szw, fs, ss⟩
    · have hlit : (regOps Try.f55 1)[22]? = some ({ dst := some 29, op := Op.move (Operand.tmp 28), type := 4, pos := "exact.go:86", after := #[{ on := 21, ground := Ground.data }, { on := 18, ground := Ground.chain }], guard := none }) := by kernel_rfl
      obtain rfl := Option.some.inj (hlit.symm.trans hoi)
      have r28 : b.tmps.getD 28 undef = (.bool false) := rd (hT.at 21 (by kernel_rfl) (pre_of hpre 21 (by kernel_rfl)))
      refine op_go hoi (want_all rfl) fun K hK => ?_
      clear hT hpre hlit hoi
      go_simp
      exact hK _ _ ⟨ks, fun _ _ => rfl, rfl, pc0, pc1, ac0, ac1, bc0, bc1, HB, szw, fs, ss⟩
    · have hlit : (regOps Try.f55 1)[23]? = some ({ dst := some 30, op := Op.load 23 (Operand.tmp 4), type := 23, pos := "exact.go:86", after := #[{ on := 22, ground := Ground.guard }], guard := some (22, true) }) := by kernel_rfl
      obtain rfl := Option.some.inj (hlit.symm.trans hoi)
      exact op_not hoi (want_no rfl (d := 29) (by kernel_rfl) (hT.at 22 (by kernel_rfl) (pre_of hpre 22 (by kernel_rfl)))) ⟨ks, fun _ _ => rfl, rfl, pc0, pc1, ac0, ac1, bc0, bc1, HB, szw, fs, ss⟩
    · have hlit : (regOps Try.f55 1)[24]? = some ({ dst := some 31, op := Op.load 23 (Operand.tmp 5), type := 23, pos := "exact.go:86", after := #[{ on := 22, ground := Ground.guard }], guard := some (22, true) }) := by kernel_rfl
      obtain rfl := Option.some.inj (hlit.symm.trans hoi)
      exact op_not hoi (want_no rfl (d := 29) (by kernel_rfl) (hT.at 22 (by kernel_rfl) (pre_of hpre 22 (by kernel_rfl)))) ⟨ks, fun _ _ => rfl, rfl, pc0, pc1, ac0, ac1, bc0, bc1, HB, szw, fs, ss⟩
    · have hlit : (regOps Try.f55 1)[25]? = some ({ dst := some 32, op := Op.binOp BinOp.neq 23 (Operand.tmp 30) (Operand.tmp 31) 23, type := 4, pos := "exact.go:86", after := #[{ on := 23, ground := Ground.data }, { on := 24, ground := Ground.data }, { on := 22, ground := Ground.guard }], guard := some (22, true) }) := by kernel_rfl
      obtain rfl := Option.some.inj (hlit.symm.trans hoi)
      exact op_not hoi (want_no rfl (d := 29) (by kernel_rfl) (hT.at 22 (by kernel_rfl) (pre_of hpre 22 (by kernel_rfl)))) ⟨ks, fun _ _ => rfl, rfl, pc0, pc1, ac0, ac1, bc0, bc1, HB, szw, fs, ss⟩
    · have hlit : (regOps Try.f55 1)[26]? = some ({ dst := some 33, op := Op.move (Operand.tmp 32), type := 4, pos := "exact.go:86", after := #[{ on := 25, ground := Ground.data }, { on := 22, ground := Ground.chain }, { on := 22, ground := Ground.guard }], guard := some (22, true) }) := by kernel_rfl
      obtain rfl := Option.some.inj (hlit.symm.trans hoi)
      exact op_not hoi (want_no rfl (d := 29) (by kernel_rfl) (hT.at 22 (by kernel_rfl) (pre_of hpre 22 (by kernel_rfl)))) ⟨ks, fun _ _ => rfl, rfl, pc0, pc1, ac0, ac1, bc0, bc1, HB, szw, fs, ss⟩
    · have hlit : (regOps Try.f55 1)[27]? = some ({ dst := some 34, op := Op.load 23 (Operand.tmp 3), type := 23, pos := "exact.go:86", after := #[{ on := 26, ground := Ground.guard }], guard := some (26, false) }) := by kernel_rfl
      obtain rfl := Option.some.inj (hlit.symm.trans hoi)
      exact op_not hoi (want_un rfl (d := 33) (by kernel_rfl) (hT.at 26 (by kernel_rfl) (pre_of hpre 26 (by kernel_rfl)))) ⟨ks, fun _ _ => rfl, rfl, pc0, pc1, ac0, ac1, bc0, bc1, HB, szw, fs, ss⟩
    · have hlit : (regOps Try.f55 1)[28]? = some ({ dst := some 35, op := Op.load 23 (Operand.tmp 4), type := 23, pos := "exact.go:86", after := #[{ on := 26, ground := Ground.guard }], guard := some (26, false) }) := by kernel_rfl
      obtain rfl := Option.some.inj (hlit.symm.trans hoi)
      exact op_not hoi (want_un rfl (d := 33) (by kernel_rfl) (hT.at 26 (by kernel_rfl) (pre_of hpre 26 (by kernel_rfl)))) ⟨ks, fun _ _ => rfl, rfl, pc0, pc1, ac0, ac1, bc0, bc1, HB, szw, fs, ss⟩
    · have hlit : (regOps Try.f55 1)[29]? = some ({ dst := some 36, op := Op.binOp BinOp.eql 23 (Operand.tmp 34) (Operand.tmp 35) 23, type := 4, pos := "exact.go:86", after := #[{ on := 27, ground := Ground.data }, { on := 28, ground := Ground.data }, { on := 26, ground := Ground.guard }], guard := some (26, false) }) := by kernel_rfl
      obtain rfl := Option.some.inj (hlit.symm.trans hoi)
      exact op_not hoi (want_un rfl (d := 33) (by kernel_rfl) (hT.at 26 (by kernel_rfl) (pre_of hpre 26 (by kernel_rfl)))) ⟨ks, fun _ _ => rfl, rfl, pc0, pc1, ac0, ac1, bc0, bc1, HB, szw, fs, ss⟩
    · have hlit : (regOps Try.f55 1)[30]? = some ({ dst := some 37, op := Op.pick (Operand.tmp 33) (Operand.const (Value.bool true)) (Operand.tmp 36), type := 4, pos := "exact.go:86", after := #[{ on := 26, ground := Ground.data }, { on := 29, ground := Ground.data }, { on := 22, ground := Ground.guard }], guard := some (22, true) }) := by kernel_rfl
      obtain rfl := Option.some.inj (hlit.symm.trans hoi)
      exact op_not hoi (want_no rfl (d := 29) (by kernel_rfl) (hT.at 22 (by kernel_rfl) (pre_of hpre 22 (by kernel_rfl)))) ⟨ks, fun _ _ => rfl, rfl, pc0, pc1, ac0, ac1, bc0, bc1, HB, szw, fs, ss⟩
    · have hlit : (regOps Try.f55 1)[31]? = some ({ dst := some 38, op := Op.pick (Operand.tmp 29) (Operand.tmp 37) (Operand.const (Value.bool false)), type := 4, pos := "exact.go:86", after := #[{ on := 22, ground := Ground.data }, { on := 30, ground := Ground.data }], guard := none }) := by kernel_rfl
      obtain rfl := Option.some.inj (hlit.symm.trans hoi)
      have r29 : b.tmps.getD 29 undef = (.bool false) := rd (hT.at 22 (by kernel_rfl) (pre_of hpre 22 (by kernel_rfl)))
      have r37 : b.tmps.getD 37 undef = (undef) := rd (hT.at 30 (by kernel_rfl) (pre_of hpre 30 (by kernel_rfl)))
      refine op_go hoi (want_all rfl) fun K hK => ?_
      clear hT hpre hlit hoi
      go_simp
      exact hK _ _ ⟨ks, fun _ _ => rfl, rfl, pc0, pc1, ac0, ac1, bc0, bc1, HB, szw, fs, ss⟩
    · have hlit : (regOps Try.f55 1)[32]? = some ({ dst := some 6, op := Op.assign (Operand.tmp 38), type := 4, pos := "exact.go:86", after := #[{ on := 31, ground := Ground.data }, { on := 26, ground := Ground.chain }, { on := 0, ground := Ground.phase }, { on := 1, ground := Ground.phase }, { on := 2, ground := Ground.phase }, { on := 3, ground := Ground.phase }, { on := 4, ground := Ground.phase }, { on := 5, ground := Ground.phase }, { on := 6, ground := Ground.phase }, { on := 7, ground := Ground.phase }, { on := 8, ground := Ground.phase }, { on := 9, ground := Ground.phase }, { on := 10, ground := Ground.phase }, { on := 11, ground := Ground.phase }, { on := 12, ground := Ground.phase }, { on := 13, ground := Ground.phase }, { on := 14, ground := Ground.phase }, { on := 15, ground := Ground.phase }, { on := 16, ground := Ground.phase }, { on := 17, ground := Ground.phase }, { on := 18, ground := Ground.phase }, { on := 19, ground := Ground.phase }, { on := 20, ground := Ground.phase }, { on := 21, ground := Ground.phase }, { on := 22, ground := Ground.phase }, { on := 23, ground := Ground.phase }, { on := 24, ground := Ground.phase }, { on := 25, ground := Ground.phase }, { on := 26, ground := Ground.phase }, { on := 27, ground := Ground.phase }, { on := 28, ground := Ground.phase }, { on := 29, ground := Ground.phase }, { on := 30, ground := Ground.phase }, { on := 31, ground := Ground.phase }], guard := none }) := by kernel_rfl
      obtain rfl := Option.some.inj (hlit.symm.trans hoi)
      have r38 : b.tmps.getD 38 undef = (.bool false) := rd (hT.at 31 (by kernel_rfl) (pre_of hpre 31 (by kernel_rfl)))
      refine op_go hoi (want_all rfl) fun K hK => ?_
      clear hT hpre hlit hoi
      go_simp
      exact hK _ _ ⟨ks, fun _ _ => rfl, rfl, pc0, pc1, ac0, ac1, bc0, bc1, HB, szw, fs, ss⟩
  · intro ks b w' hT hS
    rw [hT.all ht]
    have hn : (regOps Try.f55 1).size = 33 := by kernel_rfl
    rw [hn] at hS ⊢
    skip
    skip
    obtain ⟨pc0, pc1, ac0, ac1, bc0, bc1, HB, szw, fs, ss⟩ := hS
    obtain ⟨ges, fzs0, fzs1, fzs2, fzs3, fzs4, fzs5, us0, us1, us2, us3, us4, us5, ces0, ces1, ces2, ces3, ces4, ces5, uss⟩ := fs rfl
    obtain ⟨rfl, rfl, rfl, rfl, rfl, rfl⟩ := uss rfl
    exact he ks w' ⟨pc0, pc1, ac0, ac1, bc0, bc1, HB⟩ ⟨ces0, ces1, ces2, ces3, ces4, ces5, fzs0, fzs1, fzs2, fzs3, fzs4, fzs5, ges⟩

/-- What each operation of the region leaves. -/
def region55bV (p0 p1 a0 a1 b0 b1 : Int) (ks : Nat) : Nat → Value
  | 0 => .agg #[.int .i64 p0, .int .i64 p1]
  | 1 => .agg #[.int .i64 a0, .int .i64 a1]
  | 2 => .agg #[.int .i64 b0, .int .i64 b1]
  | 3 => .slice (some ⟨ks, 0, none⟩) 3 3
  | 4 => .bool true
  | 5 => .bool true
  | 6 => .agg #[.int .i64 a0, .int .i64 a1]
  | 7 => .agg #[.int .i64 b0, .int .i64 b1]
  | 8 => .agg #[.int .i64 p0, .int .i64 p1]
  | 9 => .int .i64 (ori ⟨a0, a1⟩ ⟨b0, b1⟩ ⟨p0, p1⟩)
  | 10 => .bool false
  | 11 => .bool false
  | 12 => .bool false
  | 13 => undef
  | 14 => undef
  | 15 => undef
  | 16 => undef
  | 17 => undef
  | 18 => undef
  | 19 => undef
  | 20 => undef
  | 21 => .bool false
  | 22 => .bool false
  | 23 => undef
  | 24 => undef
  | 25 => undef
  | 26 => undef
  | 27 => undef
  | 28 => undef
  | 29 => undef
  | 30 => undef
  | 31 => .bool false
  | 32 => .bool false
  | _ => undef

set_option maxHeartbeats 4000000 in
set_option maxRecDepth 100000 in
theorem region55b (p0 p1 a0 a1 b0 b1 : Int) (kp ka kb : Nat) (W : World) (m1 : (val ⟨p0, p1⟩ && val ⟨a0, a1⟩ && val ⟨b0, b1⟩) = true) (m2 : (ori ⟨a0, a1⟩ ⟨b0, b1⟩ ⟨p0, p1⟩ == 0) = false) {id : Nat} {ops : Array Oper} {Q : Exit → Act → World → Prop} {a : Act} {w : World}
    (ho : ops = (regOps Try.f55 1)) (hsz : a.tmps.size = 39) (t3 : a.tmps[3]? = some (.pointer (some ⟨kp, 0, none⟩))) (t4 : a.tmps[4]? = some (.pointer (some ⟨ka, 0, none⟩))) (t5 : a.tmps[5]? = some (.pointer (some ⟨kb, 0, none⟩)))
    (h0 : w.cell? ⟨kp, 0, none⟩ = some (.int .i64 p0) ∧ w.cell? ⟨kp, 1, none⟩ = some (.int .i64 p1) ∧ w.cell? ⟨ka, 0, none⟩ = some (.int .i64 a0) ∧ w.cell? ⟨ka, 1, none⟩ = some (.int .i64 a1) ∧ w.cell? ⟨kb, 0, none⟩ = some (.int .i64 b0) ∧ w.cell? ⟨kb, 1, none⟩ = some (.int .i64 b1) ∧ Below W.heap.size W w)
    (he : ∀ ks w', w'.cell? ⟨kp, 0, none⟩ = some (.int .i64 p0) ∧ w'.cell? ⟨kp, 1, none⟩ = some (.int .i64 p1) ∧ w'.cell? ⟨ka, 0, none⟩ = some (.int .i64 a0) ∧ w'.cell? ⟨ka, 1, none⟩ = some (.int .i64 a1) ∧ w'.cell? ⟨kb, 0, none⟩ = some (.int .i64 b0) ∧ w'.cell? ⟨kb, 1, none⟩ = some (.int .i64 b1) ∧ Below W.heap.size W w' → w'.cell? ⟨ks, 0, none⟩ = some (.int .i64 p0) ∧ w'.cell? ⟨ks, 1, none⟩ = some (.int .i64 p1) ∧ w'.cell? ⟨ks, 2, none⟩ = some (.int .i64 a0) ∧ w'.cell? ⟨ks, 3, none⟩ = some (.int .i64 a1) ∧ w'.cell? ⟨ks, 4, none⟩ = some (.int .i64 b0) ∧ w'.cell? ⟨ks, 5, none⟩ = some (.int .i64 b1) ∧ w'.frozen? ⟨ks, 0, none⟩ = false ∧ w'.frozen? ⟨ks, 1, none⟩ = false ∧ w'.frozen? ⟨ks, 2, none⟩ = false ∧ w'.frozen? ⟨ks, 3, none⟩ = false ∧ w'.frozen? ⟨ks, 4, none⟩ = false ∧ w'.frozen? ⟨ks, 5, none⟩ = false ∧ w.heap.size ≤ ks → Q .normal ⟨(((((((((((((((((((((((((((((((((a.tmps.setIfInBounds 7 (.agg #[.int .i64 p0, .int .i64 p1])).setIfInBounds 8 (.agg #[.int .i64 a0, .int .i64 a1])).setIfInBounds 9 (.agg #[.int .i64 b0, .int .i64 b1])).setIfInBounds 10 (.slice (some ⟨ks, 0, none⟩) 3 3)).setIfInBounds 11 (.bool true)).setIfInBounds 12 (.bool true)).setIfInBounds 13 (.agg #[.int .i64 a0, .int .i64 a1])).setIfInBounds 14 (.agg #[.int .i64 b0, .int .i64 b1])).setIfInBounds 15 (.agg #[.int .i64 p0, .int .i64 p1])).setIfInBounds 16 (.int .i64 (ori ⟨a0, a1⟩ ⟨b0, b1⟩ ⟨p0, p1⟩))).setIfInBounds 17 (.bool false)).setIfInBounds 18 (.bool false)).setIfInBounds 19 (.bool false)).setIfInBounds 20 (undef)).setIfInBounds 21 (undef)).setIfInBounds 22 (undef)).setIfInBounds 23 (undef)).setIfInBounds 24 (undef)).setIfInBounds 25 (undef)).setIfInBounds 26 (undef)).setIfInBounds 27 (undef)).setIfInBounds 28 (.bool false)).setIfInBounds 29 (.bool false)).setIfInBounds 30 (undef)).setIfInBounds 31 (undef)).setIfInBounds 32 (undef)).setIfInBounds 33 (undef)).setIfInBounds 34 (undef)).setIfInBounds 35 (undef)).setIfInBounds 36 (undef)).setIfInBounds 37 (undef)).setIfInBounds 38 (.bool false)).setIfInBounds 6 (.bool false)), a.defers⟩ w') :
    (Code.region id ops true).wp Try.prog Q a w := by
  have ht : tidy (regOps Try.f55 1) a.tmps.size = true := by rw [hsz]; kernel_rfl
  obtain ⟨pc0, pc1, ac0, ac1, bc0, bc1, HB0⟩ := h0
  have lt_kp := World.block_lt_of_cell? w _ pc0
  have lt_ka := World.block_lt_of_cell? w _ ac0
  have lt_kb := World.block_lt_of_cell? w _ bc0
  have sz0 := HB0.size
  refine region_tab (G := Nat) (fun g => (region55bV p0 p1 a0 a1 b0 b1  g)) (fun g L w' => w'.cell? ⟨kp, 0, none⟩ = some (.int .i64 p0) ∧ w'.cell? ⟨kp, 1, none⟩ = some (.int .i64 p1) ∧ w'.cell? ⟨ka, 0, none⟩ = some (.int .i64 a0) ∧ w'.cell? ⟨ka, 1, none⟩ = some (.int .i64 a1) ∧ w'.cell? ⟨kb, 0, none⟩ = some (.int .i64 b0) ∧ w'.cell? ⟨kb, 1, none⟩ = some (.int .i64 b1) ∧ Below W.heap.size W w' ∧ w.heap.size ≤ w'.heap.size ∧ (L 3 = true → w.heap.size ≤ g ∧ w'.frozen? ⟨g, 0, none⟩ = false ∧ w'.frozen? ⟨g, 1, none⟩ = false ∧ w'.frozen? ⟨g, 2, none⟩ = false ∧ w'.frozen? ⟨g, 3, none⟩ = false ∧ w'.frozen? ⟨g, 4, none⟩ = false ∧ w'.frozen? ⟨g, 5, none⟩ = false ∧ ∃ u0 u1 u2 u3 u4 u5 : Int, w'.cell? ⟨g, 0, none⟩ = some (.int .i64 u0) ∧ w'.cell? ⟨g, 1, none⟩ = some (.int .i64 u1) ∧ w'.cell? ⟨g, 2, none⟩ = some (.int .i64 u2) ∧ w'.cell? ⟨g, 3, none⟩ = some (.int .i64 u3) ∧ w'.cell? ⟨g, 4, none⟩ = some (.int .i64 u4) ∧ w'.cell? ⟨g, 5, none⟩ = some (.int .i64 u5) ∧ (L 3 = true → u0 = p0 ∧ u1 = p1 ∧ u2 = a0 ∧ u3 = a1 ∧ u4 = b0 ∧ u5 = b1)) ∧ (L 3 = true → L 3 = true)) 0 (by kernel_rfl) ho ht ⟨pc0, pc1, ac0, ac1, bc0, bc1, bd HB0, Nat.le_refl _, fun h => (by cases h), fun h => (by cases h)⟩ ?_ ?_
  · intro i o hoi ks L b w' hun hpre hT hS
    clear he pc0 pc1 ac0 ac1 bc0 bc1 ho hsz ht HB0
    have hi : i < (regOps Try.f55 1).size := (Array.getElem?_eq_some_iff.1 hoi).1
    rw [show (regOps Try.f55 1).size = 33 by kernel_rfl] at hi
    skip
    skip
    obtain ⟨pc0, pc1, ac0, ac1, bc0, bc1, HB, szw, fs, ss⟩ := hS
    have hcases : i = 0 ∨ i = 1 ∨ i = 2 ∨ i = 3 ∨ i = 4 ∨ i = 5 ∨ i = 6 ∨ i = 7 ∨ i = 8 ∨ i = 9 ∨ i = 10 ∨ i = 11 ∨ i = 12 ∨ i = 13 ∨ i = 14 ∨ i = 15 ∨ i = 16 ∨ i = 17 ∨ i = 18 ∨ i = 19 ∨ i = 20 ∨ i = 21 ∨ i = 22 ∨ i = 23 ∨ i = 24 ∨ i = 25 ∨ i = 26 ∨ i = 27 ∨ i = 28 ∨ i = 29 ∨ i = 30 ∨ i = 31 ∨ i = 32 := by omega
    rcases hcases with rfl | rfl | rfl | rfl | rfl | rfl | rfl | rfl | rfl | rfl | rfl | rfl | rfl | rfl | rfl | rfl | rfl | rfl | rfl | rfl | rfl | rfl | rfl | rfl | rfl | rfl | rfl | rfl | rfl | rfl | rfl | rfl | rfl
    · have hlit : (regOps Try.f55 1)[0]? = some ({ dst := some 7, op := Op.load 23 (Operand.tmp 3), type := 23, pos := "exact.go:86", after := #[], guard := none }) := by kernel_rfl
      obtain rfl := Option.some.inj (hlit.symm.trans hoi)
      have r3 : b.tmps.getD 3 undef = (.pointer (some ⟨kp, 0, none⟩)) := rd ((hT.old 3 (by kernel_rfl)).trans t3)
      refine op_go hoi (want_all rfl) fun K hK => ?_
      clear hT hpre hlit hoi
      go_simp
      exact hK _ _ ⟨ks, fun _ _ => rfl, rfl, pc0, pc1, ac0, ac1, bc0, bc1, HB, szw, fs, ss⟩
    · have hlit : (regOps Try.f55 1)[1]? = some ({ dst := some 8, op := Op.load 23 (Operand.tmp 4), type := 23, pos := "exact.go:86", after := #[], guard := none }) := by kernel_rfl
      obtain rfl := Option.some.inj (hlit.symm.trans hoi)
      have r4 : b.tmps.getD 4 undef = (.pointer (some ⟨ka, 0, none⟩)) := rd ((hT.old 4 (by kernel_rfl)).trans t4)
      refine op_go hoi (want_all rfl) fun K hK => ?_
      clear hT hpre hlit hoi
      go_simp
      exact hK _ _ ⟨ks, fun _ _ => rfl, rfl, pc0, pc1, ac0, ac1, bc0, bc1, HB, szw, fs, ss⟩
    · have hlit : (regOps Try.f55 1)[2]? = some ({ dst := some 9, op := Op.load 23 (Operand.tmp 5), type := 23, pos := "exact.go:86", after := #[], guard := none }) := by kernel_rfl
      obtain rfl := Option.some.inj (hlit.symm.trans hoi)
      have r5 : b.tmps.getD 5 undef = (.pointer (some ⟨kb, 0, none⟩)) := rd ((hT.old 5 (by kernel_rfl)).trans t5)
      refine op_go hoi (want_all rfl) fun K hK => ?_
      clear hT hpre hlit hoi
      go_simp
      exact hK _ _ ⟨ks, fun _ _ => rfl, rfl, pc0, pc1, ac0, ac1, bc0, bc1, HB, szw, fs, ss⟩
    · have hlit : (regOps Try.f55 1)[3]? = some ({ dst := some 10, op := Op.buildSlice 41 3 #[(0, Operand.tmp 7), (1, Operand.tmp 8), (2, Operand.tmp 9)], type := 41, pos := "exact.go:86", after := #[{ on := 0, ground := Ground.data }, { on := 1, ground := Ground.data }, { on := 2, ground := Ground.data }], guard := none }) := by kernel_rfl
      obtain rfl := Option.some.inj (hlit.symm.trans hoi)
      have r7 : b.tmps.getD 7 undef = (.agg #[.int .i64 p0, .int .i64 p1]) := rd (hT.at 0 (by kernel_rfl) (pre_of hpre 0 (by kernel_rfl)))
      have q7 : b.tmps[7]?.getD undef = (.agg #[.int .i64 p0, .int .i64 p1]) := (Array.getD_eq_getD_getElem? ..).symm.trans r7
      have r8 : b.tmps.getD 8 undef = (.agg #[.int .i64 a0, .int .i64 a1]) := rd (hT.at 1 (by kernel_rfl) (pre_of hpre 1 (by kernel_rfl)))
      have q8 : b.tmps[8]?.getD undef = (.agg #[.int .i64 a0, .int .i64 a1]) := (Array.getD_eq_getD_getElem? ..).symm.trans r8
      have r9 : b.tmps.getD 9 undef = (.agg #[.int .i64 b0, .int .i64 b1]) := rd (hT.at 2 (by kernel_rfl) (pre_of hpre 2 (by kernel_rfl)))
      have q9 : b.tmps[9]?.getD undef = (.agg #[.int .i64 b0, .int .i64 b1]) := (Array.getD_eq_getD_getElem? ..).symm.trans r9
      refine op_go hoi (want_all rfl) fun K hK => ?_
      clear hT hpre hlit hoi
      go_simp
      have lw_pc0 := World.block_lt_of_cell? w' _ pc0
      have lw_pc1 := World.block_lt_of_cell? w' _ pc1
      have lw_ac0 := World.block_lt_of_cell? w' _ ac0
      have lw_ac1 := World.block_lt_of_cell? w' _ ac1
      have lw_bc0 := World.block_lt_of_cell? w' _ bc0
      have lw_bc1 := World.block_lt_of_cell? w' _ bc1
      refine hK _ _ ⟨w'.heap.size, fun j hj => ?_, rfl, by go_simp, by go_simp, by go_simp, by go_simp, by go_simp, by go_simp, ba HB _, by simp; omega, fun _ => ⟨szw, by go_simp, by go_simp, by go_simp, by go_simp, by go_simp, by go_simp, p0, p1, a0, a1, b0, b1, by go_simp, by go_simp, by go_simp, by go_simp, by go_simp, by go_simp, fun _ => ⟨rfl, rfl, rfl, rfl, rfl, rfl⟩⟩, fun _ => rfl⟩
      by_cases e : j = 3
      · subst e; rw [hun] at hj; cases hj
      · unfold region55bV; split <;> first | rfl | (exact absurd rfl e)
    · have hlit : (regOps Try.f55 1)[4]? = some ({ dst := some 11, op := Op.call { callee := Callee.value (Operand.func 69), args := #[Operand.tmp 10], argTypes := #[41] }, type := 4, pos := "exact.go:86", after := #[{ on := 3, ground := Ground.data }], guard := none }) := by kernel_rfl
      obtain rfl := Option.some.inj (hlit.symm.trans hoi)
      have r10 : b.tmps.getD 10 undef = (.slice (some ⟨ks, 0, none⟩) 3 3) := rd (hT.at 3 (by kernel_rfl) (pre_of hpre 3 (by kernel_rfl)))
      have pr : L 3 = true := pre_of hpre 3 (by kernel_rfl)
      obtain ⟨ge, fz0, fz1, fz2, fz3, fz4, fz5, u0, u1, u2, u3, u4, u5, ce0, ce1, ce2, ce3, ce4, ce5, us⟩ := fs pr
      obtain ⟨us0, us1, us2, us3, us4, us5⟩ := us pr
      rw [us0] at ce0
      rw [us1] at ce1
      rw [us2] at ce2
      rw [us3] at ce3
      rw [us4] at ce4
      rw [us5] at ce5
      refine op_go hoi (want_all rfl) fun K hK => ?_
      clear hT hpre hlit hoi
      go_simp
      go_at_call 69
      refine (all3 _ _ _ _ _ _ _ _ _ ce0 ce1 ce2 ce3 ce4 ce5).mono ?_; rw [m1]; rintro e w2 ⟨rfl, hb⟩; replace pc0 := ck hb pc0; replace pc1 := ck hb pc1; replace ac0 := ck hb ac0; replace ac1 := ck hb ac1; replace bc0 := ck hb bc0; replace bc1 := ck hb bc1; replace szw : w.heap.size ≤ w2.heap.size := Nat.le_trans szw hb.size; replace fs : L 3 = true → w.heap.size ≤ ks ∧ w2.frozen? ⟨ks, 0, none⟩ = false ∧ w2.frozen? ⟨ks, 1, none⟩ = false ∧ w2.frozen? ⟨ks, 2, none⟩ = false ∧ w2.frozen? ⟨ks, 3, none⟩ = false ∧ w2.frozen? ⟨ks, 4, none⟩ = false ∧ w2.frozen? ⟨ks, 5, none⟩ = false ∧ ∃ u0 u1 u2 u3 u4 u5 : Int, w2.cell? ⟨ks, 0, none⟩ = some (Value.int .i64 u0) ∧ w2.cell? ⟨ks, 1, none⟩ = some (Value.int .i64 u1) ∧ w2.cell? ⟨ks, 2, none⟩ = some (Value.int .i64 u2) ∧ w2.cell? ⟨ks, 3, none⟩ = some (Value.int .i64 u3) ∧ w2.cell? ⟨ks, 4, none⟩ = some (Value.int .i64 u4) ∧ w2.cell? ⟨ks, 5, none⟩ = some (Value.int .i64 u5) ∧ (L 3 = true → u0 = p0 ∧ u1 = p1 ∧ u2 = a0 ∧ u3 = a1 ∧ u4 = b0 ∧ u5 = b1) := fun h => (by obtain ⟨ge, fz0, fz1, fz2, fz3, fz4, fz5, u0, u1, u2, u3, u4, u5, ce0, ce1, ce2, ce3, ce4, ce5, us⟩ := fs h; exact ⟨ge, cf hb (World.block_lt_of_cell? _ _ ce0) fz0, cf hb (World.block_lt_of_cell? _ _ ce1) fz1, cf hb (World.block_lt_of_cell? _ _ ce2) fz2, cf hb (World.block_lt_of_cell? _ _ ce3) fz3, cf hb (World.block_lt_of_cell? _ _ ce4) fz4, cf hb (World.block_lt_of_cell? _ _ ce5) fz5, u0, u1, u2, u3, u4, u5, ck hb ce0, ck hb ce1, ck hb ce2, ck hb ce3, ck hb ce4, ck hb ce5, us⟩); replace HB : Below W.heap.size W w2 := bt HB hb; clear hb
      exact hK _ _ ⟨ks, fun _ _ => rfl, rfl, pc0, pc1, ac0, ac1, bc0, bc1, HB, szw, fs, ss⟩
    · have hlit : (regOps Try.f55 1)[5]? = some ({ dst := some 12, op := Op.move (Operand.tmp 11), type := 4, pos := "exact.go:86", after := #[{ on := 4, ground := Ground.data }, { on := 4, ground := Ground.chain }], guard := none }) := by kernel_rfl
      obtain rfl := Option.some.inj (hlit.symm.trans hoi)
      have r11 : b.tmps.getD 11 undef = (.bool true) := rd (hT.at 4 (by kernel_rfl) (pre_of hpre 4 (by kernel_rfl)))
      refine op_go hoi (want_all rfl) fun K hK => ?_
      clear hT hpre hlit hoi
      go_simp
      exact hK _ _ ⟨ks, fun _ _ => rfl, rfl, pc0, pc1, ac0, ac1, bc0, bc1, HB, szw, fs, ss⟩
    · have hlit : (regOps Try.f55 1)[6]? = some ({ dst := some 13, op := Op.load 23 (Operand.tmp 4), type := 23, pos := "exact.go:86", after := #[{ on := 5, ground := Ground.guard }], guard := some (5, true) }) := by kernel_rfl
      obtain rfl := Option.some.inj (hlit.symm.trans hoi)
      have r4 : b.tmps.getD 4 undef = (.pointer (some ⟨ka, 0, none⟩)) := rd ((hT.old 4 (by kernel_rfl)).trans t4)
      refine op_go hoi (want_yes rfl (d := 12) (by kernel_rfl) (hT.at 5 (by kernel_rfl) (pre_of hpre 5 (by kernel_rfl)))) fun K hK => ?_
      clear hT hpre hlit hoi
      go_simp
      exact hK _ _ ⟨ks, fun _ _ => rfl, rfl, pc0, pc1, ac0, ac1, bc0, bc1, HB, szw, fs, ss⟩
    · have hlit : (regOps Try.f55 1)[7]? = some ({ dst := some 14, op := Op.load 23 (Operand.tmp 5), type := 23, pos := "exact.go:86", after := #[{ on := 5, ground := Ground.guard }], guard := some (5, true) }) := by kernel_rfl
      obtain rfl := Option.some.inj (hlit.symm.trans hoi)
      have r5 : b.tmps.getD 5 undef = (.pointer (some ⟨kb, 0, none⟩)) := rd ((hT.old 5 (by kernel_rfl)).trans t5)
      refine op_go hoi (want_yes rfl (d := 12) (by kernel_rfl) (hT.at 5 (by kernel_rfl) (pre_of hpre 5 (by kernel_rfl)))) fun K hK => ?_
      clear hT hpre hlit hoi
      go_simp
      exact hK _ _ ⟨ks, fun _ _ => rfl, rfl, pc0, pc1, ac0, ac1, bc0, bc1, HB, szw, fs, ss⟩
    · have hlit : (regOps Try.f55 1)[8]? = some ({ dst := some 15, op := Op.load 23 (Operand.tmp 3), type := 23, pos := "exact.go:86", after := #[{ on := 5, ground := Ground.guard }], guard := some (5, true) }) := by kernel_rfl
      obtain rfl := Option.some.inj (hlit.symm.trans hoi)
      have r3 : b.tmps.getD 3 undef = (.pointer (some ⟨kp, 0, none⟩)) := rd ((hT.old 3 (by kernel_rfl)).trans t3)
      refine op_go hoi (want_yes rfl (d := 12) (by kernel_rfl) (hT.at 5 (by kernel_rfl) (pre_of hpre 5 (by kernel_rfl)))) fun K hK => ?_
      clear hT hpre hlit hoi
      go_simp
      exact hK _ _ ⟨ks, fun _ _ => rfl, rfl, pc0, pc1, ac0, ac1, bc0, bc1, HB, szw, fs, ss⟩
    · have hlit : (regOps Try.f55 1)[9]? = some ({ dst := some 16, op := Op.call { callee := Callee.value (Operand.func 52), args := #[Operand.tmp 13, Operand.tmp 14, Operand.tmp 15], argTypes := #[23, 23, 23] }, type := 3, pos := "exact.go:86", after := #[{ on := 6, ground := Ground.data }, { on := 7, ground := Ground.data }, { on := 8, ground := Ground.data }, { on := 5, ground := Ground.chain }, { on := 5, ground := Ground.guard }], guard := some (5, true) }) := by kernel_rfl
      obtain rfl := Option.some.inj (hlit.symm.trans hoi)
      have r13 : b.tmps.getD 13 undef = (.agg #[.int .i64 a0, .int .i64 a1]) := rd (hT.at 6 (by kernel_rfl) (pre_of hpre 6 (by kernel_rfl)))
      have r14 : b.tmps.getD 14 undef = (.agg #[.int .i64 b0, .int .i64 b1]) := rd (hT.at 7 (by kernel_rfl) (pre_of hpre 7 (by kernel_rfl)))
      have r15 : b.tmps.getD 15 undef = (.agg #[.int .i64 p0, .int .i64 p1]) := rd (hT.at 8 (by kernel_rfl) (pre_of hpre 8 (by kernel_rfl)))
      refine op_go hoi (want_yes rfl (d := 12) (by kernel_rfl) (hT.at 5 (by kernel_rfl) (pre_of hpre 5 (by kernel_rfl)))) fun K hK => ?_
      clear hT hpre hlit hoi
      go_simp
      go_at_call 52
      refine (ori52 _ _ _ _ _ _ _).mono ?_; rintro e w2 ⟨rfl, hb⟩; replace pc0 := ck hb pc0; replace pc1 := ck hb pc1; replace ac0 := ck hb ac0; replace ac1 := ck hb ac1; replace bc0 := ck hb bc0; replace bc1 := ck hb bc1; replace szw : w.heap.size ≤ w2.heap.size := Nat.le_trans szw hb.size; replace fs : L 3 = true → w.heap.size ≤ ks ∧ w2.frozen? ⟨ks, 0, none⟩ = false ∧ w2.frozen? ⟨ks, 1, none⟩ = false ∧ w2.frozen? ⟨ks, 2, none⟩ = false ∧ w2.frozen? ⟨ks, 3, none⟩ = false ∧ w2.frozen? ⟨ks, 4, none⟩ = false ∧ w2.frozen? ⟨ks, 5, none⟩ = false ∧ ∃ u0 u1 u2 u3 u4 u5 : Int, w2.cell? ⟨ks, 0, none⟩ = some (Value.int .i64 u0) ∧ w2.cell? ⟨ks, 1, none⟩ = some (Value.int .i64 u1) ∧ w2.cell? ⟨ks, 2, none⟩ = some (Value.int .i64 u2) ∧ w2.cell? ⟨ks, 3, none⟩ = some (Value.int .i64 u3) ∧ w2.cell? ⟨ks, 4, none⟩ = some (Value.int .i64 u4) ∧ w2.cell? ⟨ks, 5, none⟩ = some (Value.int .i64 u5) ∧ (L 3 = true → u0 = p0 ∧ u1 = p1 ∧ u2 = a0 ∧ u3 = a1 ∧ u4 = b0 ∧ u5 = b1) := fun h => (by obtain ⟨ge, fz0, fz1, fz2, fz3, fz4, fz5, u0, u1, u2, u3, u4, u5, ce0, ce1, ce2, ce3, ce4, ce5, us⟩ := fs h; exact ⟨ge, cf hb (World.block_lt_of_cell? _ _ ce0) fz0, cf hb (World.block_lt_of_cell? _ _ ce1) fz1, cf hb (World.block_lt_of_cell? _ _ ce2) fz2, cf hb (World.block_lt_of_cell? _ _ ce3) fz3, cf hb (World.block_lt_of_cell? _ _ ce4) fz4, cf hb (World.block_lt_of_cell? _ _ ce5) fz5, u0, u1, u2, u3, u4, u5, ck hb ce0, ck hb ce1, ck hb ce2, ck hb ce3, ck hb ce4, ck hb ce5, us⟩); replace HB : Below W.heap.size W w2 := bt HB hb; clear hb
      exact hK _ _ ⟨ks, fun _ _ => rfl, rfl, pc0, pc1, ac0, ac1, bc0, bc1, HB, szw, fs, ss⟩
    · have hlit : (regOps Try.f55 1)[10]? = some ({ dst := some 17, op := Op.binOp BinOp.eql 3 (Operand.tmp 16) (Operand.const (Value.int IntKind.i64 0)) 3, type := 4, pos := "exact.go:86", after := #[{ on := 9, ground := Ground.data }, { on := 5, ground := Ground.guard }], guard := some (5, true) }) := by kernel_rfl
      obtain rfl := Option.some.inj (hlit.symm.trans hoi)
      have r16 : b.tmps.getD 16 undef = (.int .i64 (ori ⟨a0, a1⟩ ⟨b0, b1⟩ ⟨p0, p1⟩)) := rd (hT.at 9 (by kernel_rfl) (pre_of hpre 9 (by kernel_rfl)))
      refine op_go hoi (want_yes rfl (d := 12) (by kernel_rfl) (hT.at 5 (by kernel_rfl) (pre_of hpre 5 (by kernel_rfl)))) fun K hK => ?_
      clear hT hpre hlit hoi
      go_simp
      exact hK _ _ ⟨ks, fun _ _ => rfl, rfl, pc0, pc1, ac0, ac1, bc0, bc1, HB, szw, fs, ss⟩
    · have hlit : (regOps Try.f55 1)[11]? = some ({ dst := some 18, op := Op.pick (Operand.tmp 12) (Operand.tmp 17) (Operand.const (Value.bool false)), type := 4, pos := "exact.go:86", after := #[{ on := 5, ground := Ground.data }, { on := 10, ground := Ground.data }], guard := none }) := by kernel_rfl
      obtain rfl := Option.some.inj (hlit.symm.trans hoi)
      have r12 : b.tmps.getD 12 undef = (.bool true) := rd (hT.at 5 (by kernel_rfl) (pre_of hpre 5 (by kernel_rfl)))
      have r17 : b.tmps.getD 17 undef = (.bool false) := rd (hT.at 10 (by kernel_rfl) (pre_of hpre 10 (by kernel_rfl)))
      refine op_go hoi (want_all rfl) fun K hK => ?_
      clear hT hpre hlit hoi
      go_simp
      exact hK _ _ ⟨ks, fun _ _ => rfl, rfl, pc0, pc1, ac0, ac1, bc0, bc1, HB, szw, fs, ss⟩
    · have hlit : (regOps Try.f55 1)[12]? = some ({ dst := some 19, op := Op.move (Operand.tmp 18), type := 4, pos := "exact.go:86", after := #[{ on := 11, ground := Ground.data }, { on := 9, ground := Ground.chain }], guard := none }) := by kernel_rfl
      obtain rfl := Option.some.inj (hlit.symm.trans hoi)
      have r18 : b.tmps.getD 18 undef = (.bool false) := rd (hT.at 11 (by kernel_rfl) (pre_of hpre 11 (by kernel_rfl)))
      refine op_go hoi (want_all rfl) fun K hK => ?_
      clear hT hpre hlit hoi
      go_simp
      exact hK _ _ ⟨ks, fun _ _ => rfl, rfl, pc0, pc1, ac0, ac1, bc0, bc1, HB, szw, fs, ss⟩
    · have hlit : (regOps Try.f55 1)[13]? = some ({ dst := some 20, op := Op.load 23 (Operand.tmp 4), type := 23, pos := "exact.go:86", after := #[{ on := 12, ground := Ground.guard }], guard := some (12, true) }) := by kernel_rfl
      obtain rfl := Option.some.inj (hlit.symm.trans hoi)
      exact op_not hoi (want_no rfl (d := 19) (by kernel_rfl) (hT.at 12 (by kernel_rfl) (pre_of hpre 12 (by kernel_rfl)))) ⟨ks, fun _ _ => rfl, rfl, pc0, pc1, ac0, ac1, bc0, bc1, HB, szw, fs, ss⟩
    · have hlit : (regOps Try.f55 1)[14]? = some ({ dst := some 21, op := Op.load 23 (Operand.tmp 3), type := 23, pos := "exact.go:86", after := #[{ on := 12, ground := Ground.guard }], guard := some (12, true) }) := by kernel_rfl
      obtain rfl := Option.some.inj (hlit.symm.trans hoi)
      exact op_not hoi (want_no rfl (d := 19) (by kernel_rfl) (hT.at 12 (by kernel_rfl) (pre_of hpre 12 (by kernel_rfl)))) ⟨ks, fun _ _ => rfl, rfl, pc0, pc1, ac0, ac1, bc0, bc1, HB, szw, fs, ss⟩
    · have hlit : (regOps Try.f55 1)[15]? = some ({ dst := some 22, op := Op.call { callee := Callee.value (Operand.func 50), args := #[Operand.tmp 20, Operand.tmp 21], argTypes := #[23, 23] }, type := 3, pos := "exact.go:86", after := #[{ on := 13, ground := Ground.data }, { on := 14, ground := Ground.data }, { on := 12, ground := Ground.chain }, { on := 12, ground := Ground.guard }], guard := some (12, true) }) := by kernel_rfl
      obtain rfl := Option.some.inj (hlit.symm.trans hoi)
      exact op_not hoi (want_no rfl (d := 19) (by kernel_rfl) (hT.at 12 (by kernel_rfl) (pre_of hpre 12 (by kernel_rfl)))) ⟨ks, fun _ _ => rfl, rfl, pc0, pc1, ac0, ac1, bc0, bc1, HB, szw, fs, ss⟩
    · have hlit : (regOps Try.f55 1)[16]? = some ({ dst := some 23, op := Op.load 23 (Operand.tmp 3), type := 23, pos := "exact.go:86", after := #[{ on := 12, ground := Ground.guard }], guard := some (12, true) }) := by kernel_rfl
      obtain rfl := Option.some.inj (hlit.symm.trans hoi)
      exact op_not hoi (want_no rfl (d := 19) (by kernel_rfl) (hT.at 12 (by kernel_rfl) (pre_of hpre 12 (by kernel_rfl)))) ⟨ks, fun _ _ => rfl, rfl, pc0, pc1, ac0, ac1, bc0, bc1, HB, szw, fs, ss⟩
    · have hlit : (regOps Try.f55 1)[17]? = some ({ dst := some 24, op := Op.load 23 (Operand.tmp 5), type := 23, pos := "exact.go:86", after := #[{ on := 12, ground := Ground.guard }], guard := some (12, true) }) := by kernel_rfl
      obtain rfl := Option.some.inj (hlit.symm.trans hoi)
      exact op_not hoi (want_no rfl (d := 19) (by kernel_rfl) (hT.at 12 (by kernel_rfl) (pre_of hpre 12 (by kernel_rfl)))) ⟨ks, fun _ _ => rfl, rfl, pc0, pc1, ac0, ac1, bc0, bc1, HB, szw, fs, ss⟩
    · have hlit : (regOps Try.f55 1)[18]? = some ({ dst := some 25, op := Op.call { callee := Callee.value (Operand.func 50), args := #[Operand.tmp 23, Operand.tmp 24], argTypes := #[23, 23] }, type := 3, pos := "exact.go:86", after := #[{ on := 16, ground := Ground.data }, { on := 17, ground := Ground.data }, { on := 15, ground := Ground.chain }, { on := 12, ground := Ground.guard }], guard := some (12, true) }) := by kernel_rfl
      obtain rfl := Option.some.inj (hlit.symm.trans hoi)
      exact op_not hoi (want_no rfl (d := 19) (by kernel_rfl) (hT.at 12 (by kernel_rfl) (pre_of hpre 12 (by kernel_rfl)))) ⟨ks, fun _ _ => rfl, rfl, pc0, pc1, ac0, ac1, bc0, bc1, HB, szw, fs, ss⟩
    · have hlit : (regOps Try.f55 1)[19]? = some ({ dst := some 26, op := Op.binOp BinOp.mul 3 (Operand.tmp 22) (Operand.tmp 25) 3, type := 3, pos := "exact.go:86", after := #[{ on := 15, ground := Ground.data }, { on := 18, ground := Ground.data }, { on := 12, ground := Ground.guard }], guard := some (12, true) }) := by kernel_rfl
      obtain rfl := Option.some.inj (hlit.symm.trans hoi)
      exact op_not hoi (want_no rfl (d := 19) (by kernel_rfl) (hT.at 12 (by kernel_rfl) (pre_of hpre 12 (by kernel_rfl)))) ⟨ks, fun _ _ => rfl, rfl, pc0, pc1, ac0, ac1, bc0, bc1, HB, szw, fs, ss⟩
    · have hlit : (regOps Try.f55 1)[20]? = some ({ dst := some 27, op := Op.binOp BinOp.geq 3 (Operand.tmp 26) (Operand.const (Value.int IntKind.i64 0)) 3, type := 4, pos := "exact.go:86", after := #[{ on := 19, ground := Ground.data }, { on := 12, ground := Ground.guard }], guard := some (12, true) }) := by kernel_rfl
      obtain rfl := Option.some.inj (hlit.symm.trans hoi)
      exact op_not hoi (want_no rfl (d := 19) (by kernel_rfl) (hT.at 12 (by kernel_rfl) (pre_of hpre 12 (by kernel_rfl)))) ⟨ks, fun _ _ => rfl, rfl, pc0, pc1, ac0, ac1, bc0, bc1, HB, szw, fs, ss⟩
    · have hlit : (regOps Try.f55 1)[21]? = some ({ dst := some 28, op := Op.pick (Operand.tmp 19) (Operand.tmp 27) (Operand.const (Value.bool false)), type := 4, pos := "exact.go:86", after := #[{ on := 12, ground := Ground.data }, { on := 20, ground := Ground.data }], guard := none }) := by kernel_rfl
      obtain rfl := Option.some.inj (hlit.symm.trans hoi)
      have r19 : b.tmps.getD 19 undef = (.bool false) := rd (hT.at 12 (by kernel_rfl) (pre_of hpre 12 (by kernel_rfl)))
      have r27 : b.tmps.getD 27 undef = (undef) := rd (hT.at 20 (by kernel_rfl) (pre_of hpre 20 (by kernel_rfl)))
      refine op_go hoi (want_all rfl) fun K hK => ?_
      clear hT hpre hlit hoi
      go_simp
      exact hK _ _ ⟨ks, fun _ _ => rfl, rfl, pc0, pc1, ac0, ac1, bc0, bc1, HB, szw, fs, ss⟩
    · have hlit : (regOps Try.f55 1)[22]? = some ({ dst := some 29, op := Op.move (Operand.tmp 28), type := 4, pos := "exact.go:86", after := #[{ on := 21, ground := Ground.data }, { on := 18, ground := Ground.chain }], guard := none }) := by kernel_rfl
      obtain rfl := Option.some.inj (hlit.symm.trans hoi)
      have r28 : b.tmps.getD 28 undef = (.bool false) := rd (hT.at 21 (by kernel_rfl) (pre_of hpre 21 (by kernel_rfl)))
      refine op_go hoi (want_all rfl) fun K hK => ?_
      clear hT hpre hlit hoi
      go_simp
      exact hK _ _ ⟨ks, fun _ _ => rfl, rfl, pc0, pc1, ac0, ac1, bc0, bc1, HB, szw, fs, ss⟩
    · have hlit : (regOps Try.f55 1)[23]? = some ({ dst := some 30, op := Op.load 23 (Operand.tmp 4), type := 23, pos := "exact.go:86", after := #[{ on := 22, ground := Ground.guard }], guard := some (22, true) }) := by kernel_rfl
      obtain rfl := Option.some.inj (hlit.symm.trans hoi)
      exact op_not hoi (want_no rfl (d := 29) (by kernel_rfl) (hT.at 22 (by kernel_rfl) (pre_of hpre 22 (by kernel_rfl)))) ⟨ks, fun _ _ => rfl, rfl, pc0, pc1, ac0, ac1, bc0, bc1, HB, szw, fs, ss⟩
    · have hlit : (regOps Try.f55 1)[24]? = some ({ dst := some 31, op := Op.load 23 (Operand.tmp 5), type := 23, pos := "exact.go:86", after := #[{ on := 22, ground := Ground.guard }], guard := some (22, true) }) := by kernel_rfl
      obtain rfl := Option.some.inj (hlit.symm.trans hoi)
      exact op_not hoi (want_no rfl (d := 29) (by kernel_rfl) (hT.at 22 (by kernel_rfl) (pre_of hpre 22 (by kernel_rfl)))) ⟨ks, fun _ _ => rfl, rfl, pc0, pc1, ac0, ac1, bc0, bc1, HB, szw, fs, ss⟩
    · have hlit : (regOps Try.f55 1)[25]? = some ({ dst := some 32, op := Op.binOp BinOp.neq 23 (Operand.tmp 30) (Operand.tmp 31) 23, type := 4, pos := "exact.go:86", after := #[{ on := 23, ground := Ground.data }, { on := 24, ground := Ground.data }, { on := 22, ground := Ground.guard }], guard := some (22, true) }) := by kernel_rfl
      obtain rfl := Option.some.inj (hlit.symm.trans hoi)
      exact op_not hoi (want_no rfl (d := 29) (by kernel_rfl) (hT.at 22 (by kernel_rfl) (pre_of hpre 22 (by kernel_rfl)))) ⟨ks, fun _ _ => rfl, rfl, pc0, pc1, ac0, ac1, bc0, bc1, HB, szw, fs, ss⟩
    · have hlit : (regOps Try.f55 1)[26]? = some ({ dst := some 33, op := Op.move (Operand.tmp 32), type := 4, pos := "exact.go:86", after := #[{ on := 25, ground := Ground.data }, { on := 22, ground := Ground.chain }, { on := 22, ground := Ground.guard }], guard := some (22, true) }) := by kernel_rfl
      obtain rfl := Option.some.inj (hlit.symm.trans hoi)
      exact op_not hoi (want_no rfl (d := 29) (by kernel_rfl) (hT.at 22 (by kernel_rfl) (pre_of hpre 22 (by kernel_rfl)))) ⟨ks, fun _ _ => rfl, rfl, pc0, pc1, ac0, ac1, bc0, bc1, HB, szw, fs, ss⟩
    · have hlit : (regOps Try.f55 1)[27]? = some ({ dst := some 34, op := Op.load 23 (Operand.tmp 3), type := 23, pos := "exact.go:86", after := #[{ on := 26, ground := Ground.guard }], guard := some (26, false) }) := by kernel_rfl
      obtain rfl := Option.some.inj (hlit.symm.trans hoi)
      exact op_not hoi (want_un rfl (d := 33) (by kernel_rfl) (hT.at 26 (by kernel_rfl) (pre_of hpre 26 (by kernel_rfl)))) ⟨ks, fun _ _ => rfl, rfl, pc0, pc1, ac0, ac1, bc0, bc1, HB, szw, fs, ss⟩
    · have hlit : (regOps Try.f55 1)[28]? = some ({ dst := some 35, op := Op.load 23 (Operand.tmp 4), type := 23, pos := "exact.go:86", after := #[{ on := 26, ground := Ground.guard }], guard := some (26, false) }) := by kernel_rfl
      obtain rfl := Option.some.inj (hlit.symm.trans hoi)
      exact op_not hoi (want_un rfl (d := 33) (by kernel_rfl) (hT.at 26 (by kernel_rfl) (pre_of hpre 26 (by kernel_rfl)))) ⟨ks, fun _ _ => rfl, rfl, pc0, pc1, ac0, ac1, bc0, bc1, HB, szw, fs, ss⟩
    · have hlit : (regOps Try.f55 1)[29]? = some ({ dst := some 36, op := Op.binOp BinOp.eql 23 (Operand.tmp 34) (Operand.tmp 35) 23, type := 4, pos := "exact.go:86", after := #[{ on := 27, ground := Ground.data }, { on := 28, ground := Ground.data }, { on := 26, ground := Ground.guard }], guard := some (26, false) }) := by kernel_rfl
      obtain rfl := Option.some.inj (hlit.symm.trans hoi)
      exact op_not hoi (want_un rfl (d := 33) (by kernel_rfl) (hT.at 26 (by kernel_rfl) (pre_of hpre 26 (by kernel_rfl)))) ⟨ks, fun _ _ => rfl, rfl, pc0, pc1, ac0, ac1, bc0, bc1, HB, szw, fs, ss⟩
    · have hlit : (regOps Try.f55 1)[30]? = some ({ dst := some 37, op := Op.pick (Operand.tmp 33) (Operand.const (Value.bool true)) (Operand.tmp 36), type := 4, pos := "exact.go:86", after := #[{ on := 26, ground := Ground.data }, { on := 29, ground := Ground.data }, { on := 22, ground := Ground.guard }], guard := some (22, true) }) := by kernel_rfl
      obtain rfl := Option.some.inj (hlit.symm.trans hoi)
      exact op_not hoi (want_no rfl (d := 29) (by kernel_rfl) (hT.at 22 (by kernel_rfl) (pre_of hpre 22 (by kernel_rfl)))) ⟨ks, fun _ _ => rfl, rfl, pc0, pc1, ac0, ac1, bc0, bc1, HB, szw, fs, ss⟩
    · have hlit : (regOps Try.f55 1)[31]? = some ({ dst := some 38, op := Op.pick (Operand.tmp 29) (Operand.tmp 37) (Operand.const (Value.bool false)), type := 4, pos := "exact.go:86", after := #[{ on := 22, ground := Ground.data }, { on := 30, ground := Ground.data }], guard := none }) := by kernel_rfl
      obtain rfl := Option.some.inj (hlit.symm.trans hoi)
      have r29 : b.tmps.getD 29 undef = (.bool false) := rd (hT.at 22 (by kernel_rfl) (pre_of hpre 22 (by kernel_rfl)))
      have r37 : b.tmps.getD 37 undef = (undef) := rd (hT.at 30 (by kernel_rfl) (pre_of hpre 30 (by kernel_rfl)))
      refine op_go hoi (want_all rfl) fun K hK => ?_
      clear hT hpre hlit hoi
      go_simp
      exact hK _ _ ⟨ks, fun _ _ => rfl, rfl, pc0, pc1, ac0, ac1, bc0, bc1, HB, szw, fs, ss⟩
    · have hlit : (regOps Try.f55 1)[32]? = some ({ dst := some 6, op := Op.assign (Operand.tmp 38), type := 4, pos := "exact.go:86", after := #[{ on := 31, ground := Ground.data }, { on := 26, ground := Ground.chain }, { on := 0, ground := Ground.phase }, { on := 1, ground := Ground.phase }, { on := 2, ground := Ground.phase }, { on := 3, ground := Ground.phase }, { on := 4, ground := Ground.phase }, { on := 5, ground := Ground.phase }, { on := 6, ground := Ground.phase }, { on := 7, ground := Ground.phase }, { on := 8, ground := Ground.phase }, { on := 9, ground := Ground.phase }, { on := 10, ground := Ground.phase }, { on := 11, ground := Ground.phase }, { on := 12, ground := Ground.phase }, { on := 13, ground := Ground.phase }, { on := 14, ground := Ground.phase }, { on := 15, ground := Ground.phase }, { on := 16, ground := Ground.phase }, { on := 17, ground := Ground.phase }, { on := 18, ground := Ground.phase }, { on := 19, ground := Ground.phase }, { on := 20, ground := Ground.phase }, { on := 21, ground := Ground.phase }, { on := 22, ground := Ground.phase }, { on := 23, ground := Ground.phase }, { on := 24, ground := Ground.phase }, { on := 25, ground := Ground.phase }, { on := 26, ground := Ground.phase }, { on := 27, ground := Ground.phase }, { on := 28, ground := Ground.phase }, { on := 29, ground := Ground.phase }, { on := 30, ground := Ground.phase }, { on := 31, ground := Ground.phase }], guard := none }) := by kernel_rfl
      obtain rfl := Option.some.inj (hlit.symm.trans hoi)
      have r38 : b.tmps.getD 38 undef = (.bool false) := rd (hT.at 31 (by kernel_rfl) (pre_of hpre 31 (by kernel_rfl)))
      refine op_go hoi (want_all rfl) fun K hK => ?_
      clear hT hpre hlit hoi
      go_simp
      exact hK _ _ ⟨ks, fun _ _ => rfl, rfl, pc0, pc1, ac0, ac1, bc0, bc1, HB, szw, fs, ss⟩
  · intro ks b w' hT hS
    rw [hT.all ht]
    have hn : (regOps Try.f55 1).size = 33 := by kernel_rfl
    rw [hn] at hS ⊢
    skip
    skip
    obtain ⟨pc0, pc1, ac0, ac1, bc0, bc1, HB, szw, fs, ss⟩ := hS
    obtain ⟨ges, fzs0, fzs1, fzs2, fzs3, fzs4, fzs5, us0, us1, us2, us3, us4, us5, ces0, ces1, ces2, ces3, ces4, ces5, uss⟩ := fs rfl
    obtain ⟨rfl, rfl, rfl, rfl, rfl, rfl⟩ := uss rfl
    exact he ks w' ⟨pc0, pc1, ac0, ac1, bc0, bc1, HB⟩ ⟨ces0, ces1, ces2, ces3, ces4, ces5, fzs0, fzs1, fzs2, fzs3, fzs4, fzs5, ges⟩

/-- What each operation of the region leaves. -/
def region55cV (p0 p1 a0 a1 b0 b1 : Int) (ks : Nat) : Nat → Value
  | 0 => .agg #[.int .i64 p0, .int .i64 p1]
  | 1 => .agg #[.int .i64 a0, .int .i64 a1]
  | 2 => .agg #[.int .i64 b0, .int .i64 b1]
  | 3 => .slice (some ⟨ks, 0, none⟩) 3 3
  | 4 => .bool true
  | 5 => .bool true
  | 6 => .agg #[.int .i64 a0, .int .i64 a1]
  | 7 => .agg #[.int .i64 b0, .int .i64 b1]
  | 8 => .agg #[.int .i64 p0, .int .i64 p1]
  | 9 => .int .i64 0
  | 10 => .bool true
  | 11 => .bool true
  | 12 => .bool true
  | 13 => .agg #[.int .i64 a0, .int .i64 a1]
  | 14 => .agg #[.int .i64 p0, .int .i64 p1]
  | 15 => .int .i64 (cmpP ⟨a0, a1⟩ ⟨p0, p1⟩)
  | 16 => .agg #[.int .i64 p0, .int .i64 p1]
  | 17 => .agg #[.int .i64 b0, .int .i64 b1]
  | 18 => .int .i64 (cmpP ⟨p0, p1⟩ ⟨b0, b1⟩)
  | 19 => .int .i64 (cmpP ⟨a0, a1⟩ ⟨p0, p1⟩ * cmpP ⟨p0, p1⟩ ⟨b0, b1⟩)
  | 20 => .bool false
  | 21 => .bool false
  | 22 => .bool false
  | 23 => undef
  | 24 => undef
  | 25 => undef
  | 26 => undef
  | 27 => undef
  | 28 => undef
  | 29 => undef
  | 30 => undef
  | 31 => .bool false
  | 32 => .bool false
  | _ => undef

set_option maxHeartbeats 4000000 in
set_option maxRecDepth 100000 in
theorem region55c (p0 p1 a0 a1 b0 b1 : Int) (kp ka kb : Nat) (W : World) (m1 : (val ⟨p0, p1⟩ && val ⟨a0, a1⟩ && val ⟨b0, b1⟩) = true) (m2 : ori ⟨a0, a1⟩ ⟨b0, b1⟩ ⟨p0, p1⟩ = 0) (m3 : decide (0 ≤ cmpP ⟨a0, a1⟩ ⟨p0, p1⟩ * cmpP ⟨p0, p1⟩ ⟨b0, b1⟩) = false) (eqm : IntKind.i64.wrap (cmpP ⟨a0, a1⟩ ⟨p0, p1⟩ * cmpP ⟨p0, p1⟩ ⟨b0, b1⟩) = cmpP ⟨a0, a1⟩ ⟨p0, p1⟩ * cmpP ⟨p0, p1⟩ ⟨b0, b1⟩) {id : Nat} {ops : Array Oper} {Q : Exit → Act → World → Prop} {a : Act} {w : World}
    (ho : ops = (regOps Try.f55 1)) (hsz : a.tmps.size = 39) (t3 : a.tmps[3]? = some (.pointer (some ⟨kp, 0, none⟩))) (t4 : a.tmps[4]? = some (.pointer (some ⟨ka, 0, none⟩))) (t5 : a.tmps[5]? = some (.pointer (some ⟨kb, 0, none⟩)))
    (h0 : w.cell? ⟨kp, 0, none⟩ = some (.int .i64 p0) ∧ w.cell? ⟨kp, 1, none⟩ = some (.int .i64 p1) ∧ w.cell? ⟨ka, 0, none⟩ = some (.int .i64 a0) ∧ w.cell? ⟨ka, 1, none⟩ = some (.int .i64 a1) ∧ w.cell? ⟨kb, 0, none⟩ = some (.int .i64 b0) ∧ w.cell? ⟨kb, 1, none⟩ = some (.int .i64 b1) ∧ Below W.heap.size W w)
    (he : ∀ ks w', w'.cell? ⟨kp, 0, none⟩ = some (.int .i64 p0) ∧ w'.cell? ⟨kp, 1, none⟩ = some (.int .i64 p1) ∧ w'.cell? ⟨ka, 0, none⟩ = some (.int .i64 a0) ∧ w'.cell? ⟨ka, 1, none⟩ = some (.int .i64 a1) ∧ w'.cell? ⟨kb, 0, none⟩ = some (.int .i64 b0) ∧ w'.cell? ⟨kb, 1, none⟩ = some (.int .i64 b1) ∧ Below W.heap.size W w' → w'.cell? ⟨ks, 0, none⟩ = some (.int .i64 p0) ∧ w'.cell? ⟨ks, 1, none⟩ = some (.int .i64 p1) ∧ w'.cell? ⟨ks, 2, none⟩ = some (.int .i64 a0) ∧ w'.cell? ⟨ks, 3, none⟩ = some (.int .i64 a1) ∧ w'.cell? ⟨ks, 4, none⟩ = some (.int .i64 b0) ∧ w'.cell? ⟨ks, 5, none⟩ = some (.int .i64 b1) ∧ w'.frozen? ⟨ks, 0, none⟩ = false ∧ w'.frozen? ⟨ks, 1, none⟩ = false ∧ w'.frozen? ⟨ks, 2, none⟩ = false ∧ w'.frozen? ⟨ks, 3, none⟩ = false ∧ w'.frozen? ⟨ks, 4, none⟩ = false ∧ w'.frozen? ⟨ks, 5, none⟩ = false ∧ w.heap.size ≤ ks → Q .normal ⟨(((((((((((((((((((((((((((((((((a.tmps.setIfInBounds 7 (.agg #[.int .i64 p0, .int .i64 p1])).setIfInBounds 8 (.agg #[.int .i64 a0, .int .i64 a1])).setIfInBounds 9 (.agg #[.int .i64 b0, .int .i64 b1])).setIfInBounds 10 (.slice (some ⟨ks, 0, none⟩) 3 3)).setIfInBounds 11 (.bool true)).setIfInBounds 12 (.bool true)).setIfInBounds 13 (.agg #[.int .i64 a0, .int .i64 a1])).setIfInBounds 14 (.agg #[.int .i64 b0, .int .i64 b1])).setIfInBounds 15 (.agg #[.int .i64 p0, .int .i64 p1])).setIfInBounds 16 (.int .i64 0)).setIfInBounds 17 (.bool true)).setIfInBounds 18 (.bool true)).setIfInBounds 19 (.bool true)).setIfInBounds 20 (.agg #[.int .i64 a0, .int .i64 a1])).setIfInBounds 21 (.agg #[.int .i64 p0, .int .i64 p1])).setIfInBounds 22 (.int .i64 (cmpP ⟨a0, a1⟩ ⟨p0, p1⟩))).setIfInBounds 23 (.agg #[.int .i64 p0, .int .i64 p1])).setIfInBounds 24 (.agg #[.int .i64 b0, .int .i64 b1])).setIfInBounds 25 (.int .i64 (cmpP ⟨p0, p1⟩ ⟨b0, b1⟩))).setIfInBounds 26 (.int .i64 (cmpP ⟨a0, a1⟩ ⟨p0, p1⟩ * cmpP ⟨p0, p1⟩ ⟨b0, b1⟩))).setIfInBounds 27 (.bool false)).setIfInBounds 28 (.bool false)).setIfInBounds 29 (.bool false)).setIfInBounds 30 (undef)).setIfInBounds 31 (undef)).setIfInBounds 32 (undef)).setIfInBounds 33 (undef)).setIfInBounds 34 (undef)).setIfInBounds 35 (undef)).setIfInBounds 36 (undef)).setIfInBounds 37 (undef)).setIfInBounds 38 (.bool false)).setIfInBounds 6 (.bool false)), a.defers⟩ w') :
    (Code.region id ops true).wp Try.prog Q a w := by
  have ht : tidy (regOps Try.f55 1) a.tmps.size = true := by rw [hsz]; kernel_rfl
  obtain ⟨pc0, pc1, ac0, ac1, bc0, bc1, HB0⟩ := h0
  have lt_kp := World.block_lt_of_cell? w _ pc0
  have lt_ka := World.block_lt_of_cell? w _ ac0
  have lt_kb := World.block_lt_of_cell? w _ bc0
  have sz0 := HB0.size
  refine region_tab (G := Nat) (fun g => (region55cV p0 p1 a0 a1 b0 b1  g)) (fun g L w' => w'.cell? ⟨kp, 0, none⟩ = some (.int .i64 p0) ∧ w'.cell? ⟨kp, 1, none⟩ = some (.int .i64 p1) ∧ w'.cell? ⟨ka, 0, none⟩ = some (.int .i64 a0) ∧ w'.cell? ⟨ka, 1, none⟩ = some (.int .i64 a1) ∧ w'.cell? ⟨kb, 0, none⟩ = some (.int .i64 b0) ∧ w'.cell? ⟨kb, 1, none⟩ = some (.int .i64 b1) ∧ Below W.heap.size W w' ∧ w.heap.size ≤ w'.heap.size ∧ (L 3 = true → w.heap.size ≤ g ∧ w'.frozen? ⟨g, 0, none⟩ = false ∧ w'.frozen? ⟨g, 1, none⟩ = false ∧ w'.frozen? ⟨g, 2, none⟩ = false ∧ w'.frozen? ⟨g, 3, none⟩ = false ∧ w'.frozen? ⟨g, 4, none⟩ = false ∧ w'.frozen? ⟨g, 5, none⟩ = false ∧ ∃ u0 u1 u2 u3 u4 u5 : Int, w'.cell? ⟨g, 0, none⟩ = some (.int .i64 u0) ∧ w'.cell? ⟨g, 1, none⟩ = some (.int .i64 u1) ∧ w'.cell? ⟨g, 2, none⟩ = some (.int .i64 u2) ∧ w'.cell? ⟨g, 3, none⟩ = some (.int .i64 u3) ∧ w'.cell? ⟨g, 4, none⟩ = some (.int .i64 u4) ∧ w'.cell? ⟨g, 5, none⟩ = some (.int .i64 u5) ∧ (L 3 = true → u0 = p0 ∧ u1 = p1 ∧ u2 = a0 ∧ u3 = a1 ∧ u4 = b0 ∧ u5 = b1)) ∧ (L 3 = true → L 3 = true)) 0 (by kernel_rfl) ho ht ⟨pc0, pc1, ac0, ac1, bc0, bc1, bd HB0, Nat.le_refl _, fun h => (by cases h), fun h => (by cases h)⟩ ?_ ?_
  · intro i o hoi ks L b w' hun hpre hT hS
    clear he pc0 pc1 ac0 ac1 bc0 bc1 ho hsz ht HB0
    have hi : i < (regOps Try.f55 1).size := (Array.getElem?_eq_some_iff.1 hoi).1
    rw [show (regOps Try.f55 1).size = 33 by kernel_rfl] at hi
    skip
    skip
    obtain ⟨pc0, pc1, ac0, ac1, bc0, bc1, HB, szw, fs, ss⟩ := hS
    have hcases : i = 0 ∨ i = 1 ∨ i = 2 ∨ i = 3 ∨ i = 4 ∨ i = 5 ∨ i = 6 ∨ i = 7 ∨ i = 8 ∨ i = 9 ∨ i = 10 ∨ i = 11 ∨ i = 12 ∨ i = 13 ∨ i = 14 ∨ i = 15 ∨ i = 16 ∨ i = 17 ∨ i = 18 ∨ i = 19 ∨ i = 20 ∨ i = 21 ∨ i = 22 ∨ i = 23 ∨ i = 24 ∨ i = 25 ∨ i = 26 ∨ i = 27 ∨ i = 28 ∨ i = 29 ∨ i = 30 ∨ i = 31 ∨ i = 32 := by omega
    rcases hcases with rfl | rfl | rfl | rfl | rfl | rfl | rfl | rfl | rfl | rfl | rfl | rfl | rfl | rfl | rfl | rfl | rfl | rfl | rfl | rfl | rfl | rfl | rfl | rfl | rfl | rfl | rfl | rfl | rfl | rfl | rfl | rfl | rfl
    · have hlit : (regOps Try.f55 1)[0]? = some ({ dst := some 7, op := Op.load 23 (Operand.tmp 3), type := 23, pos := "exact.go:86", after := #[], guard := none }) := by kernel_rfl
      obtain rfl := Option.some.inj (hlit.symm.trans hoi)
      have r3 : b.tmps.getD 3 undef = (.pointer (some ⟨kp, 0, none⟩)) := rd ((hT.old 3 (by kernel_rfl)).trans t3)
      refine op_go hoi (want_all rfl) fun K hK => ?_
      clear hT hpre hlit hoi
      go_simp
      exact hK _ _ ⟨ks, fun _ _ => rfl, rfl, pc0, pc1, ac0, ac1, bc0, bc1, HB, szw, fs, ss⟩
    · have hlit : (regOps Try.f55 1)[1]? = some ({ dst := some 8, op := Op.load 23 (Operand.tmp 4), type := 23, pos := "exact.go:86", after := #[], guard := none }) := by kernel_rfl
      obtain rfl := Option.some.inj (hlit.symm.trans hoi)
      have r4 : b.tmps.getD 4 undef = (.pointer (some ⟨ka, 0, none⟩)) := rd ((hT.old 4 (by kernel_rfl)).trans t4)
      refine op_go hoi (want_all rfl) fun K hK => ?_
      clear hT hpre hlit hoi
      go_simp
      exact hK _ _ ⟨ks, fun _ _ => rfl, rfl, pc0, pc1, ac0, ac1, bc0, bc1, HB, szw, fs, ss⟩
    · have hlit : (regOps Try.f55 1)[2]? = some ({ dst := some 9, op := Op.load 23 (Operand.tmp 5), type := 23, pos := "exact.go:86", after := #[], guard := none }) := by kernel_rfl
      obtain rfl := Option.some.inj (hlit.symm.trans hoi)
      have r5 : b.tmps.getD 5 undef = (.pointer (some ⟨kb, 0, none⟩)) := rd ((hT.old 5 (by kernel_rfl)).trans t5)
      refine op_go hoi (want_all rfl) fun K hK => ?_
      clear hT hpre hlit hoi
      go_simp
      exact hK _ _ ⟨ks, fun _ _ => rfl, rfl, pc0, pc1, ac0, ac1, bc0, bc1, HB, szw, fs, ss⟩
    · have hlit : (regOps Try.f55 1)[3]? = some ({ dst := some 10, op := Op.buildSlice 41 3 #[(0, Operand.tmp 7), (1, Operand.tmp 8), (2, Operand.tmp 9)], type := 41, pos := "exact.go:86", after := #[{ on := 0, ground := Ground.data }, { on := 1, ground := Ground.data }, { on := 2, ground := Ground.data }], guard := none }) := by kernel_rfl
      obtain rfl := Option.some.inj (hlit.symm.trans hoi)
      have r7 : b.tmps.getD 7 undef = (.agg #[.int .i64 p0, .int .i64 p1]) := rd (hT.at 0 (by kernel_rfl) (pre_of hpre 0 (by kernel_rfl)))
      have q7 : b.tmps[7]?.getD undef = (.agg #[.int .i64 p0, .int .i64 p1]) := (Array.getD_eq_getD_getElem? ..).symm.trans r7
      have r8 : b.tmps.getD 8 undef = (.agg #[.int .i64 a0, .int .i64 a1]) := rd (hT.at 1 (by kernel_rfl) (pre_of hpre 1 (by kernel_rfl)))
      have q8 : b.tmps[8]?.getD undef = (.agg #[.int .i64 a0, .int .i64 a1]) := (Array.getD_eq_getD_getElem? ..).symm.trans r8
      have r9 : b.tmps.getD 9 undef = (.agg #[.int .i64 b0, .int .i64 b1]) := rd (hT.at 2 (by kernel_rfl) (pre_of hpre 2 (by kernel_rfl)))
      have q9 : b.tmps[9]?.getD undef = (.agg #[.int .i64 b0, .int .i64 b1]) := (Array.getD_eq_getD_getElem? ..).symm.trans r9
      refine op_go hoi (want_all rfl) fun K hK => ?_
      clear hT hpre hlit hoi
      go_simp
      have lw_pc0 := World.block_lt_of_cell? w' _ pc0
      have lw_pc1 := World.block_lt_of_cell? w' _ pc1
      have lw_ac0 := World.block_lt_of_cell? w' _ ac0
      have lw_ac1 := World.block_lt_of_cell? w' _ ac1
      have lw_bc0 := World.block_lt_of_cell? w' _ bc0
      have lw_bc1 := World.block_lt_of_cell? w' _ bc1
      refine hK _ _ ⟨w'.heap.size, fun j hj => ?_, rfl, by go_simp, by go_simp, by go_simp, by go_simp, by go_simp, by go_simp, ba HB _, by simp; omega, fun _ => ⟨szw, by go_simp, by go_simp, by go_simp, by go_simp, by go_simp, by go_simp, p0, p1, a0, a1, b0, b1, by go_simp, by go_simp, by go_simp, by go_simp, by go_simp, by go_simp, fun _ => ⟨rfl, rfl, rfl, rfl, rfl, rfl⟩⟩, fun _ => rfl⟩
      by_cases e : j = 3
      · subst e; rw [hun] at hj; cases hj
      · unfold region55cV; split <;> first | rfl | (exact absurd rfl e)
    · have hlit : (regOps Try.f55 1)[4]? = some ({ dst := some 11, op := Op.call { callee := Callee.value (Operand.func 69), args := #[Operand.tmp 10], argTypes := #[41] }, type := 4, pos := "exact.go:86", after := #[{ on := 3, ground := Ground.data }], guard := none }) := by kernel_rfl
      obtain rfl := Option.some.inj (hlit.symm.trans hoi)
      have r10 : b.tmps.getD 10 undef = (.slice (some ⟨ks, 0, none⟩) 3 3) := rd (hT.at 3 (by kernel_rfl) (pre_of hpre 3 (by kernel_rfl)))
      have pr : L 3 = true := pre_of hpre 3 (by kernel_rfl)
      obtain ⟨ge, fz0, fz1, fz2, fz3, fz4, fz5, u0, u1, u2, u3, u4, u5, ce0, ce1, ce2, ce3, ce4, ce5, us⟩ := fs pr
      obtain ⟨us0, us1, us2, us3, us4, us5⟩ := us pr
      rw [us0] at ce0
      rw [us1] at ce1
      rw [us2] at ce2
      rw [us3] at ce3
      rw [us4] at ce4
      rw [us5] at ce5
      refine op_go hoi (want_all rfl) fun K hK => ?_
      clear hT hpre hlit hoi
      go_simp
      go_at_call 69
      refine (all3 _ _ _ _ _ _ _ _ _ ce0 ce1 ce2 ce3 ce4 ce5).mono ?_; rw [m1]; rintro e w2 ⟨rfl, hb⟩; replace pc0 := ck hb pc0; replace pc1 := ck hb pc1; replace ac0 := ck hb ac0; replace ac1 := ck hb ac1; replace bc0 := ck hb bc0; replace bc1 := ck hb bc1; replace szw : w.heap.size ≤ w2.heap.size := Nat.le_trans szw hb.size; replace fs : L 3 = true → w.heap.size ≤ ks ∧ w2.frozen? ⟨ks, 0, none⟩ = false ∧ w2.frozen? ⟨ks, 1, none⟩ = false ∧ w2.frozen? ⟨ks, 2, none⟩ = false ∧ w2.frozen? ⟨ks, 3, none⟩ = false ∧ w2.frozen? ⟨ks, 4, none⟩ = false ∧ w2.frozen? ⟨ks, 5, none⟩ = false ∧ ∃ u0 u1 u2 u3 u4 u5 : Int, w2.cell? ⟨ks, 0, none⟩ = some (Value.int .i64 u0) ∧ w2.cell? ⟨ks, 1, none⟩ = some (Value.int .i64 u1) ∧ w2.cell? ⟨ks, 2, none⟩ = some (Value.int .i64 u2) ∧ w2.cell? ⟨ks, 3, none⟩ = some (Value.int .i64 u3) ∧ w2.cell? ⟨ks, 4, none⟩ = some (Value.int .i64 u4) ∧ w2.cell? ⟨ks, 5, none⟩ = some (Value.int .i64 u5) ∧ (L 3 = true → u0 = p0 ∧ u1 = p1 ∧ u2 = a0 ∧ u3 = a1 ∧ u4 = b0 ∧ u5 = b1) := fun h => (by obtain ⟨ge, fz0, fz1, fz2, fz3, fz4, fz5, u0, u1, u2, u3, u4, u5, ce0, ce1, ce2, ce3, ce4, ce5, us⟩ := fs h; exact ⟨ge, cf hb (World.block_lt_of_cell? _ _ ce0) fz0, cf hb (World.block_lt_of_cell? _ _ ce1) fz1, cf hb (World.block_lt_of_cell? _ _ ce2) fz2, cf hb (World.block_lt_of_cell? _ _ ce3) fz3, cf hb (World.block_lt_of_cell? _ _ ce4) fz4, cf hb (World.block_lt_of_cell? _ _ ce5) fz5, u0, u1, u2, u3, u4, u5, ck hb ce0, ck hb ce1, ck hb ce2, ck hb ce3, ck hb ce4, ck hb ce5, us⟩); replace HB : Below W.heap.size W w2 := bt HB hb; clear hb
      exact hK _ _ ⟨ks, fun _ _ => rfl, rfl, pc0, pc1, ac0, ac1, bc0, bc1, HB, szw, fs, ss⟩
    · have hlit : (regOps Try.f55 1)[5]? = some ({ dst := some 12, op := Op.move (Operand.tmp 11), type := 4, pos := "exact.go:86", after := #[{ on := 4, ground := Ground.data }, { on := 4, ground := Ground.chain }], guard := none }) := by kernel_rfl
      obtain rfl := Option.some.inj (hlit.symm.trans hoi)
      have r11 : b.tmps.getD 11 undef = (.bool true) := rd (hT.at 4 (by kernel_rfl) (pre_of hpre 4 (by kernel_rfl)))
      refine op_go hoi (want_all rfl) fun K hK => ?_
      clear hT hpre hlit hoi
      go_simp
      exact hK _ _ ⟨ks, fun _ _ => rfl, rfl, pc0, pc1, ac0, ac1, bc0, bc1, HB, szw, fs, ss⟩
    · have hlit : (regOps Try.f55 1)[6]? = some ({ dst := some 13, op := Op.load 23 (Operand.tmp 4), type := 23, pos := "exact.go:86", after := #[{ on := 5, ground := Ground.guard }], guard := some (5, true) }) := by kernel_rfl
      obtain rfl := Option.some.inj (hlit.symm.trans hoi)
      have r4 : b.tmps.getD 4 undef = (.pointer (some ⟨ka, 0, none⟩)) := rd ((hT.old 4 (by kernel_rfl)).trans t4)
      refine op_go hoi (want_yes rfl (d := 12) (by kernel_rfl) (hT.at 5 (by kernel_rfl) (pre_of hpre 5 (by kernel_rfl)))) fun K hK => ?_
      clear hT hpre hlit hoi
      go_simp
      exact hK _ _ ⟨ks, fun _ _ => rfl, rfl, pc0, pc1, ac0, ac1, bc0, bc1, HB, szw, fs, ss⟩
    · have hlit : (regOps Try.f55 1)[7]? = some ({ dst := some 14, op := Op.load 23 (Operand.tmp 5), type := 23, pos := "exact.go:86", after := #[{ on := 5, ground := Ground.guard }], guard := some (5, true) }) := by kernel_rfl
      obtain rfl := Option.some.inj (hlit.symm.trans hoi)
      have r5 : b.tmps.getD 5 undef = (.pointer (some ⟨kb, 0, none⟩)) := rd ((hT.old 5 (by kernel_rfl)).trans t5)
      refine op_go hoi (want_yes rfl (d := 12) (by kernel_rfl) (hT.at 5 (by kernel_rfl) (pre_of hpre 5 (by kernel_rfl)))) fun K hK => ?_
      clear hT hpre hlit hoi
      go_simp
      exact hK _ _ ⟨ks, fun _ _ => rfl, rfl, pc0, pc1, ac0, ac1, bc0, bc1, HB, szw, fs, ss⟩
    · have hlit : (regOps Try.f55 1)[8]? = some ({ dst := some 15, op := Op.load 23 (Operand.tmp 3), type := 23, pos := "exact.go:86", after := #[{ on := 5, ground := Ground.guard }], guard := some (5, true) }) := by kernel_rfl
      obtain rfl := Option.some.inj (hlit.symm.trans hoi)
      have r3 : b.tmps.getD 3 undef = (.pointer (some ⟨kp, 0, none⟩)) := rd ((hT.old 3 (by kernel_rfl)).trans t3)
      refine op_go hoi (want_yes rfl (d := 12) (by kernel_rfl) (hT.at 5 (by kernel_rfl) (pre_of hpre 5 (by kernel_rfl)))) fun K hK => ?_
      clear hT hpre hlit hoi
      go_simp
      exact hK _ _ ⟨ks, fun _ _ => rfl, rfl, pc0, pc1, ac0, ac1, bc0, bc1, HB, szw, fs, ss⟩
    · have hlit : (regOps Try.f55 1)[9]? = some ({ dst := some 16, op := Op.call { callee := Callee.value (Operand.func 52), args := #[Operand.tmp 13, Operand.tmp 14, Operand.tmp 15], argTypes := #[23, 23, 23] }, type := 3, pos := "exact.go:86", after := #[{ on := 6, ground := Ground.data }, { on := 7, ground := Ground.data }, { on := 8, ground := Ground.data }, { on := 5, ground := Ground.chain }, { on := 5, ground := Ground.guard }], guard := some (5, true) }) := by kernel_rfl
      obtain rfl := Option.some.inj (hlit.symm.trans hoi)
      have r13 : b.tmps.getD 13 undef = (.agg #[.int .i64 a0, .int .i64 a1]) := rd (hT.at 6 (by kernel_rfl) (pre_of hpre 6 (by kernel_rfl)))
      have r14 : b.tmps.getD 14 undef = (.agg #[.int .i64 b0, .int .i64 b1]) := rd (hT.at 7 (by kernel_rfl) (pre_of hpre 7 (by kernel_rfl)))
      have r15 : b.tmps.getD 15 undef = (.agg #[.int .i64 p0, .int .i64 p1]) := rd (hT.at 8 (by kernel_rfl) (pre_of hpre 8 (by kernel_rfl)))
      refine op_go hoi (want_yes rfl (d := 12) (by kernel_rfl) (hT.at 5 (by kernel_rfl) (pre_of hpre 5 (by kernel_rfl)))) fun K hK => ?_
      clear hT hpre hlit hoi
      go_simp
      go_at_call 52
      refine (ori52 _ _ _ _ _ _ _).mono ?_; rw [m2]; rintro e w2 ⟨rfl, hb⟩; replace pc0 := ck hb pc0; replace pc1 := ck hb pc1; replace ac0 := ck hb ac0; replace ac1 := ck hb ac1; replace bc0 := ck hb bc0; replace bc1 := ck hb bc1; replace szw : w.heap.size ≤ w2.heap.size := Nat.le_trans szw hb.size; replace fs : L 3 = true → w.heap.size ≤ ks ∧ w2.frozen? ⟨ks, 0, none⟩ = false ∧ w2.frozen? ⟨ks, 1, none⟩ = false ∧ w2.frozen? ⟨ks, 2, none⟩ = false ∧ w2.frozen? ⟨ks, 3, none⟩ = false ∧ w2.frozen? ⟨ks, 4, none⟩ = false ∧ w2.frozen? ⟨ks, 5, none⟩ = false ∧ ∃ u0 u1 u2 u3 u4 u5 : Int, w2.cell? ⟨ks, 0, none⟩ = some (Value.int .i64 u0) ∧ w2.cell? ⟨ks, 1, none⟩ = some (Value.int .i64 u1) ∧ w2.cell? ⟨ks, 2, none⟩ = some (Value.int .i64 u2) ∧ w2.cell? ⟨ks, 3, none⟩ = some (Value.int .i64 u3) ∧ w2.cell? ⟨ks, 4, none⟩ = some (Value.int .i64 u4) ∧ w2.cell? ⟨ks, 5, none⟩ = some (Value.int .i64 u5) ∧ (L 3 = true → u0 = p0 ∧ u1 = p1 ∧ u2 = a0 ∧ u3 = a1 ∧ u4 = b0 ∧ u5 = b1) := fun h => (by obtain ⟨ge, fz0, fz1, fz2, fz3, fz4, fz5, u0, u1, u2, u3, u4, u5, ce0, ce1, ce2, ce3, ce4, ce5, us⟩ := fs h; exact ⟨ge, cf hb (World.block_lt_of_cell? _ _ ce0) fz0, cf hb (World.block_lt_of_cell? _ _ ce1) fz1, cf hb (World.block_lt_of_cell? _ _ ce2) fz2, cf hb (World.block_lt_of_cell? _ _ ce3) fz3, cf hb (World.block_lt_of_cell? _ _ ce4) fz4, cf hb (World.block_lt_of_cell? _ _ ce5) fz5, u0, u1, u2, u3, u4, u5, ck hb ce0, ck hb ce1, ck hb ce2, ck hb ce3, ck hb ce4, ck hb ce5, us⟩); replace HB : Below W.heap.size W w2 := bt HB hb; clear hb
      exact hK _ _ ⟨ks, fun _ _ => rfl, rfl, pc0, pc1, ac0, ac1, bc0, bc1, HB, szw, fs, ss⟩
    · have hlit : (regOps Try.f55 1)[10]? = some ({ dst := some 17, op := Op.binOp BinOp.eql 3 (Operand.tmp 16) (Operand.const (Value.int IntKind.i64 0)) 3, type := 4, pos := "exact.go:86", after := #[{ on := 9, ground := Ground.data }, { on := 5, ground := Ground.guard }], guard := some (5, true) }) := by kernel_rfl
      obtain rfl := Option.some.inj (hlit.symm.trans hoi)
      have r16 : b.tmps.getD 16 undef = (.int .i64 0) := rd (hT.at 9 (by kernel_rfl) (pre_of hpre 9 (by kernel_rfl)))
      refine op_go hoi (want_yes rfl (d := 12) (by kernel_rfl) (hT.at 5 (by kernel_rfl) (pre_of hpre 5 (by kernel_rfl)))) fun K hK => ?_
      clear hT hpre hlit hoi
      go_simp
      exact hK _ _ ⟨ks, fun _ _ => rfl, rfl, pc0, pc1, ac0, ac1, bc0, bc1, HB, szw, fs, ss⟩
    · have hlit : (regOps Try.f55 1)[11]? = some ({ dst := some 18, op := Op.pick (Operand.tmp 12) (Operand.tmp 17) (Operand.const (Value.bool false)), type := 4, pos := "exact.go:86", after := #[{ on := 5, ground := Ground.data }, { on := 10, ground := Ground.data }], guard := none }) := by kernel_rfl
      obtain rfl := Option.some.inj (hlit.symm.trans hoi)
      have r12 : b.tmps.getD 12 undef = (.bool true) := rd (hT.at 5 (by kernel_rfl) (pre_of hpre 5 (by kernel_rfl)))
      have r17 : b.tmps.getD 17 undef = (.bool true) := rd (hT.at 10 (by kernel_rfl) (pre_of hpre 10 (by kernel_rfl)))
      refine op_go hoi (want_all rfl) fun K hK => ?_
      clear hT hpre hlit hoi
      go_simp
      exact hK _ _ ⟨ks, fun _ _ => rfl, rfl, pc0, pc1, ac0, ac1, bc0, bc1, HB, szw, fs, ss⟩
    · have hlit : (regOps Try.f55 1)[12]? = some ({ dst := some 19, op := Op.move (Operand.tmp 18), type := 4, pos := "exact.go:86", after := #[{ on := 11, ground := Ground.data }, { on := 9, ground := Ground.chain }], guard := none }) := by kernel_rfl
      obtain rfl := Option.some.inj (hlit.symm.trans hoi)
      have r18 : b.tmps.getD 18 undef = (.bool true) := rd (hT.at 11 (by kernel_rfl) (pre_of hpre 11 (by kernel_rfl)))
      refine op_go hoi (want_all rfl) fun K hK => ?_
      clear hT hpre hlit hoi
      go_simp
      exact hK _ _ ⟨ks, fun _ _ => rfl, rfl, pc0, pc1, ac0, ac1, bc0, bc1, HB, szw, fs, ss⟩
    · have hlit : (regOps Try.f55 1)[13]? = some ({ dst := some 20, op := Op.load 23 (Operand.tmp 4), type := 23, pos := "exact.go:86", after := #[{ on := 12, ground := Ground.guard }], guard := some (12, true) }) := by kernel_rfl
      obtain rfl := Option.some.inj (hlit.symm.trans hoi)
      have r4 : b.tmps.getD 4 undef = (.pointer (some ⟨ka, 0, none⟩)) := rd ((hT.old 4 (by kernel_rfl)).trans t4)
      refine op_go hoi (want_yes rfl (d := 19) (by kernel_rfl) (hT.at 12 (by kernel_rfl) (pre_of hpre 12 (by kernel_rfl)))) fun K hK => ?_
      clear hT hpre hlit hoi
      go_simp
      exact hK _ _ ⟨ks, fun _ _ => rfl, rfl, pc0, pc1, ac0, ac1, bc0, bc1, HB, szw, fs, ss⟩
    · have hlit : (regOps Try.f55 1)[14]? = some ({ dst := some 21, op := Op.load 23 (Operand.tmp 3), type := 23, pos := "exact.go:86", after := #[{ on := 12, ground := Ground.guard }], guard := some (12, true) }) := by kernel_rfl
      obtain rfl := Option.some.inj (hlit.symm.trans hoi)
      have r3 : b.tmps.getD 3 undef = (.pointer (some ⟨kp, 0, none⟩)) := rd ((hT.old 3 (by kernel_rfl)).trans t3)
      refine op_go hoi (want_yes rfl (d := 19) (by kernel_rfl) (hT.at 12 (by kernel_rfl) (pre_of hpre 12 (by kernel_rfl)))) fun K hK => ?_
      clear hT hpre hlit hoi
      go_simp
      exact hK _ _ ⟨ks, fun _ _ => rfl, rfl, pc0, pc1, ac0, ac1, bc0, bc1, HB, szw, fs, ss⟩
    · have hlit : (regOps Try.f55 1)[15]? = some ({ dst := some 22, op := Op.call { callee := Callee.value (Operand.func 50), args := #[Operand.tmp 20, Operand.tmp 21], argTypes := #[23, 23] }, type := 3, pos := "exact.go:86", after := #[{ on := 13, ground := Ground.data }, { on := 14, ground := Ground.data }, { on := 12, ground := Ground.chain }, { on := 12, ground := Ground.guard }], guard := some (12, true) }) := by kernel_rfl
      obtain rfl := Option.some.inj (hlit.symm.trans hoi)
      have r20 : b.tmps.getD 20 undef = (.agg #[.int .i64 a0, .int .i64 a1]) := rd (hT.at 13 (by kernel_rfl) (pre_of hpre 13 (by kernel_rfl)))
      have r21 : b.tmps.getD 21 undef = (.agg #[.int .i64 p0, .int .i64 p1]) := rd (hT.at 14 (by kernel_rfl) (pre_of hpre 14 (by kernel_rfl)))
      refine op_go hoi (want_yes rfl (d := 19) (by kernel_rfl) (hT.at 12 (by kernel_rfl) (pre_of hpre 12 (by kernel_rfl)))) fun K hK => ?_
      clear hT hpre hlit hoi
      go_simp
      go_at_call 50
      refine (cmp50 _ _ _ _ _).mono ?_; rintro e w2 ⟨rfl, hb⟩; replace pc0 := ck hb pc0; replace pc1 := ck hb pc1; replace ac0 := ck hb ac0; replace ac1 := ck hb ac1; replace bc0 := ck hb bc0; replace bc1 := ck hb bc1; replace szw : w.heap.size ≤ w2.heap.size := Nat.le_trans szw hb.size; replace fs : L 3 = true → w.heap.size ≤ ks ∧ w2.frozen? ⟨ks, 0, none⟩ = false ∧ w2.frozen? ⟨ks, 1, none⟩ = false ∧ w2.frozen? ⟨ks, 2, none⟩ = false ∧ w2.frozen? ⟨ks, 3, none⟩ = false ∧ w2.frozen? ⟨ks, 4, none⟩ = false ∧ w2.frozen? ⟨ks, 5, none⟩ = false ∧ ∃ u0 u1 u2 u3 u4 u5 : Int, w2.cell? ⟨ks, 0, none⟩ = some (Value.int .i64 u0) ∧ w2.cell? ⟨ks, 1, none⟩ = some (Value.int .i64 u1) ∧ w2.cell? ⟨ks, 2, none⟩ = some (Value.int .i64 u2) ∧ w2.cell? ⟨ks, 3, none⟩ = some (Value.int .i64 u3) ∧ w2.cell? ⟨ks, 4, none⟩ = some (Value.int .i64 u4) ∧ w2.cell? ⟨ks, 5, none⟩ = some (Value.int .i64 u5) ∧ (L 3 = true → u0 = p0 ∧ u1 = p1 ∧ u2 = a0 ∧ u3 = a1 ∧ u4 = b0 ∧ u5 = b1) := fun h => (by obtain ⟨ge, fz0, fz1, fz2, fz3, fz4, fz5, u0, u1, u2, u3, u4, u5, ce0, ce1, ce2, ce3, ce4, ce5, us⟩ := fs h; exact ⟨ge, cf hb (World.block_lt_of_cell? _ _ ce0) fz0, cf hb (World.block_lt_of_cell? _ _ ce1) fz1, cf hb (World.block_lt_of_cell? _ _ ce2) fz2, cf hb (World.block_lt_of_cell? _ _ ce3) fz3, cf hb (World.block_lt_of_cell? _ _ ce4) fz4, cf hb (World.block_lt_of_cell? _ _ ce5) fz5, u0, u1, u2, u3, u4, u5, ck hb ce0, ck hb ce1, ck hb ce2, ck hb ce3, ck hb ce4, ck hb ce5, us⟩); replace HB : Below W.heap.size W w2 := bt HB hb; clear hb
      exact hK _ _ ⟨ks, fun _ _ => rfl, rfl, pc0, pc1, ac0, ac1, bc0, bc1, HB, szw, fs, ss⟩
    · have hlit : (regOps Try.f55 1)[16]? = some ({ dst := some 23, op := Op.load 23 (Operand.tmp 3), type := 23, pos := "exact.go:86", after := #[{ on := 12, ground := Ground.guard }], guard := some (12, true) }) := by kernel_rfl
      obtain rfl := Option.some.inj (hlit.symm.trans hoi)
      have r3 : b.tmps.getD 3 undef = (.pointer (some ⟨kp, 0, none⟩)) := rd ((hT.old 3 (by kernel_rfl)).trans t3)
      refine op_go hoi (want_yes rfl (d := 19) (by kernel_rfl) (hT.at 12 (by kernel_rfl) (pre_of hpre 12 (by kernel_rfl)))) fun K hK => ?_
      clear hT hpre hlit hoi
      go_simp
      exact hK _ _ ⟨ks, fun _ _ => rfl, rfl, pc0, pc1, ac0, ac1, bc0, bc1, HB, szw, fs, ss⟩
    · have hlit : (regOps Try.f55 1)[17]? = some ({ dst := some 24, op := Op.load 23 (Operand.tmp 5), type := 23, pos := "exact.go:86", after := #[{ on := 12, ground := Ground.guard }], guard := some (12, true) }) := by kernel_rfl
      obtain rfl := Option.some.inj (hlit.symm.trans hoi)
      have r5 : b.tmps.getD 5 undef = (.pointer (some ⟨kb, 0, none⟩)) := rd ((hT.old 5 (by kernel_rfl)).trans t5)
      refine op_go hoi (want_yes rfl (d := 19) (by kernel_rfl) (hT.at 12 (by kernel_rfl) (pre_of hpre 12 (by kernel_rfl)))) fun K hK => ?_
      clear hT hpre hlit hoi
      go_simp
      exact hK _ _ ⟨ks, fun _ _ => rfl, rfl, pc0, pc1, ac0, ac1, bc0, bc1, HB, szw, fs, ss⟩
    · have hlit : (regOps Try.f55 1)[18]? = some ({ dst := some 25, op := Op.call { callee := Callee.value (Operand.func 50), args := #[Operand.tmp 23, Operand.tmp 24], argTypes := #[23, 23] }, type := 3, pos := "exact.go:86", after := #[{ on := 16, ground := Ground.data }, { on := 17, ground := Ground.data }, { on := 15, ground := Ground.chain }, { on := 12, ground := Ground.guard }], guard := some (12, true) }) := by kernel_rfl
      obtain rfl := Option.some.inj (hlit.symm.trans hoi)
      have r23 : b.tmps.getD 23 undef = (.agg #[.int .i64 p0, .int .i64 p1]) := rd (hT.at 16 (by kernel_rfl) (pre_of hpre 16 (by kernel_rfl)))
      have r24 : b.tmps.getD 24 undef = (.agg #[.int .i64 b0, .int .i64 b1]) := rd (hT.at 17 (by kernel_rfl) (pre_of hpre 17 (by kernel_rfl)))
      refine op_go hoi (want_yes rfl (d := 19) (by kernel_rfl) (hT.at 12 (by kernel_rfl) (pre_of hpre 12 (by kernel_rfl)))) fun K hK => ?_
      clear hT hpre hlit hoi
      go_simp
      go_at_call 50
      refine (cmp50 _ _ _ _ _).mono ?_; rintro e w2 ⟨rfl, hb⟩; replace pc0 := ck hb pc0; replace pc1 := ck hb pc1; replace ac0 := ck hb ac0; replace ac1 := ck hb ac1; replace bc0 := ck hb bc0; replace bc1 := ck hb bc1; replace szw : w.heap.size ≤ w2.heap.size := Nat.le_trans szw hb.size; replace fs : L 3 = true → w.heap.size ≤ ks ∧ w2.frozen? ⟨ks, 0, none⟩ = false ∧ w2.frozen? ⟨ks, 1, none⟩ = false ∧ w2.frozen? ⟨ks, 2, none⟩ = false ∧ w2.frozen? ⟨ks, 3, none⟩ = false ∧ w2.frozen? ⟨ks, 4, none⟩ = false ∧ w2.frozen? ⟨ks, 5, none⟩ = false ∧ ∃ u0 u1 u2 u3 u4 u5 : Int, w2.cell? ⟨ks, 0, none⟩ = some (Value.int .i64 u0) ∧ w2.cell? ⟨ks, 1, none⟩ = some (Value.int .i64 u1) ∧ w2.cell? ⟨ks, 2, none⟩ = some (Value.int .i64 u2) ∧ w2.cell? ⟨ks, 3, none⟩ = some (Value.int .i64 u3) ∧ w2.cell? ⟨ks, 4, none⟩ = some (Value.int .i64 u4) ∧ w2.cell? ⟨ks, 5, none⟩ = some (Value.int .i64 u5) ∧ (L 3 = true → u0 = p0 ∧ u1 = p1 ∧ u2 = a0 ∧ u3 = a1 ∧ u4 = b0 ∧ u5 = b1) := fun h => (by obtain ⟨ge, fz0, fz1, fz2, fz3, fz4, fz5, u0, u1, u2, u3, u4, u5, ce0, ce1, ce2, ce3, ce4, ce5, us⟩ := fs h; exact ⟨ge, cf hb (World.block_lt_of_cell? _ _ ce0) fz0, cf hb (World.block_lt_of_cell? _ _ ce1) fz1, cf hb (World.block_lt_of_cell? _ _ ce2) fz2, cf hb (World.block_lt_of_cell? _ _ ce3) fz3, cf hb (World.block_lt_of_cell? _ _ ce4) fz4, cf hb (World.block_lt_of_cell? _ _ ce5) fz5, u0, u1, u2, u3, u4, u5, ck hb ce0, ck hb ce1, ck hb ce2, ck hb ce3, ck hb ce4, ck hb ce5, us⟩); replace HB : Below W.heap.size W w2 := bt HB hb; clear hb
      exact hK _ _ ⟨ks, fun _ _ => rfl, rfl, pc0, pc1, ac0, ac1, bc0, bc1, HB, szw, fs, ss⟩
    · have hlit : (regOps Try.f55 1)[19]? = some ({ dst := some 26, op := Op.binOp BinOp.mul 3 (Operand.tmp 22) (Operand.tmp 25) 3, type := 3, pos := "exact.go:86", after := #[{ on := 15, ground := Ground.data }, { on := 18, ground := Ground.data }, { on := 12, ground := Ground.guard }], guard := some (12, true) }) := by kernel_rfl
      obtain rfl := Option.some.inj (hlit.symm.trans hoi)
      have r22 : b.tmps.getD 22 undef = (.int .i64 (cmpP ⟨a0, a1⟩ ⟨p0, p1⟩)) := rd (hT.at 15 (by kernel_rfl) (pre_of hpre 15 (by kernel_rfl)))
      have r25 : b.tmps.getD 25 undef = (.int .i64 (cmpP ⟨p0, p1⟩ ⟨b0, b1⟩)) := rd (hT.at 18 (by kernel_rfl) (pre_of hpre 18 (by kernel_rfl)))
      refine op_go hoi (want_yes rfl (d := 19) (by kernel_rfl) (hT.at 12 (by kernel_rfl) (pre_of hpre 12 (by kernel_rfl)))) fun K hK => ?_
      clear hT hpre hlit hoi
      go_simp
      exact hK _ _ ⟨ks, fun _ _ => rfl, rfl, pc0, pc1, ac0, ac1, bc0, bc1, HB, szw, fs, ss⟩
    · have hlit : (regOps Try.f55 1)[20]? = some ({ dst := some 27, op := Op.binOp BinOp.geq 3 (Operand.tmp 26) (Operand.const (Value.int IntKind.i64 0)) 3, type := 4, pos := "exact.go:86", after := #[{ on := 19, ground := Ground.data }, { on := 12, ground := Ground.guard }], guard := some (12, true) }) := by kernel_rfl
      obtain rfl := Option.some.inj (hlit.symm.trans hoi)
      have r26 : b.tmps.getD 26 undef = (.int .i64 (cmpP ⟨a0, a1⟩ ⟨p0, p1⟩ * cmpP ⟨p0, p1⟩ ⟨b0, b1⟩)) := rd (hT.at 19 (by kernel_rfl) (pre_of hpre 19 (by kernel_rfl)))
      refine op_go hoi (want_yes rfl (d := 19) (by kernel_rfl) (hT.at 12 (by kernel_rfl) (pre_of hpre 12 (by kernel_rfl)))) fun K hK => ?_
      clear hT hpre hlit hoi
      go_simp
      exact hK _ _ ⟨ks, fun _ _ => rfl, rfl, pc0, pc1, ac0, ac1, bc0, bc1, HB, szw, fs, ss⟩
    · have hlit : (regOps Try.f55 1)[21]? = some ({ dst := some 28, op := Op.pick (Operand.tmp 19) (Operand.tmp 27) (Operand.const (Value.bool false)), type := 4, pos := "exact.go:86", after := #[{ on := 12, ground := Ground.data }, { on := 20, ground := Ground.data }], guard := none }) := by kernel_rfl
      obtain rfl := Option.some.inj (hlit.symm.trans hoi)
      have r19 : b.tmps.getD 19 undef = (.bool true) := rd (hT.at 12 (by kernel_rfl) (pre_of hpre 12 (by kernel_rfl)))
      have r27 : b.tmps.getD 27 undef = (.bool false) := rd (hT.at 20 (by kernel_rfl) (pre_of hpre 20 (by kernel_rfl)))
      refine op_go hoi (want_all rfl) fun K hK => ?_
      clear hT hpre hlit hoi
      go_simp
      exact hK _ _ ⟨ks, fun _ _ => rfl, rfl, pc0, pc1, ac0, ac1, bc0, bc1, HB, szw, fs, ss⟩
    · have hlit : (regOps Try.f55 1)[22]? = some ({ dst := some 29, op := Op.move (Operand.tmp 28), type := 4, pos := "exact.go:86", after := #[{ on := 21, ground := Ground.data }, { on := 18, ground := Ground.chain }], guard := none }) := by kernel_rfl
      obtain rfl := Option.some.inj (hlit.symm.trans hoi)
      have r28 : b.tmps.getD 28 undef = (.bool false) := rd (hT.at 21 (by kernel_rfl) (pre_of hpre 21 (by kernel_rfl)))
      refine op_go hoi (want_all rfl) fun K hK => ?_
      clear hT hpre hlit hoi
      go_simp
      exact hK _ _ ⟨ks, fun _ _ => rfl, rfl, pc0, pc1, ac0, ac1, bc0, bc1, HB, szw, fs, ss⟩
    · have hlit : (regOps Try.f55 1)[23]? = some ({ dst := some 30, op := Op.load 23 (Operand.tmp 4), type := 23, pos := "exact.go:86", after := #[{ on := 22, ground := Ground.guard }], guard := some (22, true) }) := by kernel_rfl
      obtain rfl := Option.some.inj (hlit.symm.trans hoi)
      exact op_not hoi (want_no rfl (d := 29) (by kernel_rfl) (hT.at 22 (by kernel_rfl) (pre_of hpre 22 (by kernel_rfl)))) ⟨ks, fun _ _ => rfl, rfl, pc0, pc1, ac0, ac1, bc0, bc1, HB, szw, fs, ss⟩
    · have hlit : (regOps Try.f55 1)[24]? = some ({ dst := some 31, op := Op.load 23 (Operand.tmp 5), type := 23, pos := "exact.go:86", after := #[{ on := 22, ground := Ground.guard }], guard := some (22, true) }) := by kernel_rfl
      obtain rfl := Option.some.inj (hlit.symm.trans hoi)
      exact op_not hoi (want_no rfl (d := 29) (by kernel_rfl) (hT.at 22 (by kernel_rfl) (pre_of hpre 22 (by kernel_rfl)))) ⟨ks, fun _ _ => rfl, rfl, pc0, pc1, ac0, ac1, bc0, bc1, HB, szw, fs, ss⟩
    · have hlit : (regOps Try.f55 1)[25]? = some ({ dst := some 32, op := Op.binOp BinOp.neq 23 (Operand.tmp 30) (Operand.tmp 31) 23, type := 4, pos := "exact.go:86", after := #[{ on := 23, ground := Ground.data }, { on := 24, ground := Ground.data }, { on := 22, ground := Ground.guard }], guard := some (22, true) }) := by kernel_rfl
      obtain rfl := Option.some.inj (hlit.symm.trans hoi)
      exact op_not hoi (want_no rfl (d := 29) (by kernel_rfl) (hT.at 22 (by kernel_rfl) (pre_of hpre 22 (by kernel_rfl)))) ⟨ks, fun _ _ => rfl, rfl, pc0, pc1, ac0, ac1, bc0, bc1, HB, szw, fs, ss⟩
    · have hlit : (regOps Try.f55 1)[26]? = some ({ dst := some 33, op := Op.move (Operand.tmp 32), type := 4, pos := "exact.go:86", after := #[{ on := 25, ground := Ground.data }, { on := 22, ground := Ground.chain }, { on := 22, ground := Ground.guard }], guard := some (22, true) }) := by kernel_rfl
      obtain rfl := Option.some.inj (hlit.symm.trans hoi)
      exact op_not hoi (want_no rfl (d := 29) (by kernel_rfl) (hT.at 22 (by kernel_rfl) (pre_of hpre 22 (by kernel_rfl)))) ⟨ks, fun _ _ => rfl, rfl, pc0, pc1, ac0, ac1, bc0, bc1, HB, szw, fs, ss⟩
    · have hlit : (regOps Try.f55 1)[27]? = some ({ dst := some 34, op := Op.load 23 (Operand.tmp 3), type := 23, pos := "exact.go:86", after := #[{ on := 26, ground := Ground.guard }], guard := some (26, false) }) := by kernel_rfl
      obtain rfl := Option.some.inj (hlit.symm.trans hoi)
      exact op_not hoi (want_un rfl (d := 33) (by kernel_rfl) (hT.at 26 (by kernel_rfl) (pre_of hpre 26 (by kernel_rfl)))) ⟨ks, fun _ _ => rfl, rfl, pc0, pc1, ac0, ac1, bc0, bc1, HB, szw, fs, ss⟩
    · have hlit : (regOps Try.f55 1)[28]? = some ({ dst := some 35, op := Op.load 23 (Operand.tmp 4), type := 23, pos := "exact.go:86", after := #[{ on := 26, ground := Ground.guard }], guard := some (26, false) }) := by kernel_rfl
      obtain rfl := Option.some.inj (hlit.symm.trans hoi)
      exact op_not hoi (want_un rfl (d := 33) (by kernel_rfl) (hT.at 26 (by kernel_rfl) (pre_of hpre 26 (by kernel_rfl)))) ⟨ks, fun _ _ => rfl, rfl, pc0, pc1, ac0, ac1, bc0, bc1, HB, szw, fs, ss⟩
    · have hlit : (regOps Try.f55 1)[29]? = some ({ dst := some 36, op := Op.binOp BinOp.eql 23 (Operand.tmp 34) (Operand.tmp 35) 23, type := 4, pos := "exact.go:86", after := #[{ on := 27, ground := Ground.data }, { on := 28, ground := Ground.data }, { on := 26, ground := Ground.guard }], guard := some (26, false) }) := by kernel_rfl
      obtain rfl := Option.some.inj (hlit.symm.trans hoi)
      exact op_not hoi (want_un rfl (d := 33) (by kernel_rfl) (hT.at 26 (by kernel_rfl) (pre_of hpre 26 (by kernel_rfl)))) ⟨ks, fun _ _ => rfl, rfl, pc0, pc1, ac0, ac1, bc0, bc1, HB, szw, fs, ss⟩
    · have hlit : (regOps Try.f55 1)[30]? = some ({ dst := some 37, op := Op.pick (Operand.tmp 33) (Operand.const (Value.bool true)) (Operand.tmp 36), type := 4, pos := "exact.go:86", after := #[{ on := 26, ground := Ground.data }, { on := 29, ground := Ground.data }, { on := 22, ground := Ground.guard }], guard := some (22, true) }) := by kernel_rfl
      obtain rfl := Option.some.inj (hlit.symm.trans hoi)
      exact op_not hoi (want_no rfl (d := 29) (by kernel_rfl) (hT.at 22 (by kernel_rfl) (pre_of hpre 22 (by kernel_rfl)))) ⟨ks, fun _ _ => rfl, rfl, pc0, pc1, ac0, ac1, bc0, bc1, HB, szw, fs, ss⟩
    · have hlit : (regOps Try.f55 1)[31]? = some ({ dst := some 38, op := Op.pick (Operand.tmp 29) (Operand.tmp 37) (Operand.const (Value.bool false)), type := 4, pos := "exact.go:86", after := #[{ on := 22, ground := Ground.data }, { on := 30, ground := Ground.data }], guard := none }) := by kernel_rfl
      obtain rfl := Option.some.inj (hlit.symm.trans hoi)
      have r29 : b.tmps.getD 29 undef = (.bool false) := rd (hT.at 22 (by kernel_rfl) (pre_of hpre 22 (by kernel_rfl)))
      have r37 : b.tmps.getD 37 undef = (undef) := rd (hT.at 30 (by kernel_rfl) (pre_of hpre 30 (by kernel_rfl)))
      refine op_go hoi (want_all rfl) fun K hK => ?_
      clear hT hpre hlit hoi
      go_simp
      exact hK _ _ ⟨ks, fun _ _ => rfl, rfl, pc0, pc1, ac0, ac1, bc0, bc1, HB, szw, fs, ss⟩
    · have hlit : (regOps Try.f55 1)[32]? = some ({ dst := some 6, op := Op.assign (Operand.tmp 38), type := 4, pos := "exact.go:86", after := #[{ on := 31, ground := Ground.data }, { on := 26, ground := Ground.chain }, { on := 0, ground := Ground.phase }, { on := 1, ground := Ground.phase }, { on := 2, ground := Ground.phase }, { on := 3, ground := Ground.phase }, { on := 4, ground := Ground.phase }, { on := 5, ground := Ground.phase }, { on := 6, ground := Ground.phase }, { on := 7, ground := Ground.phase }, { on := 8, ground := Ground.phase }, { on := 9, ground := Ground.phase }, { on := 10, ground := Ground.phase }, { on := 11, ground := Ground.phase }, { on := 12, ground := Ground.phase }, { on := 13, ground := Ground.phase }, { on := 14, ground := Ground.phase }, { on := 15, ground := Ground.phase }, { on := 16, ground := Ground.phase }, { on := 17, ground := Ground.phase }, { on := 18, ground := Ground.phase }, { on := 19, ground := Ground.phase }, { on := 20, ground := Ground.phase }, { on := 21, ground := Ground.phase }, { on := 22, ground := Ground.phase }, { on := 23, ground := Ground.phase }, { on := 24, ground := Ground.phase }, { on := 25, ground := Ground.phase }, { on := 26, ground := Ground.phase }, { on := 27, ground := Ground.phase }, { on := 28, ground := Ground.phase }, { on := 29, ground := Ground.phase }, { on := 30, ground := Ground.phase }, { on := 31, ground := Ground.phase }], guard := none }) := by kernel_rfl
      obtain rfl := Option.some.inj (hlit.symm.trans hoi)
      have r38 : b.tmps.getD 38 undef = (.bool false) := rd (hT.at 31 (by kernel_rfl) (pre_of hpre 31 (by kernel_rfl)))
      refine op_go hoi (want_all rfl) fun K hK => ?_
      clear hT hpre hlit hoi
      go_simp
      exact hK _ _ ⟨ks, fun _ _ => rfl, rfl, pc0, pc1, ac0, ac1, bc0, bc1, HB, szw, fs, ss⟩
  · intro ks b w' hT hS
    rw [hT.all ht]
    have hn : (regOps Try.f55 1).size = 33 := by kernel_rfl
    rw [hn] at hS ⊢
    skip
    skip
    obtain ⟨pc0, pc1, ac0, ac1, bc0, bc1, HB, szw, fs, ss⟩ := hS
    obtain ⟨ges, fzs0, fzs1, fzs2, fzs3, fzs4, fzs5, us0, us1, us2, us3, us4, us5, ces0, ces1, ces2, ces3, ces4, ces5, uss⟩ := fs rfl
    obtain ⟨rfl, rfl, rfl, rfl, rfl, rfl⟩ := uss rfl
    exact he ks w' ⟨pc0, pc1, ac0, ac1, bc0, bc1, HB⟩ ⟨ces0, ces1, ces2, ces3, ces4, ces5, fzs0, fzs1, fzs2, fzs3, fzs4, fzs5, ges⟩

/-- What each operation of the region leaves. -/
def region55dV (p0 p1 a0 a1 b0 b1 : Int) (ks : Nat) : Nat → Value
  | 0 => .agg #[.int .i64 p0, .int .i64 p1]
  | 1 => .agg #[.int .i64 a0, .int .i64 a1]
  | 2 => .agg #[.int .i64 b0, .int .i64 b1]
  | 3 => .slice (some ⟨ks, 0, none⟩) 3 3
  | 4 => .bool true
  | 5 => .bool true
  | 6 => .agg #[.int .i64 a0, .int .i64 a1]
  | 7 => .agg #[.int .i64 b0, .int .i64 b1]
  | 8 => .agg #[.int .i64 p0, .int .i64 p1]
  | 9 => .int .i64 0
  | 10 => .bool true
  | 11 => .bool true
  | 12 => .bool true
  | 13 => .agg #[.int .i64 a0, .int .i64 a1]
  | 14 => .agg #[.int .i64 p0, .int .i64 p1]
  | 15 => .int .i64 (cmpP ⟨a0, a1⟩ ⟨p0, p1⟩)
  | 16 => .agg #[.int .i64 p0, .int .i64 p1]
  | 17 => .agg #[.int .i64 b0, .int .i64 b1]
  | 18 => .int .i64 (cmpP ⟨p0, p1⟩ ⟨b0, b1⟩)
  | 19 => .int .i64 (cmpP ⟨a0, a1⟩ ⟨p0, p1⟩ * cmpP ⟨p0, p1⟩ ⟨b0, b1⟩)
  | 20 => .bool true
  | 21 => .bool true
  | 22 => .bool true
  | 23 => .agg #[.int .i64 a0, .int .i64 a1]
  | 24 => .agg #[.int .i64 b0, .int .i64 b1]
  | 25 => .bool true
  | 26 => .bool true
  | 27 => undef
  | 28 => undef
  | 29 => undef
  | 30 => .bool true
  | 31 => .bool true
  | 32 => .bool true
  | _ => undef

set_option maxHeartbeats 4000000 in
set_option maxRecDepth 100000 in
theorem region55d (p0 p1 a0 a1 b0 b1 : Int) (kp ka kb : Nat) (W : World) (m1 : (val ⟨p0, p1⟩ && val ⟨a0, a1⟩ && val ⟨b0, b1⟩) = true) (m2 : ori ⟨a0, a1⟩ ⟨b0, b1⟩ ⟨p0, p1⟩ = 0) (m3 : decide (0 ≤ cmpP ⟨a0, a1⟩ ⟨p0, p1⟩ * cmpP ⟨p0, p1⟩ ⟨b0, b1⟩) = true) (m4 : (a0 == b0 && a1 == b1) = false) (eqm : IntKind.i64.wrap (cmpP ⟨a0, a1⟩ ⟨p0, p1⟩ * cmpP ⟨p0, p1⟩ ⟨b0, b1⟩) = cmpP ⟨a0, a1⟩ ⟨p0, p1⟩ * cmpP ⟨p0, p1⟩ ⟨b0, b1⟩) {id : Nat} {ops : Array Oper} {Q : Exit → Act → World → Prop} {a : Act} {w : World}
    (ho : ops = (regOps Try.f55 1)) (hsz : a.tmps.size = 39) (t3 : a.tmps[3]? = some (.pointer (some ⟨kp, 0, none⟩))) (t4 : a.tmps[4]? = some (.pointer (some ⟨ka, 0, none⟩))) (t5 : a.tmps[5]? = some (.pointer (some ⟨kb, 0, none⟩)))
    (h0 : w.cell? ⟨kp, 0, none⟩ = some (.int .i64 p0) ∧ w.cell? ⟨kp, 1, none⟩ = some (.int .i64 p1) ∧ w.cell? ⟨ka, 0, none⟩ = some (.int .i64 a0) ∧ w.cell? ⟨ka, 1, none⟩ = some (.int .i64 a1) ∧ w.cell? ⟨kb, 0, none⟩ = some (.int .i64 b0) ∧ w.cell? ⟨kb, 1, none⟩ = some (.int .i64 b1) ∧ Below W.heap.size W w)
    (he : ∀ ks w', w'.cell? ⟨kp, 0, none⟩ = some (.int .i64 p0) ∧ w'.cell? ⟨kp, 1, none⟩ = some (.int .i64 p1) ∧ w'.cell? ⟨ka, 0, none⟩ = some (.int .i64 a0) ∧ w'.cell? ⟨ka, 1, none⟩ = some (.int .i64 a1) ∧ w'.cell? ⟨kb, 0, none⟩ = some (.int .i64 b0) ∧ w'.cell? ⟨kb, 1, none⟩ = some (.int .i64 b1) ∧ Below W.heap.size W w' → w'.cell? ⟨ks, 0, none⟩ = some (.int .i64 p0) ∧ w'.cell? ⟨ks, 1, none⟩ = some (.int .i64 p1) ∧ w'.cell? ⟨ks, 2, none⟩ = some (.int .i64 a0) ∧ w'.cell? ⟨ks, 3, none⟩ = some (.int .i64 a1) ∧ w'.cell? ⟨ks, 4, none⟩ = some (.int .i64 b0) ∧ w'.cell? ⟨ks, 5, none⟩ = some (.int .i64 b1) ∧ w'.frozen? ⟨ks, 0, none⟩ = false ∧ w'.frozen? ⟨ks, 1, none⟩ = false ∧ w'.frozen? ⟨ks, 2, none⟩ = false ∧ w'.frozen? ⟨ks, 3, none⟩ = false ∧ w'.frozen? ⟨ks, 4, none⟩ = false ∧ w'.frozen? ⟨ks, 5, none⟩ = false ∧ w.heap.size ≤ ks → Q .normal ⟨(((((((((((((((((((((((((((((((((a.tmps.setIfInBounds 7 (.agg #[.int .i64 p0, .int .i64 p1])).setIfInBounds 8 (.agg #[.int .i64 a0, .int .i64 a1])).setIfInBounds 9 (.agg #[.int .i64 b0, .int .i64 b1])).setIfInBounds 10 (.slice (some ⟨ks, 0, none⟩) 3 3)).setIfInBounds 11 (.bool true)).setIfInBounds 12 (.bool true)).setIfInBounds 13 (.agg #[.int .i64 a0, .int .i64 a1])).setIfInBounds 14 (.agg #[.int .i64 b0, .int .i64 b1])).setIfInBounds 15 (.agg #[.int .i64 p0, .int .i64 p1])).setIfInBounds 16 (.int .i64 0)).setIfInBounds 17 (.bool true)).setIfInBounds 18 (.bool true)).setIfInBounds 19 (.bool true)).setIfInBounds 20 (.agg #[.int .i64 a0, .int .i64 a1])).setIfInBounds 21 (.agg #[.int .i64 p0, .int .i64 p1])).setIfInBounds 22 (.int .i64 (cmpP ⟨a0, a1⟩ ⟨p0, p1⟩))).setIfInBounds 23 (.agg #[.int .i64 p0, .int .i64 p1])).setIfInBounds 24 (.agg #[.int .i64 b0, .int .i64 b1])).setIfInBounds 25 (.int .i64 (cmpP ⟨p0, p1⟩ ⟨b0, b1⟩))).setIfInBounds 26 (.int .i64 (cmpP ⟨a0, a1⟩ ⟨p0, p1⟩ * cmpP ⟨p0, p1⟩ ⟨b0, b1⟩))).setIfInBounds 27 (.bool true)).setIfInBounds 28 (.bool true)).setIfInBounds 29 (.bool true)).setIfInBounds 30 (.agg #[.int .i64 a0, .int .i64 a1])).setIfInBounds 31 (.agg #[.int .i64 b0, .int .i64 b1])).setIfInBounds 32 (.bool true)).setIfInBounds 33 (.bool true)).setIfInBounds 34 (undef)).setIfInBounds 35 (undef)).setIfInBounds 36 (undef)).setIfInBounds 37 (.bool true)).setIfInBounds 38 (.bool true)).setIfInBounds 6 (.bool true)), a.defers⟩ w') :
    (Code.region id ops true).wp Try.prog Q a w := by
  have ht : tidy (regOps Try.f55 1) a.tmps.size = true := by rw [hsz]; kernel_rfl
  obtain ⟨pc0, pc1, ac0, ac1, bc0, bc1, HB0⟩ := h0
  have lt_kp := World.block_lt_of_cell? w _ pc0
  have lt_ka := World.block_lt_of_cell? w _ ac0
  have lt_kb := World.block_lt_of_cell? w _ bc0
  have sz0 := HB0.size
  refine region_tab (G := Nat) (fun g => (region55dV p0 p1 a0 a1 b0 b1  g)) (fun g L w' => w'.cell? ⟨kp, 0, none⟩ = some (.int .i64 p0) ∧ w'.cell? ⟨kp, 1, none⟩ = some (.int .i64 p1) ∧ w'.cell? ⟨ka, 0, none⟩ = some (.int .i64 a0) ∧ w'.cell? ⟨ka, 1, none⟩ = some (.int .i64 a1) ∧ w'.cell? ⟨kb, 0, none⟩ = some (.int .i64 b0) ∧ w'.cell? ⟨kb, 1, none⟩ = some (.int .i64 b1) ∧ Below W.heap.size W w' ∧ w.heap.size ≤ w'.heap.size ∧ (L 3 = true → w.heap.size ≤ g ∧ w'.frozen? ⟨g, 0, none⟩ = false ∧ w'.frozen? ⟨g, 1, none⟩ = false ∧ w'.frozen? ⟨g, 2, none⟩ = false ∧ w'.frozen? ⟨g, 3, none⟩ = false ∧ w'.frozen? ⟨g, 4, none⟩ = false ∧ w'.frozen? ⟨g, 5, none⟩ = false ∧ ∃ u0 u1 u2 u3 u4 u5 : Int, w'.cell? ⟨g, 0, none⟩ = some (.int .i64 u0) ∧ w'.cell? ⟨g, 1, none⟩ = some (.int .i64 u1) ∧ w'.cell? ⟨g, 2, none⟩ = some (.int .i64 u2) ∧ w'.cell? ⟨g, 3, none⟩ = some (.int .i64 u3) ∧ w'.cell? ⟨g, 4, none⟩ = some (.int .i64 u4) ∧ w'.cell? ⟨g, 5, none⟩ = some (.int .i64 u5) ∧ (L 3 = true → u0 = p0 ∧ u1 = p1 ∧ u2 = a0 ∧ u3 = a1 ∧ u4 = b0 ∧ u5 = b1)) ∧ (L 3 = true → L 3 = true)) 0 (by kernel_rfl) ho ht ⟨pc0, pc1, ac0, ac1, bc0, bc1, bd HB0, Nat.le_refl _, fun h => (by cases h), fun h => (by cases h)⟩ ?_ ?_
  · intro i o hoi ks L b w' hun hpre hT hS
    clear he pc0 pc1 ac0 ac1 bc0 bc1 ho hsz ht HB0
    have hi : i < (regOps Try.f55 1).size := (Array.getElem?_eq_some_iff.1 hoi).1
    rw [show (regOps Try.f55 1).size = 33 by kernel_rfl] at hi
    skip
    skip
    obtain ⟨pc0, pc1, ac0, ac1, bc0, bc1, HB, szw, fs, ss⟩ := hS
    have hcases : i = 0 ∨ i = 1 ∨ i = 2 ∨ i = 3 ∨ i = 4 ∨ i = 5 ∨ i = 6 ∨ i = 7 ∨ i = 8 ∨ i = 9 ∨ i = 10 ∨ i = 11 ∨ i = 12 ∨ i = 13 ∨ i = 14 ∨ i = 15 ∨ i = 16 ∨ i = 17 ∨ i = 18 ∨ i = 19 ∨ i = 20 ∨ i = 21 ∨ i = 22 ∨ i = 23 ∨ i = 24 ∨ i = 25 ∨ i = 26 ∨ i = 27 ∨ i = 28 ∨ i = 29 ∨ i = 30 ∨ i = 31 ∨ i = 32 := by omega
    rcases hcases with rfl | rfl | rfl | rfl | rfl | rfl | rfl | rfl | rfl | rfl | rfl | rfl | rfl | rfl | rfl | rfl | rfl | rfl | rfl | rfl | rfl | rfl | rfl | rfl | rfl | rfl | rfl | rfl | rfl | rfl | rfl | rfl | rfl
    · have hlit : (regOps Try.f55 1)[0]? = some ({ dst := some 7, op := Op.load 23 (Operand.tmp 3), type := 23, pos := "exact.go:86", after := #[], guard := none }) := by kernel_rfl
      obtain rfl := Option.some.inj (hlit.symm.trans hoi)
      have r3 : b.tmps.getD 3 undef = (.pointer (some ⟨kp, 0, none⟩)) := rd ((hT.old 3 (by kernel_rfl)).trans t3)
      refine op_go hoi (want_all rfl) fun K hK => ?_
      clear hT hpre hlit hoi
      go_simp
      exact hK _ _ ⟨ks, fun _ _ => rfl, rfl, pc0, pc1, ac0, ac1, bc0, bc1, HB, szw, fs, ss⟩
    · have hlit : (regOps Try.f55 1)[1]? = some ({ dst := some 8, op := Op.load 23 (Operand.tmp 4), type := 23, pos := "exact.go:86", after := #[], guard := none }) := by kernel_rfl
      obtain rfl := Option.some.inj (hlit.symm.trans hoi)
      have r4 : b.tmps.getD 4 undef = (.pointer (some ⟨ka, 0, none⟩)) := rd ((hT.old 4 (by kernel_rfl)).trans t4)
      refine op_go hoi (want_all rfl) fun K hK => ?_
      clear hT hpre hlit hoi
      go_simp
      exact hK _ _ ⟨ks, fun _ _ => rfl, rfl, pc0, pc1, ac0, ac1, bc0, bc1, HB, szw, fs, ss⟩
    · have hlit : (regOps Try.f55 1)[2]? = some ({ dst := some 9, op := Op.load 23 (Operand.tmp 5), type := 23, pos := "exact.go:86", after := #[], guard := none }) := by kernel_rfl
      obtain rfl := Option.some.inj (hlit.symm.trans hoi)
      have r5 : b.tmps.getD 5 undef = (.pointer (some ⟨kb, 0, none⟩)) := rd ((hT.old 5 (by kernel_rfl)).trans t5)
      refine op_go hoi (want_all rfl) fun K hK => ?_
      clear hT hpre hlit hoi
      go_simp
      exact hK _ _ ⟨ks, fun _ _ => rfl, rfl, pc0, pc1, ac0, ac1, bc0, bc1, HB, szw, fs, ss⟩
    · have hlit : (regOps Try.f55 1)[3]? = some ({ dst := some 10, op := Op.buildSlice 41 3 #[(0, Operand.tmp 7), (1, Operand.tmp 8), (2, Operand.tmp 9)], type := 41, pos := "exact.go:86", after := #[{ on := 0, ground := Ground.data }, { on := 1, ground := Ground.data }, { on := 2, ground := Ground.data }], guard := none }) := by kernel_rfl
      obtain rfl := Option.some.inj (hlit.symm.trans hoi)
      have r7 : b.tmps.getD 7 undef = (.agg #[.int .i64 p0, .int .i64 p1]) := rd (hT.at 0 (by kernel_rfl) (pre_of hpre 0 (by kernel_rfl)))
      have q7 : b.tmps[7]?.getD undef = (.agg #[.int .i64 p0, .int .i64 p1]) := (Array.getD_eq_getD_getElem? ..).symm.trans r7
      have r8 : b.tmps.getD 8 undef = (.agg #[.int .i64 a0, .int .i64 a1]) := rd (hT.at 1 (by kernel_rfl) (pre_of hpre 1 (by kernel_rfl)))
      have q8 : b.tmps[8]?.getD undef = (.agg #[.int .i64 a0, .int .i64 a1]) := (Array.getD_eq_getD_getElem? ..).symm.trans r8
      have r9 : b.tmps.getD 9 undef = (.agg #[.int .i64 b0, .int .i64 b1]) := rd (hT.at 2 (by kernel_rfl) (pre_of hpre 2 (by kernel_rfl)))
      have q9 : b.tmps[9]?.getD undef = (.agg #[.int .i64 b0, .int .i64 b1]) := (Array.getD_eq_getD_getElem? ..).symm.trans r9
      refine op_go hoi (want_all rfl) fun K hK => ?_
      clear hT hpre hlit hoi
      go_simp
      have lw_pc0 := World.block_lt_of_cell? w' _ pc0
      have lw_pc1 := World.block_lt_of_cell? w' _ pc1
      have lw_ac0 := World.block_lt_of_cell? w' _ ac0
      have lw_ac1 := World.block_lt_of_cell? w' _ ac1
      have lw_bc0 := World.block_lt_of_cell? w' _ bc0
      have lw_bc1 := World.block_lt_of_cell? w' _ bc1
      refine hK _ _ ⟨w'.heap.size, fun j hj => ?_, rfl, by go_simp, by go_simp, by go_simp, by go_simp, by go_simp, by go_simp, ba HB _, by simp; omega, fun _ => ⟨szw, by go_simp, by go_simp, by go_simp, by go_simp, by go_simp, by go_simp, p0, p1, a0, a1, b0, b1, by go_simp, by go_simp, by go_simp, by go_simp, by go_simp, by go_simp, fun _ => ⟨rfl, rfl, rfl, rfl, rfl, rfl⟩⟩, fun _ => rfl⟩
      by_cases e : j = 3
      · subst e; rw [hun] at hj; cases hj
      · unfold region55dV; split <;> first | rfl | (exact absurd rfl e)
    · have hlit : (regOps Try.f55 1)[4]? = some ({ dst := some 11, op := Op.call { callee := Callee.value (Operand.func 69), args := #[Operand.tmp 10], argTypes := #[41] }, type := 4, pos := "exact.go:86", after := #[{ on := 3, ground := Ground.data }], guard := none }) := by kernel_rfl
      obtain rfl := Option.some.inj (hlit.symm.trans hoi)
      have r10 : b.tmps.getD 10 undef = (.slice (some ⟨ks, 0, none⟩) 3 3) := rd (hT.at 3 (by kernel_rfl) (pre_of hpre 3 (by kernel_rfl)))
      have pr : L 3 = true := pre_of hpre 3 (by kernel_rfl)
      obtain ⟨ge, fz0, fz1, fz2, fz3, fz4, fz5, u0, u1, u2, u3, u4, u5, ce0, ce1, ce2, ce3, ce4, ce5, us⟩ := fs pr
      obtain ⟨us0, us1, us2, us3, us4, us5⟩ := us pr
      rw [us0] at ce0
      rw [us1] at ce1
      rw [us2] at ce2
      rw [us3] at ce3
      rw [us4] at ce4
      rw [us5] at ce5
      refine op_go hoi (want_all rfl) fun K hK => ?_
      clear hT hpre hlit hoi
      go_simp
      go_at_call 69
      refine (all3 _ _ _ _ _ _ _ _ _ ce0 ce1 ce2 ce3 ce4 ce5).mono ?_; rw [m1]; rintro e w2 ⟨rfl, hb⟩; replace pc0 := ck hb pc0; replace pc1 := ck hb pc1; replace ac0 := ck hb ac0; replace ac1 := ck hb ac1; replace bc0 := ck hb bc0; replace bc1 := ck hb bc1; replace szw : w.heap.size ≤ w2.heap.size := Nat.le_trans szw hb.size; replace fs : L 3 = true → w.heap.size ≤ ks ∧ w2.frozen? ⟨ks, 0, none⟩ = false ∧ w2.frozen? ⟨ks, 1, none⟩ = false ∧ w2.frozen? ⟨ks, 2, none⟩ = false ∧ w2.frozen? ⟨ks, 3, none⟩ = false ∧ w2.frozen? ⟨ks, 4, none⟩ = false ∧ w2.frozen? ⟨ks, 5, none⟩ = false ∧ ∃ u0 u1 u2 u3 u4 u5 : Int, w2.cell? ⟨ks, 0, none⟩ = some (Value.int .i64 u0) ∧ w2.cell? ⟨ks, 1, none⟩ = some (Value.int .i64 u1) ∧ w2.cell? ⟨ks, 2, none⟩ = some (Value.int .i64 u2) ∧ w2.cell? ⟨ks, 3, none⟩ = some (Value.int .i64 u3) ∧ w2.cell? ⟨ks, 4, none⟩ = some (Value.int .i64 u4) ∧ w2.cell? ⟨ks, 5, none⟩ = some (Value.int .i64 u5) ∧ (L 3 = true → u0 = p0 ∧ u1 = p1 ∧ u2 = a0 ∧ u3 = a1 ∧ u4 = b0 ∧ u5 = b1) := fun h => (by obtain ⟨ge, fz0, fz1, fz2, fz3, fz4, fz5, u0, u1, u2, u3, u4, u5, ce0, ce1, ce2, ce3, ce4, ce5, us⟩ := fs h; exact ⟨ge, cf hb (World.block_lt_of_cell? _ _ ce0) fz0, cf hb (World.block_lt_of_cell? _ _ ce1) fz1, cf hb (World.block_lt_of_cell? _ _ ce2) fz2, cf hb (World.block_lt_of_cell? _ _ ce3) fz3, cf hb (World.block_lt_of_cell? _ _ ce4) fz4, cf hb (World.block_lt_of_cell? _ _ ce5) fz5, u0, u1, u2, u3, u4, u5, ck hb ce0, ck hb ce1, ck hb ce2, ck hb ce3, ck hb ce4, ck hb ce5, us⟩); replace HB : Below W.heap.size W w2 := bt HB hb; clear hb
      exact hK _ _ ⟨ks, fun _ _ => rfl, rfl, pc0, pc1, ac0, ac1, bc0, bc1, HB, szw, fs, ss⟩
    · have hlit : (regOps Try.f55 1)[5]? = some ({ dst := some 12, op := Op.move (Operand.tmp 11), type := 4, pos := "exact.go:86", after := #[{ on := 4, ground := Ground.data }, { on := 4, ground := Ground.chain }], guard := none }) := by kernel_rfl
      obtain rfl := Option.some.inj (hlit.symm.trans hoi)
      have r11 : b.tmps.getD 11 undef = (.bool true) := rd (hT.at 4 (by kernel_rfl) (pre_of hpre 4 (by kernel_rfl)))
      refine op_go hoi (want_all rfl) fun K hK => ?_
      clear hT hpre hlit hoi
      go_simp
      exact hK _ _ ⟨ks, fun _ _ => rfl, rfl, pc0, pc1, ac0, ac1, bc0, bc1, HB, szw, fs, ss⟩
    · have hlit : (regOps Try.f55 1)[6]? = some ({ dst := some 13, op := Op.load 23 (Operand.tmp 4), type := 23, pos := "exact.go:86", after := #[{ on := 5, ground := Ground.guard }], guard := some (5, true) }) := by kernel_rfl
      obtain rfl := Option.some.inj (hlit.symm.trans hoi)
      have r4 : b.tmps.getD 4 undef = (.pointer (some ⟨ka, 0, none⟩)) := rd ((hT.old 4 (by kernel_rfl)).trans t4)
      refine op_go hoi (want_yes rfl (d := 12) (by kernel_rfl) (hT.at 5 (by kernel_rfl) (pre_of hpre 5 (by kernel_rfl)))) fun K hK => ?_
      clear hT hpre hlit hoi
      go_simp
      exact hK _ _ ⟨ks, fun _ _ => rfl, rfl, pc0, pc1, ac0, ac1, bc0, bc1, HB, szw, fs, ss⟩
    · have hlit : (regOps Try.f55 1)[7]? = some ({ dst := some 14, op := Op.load 23 (Operand.tmp 5), type := 23, pos := "exact.go:86", after := #[{ on := 5, ground := Ground.guard }], guard := some (5, true) }) := by kernel_rfl
      obtain rfl := Option.some.inj (hlit.symm.trans hoi)
      have r5 : b.tmps.getD 5 undef = (.pointer (some ⟨kb, 0, none⟩)) := rd ((hT.old 5 (by kernel_rfl)).trans t5)
      refine op_go hoi (want_yes rfl (d := 12) (by kernel_rfl) (hT.at 5 (by kernel_rfl) (pre_of hpre 5 (by kernel_rfl)))) fun K hK => ?_
      clear hT hpre hlit hoi
      go_simp
      exact hK _ _ ⟨ks, fun _ _ => rfl, rfl, pc0, pc1, ac0, ac1, bc0, bc1, HB, szw, fs, ss⟩
    · have hlit : (regOps Try.f55 1)[8]? = some ({ dst := some 15, op := Op.load 23 (Operand.tmp 3), type := 23, pos := "exact.go:86", after := #[{ on := 5, ground := Ground.guard }], guard := some (5, true) }) := by kernel_rfl
      obtain rfl := Option.some.inj (hlit.symm.trans hoi)
      have r3 : b.tmps.getD 3 undef = (.pointer (some ⟨kp, 0, none⟩)) := rd ((hT.old 3 (by kernel_rfl)).trans t3)
      refine op_go hoi (want_yes rfl (d := 12) (by kernel_rfl) (hT.at 5 (by kernel_rfl) (pre_of hpre 5 (by kernel_rfl)))) fun K hK => ?_
      clear hT hpre hlit hoi
      go_simp
      exact hK _ _ ⟨ks, fun _ _ => rfl, rfl, pc0, pc1, ac0, ac1, bc0, bc1, HB, szw, fs, ss⟩
    · have hlit : (regOps Try.f55 1)[9]? = some ({ dst := some 16, op := Op.call { callee := Callee.value (Operand.func 52), args := #[Operand.tmp 13, Operand.tmp 14, Operand.tmp 15], argTypes := #[23, 23, 23] }, type := 3, pos := "exact.go:86", after := #[{ on := 6, ground := Ground.data }, { on := 7, ground := Ground.data }, { on := 8, ground := Ground.data }, { on := 5, ground := Ground.chain }, { on := 5, ground := Ground.guard }], guard := some (5, true) }) := by kernel_rfl
      obtain rfl := Option.some.inj (hlit.symm.trans hoi)
      have r13 : b.tmps.getD 13 undef = (.agg #[.int .i64 a0, .int .i64 a1]) := rd (hT.at 6 (by kernel_rfl) (pre_of hpre 6 (by kernel_rfl)))
      have r14 : b.tmps.getD 14 undef = (.agg #[.int .i64 b0, .int .i64 b1]) := rd (hT.at 7 (by kernel_rfl) (pre_of hpre 7 (by kernel_rfl)))
      have r15 : b.tmps.getD 15 undef = (.agg #[.int .i64 p0, .int .i64 p1]) := rd (hT.at 8 (by kernel_rfl) (pre_of hpre 8 (by kernel_rfl)))
      refine op_go hoi (want_yes rfl (d := 12) (by kernel_rfl) (hT.at 5 (by kernel_rfl) (pre_of hpre 5 (by kernel_rfl)))) fun K hK => ?_
      clear hT hpre hlit hoi
      go_simp
      go_at_call 52
      refine (ori52 _ _ _ _ _ _ _).mono ?_; rw [m2]; rintro e w2 ⟨rfl, hb⟩; replace pc0 := ck hb pc0; replace pc1 := ck hb pc1; replace ac0 := ck hb ac0; replace ac1 := ck hb ac1; replace bc0 := ck hb bc0; replace bc1 := ck hb bc1; replace szw : w.heap.size ≤ w2.heap.size := Nat.le_trans szw hb.size; replace fs : L 3 = true → w.heap.size ≤ ks ∧ w2.frozen? ⟨ks, 0, none⟩ = false ∧ w2.frozen? ⟨ks, 1, none⟩ = false ∧ w2.frozen? ⟨ks, 2, none⟩ = false ∧ w2.frozen? ⟨ks, 3, none⟩ = false ∧ w2.frozen? ⟨ks, 4, none⟩ = false ∧ w2.frozen? ⟨ks, 5, none⟩ = false ∧ ∃ u0 u1 u2 u3 u4 u5 : Int, w2.cell? ⟨ks, 0, none⟩ = some (Value.int .i64 u0) ∧ w2.cell? ⟨ks, 1, none⟩ = some (Value.int .i64 u1) ∧ w2.cell? ⟨ks, 2, none⟩ = some (Value.int .i64 u2) ∧ w2.cell? ⟨ks, 3, none⟩ = some (Value.int .i64 u3) ∧ w2.cell? ⟨ks, 4, none⟩ = some (Value.int .i64 u4) ∧ w2.cell? ⟨ks, 5, none⟩ = some (Value.int .i64 u5) ∧ (L 3 = true → u0 = p0 ∧ u1 = p1 ∧ u2 = a0 ∧ u3 = a1 ∧ u4 = b0 ∧ u5 = b1) := fun h => (by obtain ⟨ge, fz0, fz1, fz2, fz3, fz4, fz5, u0, u1, u2, u3, u4, u5, ce0, ce1, ce2, ce3, ce4, ce5, us⟩ := fs h; exact ⟨ge, cf hb (World.block_lt_of_cell? _ _ ce0) fz0, cf hb (World.block_lt_of_cell? _ _ ce1) fz1, cf hb (World.block_lt_of_cell? _ _ ce2) fz2, cf hb (World.block_lt_of_cell? _ _ ce3) fz3, cf hb (World.block_lt_of_cell? _ _ ce4) fz4, cf hb (World.block_lt_of_cell? _ _ ce5) fz5, u0, u1, u2, u3, u4, u5, ck hb ce0, ck hb ce1, ck hb ce2, ck hb ce3, ck hb ce4, ck hb ce5, us⟩); replace HB : Below W.heap.size W w2 := bt HB hb; clear hb
      exact hK _ _ ⟨ks, fun _ _ => rfl, rfl, pc0, pc1, ac0, ac1, bc0, bc1, HB, szw, fs, ss⟩
    · have hlit : (regOps Try.f55 1)[10]? = some ({ dst := some 17, op := Op.binOp BinOp.eql 3 (Operand.tmp 16) (Operand.const (Value.int IntKind.i64 0)) 3, type := 4, pos := "exact.go:86", after := #[{ on := 9, ground := Ground.data }, { on := 5, ground := Ground.guard }], guard := some (5, true) }) := by kernel_rfl
      obtain rfl := Option.some.inj (hlit.symm.trans hoi)
      have r16 : b.tmps.getD 16 undef = (.int .i64 0) := rd (hT.at 9 (by kernel_rfl) (pre_of hpre 9 (by kernel_rfl)))
      refine op_go hoi (want_yes rfl (d := 12) (by kernel_rfl) (hT.at 5 (by kernel_rfl) (pre_of hpre 5 (by kernel_rfl)))) fun K hK => ?_
      clear hT hpre hlit hoi
      go_simp
      exact hK _ _ ⟨ks, fun _ _ => rfl, rfl, pc0, pc1, ac0, ac1, bc0, bc1, HB, szw, fs, ss⟩
    · have hlit : (regOps Try.f55 1)[11]? = some ({ dst := some 18, op := Op.pick (Operand.tmp 12) (Operand.tmp 17) (Operand.const (Value.bool false)), type := 4, pos := "exact.go:86", after := #[{ on := 5, ground := Ground.data }, { on := 10, ground := Ground.data }], guard := none }) := by kernel_rfl
      obtain rfl := Option.some.inj (hlit.symm.trans hoi)
      have r12 : b.tmps.getD 12 undef = (.bool true) := rd (hT.at 5 (by kernel_rfl) (pre_of hpre 5 (by kernel_rfl)))
      have r17 : b.tmps.getD 17 undef = (.bool true) := rd (hT.at 10 (by kernel_rfl) (pre_of hpre 10 (by kernel_rfl)))
      refine op_go hoi (want_all rfl) fun K hK => ?_
      clear hT hpre hlit hoi
      go_simp
      exact hK _ _ ⟨ks, fun _ _ => rfl, rfl, pc0, pc1, ac0, ac1, bc0, bc1, HB, szw, fs, ss⟩
    · have hlit : (regOps Try.f55 1)[12]? = some ({ dst := some 19, op := Op.move (Operand.tmp 18), type := 4, pos := "exact.go:86", after := #[{ on := 11, ground := Ground.data }, { on := 9, ground := Ground.chain }], guard := none }) := by kernel_rfl
      obtain rfl := Option.some.inj (hlit.symm.trans hoi)
      have r18 : b.tmps.getD 18 undef = (.bool true) := rd (hT.at 11 (by kernel_rfl) (pre_of hpre 11 (by kernel_rfl)))
      refine op_go hoi (want_all rfl) fun K hK => ?_
      clear hT hpre hlit hoi
      go_simp
      exact hK _ _ ⟨ks, fun _ _ => rfl, rfl, pc0, pc1, ac0, ac1, bc0, bc1, HB, szw, fs, ss⟩
    · have hlit : (regOps Try.f55 1)[13]? = some ({ dst := some 20, op := Op.load 23 (Operand.tmp 4), type := 23, pos := "exact.go:86", after := #[{ on := 12, ground := Ground.guard }], guard := some (12, true) }) := by kernel_rfl
      obtain rfl := Option.some.inj (hlit.symm.trans hoi)
      have r4 : b.tmps.getD 4 undef = (.pointer (some ⟨ka, 0, none⟩)) := rd ((hT.old 4 (by kernel_rfl)).trans t4)
      refine op_go hoi (want_yes rfl (d := 19) (by kernel_rfl) (hT.at 12 (by kernel_rfl) (pre_of hpre 12 (by kernel_rfl)))) fun K hK => ?_
      clear hT hpre hlit hoi
      go_simp
      exact hK _ _ ⟨ks, fun _ _ => rfl, rfl, pc0, pc1, ac0, ac1, bc0, bc1, HB, szw, fs, ss⟩
    · have hlit : (regOps Try.f55 1)[14]? = some ({ dst := some 21, op := Op.load 23 (Operand.tmp 3), type := 23, pos := "exact.go:86", after := #[{ on := 12, ground := Ground.guard }], guard := some (12, true) }) := by kernel_rfl
      obtain rfl := Option.some.inj (hlit.symm.trans hoi)
      have r3 : b.tmps.getD 3 undef = (.pointer (some ⟨kp, 0, none⟩)) := rd ((hT.old 3 (by kernel_rfl)).trans t3)
      refine op_go hoi (want_yes rfl (d := 19) (by kernel_rfl) (hT.at 12 (by kernel_rfl) (pre_of hpre 12 (by kernel_rfl)))) fun K hK => ?_
      clear hT hpre hlit hoi
      go_simp
      exact hK _ _ ⟨ks, fun _ _ => rfl, rfl, pc0, pc1, ac0, ac1, bc0, bc1, HB, szw, fs, ss⟩
    · have hlit : (regOps Try.f55 1)[15]? = some ({ dst := some 22, op := Op.call { callee := Callee.value (Operand.func 50), args := #[Operand.tmp 20, Operand.tmp 21], argTypes := #[23, 23] }, type := 3, pos := "exact.go:86", after := #[{ on := 13, ground := Ground.data }, { on := 14, ground := Ground.data }, { on := 12, ground := Ground.chain }, { on := 12, ground := Ground.guard }], guard := some (12, true) }) := by kernel_rfl
      obtain rfl := Option.some.inj (hlit.symm.trans hoi)
      have r20 : b.tmps.getD 20 undef = (.agg #[.int .i64 a0, .int .i64 a1]) := rd (hT.at 13 (by kernel_rfl) (pre_of hpre 13 (by kernel_rfl)))
      have r21 : b.tmps.getD 21 undef = (.agg #[.int .i64 p0, .int .i64 p1]) := rd (hT.at 14 (by kernel_rfl) (pre_of hpre 14 (by kernel_rfl)))
      refine op_go hoi (want_yes rfl (d := 19) (by kernel_rfl) (hT.at 12 (by kernel_rfl) (pre_of hpre 12 (by kernel_rfl)))) fun K hK => ?_
      clear hT hpre hlit hoi
      go_simp
      go_at_call 50
      refine (cmp50 _ _ _ _ _).mono ?_; rintro e w2 ⟨rfl, hb⟩; replace pc0 := ck hb pc0; replace pc1 := ck hb pc1; replace ac0 := ck hb ac0; replace ac1 := ck hb ac1; replace bc0 := ck hb bc0; replace bc1 := ck hb bc1; replace szw : w.heap.size ≤ w2.heap.size := Nat.le_trans szw hb.size; replace fs : L 3 = true → w.heap.size ≤ ks ∧ w2.frozen? ⟨ks, 0, none⟩ = false ∧ w2.frozen? ⟨ks, 1, none⟩ = false ∧ w2.frozen? ⟨ks, 2, none⟩ = false ∧ w2.frozen? ⟨ks, 3, none⟩ = false ∧ w2.frozen? ⟨ks, 4, none⟩ = false ∧ w2.frozen? ⟨ks, 5, none⟩ = false ∧ ∃ u0 u1 u2 u3 u4 u5 : Int, w2.cell? ⟨ks, 0, none⟩ = some (Value.int .i64 u0) ∧ w2.cell? ⟨ks, 1, none⟩ = some (Value.int .i64 u1) ∧ w2.cell? ⟨ks, 2, none⟩ = some (Value.int .i64 u2) ∧ w2.cell? ⟨ks, 3, none⟩ = some (Value.int .i64 u3) ∧ w2.cell? ⟨ks, 4, none⟩ = some (Value.int .i64 u4) ∧ w2.cell? ⟨ks, 5, none⟩ = some (Value.int .i64 u5) ∧ (L 3 = true → u0 = p0 ∧ u1 = p1 ∧ u2 = a0 ∧ u3 = a1 ∧ u4 = b0 ∧ u5 = b1) := fun h => (by obtain ⟨ge, fz0, fz1, fz2, fz3, fz4, fz5, u0, u1, u2, u3, u4, u5, ce0, ce1, ce2, ce3, ce4, ce5, us⟩ := fs h; exact ⟨ge, cf hb (World.block_lt_of_cell? _ _ ce0) fz0, cf hb (World.block_lt_of_cell? _ _ ce1) fz1, cf hb (World.block_lt_of_cell? _ _ ce2) fz2, cf hb (World.block_lt_of_cell? _ _ ce3) fz3, cf hb (World.block_lt_of_cell? _ _ ce4) fz4, cf hb (World.block_lt_of_cell? _ _ ce5) fz5, u0, u1, u2, u3, u4, u5, ck hb ce0, ck hb ce1, ck hb ce2, ck hb ce3, ck hb ce4, ck hb ce5, us⟩); replace HB : Below W.heap.size W w2 := bt HB hb; clear hb
      exact hK _ _ ⟨ks, fun _ _ => rfl, rfl, pc0, pc1, ac0, ac1, bc0, bc1, HB, szw, fs, ss⟩
    · have hlit : (regOps Try.f55 1)[16]? = some ({ dst := some 23, op := Op.load 23 (Operand.tmp 3), type := 23, pos := "exact.go:86", after := #[{ on := 12, ground := Ground.guard }], guard := some (12, true) }) := by kernel_rfl
      obtain rfl := Option.some.inj (hlit.symm.trans hoi)
      have r3 : b.tmps.getD 3 undef = (.pointer (some ⟨kp, 0, none⟩)) := rd ((hT.old 3 (by kernel_rfl)).trans t3)
      refine op_go hoi (want_yes rfl (d := 19) (by kernel_rfl) (hT.at 12 (by kernel_rfl) (pre_of hpre 12 (by kernel_rfl)))) fun K hK => ?_
      clear hT hpre hlit hoi
      go_simp
      exact hK _ _ ⟨ks, fun _ _ => rfl, rfl, pc0, pc1, ac0, ac1, bc0, bc1, HB, szw, fs, ss⟩
    · have hlit : (regOps Try.f55 1)[17]? = some ({ dst := some 24, op := Op.load 23 (Operand.tmp 5), type := 23, pos := "exact.go:86", after := #[{ on := 12, ground := Ground.guard }], guard := some (12, true) }) := by kernel_rfl
      obtain rfl := Option.some.inj (hlit.symm.trans hoi)
      have r5 : b.tmps.getD 5 undef = (.pointer (some ⟨kb, 0, none⟩)) := rd ((hT.old 5 (by kernel_rfl)).trans t5)
      refine op_go hoi (want_yes rfl (d := 19) (by kernel_rfl) (hT.at 12 (by kernel_rfl) (pre_of hpre 12 (by kernel_rfl)))) fun K hK => ?_
      clear hT hpre hlit hoi
      go_simp
      exact hK _ _ ⟨ks, fun _ _ => rfl, rfl, pc0, pc1, ac0, ac1, bc0, bc1, HB, szw, fs, ss⟩
    · have hlit : (regOps Try.f55 1)[18]? = some ({ dst := some 25, op := Op.call { callee := Callee.value (Operand.func 50), args := #[Operand.tmp 23, Operand.tmp 24], argTypes := #[23, 23] }, type := 3, pos := "exact.go:86", after := #[{ on := 16, ground := Ground.data }, { on := 17, ground := Ground.data }, { on := 15, ground := Ground.chain }, { on := 12, ground := Ground.guard }], guard := some (12, true) }) := by kernel_rfl
      obtain rfl := Option.some.inj (hlit.symm.trans hoi)
      have r23 : b.tmps.getD 23 undef = (.agg #[.int .i64 p0, .int .i64 p1]) := rd (hT.at 16 (by kernel_rfl) (pre_of hpre 16 (by kernel_rfl)))
      have r24 : b.tmps.getD 24 undef = (.agg #[.int .i64 b0, .int .i64 b1]) := rd (hT.at 17 (by kernel_rfl) (pre_of hpre 17 (by kernel_rfl)))
      refine op_go hoi (want_yes rfl (d := 19) (by kernel_rfl) (hT.at 12 (by kernel_rfl) (pre_of hpre 12 (by kernel_rfl)))) fun K hK => ?_
      clear hT hpre hlit hoi
      go_simp
      go_at_call 50
      refine (cmp50 _ _ _ _ _).mono ?_; rintro e w2 ⟨rfl, hb⟩; replace pc0 := ck hb pc0; replace pc1 := ck hb pc1; replace ac0 := ck hb ac0; replace ac1 := ck hb ac1; replace bc0 := ck hb bc0; replace bc1 := ck hb bc1; replace szw : w.heap.size ≤ w2.heap.size := Nat.le_trans szw hb.size; replace fs : L 3 = true → w.heap.size ≤ ks ∧ w2.frozen? ⟨ks, 0, none⟩ = false ∧ w2.frozen? ⟨ks, 1, none⟩ = false ∧ w2.frozen? ⟨ks, 2, none⟩ = false ∧ w2.frozen? ⟨ks, 3, none⟩ = false ∧ w2.frozen? ⟨ks, 4, none⟩ = false ∧ w2.frozen? ⟨ks, 5, none⟩ = false ∧ ∃ u0 u1 u2 u3 u4 u5 : Int, w2.cell? ⟨ks, 0, none⟩ = some (Value.int .i64 u0) ∧ w2.cell? ⟨ks, 1, none⟩ = some (Value.int .i64 u1) ∧ w2.cell? ⟨ks, 2, none⟩ = some (Value.int .i64 u2) ∧ w2.cell? ⟨ks, 3, none⟩ = some (Value.int .i64 u3) ∧ w2.cell? ⟨ks, 4, none⟩ = some (Value.int .i64 u4) ∧ w2.cell? ⟨ks, 5, none⟩ = some (Value.int .i64 u5) ∧ (L 3 = true → u0 = p0 ∧ u1 = p1 ∧ u2 = a0 ∧ u3 = a1 ∧ u4 = b0 ∧ u5 = b1) := fun h => (by obtain ⟨ge, fz0, fz1, fz2, fz3, fz4, fz5, u0, u1, u2, u3, u4, u5, ce0, ce1, ce2, ce3, ce4, ce5, us⟩ := fs h; exact ⟨ge, cf hb (World.block_lt_of_cell? _ _ ce0) fz0, cf hb (World.block_lt_of_cell? _ _ ce1) fz1, cf hb (World.block_lt_of_cell? _ _ ce2) fz2, cf hb (World.block_lt_of_cell? _ _ ce3) fz3, cf hb (World.block_lt_of_cell? _ _ ce4) fz4, cf hb (World.block_lt_of_cell? _ _ ce5) fz5, u0, u1, u2, u3, u4, u5, ck hb ce0, ck hb ce1, ck hb ce2, ck hb ce3, ck hb ce4, ck hb ce5, us⟩); replace HB : Below W.heap.size W w2 := bt HB hb; clear hb
      exact hK _ _ ⟨ks, fun _ _ => rfl, rfl, pc0, pc1, ac0, ac1, bc0, bc1, HB, szw, fs, ss⟩
    · have hlit : (regOps Try.f55 1)[19]? = some ({ dst := some 26, op := Op.binOp BinOp.mul 3 (Operand.tmp 22) (Operand.tmp 25) 3, type := 3, pos := "exact.go:86", after := #[{ on := 15, ground := Ground.data }, { on := 18, ground := Ground.data }, { on := 12, ground := Ground.guard }], guard := some (12, true) }) := by kernel_rfl
      obtain rfl := Option.some.inj (hlit.symm.trans hoi)
      have r22 : b.tmps.getD 22 undef = (.int .i64 (cmpP ⟨a0, a1⟩ ⟨p0, p1⟩)) := rd (hT.at 15 (by kernel_rfl) (pre_of hpre 15 (by kernel_rfl)))
      have r25 : b.tmps.getD 25 undef = (.int .i64 (cmpP ⟨p0, p1⟩ ⟨b0, b1⟩)) := rd (hT.at 18 (by kernel_rfl) (pre_of hpre 18 (by kernel_rfl)))
      refine op_go hoi (want_yes rfl (d := 19) (by kernel_rfl) (hT.at 12 (by kernel_rfl) (pre_of hpre 12 (by kernel_rfl)))) fun K hK => ?_
      clear hT hpre hlit hoi
      go_simp
      exact hK _ _ ⟨ks, fun _ _ => rfl, rfl, pc0, pc1, ac0, ac1, bc0, bc1, HB, szw, fs, ss⟩
    · have hlit : (regOps Try.f55 1)[20]? = some ({ dst := some 27, op := Op.binOp BinOp.geq 3 (Operand.tmp 26) (Operand.const (Value.int IntKind.i64 0)) 3, type := 4, pos := "exact.go:86", after := #[{ on := 19, ground := Ground.data }, { on := 12, ground := Ground.guard }], guard := some (12, true) }) := by kernel_rfl
      obtain rfl := Option.some.inj (hlit.symm.trans hoi)
      have r26 : b.tmps.getD 26 undef = (.int .i64 (cmpP ⟨a0, a1⟩ ⟨p0, p1⟩ * cmpP ⟨p0, p1⟩ ⟨b0, b1⟩)) := rd (hT.at 19 (by kernel_rfl) (pre_of hpre 19 (by kernel_rfl)))
      refine op_go hoi (want_yes rfl (d := 19) (by kernel_rfl) (hT.at 12 (by kernel_rfl) (pre_of hpre 12 (by kernel_rfl)))) fun K hK => ?_
      clear hT hpre hlit hoi
      go_simp
      exact hK _ _ ⟨ks, fun _ _ => rfl, rfl, pc0, pc1, ac0, ac1, bc0, bc1, HB, szw, fs, ss⟩
    · have hlit : (regOps Try.f55 1)[21]? = some ({ dst := some 28, op := Op.pick (Operand.tmp 19) (Operand.tmp 27) (Operand.const (Value.bool false)), type := 4, pos := "exact.go:86", after := #[{ on := 12, ground := Ground.data }, { on := 20, ground := Ground.data }], guard := none }) := by kernel_rfl
      obtain rfl := Option.some.inj (hlit.symm.trans hoi)
      have r19 : b.tmps.getD 19 undef = (.bool true) := rd (hT.at 12 (by kernel_rfl) (pre_of hpre 12 (by kernel_rfl)))
      have r27 : b.tmps.getD 27 undef = (.bool true) := rd (hT.at 20 (by kernel_rfl) (pre_of hpre 20 (by kernel_rfl)))
      refine op_go hoi (want_all rfl) fun K hK => ?_
      clear hT hpre hlit hoi
      go_simp
      exact hK _ _ ⟨ks, fun _ _ => rfl, rfl, pc0, pc1, ac0, ac1, bc0, bc1, HB, szw, fs, ss⟩
    · have hlit : (regOps Try.f55 1)[22]? = some ({ dst := some 29, op := Op.move (Operand.tmp 28), type := 4, pos := "exact.go:86", after := #[{ on := 21, ground := Ground.data }, { on := 18, ground := Ground.chain }], guard := none }) := by kernel_rfl
      obtain rfl := Option.some.inj (hlit.symm.trans hoi)
      have r28 : b.tmps.getD 28 undef = (.bool true) := rd (hT.at 21 (by kernel_rfl) (pre_of hpre 21 (by kernel_rfl)))
      refine op_go hoi (want_all rfl) fun K hK => ?_
      clear hT hpre hlit hoi
      go_simp
      exact hK _ _ ⟨ks, fun _ _ => rfl, rfl, pc0, pc1, ac0, ac1, bc0, bc1, HB, szw, fs, ss⟩
    · have hlit : (regOps Try.f55 1)[23]? = some ({ dst := some 30, op := Op.load 23 (Operand.tmp 4), type := 23, pos := "exact.go:86", after := #[{ on := 22, ground := Ground.guard }], guard := some (22, true) }) := by kernel_rfl
      obtain rfl := Option.some.inj (hlit.symm.trans hoi)
      have r4 : b.tmps.getD 4 undef = (.pointer (some ⟨ka, 0, none⟩)) := rd ((hT.old 4 (by kernel_rfl)).trans t4)
      refine op_go hoi (want_yes rfl (d := 29) (by kernel_rfl) (hT.at 22 (by kernel_rfl) (pre_of hpre 22 (by kernel_rfl)))) fun K hK => ?_
      clear hT hpre hlit hoi
      go_simp
      exact hK _ _ ⟨ks, fun _ _ => rfl, rfl, pc0, pc1, ac0, ac1, bc0, bc1, HB, szw, fs, ss⟩
    · have hlit : (regOps Try.f55 1)[24]? = some ({ dst := some 31, op := Op.load 23 (Operand.tmp 5), type := 23, pos := "exact.go:86", after := #[{ on := 22, ground := Ground.guard }], guard := some (22, true) }) := by kernel_rfl
      obtain rfl := Option.some.inj (hlit.symm.trans hoi)
      have r5 : b.tmps.getD 5 undef = (.pointer (some ⟨kb, 0, none⟩)) := rd ((hT.old 5 (by kernel_rfl)).trans t5)
      refine op_go hoi (want_yes rfl (d := 29) (by kernel_rfl) (hT.at 22 (by kernel_rfl) (pre_of hpre 22 (by kernel_rfl)))) fun K hK => ?_
      clear hT hpre hlit hoi
      go_simp
      exact hK _ _ ⟨ks, fun _ _ => rfl, rfl, pc0, pc1, ac0, ac1, bc0, bc1, HB, szw, fs, ss⟩
    · have hlit : (regOps Try.f55 1)[25]? = some ({ dst := some 32, op := Op.binOp BinOp.neq 23 (Operand.tmp 30) (Operand.tmp 31) 23, type := 4, pos := "exact.go:86", after := #[{ on := 23, ground := Ground.data }, { on := 24, ground := Ground.data }, { on := 22, ground := Ground.guard }], guard := some (22, true) }) := by kernel_rfl
      obtain rfl := Option.some.inj (hlit.symm.trans hoi)
      have r30 : b.tmps.getD 30 undef = (.agg #[.int .i64 a0, .int .i64 a1]) := rd (hT.at 23 (by kernel_rfl) (pre_of hpre 23 (by kernel_rfl)))
      have r31 : b.tmps.getD 31 undef = (.agg #[.int .i64 b0, .int .i64 b1]) := rd (hT.at 24 (by kernel_rfl) (pre_of hpre 24 (by kernel_rfl)))
      refine op_go hoi (want_yes rfl (d := 29) (by kernel_rfl) (hT.at 22 (by kernel_rfl) (pre_of hpre 22 (by kernel_rfl)))) fun K hK => ?_
      clear hT hpre hlit hoi
      go_simp
      exact hK _ _ ⟨ks, fun _ _ => rfl, rfl, pc0, pc1, ac0, ac1, bc0, bc1, HB, szw, fs, ss⟩
    · have hlit : (regOps Try.f55 1)[26]? = some ({ dst := some 33, op := Op.move (Operand.tmp 32), type := 4, pos := "exact.go:86", after := #[{ on := 25, ground := Ground.data }, { on := 22, ground := Ground.chain }, { on := 22, ground := Ground.guard }], guard := some (22, true) }) := by kernel_rfl
      obtain rfl := Option.some.inj (hlit.symm.trans hoi)
      have r32 : b.tmps.getD 32 undef = (.bool true) := rd (hT.at 25 (by kernel_rfl) (pre_of hpre 25 (by kernel_rfl)))
      refine op_go hoi (want_yes rfl (d := 29) (by kernel_rfl) (hT.at 22 (by kernel_rfl) (pre_of hpre 22 (by kernel_rfl)))) fun K hK => ?_
      clear hT hpre hlit hoi
      go_simp
      exact hK _ _ ⟨ks, fun _ _ => rfl, rfl, pc0, pc1, ac0, ac1, bc0, bc1, HB, szw, fs, ss⟩
    · have hlit : (regOps Try.f55 1)[27]? = some ({ dst := some 34, op := Op.load 23 (Operand.tmp 3), type := 23, pos := "exact.go:86", after := #[{ on := 26, ground := Ground.guard }], guard := some (26, false) }) := by kernel_rfl
      obtain rfl := Option.some.inj (hlit.symm.trans hoi)
      exact op_not hoi (want_no rfl (d := 33) (by kernel_rfl) (hT.at 26 (by kernel_rfl) (pre_of hpre 26 (by kernel_rfl)))) ⟨ks, fun _ _ => rfl, rfl, pc0, pc1, ac0, ac1, bc0, bc1, HB, szw, fs, ss⟩
    · have hlit : (regOps Try.f55 1)[28]? = some ({ dst := some 35, op := Op.load 23 (Operand.tmp 4), type := 23, pos := "exact.go:86", after := #[{ on := 26, ground := Ground.guard }], guard := some (26, false) }) := by kernel_rfl
      obtain rfl := Option.some.inj (hlit.symm.trans hoi)
      exact op_not hoi (want_no rfl (d := 33) (by kernel_rfl) (hT.at 26 (by kernel_rfl) (pre_of hpre 26 (by kernel_rfl)))) ⟨ks, fun _ _ => rfl, rfl, pc0, pc1, ac0, ac1, bc0, bc1, HB, szw, fs, ss⟩
    · have hlit : (regOps Try.f55 1)[29]? = some ({ dst := some 36, op := Op.binOp BinOp.eql 23 (Operand.tmp 34) (Operand.tmp 35) 23, type := 4, pos := "exact.go:86", after := #[{ on := 27, ground := Ground.data }, { on := 28, ground := Ground.data }, { on := 26, ground := Ground.guard }], guard := some (26, false) }) := by kernel_rfl
      obtain rfl := Option.some.inj (hlit.symm.trans hoi)
      exact op_not hoi (want_no rfl (d := 33) (by kernel_rfl) (hT.at 26 (by kernel_rfl) (pre_of hpre 26 (by kernel_rfl)))) ⟨ks, fun _ _ => rfl, rfl, pc0, pc1, ac0, ac1, bc0, bc1, HB, szw, fs, ss⟩
    · have hlit : (regOps Try.f55 1)[30]? = some ({ dst := some 37, op := Op.pick (Operand.tmp 33) (Operand.const (Value.bool true)) (Operand.tmp 36), type := 4, pos := "exact.go:86", after := #[{ on := 26, ground := Ground.data }, { on := 29, ground := Ground.data }, { on := 22, ground := Ground.guard }], guard := some (22, true) }) := by kernel_rfl
      obtain rfl := Option.some.inj (hlit.symm.trans hoi)
      have r33 : b.tmps.getD 33 undef = (.bool true) := rd (hT.at 26 (by kernel_rfl) (pre_of hpre 26 (by kernel_rfl)))
      have r36 : b.tmps.getD 36 undef = (undef) := rd (hT.at 29 (by kernel_rfl) (pre_of hpre 29 (by kernel_rfl)))
      refine op_go hoi (want_yes rfl (d := 29) (by kernel_rfl) (hT.at 22 (by kernel_rfl) (pre_of hpre 22 (by kernel_rfl)))) fun K hK => ?_
      clear hT hpre hlit hoi
      go_simp
      exact hK _ _ ⟨ks, fun _ _ => rfl, rfl, pc0, pc1, ac0, ac1, bc0, bc1, HB, szw, fs, ss⟩
    · have hlit : (regOps Try.f55 1)[31]? = some ({ dst := some 38, op := Op.pick (Operand.tmp 29) (Operand.tmp 37) (Operand.const (Value.bool false)), type := 4, pos := "exact.go:86", after := #[{ on := 22, ground := Ground.data }, { on := 30, ground := Ground.data }], guard := none }) := by kernel_rfl
      obtain rfl := Option.some.inj (hlit.symm.trans hoi)
      have r29 : b.tmps.getD 29 undef = (.bool true) := rd (hT.at 22 (by kernel_rfl) (pre_of hpre 22 (by kernel_rfl)))
      have r37 : b.tmps.getD 37 undef = (.bool true) := rd (hT.at 30 (by kernel_rfl) (pre_of hpre 30 (by kernel_rfl)))
      refine op_go hoi (want_all rfl) fun K hK => ?_
      clear hT hpre hlit hoi
      go_simp
      exact hK _ _ ⟨ks, fun _ _ => rfl, rfl, pc0, pc1, ac0, ac1, bc0, bc1, HB, szw, fs, ss⟩
    · have hlit : (regOps Try.f55 1)[32]? = some ({ dst := some 6, op := Op.assign (Operand.tmp 38), type := 4, pos := "exact.go:86", after := #[{ on := 31, ground := Ground.data }, { on := 26, ground := Ground.chain }, { on := 0, ground := Ground.phase }, { on := 1, ground := Ground.phase }, { on := 2, ground := Ground.phase }, { on := 3, ground := Ground.phase }, { on := 4, ground := Ground.phase }, { on := 5, ground := Ground.phase }, { on := 6, ground := Ground.phase }, { on := 7, ground := Ground.phase }, { on := 8, ground := Ground.phase }, { on := 9, ground := Ground.phase }, { on := 10, ground := Ground.phase }, { on := 11, ground := Ground.phase }, { on := 12, ground := Ground.phase }, { on := 13, ground := Ground.phase }, { on := 14, ground := Ground.phase }, { on := 15, ground := Ground.phase }, { on := 16, ground := Ground.phase }, { on := 17, ground := Ground.phase }, { on := 18, ground := Ground.phase }, { on := 19, ground := Ground.phase }, { on := 20, ground := Ground.phase }, { on := 21, ground := Ground.phase }, { on := 22, ground := Ground.phase }, { on := 23, ground := Ground.phase }, { on := 24, ground := Ground.phase }, { on := 25, ground := Ground.phase }, { on := 26, ground := Ground.phase }, { on := 27, ground := Ground.phase }, { on := 28, ground := Ground.phase }, { on := 29, ground := Ground.phase }, { on := 30, ground := Ground.phase }, { on := 31, ground := Ground.phase }], guard := none }) := by kernel_rfl
      obtain rfl := Option.some.inj (hlit.symm.trans hoi)
      have r38 : b.tmps.getD 38 undef = (.bool true) := rd (hT.at 31 (by kernel_rfl) (pre_of hpre 31 (by kernel_rfl)))
      refine op_go hoi (want_all rfl) fun K hK => ?_
      clear hT hpre hlit hoi
      go_simp
      exact hK _ _ ⟨ks, fun _ _ => rfl, rfl, pc0, pc1, ac0, ac1, bc0, bc1, HB, szw, fs, ss⟩
  · intro ks b w' hT hS
    rw [hT.all ht]
    have hn : (regOps Try.f55 1).size = 33 := by kernel_rfl
    rw [hn] at hS ⊢
    skip
    skip
    obtain ⟨pc0, pc1, ac0, ac1, bc0, bc1, HB, szw, fs, ss⟩ := hS
    obtain ⟨ges, fzs0, fzs1, fzs2, fzs3, fzs4, fzs5, us0, us1, us2, us3, us4, us5, ces0, ces1, ces2, ces3, ces4, ces5, uss⟩ := fs rfl
    obtain ⟨rfl, rfl, rfl, rfl, rfl, rfl⟩ := uss rfl
    exact he ks w' ⟨pc0, pc1, ac0, ac1, bc0, bc1, HB⟩ ⟨ces0, ces1, ces2, ces3, ces4, ces5, fzs0, fzs1, fzs2, fzs3, fzs4, fzs5, ges⟩

/-- What each operation of the region leaves. -/
def region55eV (p0 p1 a0 a1 b0 b1 : Int) (ks : Nat) : Nat → Value
  | 0 => .agg #[.int .i64 p0, .int .i64 p1]
  | 1 => .agg #[.int .i64 a0, .int .i64 a1]
  | 2 => .agg #[.int .i64 b0, .int .i64 b1]
  | 3 => .slice (some ⟨ks, 0, none⟩) 3 3
  | 4 => .bool true
  | 5 => .bool true
  | 6 => .agg #[.int .i64 a0, .int .i64 a1]
  | 7 => .agg #[.int .i64 b0, .int .i64 b1]
  | 8 => .agg #[.int .i64 p0, .int .i64 p1]
  | 9 => .int .i64 0
  | 10 => .bool true
  | 11 => .bool true
  | 12 => .bool true
  | 13 => .agg #[.int .i64 a0, .int .i64 a1]
  | 14 => .agg #[.int .i64 p0, .int .i64 p1]
  | 15 => .int .i64 (cmpP ⟨a0, a1⟩ ⟨p0, p1⟩)
  | 16 => .agg #[.int .i64 p0, .int .i64 p1]
  | 17 => .agg #[.int .i64 b0, .int .i64 b1]
  | 18 => .int .i64 (cmpP ⟨p0, p1⟩ ⟨b0, b1⟩)
  | 19 => .int .i64 (cmpP ⟨a0, a1⟩ ⟨p0, p1⟩ * cmpP ⟨p0, p1⟩ ⟨b0, b1⟩)
  | 20 => .bool true
  | 21 => .bool true
  | 22 => .bool true
  | 23 => .agg #[.int .i64 a0, .int .i64 a1]
  | 24 => .agg #[.int .i64 b0, .int .i64 b1]
  | 25 => .bool false
  | 26 => .bool false
  | 27 => .agg #[.int .i64 p0, .int .i64 p1]
  | 28 => .agg #[.int .i64 a0, .int .i64 a1]
  | 29 => .bool true
  | 30 => .bool true
  | 31 => .bool true
  | 32 => .bool true
  | _ => undef

set_option maxHeartbeats 4000000 in
set_option maxRecDepth 100000 in
theorem region55e (p0 p1 a0 a1 b0 b1 : Int) (kp ka kb : Nat) (W : World) (m1 : (val ⟨p0, p1⟩ && val ⟨a0, a1⟩ && val ⟨b0, b1⟩) = true) (m2 : ori ⟨a0, a1⟩ ⟨b0, b1⟩ ⟨p0, p1⟩ = 0) (m3 : decide (0 ≤ cmpP ⟨a0, a1⟩ ⟨p0, p1⟩ * cmpP ⟨p0, p1⟩ ⟨b0, b1⟩) = true) (m4 : (a0 == b0 && a1 == b1) = true) (m5 : (p0 == a0 && p1 == a1) = true) (eqm : IntKind.i64.wrap (cmpP ⟨a0, a1⟩ ⟨p0, p1⟩ * cmpP ⟨p0, p1⟩ ⟨b0, b1⟩) = cmpP ⟨a0, a1⟩ ⟨p0, p1⟩ * cmpP ⟨p0, p1⟩ ⟨b0, b1⟩) {id : Nat} {ops : Array Oper} {Q : Exit → Act → World → Prop} {a : Act} {w : World}
    (ho : ops = (regOps Try.f55 1)) (hsz : a.tmps.size = 39) (t3 : a.tmps[3]? = some (.pointer (some ⟨kp, 0, none⟩))) (t4 : a.tmps[4]? = some (.pointer (some ⟨ka, 0, none⟩))) (t5 : a.tmps[5]? = some (.pointer (some ⟨kb, 0, none⟩)))
    (h0 : w.cell? ⟨kp, 0, none⟩ = some (.int .i64 p0) ∧ w.cell? ⟨kp, 1, none⟩ = some (.int .i64 p1) ∧ w.cell? ⟨ka, 0, none⟩ = some (.int .i64 a0) ∧ w.cell? ⟨ka, 1, none⟩ = some (.int .i64 a1) ∧ w.cell? ⟨kb, 0, none⟩ = some (.int .i64 b0) ∧ w.cell? ⟨kb, 1, none⟩ = some (.int .i64 b1) ∧ Below W.heap.size W w)
    (he : ∀ ks w', w'.cell? ⟨kp, 0, none⟩ = some (.int .i64 p0) ∧ w'.cell? ⟨kp, 1, none⟩ = some (.int .i64 p1) ∧ w'.cell? ⟨ka, 0, none⟩ = some (.int .i64 a0) ∧ w'.cell? ⟨ka, 1, none⟩ = some (.int .i64 a1) ∧ w'.cell? ⟨kb, 0, none⟩ = some (.int .i64 b0) ∧ w'.cell? ⟨kb, 1, none⟩ = some (.int .i64 b1) ∧ Below W.heap.size W w' → w'.cell? ⟨ks, 0, none⟩ = some (.int .i64 p0) ∧ w'.cell? ⟨ks, 1, none⟩ = some (.int .i64 p1) ∧ w'.cell? ⟨ks, 2, none⟩ = some (.int .i64 a0) ∧ w'.cell? ⟨ks, 3, none⟩ = some (.int .i64 a1) ∧ w'.cell? ⟨ks, 4, none⟩ = some (.int .i64 b0) ∧ w'.cell? ⟨ks, 5, none⟩ = some (.int .i64 b1) ∧ w'.frozen? ⟨ks, 0, none⟩ = false ∧ w'.frozen? ⟨ks, 1, none⟩ = false ∧ w'.frozen? ⟨ks, 2, none⟩ = false ∧ w'.frozen? ⟨ks, 3, none⟩ = false ∧ w'.frozen? ⟨ks, 4, none⟩ = false ∧ w'.frozen? ⟨ks, 5, none⟩ = false ∧ w.heap.size ≤ ks → Q .normal ⟨(((((((((((((((((((((((((((((((((a.tmps.setIfInBounds 7 (.agg #[.int .i64 p0, .int .i64 p1])).setIfInBounds 8 (.agg #[.int .i64 a0, .int .i64 a1])).setIfInBounds 9 (.agg #[.int .i64 b0, .int .i64 b1])).setIfInBounds 10 (.slice (some ⟨ks, 0, none⟩) 3 3)).setIfInBounds 11 (.bool true)).setIfInBounds 12 (.bool true)).setIfInBounds 13 (.agg #[.int .i64 a0, .int .i64 a1])).setIfInBounds 14 (.agg #[.int .i64 b0, .int .i64 b1])).setIfInBounds 15 (.agg #[.int .i64 p0, .int .i64 p1])).setIfInBounds 16 (.int .i64 0)).setIfInBounds 17 (.bool true)).setIfInBounds 18 (.bool true)).setIfInBounds 19 (.bool true)).setIfInBounds 20 (.agg #[.int .i64 a0, .int .i64 a1])).setIfInBounds 21 (.agg #[.int .i64 p0, .int .i64 p1])).setIfInBounds 22 (.int .i64 (cmpP ⟨a0, a1⟩ ⟨p0, p1⟩))).setIfInBounds 23 (.agg #[.int .i64 p0, .int .i64 p1])).setIfInBounds 24 (.agg #[.int .i64 b0, .int .i64 b1])).setIfInBounds 25 (.int .i64 (cmpP ⟨p0, p1⟩ ⟨b0, b1⟩))).setIfInBounds 26 (.int .i64 (cmpP ⟨a0, a1⟩ ⟨p0, p1⟩ * cmpP ⟨p0, p1⟩ ⟨b0, b1⟩))).setIfInBounds 27 (.bool true)).setIfInBounds 28 (.bool true)).setIfInBounds 29 (.bool true)).setIfInBounds 30 (.agg #[.int .i64 a0, .int .i64 a1])).setIfInBounds 31 (.agg #[.int .i64 b0, .int .i64 b1])).setIfInBounds 32 (.bool false)).setIfInBounds 33 (.bool false)).setIfInBounds 34 (.agg #[.int .i64 p0, .int .i64 p1])).setIfInBounds 35 (.agg #[.int .i64 a0, .int .i64 a1])).setIfInBounds 36 (.bool true)).setIfInBounds 37 (.bool true)).setIfInBounds 38 (.bool true)).setIfInBounds 6 (.bool true)), a.defers⟩ w') :
    (Code.region id ops true).wp Try.prog Q a w := by
  have ht : tidy (regOps Try.f55 1) a.tmps.size = true := by rw [hsz]; kernel_rfl
  obtain ⟨pc0, pc1, ac0, ac1, bc0, bc1, HB0⟩ := h0
  have lt_kp := World.block_lt_of_cell? w _ pc0
  have lt_ka := World.block_lt_of_cell? w _ ac0
  have lt_kb := World.block_lt_of_cell? w _ bc0
  have sz0 := HB0.size
  refine region_tab (G := Nat) (fun g => (region55eV p0 p1 a0 a1 b0 b1  g)) (fun g L w' => w'.cell? ⟨kp, 0, none⟩ = some (.int .i64 p0) ∧ w'.cell? ⟨kp, 1, none⟩ = some (.int .i64 p1) ∧ w'.cell? ⟨ka, 0, none⟩ = some (.int .i64 a0) ∧ w'.cell? ⟨ka, 1, none⟩ = some (.int .i64 a1) ∧ w'.cell? ⟨kb, 0, none⟩ = some (.int .i64 b0) ∧ w'.cell? ⟨kb, 1, none⟩ = some (.int .i64 b1) ∧ Below W.heap.size W w' ∧ w.heap.size ≤ w'.heap.size ∧ (L 3 = true → w.heap.size ≤ g ∧ w'.frozen? ⟨g, 0, none⟩ = false ∧ w'.frozen? ⟨g, 1, none⟩ = false ∧ w'.frozen? ⟨g, 2, none⟩ = false ∧ w'.frozen? ⟨g, 3, none⟩ = false ∧ w'.frozen? ⟨g, 4, none⟩ = false ∧ w'.frozen? ⟨g, 5, none⟩ = false ∧ ∃ u0 u1 u2 u3 u4 u5 : Int, w'.cell? ⟨g, 0, none⟩ = some (.int .i64 u0) ∧ w'.cell? ⟨g, 1, none⟩ = some (.int .i64 u1) ∧ w'.cell? ⟨g, 2, none⟩ = some (.int .i64 u2) ∧ w'.cell? ⟨g, 3, none⟩ = some (.int .i64 u3) ∧ w'.cell? ⟨g, 4, none⟩ = some (.int .i64 u4) ∧ w'.cell? ⟨g, 5, none⟩ = some (.int .i64 u5) ∧ (L 3 = true → u0 = p0 ∧ u1 = p1 ∧ u2 = a0 ∧ u3 = a1 ∧ u4 = b0 ∧ u5 = b1)) ∧ (L 3 = true → L 3 = true)) 0 (by kernel_rfl) ho ht ⟨pc0, pc1, ac0, ac1, bc0, bc1, bd HB0, Nat.le_refl _, fun h => (by cases h), fun h => (by cases h)⟩ ?_ ?_
  · intro i o hoi ks L b w' hun hpre hT hS
    clear he pc0 pc1 ac0 ac1 bc0 bc1 ho hsz ht HB0
    have hi : i < (regOps Try.f55 1).size := (Array.getElem?_eq_some_iff.1 hoi).1
    rw [show (regOps Try.f55 1).size = 33 by kernel_rfl] at hi
    skip
    skip
    obtain ⟨pc0, pc1, ac0, ac1, bc0, bc1, HB, szw, fs, ss⟩ := hS
    have hcases : i = 0 ∨ i = 1 ∨ i = 2 ∨ i = 3 ∨ i = 4 ∨ i = 5 ∨ i = 6 ∨ i = 7 ∨ i = 8 ∨ i = 9 ∨ i = 10 ∨ i = 11 ∨ i = 12 ∨ i = 13 ∨ i = 14 ∨ i = 15 ∨ i = 16 ∨ i = 17 ∨ i = 18 ∨ i = 19 ∨ i = 20 ∨ i = 21 ∨ i = 22 ∨ i = 23 ∨ i = 24 ∨ i = 25 ∨ i = 26 ∨ i = 27 ∨ i = 28 ∨ i = 29 ∨ i = 30 ∨ i = 31 ∨ i = 32 := by omega
    rcases hcases with rfl | rfl | rfl | rfl | rfl | rfl | rfl | rfl | rfl | rfl | rfl | rfl | rfl | rfl | rfl | rfl | rfl | rfl | rfl | rfl | rfl | rfl | rfl | rfl | rfl | rfl | rfl | rfl | rfl | rfl | rfl | rfl | rfl
    · have hlit : (regOps Try.f55 1)[0]? = some ({ dst := some 7, op := Op.load 23 (Operand.tmp 3), type := 23, pos := "exact.go:86", after := #[], guard := none }) := by kernel_rfl
      obtain rfl := Option.some.inj (hlit.symm.trans hoi)
      have r3 : b.tmps.getD 3 undef = (.pointer (some ⟨kp, 0, none⟩)) := rd ((hT.old 3 (by kernel_rfl)).trans t3)
      refine op_go hoi (want_all rfl) fun K hK => ?_
      clear hT hpre hlit hoi
      go_simp
      exact hK _ _ ⟨ks, fun _ _ => rfl, rfl, pc0, pc1, ac0, ac1, bc0, bc1, HB, szw, fs, ss⟩
    · have hlit : (regOps Try.f55 1)[1]? = some ({ dst := some 8, op := Op.load 23 (Operand.tmp 4), type := 23, pos := "exact.go:86", after := #[], guard := none }) := by kernel_rfl
      obtain rfl := Option.some.inj (hlit.symm.trans hoi)
      have r4 : b.tmps.getD 4 undef = (.pointer (some ⟨ka, 0, none⟩)) := rd ((hT.old 4 (by kernel_rfl)).trans t4)
      refine op_go hoi (want_all rfl) fun K hK => ?_
      clear hT hpre hlit hoi
      go_simp
      exact hK _ _ ⟨ks, fun _ _ => rfl, rfl, pc0, pc1, ac0, ac1, bc0, bc1, HB, szw, fs, ss⟩
    · have hlit : (regOps Try.f55 1)[2]? = some ({ dst := some 9, op := Op.load 23 (Operand.tmp 5), type := 23, pos := "exact.go:86", after := #[], guard := none }) := by kernel_rfl
      obtain rfl := Option.some.inj (hlit.symm.trans hoi)
      have r5 : b.tmps.getD 5 undef = (.pointer (some ⟨kb, 0, none⟩)) := rd ((hT.old 5 (by kernel_rfl)).trans t5)
      refine op_go hoi (want_all rfl) fun K hK => ?_
      clear hT hpre hlit hoi
      go_simp
      exact hK _ _ ⟨ks, fun _ _ => rfl, rfl, pc0, pc1, ac0, ac1, bc0, bc1, HB, szw, fs, ss⟩
    · have hlit : (regOps Try.f55 1)[3]? = some ({ dst := some 10, op := Op.buildSlice 41 3 #[(0, Operand.tmp 7), (1, Operand.tmp 8), (2, Operand.tmp 9)], type := 41, pos := "exact.go:86", after := #[{ on := 0, ground := Ground.data }, { on := 1, ground := Ground.data }, { on := 2, ground := Ground.data }], guard := none }) := by kernel_rfl
      obtain rfl := Option.some.inj (hlit.symm.trans hoi)
      have r7 : b.tmps.getD 7 undef = (.agg #[.int .i64 p0, .int .i64 p1]) := rd (hT.at 0 (by kernel_rfl) (pre_of hpre 0 (by kernel_rfl)))
      have q7 : b.tmps[7]?.getD undef = (.agg #[.int .i64 p0, .int .i64 p1]) := (Array.getD_eq_getD_getElem? ..).symm.trans r7
      have r8 : b.tmps.getD 8 undef = (.agg #[.int .i64 a0, .int .i64 a1]) := rd (hT.at 1 (by kernel_rfl) (pre_of hpre 1 (by kernel_rfl)))
      have q8 : b.tmps[8]?.getD undef = (.agg #[.int .i64 a0, .int .i64 a1]) := (Array.getD_eq_getD_getElem? ..).symm.trans r8
      have r9 : b.tmps.getD 9 undef = (.agg #[.int .i64 b0, .int .i64 b1]) := rd (hT.at 2 (by kernel_rfl) (pre_of hpre 2 (by kernel_rfl)))
      have q9 : b.tmps[9]?.getD undef = (.agg #[.int .i64 b0, .int .i64 b1]) := (Array.getD_eq_getD_getElem? ..).symm.trans r9
      refine op_go hoi (want_all rfl) fun K hK => ?_
      clear hT hpre hlit hoi
      go_simp
      have lw_pc0 := World.block_lt_of_cell? w' _ pc0
      have lw_pc1 := World.block_lt_of_cell? w' _ pc1
      have lw_ac0 := World.block_lt_of_cell? w' _ ac0
      have lw_ac1 := World.block_lt_of_cell? w' _ ac1
      have lw_bc0 := World.block_lt_of_cell? w' _ bc0
      have lw_bc1 := World.block_lt_of_cell? w' _ bc1
      refine hK _ _ ⟨w'.heap.size, fun j hj => ?_, rfl, by go_simp, by go_simp, by go_simp, by go_simp, by go_simp, by go_simp, ba HB _, by simp; omega, fun _ => ⟨szw, by go_simp, by go_simp, by go_simp, by go_simp, by go_simp, by go_simp, p0, p1, a0, a1, b0, b1, by go_simp, by go_simp, by go_simp, by go_simp, by go_simp, by go_simp, fun _ => ⟨rfl, rfl, rfl, rfl, rfl, rfl⟩⟩, fun _ => rfl⟩
      by_cases e : j = 3
      · subst e; rw [hun] at hj; cases hj
      · unfold region55eV; split <;> first | rfl | (exact absurd rfl e)
    · have hlit : (regOps Try.f55 1)[4]? = some ({ dst := some 11, op := Op.call { callee := Callee.value (Operand.func 69), args := #[Operand.tmp 10], argTypes := #[41] }, type := 4, pos := "exact.go:86", after := #[{ on := 3, ground := Ground.data }], guard := none }) := by kernel_rfl
      obtain rfl := Option.some.inj (hlit.symm.trans hoi)
      have r10 : b.tmps.getD 10 undef = (.slice (some ⟨ks, 0, none⟩) 3 3) := rd (hT.at 3 (by kernel_rfl) (pre_of hpre 3 (by kernel_rfl)))
      have pr : L 3 = true := pre_of hpre 3 (by kernel_rfl)
      obtain ⟨ge, fz0, fz1, fz2, fz3, fz4, fz5, u0, u1, u2, u3, u4, u5, ce0, ce1, ce2, ce3, ce4, ce5, us⟩ := fs pr
      obtain ⟨us0, us1, us2, us3, us4, us5⟩ := us pr
      rw [us0] at ce0
      rw [us1] at ce1
      rw [us2] at ce2
      rw [us3] at ce3
      rw [us4] at ce4
      rw [us5] at ce5
      refine op_go hoi (want_all rfl) fun K hK => ?_
      clear hT hpre hlit hoi
      go_simp
      go_at_call 69
      refine (all3 _ _ _ _ _ _ _ _ _ ce0 ce1 ce2 ce3 ce4 ce5).mono ?_; rw [m1]; rintro e w2 ⟨rfl, hb⟩; replace pc0 := ck hb pc0; replace pc1 := ck hb pc1; replace ac0 := ck hb ac0; replace ac1 := ck hb ac1; replace bc0 := ck hb bc0; replace bc1 := ck hb bc1; replace szw : w.heap.size ≤ w2.heap.size := Nat.le_trans szw hb.size; replace fs : L 3 = true → w.heap.size ≤ ks ∧ w2.frozen? ⟨ks, 0, none⟩ = false ∧ w2.frozen? ⟨ks, 1, none⟩ = false ∧ w2.frozen? ⟨ks, 2, none⟩ = false ∧ w2.frozen? ⟨ks, 3, none⟩ = false ∧ w2.frozen? ⟨ks, 4, none⟩ = false ∧ w2.frozen? ⟨ks, 5, none⟩ = false ∧ ∃ u0 u1 u2 u3 u4 u5 : Int, w2.cell? ⟨ks, 0, none⟩ = some (Value.int .i64 u0) ∧ w2.cell? ⟨ks, 1, none⟩ = some (Value.int .i64 u1) ∧ w2.cell? ⟨ks, 2, none⟩ = some (Value.int .i64 u2) ∧ w2.cell? ⟨ks, 3, none⟩ = some (Value.int .i64 u3) ∧ w2.cell? ⟨ks, 4, none⟩ = some (Value.int .i64 u4) ∧ w2.cell? ⟨ks, 5, none⟩ = some (Value.int .i64 u5) ∧ (L 3 = true → u0 = p0 ∧ u1 = p1 ∧ u2 = a0 ∧ u3 = a1 ∧ u4 = b0 ∧ u5 = b1) := fun h => (by obtain ⟨ge, fz0, fz1, fz2, fz3, fz4, fz5, u0, u1, u2, u3, u4, u5, ce0, ce1, ce2, ce3, ce4, ce5, us⟩ := fs h; exact ⟨ge, cf hb (World.block_lt_of_cell? _ _ ce0) fz0, cf hb (World.block_lt_of_cell? _ _ ce1) fz1, cf hb (World.block_lt_of_cell? _ _ ce2) fz2, cf hb (World.block_lt_of_cell? _ _ ce3) fz3, cf hb (World.block_lt_of_cell? _ _ ce4) fz4, cf hb (World.block_lt_of_cell? _ _ ce5) fz5, u0, u1, u2, u3, u4, u5, ck hb ce0, ck hb ce1, ck hb ce2, ck hb ce3, ck hb ce4, ck hb ce5, us⟩); replace HB : Below W.heap.size W w2 := bt HB hb; clear hb
      exact hK _ _ ⟨ks, fun _ _ => rfl, rfl, pc0, pc1, ac0, ac1, bc0, bc1, HB, szw, fs, ss⟩
    · have hlit : (regOps Try.f55 1)[5]? = some ({ dst := some 12, op := Op.move (Operand.tmp 11), type := 4, pos := "exact.go:86", after := #[{ on := 4, ground := Ground.data }, { on := 4, ground := Ground.chain }], guard := none }) := by kernel_rfl
      obtain rfl := Option.some.inj (hlit.symm.trans hoi)
      have r11 : b.tmps.getD 11 undef = (.bool true) := rd (hT.at 4 (by kernel_rfl) (pre_of hpre 4 (by kernel_rfl)))
      refine op_go hoi (want_all rfl) fun K hK => ?_
      clear hT hpre hlit hoi
      go_simp
      exact hK _ _ ⟨ks, fun _ _ => rfl, rfl, pc0, pc1, ac0, ac1, bc0, bc1, HB, szw, fs, ss⟩
    · have hlit : (regOps Try.f55 1)[6]? = some ({ dst := some 13, op := Op.load 23 (Operand.tmp 4), type := 23, pos := "exact.go:86", after := #[{ on := 5, ground := Ground.guard }], guard := some (5, true) }) := by kernel_rfl
      obtain rfl := Option.some.inj (hlit.symm.trans hoi)
      have r4 : b.tmps.getD 4 undef = (.pointer (some ⟨ka, 0, none⟩)) := rd ((hT.old 4 (by kernel_rfl)).trans t4)
      refine op_go hoi (want_yes rfl (d := 12) (by kernel_rfl) (hT.at 5 (by kernel_rfl) (pre_of hpre 5 (by kernel_rfl)))) fun K hK => ?_
      clear hT hpre hlit hoi
      go_simp
      exact hK _ _ ⟨ks, fun _ _ => rfl, rfl, pc0, pc1, ac0, ac1, bc0, bc1, HB, szw, fs, ss⟩
    · have hlit : (regOps Try.f55 1)[7]? = some ({ dst := some 14, op := Op.load 23 (Operand.tmp 5), type := 23, pos := "exact.go:86", after := #[{ on := 5, ground := Ground.guard }], guard := some (5, true) }) := by kernel_rfl
      obtain rfl := Option.some.inj (hlit.symm.trans hoi)
      have r5 : b.tmps.getD 5 undef = (.pointer (some ⟨kb, 0, none⟩)) := rd ((hT.old 5 (by kernel_rfl)).trans t5)
      refine op_go hoi (want_yes rfl (d := 12) (by kernel_rfl) (hT.at 5 (by kernel_rfl) (pre_of hpre 5 (by kernel_rfl)))) fun K hK => ?_
      clear hT hpre hlit hoi
      go_simp
      exact hK _ _ ⟨ks, fun _ _ => rfl, rfl, pc0, pc1, ac0, ac1, bc0, bc1, HB, szw, fs, ss⟩
    · have hlit : (regOps Try.f55 1)[8]? = some ({ dst := some 15, op := Op.load 23 (Operand.tmp 3), type := 23, pos := "exact.go:86", after := #[{ on := 5, ground := Ground.guard }], guard := some (5, true) }) := by kernel_rfl
      obtain rfl := Option.some.inj (hlit.symm.trans hoi)
      have r3 : b.tmps.getD 3 undef = (.pointer (some ⟨kp, 0, none⟩)) := rd ((hT.old 3 (by kernel_rfl)).trans t3)
      refine op_go hoi (want_yes rfl (d := 12) (by kernel_rfl) (hT.at 5 (by kernel_rfl) (pre_of hpre 5 (by kernel_rfl)))) fun K hK => ?_
      clear hT hpre hlit hoi
      go_simp
      exact hK _ _ ⟨ks, fun _ _ => rfl, rfl, pc0, pc1, ac0, ac1, bc0, bc1, HB, szw, fs, ss⟩
    · have hlit : (regOps Try.f55 1)[9]? = some ({ dst := some 16, op := Op.call { callee := Callee.value (Operand.func 52), args := #[Operand.tmp 13, Operand.tmp 14, Operand.tmp 15], argTypes := #[23, 23, 23] }, type := 3, pos := "exact.go:86", after := #[{ on := 6, ground := Ground.data }, { on := 7, ground := Ground.data }, { on := 8, ground := Ground.data }, { on := 5, ground := Ground.chain }, { on := 5, ground := Ground.guard }], guard := some (5, true) }) := by kernel_rfl
      obtain rfl := Option.some.inj (hlit.symm.trans hoi)
      have r13 : b.tmps.getD 13 undef = (.agg #[.int .i64 a0, .int .i64 a1]) := rd (hT.at 6 (by kernel_rfl) (pre_of hpre 6 (by kernel_rfl)))
      have r14 : b.tmps.getD 14 undef = (.agg #[.int .i64 b0, .int .i64 b1]) := rd (hT.at 7 (by kernel_rfl) (pre_of hpre 7 (by kernel_rfl)))
      have r15 : b.tmps.getD 15 undef = (.agg #[.int .i64 p0, .int .i64 p1]) := rd (hT.at 8 (by kernel_rfl) (pre_of hpre 8 (by kernel_rfl)))
      refine op_go hoi (want_yes rfl (d := 12) (by kernel_rfl) (hT.at 5 (by kernel_rfl) (pre_of hpre 5 (by kernel_rfl)))) fun K hK => ?_
      clear hT hpre hlit hoi
      go_simp
      go_at_call 52
      refine (ori52 _ _ _ _ _ _ _).mono ?_; rw [m2]; rintro e w2 ⟨rfl, hb⟩; replace pc0 := ck hb pc0; replace pc1 := ck hb pc1; replace ac0 := ck hb ac0; replace ac1 := ck hb ac1; replace bc0 := ck hb bc0; replace bc1 := ck hb bc1; replace szw : w.heap.size ≤ w2.heap.size := Nat.le_trans szw hb.size; replace fs : L 3 = true → w.heap.size ≤ ks ∧ w2.frozen? ⟨ks, 0, none⟩ = false ∧ w2.frozen? ⟨ks, 1, none⟩ = false ∧ w2.frozen? ⟨ks, 2, none⟩ = false ∧ w2.frozen? ⟨ks, 3, none⟩ = false ∧ w2.frozen? ⟨ks, 4, none⟩ = false ∧ w2.frozen? ⟨ks, 5, none⟩ = false ∧ ∃ u0 u1 u2 u3 u4 u5 : Int, w2.cell? ⟨ks, 0, none⟩ = some (Value.int .i64 u0) ∧ w2.cell? ⟨ks, 1, none⟩ = some (Value.int .i64 u1) ∧ w2.cell? ⟨ks, 2, none⟩ = some (Value.int .i64 u2) ∧ w2.cell? ⟨ks, 3, none⟩ = some (Value.int .i64 u3) ∧ w2.cell? ⟨ks, 4, none⟩ = some (Value.int .i64 u4) ∧ w2.cell? ⟨ks, 5, none⟩ = some (Value.int .i64 u5) ∧ (L 3 = true → u0 = p0 ∧ u1 = p1 ∧ u2 = a0 ∧ u3 = a1 ∧ u4 = b0 ∧ u5 = b1) := fun h => (by obtain ⟨ge, fz0, fz1, fz2, fz3, fz4, fz5, u0, u1, u2, u3, u4, u5, ce0, ce1, ce2, ce3, ce4, ce5, us⟩ := fs h; exact ⟨ge, cf hb (World.block_lt_of_cell? _ _ ce0) fz0, cf hb (World.block_lt_of_cell? _ _ ce1) fz1, cf hb (World.block_lt_of_cell? _ _ ce2) fz2, cf hb (World.block_lt_of_cell? _ _ ce3) fz3, cf hb (World.block_lt_of_cell? _ _ ce4) fz4, cf hb (World.block_lt_of_cell? _ _ ce5) fz5, u0, u1, u2, u3, u4, u5, ck hb ce0, ck hb ce1, ck hb ce2, ck hb ce3, ck hb ce4, ck hb ce5, us⟩); replace HB : Below W.heap.size W w2 := bt HB hb; clear hb
      exact hK _ _ ⟨ks, fun _ _ => rfl, rfl, pc0, pc1, ac0, ac1, bc0, bc1, HB, szw, fs, ss⟩
    · have hlit : (regOps Try.f55 1)[10]? = some ({ dst := some 17, op := Op.binOp BinOp.eql 3 (Operand.tmp 16) (Operand.const (Value.int IntKind.i64 0)) 3, type := 4, pos := "exact.go:86", after := #[{ on := 9, ground := Ground.data }, { on := 5, ground := Ground.guard }], guard := some (5, true) }) := by kernel_rfl
      obtain rfl := Option.some.inj (hlit.symm.trans hoi)
      have r16 : b.tmps.getD 16 undef = (.int .i64 0) := rd (hT.at 9 (by kernel_rfl) (pre_of hpre 9 (by kernel_rfl)))
      refine op_go hoi (want_yes rfl (d := 12) (by kernel_rfl) (hT.at 5 (by kernel_rfl) (pre_of hpre 5 (by kernel_rfl)))) fun K hK => ?_
      clear hT hpre hlit hoi
      go_simp
      exact hK _ _ ⟨ks, fun _ _ => rfl, rfl, pc0, pc1, ac0, ac1, bc0, bc1, HB, szw, fs, ss⟩
    · have hlit : (regOps Try.f55 1)[11]? = some ({ dst := some 18, op := Op.pick (Operand.tmp 12) (Operand.tmp 17) (Operand.const (Value.bool false)), type := 4, pos := "exact.go:86", after := #[{ on := 5, ground := Ground.data }, { on := 10, ground := Ground.data }], guard := none }) := by kernel_rfl
      obtain rfl := Option.some.inj (hlit.symm.trans hoi)
      have r12 : b.tmps.getD 12 undef = (.bool true) := rd (hT.at 5 (by kernel_rfl) (pre_of hpre 5 (by kernel_rfl)))
      have r17 : b.tmps.getD 17 undef = (.bool true) := rd (hT.at 10 (by kernel_rfl) (pre_of hpre 10 (by kernel_rfl)))
      refine op_go hoi (want_all rfl) fun K hK => ?_
      clear hT hpre hlit hoi
      go_simp
      exact hK _ _ ⟨ks, fun _ _ => rfl, rfl, pc0, pc1, ac0, ac1, bc0, bc1, HB, szw, fs, ss⟩
    · have hlit : (regOps Try.f55 1)[12]? = some ({ dst := some 19, op := Op.move (Operand.tmp 18), type := 4, pos := "exact.go:86", after := #[{ on := 11, ground := Ground.data }, { on := 9, ground := Ground.chain }], guard := none }) := by kernel_rfl
      obtain rfl := Option.some.inj (hlit.symm.trans hoi)
      have r18 : b.tmps.getD 18 undef = (.bool true) := rd (hT.at 11 (by kernel_rfl) (pre_of hpre 11 (by kernel_rfl)))
      refine op_go hoi (want_all rfl) fun K hK => ?_
      clear hT hpre hlit hoi
      go_simp
      exact hK _ _ ⟨ks, fun _ _ => rfl, rfl, pc0, pc1, ac0, ac1, bc0, bc1, HB, szw, fs, ss⟩
    · have hlit : (regOps Try.f55 1)[13]? = some ({ dst := some 20, op := Op.load 23 (Operand.tmp 4), type := 23, pos := "exact.go:86", after := #[{ on := 12, ground := Ground.guard }], guard := some (12, true) }) := by kernel_rfl
      obtain rfl := Option.some.inj (hlit.symm.trans hoi)
      have r4 : b.tmps.getD 4 undef = (.pointer (some ⟨ka, 0, none⟩)) := rd ((hT.old 4 (by kernel_rfl)).trans t4)
      refine op_go hoi (want_yes rfl (d := 19) (by kernel_rfl) (hT.at 12 (by kernel_rfl) (pre_of hpre 12 (by kernel_rfl)))) fun K hK => ?_
      clear hT hpre hlit hoi
      go_simp
      exact hK _ _ ⟨ks, fun _ _ => rfl, rfl, pc0, pc1, ac0, ac1, bc0, bc1, HB, szw, fs, ss⟩
    · have hlit : (regOps Try.f55 1)[14]? = some ({ dst := some 21, op := Op.load 23 (Operand.tmp 3), type := 23, pos := "exact.go:86", after := #[{ on := 12, ground := Ground.guard }], guard := some (12, true) }) := by kernel_rfl
      obtain rfl := Option.some.inj (hlit.symm.trans hoi)
      have r3 : b.tmps.getD 3 undef = (.pointer (some ⟨kp, 0, none⟩)) := rd ((hT.old 3 (by kernel_rfl)).trans t3)
      refine op_go hoi (want_yes rfl (d := 19) (by kernel_rfl) (hT.at 12 (by kernel_rfl) (pre_of hpre 12 (by kernel_rfl)))) fun K hK => ?_
      clear hT hpre hlit hoi
      go_simp
      exact hK _ _ ⟨ks, fun _ _ => rfl, rfl, pc0, pc1, ac0, ac1, bc0, bc1, HB, szw, fs, ss⟩
    · have hlit : (regOps Try.f55 1)[15]? = some ({ dst := some 22, op := Op.call { callee := Callee.value (Operand.func 50), args := #[Operand.tmp 20, Operand.tmp 21], argTypes := #[23, 23] }, type := 3, pos := "exact.go:86", after := #[{ on := 13, ground := Ground.data }, { on := 14, ground := Ground.data }, { on := 12, ground := Ground.chain }, { on := 12, ground := Ground.guard }], guard := some (12, true) }) := by kernel_rfl
      obtain rfl := Option.some.inj (hlit.symm.trans hoi)
      have r20 : b.tmps.getD 20 undef = (.agg #[.int .i64 a0, .int .i64 a1]) := rd (hT.at 13 (by kernel_rfl) (pre_of hpre 13 (by kernel_rfl)))
      have r21 : b.tmps.getD 21 undef = (.agg #[.int .i64 p0, .int .i64 p1]) := rd (hT.at 14 (by kernel_rfl) (pre_of hpre 14 (by kernel_rfl)))
      refine op_go hoi (want_yes rfl (d := 19) (by kernel_rfl) (hT.at 12 (by kernel_rfl) (pre_of hpre 12 (by kernel_rfl)))) fun K hK => ?_
      clear hT hpre hlit hoi
      go_simp
      go_at_call 50
      refine (cmp50 _ _ _ _ _).mono ?_; rintro e w2 ⟨rfl, hb⟩; replace pc0 := ck hb pc0; replace pc1 := ck hb pc1; replace ac0 := ck hb ac0; replace ac1 := ck hb ac1; replace bc0 := ck hb bc0; replace bc1 := ck hb bc1; replace szw : w.heap.size ≤ w2.heap.size := Nat.le_trans szw hb.size; replace fs : L 3 = true → w.heap.size ≤ ks ∧ w2.frozen? ⟨ks, 0, none⟩ = false ∧ w2.frozen? ⟨ks, 1, none⟩ = false ∧ w2.frozen? ⟨ks, 2, none⟩ = false ∧ w2.frozen? ⟨ks, 3, none⟩ = false ∧ w2.frozen? ⟨ks, 4, none⟩ = false ∧ w2.frozen? ⟨ks, 5, none⟩ = false ∧ ∃ u0 u1 u2 u3 u4 u5 : Int, w2.cell? ⟨ks, 0, none⟩ = some (Value.int .i64 u0) ∧ w2.cell? ⟨ks, 1, none⟩ = some (Value.int .i64 u1) ∧ w2.cell? ⟨ks, 2, none⟩ = some (Value.int .i64 u2) ∧ w2.cell? ⟨ks, 3, none⟩ = some (Value.int .i64 u3) ∧ w2.cell? ⟨ks, 4, none⟩ = some (Value.int .i64 u4) ∧ w2.cell? ⟨ks, 5, none⟩ = some (Value.int .i64 u5) ∧ (L 3 = true → u0 = p0 ∧ u1 = p1 ∧ u2 = a0 ∧ u3 = a1 ∧ u4 = b0 ∧ u5 = b1) := fun h => (by obtain ⟨ge, fz0, fz1, fz2, fz3, fz4, fz5, u0, u1, u2, u3, u4, u5, ce0, ce1, ce2, ce3, ce4, ce5, us⟩ := fs h; exact ⟨ge, cf hb (World.block_lt_of_cell? _ _ ce0) fz0, cf hb (World.block_lt_of_cell? _ _ ce1) fz1, cf hb (World.block_lt_of_cell? _ _ ce2) fz2, cf hb (World.block_lt_of_cell? _ _ ce3) fz3, cf hb (World.block_lt_of_cell? _ _ ce4) fz4, cf hb (World.block_lt_of_cell? _ _ ce5) fz5, u0, u1, u2, u3, u4, u5, ck hb ce0, ck hb ce1, ck hb ce2, ck hb ce3, ck hb ce4, ck hb ce5, us⟩); replace HB : Below W.heap.size W w2 := bt HB hb; clear hb
      exact hK _ _ ⟨ks, fun _ _ => rfl, rfl, pc0, pc1, ac0, ac1, bc0, bc1, HB, szw, fs, ss⟩
    · have hlit : (regOps Try.f55 1)[16]? = some ({ dst := some 23, op := Op.load 23 (Operand.tmp 3), type := 23, pos := "exact.go:86", after := #[{ on := 12, ground := Ground.guard }], guard := some (12, true) }) := by kernel_rfl
      obtain rfl := Option.some.inj (hlit.symm.trans hoi)
      have r3 : b.tmps.getD 3 undef = (.pointer (some ⟨kp, 0, none⟩)) := rd ((hT.old 3 (by kernel_rfl)).trans t3)
      refine op_go hoi (want_yes rfl (d := 19) (by kernel_rfl) (hT.at 12 (by kernel_rfl) (pre_of hpre 12 (by kernel_rfl)))) fun K hK => ?_
      clear hT hpre hlit hoi
      go_simp
      exact hK _ _ ⟨ks, fun _ _ => rfl, rfl, pc0, pc1, ac0, ac1, bc0, bc1, HB, szw, fs, ss⟩
    · have hlit : (regOps Try.f55 1)[17]? = some ({ dst := some 24, op := Op.load 23 (Operand.tmp 5), type := 23, pos := "exact.go:86", after := #[{ on := 12, ground := Ground.guard }], guard := some (12, true) }) := by kernel_rfl
      obtain rfl := Option.some.inj (hlit.symm.trans hoi)
      have r5 : b.tmps.getD 5 undef = (.pointer (some ⟨kb, 0, none⟩)) := rd ((hT.old 5 (by kernel_rfl)).trans t5)
      refine op_go hoi (want_yes rfl (d := 19) (by kernel_rfl) (hT.at 12 (by kernel_rfl) (pre_of hpre 12 (by kernel_rfl)))) fun K hK => ?_
      clear hT hpre hlit hoi
      go_simp
      exact hK _ _ ⟨ks, fun _ _ => rfl, rfl, pc0, pc1, ac0, ac1, bc0, bc1, HB, szw, fs, ss⟩
    · have hlit : (regOps Try.f55 1)[18]? = some ({ dst := some 25, op := Op.call { callee := Callee.value (Operand.func 50), args := #[Operand.tmp 23, Operand.tmp 24], argTypes := #[23, 23] }, type := 3, pos := "exact.go:86", after := #[{ on := 16, ground := Ground.data }, { on := 17, ground := Ground.data }, { on := 15, ground := Ground.chain }, { on := 12, ground := Ground.guard }], guard := some (12, true) }) := by kernel_rfl
      obtain rfl := Option.some.inj (hlit.symm.trans hoi)
      have r23 : b.tmps.getD 23 undef = (.agg #[.int .i64 p0, .int .i64 p1]) := rd (hT.at 16 (by kernel_rfl) (pre_of hpre 16 (by kernel_rfl)))
      have r24 : b.tmps.getD 24 undef = (.agg #[.int .i64 b0, .int .i64 b1]) := rd (hT.at 17 (by kernel_rfl) (pre_of hpre 17 (by kernel_rfl)))
      refine op_go hoi (want_yes rfl (d := 19) (by kernel_rfl) (hT.at 12 (by kernel_rfl) (pre_of hpre 12 (by kernel_rfl)))) fun K hK => ?_
      clear hT hpre hlit hoi
      go_simp
      go_at_call 50
      refine (cmp50 _ _ _ _ _).mono ?_; rintro e w2 ⟨rfl, hb⟩; replace pc0 := ck hb pc0; replace pc1 := ck hb pc1; replace ac0 := ck hb ac0; replace ac1 := ck hb ac1; replace bc0 := ck hb bc0; replace bc1 := ck hb bc1; replace szw : w.heap.size ≤ w2.heap.size := Nat.le_trans szw hb.size; replace fs : L 3 = true → w.heap.size ≤ ks ∧ w2.frozen? ⟨ks, 0, none⟩ = false ∧ w2.frozen? ⟨ks, 1, none⟩ = false ∧ w2.frozen? ⟨ks, 2, none⟩ = false ∧ w2.frozen? ⟨ks, 3, none⟩ = false ∧ w2.frozen? ⟨ks, 4, none⟩ = false ∧ w2.frozen? ⟨ks, 5, none⟩ = false ∧ ∃ u0 u1 u2 u3 u4 u5 : Int, w2.cell? ⟨ks, 0, none⟩ = some (Value.int .i64 u0) ∧ w2.cell? ⟨ks, 1, none⟩ = some (Value.int .i64 u1) ∧ w2.cell? ⟨ks, 2, none⟩ = some (Value.int .i64 u2) ∧ w2.cell? ⟨ks, 3, none⟩ = some (Value.int .i64 u3) ∧ w2.cell? ⟨ks, 4, none⟩ = some (Value.int .i64 u4) ∧ w2.cell? ⟨ks, 5, none⟩ = some (Value.int .i64 u5) ∧ (L 3 = true → u0 = p0 ∧ u1 = p1 ∧ u2 = a0 ∧ u3 = a1 ∧ u4 = b0 ∧ u5 = b1) := fun h => (by obtain ⟨ge, fz0, fz1, fz2, fz3, fz4, fz5, u0, u1, u2, u3, u4, u5, ce0, ce1, ce2, ce3, ce4, ce5, us⟩ := fs h; exact ⟨ge, cf hb (World.block_lt_of_cell? _ _ ce0) fz0, cf hb (World.block_lt_of_cell? _ _ ce1) fz1, cf hb (World.block_lt_of_cell? _ _ ce2) fz2, cf hb (World.block_lt_of_cell? _ _ ce3) fz3, cf hb (World.block_lt_of_cell? _ _ ce4) fz4, cf hb (World.block_lt_of_cell? _ _ ce5) fz5, u0, u1, u2, u3, u4, u5, ck hb ce0, ck hb ce1, ck hb ce2, ck hb ce3, ck hb ce4, ck hb ce5, us⟩); replace HB : Below W.heap.size W w2 := bt HB hb; clear hb
      exact hK _ _ ⟨ks, fun _ _ => rfl, rfl, pc0, pc1, ac0, ac1, bc0, bc1, HB, szw, fs, ss⟩
    · have hlit : (regOps Try.f55 1)[19]? = some ({ dst := some 26, op := Op.binOp BinOp.mul 3 (Operand.tmp 22) (Operand.tmp 25) 3, type := 3, pos := "exact.go:86", after := #[{ on := 15, ground := Ground.data }, { on := 18, ground := Ground.data }, { on := 12, ground := Ground.guard }], guard := some (12, true) }) := by kernel_rfl
      obtain rfl := Option.some.inj (hlit.symm.trans hoi)
      have r22 : b.tmps.getD 22 undef = (.int .i64 (cmpP ⟨a0, a1⟩ ⟨p0, p1⟩)) := rd (hT.at 15 (by kernel_rfl) (pre_of hpre 15 (by kernel_rfl)))
      have r25 : b.tmps.getD 25 undef = (.int .i64 (cmpP ⟨p0, p1⟩ ⟨b0, b1⟩)) := rd (hT.at 18 (by kernel_rfl) (pre_of hpre 18 (by kernel_rfl)))
      refine op_go hoi (want_yes rfl (d := 19) (by kernel_rfl) (hT.at 12 (by kernel_rfl) (pre_of hpre 12 (by kernel_rfl)))) fun K hK => ?_
      clear hT hpre hlit hoi
      go_simp
      exact hK _ _ ⟨ks, fun _ _ => rfl, rfl, pc0, pc1, ac0, ac1, bc0, bc1, HB, szw, fs, ss⟩
    · have hlit : (regOps Try.f55 1)[20]? = some ({ dst := some 27, op := Op.binOp BinOp.geq 3 (Operand.tmp 26) (Operand.const (Value.int IntKind.i64 0)) 3, type := 4, pos := "exact.go:86", after := #[{ on := 19, ground := Ground.data }, { on := 12, ground := Ground.guard }], guard := some (12, true) }) := by kernel_rfl
      obtain rfl := Option.some.inj (hlit.symm.trans hoi)
      have r26 : b.tmps.getD 26 undef = (.int .i64 (cmpP ⟨a0, a1⟩ ⟨p0, p1⟩ * cmpP ⟨p0, p1⟩ ⟨b0, b1⟩)) := rd (hT.at 19 (by kernel_rfl) (pre_of hpre 19 (by kernel_rfl)))
      refine op_go hoi (want_yes rfl (d := 19) (by kernel_rfl) (hT.at 12 (by kernel_rfl) (pre_of hpre 12 (by kernel_rfl)))) fun K hK => ?_
      clear hT hpre hlit hoi
      go_simp
      exact hK _ _ ⟨ks, fun _ _ => rfl, rfl, pc0, pc1, ac0, ac1, bc0, bc1, HB, szw, fs, ss⟩
    · have hlit : (regOps Try.f55 1)[21]? = some ({ dst := some 28, op := Op.pick (Operand.tmp 19) (Operand.tmp 27) (Operand.const (Value.bool false)), type := 4, pos := "exact.go:86", after := #[{ on := 12, ground := Ground.data }, { on := 20, ground := Ground.data }], guard := none }) := by kernel_rfl
      obtain rfl := Option.some.inj (hlit.symm.trans hoi)
      have r19 : b.tmps.getD 19 undef = (.bool true) := rd (hT.at 12 (by kernel_rfl) (pre_of hpre 12 (by kernel_rfl)))
      have r27 : b.tmps.getD 27 undef = (.bool true) := rd (hT.at 20 (by kernel_rfl) (pre_of hpre 20 (by kernel_rfl)))
      refine op_go hoi (want_all rfl) fun K hK => ?_
      clear hT hpre hlit hoi
      go_simp
      exact hK _ _ ⟨ks, fun _ _ => rfl, rfl, pc0, pc1, ac0, ac1, bc0, bc1, HB, szw, fs, ss⟩
    · have hlit : (regOps Try.f55 1)[22]? = some ({ dst := some 29, op := Op.move (Operand.tmp 28), type := 4, pos := "exact.go:86", after := #[{ on := 21, ground := Ground.data }, { on := 18, ground := Ground.chain }], guard := none }) := by kernel_rfl
      obtain rfl := Option.some.inj (hlit.symm.trans hoi)
      have r28 : b.tmps.getD 28 undef = (.bool true) := rd (hT.at 21 (by kernel_rfl) (pre_of hpre 21 (by kernel_rfl)))
      refine op_go hoi (want_all rfl) fun K hK => ?_
      clear hT hpre hlit hoi
      go_simp
      exact hK _ _ ⟨ks, fun _ _ => rfl, rfl, pc0, pc1, ac0, ac1, bc0, bc1, HB, szw, fs, ss⟩
    · have hlit : (regOps Try.f55 1)[23]? = some ({ dst := some 30, op := Op.load 23 (Operand.tmp 4), type := 23, pos := "exact.go:86", after := #[{ on := 22, ground := Ground.guard }], guard := some (22, true) }) := by kernel_rfl
      obtain rfl := Option.some.inj (hlit.symm.trans hoi)
      have r4 : b.tmps.getD 4 undef = (.pointer (some ⟨ka, 0, none⟩)) := rd ((hT.old 4 (by kernel_rfl)).trans t4)
      refine op_go hoi (want_yes rfl (d := 29) (by kernel_rfl) (hT.at 22 (by kernel_rfl) (pre_of hpre 22 (by kernel_rfl)))) fun K hK => ?_
      clear hT hpre hlit hoi
      go_simp
      exact hK _ _ ⟨ks, fun _ _ => rfl, rfl, pc0, pc1, ac0, ac1, bc0, bc1, HB, szw, fs, ss⟩
    · have hlit : (regOps Try.f55 1)[24]? = some ({ dst := some 31, op := Op.load 23 (Operand.tmp 5), type := 23, pos := "exact.go:86", after := #[{ on := 22, ground := Ground.guard }], guard := some (22, true) }) := by kernel_rfl
      obtain rfl := Option.some.inj (hlit.symm.trans hoi)
      have r5 : b.tmps.getD 5 undef = (.pointer (some ⟨kb, 0, none⟩)) := rd ((hT.old 5 (by kernel_rfl)).trans t5)
      refine op_go hoi (want_yes rfl (d := 29) (by kernel_rfl) (hT.at 22 (by kernel_rfl) (pre_of hpre 22 (by kernel_rfl)))) fun K hK => ?_
      clear hT hpre hlit hoi
      go_simp
      exact hK _ _ ⟨ks, fun _ _ => rfl, rfl, pc0, pc1, ac0, ac1, bc0, bc1, HB, szw, fs, ss⟩
    · have hlit : (regOps Try.f55 1)[25]? = some ({ dst := some 32, op := Op.binOp BinOp.neq 23 (Operand.tmp 30) (Operand.tmp 31) 23, type := 4, pos := "exact.go:86", after := #[{ on := 23, ground := Ground.data }, { on := 24, ground := Ground.data }, { on := 22, ground := Ground.guard }], guard := some (22, true) }) := by kernel_rfl
      obtain rfl := Option.some.inj (hlit.symm.trans hoi)
      have r30 : b.tmps.getD 30 undef = (.agg #[.int .i64 a0, .int .i64 a1]) := rd (hT.at 23 (by kernel_rfl) (pre_of hpre 23 (by kernel_rfl)))
      have r31 : b.tmps.getD 31 undef = (.agg #[.int .i64 b0, .int .i64 b1]) := rd (hT.at 24 (by kernel_rfl) (pre_of hpre 24 (by kernel_rfl)))
      refine op_go hoi (want_yes rfl (d := 29) (by kernel_rfl) (hT.at 22 (by kernel_rfl) (pre_of hpre 22 (by kernel_rfl)))) fun K hK => ?_
      clear hT hpre hlit hoi
      go_simp
      exact hK _ _ ⟨ks, fun _ _ => rfl, rfl, pc0, pc1, ac0, ac1, bc0, bc1, HB, szw, fs, ss⟩
    · have hlit : (regOps Try.f55 1)[26]? = some ({ dst := some 33, op := Op.move (Operand.tmp 32), type := 4, pos := "exact.go:86", after := #[{ on := 25, ground := Ground.data }, { on := 22, ground := Ground.chain }, { on := 22, ground := Ground.guard }], guard := some (22, true) }) := by kernel_rfl
      obtain rfl := Option.some.inj (hlit.symm.trans hoi)
      have r32 : b.tmps.getD 32 undef = (.bool false) := rd (hT.at 25 (by kernel_rfl) (pre_of hpre 25 (by kernel_rfl)))
      refine op_go hoi (want_yes rfl (d := 29) (by kernel_rfl) (hT.at 22 (by kernel_rfl) (pre_of hpre 22 (by kernel_rfl)))) fun K hK => ?_
      clear hT hpre hlit hoi
      go_simp
      exact hK _ _ ⟨ks, fun _ _ => rfl, rfl, pc0, pc1, ac0, ac1, bc0, bc1, HB, szw, fs, ss⟩
    · have hlit : (regOps Try.f55 1)[27]? = some ({ dst := some 34, op := Op.load 23 (Operand.tmp 3), type := 23, pos := "exact.go:86", after := #[{ on := 26, ground := Ground.guard }], guard := some (26, false) }) := by kernel_rfl
      obtain rfl := Option.some.inj (hlit.symm.trans hoi)
      have r3 : b.tmps.getD 3 undef = (.pointer (some ⟨kp, 0, none⟩)) := rd ((hT.old 3 (by kernel_rfl)).trans t3)
      refine op_go hoi (want_yes rfl (d := 33) (by kernel_rfl) (hT.at 26 (by kernel_rfl) (pre_of hpre 26 (by kernel_rfl)))) fun K hK => ?_
      clear hT hpre hlit hoi
      go_simp
      exact hK _ _ ⟨ks, fun _ _ => rfl, rfl, pc0, pc1, ac0, ac1, bc0, bc1, HB, szw, fs, ss⟩
    · have hlit : (regOps Try.f55 1)[28]? = some ({ dst := some 35, op := Op.load 23 (Operand.tmp 4), type := 23, pos := "exact.go:86", after := #[{ on := 26, ground := Ground.guard }], guard := some (26, false) }) := by kernel_rfl
      obtain rfl := Option.some.inj (hlit.symm.trans hoi)
      have r4 : b.tmps.getD 4 undef = (.pointer (some ⟨ka, 0, none⟩)) := rd ((hT.old 4 (by kernel_rfl)).trans t4)
      refine op_go hoi (want_yes rfl (d := 33) (by kernel_rfl) (hT.at 26 (by kernel_rfl) (pre_of hpre 26 (by kernel_rfl)))) fun K hK => ?_
      clear hT hpre hlit hoi
      go_simp
      exact hK _ _ ⟨ks, fun _ _ => rfl, rfl, pc0, pc1, ac0, ac1, bc0, bc1, HB, szw, fs, ss⟩
    · have hlit : (regOps Try.f55 1)[29]? = some ({ dst := some 36, op := Op.binOp BinOp.eql 23 (Operand.tmp 34) (Operand.tmp 35) 23, type := 4, pos := "exact.go:86", after := #[{ on := 27, ground := Ground.data }, { on := 28, ground := Ground.data }, { on := 26, ground := Ground.guard }], guard := some (26, false) }) := by kernel_rfl
      obtain rfl := Option.some.inj (hlit.symm.trans hoi)
      have r34 : b.tmps.getD 34 undef = (.agg #[.int .i64 p0, .int .i64 p1]) := rd (hT.at 27 (by kernel_rfl) (pre_of hpre 27 (by kernel_rfl)))
      have r35 : b.tmps.getD 35 undef = (.agg #[.int .i64 a0, .int .i64 a1]) := rd (hT.at 28 (by kernel_rfl) (pre_of hpre 28 (by kernel_rfl)))
      refine op_go hoi (want_yes rfl (d := 33) (by kernel_rfl) (hT.at 26 (by kernel_rfl) (pre_of hpre 26 (by kernel_rfl)))) fun K hK => ?_
      clear hT hpre hlit hoi
      go_simp
      exact hK _ _ ⟨ks, fun _ _ => rfl, rfl, pc0, pc1, ac0, ac1, bc0, bc1, HB, szw, fs, ss⟩
    · have hlit : (regOps Try.f55 1)[30]? = some ({ dst := some 37, op := Op.pick (Operand.tmp 33) (Operand.const (Value.bool true)) (Operand.tmp 36), type := 4, pos := "exact.go:86", after := #[{ on := 26, ground := Ground.data }, { on := 29, ground := Ground.data }, { on := 22, ground := Ground.guard }], guard := some (22, true) }) := by kernel_rfl
      obtain rfl := Option.some.inj (hlit.symm.trans hoi)
      have r33 : b.tmps.getD 33 undef = (.bool false) := rd (hT.at 26 (by kernel_rfl) (pre_of hpre 26 (by kernel_rfl)))
      have r36 : b.tmps.getD 36 undef = (.bool true) := rd (hT.at 29 (by kernel_rfl) (pre_of hpre 29 (by kernel_rfl)))
      refine op_go hoi (want_yes rfl (d := 29) (by kernel_rfl) (hT.at 22 (by kernel_rfl) (pre_of hpre 22 (by kernel_rfl)))) fun K hK => ?_
      clear hT hpre hlit hoi
      go_simp
      exact hK _ _ ⟨ks, fun _ _ => rfl, rfl, pc0, pc1, ac0, ac1, bc0, bc1, HB, szw, fs, ss⟩
    · have hlit : (regOps Try.f55 1)[31]? = some ({ dst := some 38, op := Op.pick (Operand.tmp 29) (Operand.tmp 37) (Operand.const (Value.bool false)), type := 4, pos := "exact.go:86", after := #[{ on := 22, ground := Ground.data }, { on := 30, ground := Ground.data }], guard := none }) := by kernel_rfl
      obtain rfl := Option.some.inj (hlit.symm.trans hoi)
      have r29 : b.tmps.getD 29 undef = (.bool true) := rd (hT.at 22 (by kernel_rfl) (pre_of hpre 22 (by kernel_rfl)))
      have r37 : b.tmps.getD 37 undef = (.bool true) := rd (hT.at 30 (by kernel_rfl) (pre_of hpre 30 (by kernel_rfl)))
      refine op_go hoi (want_all rfl) fun K hK => ?_
      clear hT hpre hlit hoi
      go_simp
      exact hK _ _ ⟨ks, fun _ _ => rfl, rfl, pc0, pc1, ac0, ac1, bc0, bc1, HB, szw, fs, ss⟩
    · have hlit : (regOps Try.f55 1)[32]? = some ({ dst := some 6, op := Op.assign (Operand.tmp 38), type := 4, pos := "exact.go:86", after := #[{ on := 31, ground := Ground.data }, { on := 26, ground := Ground.chain }, { on := 0, ground := Ground.phase }, { on := 1, ground := Ground.phase }, { on := 2, ground := Ground.phase }, { on := 3, ground := Ground.phase }, { on := 4, ground := Ground.phase }, { on := 5, ground := Ground.phase }, { on := 6, ground := Ground.phase }, { on := 7, ground := Ground.phase }, { on := 8, ground := Ground.phase }, { on := 9, ground := Ground.phase }, { on := 10, ground := Ground.phase }, { on := 11, ground := Ground.phase }, { on := 12, ground := Ground.phase }, { on := 13, ground := Ground.phase }, { on := 14, ground := Ground.phase }, { on := 15, ground := Ground.phase }, { on := 16, ground := Ground.phase }, { on := 17, ground := Ground.phase }, { on := 18, ground := Ground.phase }, { on := 19, ground := Ground.phase }, { on := 20, ground := Ground.phase }, { on := 21, ground := Ground.phase }, { on := 22, ground := Ground.phase }, { on := 23, ground := Ground.phase }, { on := 24, ground := Ground.phase }, { on := 25, ground := Ground.phase }, { on := 26, ground := Ground.phase }, { on := 27, ground := Ground.phase }, { on := 28, ground := Ground.phase }, { on := 29, ground := Ground.phase }, { on := 30, ground := Ground.phase }, { on := 31, ground := Ground.phase }], guard := none }) := by kernel_rfl
      obtain rfl := Option.some.inj (hlit.symm.trans hoi)
      have r38 : b.tmps.getD 38 undef = (.bool true) := rd (hT.at 31 (by kernel_rfl) (pre_of hpre 31 (by kernel_rfl)))
      refine op_go hoi (want_all rfl) fun K hK => ?_
      clear hT hpre hlit hoi
      go_simp
      exact hK _ _ ⟨ks, fun _ _ => rfl, rfl, pc0, pc1, ac0, ac1, bc0, bc1, HB, szw, fs, ss⟩
  · intro ks b w' hT hS
    rw [hT.all ht]
    have hn : (regOps Try.f55 1).size = 33 := by kernel_rfl
    rw [hn] at hS ⊢
    skip
    skip
    obtain ⟨pc0, pc1, ac0, ac1, bc0, bc1, HB, szw, fs, ss⟩ := hS
    obtain ⟨ges, fzs0, fzs1, fzs2, fzs3, fzs4, fzs5, us0, us1, us2, us3, us4, us5, ces0, ces1, ces2, ces3, ces4, ces5, uss⟩ := fs rfl
    obtain ⟨rfl, rfl, rfl, rfl, rfl, rfl⟩ := uss rfl
    exact he ks w' ⟨pc0, pc1, ac0, ac1, bc0, bc1, HB⟩ ⟨ces0, ces1, ces2, ces3, ces4, ces5, fzs0, fzs1, fzs2, fzs3, fzs4, fzs5, ges⟩

/-- What each operation of the region leaves. -/
def region55fV (p0 p1 a0 a1 b0 b1 : Int) (ks : Nat) : Nat → Value
  | 0 => .agg #[.int .i64 p0, .int .i64 p1]
  | 1 => .agg #[.int .i64 a0, .int .i64 a1]
  | 2 => .agg #[.int .i64 b0, .int .i64 b1]
  | 3 => .slice (some ⟨ks, 0, none⟩) 3 3
  | 4 => .bool true
  | 5 => .bool true
  | 6 => .agg #[.int .i64 a0, .int .i64 a1]
  | 7 => .agg #[.int .i64 b0, .int .i64 b1]
  | 8 => .agg #[.int .i64 p0, .int .i64 p1]
  | 9 => .int .i64 0
  | 10 => .bool true
  | 11 => .bool true
  | 12 => .bool true
  | 13 => .agg #[.int .i64 a0, .int .i64 a1]
  | 14 => .agg #[.int .i64 p0, .int .i64 p1]
  | 15 => .int .i64 (cmpP ⟨a0, a1⟩ ⟨p0, p1⟩)
  | 16 => .agg #[.int .i64 p0, .int .i64 p1]
  | 17 => .agg #[.int .i64 b0, .int .i64 b1]
  | 18 => .int .i64 (cmpP ⟨p0, p1⟩ ⟨b0, b1⟩)
  | 19 => .int .i64 (cmpP ⟨a0, a1⟩ ⟨p0, p1⟩ * cmpP ⟨p0, p1⟩ ⟨b0, b1⟩)
  | 20 => .bool true
  | 21 => .bool true
  | 22 => .bool true
  | 23 => .agg #[.int .i64 a0, .int .i64 a1]
  | 24 => .agg #[.int .i64 b0, .int .i64 b1]
  | 25 => .bool false
  | 26 => .bool false
  | 27 => .agg #[.int .i64 p0, .int .i64 p1]
  | 28 => .agg #[.int .i64 a0, .int .i64 a1]
  | 29 => .bool false
  | 30 => .bool false
  | 31 => .bool false
  | 32 => .bool false
  | _ => undef

set_option maxHeartbeats 4000000 in
set_option maxRecDepth 100000 in
theorem region55f (p0 p1 a0 a1 b0 b1 : Int) (kp ka kb : Nat) (W : World) (m1 : (val ⟨p0, p1⟩ && val ⟨a0, a1⟩ && val ⟨b0, b1⟩) = true) (m2 : ori ⟨a0, a1⟩ ⟨b0, b1⟩ ⟨p0, p1⟩ = 0) (m3 : decide (0 ≤ cmpP ⟨a0, a1⟩ ⟨p0, p1⟩ * cmpP ⟨p0, p1⟩ ⟨b0, b1⟩) = true) (m4 : (a0 == b0 && a1 == b1) = true) (m5 : (p0 == a0 && p1 == a1) = false) (eqm : IntKind.i64.wrap (cmpP ⟨a0, a1⟩ ⟨p0, p1⟩ * cmpP ⟨p0, p1⟩ ⟨b0, b1⟩) = cmpP ⟨a0, a1⟩ ⟨p0, p1⟩ * cmpP ⟨p0, p1⟩ ⟨b0, b1⟩) {id : Nat} {ops : Array Oper} {Q : Exit → Act → World → Prop} {a : Act} {w : World}
    (ho : ops = (regOps Try.f55 1)) (hsz : a.tmps.size = 39) (t3 : a.tmps[3]? = some (.pointer (some ⟨kp, 0, none⟩))) (t4 : a.tmps[4]? = some (.pointer (some ⟨ka, 0, none⟩))) (t5 : a.tmps[5]? = some (.pointer (some ⟨kb, 0, none⟩)))
    (h0 : w.cell? ⟨kp, 0, none⟩ = some (.int .i64 p0) ∧ w.cell? ⟨kp, 1, none⟩ = some (.int .i64 p1) ∧ w.cell? ⟨ka, 0, none⟩ = some (.int .i64 a0) ∧ w.cell? ⟨ka, 1, none⟩ = some (.int .i64 a1) ∧ w.cell? ⟨kb, 0, none⟩ = some (.int .i64 b0) ∧ w.cell? ⟨kb, 1, none⟩ = some (.int .i64 b1) ∧ Below W.heap.size W w)
    (he : ∀ ks w', w'.cell? ⟨kp, 0, none⟩ = some (.int .i64 p0) ∧ w'.cell? ⟨kp, 1, none⟩ = some (.int .i64 p1) ∧ w'.cell? ⟨ka, 0, none⟩ = some (.int .i64 a0) ∧ w'.cell? ⟨ka, 1, none⟩ = some (.int .i64 a1) ∧ w'.cell? ⟨kb, 0, none⟩ = some (.int .i64 b0) ∧ w'.cell? ⟨kb, 1, none⟩ = some (.int .i64 b1) ∧ Below W.heap.size W w' → w'.cell? ⟨ks, 0, none⟩ = some (.int .i64 p0) ∧ w'.cell? ⟨ks, 1, none⟩ = some (.int .i64 p1) ∧ w'.cell? ⟨ks, 2, none⟩ = some (.int .i64 a0) ∧ w'.cell? ⟨ks, 3, none⟩ = some (.int .i64 a1) ∧ w'.cell? ⟨ks, 4, none⟩ = some (.int .i64 b0) ∧ w'.cell? ⟨ks, 5, none⟩ = some (.int .i64 b1) ∧ w'.frozen? ⟨ks, 0, none⟩ = false ∧ w'.frozen? ⟨ks, 1, none⟩ = false ∧ w'.frozen? ⟨ks, 2, none⟩ = false ∧ w'.frozen? ⟨ks, 3, none⟩ = false ∧ w'.frozen? ⟨ks, 4, none⟩ = false ∧ w'.frozen? ⟨ks, 5, none⟩ = false ∧ w.heap.size ≤ ks → Q .normal ⟨(((((((((((((((((((((((((((((((((a.tmps.setIfInBounds 7 (.agg #[.int .i64 p0, .int .i64 p1])).setIfInBounds 8 (.agg #[.int .i64 a0, .int .i64 a1])).setIfInBounds 9 (.agg #[.int .i64 b0, .int .i64 b1])).setIfInBounds 10 (.slice (some ⟨ks, 0, none⟩) 3 3)).setIfInBounds 11 (.bool true)).setIfInBounds 12 (.bool true)).setIfInBounds 13 (.agg #[.int .i64 a0, .int .i64 a1])).setIfInBounds 14 (.agg #[.int .i64 b0, .int .i64 b1])).setIfInBounds 15 (.agg #[.int .i64 p0, .int .i64 p1])).setIfInBounds 16 (.int .i64 0)).setIfInBounds 17 (.bool true)).setIfInBounds 18 (.bool true)).setIfInBounds 19 (.bool true)).setIfInBounds 20 (.agg #[.int .i64 a0, .int .i64 a1])).setIfInBounds 21 (.agg #[.int .i64 p0, .int .i64 p1])).setIfInBounds 22 (.int .i64 (cmpP ⟨a0, a1⟩ ⟨p0, p1⟩))).setIfInBounds 23 (.agg #[.int .i64 p0, .int .i64 p1])).setIfInBounds 24 (.agg #[.int .i64 b0, .int .i64 b1])).setIfInBounds 25 (.int .i64 (cmpP ⟨p0, p1⟩ ⟨b0, b1⟩))).setIfInBounds 26 (.int .i64 (cmpP ⟨a0, a1⟩ ⟨p0, p1⟩ * cmpP ⟨p0, p1⟩ ⟨b0, b1⟩))).setIfInBounds 27 (.bool true)).setIfInBounds 28 (.bool true)).setIfInBounds 29 (.bool true)).setIfInBounds 30 (.agg #[.int .i64 a0, .int .i64 a1])).setIfInBounds 31 (.agg #[.int .i64 b0, .int .i64 b1])).setIfInBounds 32 (.bool false)).setIfInBounds 33 (.bool false)).setIfInBounds 34 (.agg #[.int .i64 p0, .int .i64 p1])).setIfInBounds 35 (.agg #[.int .i64 a0, .int .i64 a1])).setIfInBounds 36 (.bool false)).setIfInBounds 37 (.bool false)).setIfInBounds 38 (.bool false)).setIfInBounds 6 (.bool false)), a.defers⟩ w') :
    (Code.region id ops true).wp Try.prog Q a w := by
  have ht : tidy (regOps Try.f55 1) a.tmps.size = true := by rw [hsz]; kernel_rfl
  obtain ⟨pc0, pc1, ac0, ac1, bc0, bc1, HB0⟩ := h0
  have lt_kp := World.block_lt_of_cell? w _ pc0
  have lt_ka := World.block_lt_of_cell? w _ ac0
  have lt_kb := World.block_lt_of_cell? w _ bc0
  have sz0 := HB0.size
  refine region_tab (G := Nat) (fun g => (region55fV p0 p1 a0 a1 b0 b1  g)) (fun g L w' => w'.cell? ⟨kp, 0, none⟩ = some (.int .i64 p0) ∧ w'.cell? ⟨kp, 1, none⟩ = some (.int .i64 p1) ∧ w'.cell? ⟨ka, 0, none⟩ = some (.int .i64 a0) ∧ w'.cell? ⟨ka, 1, none⟩ = some (.int .i64 a1) ∧ w'.cell? ⟨kb, 0, none⟩ = some (.int .i64 b0) ∧ w'.cell? ⟨kb, 1, none⟩ = some (.int .i64 b1) ∧ Below W.heap.size W w' ∧ w.heap.size ≤ w'.heap.size ∧ (L 3 = true → w.heap.size ≤ g ∧ w'.frozen? ⟨g, 0, none⟩ = false ∧ w'.frozen? ⟨g, 1, none⟩ = false ∧ w'.frozen? ⟨g, 2, none⟩ = false ∧ w'.frozen? ⟨g, 3, none⟩ = false ∧ w'.frozen? ⟨g, 4, none⟩ = false ∧ w'.frozen? ⟨g, 5, none⟩ = false ∧ ∃ u0 u1 u2 u3 u4 u5 : Int, w'.cell? ⟨g, 0, none⟩ = some (.int .i64 u0) ∧ w'.cell? ⟨g, 1, none⟩ = some (.int .i64 u1) ∧ w'.cell? ⟨g, 2, none⟩ = some (.int .i64 u2) ∧ w'.cell? ⟨g, 3, none⟩ = some (.int .i64 u3) ∧ w'.cell? ⟨g, 4, none⟩ = some (.int .i64 u4) ∧ w'.cell? ⟨g, 5, none⟩ = some (.int .i64 u5) ∧ (L 3 = true → u0 = p0 ∧ u1 = p1 ∧ u2 = a0 ∧ u3 = a1 ∧ u4 = b0 ∧ u5 = b1)) ∧ (L 3 = true → L 3 = true)) 0 (by kernel_rfl) ho ht ⟨pc0, pc1, ac0, ac1, bc0, bc1, bd HB0, Nat.le_refl _, fun h => (by cases h), fun h => (by cases h)⟩ ?_ ?_
  · intro i o hoi ks L b w' hun hpre hT hS
    clear he pc0 pc1 ac0 ac1 bc0 bc1 ho hsz ht HB0
    have hi : i < (regOps Try.f55 1).size := (Array.getElem?_eq_some_iff.1 hoi).1
    rw [show (regOps Try.f55 1).size = 33 by kernel_rfl] at hi
    skip
    skip
    obtain ⟨pc0, pc1, ac0, ac1, bc0, bc1, HB, szw, fs, ss⟩ := hS
    have hcases : i = 0 ∨ i = 1 ∨ i = 2 ∨ i = 3 ∨ i = 4 ∨ i = 5 ∨ i = 6 ∨ i = 7 ∨ i = 8 ∨ i = 9 ∨ i = 10 ∨ i = 11 ∨ i = 12 ∨ i = 13 ∨ i = 14 ∨ i = 15 ∨ i = 16 ∨ i = 17 ∨ i = 18 ∨ i = 19 ∨ i = 20 ∨ i = 21 ∨ i = 22 ∨ i = 23 ∨ i = 24 ∨ i = 25 ∨ i = 26 ∨ i = 27 ∨ i = 28 ∨ i = 29 ∨ i = 30 ∨ i = 31 ∨ i = 32 := by omega
    rcases hcases with rfl | rfl | rfl | rfl | rfl | rfl | rfl | rfl | rfl | rfl | rfl | rfl | rfl | rfl | rfl | rfl | rfl | rfl | rfl | rfl | rfl | rfl | rfl | rfl | rfl | rfl | rfl | rfl | rfl | rfl | rfl | rfl | rfl
    · have hlit : (regOps Try.f55 1)[0]? = some ({ dst := some 7, op := Op.load 23 (Operand.tmp 3), type := 23, pos := "exact.go:86", after := #[], guard := none }) := by kernel_rfl
      obtain rfl := Option.some.inj (hlit.symm.trans hoi)
      have r3 : b.tmps.getD 3 undef = (.pointer (some ⟨kp, 0, none⟩)) := rd ((hT.old 3 (by kernel_rfl)).trans t3)
      refine op_go hoi (want_all rfl) fun K hK => ?_
      clear hT hpre hlit hoi
      go_simp
      exact hK _ _ ⟨ks, fun _ _ => rfl, rfl, pc0, pc1, ac0, ac1, bc0, bc1, HB, szw, fs, ss⟩
    · have hlit : (regOps Try.f55 1)[1]? = some ({ dst := some 8, op := Op.load 23 (Operand.tmp 4), type := 23, pos := "exact.go:86", after := #[], guard := none }) := by kernel_rfl
      obtain rfl := Option.some.inj (hlit.symm.trans hoi)
      have r4 : b.tmps.getD 4 undef = (.pointer (some ⟨ka, 0, none⟩)) := rd ((hT.old 4 (by kernel_rfl)).trans t4)
      refine op_go hoi (want_all rfl) fun K hK => ?_
      clear hT hpre hlit hoi
      go_simp
      exact hK _ _ ⟨ks, fun _ _ => rfl, rfl, pc0, pc1, ac0, ac1, bc0, bc1, HB, szw, fs, ss⟩
    · have hlit : (regOps Try.f55 1)[2]? = some ({ dst := some 9, op := Op.load 23 (Operand.tmp 5), type := 23, pos := "exact.go:86", after := #[], guard := none }) := by kernel_rfl
      obtain rfl := Option.some.inj (hlit.symm.trans hoi)
      have r5 : b.tmps.getD 5 undef = (.pointer (some ⟨kb, 0, none⟩)) := rd ((hT.old 5 (by kernel_rfl)).trans t5)
      refine op_go hoi (want_all rfl) fun K hK => ?_
      clear hT hpre hlit hoi
      go_simp
      exact hK _ _ ⟨ks, fun _ _ => rfl, rfl, pc0, pc1, ac0, ac1, bc0, bc1, HB, szw, fs, ss⟩
    · have hlit : (regOps Try.f55 1)[3]? = some ({ dst := some 10, op := Op.buildSlice 41 3 #[(0, Operand.tmp 7), (1, Operand.tmp 8), (2, Operand.tmp 9)], type := 41, pos := "exact.go:86", after := #[{ on := 0, ground := Ground.data }, { on := 1, ground := Ground.data }, { on := 2, ground := Ground.data }], guard := none }) := by kernel_rfl
      obtain rfl := Option.some.inj (hlit.symm.trans hoi)
      have r7 : b.tmps.getD 7 undef = (.agg #[.int .i64 p0, .int .i64 p1]) := rd (hT.at 0 (by kernel_rfl) (pre_of hpre 0 (by kernel_rfl)))
      have q7 : b.tmps[7]?.getD undef = (.agg #[.int .i64 p0, .int .i64 p1]) := (Array.getD_eq_getD_getElem? ..).symm.trans r7
      have r8 : b.tmps.getD 8 undef = (.agg #[.int .i64 a0, .int .i64 a1]) := rd (hT.at 1 (by kernel_rfl) (pre_of hpre 1 (by kernel_rfl)))
      have q8 : b.tmps[8]?.getD undef = (.agg #[.int .i64 a0, .int .i64 a1]) := (Array.getD_eq_getD_getElem? ..).symm.trans r8
      have r9 : b.tmps.getD 9 undef = (.agg #[.int .i64 b0, .int .i64 b1]) := rd (hT.at 2 (by kernel_rfl) (pre_of hpre 2 (by kernel_rfl)))
      have q9 : b.tmps[9]?.getD undef = (.agg #[.int .i64 b0, .int .i64 b1]) := (Array.getD_eq_getD_getElem? ..).symm.trans r9
      refine op_go hoi (want_all rfl) fun K hK => ?_
      clear hT hpre hlit hoi
      go_simp
      have lw_pc0 := World.block_lt_of_cell? w' _ pc0
      have lw_pc1 := World.block_lt_of_cell? w' _ pc1
      have lw_ac0 := World.block_lt_of_cell? w' _ ac0
      have lw_ac1 := World.block_lt_of_cell? w' _ ac1
      have lw_bc0 := World.block_lt_of_cell? w' _ bc0
      have lw_bc1 := World.block_lt_of_cell? w' _ bc1
      refine hK _ _ ⟨w'.heap.size, fun j hj => ?_, rfl, by go_simp, by go_simp, by go_simp, by go_simp, by go_simp, by go_simp, ba HB _, by simp; omega, fun _ => ⟨szw, by go_simp, by go_simp, by go_simp, by go_simp, by go_simp, by go_simp, p0, p1, a0, a1, b0, b1, by go_simp, by go_simp, by go_simp, by go_simp, by go_simp, by go_simp, fun _ => ⟨rfl, rfl, rfl, rfl, rfl, rfl⟩⟩, fun _ => rfl⟩
      by_cases e : j = 3
      · subst e; rw [hun] at hj; cases hj
      · unfold region55fV; split <;> first | rfl | (exact absurd rfl e)
    · have hlit : (regOps Try.f55 1)[4]? = some ({ dst := some 11, op := Op.call { callee := Callee.value (Operand.func 69), args := #[Operand.tmp 10], argTypes := #[41] }, type := 4, pos := "exact.go:86", after := #[{ on := 3, ground := Ground.data }], guard := none }) := by kernel_rfl
      obtain rfl := Option.some.inj (hlit.symm.trans hoi)
      have r10 : b.tmps.getD 10 undef = (.slice (some ⟨ks, 0, none⟩) 3 3) := rd (hT.at 3 (by kernel_rfl) (pre_of hpre 3 (by kernel_rfl)))
      have pr : L 3 = true := pre_of hpre 3 (by kernel_rfl)
      obtain ⟨ge, fz0, fz1, fz2, fz3, fz4, fz5, u0, u1, u2, u3, u4, u5, ce0, ce1, ce2, ce3, ce4, ce5, us⟩ := fs pr
      obtain ⟨us0, us1, us2, us3, us4, us5⟩ := us pr
      rw [us0] at ce0
      rw [us1] at ce1
      rw [us2] at ce2
      rw [us3] at ce3
      rw [us4] at ce4
      rw [us5] at ce5
      refine op_go hoi (want_all rfl) fun K hK => ?_
      clear hT hpre hlit hoi
      go_simp
      go_at_call 69
      refine (all3 _ _ _ _ _ _ _ _ _ ce0 ce1 ce2 ce3 ce4 ce5).mono ?_; rw [m1]; rintro e w2 ⟨rfl, hb⟩; replace pc0 := ck hb pc0; replace pc1 := ck hb pc1; replace ac0 := ck hb ac0; replace ac1 := ck hb ac1; replace bc0 := ck hb bc0; replace bc1 := ck hb bc1; replace szw : w.heap.size ≤ w2.heap.size := Nat.le_trans szw hb.size; replace fs : L 3 = true → w.heap.size ≤ ks ∧ w2.frozen? ⟨ks, 0, none⟩ = false ∧ w2.frozen? ⟨ks, 1, none⟩ = false ∧ w2.frozen? ⟨ks, 2, none⟩ = false ∧ w2.frozen? ⟨ks, 3, none⟩ = false ∧ w2.frozen? ⟨ks, 4, none⟩ = false ∧ w2.frozen? ⟨ks, 5, none⟩ = false ∧ ∃ u0 u1 u2 u3 u4 u5 : Int, w2.cell? ⟨ks, 0, none⟩ = some (Value.int .i64 u0) ∧ w2.cell? ⟨ks, 1, none⟩ = some (Value.int .i64 u1) ∧ w2.cell? ⟨ks, 2, none⟩ = some (Value.int .i64 u2) ∧ w2.cell? ⟨ks, 3, none⟩ = some (Value.int .i64 u3) ∧ w2.cell? ⟨ks, 4, none⟩ = some (Value.int .i64 u4) ∧ w2.cell? ⟨ks, 5, none⟩ = some (Value.int .i64 u5) ∧ (L 3 = true → u0 = p0 ∧ u1 = p1 ∧ u2 = a0 ∧ u3 = a1 ∧ u4 = b0 ∧ u5 = b1) := fun h => (by obtain ⟨ge, fz0, fz1, fz2, fz3, fz4, fz5, u0, u1, u2, u3, u4, u5, ce0, ce1, ce2, ce3, ce4, ce5, us⟩ := fs h; exact ⟨ge, cf hb (World.block_lt_of_cell? _ _ ce0) fz0, cf hb (World.block_lt_of_cell? _ _ ce1) fz1, cf hb (World.block_lt_of_cell? _ _ ce2) fz2, cf hb (World.block_lt_of_cell? _ _ ce3) fz3, cf hb (World.block_lt_of_cell? _ _ ce4) fz4, cf hb (World.block_lt_of_cell? _ _ ce5) fz5, u0, u1, u2, u3, u4, u5, ck hb ce0, ck hb ce1, ck hb ce2, ck hb ce3, ck hb ce4, ck hb ce5, us⟩); replace HB : Below W.heap.size W w2 := bt HB hb; clear hb
      exact hK _ _ ⟨ks, fun _ _ => rfl, rfl, pc0, pc1, ac0, ac1, bc0, bc1, HB, szw, fs, ss⟩
    · have hlit : (regOps Try.f55 1)[5]? = some ({ dst := some 12, op := Op.move (Operand.tmp 11), type := 4, pos := "exact.go:86", after := #[{ on := 4, ground := Ground.data }, { on := 4, ground := Ground.chain }], guard := none }) := by kernel_rfl
      obtain rfl := Option.some.inj (hlit.symm.trans hoi)
      have r11 : b.tmps.getD 11 undef = (.bool true) := rd (hT.at 4 (by kernel_rfl) (pre_of hpre 4 (by kernel_rfl)))
      refine op_go hoi (want_all rfl) fun K hK => ?_
      clear hT hpre hlit hoi
      go_simp
      exact hK _ _ ⟨ks, fun _ _ => rfl, rfl, pc0, pc1, ac0, ac1, bc0, bc1, HB, szw, fs, ss⟩
    · have hlit : (regOps Try.f55 1)[6]? = some ({ dst := some 13, op := Op.load 23 (Operand.tmp 4), type := 23, pos := "exact.go:86", after := #[{ on := 5, ground := Ground.guard }], guard := some (5, true) }) := by kernel_rfl
      obtain rfl := Option.some.inj (hlit.symm.trans hoi)
      have r4 : b.tmps.getD 4 undef = (.pointer (some ⟨ka, 0, none⟩)) := rd ((hT.old 4 (by kernel_rfl)).trans t4)
      refine op_go hoi (want_yes rfl (d := 12) (by kernel_rfl) (hT.at 5 (by kernel_rfl) (pre_of hpre 5 (by kernel_rfl)))) fun K hK => ?_
      clear hT hpre hlit hoi
      go_simp
      exact hK _ _ ⟨ks, fun _ _ => rfl, rfl, pc0, pc1, ac0, ac1, bc0, bc1, HB, szw, fs, ss⟩
    · have hlit : (regOps Try.f55 1)[7]? = some ({ dst := some 14, op := Op.load 23 (Operand.tmp 5), type := 23, pos := "exact.go:86", after := #[{ on := 5, ground := Ground.guard }], guard := some (5, true) }) := by kernel_rfl
      obtain rfl := Option.some.inj (hlit.symm.trans hoi)
      have r5 : b.tmps.getD 5 undef = (.pointer (some ⟨kb, 0, none⟩)) := rd ((hT.old 5 (by kernel_rfl)).trans t5)
      refine op_go hoi (want_yes rfl (d := 12) (by kernel_rfl) (hT.at 5 (by kernel_rfl) (pre_of hpre 5 (by kernel_rfl)))) fun K hK => ?_
      clear hT hpre hlit hoi
      go_simp
      exact hK _ _ ⟨ks, fun _ _ => rfl, rfl, pc0, pc1, ac0, ac1, bc0, bc1, HB, szw, fs, ss⟩
    · have hlit : (regOps Try.f55 1)[8]? = some ({ dst := some 15, op := Op.load 23 (Operand.tmp 3), type := 23, pos := "exact.go:86", after := #[{ on := 5, ground := Ground.guard }], guard := some (5, true) }) := by kernel_rfl
      obtain rfl := Option.some.inj (hlit.symm.trans hoi)
      have r3 : b.tmps.getD 3 undef = (.pointer (some ⟨kp, 0, none⟩)) := rd ((hT.old 3 (by kernel_rfl)).trans t3)
      refine op_go hoi (want_yes rfl (d := 12) (by kernel_rfl) (hT.at 5 (by kernel_rfl) (pre_of hpre 5 (by kernel_rfl)))) fun K hK => ?_
      clear hT hpre hlit hoi
      go_simp
      exact hK _ _ ⟨ks, fun _ _ => rfl, rfl, pc0, pc1, ac0, ac1, bc0, bc1, HB, szw, fs, ss⟩
    · have hlit : (regOps Try.f55 1)[9]? = some ({ dst := some 16, op := Op.call { callee := Callee.value (Operand.func 52), args := #[Operand.tmp 13, Operand.tmp 14, Operand.tmp 15], argTypes := #[23, 23, 23] }, type := 3, pos := "exact.go:86", after := #[{ on := 6, ground := Ground.data }, { on := 7, ground := Ground.data }, { on := 8, ground := Ground.data }, { on := 5, ground := Ground.chain }, { on := 5, ground := Ground.guard }], guard := some (5, true) }) := by kernel_rfl
      obtain rfl := Option.some.inj (hlit.symm.trans hoi)
      have r13 : b.tmps.getD 13 undef = (.agg #[.int .i64 a0, .int .i64 a1]) := rd (hT.at 6 (by kernel_rfl) (pre_of hpre 6 (by kernel_rfl)))
      have r14 : b.tmps.getD 14 undef = (.agg #[.int .i64 b0, .int .i64 b1]) := rd (hT.at 7 (by kernel_rfl) (pre_of hpre 7 (by kernel_rfl)))
      have r15 : b.tmps.getD 15 undef = (.agg #[.int .i64 p0, .int .i64 p1]) := rd (hT.at 8 (by kernel_rfl) (pre_of hpre 8 (by kernel_rfl)))
      refine op_go hoi (want_yes rfl (d := 12) (by kernel_rfl) (hT.at 5 (by kernel_rfl) (pre_of hpre 5 (by kernel_rfl)))) fun K hK => ?_
      clear hT hpre hlit hoi
      go_simp
      go_at_call 52
      refine (ori52 _ _ _ _ _ _ _).mono ?_; rw [m2]; rintro e w2 ⟨rfl, hb⟩; replace pc0 := ck hb pc0; replace pc1 := ck hb pc1; replace ac0 := ck hb ac0; replace ac1 := ck hb ac1; replace bc0 := ck hb bc0; replace bc1 := ck hb bc1; replace szw : w.heap.size ≤ w2.heap.size := Nat.le_trans szw hb.size; replace fs : L 3 = true → w.heap.size ≤ ks ∧ w2.frozen? ⟨ks, 0, none⟩ = false ∧ w2.frozen? ⟨ks, 1, none⟩ = false ∧ w2.frozen? ⟨ks, 2, none⟩ = false ∧ w2.frozen? ⟨ks, 3, none⟩ = false ∧ w2.frozen? ⟨ks, 4, none⟩ = false ∧ w2.frozen? ⟨ks, 5, none⟩ = false ∧ ∃ u0 u1 u2 u3 u4 u5 : Int, w2.cell? ⟨ks, 0, none⟩ = some (Value.int .i64 u0) ∧ w2.cell? ⟨ks, 1, none⟩ = some (Value.int .i64 u1) ∧ w2.cell? ⟨ks, 2, none⟩ = some (Value.int .i64 u2) ∧ w2.cell? ⟨ks, 3, none⟩ = some (Value.int .i64 u3) ∧ w2.cell? ⟨ks, 4, none⟩ = some (Value.int .i64 u4) ∧ w2.cell? ⟨ks, 5, none⟩ = some (Value.int .i64 u5) ∧ (L 3 = true → u0 = p0 ∧ u1 = p1 ∧ u2 = a0 ∧ u3 = a1 ∧ u4 = b0 ∧ u5 = b1) := fun h => (by obtain ⟨ge, fz0, fz1, fz2, fz3, fz4, fz5, u0, u1, u2, u3, u4, u5, ce0, ce1, ce2, ce3, ce4, ce5, us⟩ := fs h; exact ⟨ge, cf hb (World.block_lt_of_cell? _ _ ce0) fz0, cf hb (World.block_lt_of_cell? _ _ ce1) fz1, cf hb (World.block_lt_of_cell? _ _ ce2) fz2, cf hb (World.block_lt_of_cell? _ _ ce3) fz3, cf hb (World.block_lt_of_cell? _ _ ce4) fz4, cf hb (World.block_lt_of_cell? _ _ ce5) fz5, u0, u1, u2, u3, u4, u5, ck hb ce0, ck hb ce1, ck hb ce2, ck hb ce3, ck hb ce4, ck hb ce5, us⟩); replace HB : Below W.heap.size W w2 := bt HB hb; clear hb
      exact hK _ _ ⟨ks, fun _ _ => rfl, rfl, pc0, pc1, ac0, ac1, bc0, bc1, HB, szw, fs, ss⟩
    · have hlit : (regOps Try.f55 1)[10]? = some ({ dst := some 17, op := Op.binOp BinOp.eql 3 (Operand.tmp 16) (Operand.const (Value.int IntKind.i64 0)) 3, type := 4, pos := "exact.go:86", after := #[{ on := 9, ground := Ground.data }, { on := 5, ground := Ground.guard }], guard := some (5, true) }) := by kernel_rfl
      obtain rfl := Option.some.inj (hlit.symm.trans hoi)
      have r16 : b.tmps.getD 16 undef = (.int .i64 0) := rd (hT.at 9 (by kernel_rfl) (pre_of hpre 9 (by kernel_rfl)))
      refine op_go hoi (want_yes rfl (d := 12) (by kernel_rfl) (hT.at 5 (by kernel_rfl) (pre_of hpre 5 (by kernel_rfl)))) fun K hK => ?_
      clear hT hpre hlit hoi
      go_simp
      exact hK _ _ ⟨ks, fun _ _ => rfl, rfl, pc0, pc1, ac0, ac1, bc0, bc1, HB, szw, fs, ss⟩
    · have hlit : (regOps Try.f55 1)[11]? = some ({ dst := some 18, op := Op.pick (Operand.tmp 12) (Operand.tmp 17) (Operand.const (Value.bool false)), type := 4, pos := "exact.go:86", after := #[{ on := 5, ground := Ground.data }, { on := 10, ground := Ground.data }], guard := none }) := by kernel_rfl
      obtain rfl := Option.some.inj (hlit.symm.trans hoi)
      have r12 : b.tmps.getD 12 undef = (.bool true) := rd (hT.at 5 (by kernel_rfl) (pre_of hpre 5 (by kernel_rfl)))
      have r17 : b.tmps.getD 17 undef = (.bool true) := rd (hT.at 10 (by kernel_rfl) (pre_of hpre 10 (by kernel_rfl)))
      refine op_go hoi (want_all rfl) fun K hK => ?_
      clear hT hpre hlit hoi
      go_simp
      exact hK _ _ ⟨ks, fun _ _ => rfl, rfl, pc0, pc1, ac0, ac1, bc0, bc1, HB, szw, fs, ss⟩
    · have hlit : (regOps Try.f55 1)[12]? = some ({ dst := some 19, op := Op.move (Operand.tmp 18), type := 4, pos := "exact.go:86", after := #[{ on := 11, ground := Ground.data }, { on := 9, ground := Ground.chain }], guard := none }) := by kernel_rfl
      obtain rfl := Option.some.inj (hlit.symm.trans hoi)
      have r18 : b.tmps.getD 18 undef = (.bool true) := rd (hT.at 11 (by kernel_rfl) (pre_of hpre 11 (by kernel_rfl)))
      refine op_go hoi (want_all rfl) fun K hK => ?_
      clear hT hpre hlit hoi
      go_simp
      exact hK _ _ ⟨ks, fun _ _ => rfl, rfl, pc0, pc1, ac0, ac1, bc0, bc1, HB, szw, fs, ss⟩
    · have hlit : (regOps Try.f55 1)[13]? = some ({ dst := some 20, op := Op.load 23 (Operand.tmp 4), type := 23, pos := "exact.go:86", after := #[{ on := 12, ground := Ground.guard }], guard := some (12, true) }) := by kernel_rfl
      obtain rfl := Option.some.inj (hlit.symm.trans hoi)
      have r4 : b.tmps.getD 4 undef = (.pointer (some ⟨ka, 0, none⟩)) := rd ((hT.old 4 (by kernel_rfl)).trans t4)
      refine op_go hoi (want_yes rfl (d := 19) (by kernel_rfl) (hT.at 12 (by kernel_rfl) (pre_of hpre 12 (by kernel_rfl)))) fun K hK => ?_
      clear hT hpre hlit hoi
      go_simp
      exact hK _ _ ⟨ks, fun _ _ => rfl, rfl, pc0, pc1, ac0, ac1, bc0, bc1, HB, szw, fs, ss⟩
    · have hlit : (regOps Try.f55 1)[14]? = some ({ dst := some 21, op := Op.load 23 (Operand.tmp 3), type := 23, pos := "exact.go:86", after := #[{ on := 12, ground := Ground.guard }], guard := some (12, true) }) := by kernel_rfl
      obtain rfl := Option.some.inj (hlit.symm.trans hoi)
      have r3 : b.tmps.getD 3 undef = (.pointer (some ⟨kp, 0, none⟩)) := rd ((hT.old 3 (by kernel_rfl)).trans t3)
      refine op_go hoi (want_yes rfl (d := 19) (by kernel_rfl) (hT.at 12 (by kernel_rfl) (pre_of hpre 12 (by kernel_rfl)))) fun K hK => ?_
      clear hT hpre hlit hoi
      go_simp
      exact hK _ _ ⟨ks, fun _ _ => rfl, rfl, pc0, pc1, ac0, ac1, bc0, bc1, HB, szw, fs, ss⟩
    · have hlit : (regOps Try.f55 1)[15]? = some ({ dst := some 22, op := Op.call { callee := Callee.value (Operand.func 50), args := #[Operand.tmp 20, Operand.tmp 21], argTypes := #[23, 23] }, type := 3, pos := "exact.go:86", after := #[{ on := 13, ground := Ground.data }, { on := 14, ground := Ground.data }, { on := 12, ground := Ground.chain }, { on := 12, ground := Ground.guard }], guard := some (12, true) }) := by kernel_rfl
      obtain rfl := Option.some.inj (hlit.symm.trans hoi)
      have r20 : b.tmps.getD 20 undef = (.agg #[.int .i64 a0, .int .i64 a1]) := rd (hT.at 13 (by kernel_rfl) (pre_of hpre 13 (by kernel_rfl)))
      have r21 : b.tmps.getD 21 undef = (.agg #[.int .i64 p0, .int .i64 p1]) := rd (hT.at 14 (by kernel_rfl) (pre_of hpre 14 (by kernel_rfl)))
      refine op_go hoi (want_yes rfl (d := 19) (by kernel_rfl) (hT.at 12 (by kernel_rfl) (pre_of hpre 12 (by kernel_rfl)))) fun K hK => ?_
      clear hT hpre hlit hoi
      go_simp
      go_at_call 50
      refine (cmp50 _ _ _ _ _).mono ?_; rintro e w2 ⟨rfl, hb⟩; replace pc0 := ck hb pc0; replace pc1 := ck hb pc1; replace ac0 := ck hb ac0; replace ac1 := ck hb ac1; replace bc0 := ck hb bc0; replace bc1 := ck hb bc1; replace szw : w.heap.size ≤ w2.heap.size := Nat.le_trans szw hb.size; replace fs : L 3 = true → w.heap.size ≤ ks ∧ w2.frozen? ⟨ks, 0, none⟩ = false ∧ w2.frozen? ⟨ks, 1, none⟩ = false ∧ w2.frozen? ⟨ks, 2, none⟩ = false ∧ w2.frozen? ⟨ks, 3, none⟩ = false ∧ w2.frozen? ⟨ks, 4, none⟩ = false ∧ w2.frozen? ⟨ks, 5, none⟩ = false ∧ ∃ u0 u1 u2 u3 u4 u5 : Int, w2.cell? ⟨ks, 0, none⟩ = some (Value.int .i64 u0) ∧ w2.cell? ⟨ks, 1, none⟩ = some (Value.int .i64 u1) ∧ w2.cell? ⟨ks, 2, none⟩ = some (Value.int .i64 u2) ∧ w2.cell? ⟨ks, 3, none⟩ = some (Value.int .i64 u3) ∧ w2.cell? ⟨ks, 4, none⟩ = some (Value.int .i64 u4) ∧ w2.cell? ⟨ks, 5, none⟩ = some (Value.int .i64 u5) ∧ (L 3 = true → u0 = p0 ∧ u1 = p1 ∧ u2 = a0 ∧ u3 = a1 ∧ u4 = b0 ∧ u5 = b1) := fun h => (by obtain ⟨ge, fz0, fz1, fz2, fz3, fz4, fz5, u0, u1, u2, u3, u4, u5, ce0, ce1, ce2, ce3, ce4, ce5, us⟩ := fs h; exact ⟨ge, cf hb (World.block_lt_of_cell? _ _ ce0) fz0, cf hb (World.block_lt_of_cell? _ _ ce1) fz1, cf hb (World.block_lt_of_cell? _ _ ce2) fz2, cf hb (World.block_lt_of_cell? _ _ ce3) fz3, cf hb (World.block_lt_of_cell? _ _ ce4) fz4, cf hb (World.block_lt_of_cell? _ _ ce5) fz5, u0, u1, u2, u3, u4, u5, ck hb ce0, ck hb ce1, ck hb ce2, ck hb ce3, ck hb ce4, ck hb ce5, us⟩); replace HB : Below W.heap.size W w2 := bt HB hb; clear hb
      exact hK _ _ ⟨ks, fun _ _ => rfl, rfl, pc0, pc1, ac0, ac1, bc0, bc1, HB, szw, fs, ss⟩
    · have hlit : (regOps Try.f55 1)[16]? = some ({ dst := some 23, op := Op.load 23 (Operand.tmp 3), type := 23, pos := "exact.go:86", after := #[{ on := 12, ground := Ground.guard }], guard := some (12, true) }) := by kernel_rfl
      obtain rfl := Option.some.inj (hlit.symm.trans hoi)
      have r3 : b.tmps.getD 3 undef = (.pointer (some ⟨kp, 0, none⟩)) := rd ((hT.old 3 (by kernel_rfl)).trans t3)
      refine op_go hoi (want_yes rfl (d := 19) (by kernel_rfl) (hT.at 12 (by kernel_rfl) (pre_of hpre 12 (by kernel_rfl)))) fun K hK => ?_
      clear hT hpre hlit hoi
      go_simp
      exact hK _ _ ⟨ks, fun _ _ => rfl, rfl, pc0, pc1, ac0, ac1, bc0, bc1, HB, szw, fs, ss⟩
    · have hlit : (regOps Try.f55 1)[17]? = some ({ dst := some 24, op := Op.load 23 (Operand.tmp 5), type := 23, pos := "exact.go:86", after := #[{ on := 12, ground := Ground.guard }], guard := some (12, true) }) := by kernel_rfl
      obtain rfl := Option.some.inj (hlit.symm.trans hoi)
      have r5 : b.tmps.getD 5 undef = (.pointer (some ⟨kb, 0, none⟩)) := rd ((hT.old 5 (by kernel_rfl)).trans t5)
      refine op_go hoi (want_yes rfl (d := 19) (by kernel_rfl) (hT.at 12 (by kernel_rfl) (pre_of hpre 12 (by kernel_rfl)))) fun K hK => ?_
      clear hT hpre hlit hoi
      go_simp
      exact hK _ _ ⟨ks, fun _ _ => rfl, rfl, pc0, pc1, ac0, ac1, bc0, bc1, HB, szw, fs, ss⟩
    · have hlit : (regOps Try.f55 1)[18]? = some ({ dst := some 25, op := Op.call { callee := Callee.value (Operand.func 50), args := #[Operand.tmp 23, Operand.tmp 24], argTypes := #[23, 23] }, type := 3, pos := "exact.go:86", after := #[{ on := 16, ground := Ground.data }, { on := 17, ground := Ground.data }, { on := 15, ground := Ground.chain }, { on := 12, ground := Ground.guard }], guard := some (12, true) }) := by kernel_rfl
      obtain rfl := Option.some.inj (hlit.symm.trans hoi)
      have r23 : b.tmps.getD 23 undef = (.agg #[.int .i64 p0, .int .i64 p1]) := rd (hT.at 16 (by kernel_rfl) (pre_of hpre 16 (by kernel_rfl)))
      have r24 : b.tmps.getD 24 undef = (.agg #[.int .i64 b0, .int .i64 b1]) := rd (hT.at 17 (by kernel_rfl) (pre_of hpre 17 (by kernel_rfl)))
      refine op_go hoi (want_yes rfl (d := 19) (by kernel_rfl) (hT.at 12 (by kernel_rfl) (pre_of hpre 12 (by kernel_rfl)))) fun K hK => ?_
      clear hT hpre hlit hoi
      go_simp
      go_at_call 50
      refine (cmp50 _ _ _ _ _).mono ?_; rintro e w2 ⟨rfl, hb⟩; replace pc0 := ck hb pc0; replace pc1 := ck hb pc1; replace ac0 := ck hb ac0; replace ac1 := ck hb ac1; replace bc0 := ck hb bc0; replace bc1 := ck hb bc1; replace szw : w.heap.size ≤ w2.heap.size := Nat.le_trans szw hb.size; replace fs : L 3 = true → w.heap.size ≤ ks ∧ w2.frozen? ⟨ks, 0, none⟩ = false ∧ w2.frozen? ⟨ks, 1, none⟩ = false ∧ w2.frozen? ⟨ks, 2, none⟩ = false ∧ w2.frozen? ⟨ks, 3, none⟩ = false ∧ w2.frozen? ⟨ks, 4, none⟩ = false ∧ w2.frozen? ⟨ks, 5, none⟩ = false ∧ ∃ u0 u1 u2 u3 u4 u5 : Int, w2.cell? ⟨ks, 0, none⟩ = some (Value.int .i64 u0) ∧ w2.cell? ⟨ks, 1, none⟩ = some (Value.int .i64 u1) ∧ w2.cell? ⟨ks, 2, none⟩ = some (Value.int .i64 u2) ∧ w2.cell? ⟨ks, 3, none⟩ = some (Value.int .i64 u3) ∧ w2.cell? ⟨ks, 4, none⟩ = some (Value.int .i64 u4) ∧ w2.cell? ⟨ks, 5, none⟩ = some (Value.int .i64 u5) ∧ (L 3 = true → u0 = p0 ∧ u1 = p1 ∧ u2 = a0 ∧ u3 = a1 ∧ u4 = b0 ∧ u5 = b1) := fun h => (by obtain ⟨ge, fz0, fz1, fz2, fz3, fz4, fz5, u0, u1, u2, u3, u4, u5, ce0, ce1, ce2, ce3, ce4, ce5, us⟩ := fs h; exact ⟨ge, cf hb (World.block_lt_of_cell? _ _ ce0) fz0, cf hb (World.block_lt_of_cell? _ _ ce1) fz1, cf hb (World.block_lt_of_cell? _ _ ce2) fz2, cf hb (World.block_lt_of_cell? _ _ ce3) fz3, cf hb (World.block_lt_of_cell? _ _ ce4) fz4, cf hb (World.block_lt_of_cell? _ _ ce5) fz5, u0, u1, u2, u3, u4, u5, ck hb ce0, ck hb ce1, ck hb ce2, ck hb ce3, ck hb ce4, ck hb ce5, us⟩); replace HB : Below W.heap.size W w2 := bt HB hb; clear hb
      exact hK _ _ ⟨ks, fun _ _ => rfl, rfl, pc0, pc1, ac0, ac1, bc0, bc1, HB, szw, fs, ss⟩
    · have hlit : (regOps Try.f55 1)[19]? = some ({ dst := some 26, op := Op.binOp BinOp.mul 3 (Operand.tmp 22) (Operand.tmp 25) 3, type := 3, pos := "exact.go:86", after := #[{ on := 15, ground := Ground.data }, { on := 18, ground := Ground.data }, { on := 12, ground := Ground.guard }], guard := some (12, true) }) := by kernel_rfl
      obtain rfl := Option.some.inj (hlit.symm.trans hoi)
      have r22 : b.tmps.getD 22 undef = (.int .i64 (cmpP ⟨a0, a1⟩ ⟨p0, p1⟩)) := rd (hT.at 15 (by kernel_rfl) (pre_of hpre 15 (by kernel_rfl)))
      have r25 : b.tmps.getD 25 undef = (.int .i64 (cmpP ⟨p0, p1⟩ ⟨b0, b1⟩)) := rd (hT.at 18 (by kernel_rfl) (pre_of hpre 18 (by kernel_rfl)))
      refine op_go hoi (want_yes rfl (d := 19) (by kernel_rfl) (hT.at 12 (by kernel_rfl) (pre_of hpre 12 (by kernel_rfl)))) fun K hK => ?_
      clear hT hpre hlit hoi
      go_simp
      exact hK _ _ ⟨ks, fun _ _ => rfl, rfl, pc0, pc1, ac0, ac1, bc0, bc1, HB, szw, fs, ss⟩
    · have hlit : (regOps Try.f55 1)[20]? = some ({ dst := some 27, op := Op.binOp BinOp.geq 3 (Operand.tmp 26) (Operand.const (Value.int IntKind.i64 0)) 3, type := 4, pos := "exact.go:86", after := #[{ on := 19, ground := Ground.data }, { on := 12, ground := Ground.guard }], guard := some (12, true) }) := by kernel_rfl
      obtain rfl := Option.some.inj (hlit.symm.trans hoi)
      have r26 : b.tmps.getD 26 undef = (.int .i64 (cmpP ⟨a0, a1⟩ ⟨p0, p1⟩ * cmpP ⟨p0, p1⟩ ⟨b0, b1⟩)) := rd (hT.at 19 (by kernel_rfl) (pre_of hpre 19 (by kernel_rfl)))
      refine op_go hoi (want_yes rfl (d := 19) (by kernel_rfl) (hT.at 12 (by kernel_rfl) (pre_of hpre 12 (by kernel_rfl)))) fun K hK => ?_
      clear hT hpre hlit hoi
      go_simp
      exact hK _ _ ⟨ks, fun _ _ => rfl, rfl, pc0, pc1, ac0, ac1, bc0, bc1, HB, szw, fs, ss⟩
    · have hlit : (regOps Try.f55 1)[21]? = some ({ dst := some 28, op := Op.pick (Operand.tmp 19) (Operand.tmp 27) (Operand.const (Value.bool false)), type := 4, pos := "exact.go:86", after := #[{ on := 12, ground := Ground.data }, { on := 20, ground := Ground.data }], guard := none }) := by kernel_rfl
      obtain rfl := Option.some.inj (hlit.symm.trans hoi)
      have r19 : b.tmps.getD 19 undef = (.bool true) := rd (hT.at 12 (by kernel_rfl) (pre_of hpre 12 (by kernel_rfl)))
      have r27 : b.tmps.getD 27 undef = (.bool true) := rd (hT.at 20 (by kernel_rfl) (pre_of hpre 20 (by kernel_rfl)))
      refine op_go hoi (want_all rfl) fun K hK => ?_
      clear hT hpre hlit hoi
      go_simp
      exact hK _ _ ⟨ks, fun _ _ => rfl, rfl, pc0, pc1, ac0, ac1, bc0, bc1, HB, szw, fs, ss⟩
    · have hlit : (regOps Try.f55 1)[22]? = some ({ dst := some 29, op := Op.move (Operand.tmp 28), type := 4, pos := "exact.go:86", after := #[{ on := 21, ground := Ground.data }, { on := 18, ground := Ground.chain }], guard := none }) := by kernel_rfl
      obtain rfl := Option.some.inj (hlit.symm.trans hoi)
      have r28 : b.tmps.getD 28 undef = (.bool true) := rd (hT.at 21 (by kernel_rfl) (pre_of hpre 21 (by kernel_rfl)))
      refine op_go hoi (want_all rfl) fun K hK => ?_
      clear hT hpre hlit hoi
      go_simp
      exact hK _ _ ⟨ks, fun _ _ => rfl, rfl, pc0, pc1, ac0, ac1, bc0, bc1, HB, szw, fs, ss⟩
    · have hlit : (regOps Try.f55 1)[23]? = some ({ dst := some 30, op := Op.load 23 (Operand.tmp 4), type := 23, pos := "exact.go:86", after := #[{ on := 22, ground := Ground.guard }], guard := some (22, true) }) := by kernel_rfl
      obtain rfl := Option.some.inj (hlit.symm.trans hoi)
      have r4 : b.tmps.getD 4 undef = (.pointer (some ⟨ka, 0, none⟩)) := rd ((hT.old 4 (by kernel_rfl)).trans t4)
      refine op_go hoi (want_yes rfl (d := 29) (by kernel_rfl) (hT.at 22 (by kernel_rfl) (pre_of hpre 22 (by kernel_rfl)))) fun K hK => ?_
      clear hT hpre hlit hoi
      go_simp
      exact hK _ _ ⟨ks, fun _ _ => rfl, rfl, pc0, pc1, ac0, ac1, bc0, bc1, HB, szw, fs, ss⟩
    · have hlit : (regOps Try.f55 1)[24]? = some ({ dst := some 31, op := Op.load 23 (Operand.tmp 5), type := 23, pos := "exact.go:86", after := #[{ on := 22, ground := Ground.guard }], guard := some (22, true) }) := by kernel_rfl
      obtain rfl := Option.some.inj (hlit.symm.trans hoi)
      have r5 : b.tmps.getD 5 undef = (.pointer (some ⟨kb, 0, none⟩)) := rd ((hT.old 5 (by kernel_rfl)).trans t5)
      refine op_go hoi (want_yes rfl (d := 29) (by kernel_rfl) (hT.at 22 (by kernel_rfl) (pre_of hpre 22 (by kernel_rfl)))) fun K hK => ?_
      clear hT hpre hlit hoi
      go_simp
      exact hK _ _ ⟨ks, fun _ _ => rfl, rfl, pc0, pc1, ac0, ac1, bc0, bc1, HB, szw, fs, ss⟩
    · have hlit : (regOps Try.f55 1)[25]? = some ({ dst := some 32, op := Op.binOp BinOp.neq 23 (Operand.tmp 30) (Operand.tmp 31) 23, type := 4, pos := "exact.go:86", after := #[{ on := 23, ground := Ground.data }, { on := 24, ground := Ground.data }, { on := 22, ground := Ground.guard }], guard := some (22, true) }) := by kernel_rfl
      obtain rfl := Option.some.inj (hlit.symm.trans hoi)
      have r30 : b.tmps.getD 30 undef = (.agg #[.int .i64 a0, .int .i64 a1]) := rd (hT.at 23 (by kernel_rfl) (pre_of hpre 23 (by kernel_rfl)))
      have r31 : b.tmps.getD 31 undef = (.agg #[.int .i64 b0, .int .i64 b1]) := rd (hT.at 24 (by kernel_rfl) (pre_of hpre 24 (by kernel_rfl)))
      refine op_go hoi (want_yes rfl (d := 29) (by kernel_rfl) (hT.at 22 (by kernel_rfl) (pre_of hpre 22 (by kernel_rfl)))) fun K hK => ?_
      clear hT hpre hlit hoi
      go_simp
      exact hK _ _ ⟨ks, fun _ _ => rfl, rfl, pc0, pc1, ac0, ac1, bc0, bc1, HB, szw, fs, ss⟩
    · have hlit : (regOps Try.f55 1)[26]? = some ({ dst := some 33, op := Op.move (Operand.tmp 32), type := 4, pos := "exact.go:86", after := #[{ on := 25, ground := Ground.data }, { on := 22, ground := Ground.chain }, { on := 22, ground := Ground.guard }], guard := some (22, true) }) := by kernel_rfl
      obtain rfl := Option.some.inj (hlit.symm.trans hoi)
      have r32 : b.tmps.getD 32 undef = (.bool false) := rd (hT.at 25 (by kernel_rfl) (pre_of hpre 25 (by kernel_rfl)))
      refine op_go hoi (want_yes rfl (d := 29) (by kernel_rfl) (hT.at 22 (by kernel_rfl) (pre_of hpre 22 (by kernel_rfl)))) fun K hK => ?_
      clear hT hpre hlit hoi
      go_simp
      exact hK _ _ ⟨ks, fun _ _ => rfl, rfl, pc0, pc1, ac0, ac1, bc0, bc1, HB, szw, fs, ss⟩
    · have hlit : (regOps Try.f55 1)[27]? = some ({ dst := some 34, op := Op.load 23 (Operand.tmp 3), type := 23, pos := "exact.go:86", after := #[{ on := 26, ground := Ground.guard }], guard := some (26, false) }) := by kernel_rfl
      obtain rfl := Option.some.inj (hlit.symm.trans hoi)
      have r3 : b.tmps.getD 3 undef = (.pointer (some ⟨kp, 0, none⟩)) := rd ((hT.old 3 (by kernel_rfl)).trans t3)
      refine op_go hoi (want_yes rfl (d := 33) (by kernel_rfl) (hT.at 26 (by kernel_rfl) (pre_of hpre 26 (by kernel_rfl)))) fun K hK => ?_
      clear hT hpre hlit hoi
      go_simp
      exact hK _ _ ⟨ks, fun _ _ => rfl, rfl, pc0, pc1, ac0, ac1, bc0, bc1, HB, szw, fs, ss⟩
    · have hlit : (regOps Try.f55 1)[28]? = some ({ dst := some 35, op := Op.load 23 (Operand.tmp 4), type := 23, pos := "exact.go:86", after := #[{ on := 26, ground := Ground.guard }], guard := some (26, false) }) := by kernel_rfl
      obtain rfl := Option.some.inj (hlit.symm.trans hoi)
      have r4 : b.tmps.getD 4 undef = (.pointer (some ⟨ka, 0, none⟩)) := rd ((hT.old 4 (by kernel_rfl)).trans t4)
      refine op_go hoi (want_yes rfl (d := 33) (by kernel_rfl) (hT.at 26 (by kernel_rfl) (pre_of hpre 26 (by kernel_rfl)))) fun K hK => ?_
      clear hT hpre hlit hoi
      go_simp
      exact hK _ _ ⟨ks, fun _ _ => rfl, rfl, pc0, pc1, ac0, ac1, bc0, bc1, HB, szw, fs, ss⟩
    · have hlit : (regOps Try.f55 1)[29]? = some ({ dst := some 36, op := Op.binOp BinOp.eql 23 (Operand.tmp 34) (Operand.tmp 35) 23, type := 4, pos := "exact.go:86", after := #[{ on := 27, ground := Ground.data }, { on := 28, ground := Ground.data }, { on := 26, ground := Ground.guard }], guard := some (26, false) }) := by kernel_rfl
      obtain rfl := Option.some.inj (hlit.symm.trans hoi)
      have r34 : b.tmps.getD 34 undef = (.agg #[.int .i64 p0, .int .i64 p1]) := rd (hT.at 27 (by kernel_rfl) (pre_of hpre 27 (by kernel_rfl)))
      have r35 : b.tmps.getD 35 undef = (.agg #[.int .i64 a0, .int .i64 a1]) := rd (hT.at 28 (by kernel_rfl) (pre_of hpre 28 (by kernel_rfl)))
      refine op_go hoi (want_yes rfl (d := 33) (by kernel_rfl) (hT.at 26 (by kernel_rfl) (pre_of hpre 26 (by kernel_rfl)))) fun K hK => ?_
      clear hT hpre hlit hoi
      go_simp
      exact hK _ _ ⟨ks, fun _ _ => rfl, rfl, pc0, pc1, ac0, ac1, bc0, bc1, HB, szw, fs, ss⟩
    · have hlit : (regOps Try.f55 1)[30]? = some ({ dst := some 37, op := Op.pick (Operand.tmp 33) (Operand.const (Value.bool true)) (Operand.tmp 36), type := 4, pos := "exact.go:86", after := #[{ on := 26, ground := Ground.data }, { on := 29, ground := Ground.data }, { on := 22, ground := Ground.guard }], guard := some (22, true) }) := by kernel_rfl
      obtain rfl := Option.some.inj (hlit.symm.trans hoi)
      have r33 : b.tmps.getD 33 undef = (.bool false) := rd (hT.at 26 (by kernel_rfl) (pre_of hpre 26 (by kernel_rfl)))
      have r36 : b.tmps.getD 36 undef = (.bool false) := rd (hT.at 29 (by kernel_rfl) (pre_of hpre 29 (by kernel_rfl)))
      refine op_go hoi (want_yes rfl (d := 29) (by kernel_rfl) (hT.at 22 (by kernel_rfl) (pre_of hpre 22 (by kernel_rfl)))) fun K hK => ?_
      clear hT hpre hlit hoi
      go_simp
      exact hK _ _ ⟨ks, fun _ _ => rfl, rfl, pc0, pc1, ac0, ac1, bc0, bc1, HB, szw, fs, ss⟩
    · have hlit : (regOps Try.f55 1)[31]? = some ({ dst := some 38, op := Op.pick (Operand.tmp 29) (Operand.tmp 37) (Operand.const (Value.bool false)), type := 4, pos := "exact.go:86", after := #[{ on := 22, ground := Ground.data }, { on := 30, ground := Ground.data }], guard := none }) := by kernel_rfl
      obtain rfl := Option.some.inj (hlit.symm.trans hoi)
      have r29 : b.tmps.getD 29 undef = (.bool true) := rd (hT.at 22 (by kernel_rfl) (pre_of hpre 22 (by kernel_rfl)))
      have r37 : b.tmps.getD 37 undef = (.bool false) := rd (hT.at 30 (by kernel_rfl) (pre_of hpre 30 (by kernel_rfl)))
      refine op_go hoi (want_all rfl) fun K hK => ?_
      clear hT hpre hlit hoi
      go_simp
      exact hK _ _ ⟨ks, fun _ _ => rfl, rfl, pc0, pc1, ac0, ac1, bc0, bc1, HB, szw, fs, ss⟩
    · have hlit : (regOps Try.f55 1)[32]? = some ({ dst := some 6, op := Op.assign (Operand.tmp 38), type := 4, pos := "exact.go:86", after := #[{ on := 31, ground := Ground.data }, { on := 26, ground := Ground.chain }, { on := 0, ground := Ground.phase }, { on := 1, ground := Ground.phase }, { on := 2, ground := Ground.phase }, { on := 3, ground := Ground.phase }, { on := 4, ground := Ground.phase }, { on := 5, ground := Ground.phase }, { on := 6, ground := Ground.phase }, { on := 7, ground := Ground.phase }, { on := 8, ground := Ground.phase }, { on := 9, ground := Ground.phase }, { on := 10, ground := Ground.phase }, { on := 11, ground := Ground.phase }, { on := 12, ground := Ground.phase }, { on := 13, ground := Ground.phase }, { on := 14, ground := Ground.phase }, { on := 15, ground := Ground.phase }, { on := 16, ground := Ground.phase }, { on := 17, ground := Ground.phase }, { on := 18, ground := Ground.phase }, { on := 19, ground := Ground.phase }, { on := 20, ground := Ground.phase }, { on := 21, ground := Ground.phase }, { on := 22, ground := Ground.phase }, { on := 23, ground := Ground.phase }, { on := 24, ground := Ground.phase }, { on := 25, ground := Ground.phase }, { on := 26, ground := Ground.phase }, { on := 27, ground := Ground.phase }, { on := 28, ground := Ground.phase }, { on := 29, ground := Ground.phase }, { on := 30, ground := Ground.phase }, { on := 31, ground := Ground.phase }], guard := none }) := by kernel_rfl
      obtain rfl := Option.some.inj (hlit.symm.trans hoi)
      have r38 : b.tmps.getD 38 undef = (.bool false) := rd (hT.at 31 (by kernel_rfl) (pre_of hpre 31 (by kernel_rfl)))
      refine op_go hoi (want_all rfl) fun K hK => ?_
      clear hT hpre hlit hoi
      go_simp
      exact hK _ _ ⟨ks, fun _ _ => rfl, rfl, pc0, pc1, ac0, ac1, bc0, bc1, HB, szw, fs, ss⟩
  · intro ks b w' hT hS
    rw [hT.all ht]
    have hn : (regOps Try.f55 1).size = 33 := by kernel_rfl
    rw [hn] at hS ⊢
    skip
    skip
    obtain ⟨pc0, pc1, ac0, ac1, bc0, bc1, HB, szw, fs, ss⟩ := hS
    obtain ⟨ges, fzs0, fzs1, fzs2, fzs3, fzs4, fzs5, us0, us1, us2, us3, us4, us5, ces0, ces1, ces2, ces3, ces4, ces5, uss⟩ := fs rfl
    obtain ⟨rfl, rfl, rfl, rfl, rfl, rfl⟩ := uss rfl
    exact he ks w' ⟨pc0, pc1, ac0, ac1, bc0, bc1, HB⟩ ⟨ces0, ces1, ces2, ces3, ces4, ces5, fzs0, fzs1, fzs2, fzs3, fzs4, fzs5, ges⟩

end Go.Proofs.Ytandgbpbabmdfaa
