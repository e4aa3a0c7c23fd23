import Derived.Test.YtandgbpbabmdfaaT13
import Derived.Test.YtandgbpbabmdfaaRh
namespace Go.Proofs.Ytandgbpbabmdfaa
open Go.RowKit
attribute [local go_sem high] eq23 eq25 mn_two mx_two mn_three mx_three mx_four

/-- What each operation of the region leaves. -/
def region4_6_0V (d0 d1 e0 e1 f0 f1 m0 m1 m2 m3 m4 m5 : Int) (kl : Nat) (ok : Bool) (ks : Nat) : Nat → Value
  | 0 => .int .i64 0
  | 1 => .pointer (some ⟨kl, 0, none⟩)
  | 2 => .pointer (some ⟨kl, 0, none⟩)
  | 3 => .agg #[.int .i64 d0, .int .i64 d1]
  | 4 => .int .i64 0
  | 5 => .pointer (some ⟨kl, 0, none⟩)
  | 6 => .pointer (some ⟨kl, 2, none⟩)
  | 7 => .agg #[.int .i64 e0, .int .i64 e1]
  | 8 => .int .i64 0
  | 9 => .pointer (some ⟨kl, 0, none⟩)
  | 10 => .pointer (some ⟨kl, 4, none⟩)
  | 11 => .agg #[.int .i64 f0, .int .i64 f1]
  | 12 => .tuple #[.agg #[.int .i64 m0, .int .i64 m1, .int .i64 m2, .int .i64 m3, .int .i64 m4, .int .i64 m5], .bool ok]
  | 13 => .tuple #[.agg #[.int .i64 m0, .int .i64 m1, .int .i64 m2, .int .i64 m3, .int .i64 m4, .int .i64 m5], .bool ok]
  | 14 => .agg #[.int .i64 m0, .int .i64 m1, .int .i64 m2, .int .i64 m3, .int .i64 m4, .int .i64 m5]
  | 15 => .bool ok
  | 16 => .pointer (some ⟨ks, 0, none⟩)
  | 17 => undef
  | 18 => .bool ok
  | _ => undef

set_option maxHeartbeats 4000000 in
set_option maxRecDepth 100000 in
theorem region4_6_0 (d0 d1 e0 e1 f0 f1 m0 m1 m2 m3 m4 m5 : Int) (kl : Nat) (ok : Bool) (W : World) (hq1 : mkT ⟨d0, d1⟩ ⟨e0, e1⟩ ⟨f0, f1⟩ = (⟨⟨m0, m1⟩, ⟨m2, m3⟩, ⟨m4, m5⟩⟩, ok)) {id : Nat} {ops : Array Oper} {Q : Exit → Act → World → Prop} {a : Act} {w : World}
    (ho : ops = (regOps Try.f4 6)) (hsz : a.tmps.size = 151) (t9 : a.tmps[9]? = some (.pointer (some ⟨kl, 0, none⟩))) (t10 : a.tmps[10]? = some (.int .i64 0))
    (h0 : w.cell? ⟨kl, 0, none⟩ = some (.int .i64 d0) ∧ w.cell? ⟨kl, 1, none⟩ = some (.int .i64 d1) ∧ w.cell? ⟨kl, 2, none⟩ = some (.int .i64 e0) ∧ w.cell? ⟨kl, 3, none⟩ = some (.int .i64 e1) ∧ w.cell? ⟨kl, 4, none⟩ = some (.int .i64 f0) ∧ w.cell? ⟨kl, 5, none⟩ = some (.int .i64 f1) ∧ Below W.heap.size W w)
    (he : ∀ ks w', w'.cell? ⟨kl, 0, none⟩ = some (.int .i64 d0) ∧ w'.cell? ⟨kl, 1, none⟩ = some (.int .i64 d1) ∧ w'.cell? ⟨kl, 2, none⟩ = some (.int .i64 e0) ∧ w'.cell? ⟨kl, 3, none⟩ = some (.int .i64 e1) ∧ w'.cell? ⟨kl, 4, none⟩ = some (.int .i64 f0) ∧ w'.cell? ⟨kl, 5, none⟩ = some (.int .i64 f1) ∧ Below W.heap.size W w' → w'.cell? ⟨ks, 0, none⟩ = some (.int .i64 m0) ∧ w'.cell? ⟨ks, 1, none⟩ = some (.int .i64 m1) ∧ w'.cell? ⟨ks, 2, none⟩ = some (.int .i64 m2) ∧ w'.cell? ⟨ks, 3, none⟩ = some (.int .i64 m3) ∧ w'.cell? ⟨ks, 4, none⟩ = some (.int .i64 m4) ∧ w'.cell? ⟨ks, 5, none⟩ = some (.int .i64 m5) ∧ w'.frozen? ⟨ks, 0, none⟩ = false ∧ w'.frozen? ⟨ks, 1, none⟩ = false ∧ w'.frozen? ⟨ks, 2, none⟩ = false ∧ w'.frozen? ⟨ks, 3, none⟩ = false ∧ w'.frozen? ⟨ks, 4, none⟩ = false ∧ w'.frozen? ⟨ks, 5, none⟩ = false ∧ w.heap.size ≤ ks → Q .normal ⟨((((((((((((((((((a.tmps.setIfInBounds 50 (.int .i64 0)).setIfInBounds 51 (.pointer (some ⟨kl, 0, none⟩))).setIfInBounds 52 (.pointer (some ⟨kl, 0, none⟩))).setIfInBounds 53 (.agg #[.int .i64 d0, .int .i64 d1])).setIfInBounds 54 (.int .i64 0)).setIfInBounds 55 (.pointer (some ⟨kl, 0, none⟩))).setIfInBounds 56 (.pointer (some ⟨kl, 2, none⟩))).setIfInBounds 57 (.agg #[.int .i64 e0, .int .i64 e1])).setIfInBounds 58 (.int .i64 0)).setIfInBounds 59 (.pointer (some ⟨kl, 0, none⟩))).setIfInBounds 60 (.pointer (some ⟨kl, 4, none⟩))).setIfInBounds 61 (.agg #[.int .i64 f0, .int .i64 f1])).setIfInBounds 62 (.tuple #[.agg #[.int .i64 m0, .int .i64 m1, .int .i64 m2, .int .i64 m3, .int .i64 m4, .int .i64 m5], .bool ok])).setIfInBounds 49 (.tuple #[.agg #[.int .i64 m0, .int .i64 m1, .int .i64 m2, .int .i64 m3, .int .i64 m4, .int .i64 m5], .bool ok])).setIfInBounds 63 (.agg #[.int .i64 m0, .int .i64 m1, .int .i64 m2, .int .i64 m3, .int .i64 m4, .int .i64 m5])).setIfInBounds 64 (.bool ok)).setIfInBounds 11 (.pointer (some ⟨ks, 0, none⟩))).setIfInBounds 12 (.bool ok)), a.defers⟩ w') :
    (Code.region id ops true).wp Try.prog Q a w := by
  have ht : tidy (regOps Try.f4 6) a.tmps.size = true := by rw [hsz]; kernel_rfl
  obtain ⟨lc0, lc1, lc2, lc3, lc4, lc5, HB0⟩ := h0
  have lt_kl := World.block_lt_of_cell? w _ lc0
  have sz0 := HB0.size
  refine region_tab (G := Nat) (fun g => (region4_6_0V d0 d1 e0 e1 f0 f1 m0 m1 m2 m3 m4 m5 kl ok g)) (fun g L w' => w'.cell? ⟨kl, 0, none⟩ = some (.int .i64 d0) ∧ w'.cell? ⟨kl, 1, none⟩ = some (.int .i64 d1) ∧ w'.cell? ⟨kl, 2, none⟩ = some (.int .i64 e0) ∧ w'.cell? ⟨kl, 3, none⟩ = some (.int .i64 e1) ∧ w'.cell? ⟨kl, 4, none⟩ = some (.int .i64 f0) ∧ w'.cell? ⟨kl, 5, none⟩ = some (.int .i64 f1) ∧ Below W.heap.size W w' ∧ w.heap.size ≤ w'.heap.size ∧ (L 16 = true → w.heap.size ≤ g ∧ w'.frozen? ⟨g, 0, none⟩ = false ∧ w'.frozen? ⟨g, 1, none⟩ = false ∧ w'.frozen? ⟨g, 2, none⟩ = false ∧ w'.frozen? ⟨g, 3, none⟩ = false ∧ w'.frozen? ⟨g, 4, none⟩ = false ∧ w'.frozen? ⟨g, 5, none⟩ = false ∧ ∃ u0 u1 u2 u3 u4 u5 : Int, w'.cell? ⟨g, 0, none⟩ = some (.int .i64 u0) ∧ w'.cell? ⟨g, 1, none⟩ = some (.int .i64 u1) ∧ w'.cell? ⟨g, 2, none⟩ = some (.int .i64 u2) ∧ w'.cell? ⟨g, 3, none⟩ = some (.int .i64 u3) ∧ w'.cell? ⟨g, 4, none⟩ = some (.int .i64 u4) ∧ w'.cell? ⟨g, 5, none⟩ = some (.int .i64 u5) ∧ (L 17 = true → u0 = m0 ∧ u1 = m1 ∧ u2 = m2 ∧ u3 = m3 ∧ u4 = m4 ∧ u5 = m5)) ∧ (L 17 = true → L 16 = true)) 0 (by kernel_rfl) ho ht ⟨lc0, lc1, lc2, lc3, lc4, lc5, bd HB0, Nat.le_refl _, fun h => (by cases h), fun h => (by cases h)⟩ ?_ ?_
  · intro i o hoi ks L b w' hun hpre hT hS
    clear he lc0 lc1 lc2 lc3 lc4 lc5 ho hsz ht HB0
    have hi : i < (regOps Try.f4 6).size := (Array.getElem?_eq_some_iff.1 hoi).1
    rw [show (regOps Try.f4 6).size = 19 by kernel_rfl] at hi
    skip
    skip
    obtain ⟨lc0, lc1, lc2, lc3, lc4, lc5, HB, szw, fs, ss⟩ := hS
    have hcases : i = 0 ∨ i = 1 ∨ i = 2 ∨ i = 3 ∨ i = 4 ∨ i = 5 ∨ i = 6 ∨ i = 7 ∨ i = 8 ∨ i = 9 ∨ i = 10 ∨ i = 11 ∨ i = 12 ∨ i = 13 ∨ i = 14 ∨ i = 15 ∨ i = 16 ∨ i = 17 ∨ i = 18 := by omega
    rcases hcases with rfl | rfl | rfl | rfl | rfl | rfl | rfl | rfl | rfl | rfl | rfl | rfl | rfl | rfl | rfl | rfl | rfl | rfl | rfl
    · have hlit : (regOps Try.f4 6)[0]? = some ({ dst := some 50, op := Op.move (Operand.tmp 10), type := 3, pos := "law.go:33", after := #[], guard := none }) := by kernel_rfl
      obtain rfl := Option.some.inj (hlit.symm.trans hoi)
      have r10 : b.tmps.getD 10 undef = (.int .i64 0) := rd ((hT.old 10 (by kernel_rfl)).trans t10)
      refine op_go hoi (want_all rfl) fun K hK => ?_
      clear hT hpre hlit hoi
      go_simp
      exact hK _ _ ⟨ks, fun _ _ => rfl, rfl, lc0, lc1, lc2, lc3, lc4, lc5, HB, szw, fs, ss⟩
    · have hlit : (regOps Try.f4 6)[1]? = some ({ dst := some 51, op := Op.indexAddr 39 (Operand.tmp 9) (Operand.tmp 50), type := 0, pos := "law.go:33", after := #[{ on := 0, ground := Ground.data }], guard := none }) := by kernel_rfl
      obtain rfl := Option.some.inj (hlit.symm.trans hoi)
      have r9 : b.tmps.getD 9 undef = (.pointer (some ⟨kl, 0, none⟩)) := rd ((hT.old 9 (by kernel_rfl)).trans t9)
      have r50 : b.tmps.getD 50 undef = (.int .i64 0) := rd (hT.at 0 (by kernel_rfl) (pre_of hpre 0 (by kernel_rfl)))
      refine op_go hoi (want_all rfl) fun K hK => ?_
      clear hT hpre hlit hoi
      go_simp
      exact hK _ _ ⟨ks, fun _ _ => rfl, rfl, lc0, lc1, lc2, lc3, lc4, lc5, HB, szw, fs, ss⟩
    · have hlit : (regOps Try.f4 6)[2]? = some ({ dst := some 52, op := Op.indexAddr 38 (Operand.tmp 51) (Operand.const (Value.int IntKind.i64 0)), type := 0, pos := "law.go:33", after := #[{ on := 1, ground := Ground.data }], guard := none }) := by kernel_rfl
      obtain rfl := Option.some.inj (hlit.symm.trans hoi)
      have r51 : b.tmps.getD 51 undef = (.pointer (some ⟨kl, 0, none⟩)) := rd (hT.at 1 (by kernel_rfl) (pre_of hpre 1 (by kernel_rfl)))
      refine op_go hoi (want_all rfl) fun K hK => ?_
      clear hT hpre hlit hoi
      go_simp
      exact hK _ _ ⟨ks, fun _ _ => rfl, rfl, lc0, lc1, lc2, lc3, lc4, lc5, HB, szw, fs, ss⟩
    · have hlit : (regOps Try.f4 6)[3]? = some ({ dst := some 53, op := Op.load 23 (Operand.tmp 52), type := 23, pos := "law.go:33", after := #[{ on := 2, ground := Ground.data }], guard := none }) := by kernel_rfl
      obtain rfl := Option.some.inj (hlit.symm.trans hoi)
      have r52 : b.tmps.getD 52 undef = (.pointer (some ⟨kl, 0, none⟩)) := rd (hT.at 2 (by kernel_rfl) (pre_of hpre 2 (by kernel_rfl)))
      refine op_go hoi (want_all rfl) fun K hK => ?_
      clear hT hpre hlit hoi
      go_simp
      exact hK _ _ ⟨ks, fun _ _ => rfl, rfl, lc0, lc1, lc2, lc3, lc4, lc5, HB, szw, fs, ss⟩
    · have hlit : (regOps Try.f4 6)[4]? = some ({ dst := some 54, op := Op.move (Operand.tmp 10), type := 3, pos := "law.go:33", after := #[], guard := none }) := by kernel_rfl
      obtain rfl := Option.some.inj (hlit.symm.trans hoi)
      have r10 : b.tmps.getD 10 undef = (.int .i64 0) := rd ((hT.old 10 (by kernel_rfl)).trans t10)
      refine op_go hoi (want_all rfl) fun K hK => ?_
      clear hT hpre hlit hoi
      go_simp
      exact hK _ _ ⟨ks, fun _ _ => rfl, rfl, lc0, lc1, lc2, lc3, lc4, lc5, HB, szw, fs, ss⟩
    · have hlit : (regOps Try.f4 6)[5]? = some ({ dst := some 55, op := Op.indexAddr 39 (Operand.tmp 9) (Operand.tmp 54), type := 0, pos := "law.go:33", after := #[{ on := 4, ground := Ground.data }], guard := none }) := by kernel_rfl
      obtain rfl := Option.some.inj (hlit.symm.trans hoi)
      have r9 : b.tmps.getD 9 undef = (.pointer (some ⟨kl, 0, none⟩)) := rd ((hT.old 9 (by kernel_rfl)).trans t9)
      have r54 : b.tmps.getD 54 undef = (.int .i64 0) := rd (hT.at 4 (by kernel_rfl) (pre_of hpre 4 (by kernel_rfl)))
      refine op_go hoi (want_all rfl) fun K hK => ?_
      clear hT hpre hlit hoi
      go_simp
      exact hK _ _ ⟨ks, fun _ _ => rfl, rfl, lc0, lc1, lc2, lc3, lc4, lc5, HB, szw, fs, ss⟩
    · have hlit : (regOps Try.f4 6)[6]? = some ({ dst := some 56, op := Op.indexAddr 38 (Operand.tmp 55) (Operand.const (Value.int IntKind.i64 1)), type := 0, pos := "law.go:33", after := #[{ on := 5, ground := Ground.data }], guard := none }) := by kernel_rfl
      obtain rfl := Option.some.inj (hlit.symm.trans hoi)
      have r55 : b.tmps.getD 55 undef = (.pointer (some ⟨kl, 0, none⟩)) := rd (hT.at 5 (by kernel_rfl) (pre_of hpre 5 (by kernel_rfl)))
      refine op_go hoi (want_all rfl) fun K hK => ?_
      clear hT hpre hlit hoi
      go_simp
      exact hK _ _ ⟨ks, fun _ _ => rfl, rfl, lc0, lc1, lc2, lc3, lc4, lc5, HB, szw, fs, ss⟩
    · have hlit : (regOps Try.f4 6)[7]? = some ({ dst := some 57, op := Op.load 23 (Operand.tmp 56), type := 23, pos := "law.go:33", after := #[{ on := 6, ground := Ground.data }], guard := none }) := by kernel_rfl
      obtain rfl := Option.some.inj (hlit.symm.trans hoi)
      have r56 : b.tmps.getD 56 undef = (.pointer (some ⟨kl, 2, none⟩)) := rd (hT.at 6 (by kernel_rfl) (pre_of hpre 6 (by kernel_rfl)))
      refine op_go hoi (want_all rfl) fun K hK => ?_
      clear hT hpre hlit hoi
      go_simp
      exact hK _ _ ⟨ks, fun _ _ => rfl, rfl, lc0, lc1, lc2, lc3, lc4, lc5, HB, szw, fs, ss⟩
    · have hlit : (regOps Try.f4 6)[8]? = some ({ dst := some 58, op := Op.move (Operand.tmp 10), type := 3, pos := "law.go:33", after := #[], guard := none }) := by kernel_rfl
      obtain rfl := Option.some.inj (hlit.symm.trans hoi)
      have r10 : b.tmps.getD 10 undef = (.int .i64 0) := rd ((hT.old 10 (by kernel_rfl)).trans t10)
      refine op_go hoi (want_all rfl) fun K hK => ?_
      clear hT hpre hlit hoi
      go_simp
      exact hK _ _ ⟨ks, fun _ _ => rfl, rfl, lc0, lc1, lc2, lc3, lc4, lc5, HB, szw, fs, ss⟩
    · have hlit : (regOps Try.f4 6)[9]? = some ({ dst := some 59, op := Op.indexAddr 39 (Operand.tmp 9) (Operand.tmp 58), type := 0, pos := "law.go:33", after := #[{ on := 8, ground := Ground.data }], guard := none }) := by kernel_rfl
      obtain rfl := Option.some.inj (hlit.symm.trans hoi)
      have r9 : b.tmps.getD 9 undef = (.pointer (some ⟨kl, 0, none⟩)) := rd ((hT.old 9 (by kernel_rfl)).trans t9)
      have r58 : b.tmps.getD 58 undef = (.int .i64 0) := rd (hT.at 8 (by kernel_rfl) (pre_of hpre 8 (by kernel_rfl)))
      refine op_go hoi (want_all rfl) fun K hK => ?_
      clear hT hpre hlit hoi
      go_simp
      exact hK _ _ ⟨ks, fun _ _ => rfl, rfl, lc0, lc1, lc2, lc3, lc4, lc5, HB, szw, fs, ss⟩
    · have hlit : (regOps Try.f4 6)[10]? = some ({ dst := some 60, op := Op.indexAddr 38 (Operand.tmp 59) (Operand.const (Value.int IntKind.i64 2)), type := 0, pos := "law.go:33", after := #[{ on := 9, ground := Ground.data }], guard := none }) := by kernel_rfl
      obtain rfl := Option.some.inj (hlit.symm.trans hoi)
      have r59 : b.tmps.getD 59 undef = (.pointer (some ⟨kl, 0, none⟩)) := rd (hT.at 9 (by kernel_rfl) (pre_of hpre 9 (by kernel_rfl)))
      refine op_go hoi (want_all rfl) fun K hK => ?_
      clear hT hpre hlit hoi
      go_simp
      exact hK _ _ ⟨ks, fun _ _ => rfl, rfl, lc0, lc1, lc2, lc3, lc4, lc5, HB, szw, fs, ss⟩
    · have hlit : (regOps Try.f4 6)[11]? = some ({ dst := some 61, op := Op.load 23 (Operand.tmp 60), type := 23, pos := "law.go:33", after := #[{ on := 10, ground := Ground.data }], guard := none }) := by kernel_rfl
      obtain rfl := Option.some.inj (hlit.symm.trans hoi)
      have r60 : b.tmps.getD 60 undef = (.pointer (some ⟨kl, 4, none⟩)) := rd (hT.at 10 (by kernel_rfl) (pre_of hpre 10 (by kernel_rfl)))
      refine op_go hoi (want_all rfl) fun K hK => ?_
      clear hT hpre hlit hoi
      go_simp
      exact hK _ _ ⟨ks, fun _ _ => rfl, rfl, lc0, lc1, lc2, lc3, lc4, lc5, HB, szw, fs, ss⟩
    · have hlit : (regOps Try.f4 6)[12]? = some ({ dst := some 62, op := Op.call { callee := Callee.value (Operand.func 20), args := #[Operand.tmp 53, Operand.tmp 57, Operand.tmp 61], argTypes := #[23, 23, 23] }, type := 26, pos := "law.go:33", after := #[{ on := 3, ground := Ground.data }, { on := 7, ground := Ground.data }, { on := 11, ground := Ground.data }], guard := none }) := by kernel_rfl
      obtain rfl := Option.some.inj (hlit.symm.trans hoi)
      have r53 : b.tmps.getD 53 undef = (.agg #[.int .i64 d0, .int .i64 d1]) := rd (hT.at 3 (by kernel_rfl) (pre_of hpre 3 (by kernel_rfl)))
      have r57 : b.tmps.getD 57 undef = (.agg #[.int .i64 e0, .int .i64 e1]) := rd (hT.at 7 (by kernel_rfl) (pre_of hpre 7 (by kernel_rfl)))
      have r61 : b.tmps.getD 61 undef = (.agg #[.int .i64 f0, .int .i64 f1]) := rd (hT.at 11 (by kernel_rfl) (pre_of hpre 11 (by kernel_rfl)))
      refine op_go hoi (want_all rfl) fun K hK => ?_
      clear hT hpre hlit hoi
      go_simp
      go_at_call 20
      refine (make20 _ _ _ _ _ _ _).mono ?_; rw [hq1]; rintro e w2 ⟨rfl, hb⟩; replace lc0 := ck hb lc0; replace lc1 := ck hb lc1; replace lc2 := ck hb lc2; replace lc3 := ck hb lc3; replace lc4 := ck hb lc4; replace lc5 := ck hb lc5; replace szw : w.heap.size ≤ w2.heap.size := Nat.le_trans szw hb.size; replace fs : L 16 = true → w.heap.size ≤ ks ∧ w2.frozen? ⟨ks, 0, none⟩ = false ∧ w2.frozen? ⟨ks, 1, none⟩ = false ∧ w2.frozen? ⟨ks, 2, none⟩ = false ∧ w2.frozen? ⟨ks, 3, none⟩ = false ∧ w2.frozen? ⟨ks, 4, none⟩ = false ∧ w2.frozen? ⟨ks, 5, none⟩ = false ∧ ∃ u0 u1 u2 u3 u4 u5 : Int, w2.cell? ⟨ks, 0, none⟩ = some (Value.int .i64 u0) ∧ w2.cell? ⟨ks, 1, none⟩ = some (Value.int .i64 u1) ∧ w2.cell? ⟨ks, 2, none⟩ = some (Value.int .i64 u2) ∧ w2.cell? ⟨ks, 3, none⟩ = some (Value.int .i64 u3) ∧ w2.cell? ⟨ks, 4, none⟩ = some (Value.int .i64 u4) ∧ w2.cell? ⟨ks, 5, none⟩ = some (Value.int .i64 u5) ∧ (L 17 = true → u0 = m0 ∧ u1 = m1 ∧ u2 = m2 ∧ u3 = m3 ∧ u4 = m4 ∧ u5 = m5) := fun h => (by obtain ⟨ge, fz0, fz1, fz2, fz3, fz4, fz5, u0, u1, u2, u3, u4, u5, ce0, ce1, ce2, ce3, ce4, ce5, us⟩ := fs h; exact ⟨ge, cf hb (World.block_lt_of_cell? _ _ ce0) fz0, cf hb (World.block_lt_of_cell? _ _ ce1) fz1, cf hb (World.block_lt_of_cell? _ _ ce2) fz2, cf hb (World.block_lt_of_cell? _ _ ce3) fz3, cf hb (World.block_lt_of_cell? _ _ ce4) fz4, cf hb (World.block_lt_of_cell? _ _ ce5) fz5, u0, u1, u2, u3, u4, u5, ck hb ce0, ck hb ce1, ck hb ce2, ck hb ce3, ck hb ce4, ck hb ce5, us⟩); replace HB : Below W.heap.size W w2 := bt HB hb; clear hb
      exact hK _ _ ⟨ks, fun _ _ => rfl, rfl, lc0, lc1, lc2, lc3, lc4, lc5, HB, szw, fs, ss⟩
    · have hlit : (regOps Try.f4 6)[13]? = some ({ dst := some 49, op := Op.move (Operand.tmp 62), type := 26, pos := "law.go:33", after := #[{ on := 12, ground := Ground.data }], guard := none }) := by kernel_rfl
      obtain rfl := Option.some.inj (hlit.symm.trans hoi)
      have r62 : b.tmps.getD 62 undef = (.tuple #[.agg #[.int .i64 m0, .int .i64 m1, .int .i64 m2, .int .i64 m3, .int .i64 m4, .int .i64 m5], .bool ok]) := rd (hT.at 12 (by kernel_rfl) (pre_of hpre 12 (by kernel_rfl)))
      refine op_go hoi (want_all rfl) fun K hK => ?_
      clear hT hpre hlit hoi
      go_simp
      exact hK _ _ ⟨ks, fun _ _ => rfl, rfl, lc0, lc1, lc2, lc3, lc4, lc5, HB, szw, fs, ss⟩
    · have hlit : (regOps Try.f4 6)[14]? = some ({ dst := some 63, op := Op.extract (Operand.tmp 49) 0, type := 25, pos := "law.go:33", after := #[{ on := 13, ground := Ground.data }], guard := none }) := by kernel_rfl
      obtain rfl := Option.some.inj (hlit.symm.trans hoi)
      have r49 : b.tmps.getD 49 undef = (.tuple #[.agg #[.int .i64 m0, .int .i64 m1, .int .i64 m2, .int .i64 m3, .int .i64 m4, .int .i64 m5], .bool ok]) := rd (hT.at 13 (by kernel_rfl) (pre_of hpre 13 (by kernel_rfl)))
      refine op_go hoi (want_all rfl) fun K hK => ?_
      clear hT hpre hlit hoi
      go_simp
      exact hK _ _ ⟨ks, fun _ _ => rfl, rfl, lc0, lc1, lc2, lc3, lc4, lc5, HB, szw, fs, ss⟩
    · have hlit : (regOps Try.f4 6)[15]? = some ({ dst := some 64, op := Op.extract (Operand.tmp 49) 1, type := 4, pos := "law.go:33", after := #[{ on := 13, ground := Ground.data }, { on := 17, ground := Ground.gcOnly Departure.lateStores }], guard := none }) := by kernel_rfl
      obtain rfl := Option.some.inj (hlit.symm.trans hoi)
      have r49 : b.tmps.getD 49 undef = (.tuple #[.agg #[.int .i64 m0, .int .i64 m1, .int .i64 m2, .int .i64 m3, .int .i64 m4, .int .i64 m5], .bool ok]) := rd (hT.at 13 (by kernel_rfl) (pre_of hpre 13 (by kernel_rfl)))
      refine op_go hoi (want_all rfl) fun K hK => ?_
      clear hT hpre hlit hoi
      go_simp
      exact hK _ _ ⟨ks, fun _ _ => rfl, rfl, lc0, lc1, lc2, lc3, lc4, lc5, HB, szw, fs, ss⟩
    · have hlit : (regOps Try.f4 6)[16]? = some ({ dst := some 11, op := Op.alloc 25, type := 0, pos := "law.go:33", after := #[], guard := none }) := by kernel_rfl
      obtain rfl := Option.some.inj (hlit.symm.trans hoi)
      refine op_go hoi (want_all rfl) fun K hK => ?_
      clear hT hpre hlit hoi
      go_simp
      have lw_lc0 := World.block_lt_of_cell? w' _ lc0
      have lw_lc1 := World.block_lt_of_cell? w' _ lc1
      have lw_lc2 := World.block_lt_of_cell? w' _ lc2
      have lw_lc3 := World.block_lt_of_cell? w' _ lc3
      have lw_lc4 := World.block_lt_of_cell? w' _ lc4
      have lw_lc5 := World.block_lt_of_cell? w' _ lc5
      refine hK _ _ ⟨w'.heap.size, fun j hj => ?_, rfl, by go_simp, by go_simp, by go_simp, by go_simp, by go_simp, by go_simp, ba HB _, by simp; omega, fun _ => ⟨szw, by go_simp, by go_simp, by go_simp, by go_simp, by go_simp, by go_simp, 0, 0, 0, 0, 0, 0, by go_simp, by go_simp, by go_simp, by go_simp, by go_simp, by go_simp, fun h => absurd ((ss h).symm.trans hun) (by decide)⟩, fun _ => rfl⟩
      by_cases e : j = 16
      · subst e; rw [hun] at hj; cases hj
      · unfold region4_6_0V; split <;> first | rfl | (exact absurd rfl e)
    · have hlit : (regOps Try.f4 6)[17]? = some ({ dst := none, op := Op.store 25 (Operand.tmp 11) (Operand.tmp 63), type := 0, pos := "law.go:33", after := #[{ on := 16, ground := Ground.data }, { on := 14, ground := Ground.data }, { on := 12, ground := Ground.chain }, { on := 0, ground := Ground.phase }, { on := 1, ground := Ground.phase }, { on := 2, ground := Ground.phase }, { on := 3, ground := Ground.phase }, { on := 4, ground := Ground.phase }, { on := 5, ground := Ground.phase }, { on := 6, ground := Ground.phase }, { on := 7, ground := Ground.phase }, { on := 8, ground := Ground.phase }, { on := 9, ground := Ground.phase }, { on := 10, ground := Ground.phase }, { on := 11, ground := Ground.phase }, { on := 12, ground := Ground.phase }, { on := 13, ground := Ground.phase }, { on := 14, ground := Ground.phase }, { on := 15, ground := Ground.textOnly Departure.lateStores }, { on := 16, ground := Ground.phase }], guard := none }) := by kernel_rfl
      obtain rfl := Option.some.inj (hlit.symm.trans hoi)
      have r11 : b.tmps.getD 11 undef = (.pointer (some ⟨ks, 0, none⟩)) := rd (hT.at 16 (by kernel_rfl) (pre_of hpre 16 (by kernel_rfl)))
      have r63 : b.tmps.getD 63 undef = (.agg #[.int .i64 m0, .int .i64 m1, .int .i64 m2, .int .i64 m3, .int .i64 m4, .int .i64 m5]) := rd (hT.at 14 (by kernel_rfl) (pre_of hpre 14 (by kernel_rfl)))
      have pr : L 16 = true := pre_of hpre 16 (by kernel_rfl)
      obtain ⟨ge, fz0, fz1, fz2, fz3, fz4, fz5, u0, u1, u2, u3, u4, u5, ce0, ce1, ce2, ce3, ce4, ce5, -⟩ := fs pr
      have ne_kl : ¬ kl = ks := Nat.ne_of_lt (Nat.lt_of_lt_of_le lt_kl ge)
      have nf_kl : ¬ ks = kl := fun h => ne_kl h.symm
      refine op_go hoi (want_all rfl) fun K hK => ?_
      clear hT hpre hlit hoi
      go_simp
      exact hK _ _ ⟨ks, fun _ _ => rfl, rfl, by go_simp, by go_simp, by go_simp, by go_simp, by go_simp, by go_simp, bs (bs (bs (bs (bs (bs (HB) (Nat.le_trans sz0 ge) _) (Nat.le_trans sz0 ge) _) (Nat.le_trans sz0 ge) _) (Nat.le_trans sz0 ge) _) (Nat.le_trans sz0 ge) _) (Nat.le_trans sz0 ge) _, by simp; omega, fun _ => ⟨ge, by go_simp, by go_simp, by go_simp, by go_simp, by go_simp, by go_simp, m0, m1, m2, m3, m4, m5, by go_simp, by go_simp, by go_simp, by go_simp, by go_simp, by go_simp, fun _ => ⟨rfl, rfl, rfl, rfl, rfl, rfl⟩⟩, fun _ => pr⟩
    · have hlit : (regOps Try.f4 6)[18]? = some ({ dst := some 12, op := Op.assign (Operand.tmp 64), type := 4, pos := "law.go:33", after := #[{ on := 15, ground := Ground.data }, { on := 17, ground := Ground.chain }, { on := 0, ground := Ground.phase }, { on := 1, ground := Ground.phase }, { on := 2, ground := Ground.phase }, { on := 3, ground := Ground.phase }, { on := 4, ground := Ground.phase }, { on := 5, ground := Ground.phase }, { on := 6, ground := Ground.phase }, { on := 7, ground := Ground.phase }, { on := 8, ground := Ground.phase }, { on := 9, ground := Ground.phase }, { on := 10, ground := Ground.phase }, { on := 11, ground := Ground.phase }, { on := 12, ground := Ground.phase }, { on := 13, ground := Ground.phase }, { on := 14, ground := Ground.phase }, { on := 15, ground := Ground.phase }, { on := 16, ground := Ground.phase }, { on := 17, ground := Ground.phase }], guard := none }) := by kernel_rfl
      obtain rfl := Option.some.inj (hlit.symm.trans hoi)
      have r64 : b.tmps.getD 64 undef = (.bool ok) := rd (hT.at 15 (by kernel_rfl) (pre_of hpre 15 (by kernel_rfl)))
      refine op_go hoi (want_all rfl) fun K hK => ?_
      clear hT hpre hlit hoi
      go_simp
      exact hK _ _ ⟨ks, fun _ _ => rfl, rfl, lc0, lc1, lc2, lc3, lc4, lc5, HB, szw, fs, ss⟩
  · intro ks b w' hT hS
    rw [hT.all ht]
    have hn : (regOps Try.f4 6).size = 19 := by kernel_rfl
    rw [hn] at hS ⊢
    skip
    skip
    obtain ⟨lc0, lc1, lc2, lc3, lc4, lc5, HB, szw, fs, ss⟩ := hS
    obtain ⟨ges, fzs0, fzs1, fzs2, fzs3, fzs4, fzs5, us0, us1, us2, us3, us4, us5, ces0, ces1, ces2, ces3, ces4, ces5, uss⟩ := fs rfl
    obtain ⟨rfl, rfl, rfl, rfl, rfl, rfl⟩ := uss rfl
    exact he ks w' ⟨lc0, lc1, lc2, lc3, lc4, lc5, HB⟩ ⟨ces0, ces1, ces2, ces3, ces4, ces5, fzs0, fzs1, fzs2, fzs3, fzs4, fzs5, ges⟩

/-- What each operation of the region leaves. -/
def region4_6_1V (d0 d1 e0 e1 f0 f1 m0 m1 m2 m3 m4 m5 : Int) (kl : Nat) (ok : Bool) (ks : Nat) : Nat → Value
  | 0 => .int .i64 1
  | 1 => .pointer (some ⟨kl, 6, none⟩)
  | 2 => .pointer (some ⟨kl, 6, none⟩)
  | 3 => .agg #[.int .i64 d0, .int .i64 d1]
  | 4 => .int .i64 1
  | 5 => .pointer (some ⟨kl, 6, none⟩)
  | 6 => .pointer (some ⟨kl, 8, none⟩)
  | 7 => .agg #[.int .i64 e0, .int .i64 e1]
  | 8 => .int .i64 1
  | 9 => .pointer (some ⟨kl, 6, none⟩)
  | 10 => .pointer (some ⟨kl, 10, none⟩)
  | 11 => .agg #[.int .i64 f0, .int .i64 f1]
  | 12 => .tuple #[.agg #[.int .i64 m0, .int .i64 m1, .int .i64 m2, .int .i64 m3, .int .i64 m4, .int .i64 m5], .bool ok]
  | 13 => .tuple #[.agg #[.int .i64 m0, .int .i64 m1, .int .i64 m2, .int .i64 m3, .int .i64 m4, .int .i64 m5], .bool ok]
  | 14 => .agg #[.int .i64 m0, .int .i64 m1, .int .i64 m2, .int .i64 m3, .int .i64 m4, .int .i64 m5]
  | 15 => .bool ok
  | 16 => .pointer (some ⟨ks, 0, none⟩)
  | 17 => undef
  | 18 => .bool ok
  | _ => undef

set_option maxHeartbeats 4000000 in
set_option maxRecDepth 100000 in
theorem region4_6_1 (d0 d1 e0 e1 f0 f1 m0 m1 m2 m3 m4 m5 : Int) (kl : Nat) (ok : Bool) (W : World) (hq1 : mkT ⟨d0, d1⟩ ⟨e0, e1⟩ ⟨f0, f1⟩ = (⟨⟨m0, m1⟩, ⟨m2, m3⟩, ⟨m4, m5⟩⟩, ok)) {id : Nat} {ops : Array Oper} {Q : Exit → Act → World → Prop} {a : Act} {w : World}
    (ho : ops = (regOps Try.f4 6)) (hsz : a.tmps.size = 151) (t9 : a.tmps[9]? = some (.pointer (some ⟨kl, 0, none⟩))) (t10 : a.tmps[10]? = some (.int .i64 1))
    (h0 : w.cell? ⟨kl, 6, none⟩ = some (.int .i64 d0) ∧ w.cell? ⟨kl, 7, none⟩ = some (.int .i64 d1) ∧ w.cell? ⟨kl, 8, none⟩ = some (.int .i64 e0) ∧ w.cell? ⟨kl, 9, none⟩ = some (.int .i64 e1) ∧ w.cell? ⟨kl, 10, none⟩ = some (.int .i64 f0) ∧ w.cell? ⟨kl, 11, none⟩ = some (.int .i64 f1) ∧ Below W.heap.size W w)
    (he : ∀ ks w', w'.cell? ⟨kl, 6, none⟩ = some (.int .i64 d0) ∧ w'.cell? ⟨kl, 7, none⟩ = some (.int .i64 d1) ∧ w'.cell? ⟨kl, 8, none⟩ = some (.int .i64 e0) ∧ w'.cell? ⟨kl, 9, none⟩ = some (.int .i64 e1) ∧ w'.cell? ⟨kl, 10, none⟩ = some (.int .i64 f0) ∧ w'.cell? ⟨kl, 11, none⟩ = some (.int .i64 f1) ∧ Below W.heap.size W w' → w'.cell? ⟨ks, 0, none⟩ = some (.int .i64 m0) ∧ w'.cell? ⟨ks, 1, none⟩ = some (.int .i64 m1) ∧ w'.cell? ⟨ks, 2, none⟩ = some (.int .i64 m2) ∧ w'.cell? ⟨ks, 3, none⟩ = some (.int .i64 m3) ∧ w'.cell? ⟨ks, 4, none⟩ = some (.int .i64 m4) ∧ w'.cell? ⟨ks, 5, none⟩ = some (.int .i64 m5) ∧ w'.frozen? ⟨ks, 0, none⟩ = false ∧ w'.frozen? ⟨ks, 1, none⟩ = false ∧ w'.frozen? ⟨ks, 2, none⟩ = false ∧ w'.frozen? ⟨ks, 3, none⟩ = false ∧ w'.frozen? ⟨ks, 4, none⟩ = false ∧ w'.frozen? ⟨ks, 5, none⟩ = false ∧ w.heap.size ≤ ks → Q .normal ⟨((((((((((((((((((a.tmps.setIfInBounds 50 (.int .i64 1)).setIfInBounds 51 (.pointer (some ⟨kl, 6, none⟩))).setIfInBounds 52 (.pointer (some ⟨kl, 6, none⟩))).setIfInBounds 53 (.agg #[.int .i64 d0, .int .i64 d1])).setIfInBounds 54 (.int .i64 1)).setIfInBounds 55 (.pointer (some ⟨kl, 6, none⟩))).setIfInBounds 56 (.pointer (some ⟨kl, 8, none⟩))).setIfInBounds 57 (.agg #[.int .i64 e0, .int .i64 e1])).setIfInBounds 58 (.int .i64 1)).setIfInBounds 59 (.pointer (some ⟨kl, 6, none⟩))).setIfInBounds 60 (.pointer (some ⟨kl, 10, none⟩))).setIfInBounds 61 (.agg #[.int .i64 f0, .int .i64 f1])).setIfInBounds 62 (.tuple #[.agg #[.int .i64 m0, .int .i64 m1, .int .i64 m2, .int .i64 m3, .int .i64 m4, .int .i64 m5], .bool ok])).setIfInBounds 49 (.tuple #[.agg #[.int .i64 m0, .int .i64 m1, .int .i64 m2, .int .i64 m3, .int .i64 m4, .int .i64 m5], .bool ok])).setIfInBounds 63 (.agg #[.int .i64 m0, .int .i64 m1, .int .i64 m2, .int .i64 m3, .int .i64 m4, .int .i64 m5])).setIfInBounds 64 (.bool ok)).setIfInBounds 11 (.pointer (some ⟨ks, 0, none⟩))).setIfInBounds 12 (.bool ok)), a.defers⟩ w') :
    (Code.region id ops true).wp Try.prog Q a w := by
  have ht : tidy (regOps Try.f4 6) a.tmps.size = true := by rw [hsz]; kernel_rfl
  obtain ⟨lc0, lc1, lc2, lc3, lc4, lc5, HB0⟩ := h0
  have lt_kl := World.block_lt_of_cell? w _ lc0
  have sz0 := HB0.size
  refine region_tab (G := Nat) (fun g => (region4_6_1V d0 d1 e0 e1 f0 f1 m0 m1 m2 m3 m4 m5 kl ok g)) (fun g L w' => w'.cell? ⟨kl, 6, none⟩ = some (.int .i64 d0) ∧ w'.cell? ⟨kl, 7, none⟩ = some (.int .i64 d1) ∧ w'.cell? ⟨kl, 8, none⟩ = some (.int .i64 e0) ∧ w'.cell? ⟨kl, 9, none⟩ = some (.int .i64 e1) ∧ w'.cell? ⟨kl, 10, none⟩ = some (.int .i64 f0) ∧ w'.cell? ⟨kl, 11, none⟩ = some (.int .i64 f1) ∧ Below W.heap.size W w' ∧ w.heap.size ≤ w'.heap.size ∧ (L 16 = true → w.heap.size ≤ g ∧ w'.frozen? ⟨g, 0, none⟩ = false ∧ w'.frozen? ⟨g, 1, none⟩ = false ∧ w'.frozen? ⟨g, 2, none⟩ = false ∧ w'.frozen? ⟨g, 3, none⟩ = false ∧ w'.frozen? ⟨g, 4, none⟩ = false ∧ w'.frozen? ⟨g, 5, none⟩ = false ∧ ∃ u0 u1 u2 u3 u4 u5 : Int, w'.cell? ⟨g, 0, none⟩ = some (.int .i64 u0) ∧ w'.cell? ⟨g, 1, none⟩ = some (.int .i64 u1) ∧ w'.cell? ⟨g, 2, none⟩ = some (.int .i64 u2) ∧ w'.cell? ⟨g, 3, none⟩ = some (.int .i64 u3) ∧ w'.cell? ⟨g, 4, none⟩ = some (.int .i64 u4) ∧ w'.cell? ⟨g, 5, none⟩ = some (.int .i64 u5) ∧ (L 17 = true → u0 = m0 ∧ u1 = m1 ∧ u2 = m2 ∧ u3 = m3 ∧ u4 = m4 ∧ u5 = m5)) ∧ (L 17 = true → L 16 = true)) 0 (by kernel_rfl) ho ht ⟨lc0, lc1, lc2, lc3, lc4, lc5, bd HB0, Nat.le_refl _, fun h => (by cases h), fun h => (by cases h)⟩ ?_ ?_
  · intro i o hoi ks L b w' hun hpre hT hS
    clear he lc0 lc1 lc2 lc3 lc4 lc5 ho hsz ht HB0
    have hi : i < (regOps Try.f4 6).size := (Array.getElem?_eq_some_iff.1 hoi).1
    rw [show (regOps Try.f4 6).size = 19 by kernel_rfl] at hi
    skip
    skip
    obtain ⟨lc0, lc1, lc2, lc3, lc4, lc5, HB, szw, fs, ss⟩ := hS
    have hcases : i = 0 ∨ i = 1 ∨ i = 2 ∨ i = 3 ∨ i = 4 ∨ i = 5 ∨ i = 6 ∨ i = 7 ∨ i = 8 ∨ i = 9 ∨ i = 10 ∨ i = 11 ∨ i = 12 ∨ i = 13 ∨ i = 14 ∨ i = 15 ∨ i = 16 ∨ i = 17 ∨ i = 18 := by omega
    rcases hcases with rfl | rfl | rfl | rfl | rfl | rfl | rfl | rfl | rfl | rfl | rfl | rfl | rfl | rfl | rfl | rfl | rfl | rfl | rfl
    · have hlit : (regOps Try.f4 6)[0]? = some ({ dst := some 50, op := Op.move (Operand.tmp 10), type := 3, pos := "law.go:33", after := #[], guard := none }) := by kernel_rfl
      obtain rfl := Option.some.inj (hlit.symm.trans hoi)
      have r10 : b.tmps.getD 10 undef = (.int .i64 1) := rd ((hT.old 10 (by kernel_rfl)).trans t10)
      refine op_go hoi (want_all rfl) fun K hK => ?_
      clear hT hpre hlit hoi
      go_simp
      exact hK _ _ ⟨ks, fun _ _ => rfl, rfl, lc0, lc1, lc2, lc3, lc4, lc5, HB, szw, fs, ss⟩
    · have hlit : (regOps Try.f4 6)[1]? = some ({ dst := some 51, op := Op.indexAddr 39 (Operand.tmp 9) (Operand.tmp 50), type := 0, pos := "law.go:33", after := #[{ on := 0, ground := Ground.data }], guard := none }) := by kernel_rfl
      obtain rfl := Option.some.inj (hlit.symm.trans hoi)
      have r9 : b.tmps.getD 9 undef = (.pointer (some ⟨kl, 0, none⟩)) := rd ((hT.old 9 (by kernel_rfl)).trans t9)
      have r50 : b.tmps.getD 50 undef = (.int .i64 1) := rd (hT.at 0 (by kernel_rfl) (pre_of hpre 0 (by kernel_rfl)))
      refine op_go hoi (want_all rfl) fun K hK => ?_
      clear hT hpre hlit hoi
      go_simp
      exact hK _ _ ⟨ks, fun _ _ => rfl, rfl, lc0, lc1, lc2, lc3, lc4, lc5, HB, szw, fs, ss⟩
    · have hlit : (regOps Try.f4 6)[2]? = some ({ dst := some 52, op := Op.indexAddr 38 (Operand.tmp 51) (Operand.const (Value.int IntKind.i64 0)), type := 0, pos := "law.go:33", after := #[{ on := 1, ground := Ground.data }], guard := none }) := by kernel_rfl
      obtain rfl := Option.some.inj (hlit.symm.trans hoi)
      have r51 : b.tmps.getD 51 undef = (.pointer (some ⟨kl, 6, none⟩)) := rd (hT.at 1 (by kernel_rfl) (pre_of hpre 1 (by kernel_rfl)))
      refine op_go hoi (want_all rfl) fun K hK => ?_
      clear hT hpre hlit hoi
      go_simp
      exact hK _ _ ⟨ks, fun _ _ => rfl, rfl, lc0, lc1, lc2, lc3, lc4, lc5, HB, szw, fs, ss⟩
    · have hlit : (regOps Try.f4 6)[3]? = some ({ dst := some 53, op := Op.load 23 (Operand.tmp 52), type := 23, pos := "law.go:33", after := #[{ on := 2, ground := Ground.data }], guard := none }) := by kernel_rfl
      obtain rfl := Option.some.inj (hlit.symm.trans hoi)
      have r52 : b.tmps.getD 52 undef = (.pointer (some ⟨kl, 6, none⟩)) := rd (hT.at 2 (by kernel_rfl) (pre_of hpre 2 (by kernel_rfl)))
      refine op_go hoi (want_all rfl) fun K hK => ?_
      clear hT hpre hlit hoi
      go_simp
      exact hK _ _ ⟨ks, fun _ _ => rfl, rfl, lc0, lc1, lc2, lc3, lc4, lc5, HB, szw, fs, ss⟩
    · have hlit : (regOps Try.f4 6)[4]? = some ({ dst := some 54, op := Op.move (Operand.tmp 10), type := 3, pos := "law.go:33", after := #[], guard := none }) := by kernel_rfl
      obtain rfl := Option.some.inj (hlit.symm.trans hoi)
      have r10 : b.tmps.getD 10 undef = (.int .i64 1) := rd ((hT.old 10 (by kernel_rfl)).trans t10)
      refine op_go hoi (want_all rfl) fun K hK => ?_
      clear hT hpre hlit hoi
      go_simp
      exact hK _ _ ⟨ks, fun _ _ => rfl, rfl, lc0, lc1, lc2, lc3, lc4, lc5, HB, szw, fs, ss⟩
    · have hlit : (regOps Try.f4 6)[5]? = some ({ dst := some 55, op := Op.indexAddr 39 (Operand.tmp 9) (Operand.tmp 54), type := 0, pos := "law.go:33", after := #[{ on := 4, ground := Ground.data }], guard := none }) := by kernel_rfl
      obtain rfl := Option.some.inj (hlit.symm.trans hoi)
      have r9 : b.tmps.getD 9 undef = (.pointer (some ⟨kl, 0, none⟩)) := rd ((hT.old 9 (by kernel_rfl)).trans t9)
      have r54 : b.tmps.getD 54 undef = (.int .i64 1) := rd (hT.at 4 (by kernel_rfl) (pre_of hpre 4 (by kernel_rfl)))
      refine op_go hoi (want_all rfl) fun K hK => ?_
      clear hT hpre hlit hoi
      go_simp
      exact hK _ _ ⟨ks, fun _ _ => rfl, rfl, lc0, lc1, lc2, lc3, lc4, lc5, HB, szw, fs, ss⟩
    · have hlit : (regOps Try.f4 6)[6]? = some ({ dst := some 56, op := Op.indexAddr 38 (Operand.tmp 55) (Operand.const (Value.int IntKind.i64 1)), type := 0, pos := "law.go:33", after := #[{ on := 5, ground := Ground.data }], guard := none }) := by kernel_rfl
      obtain rfl := Option.some.inj (hlit.symm.trans hoi)
      have r55 : b.tmps.getD 55 undef = (.pointer (some ⟨kl, 6, none⟩)) := rd (hT.at 5 (by kernel_rfl) (pre_of hpre 5 (by kernel_rfl)))
      refine op_go hoi (want_all rfl) fun K hK => ?_
      clear hT hpre hlit hoi
      go_simp
      exact hK _ _ ⟨ks, fun _ _ => rfl, rfl, lc0, lc1, lc2, lc3, lc4, lc5, HB, szw, fs, ss⟩
    · have hlit : (regOps Try.f4 6)[7]? = some ({ dst := some 57, op := Op.load 23 (Operand.tmp 56), type := 23, pos := "law.go:33", after := #[{ on := 6, ground := Ground.data }], guard := none }) := by kernel_rfl
      obtain rfl := Option.some.inj (hlit.symm.trans hoi)
      have r56 : b.tmps.getD 56 undef = (.pointer (some ⟨kl, 8, none⟩)) := rd (hT.at 6 (by kernel_rfl) (pre_of hpre 6 (by kernel_rfl)))
      refine op_go hoi (want_all rfl) fun K hK => ?_
      clear hT hpre hlit hoi
      go_simp
      exact hK _ _ ⟨ks, fun _ _ => rfl, rfl, lc0, lc1, lc2, lc3, lc4, lc5, HB, szw, fs, ss⟩
    · have hlit : (regOps Try.f4 6)[8]? = some ({ dst := some 58, op := Op.move (Operand.tmp 10), type := 3, pos := "law.go:33", after := #[], guard := none }) := by kernel_rfl
      obtain rfl := Option.some.inj (hlit.symm.trans hoi)
      have r10 : b.tmps.getD 10 undef = (.int .i64 1) := rd ((hT.old 10 (by kernel_rfl)).trans t10)
      refine op_go hoi (want_all rfl) fun K hK => ?_
      clear hT hpre hlit hoi
      go_simp
      exact hK _ _ ⟨ks, fun _ _ => rfl, rfl, lc0, lc1, lc2, lc3, lc4, lc5, HB, szw, fs, ss⟩
    · have hlit : (regOps Try.f4 6)[9]? = some ({ dst := some 59, op := Op.indexAddr 39 (Operand.tmp 9) (Operand.tmp 58), type := 0, pos := "law.go:33", after := #[{ on := 8, ground := Ground.data }], guard := none }) := by kernel_rfl
      obtain rfl := Option.some.inj (hlit.symm.trans hoi)
      have r9 : b.tmps.getD 9 undef = (.pointer (some ⟨kl, 0, none⟩)) := rd ((hT.old 9 (by kernel_rfl)).trans t9)
      have r58 : b.tmps.getD 58 undef = (.int .i64 1) := rd (hT.at 8 (by kernel_rfl) (pre_of hpre 8 (by kernel_rfl)))
      refine op_go hoi (want_all rfl) fun K hK => ?_
      clear hT hpre hlit hoi
      go_simp
      exact hK _ _ ⟨ks, fun _ _ => rfl, rfl, lc0, lc1, lc2, lc3, lc4, lc5, HB, szw, fs, ss⟩
    · have hlit : (regOps Try.f4 6)[10]? = some ({ dst := some 60, op := Op.indexAddr 38 (Operand.tmp 59) (Operand.const (Value.int IntKind.i64 2)), type := 0, pos := "law.go:33", after := #[{ on := 9, ground := Ground.data }], guard := none }) := by kernel_rfl
      obtain rfl := Option.some.inj (hlit.symm.trans hoi)
      have r59 : b.tmps.getD 59 undef = (.pointer (some ⟨kl, 6, none⟩)) := rd (hT.at 9 (by kernel_rfl) (pre_of hpre 9 (by kernel_rfl)))
      refine op_go hoi (want_all rfl) fun K hK => ?_
      clear hT hpre hlit hoi
      go_simp
      exact hK _ _ ⟨ks, fun _ _ => rfl, rfl, lc0, lc1, lc2, lc3, lc4, lc5, HB, szw, fs, ss⟩
    · have hlit : (regOps Try.f4 6)[11]? = some ({ dst := some 61, op := Op.load 23 (Operand.tmp 60), type := 23, pos := "law.go:33", after := #[{ on := 10, ground := Ground.data }], guard := none }) := by kernel_rfl
      obtain rfl := Option.some.inj (hlit.symm.trans hoi)
      have r60 : b.tmps.getD 60 undef = (.pointer (some ⟨kl, 10, none⟩)) := rd (hT.at 10 (by kernel_rfl) (pre_of hpre 10 (by kernel_rfl)))
      refine op_go hoi (want_all rfl) fun K hK => ?_
      clear hT hpre hlit hoi
      go_simp
      exact hK _ _ ⟨ks, fun _ _ => rfl, rfl, lc0, lc1, lc2, lc3, lc4, lc5, HB, szw, fs, ss⟩
    · have hlit : (regOps Try.f4 6)[12]? = some ({ dst := some 62, op := Op.call { callee := Callee.value (Operand.func 20), args := #[Operand.tmp 53, Operand.tmp 57, Operand.tmp 61], argTypes := #[23, 23, 23] }, type := 26, pos := "law.go:33", after := #[{ on := 3, ground := Ground.data }, { on := 7, ground := Ground.data }, { on := 11, ground := Ground.data }], guard := none }) := by kernel_rfl
      obtain rfl := Option.some.inj (hlit.symm.trans hoi)
      have r53 : b.tmps.getD 53 undef = (.agg #[.int .i64 d0, .int .i64 d1]) := rd (hT.at 3 (by kernel_rfl) (pre_of hpre 3 (by kernel_rfl)))
      have r57 : b.tmps.getD 57 undef = (.agg #[.int .i64 e0, .int .i64 e1]) := rd (hT.at 7 (by kernel_rfl) (pre_of hpre 7 (by kernel_rfl)))
      have r61 : b.tmps.getD 61 undef = (.agg #[.int .i64 f0, .int .i64 f1]) := rd (hT.at 11 (by kernel_rfl) (pre_of hpre 11 (by kernel_rfl)))
      refine op_go hoi (want_all rfl) fun K hK => ?_
      clear hT hpre hlit hoi
      go_simp
      go_at_call 20
      refine (make20 _ _ _ _ _ _ _).mono ?_; rw [hq1]; rintro e w2 ⟨rfl, hb⟩; replace lc0 := ck hb lc0; replace lc1 := ck hb lc1; replace lc2 := ck hb lc2; replace lc3 := ck hb lc3; replace lc4 := ck hb lc4; replace lc5 := ck hb lc5; replace szw : w.heap.size ≤ w2.heap.size := Nat.le_trans szw hb.size; replace fs : L 16 = true → w.heap.size ≤ ks ∧ w2.frozen? ⟨ks, 0, none⟩ = false ∧ w2.frozen? ⟨ks, 1, none⟩ = false ∧ w2.frozen? ⟨ks, 2, none⟩ = false ∧ w2.frozen? ⟨ks, 3, none⟩ = false ∧ w2.frozen? ⟨ks, 4, none⟩ = false ∧ w2.frozen? ⟨ks, 5, none⟩ = false ∧ ∃ u0 u1 u2 u3 u4 u5 : Int, w2.cell? ⟨ks, 0, none⟩ = some (Value.int .i64 u0) ∧ w2.cell? ⟨ks, 1, none⟩ = some (Value.int .i64 u1) ∧ w2.cell? ⟨ks, 2, none⟩ = some (Value.int .i64 u2) ∧ w2.cell? ⟨ks, 3, none⟩ = some (Value.int .i64 u3) ∧ w2.cell? ⟨ks, 4, none⟩ = some (Value.int .i64 u4) ∧ w2.cell? ⟨ks, 5, none⟩ = some (Value.int .i64 u5) ∧ (L 17 = true → u0 = m0 ∧ u1 = m1 ∧ u2 = m2 ∧ u3 = m3 ∧ u4 = m4 ∧ u5 = m5) := fun h => (by obtain ⟨ge, fz0, fz1, fz2, fz3, fz4, fz5, u0, u1, u2, u3, u4, u5, ce0, ce1, ce2, ce3, ce4, ce5, us⟩ := fs h; exact ⟨ge, cf hb (World.block_lt_of_cell? _ _ ce0) fz0, cf hb (World.block_lt_of_cell? _ _ ce1) fz1, cf hb (World.block_lt_of_cell? _ _ ce2) fz2, cf hb (World.block_lt_of_cell? _ _ ce3) fz3, cf hb (World.block_lt_of_cell? _ _ ce4) fz4, cf hb (World.block_lt_of_cell? _ _ ce5) fz5, u0, u1, u2, u3, u4, u5, ck hb ce0, ck hb ce1, ck hb ce2, ck hb ce3, ck hb ce4, ck hb ce5, us⟩); replace HB : Below W.heap.size W w2 := bt HB hb; clear hb
      exact hK _ _ ⟨ks, fun _ _ => rfl, rfl, lc0, lc1, lc2, lc3, lc4, lc5, HB, szw, fs, ss⟩
    · have hlit : (regOps Try.f4 6)[13]? = some ({ dst := some 49, op := Op.move (Operand.tmp 62), type := 26, pos := "law.go:33", after := #[{ on := 12, ground := Ground.data }], guard := none }) := by kernel_rfl
      obtain rfl := Option.some.inj (hlit.symm.trans hoi)
      have r62 : b.tmps.getD 62 undef = (.tuple #[.agg #[.int .i64 m0, .int .i64 m1, .int .i64 m2, .int .i64 m3, .int .i64 m4, .int .i64 m5], .bool ok]) := rd (hT.at 12 (by kernel_rfl) (pre_of hpre 12 (by kernel_rfl)))
      refine op_go hoi (want_all rfl) fun K hK => ?_
      clear hT hpre hlit hoi
      go_simp
      exact hK _ _ ⟨ks, fun _ _ => rfl, rfl, lc0, lc1, lc2, lc3, lc4, lc5, HB, szw, fs, ss⟩
    · have hlit : (regOps Try.f4 6)[14]? = some ({ dst := some 63, op := Op.extract (Operand.tmp 49) 0, type := 25, pos := "law.go:33", after := #[{ on := 13, ground := Ground.data }], guard := none }) := by kernel_rfl
      obtain rfl := Option.some.inj (hlit.symm.trans hoi)
      have r49 : b.tmps.getD 49 undef = (.tuple #[.agg #[.int .i64 m0, .int .i64 m1, .int .i64 m2, .int .i64 m3, .int .i64 m4, .int .i64 m5], .bool ok]) := rd (hT.at 13 (by kernel_rfl) (pre_of hpre 13 (by kernel_rfl)))
      refine op_go hoi (want_all rfl) fun K hK => ?_
      clear hT hpre hlit hoi
      go_simp
      exact hK _ _ ⟨ks, fun _ _ => rfl, rfl, lc0, lc1, lc2, lc3, lc4, lc5, HB, szw, fs, ss⟩
    · have hlit : (regOps Try.f4 6)[15]? = some ({ dst := some 64, op := Op.extract (Operand.tmp 49) 1, type := 4, pos := "law.go:33", after := #[{ on := 13, ground := Ground.data }, { on := 17, ground := Ground.gcOnly Departure.lateStores }], guard := none }) := by kernel_rfl
      obtain rfl := Option.some.inj (hlit.symm.trans hoi)
      have r49 : b.tmps.getD 49 undef = (.tuple #[.agg #[.int .i64 m0, .int .i64 m1, .int .i64 m2, .int .i64 m3, .int .i64 m4, .int .i64 m5], .bool ok]) := rd (hT.at 13 (by kernel_rfl) (pre_of hpre 13 (by kernel_rfl)))
      refine op_go hoi (want_all rfl) fun K hK => ?_
      clear hT hpre hlit hoi
      go_simp
      exact hK _ _ ⟨ks, fun _ _ => rfl, rfl, lc0, lc1, lc2, lc3, lc4, lc5, HB, szw, fs, ss⟩
    · have hlit : (regOps Try.f4 6)[16]? = some ({ dst := some 11, op := Op.alloc 25, type := 0, pos := "law.go:33", after := #[], guard := none }) := by kernel_rfl
      obtain rfl := Option.some.inj (hlit.symm.trans hoi)
      refine op_go hoi (want_all rfl) fun K hK => ?_
      clear hT hpre hlit hoi
      go_simp
      have lw_lc0 := World.block_lt_of_cell? w' _ lc0
      have lw_lc1 := World.block_lt_of_cell? w' _ lc1
      have lw_lc2 := World.block_lt_of_cell? w' _ lc2
      have lw_lc3 := World.block_lt_of_cell? w' _ lc3
      have lw_lc4 := World.block_lt_of_cell? w' _ lc4
      have lw_lc5 := World.block_lt_of_cell? w' _ lc5
      refine hK _ _ ⟨w'.heap.size, fun j hj => ?_, rfl, by go_simp, by go_simp, by go_simp, by go_simp, by go_simp, by go_simp, ba HB _, by simp; omega, fun _ => ⟨szw, by go_simp, by go_simp, by go_simp, by go_simp, by go_simp, by go_simp, 0, 0, 0, 0, 0, 0, by go_simp, by go_simp, by go_simp, by go_simp, by go_simp, by go_simp, fun h => absurd ((ss h).symm.trans hun) (by decide)⟩, fun _ => rfl⟩
      by_cases e : j = 16
      · subst e; rw [hun] at hj; cases hj
      · unfold region4_6_1V; split <;> first | rfl | (exact absurd rfl e)
    · have hlit : (regOps Try.f4 6)[17]? = some ({ dst := none, op := Op.store 25 (Operand.tmp 11) (Operand.tmp 63), type := 0, pos := "law.go:33", after := #[{ on := 16, ground := Ground.data }, { on := 14, ground := Ground.data }, { on := 12, ground := Ground.chain }, { on := 0, ground := Ground.phase }, { on := 1, ground := Ground.phase }, { on := 2, ground := Ground.phase }, { on := 3, ground := Ground.phase }, { on := 4, ground := Ground.phase }, { on := 5, ground := Ground.phase }, { on := 6, ground := Ground.phase }, { on := 7, ground := Ground.phase }, { on := 8, ground := Ground.phase }, { on := 9, ground := Ground.phase }, { on := 10, ground := Ground.phase }, { on := 11, ground := Ground.phase }, { on := 12, ground := Ground.phase }, { on := 13, ground := Ground.phase }, { on := 14, ground := Ground.phase }, { on := 15, ground := Ground.textOnly Departure.lateStores }, { on := 16, ground := Ground.phase }], guard := none }) := by kernel_rfl
      obtain rfl := Option.some.inj (hlit.symm.trans hoi)
      have r11 : b.tmps.getD 11 undef = (.pointer (some ⟨ks, 0, none⟩)) := rd (hT.at 16 (by kernel_rfl) (pre_of hpre 16 (by kernel_rfl)))
      have r63 : b.tmps.getD 63 undef = (.agg #[.int .i64 m0, .int .i64 m1, .int .i64 m2, .int .i64 m3, .int .i64 m4, .int .i64 m5]) := rd (hT.at 14 (by kernel_rfl) (pre_of hpre 14 (by kernel_rfl)))
      have pr : L 16 = true := pre_of hpre 16 (by kernel_rfl)
      obtain ⟨ge, fz0, fz1, fz2, fz3, fz4, fz5, u0, u1, u2, u3, u4, u5, ce0, ce1, ce2, ce3, ce4, ce5, -⟩ := fs pr
      have ne_kl : ¬ kl = ks := Nat.ne_of_lt (Nat.lt_of_lt_of_le lt_kl ge)
      have nf_kl : ¬ ks = kl := fun h => ne_kl h.symm
      refine op_go hoi (want_all rfl) fun K hK => ?_
      clear hT hpre hlit hoi
      go_simp
      exact hK _ _ ⟨ks, fun _ _ => rfl, rfl, by go_simp, by go_simp, by go_simp, by go_simp, by go_simp, by go_simp, bs (bs (bs (bs (bs (bs (HB) (Nat.le_trans sz0 ge) _) (Nat.le_trans sz0 ge) _) (Nat.le_trans sz0 ge) _) (Nat.le_trans sz0 ge) _) (Nat.le_trans sz0 ge) _) (Nat.le_trans sz0 ge) _, by simp; omega, fun _ => ⟨ge, by go_simp, by go_simp, by go_simp, by go_simp, by go_simp, by go_simp, m0, m1, m2, m3, m4, m5, by go_simp, by go_simp, by go_simp, by go_simp, by go_simp, by go_simp, fun _ => ⟨rfl, rfl, rfl, rfl, rfl, rfl⟩⟩, fun _ => pr⟩
    · have hlit : (regOps Try.f4 6)[18]? = some ({ dst := some 12, op := Op.assign (Operand.tmp 64), type := 4, pos := "law.go:33", after := #[{ on := 15, ground := Ground.data }, { on := 17, ground := Ground.chain }, { on := 0, ground := Ground.phase }, { on := 1, ground := Ground.phase }, { on := 2, ground := Ground.phase }, { on := 3, ground := Ground.phase }, { on := 4, ground := Ground.phase }, { on := 5, ground := Ground.phase }, { on := 6, ground := Ground.phase }, { on := 7, ground := Ground.phase }, { on := 8, ground := Ground.phase }, { on := 9, ground := Ground.phase }, { on := 10, ground := Ground.phase }, { on := 11, ground := Ground.phase }, { on := 12, ground := Ground.phase }, { on := 13, ground := Ground.phase }, { on := 14, ground := Ground.phase }, { on := 15, ground := Ground.phase }, { on := 16, ground := Ground.phase }, { on := 17, ground := Ground.phase }], guard := none }) := by kernel_rfl
      obtain rfl := Option.some.inj (hlit.symm.trans hoi)
      have r64 : b.tmps.getD 64 undef = (.bool ok) := rd (hT.at 15 (by kernel_rfl) (pre_of hpre 15 (by kernel_rfl)))
      refine op_go hoi (want_all rfl) fun K hK => ?_
      clear hT hpre hlit hoi
      go_simp
      exact hK _ _ ⟨ks, fun _ _ => rfl, rfl, lc0, lc1, lc2, lc3, lc4, lc5, HB, szw, fs, ss⟩
  · intro ks b w' hT hS
    rw [hT.all ht]
    have hn : (regOps Try.f4 6).size = 19 := by kernel_rfl
    rw [hn] at hS ⊢
    skip
    skip
    obtain ⟨lc0, lc1, lc2, lc3, lc4, lc5, HB, szw, fs, ss⟩ := hS
    obtain ⟨ges, fzs0, fzs1, fzs2, fzs3, fzs4, fzs5, us0, us1, us2, us3, us4, us5, ces0, ces1, ces2, ces3, ces4, ces5, uss⟩ := fs rfl
    obtain ⟨rfl, rfl, rfl, rfl, rfl, rfl⟩ := uss rfl
    exact he ks w' ⟨lc0, lc1, lc2, lc3, lc4, lc5, HB⟩ ⟨ces0, ces1, ces2, ces3, ces4, ces5, fzs0, fzs1, fzs2, fzs3, fzs4, fzs5, ges⟩

/-- What each operation of the region leaves. -/
def region4_6_2V (d0 d1 e0 e1 f0 f1 m0 m1 m2 m3 m4 m5 : Int) (kl : Nat) (ok : Bool) (ks : Nat) : Nat → Value
  | 0 => .int .i64 2
  | 1 => .pointer (some ⟨kl, 12, none⟩)
  | 2 => .pointer (some ⟨kl, 12, none⟩)
  | 3 => .agg #[.int .i64 d0, .int .i64 d1]
  | 4 => .int .i64 2
  | 5 => .pointer (some ⟨kl, 12, none⟩)
  | 6 => .pointer (some ⟨kl, 14, none⟩)
  | 7 => .agg #[.int .i64 e0, .int .i64 e1]
  | 8 => .int .i64 2
  | 9 => .pointer (some ⟨kl, 12, none⟩)
  | 10 => .pointer (some ⟨kl, 16, none⟩)
  | 11 => .agg #[.int .i64 f0, .int .i64 f1]
  | 12 => .tuple #[.agg #[.int .i64 m0, .int .i64 m1, .int .i64 m2, .int .i64 m3, .int .i64 m4, .int .i64 m5], .bool ok]
  | 13 => .tuple #[.agg #[.int .i64 m0, .int .i64 m1, .int .i64 m2, .int .i64 m3, .int .i64 m4, .int .i64 m5], .bool ok]
  | 14 => .agg #[.int .i64 m0, .int .i64 m1, .int .i64 m2, .int .i64 m3, .int .i64 m4, .int .i64 m5]
  | 15 => .bool ok
  | 16 => .pointer (some ⟨ks, 0, none⟩)
  | 17 => undef
  | 18 => .bool ok
  | _ => undef

set_option maxHeartbeats 4000000 in
set_option maxRecDepth 100000 in
theorem region4_6_2 (d0 d1 e0 e1 f0 f1 m0 m1 m2 m3 m4 m5 : Int) (kl : Nat) (ok : Bool) (W : World) (hq1 : mkT ⟨d0, d1⟩ ⟨e0, e1⟩ ⟨f0, f1⟩ = (⟨⟨m0, m1⟩, ⟨m2, m3⟩, ⟨m4, m5⟩⟩, ok)) {id : Nat} {ops : Array Oper} {Q : Exit → Act → World → Prop} {a : Act} {w : World}
    (ho : ops = (regOps Try.f4 6)) (hsz : a.tmps.size = 151) (t9 : a.tmps[9]? = some (.pointer (some ⟨kl, 0, none⟩))) (t10 : a.tmps[10]? = some (.int .i64 2))
    (h0 : w.cell? ⟨kl, 12, none⟩ = some (.int .i64 d0) ∧ w.cell? ⟨kl, 13, none⟩ = some (.int .i64 d1) ∧ w.cell? ⟨kl, 14, none⟩ = some (.int .i64 e0) ∧ w.cell? ⟨kl, 15, none⟩ = some (.int .i64 e1) ∧ w.cell? ⟨kl, 16, none⟩ = some (.int .i64 f0) ∧ w.cell? ⟨kl, 17, none⟩ = some (.int .i64 f1) ∧ Below W.heap.size W w)
    (he : ∀ ks w', w'.cell? ⟨kl, 12, none⟩ = some (.int .i64 d0) ∧ w'.cell? ⟨kl, 13, none⟩ = some (.int .i64 d1) ∧ w'.cell? ⟨kl, 14, none⟩ = some (.int .i64 e0) ∧ w'.cell? ⟨kl, 15, none⟩ = some (.int .i64 e1) ∧ w'.cell? ⟨kl, 16, none⟩ = some (.int .i64 f0) ∧ w'.cell? ⟨kl, 17, none⟩ = some (.int .i64 f1) ∧ Below W.heap.size W w' → w'.cell? ⟨ks, 0, none⟩ = some (.int .i64 m0) ∧ w'.cell? ⟨ks, 1, none⟩ = some (.int .i64 m1) ∧ w'.cell? ⟨ks, 2, none⟩ = some (.int .i64 m2) ∧ w'.cell? ⟨ks, 3, none⟩ = some (.int .i64 m3) ∧ w'.cell? ⟨ks, 4, none⟩ = some (.int .i64 m4) ∧ w'.cell? ⟨ks, 5, none⟩ = some (.int .i64 m5) ∧ w'.frozen? ⟨ks, 0, none⟩ = false ∧ w'.frozen? ⟨ks, 1, none⟩ = false ∧ w'.frozen? ⟨ks, 2, none⟩ = false ∧ w'.frozen? ⟨ks, 3, none⟩ = false ∧ w'.frozen? ⟨ks, 4, none⟩ = false ∧ w'.frozen? ⟨ks, 5, none⟩ = false ∧ w.heap.size ≤ ks → Q .normal ⟨((((((((((((((((((a.tmps.setIfInBounds 50 (.int .i64 2)).setIfInBounds 51 (.pointer (some ⟨kl, 12, none⟩))).setIfInBounds 52 (.pointer (some ⟨kl, 12, none⟩))).setIfInBounds 53 (.agg #[.int .i64 d0, .int .i64 d1])).setIfInBounds 54 (.int .i64 2)).setIfInBounds 55 (.pointer (some ⟨kl, 12, none⟩))).setIfInBounds 56 (.pointer (some ⟨kl, 14, none⟩))).setIfInBounds 57 (.agg #[.int .i64 e0, .int .i64 e1])).setIfInBounds 58 (.int .i64 2)).setIfInBounds 59 (.pointer (some ⟨kl, 12, none⟩))).setIfInBounds 60 (.pointer (some ⟨kl, 16, none⟩))).setIfInBounds 61 (.agg #[.int .i64 f0, .int .i64 f1])).setIfInBounds 62 (.tuple #[.agg #[.int .i64 m0, .int .i64 m1, .int .i64 m2, .int .i64 m3, .int .i64 m4, .int .i64 m5], .bool ok])).setIfInBounds 49 (.tuple #[.agg #[.int .i64 m0, .int .i64 m1, .int .i64 m2, .int .i64 m3, .int .i64 m4, .int .i64 m5], .bool ok])).setIfInBounds 63 (.agg #[.int .i64 m0, .int .i64 m1, .int .i64 m2, .int .i64 m3, .int .i64 m4, .int .i64 m5])).setIfInBounds 64 (.bool ok)).setIfInBounds 11 (.pointer (some ⟨ks, 0, none⟩))).setIfInBounds 12 (.bool ok)), a.defers⟩ w') :
    (Code.region id ops true).wp Try.prog Q a w := by
  have ht : tidy (regOps Try.f4 6) a.tmps.size = true := by rw [hsz]; kernel_rfl
  obtain ⟨lc0, lc1, lc2, lc3, lc4, lc5, HB0⟩ := h0
  have lt_kl := World.block_lt_of_cell? w _ lc0
  have sz0 := HB0.size
  refine region_tab (G := Nat) (fun g => (region4_6_2V d0 d1 e0 e1 f0 f1 m0 m1 m2 m3 m4 m5 kl ok g)) (fun g L w' => w'.cell? ⟨kl, 12, none⟩ = some (.int .i64 d0) ∧ w'.cell? ⟨kl, 13, none⟩ = some (.int .i64 d1) ∧ w'.cell? ⟨kl, 14, none⟩ = some (.int .i64 e0) ∧ w'.cell? ⟨kl, 15, none⟩ = some (.int .i64 e1) ∧ w'.cell? ⟨kl, 16, none⟩ = some (.int .i64 f0) ∧ w'.cell? ⟨kl, 17, none⟩ = some (.int .i64 f1) ∧ Below W.heap.size W w' ∧ w.heap.size ≤ w'.heap.size ∧ (L 16 = true → w.heap.size ≤ g ∧ w'.frozen? ⟨g, 0, none⟩ = false ∧ w'.frozen? ⟨g, 1, none⟩ = false ∧ w'.frozen? ⟨g, 2, none⟩ = false ∧ w'.frozen? ⟨g, 3, none⟩ = false ∧ w'.frozen? ⟨g, 4, none⟩ = false ∧ w'.frozen? ⟨g, 5, none⟩ = false ∧ ∃ u0 u1 u2 u3 u4 u5 : Int, w'.cell? ⟨g, 0, none⟩ = some (.int .i64 u0) ∧ w'.cell? ⟨g, 1, none⟩ = some (.int .i64 u1) ∧ w'.cell? ⟨g, 2, none⟩ = some (.int .i64 u2) ∧ w'.cell? ⟨g, 3, none⟩ = some (.int .i64 u3) ∧ w'.cell? ⟨g, 4, none⟩ = some (.int .i64 u4) ∧ w'.cell? ⟨g, 5, none⟩ = some (.int .i64 u5) ∧ (L 17 = true → u0 = m0 ∧ u1 = m1 ∧ u2 = m2 ∧ u3 = m3 ∧ u4 = m4 ∧ u5 = m5)) ∧ (L 17 = true → L 16 = true)) 0 (by kernel_rfl) ho ht ⟨lc0, lc1, lc2, lc3, lc4, lc5, bd HB0, Nat.le_refl _, fun h => (by cases h), fun h => (by cases h)⟩ ?_ ?_
  · intro i o hoi ks L b w' hun hpre hT hS
    clear he lc0 lc1 lc2 lc3 lc4 lc5 ho hsz ht HB0
    have hi : i < (regOps Try.f4 6).size := (Array.getElem?_eq_some_iff.1 hoi).1
    rw [show (regOps Try.f4 6).size = 19 by kernel_rfl] at hi
    skip
    skip
    obtain ⟨lc0, lc1, lc2, lc3, lc4, lc5, HB, szw, fs, ss⟩ := hS
    have hcases : i = 0 ∨ i = 1 ∨ i = 2 ∨ i = 3 ∨ i = 4 ∨ i = 5 ∨ i = 6 ∨ i = 7 ∨ i = 8 ∨ i = 9 ∨ i = 10 ∨ i = 11 ∨ i = 12 ∨ i = 13 ∨ i = 14 ∨ i = 15 ∨ i = 16 ∨ i = 17 ∨ i = 18 := by omega
    rcases hcases with rfl | rfl | rfl | rfl | rfl | rfl | rfl | rfl | rfl | rfl | rfl | rfl | rfl | rfl | rfl | rfl | rfl | rfl | rfl
    · have hlit : (regOps Try.f4 6)[0]? = some ({ dst := some 50, op := Op.move (Operand.tmp 10), type := 3, pos := "law.go:33", after := #[], guard := none }) := by kernel_rfl
      obtain rfl := Option.some.inj (hlit.symm.trans hoi)
      have r10 : b.tmps.getD 10 undef = (.int .i64 2) := rd ((hT.old 10 (by kernel_rfl)).trans t10)
      refine op_go hoi (want_all rfl) fun K hK => ?_
      clear hT hpre hlit hoi
      go_simp
      exact hK _ _ ⟨ks, fun _ _ => rfl, rfl, lc0, lc1, lc2, lc3, lc4, lc5, HB, szw, fs, ss⟩
    · have hlit : (regOps Try.f4 6)[1]? = some ({ dst := some 51, op := Op.indexAddr 39 (Operand.tmp 9) (Operand.tmp 50), type := 0, pos := "law.go:33", after := #[{ on := 0, ground := Ground.data }], guard := none }) := by kernel_rfl
      obtain rfl := Option.some.inj (hlit.symm.trans hoi)
      have r9 : b.tmps.getD 9 undef = (.pointer (some ⟨kl, 0, none⟩)) := rd ((hT.old 9 (by kernel_rfl)).trans t9)
      have r50 : b.tmps.getD 50 undef = (.int .i64 2) := rd (hT.at 0 (by kernel_rfl) (pre_of hpre 0 (by kernel_rfl)))
      refine op_go hoi (want_all rfl) fun K hK => ?_
      clear hT hpre hlit hoi
      go_simp
      exact hK _ _ ⟨ks, fun _ _ => rfl, rfl, lc0, lc1, lc2, lc3, lc4, lc5, HB, szw, fs, ss⟩
    · have hlit : (regOps Try.f4 6)[2]? = some ({ dst := some 52, op := Op.indexAddr 38 (Operand.tmp 51) (Operand.const (Value.int IntKind.i64 0)), type := 0, pos := "law.go:33", after := #[{ on := 1, ground := Ground.data }], guard := none }) := by kernel_rfl
      obtain rfl := Option.some.inj (hlit.symm.trans hoi)
      have r51 : b.tmps.getD 51 undef = (.pointer (some ⟨kl, 12, none⟩)) := rd (hT.at 1 (by kernel_rfl) (pre_of hpre 1 (by kernel_rfl)))
      refine op_go hoi (want_all rfl) fun K hK => ?_
      clear hT hpre hlit hoi
      go_simp
      exact hK _ _ ⟨ks, fun _ _ => rfl, rfl, lc0, lc1, lc2, lc3, lc4, lc5, HB, szw, fs, ss⟩
    · have hlit : (regOps Try.f4 6)[3]? = some ({ dst := some 53, op := Op.load 23 (Operand.tmp 52), type := 23, pos := "law.go:33", after := #[{ on := 2, ground := Ground.data }], guard := none }) := by kernel_rfl
      obtain rfl := Option.some.inj (hlit.symm.trans hoi)
      have r52 : b.tmps.getD 52 undef = (.pointer (some ⟨kl, 12, none⟩)) := rd (hT.at 2 (by kernel_rfl) (pre_of hpre 2 (by kernel_rfl)))
      refine op_go hoi (want_all rfl) fun K hK => ?_
      clear hT hpre hlit hoi
      go_simp
      exact hK _ _ ⟨ks, fun _ _ => rfl, rfl, lc0, lc1, lc2, lc3, lc4, lc5, HB, szw, fs, ss⟩
    · have hlit : (regOps Try.f4 6)[4]? = some ({ dst := some 54, op := Op.move (Operand.tmp 10), type := 3, pos := "law.go:33", after := #[], guard := none }) := by kernel_rfl
      obtain rfl := Option.some.inj (hlit.symm.trans hoi)
      have r10 : b.tmps.getD 10 undef = (.int .i64 2) := rd ((hT.old 10 (by kernel_rfl)).trans t10)
      refine op_go hoi (want_all rfl) fun K hK => ?_
      clear hT hpre hlit hoi
      go_simp
      exact hK _ _ ⟨ks, fun _ _ => rfl, rfl, lc0, lc1, lc2, lc3, lc4, lc5, HB, szw, fs, ss⟩
    · have hlit : (regOps Try.f4 6)[5]? = some ({ dst := some 55, op := Op.indexAddr 39 (Operand.tmp 9) (Operand.tmp 54), type := 0, pos := "law.go:33", after := #[{ on := 4, ground := Ground.data }], guard := none }) := by kernel_rfl
      obtain rfl := Option.some.inj (hlit.symm.trans hoi)
      have r9 : b.tmps.getD 9 undef = (.pointer (some ⟨kl, 0, none⟩)) := rd ((hT.old 9 (by kernel_rfl)).trans t9)
      have r54 : b.tmps.getD 54 undef = (.int .i64 2) := rd (hT.at 4 (by kernel_rfl) (pre_of hpre 4 (by kernel_rfl)))
      refine op_go hoi (want_all rfl) fun K hK => ?_
      clear hT hpre hlit hoi
      go_simp
      exact hK _ _ ⟨ks, fun _ _ => rfl, rfl, lc0, lc1, lc2, lc3, lc4, lc5, HB, szw, fs, ss⟩
    · have hlit : (regOps Try.f4 6)[6]? = some ({ dst := some 56, op := Op.indexAddr 38 (Operand.tmp 55) (Operand.const (Value.int IntKind.i64 1)), type := 0, pos := "law.go:33", after := #[{ on := 5, ground := Ground.data }], guard := none }) := by kernel_rfl
      obtain rfl := Option.some.inj (hlit.symm.trans hoi)
      have r55 : b.tmps.getD 55 undef = (.pointer (some ⟨kl, 12, none⟩)) := rd (hT.at 5 (by kernel_rfl) (pre_of hpre 5 (by kernel_rfl)))
      refine op_go hoi (want_all rfl) fun K hK => ?_
      clear hT hpre hlit hoi
      go_simp
      exact hK _ _ ⟨ks, fun _ _ => rfl, rfl, lc0, lc1, lc2, lc3, lc4, lc5, HB, szw, fs, ss⟩
    · have hlit : (regOps Try.f4 6)[7]? = some ({ dst := some 57, op := Op.load 23 (Operand.tmp 56), type := 23, pos := "law.go:33", after := #[{ on := 6, ground := Ground.data }], guard := none }) := by kernel_rfl
      obtain rfl := Option.some.inj (hlit.symm.trans hoi)
      have r56 : b.tmps.getD 56 undef = (.pointer (some ⟨kl, 14, none⟩)) := rd (hT.at 6 (by kernel_rfl) (pre_of hpre 6 (by kernel_rfl)))
      refine op_go hoi (want_all rfl) fun K hK => ?_
      clear hT hpre hlit hoi
      go_simp
      exact hK _ _ ⟨ks, fun _ _ => rfl, rfl, lc0, lc1, lc2, lc3, lc4, lc5, HB, szw, fs, ss⟩
    · have hlit : (regOps Try.f4 6)[8]? = some ({ dst := some 58, op := Op.move (Operand.tmp 10), type := 3, pos := "law.go:33", after := #[], guard := none }) := by kernel_rfl
      obtain rfl := Option.some.inj (hlit.symm.trans hoi)
      have r10 : b.tmps.getD 10 undef = (.int .i64 2) := rd ((hT.old 10 (by kernel_rfl)).trans t10)
      refine op_go hoi (want_all rfl) fun K hK => ?_
      clear hT hpre hlit hoi
      go_simp
      exact hK _ _ ⟨ks, fun _ _ => rfl, rfl, lc0, lc1, lc2, lc3, lc4, lc5, HB, szw, fs, ss⟩
    · have hlit : (regOps Try.f4 6)[9]? = some ({ dst := some 59, op := Op.indexAddr 39 (Operand.tmp 9) (Operand.tmp 58), type := 0, pos := "law.go:33", after := #[{ on := 8, ground := Ground.data }], guard := none }) := by kernel_rfl
      obtain rfl := Option.some.inj (hlit.symm.trans hoi)
      have r9 : b.tmps.getD 9 undef = (.pointer (some ⟨kl, 0, none⟩)) := rd ((hT.old 9 (by kernel_rfl)).trans t9)
      have r58 : b.tmps.getD 58 undef = (.int .i64 2) := rd (hT.at 8 (by kernel_rfl) (pre_of hpre 8 (by kernel_rfl)))
      refine op_go hoi (want_all rfl) fun K hK => ?_
      clear hT hpre hlit hoi
      go_simp
      exact hK _ _ ⟨ks, fun _ _ => rfl, rfl, lc0, lc1, lc2, lc3, lc4, lc5, HB, szw, fs, ss⟩
    · have hlit : (regOps Try.f4 6)[10]? = some ({ dst := some 60, op := Op.indexAddr 38 (Operand.tmp 59) (Operand.const (Value.int IntKind.i64 2)), type := 0, pos := "law.go:33", after := #[{ on := 9, ground := Ground.data }], guard := none }) := by kernel_rfl
      obtain rfl := Option.some.inj (hlit.symm.trans hoi)
      have r59 : b.tmps.getD 59 undef = (.pointer (some ⟨kl, 12, none⟩)) := rd (hT.at 9 (by kernel_rfl) (pre_of hpre 9 (by kernel_rfl)))
      refine op_go hoi (want_all rfl) fun K hK => ?_
      clear hT hpre hlit hoi
      go_simp
      exact hK _ _ ⟨ks, fun _ _ => rfl, rfl, lc0, lc1, lc2, lc3, lc4, lc5, HB, szw, fs, ss⟩
    · have hlit : (regOps Try.f4 6)[11]? = some ({ dst := some 61, op := Op.load 23 (Operand.tmp 60), type := 23, pos := "law.go:33", after := #[{ on := 10, ground := Ground.data }], guard := none }) := by kernel_rfl
      obtain rfl := Option.some.inj (hlit.symm.trans hoi)
      have r60 : b.tmps.getD 60 undef = (.pointer (some ⟨kl, 16, none⟩)) := rd (hT.at 10 (by kernel_rfl) (pre_of hpre 10 (by kernel_rfl)))
      refine op_go hoi (want_all rfl) fun K hK => ?_
      clear hT hpre hlit hoi
      go_simp
      exact hK _ _ ⟨ks, fun _ _ => rfl, rfl, lc0, lc1, lc2, lc3, lc4, lc5, HB, szw, fs, ss⟩
    · have hlit : (regOps Try.f4 6)[12]? = some ({ dst := some 62, op := Op.call { callee := Callee.value (Operand.func 20), args := #[Operand.tmp 53, Operand.tmp 57, Operand.tmp 61], argTypes := #[23, 23, 23] }, type := 26, pos := "law.go:33", after := #[{ on := 3, ground := Ground.data }, { on := 7, ground := Ground.data }, { on := 11, ground := Ground.data }], guard := none }) := by kernel_rfl
      obtain rfl := Option.some.inj (hlit.symm.trans hoi)
      have r53 : b.tmps.getD 53 undef = (.agg #[.int .i64 d0, .int .i64 d1]) := rd (hT.at 3 (by kernel_rfl) (pre_of hpre 3 (by kernel_rfl)))
      have r57 : b.tmps.getD 57 undef = (.agg #[.int .i64 e0, .int .i64 e1]) := rd (hT.at 7 (by kernel_rfl) (pre_of hpre 7 (by kernel_rfl)))
      have r61 : b.tmps.getD 61 undef = (.agg #[.int .i64 f0, .int .i64 f1]) := rd (hT.at 11 (by kernel_rfl) (pre_of hpre 11 (by kernel_rfl)))
      refine op_go hoi (want_all rfl) fun K hK => ?_
      clear hT hpre hlit hoi
      go_simp
      go_at_call 20
      refine (make20 _ _ _ _ _ _ _).mono ?_; rw [hq1]; rintro e w2 ⟨rfl, hb⟩; replace lc0 := ck hb lc0; replace lc1 := ck hb lc1; replace lc2 := ck hb lc2; replace lc3 := ck hb lc3; replace lc4 := ck hb lc4; replace lc5 := ck hb lc5; replace szw : w.heap.size ≤ w2.heap.size := Nat.le_trans szw hb.size; replace fs : L 16 = true → w.heap.size ≤ ks ∧ w2.frozen? ⟨ks, 0, none⟩ = false ∧ w2.frozen? ⟨ks, 1, none⟩ = false ∧ w2.frozen? ⟨ks, 2, none⟩ = false ∧ w2.frozen? ⟨ks, 3, none⟩ = false ∧ w2.frozen? ⟨ks, 4, none⟩ = false ∧ w2.frozen? ⟨ks, 5, none⟩ = false ∧ ∃ u0 u1 u2 u3 u4 u5 : Int, w2.cell? ⟨ks, 0, none⟩ = some (Value.int .i64 u0) ∧ w2.cell? ⟨ks, 1, none⟩ = some (Value.int .i64 u1) ∧ w2.cell? ⟨ks, 2, none⟩ = some (Value.int .i64 u2) ∧ w2.cell? ⟨ks, 3, none⟩ = some (Value.int .i64 u3) ∧ w2.cell? ⟨ks, 4, none⟩ = some (Value.int .i64 u4) ∧ w2.cell? ⟨ks, 5, none⟩ = some (Value.int .i64 u5) ∧ (L 17 = true → u0 = m0 ∧ u1 = m1 ∧ u2 = m2 ∧ u3 = m3 ∧ u4 = m4 ∧ u5 = m5) := fun h => (by obtain ⟨ge, fz0, fz1, fz2, fz3, fz4, fz5, u0, u1, u2, u3, u4, u5, ce0, ce1, ce2, ce3, ce4, ce5, us⟩ := fs h; exact ⟨ge, cf hb (World.block_lt_of_cell? _ _ ce0) fz0, cf hb (World.block_lt_of_cell? _ _ ce1) fz1, cf hb (World.block_lt_of_cell? _ _ ce2) fz2, cf hb (World.block_lt_of_cell? _ _ ce3) fz3, cf hb (World.block_lt_of_cell? _ _ ce4) fz4, cf hb (World.block_lt_of_cell? _ _ ce5) fz5, u0, u1, u2, u3, u4, u5, ck hb ce0, ck hb ce1, ck hb ce2, ck hb ce3, ck hb ce4, ck hb ce5, us⟩); replace HB : Below W.heap.size W w2 := bt HB hb; clear hb
      exact hK _ _ ⟨ks, fun _ _ => rfl, rfl, lc0, lc1, lc2, lc3, lc4, lc5, HB, szw, fs, ss⟩
    · have hlit : (regOps Try.f4 6)[13]? = some ({ dst := some 49, op := Op.move (Operand.tmp 62), type := 26, pos := "law.go:33", after := #[{ on := 12, ground := Ground.data }], guard := none }) := by kernel_rfl
      obtain rfl := Option.some.inj (hlit.symm.trans hoi)
      have r62 : b.tmps.getD 62 undef = (.tuple #[.agg #[.int .i64 m0, .int .i64 m1, .int .i64 m2, .int .i64 m3, .int .i64 m4, .int .i64 m5], .bool ok]) := rd (hT.at 12 (by kernel_rfl) (pre_of hpre 12 (by kernel_rfl)))
      refine op_go hoi (want_all rfl) fun K hK => ?_
      clear hT hpre hlit hoi
      go_simp
      exact hK _ _ ⟨ks, fun _ _ => rfl, rfl, lc0, lc1, lc2, lc3, lc4, lc5, HB, szw, fs, ss⟩
    · have hlit : (regOps Try.f4 6)[14]? = some ({ dst := some 63, op := Op.extract (Operand.tmp 49) 0, type := 25, pos := "law.go:33", after := #[{ on := 13, ground := Ground.data }], guard := none }) := by kernel_rfl
      obtain rfl := Option.some.inj (hlit.symm.trans hoi)
      have r49 : b.tmps.getD 49 undef = (.tuple #[.agg #[.int .i64 m0, .int .i64 m1, .int .i64 m2, .int .i64 m3, .int .i64 m4, .int .i64 m5], .bool ok]) := rd (hT.at 13 (by kernel_rfl) (pre_of hpre 13 (by kernel_rfl)))
      refine op_go hoi (want_all rfl) fun K hK => ?_
      clear hT hpre hlit hoi
      go_simp
      exact hK _ _ ⟨ks, fun _ _ => rfl, rfl, lc0, lc1, lc2, lc3, lc4, lc5, HB, szw, fs, ss⟩
    · have hlit : (regOps Try.f4 6)[15]? = some ({ dst := some 64, op := Op.extract (Operand.tmp 49) 1, type := 4, pos := "law.go:33", after := #[{ on := 13, ground := Ground.data }, { on := 17, ground := Ground.gcOnly Departure.lateStores }], guard := none }) := by kernel_rfl
      obtain rfl := Option.some.inj (hlit.symm.trans hoi)
      have r49 : b.tmps.getD 49 undef = (.tuple #[.agg #[.int .i64 m0, .int .i64 m1, .int .i64 m2, .int .i64 m3, .int .i64 m4, .int .i64 m5], .bool ok]) := rd (hT.at 13 (by kernel_rfl) (pre_of hpre 13 (by kernel_rfl)))
      refine op_go hoi (want_all rfl) fun K hK => ?_
      clear hT hpre hlit hoi
      go_simp
      exact hK _ _ ⟨ks, fun _ _ => rfl, rfl, lc0, lc1, lc2, lc3, lc4, lc5, HB, szw, fs, ss⟩
    · have hlit : (regOps Try.f4 6)[16]? = some ({ dst := some 11, op := Op.alloc 25, type := 0, pos := "law.go:33", after := #[], guard := none }) := by kernel_rfl
      obtain rfl := Option.some.inj (hlit.symm.trans hoi)
      refine op_go hoi (want_all rfl) fun K hK => ?_
      clear hT hpre hlit hoi
      go_simp
      have lw_lc0 := World.block_lt_of_cell? w' _ lc0
      have lw_lc1 := World.block_lt_of_cell? w' _ lc1
      have lw_lc2 := World.block_lt_of_cell? w' _ lc2
      have lw_lc3 := World.block_lt_of_cell? w' _ lc3
      have lw_lc4 := World.block_lt_of_cell? w' _ lc4
      have lw_lc5 := World.block_lt_of_cell? w' _ lc5
      refine hK _ _ ⟨w'.heap.size, fun j hj => ?_, rfl, by go_simp, by go_simp, by go_simp, by go_simp, by go_simp, by go_simp, ba HB _, by simp; omega, fun _ => ⟨szw, by go_simp, by go_simp, by go_simp, by go_simp, by go_simp, by go_simp, 0, 0, 0, 0, 0, 0, by go_simp, by go_simp, by go_simp, by go_simp, by go_simp, by go_simp, fun h => absurd ((ss h).symm.trans hun) (by decide)⟩, fun _ => rfl⟩
      by_cases e : j = 16
      · subst e; rw [hun] at hj; cases hj
      · unfold region4_6_2V; split <;> first | rfl | (exact absurd rfl e)
    · have hlit : (regOps Try.f4 6)[17]? = some ({ dst := none, op := Op.store 25 (Operand.tmp 11) (Operand.tmp 63), type := 0, pos := "law.go:33", after := #[{ on := 16, ground := Ground.data }, { on := 14, ground := Ground.data }, { on := 12, ground := Ground.chain }, { on := 0, ground := Ground.phase }, { on := 1, ground := Ground.phase }, { on := 2, ground := Ground.phase }, { on := 3, ground := Ground.phase }, { on := 4, ground := Ground.phase }, { on := 5, ground := Ground.phase }, { on := 6, ground := Ground.phase }, { on := 7, ground := Ground.phase }, { on := 8, ground := Ground.phase }, { on := 9, ground := Ground.phase }, { on := 10, ground := Ground.phase }, { on := 11, ground := Ground.phase }, { on := 12, ground := Ground.phase }, { on := 13, ground := Ground.phase }, { on := 14, ground := Ground.phase }, { on := 15, ground := Ground.textOnly Departure.lateStores }, { on := 16, ground := Ground.phase }], guard := none }) := by kernel_rfl
      obtain rfl := Option.some.inj (hlit.symm.trans hoi)
      have r11 : b.tmps.getD 11 undef = (.pointer (some ⟨ks, 0, none⟩)) := rd (hT.at 16 (by kernel_rfl) (pre_of hpre 16 (by kernel_rfl)))
      have r63 : b.tmps.getD 63 undef = (.agg #[.int .i64 m0, .int .i64 m1, .int .i64 m2, .int .i64 m3, .int .i64 m4, .int .i64 m5]) := rd (hT.at 14 (by kernel_rfl) (pre_of hpre 14 (by kernel_rfl)))
      have pr : L 16 = true := pre_of hpre 16 (by kernel_rfl)
      obtain ⟨ge, fz0, fz1, fz2, fz3, fz4, fz5, u0, u1, u2, u3, u4, u5, ce0, ce1, ce2, ce3, ce4, ce5, -⟩ := fs pr
      have ne_kl : ¬ kl = ks := Nat.ne_of_lt (Nat.lt_of_lt_of_le lt_kl ge)
      have nf_kl : ¬ ks = kl := fun h => ne_kl h.symm
      refine op_go hoi (want_all rfl) fun K hK => ?_
      clear hT hpre hlit hoi
      go_simp
      exact hK _ _ ⟨ks, fun _ _ => rfl, rfl, by go_simp, by go_simp, by go_simp, by go_simp, by go_simp, by go_simp, bs (bs (bs (bs (bs (bs (HB) (Nat.le_trans sz0 ge) _) (Nat.le_trans sz0 ge) _) (Nat.le_trans sz0 ge) _) (Nat.le_trans sz0 ge) _) (Nat.le_trans sz0 ge) _) (Nat.le_trans sz0 ge) _, by simp; omega, fun _ => ⟨ge, by go_simp, by go_simp, by go_simp, by go_simp, by go_simp, by go_simp, m0, m1, m2, m3, m4, m5, by go_simp, by go_simp, by go_simp, by go_simp, by go_simp, by go_simp, fun _ => ⟨rfl, rfl, rfl, rfl, rfl, rfl⟩⟩, fun _ => pr⟩
    · have hlit : (regOps Try.f4 6)[18]? = some ({ dst := some 12, op := Op.assign (Operand.tmp 64), type := 4, pos := "law.go:33", after := #[{ on := 15, ground := Ground.data }, { on := 17, ground := Ground.chain }, { on := 0, ground := Ground.phase }, { on := 1, ground := Ground.phase }, { on := 2, ground := Ground.phase }, { on := 3, ground := Ground.phase }, { on := 4, ground := Ground.phase }, { on := 5, ground := Ground.phase }, { on := 6, ground := Ground.phase }, { on := 7, ground := Ground.phase }, { on := 8, ground := Ground.phase }, { on := 9, ground := Ground.phase }, { on := 10, ground := Ground.phase }, { on := 11, ground := Ground.phase }, { on := 12, ground := Ground.phase }, { on := 13, ground := Ground.phase }, { on := 14, ground := Ground.phase }, { on := 15, ground := Ground.phase }, { on := 16, ground := Ground.phase }, { on := 17, ground := Ground.phase }], guard := none }) := by kernel_rfl
      obtain rfl := Option.some.inj (hlit.symm.trans hoi)
      have r64 : b.tmps.getD 64 undef = (.bool ok) := rd (hT.at 15 (by kernel_rfl) (pre_of hpre 15 (by kernel_rfl)))
      refine op_go hoi (want_all rfl) fun K hK => ?_
      clear hT hpre hlit hoi
      go_simp
      exact hK _ _ ⟨ks, fun _ _ => rfl, rfl, lc0, lc1, lc2, lc3, lc4, lc5, HB, szw, fs, ss⟩
  · intro ks b w' hT hS
    rw [hT.all ht]
    have hn : (regOps Try.f4 6).size = 19 := by kernel_rfl
    rw [hn] at hS ⊢
    skip
    skip
    obtain ⟨lc0, lc1, lc2, lc3, lc4, lc5, HB, szw, fs, ss⟩ := hS
    obtain ⟨ges, fzs0, fzs1, fzs2, fzs3, fzs4, fzs5, us0, us1, us2, us3, us4, us5, ces0, ces1, ces2, ces3, ces4, ces5, uss⟩ := fs rfl
    obtain ⟨rfl, rfl, rfl, rfl, rfl, rfl⟩ := uss rfl
    exact he ks w' ⟨lc0, lc1, lc2, lc3, lc4, lc5, HB⟩ ⟨ces0, ces1, ces2, ces3, ces4, ces5, fzs0, fzs1, fzs2, fzs3, fzs4, fzs5, ges⟩

/-- What each operation of the region leaves. -/
def region4_6_3V (d0 d1 e0 e1 f0 f1 m0 m1 m2 m3 m4 m5 : Int) (kl : Nat) (ok : Bool) (ks : Nat) : Nat → Value
  | 0 => .int .i64 3
  | 1 => .pointer (some ⟨kl, 18, none⟩)
  | 2 => .pointer (some ⟨kl, 18, none⟩)
  | 3 => .agg #[.int .i64 d0, .int .i64 d1]
  | 4 => .int .i64 3
  | 5 => .pointer (some ⟨kl, 18, none⟩)
  | 6 => .pointer (some ⟨kl, 20, none⟩)
  | 7 => .agg #[.int .i64 e0, .int .i64 e1]
  | 8 => .int .i64 3
  | 9 => .pointer (some ⟨kl, 18, none⟩)
  | 10 => .pointer (some ⟨kl, 22, none⟩)
  | 11 => .agg #[.int .i64 f0, .int .i64 f1]
  | 12 => .tuple #[.agg #[.int .i64 m0, .int .i64 m1, .int .i64 m2, .int .i64 m3, .int .i64 m4, .int .i64 m5], .bool ok]
  | 13 => .tuple #[.agg #[.int .i64 m0, .int .i64 m1, .int .i64 m2, .int .i64 m3, .int .i64 m4, .int .i64 m5], .bool ok]
  | 14 => .agg #[.int .i64 m0, .int .i64 m1, .int .i64 m2, .int .i64 m3, .int .i64 m4, .int .i64 m5]
  | 15 => .bool ok
  | 16 => .pointer (some ⟨ks, 0, none⟩)
  | 17 => undef
  | 18 => .bool ok
  | _ => undef

set_option maxHeartbeats 4000000 in
set_option maxRecDepth 100000 in
theorem region4_6_3 (d0 d1 e0 e1 f0 f1 m0 m1 m2 m3 m4 m5 : Int) (kl : Nat) (ok : Bool) (W : World) (hq1 : mkT ⟨d0, d1⟩ ⟨e0, e1⟩ ⟨f0, f1⟩ = (⟨⟨m0, m1⟩, ⟨m2, m3⟩, ⟨m4, m5⟩⟩, ok)) {id : Nat} {ops : Array Oper} {Q : Exit → Act → World → Prop} {a : Act} {w : World}
    (ho : ops = (regOps Try.f4 6)) (hsz : a.tmps.size = 151) (t9 : a.tmps[9]? = some (.pointer (some ⟨kl, 0, none⟩))) (t10 : a.tmps[10]? = some (.int .i64 3))
    (h0 : w.cell? ⟨kl, 18, none⟩ = some (.int .i64 d0) ∧ w.cell? ⟨kl, 19, none⟩ = some (.int .i64 d1) ∧ w.cell? ⟨kl, 20, none⟩ = some (.int .i64 e0) ∧ w.cell? ⟨kl, 21, none⟩ = some (.int .i64 e1) ∧ w.cell? ⟨kl, 22, none⟩ = some (.int .i64 f0) ∧ w.cell? ⟨kl, 23, none⟩ = some (.int .i64 f1) ∧ Below W.heap.size W w)
    (he : ∀ ks w', w'.cell? ⟨kl, 18, none⟩ = some (.int .i64 d0) ∧ w'.cell? ⟨kl, 19, none⟩ = some (.int .i64 d1) ∧ w'.cell? ⟨kl, 20, none⟩ = some (.int .i64 e0) ∧ w'.cell? ⟨kl, 21, none⟩ = some (.int .i64 e1) ∧ w'.cell? ⟨kl, 22, none⟩ = some (.int .i64 f0) ∧ w'.cell? ⟨kl, 23, none⟩ = some (.int .i64 f1) ∧ Below W.heap.size W w' → w'.cell? ⟨ks, 0, none⟩ = some (.int .i64 m0) ∧ w'.cell? ⟨ks, 1, none⟩ = some (.int .i64 m1) ∧ w'.cell? ⟨ks, 2, none⟩ = some (.int .i64 m2) ∧ w'.cell? ⟨ks, 3, none⟩ = some (.int .i64 m3) ∧ w'.cell? ⟨ks, 4, none⟩ = some (.int .i64 m4) ∧ w'.cell? ⟨ks, 5, none⟩ = some (.int .i64 m5) ∧ w'.frozen? ⟨ks, 0, none⟩ = false ∧ w'.frozen? ⟨ks, 1, none⟩ = false ∧ w'.frozen? ⟨ks, 2, none⟩ = false ∧ w'.frozen? ⟨ks, 3, none⟩ = false ∧ w'.frozen? ⟨ks, 4, none⟩ = false ∧ w'.frozen? ⟨ks, 5, none⟩ = false ∧ w.heap.size ≤ ks → Q .normal ⟨((((((((((((((((((a.tmps.setIfInBounds 50 (.int .i64 3)).setIfInBounds 51 (.pointer (some ⟨kl, 18, none⟩))).setIfInBounds 52 (.pointer (some ⟨kl, 18, none⟩))).setIfInBounds 53 (.agg #[.int .i64 d0, .int .i64 d1])).setIfInBounds 54 (.int .i64 3)).setIfInBounds 55 (.pointer (some ⟨kl, 18, none⟩))).setIfInBounds 56 (.pointer (some ⟨kl, 20, none⟩))).setIfInBounds 57 (.agg #[.int .i64 e0, .int .i64 e1])).setIfInBounds 58 (.int .i64 3)).setIfInBounds 59 (.pointer (some ⟨kl, 18, none⟩))).setIfInBounds 60 (.pointer (some ⟨kl, 22, none⟩))).setIfInBounds 61 (.agg #[.int .i64 f0, .int .i64 f1])).setIfInBounds 62 (.tuple #[.agg #[.int .i64 m0, .int .i64 m1, .int .i64 m2, .int .i64 m3, .int .i64 m4, .int .i64 m5], .bool ok])).setIfInBounds 49 (.tuple #[.agg #[.int .i64 m0, .int .i64 m1, .int .i64 m2, .int .i64 m3, .int .i64 m4, .int .i64 m5], .bool ok])).setIfInBounds 63 (.agg #[.int .i64 m0, .int .i64 m1, .int .i64 m2, .int .i64 m3, .int .i64 m4, .int .i64 m5])).setIfInBounds 64 (.bool ok)).setIfInBounds 11 (.pointer (some ⟨ks, 0, none⟩))).setIfInBounds 12 (.bool ok)), a.defers⟩ w') :
    (Code.region id ops true).wp Try.prog Q a w := by
  have ht : tidy (regOps Try.f4 6) a.tmps.size = true := by rw [hsz]; kernel_rfl
  obtain ⟨lc0, lc1, lc2, lc3, lc4, lc5, HB0⟩ := h0
  have lt_kl := World.block_lt_of_cell? w _ lc0
  have sz0 := HB0.size
  refine region_tab (G := Nat) (fun g => (region4_6_3V d0 d1 e0 e1 f0 f1 m0 m1 m2 m3 m4 m5 kl ok g)) (fun g L w' => w'.cell? ⟨kl, 18, none⟩ = some (.int .i64 d0) ∧ w'.cell? ⟨kl, 19, none⟩ = some (.int .i64 d1) ∧ w'.cell? ⟨kl, 20, none⟩ = some (.int .i64 e0) ∧ w'.cell? ⟨kl, 21, none⟩ = some (.int .i64 e1) ∧ w'.cell? ⟨kl, 22, none⟩ = some (.int .i64 f0) ∧ w'.cell? ⟨kl, 23, none⟩ = some (.int .i64 f1) ∧ Below W.heap.size W w' ∧ w.heap.size ≤ w'.heap.size ∧ (L 16 = true → w.heap.size ≤ g ∧ w'.frozen? ⟨g, 0, none⟩ = false ∧ w'.frozen? ⟨g, 1, none⟩ = false ∧ w'.frozen? ⟨g, 2, none⟩ = false ∧ w'.frozen? ⟨g, 3, none⟩ = false ∧ w'.frozen? ⟨g, 4, none⟩ = false ∧ w'.frozen? ⟨g, 5, none⟩ = false ∧ ∃ u0 u1 u2 u3 u4 u5 : Int, w'.cell? ⟨g, 0, none⟩ = some (.int .i64 u0) ∧ w'.cell? ⟨g, 1, none⟩ = some (.int .i64 u1) ∧ w'.cell? ⟨g, 2, none⟩ = some (.int .i64 u2) ∧ w'.cell? ⟨g, 3, none⟩ = some (.int .i64 u3) ∧ w'.cell? ⟨g, 4, none⟩ = some (.int .i64 u4) ∧ w'.cell? ⟨g, 5, none⟩ = some (.int .i64 u5) ∧ (L 17 = true → u0 = m0 ∧ u1 = m1 ∧ u2 = m2 ∧ u3 = m3 ∧ u4 = m4 ∧ u5 = m5)) ∧ (L 17 = true → L 16 = true)) 0 (by kernel_rfl) ho ht ⟨lc0, lc1, lc2, lc3, lc4, lc5, bd HB0, Nat.le_refl _, fun h => (by cases h), fun h => (by cases h)⟩ ?_ ?_
  · intro i o hoi ks L b w' hun hpre hT hS
    clear he lc0 lc1 lc2 lc3 lc4 lc5 ho hsz ht HB0
    have hi : i < (regOps Try.f4 6).size := (Array.getElem?_eq_some_iff.1 hoi).1
    rw [show (regOps Try.f4 6).size = 19 by kernel_rfl] at hi
    skip
    skip
    obtain ⟨lc0, lc1, lc2, lc3, lc4, lc5, HB, szw, fs, ss⟩ := hS
    have hcases : i = 0 ∨ i = 1 ∨ i = 2 ∨ i = 3 ∨ i = 4 ∨ i = 5 ∨ i = 6 ∨ i = 7 ∨ i = 8 ∨ i = 9 ∨ i = 10 ∨ i = 11 ∨ i = 12 ∨ i = 13 ∨ i = 14 ∨ i = 15 ∨ i = 16 ∨ i = 17 ∨ i = 18 := by omega
    rcases hcases with rfl | rfl | rfl | rfl | rfl | rfl | rfl | rfl | rfl | rfl | rfl | rfl | rfl | rfl | rfl | rfl | rfl | rfl | rfl
    · have hlit : (regOps Try.f4 6)[0]? = some ({ dst := some 50, op := Op.move (Operand.tmp 10), type := 3, pos := "law.go:33", after := #[], guard := none }) := by kernel_rfl
      obtain rfl := Option.some.inj (hlit.symm.trans hoi)
      have r10 : b.tmps.getD 10 undef = (.int .i64 3) := rd ((hT.old 10 (by kernel_rfl)).trans t10)
      refine op_go hoi (want_all rfl) fun K hK => ?_
      clear hT hpre hlit hoi
      go_simp
      exact hK _ _ ⟨ks, fun _ _ => rfl, rfl, lc0, lc1, lc2, lc3, lc4, lc5, HB, szw, fs, ss⟩
    · have hlit : (regOps Try.f4 6)[1]? = some ({ dst := some 51, op := Op.indexAddr 39 (Operand.tmp 9) (Operand.tmp 50), type := 0, pos := "law.go:33", after := #[{ on := 0, ground := Ground.data }], guard := none }) := by kernel_rfl
      obtain rfl := Option.some.inj (hlit.symm.trans hoi)
      have r9 : b.tmps.getD 9 undef = (.pointer (some ⟨kl, 0, none⟩)) := rd ((hT.old 9 (by kernel_rfl)).trans t9)
      have r50 : b.tmps.getD 50 undef = (.int .i64 3) := rd (hT.at 0 (by kernel_rfl) (pre_of hpre 0 (by kernel_rfl)))
      refine op_go hoi (want_all rfl) fun K hK => ?_
      clear hT hpre hlit hoi
      go_simp
      exact hK _ _ ⟨ks, fun _ _ => rfl, rfl, lc0, lc1, lc2, lc3, lc4, lc5, HB, szw, fs, ss⟩
    · have hlit : (regOps Try.f4 6)[2]? = some ({ dst := some 52, op := Op.indexAddr 38 (Operand.tmp 51) (Operand.const (Value.int IntKind.i64 0)), type := 0, pos := "law.go:33", after := #[{ on := 1, ground := Ground.data }], guard := none }) := by kernel_rfl
      obtain rfl := Option.some.inj (hlit.symm.trans hoi)
      have r51 : b.tmps.getD 51 undef = (.pointer (some ⟨kl, 18, none⟩)) := rd (hT.at 1 (by kernel_rfl) (pre_of hpre 1 (by kernel_rfl)))
      refine op_go hoi (want_all rfl) fun K hK => ?_
      clear hT hpre hlit hoi
      go_simp
      exact hK _ _ ⟨ks, fun _ _ => rfl, rfl, lc0, lc1, lc2, lc3, lc4, lc5, HB, szw, fs, ss⟩
    · have hlit : (regOps Try.f4 6)[3]? = some ({ dst := some 53, op := Op.load 23 (Operand.tmp 52), type := 23, pos := "law.go:33", after := #[{ on := 2, ground := Ground.data }], guard := none }) := by kernel_rfl
      obtain rfl := Option.some.inj (hlit.symm.trans hoi)
      have r52 : b.tmps.getD 52 undef = (.pointer (some ⟨kl, 18, none⟩)) := rd (hT.at 2 (by kernel_rfl) (pre_of hpre 2 (by kernel_rfl)))
      refine op_go hoi (want_all rfl) fun K hK => ?_
      clear hT hpre hlit hoi
      go_simp
      exact hK _ _ ⟨ks, fun _ _ => rfl, rfl, lc0, lc1, lc2, lc3, lc4, lc5, HB, szw, fs, ss⟩
    · have hlit : (regOps Try.f4 6)[4]? = some ({ dst := some 54, op := Op.move (Operand.tmp 10), type := 3, pos := "law.go:33", after := #[], guard := none }) := by kernel_rfl
      obtain rfl := Option.some.inj (hlit.symm.trans hoi)
      have r10 : b.tmps.getD 10 undef = (.int .i64 3) := rd ((hT.old 10 (by kernel_rfl)).trans t10)
      refine op_go hoi (want_all rfl) fun K hK => ?_
      clear hT hpre hlit hoi
      go_simp
      exact hK _ _ ⟨ks, fun _ _ => rfl, rfl, lc0, lc1, lc2, lc3, lc4, lc5, HB, szw, fs, ss⟩
    · have hlit : (regOps Try.f4 6)[5]? = some ({ dst := some 55, op := Op.indexAddr 39 (Operand.tmp 9) (Operand.tmp 54), type := 0, pos := "law.go:33", after := #[{ on := 4, ground := Ground.data }], guard := none }) := by kernel_rfl
      obtain rfl := Option.some.inj (hlit.symm.trans hoi)
      have r9 : b.tmps.getD 9 undef = (.pointer (some ⟨kl, 0, none⟩)) := rd ((hT.old 9 (by kernel_rfl)).trans t9)
      have r54 : b.tmps.getD 54 undef = (.int .i64 3) := rd (hT.at 4 (by kernel_rfl) (pre_of hpre 4 (by kernel_rfl)))
      refine op_go hoi (want_all rfl) fun K hK => ?_
      clear hT hpre hlit hoi
      go_simp
      exact hK _ _ ⟨ks, fun _ _ => rfl, rfl, lc0, lc1, lc2, lc3, lc4, lc5, HB, szw, fs, ss⟩
    · have hlit : (regOps Try.f4 6)[6]? = some ({ dst := some 56, op := Op.indexAddr 38 (Operand.tmp 55) (Operand.const (Value.int IntKind.i64 1)), type := 0, pos := "law.go:33", after := #[{ on := 5, ground := Ground.data }], guard := none }) := by kernel_rfl
      obtain rfl := Option.some.inj (hlit.symm.trans hoi)
      have r55 : b.tmps.getD 55 undef = (.pointer (some ⟨kl, 18, none⟩)) := rd (hT.at 5 (by kernel_rfl) (pre_of hpre 5 (by kernel_rfl)))
      refine op_go hoi (want_all rfl) fun K hK => ?_
      clear hT hpre hlit hoi
      go_simp
      exact hK _ _ ⟨ks, fun _ _ => rfl, rfl, lc0, lc1, lc2, lc3, lc4, lc5, HB, szw, fs, ss⟩
    · have hlit : (regOps Try.f4 6)[7]? = some ({ dst := some 57, op := Op.load 23 (Operand.tmp 56), type := 23, pos := "law.go:33", after := #[{ on := 6, ground := Ground.data }], guard := none }) := by kernel_rfl
      obtain rfl := Option.some.inj (hlit.symm.trans hoi)
      have r56 : b.tmps.getD 56 undef = (.pointer (some ⟨kl, 20, none⟩)) := rd (hT.at 6 (by kernel_rfl) (pre_of hpre 6 (by kernel_rfl)))
      refine op_go hoi (want_all rfl) fun K hK => ?_
      clear hT hpre hlit hoi
      go_simp
      exact hK _ _ ⟨ks, fun _ _ => rfl, rfl, lc0, lc1, lc2, lc3, lc4, lc5, HB, szw, fs, ss⟩
    · have hlit : (regOps Try.f4 6)[8]? = some ({ dst := some 58, op := Op.move (Operand.tmp 10), type := 3, pos := "law.go:33", after := #[], guard := none }) := by kernel_rfl
      obtain rfl := Option.some.inj (hlit.symm.trans hoi)
      have r10 : b.tmps.getD 10 undef = (.int .i64 3) := rd ((hT.old 10 (by kernel_rfl)).trans t10)
      refine op_go hoi (want_all rfl) fun K hK => ?_
      clear hT hpre hlit hoi
      go_simp
      exact hK _ _ ⟨ks, fun _ _ => rfl, rfl, lc0, lc1, lc2, lc3, lc4, lc5, HB, szw, fs, ss⟩
    · have hlit : (regOps Try.f4 6)[9]? = some ({ dst := some 59, op := Op.indexAddr 39 (Operand.tmp 9) (Operand.tmp 58), type := 0, pos := "law.go:33", after := #[{ on := 8, ground := Ground.data }], guard := none }) := by kernel_rfl
      obtain rfl := Option.some.inj (hlit.symm.trans hoi)
      have r9 : b.tmps.getD 9 undef = (.pointer (some ⟨kl, 0, none⟩)) := rd ((hT.old 9 (by kernel_rfl)).trans t9)
      have r58 : b.tmps.getD 58 undef = (.int .i64 3) := rd (hT.at 8 (by kernel_rfl) (pre_of hpre 8 (by kernel_rfl)))
      refine op_go hoi (want_all rfl) fun K hK => ?_
      clear hT hpre hlit hoi
      go_simp
      exact hK _ _ ⟨ks, fun _ _ => rfl, rfl, lc0, lc1, lc2, lc3, lc4, lc5, HB, szw, fs, ss⟩
    · have hlit : (regOps Try.f4 6)[10]? = some ({ dst := some 60, op := Op.indexAddr 38 (Operand.tmp 59) (Operand.const (Value.int IntKind.i64 2)), type := 0, pos := "law.go:33", after := #[{ on := 9, ground := Ground.data }], guard := none }) := by kernel_rfl
      obtain rfl := Option.some.inj (hlit.symm.trans hoi)
      have r59 : b.tmps.getD 59 undef = (.pointer (some ⟨kl, 18, none⟩)) := rd (hT.at 9 (by kernel_rfl) (pre_of hpre 9 (by kernel_rfl)))
      refine op_go hoi (want_all rfl) fun K hK => ?_
      clear hT hpre hlit hoi
      go_simp
      exact hK _ _ ⟨ks, fun _ _ => rfl, rfl, lc0, lc1, lc2, lc3, lc4, lc5, HB, szw, fs, ss⟩
    · have hlit : (regOps Try.f4 6)[11]? = some ({ dst := some 61, op := Op.load 23 (Operand.tmp 60), type := 23, pos := "law.go:33", after := #[{ on := 10, ground := Ground.data }], guard := none }) := by kernel_rfl
      obtain rfl := Option.some.inj (hlit.symm.trans hoi)
      have r60 : b.tmps.getD 60 undef = (.pointer (some ⟨kl, 22, none⟩)) := rd (hT.at 10 (by kernel_rfl) (pre_of hpre 10 (by kernel_rfl)))
      refine op_go hoi (want_all rfl) fun K hK => ?_
      clear hT hpre hlit hoi
      go_simp
      exact hK _ _ ⟨ks, fun _ _ => rfl, rfl, lc0, lc1, lc2, lc3, lc4, lc5, HB, szw, fs, ss⟩
    · have hlit : (regOps Try.f4 6)[12]? = some ({ dst := some 62, op := Op.call { callee := Callee.value (Operand.func 20), args := #[Operand.tmp 53, Operand.tmp 57, Operand.tmp 61], argTypes := #[23, 23, 23] }, type := 26, pos := "law.go:33", after := #[{ on := 3, ground := Ground.data }, { on := 7, ground := Ground.data }, { on := 11, ground := Ground.data }], guard := none }) := by kernel_rfl
      obtain rfl := Option.some.inj (hlit.symm.trans hoi)
      have r53 : b.tmps.getD 53 undef = (.agg #[.int .i64 d0, .int .i64 d1]) := rd (hT.at 3 (by kernel_rfl) (pre_of hpre 3 (by kernel_rfl)))
      have r57 : b.tmps.getD 57 undef = (.agg #[.int .i64 e0, .int .i64 e1]) := rd (hT.at 7 (by kernel_rfl) (pre_of hpre 7 (by kernel_rfl)))
      have r61 : b.tmps.getD 61 undef = (.agg #[.int .i64 f0, .int .i64 f1]) := rd (hT.at 11 (by kernel_rfl) (pre_of hpre 11 (by kernel_rfl)))
      refine op_go hoi (want_all rfl) fun K hK => ?_
      clear hT hpre hlit hoi
      go_simp
      go_at_call 20
      refine (make20 _ _ _ _ _ _ _).mono ?_; rw [hq1]; rintro e w2 ⟨rfl, hb⟩; replace lc0 := ck hb lc0; replace lc1 := ck hb lc1; replace lc2 := ck hb lc2; replace lc3 := ck hb lc3; replace lc4 := ck hb lc4; replace lc5 := ck hb lc5; replace szw : w.heap.size ≤ w2.heap.size := Nat.le_trans szw hb.size; replace fs : L 16 = true → w.heap.size ≤ ks ∧ w2.frozen? ⟨ks, 0, none⟩ = false ∧ w2.frozen? ⟨ks, 1, none⟩ = false ∧ w2.frozen? ⟨ks, 2, none⟩ = false ∧ w2.frozen? ⟨ks, 3, none⟩ = false ∧ w2.frozen? ⟨ks, 4, none⟩ = false ∧ w2.frozen? ⟨ks, 5, none⟩ = false ∧ ∃ u0 u1 u2 u3 u4 u5 : Int, w2.cell? ⟨ks, 0, none⟩ = some (Value.int .i64 u0) ∧ w2.cell? ⟨ks, 1, none⟩ = some (Value.int .i64 u1) ∧ w2.cell? ⟨ks, 2, none⟩ = some (Value.int .i64 u2) ∧ w2.cell? ⟨ks, 3, none⟩ = some (Value.int .i64 u3) ∧ w2.cell? ⟨ks, 4, none⟩ = some (Value.int .i64 u4) ∧ w2.cell? ⟨ks, 5, none⟩ = some (Value.int .i64 u5) ∧ (L 17 = true → u0 = m0 ∧ u1 = m1 ∧ u2 = m2 ∧ u3 = m3 ∧ u4 = m4 ∧ u5 = m5) := fun h => (by obtain ⟨ge, fz0, fz1, fz2, fz3, fz4, fz5, u0, u1, u2, u3, u4, u5, ce0, ce1, ce2, ce3, ce4, ce5, us⟩ := fs h; exact ⟨ge, cf hb (World.block_lt_of_cell? _ _ ce0) fz0, cf hb (World.block_lt_of_cell? _ _ ce1) fz1, cf hb (World.block_lt_of_cell? _ _ ce2) fz2, cf hb (World.block_lt_of_cell? _ _ ce3) fz3, cf hb (World.block_lt_of_cell? _ _ ce4) fz4, cf hb (World.block_lt_of_cell? _ _ ce5) fz5, u0, u1, u2, u3, u4, u5, ck hb ce0, ck hb ce1, ck hb ce2, ck hb ce3, ck hb ce4, ck hb ce5, us⟩); replace HB : Below W.heap.size W w2 := bt HB hb; clear hb
      exact hK _ _ ⟨ks, fun _ _ => rfl, rfl, lc0, lc1, lc2, lc3, lc4, lc5, HB, szw, fs, ss⟩
    · have hlit : (regOps Try.f4 6)[13]? = some ({ dst := some 49, op := Op.move (Operand.tmp 62), type := 26, pos := "law.go:33", after := #[{ on := 12, ground := Ground.data }], guard := none }) := by kernel_rfl
      obtain rfl := Option.some.inj (hlit.symm.trans hoi)
      have r62 : b.tmps.getD 62 undef = (.tuple #[.agg #[.int .i64 m0, .int .i64 m1, .int .i64 m2, .int .i64 m3, .int .i64 m4, .int .i64 m5], .bool ok]) := rd (hT.at 12 (by kernel_rfl) (pre_of hpre 12 (by kernel_rfl)))
      refine op_go hoi (want_all rfl) fun K hK => ?_
      clear hT hpre hlit hoi
      go_simp
      exact hK _ _ ⟨ks, fun _ _ => rfl, rfl, lc0, lc1, lc2, lc3, lc4, lc5, HB, szw, fs, ss⟩
    · have hlit : (regOps Try.f4 6)[14]? = some ({ dst := some 63, op := Op.extract (Operand.tmp 49) 0, type := 25, pos := "law.go:33", after := #[{ on := 13, ground := Ground.data }], guard := none }) := by kernel_rfl
      obtain rfl := Option.some.inj (hlit.symm.trans hoi)
      have r49 : b.tmps.getD 49 undef = (.tuple #[.agg #[.int .i64 m0, .int .i64 m1, .int .i64 m2, .int .i64 m3, .int .i64 m4, .int .i64 m5], .bool ok]) := rd (hT.at 13 (by kernel_rfl) (pre_of hpre 13 (by kernel_rfl)))
      refine op_go hoi (want_all rfl) fun K hK => ?_
      clear hT hpre hlit hoi
      go_simp
      exact hK _ _ ⟨ks, fun _ _ => rfl, rfl, lc0, lc1, lc2, lc3, lc4, lc5, HB, szw, fs, ss⟩
    · have hlit : (regOps Try.f4 6)[15]? = some ({ dst := some 64, op := Op.extract (Operand.tmp 49) 1, type := 4, pos := "law.go:33", after := #[{ on := 13, ground := Ground.data }, { on := 17, ground := Ground.gcOnly Departure.lateStores }], guard := none }) := by kernel_rfl
      obtain rfl := Option.some.inj (hlit.symm.trans hoi)
      have r49 : b.tmps.getD 49 undef = (.tuple #[.agg #[.int .i64 m0, .int .i64 m1, .int .i64 m2, .int .i64 m3, .int .i64 m4, .int .i64 m5], .bool ok]) := rd (hT.at 13 (by kernel_rfl) (pre_of hpre 13 (by kernel_rfl)))
      refine op_go hoi (want_all rfl) fun K hK => ?_
      clear hT hpre hlit hoi
      go_simp
      exact hK _ _ ⟨ks, fun _ _ => rfl, rfl, lc0, lc1, lc2, lc3, lc4, lc5, HB, szw, fs, ss⟩
    · have hlit : (regOps Try.f4 6)[16]? = some ({ dst := some 11, op := Op.alloc 25, type := 0, pos := "law.go:33", after := #[], guard := none }) := by kernel_rfl
      obtain rfl := Option.some.inj (hlit.symm.trans hoi)
      refine op_go hoi (want_all rfl) fun K hK => ?_
      clear hT hpre hlit hoi
      go_simp
      have lw_lc0 := World.block_lt_of_cell? w' _ lc0
      have lw_lc1 := World.block_lt_of_cell? w' _ lc1
      have lw_lc2 := World.block_lt_of_cell? w' _ lc2
      have lw_lc3 := World.block_lt_of_cell? w' _ lc3
      have lw_lc4 := World.block_lt_of_cell? w' _ lc4
      have lw_lc5 := World.block_lt_of_cell? w' _ lc5
      refine hK _ _ ⟨w'.heap.size, fun j hj => ?_, rfl, by go_simp, by go_simp, by go_simp, by go_simp, by go_simp, by go_simp, ba HB _, by simp; omega, fun _ => ⟨szw, by go_simp, by go_simp, by go_simp, by go_simp, by go_simp, by go_simp, 0, 0, 0, 0, 0, 0, by go_simp, by go_simp, by go_simp, by go_simp, by go_simp, by go_simp, fun h => absurd ((ss h).symm.trans hun) (by decide)⟩, fun _ => rfl⟩
      by_cases e : j = 16
      · subst e; rw [hun] at hj; cases hj
      · unfold region4_6_3V; split <;> first | rfl | (exact absurd rfl e)
    · have hlit : (regOps Try.f4 6)[17]? = some ({ dst := none, op := Op.store 25 (Operand.tmp 11) (Operand.tmp 63), type := 0, pos := "law.go:33", after := #[{ on := 16, ground := Ground.data }, { on := 14, ground := Ground.data }, { on := 12, ground := Ground.chain }, { on := 0, ground := Ground.phase }, { on := 1, ground := Ground.phase }, { on := 2, ground := Ground.phase }, { on := 3, ground := Ground.phase }, { on := 4, ground := Ground.phase }, { on := 5, ground := Ground.phase }, { on := 6, ground := Ground.phase }, { on := 7, ground := Ground.phase }, { on := 8, ground := Ground.phase }, { on := 9, ground := Ground.phase }, { on := 10, ground := Ground.phase }, { on := 11, ground := Ground.phase }, { on := 12, ground := Ground.phase }, { on := 13, ground := Ground.phase }, { on := 14, ground := Ground.phase }, { on := 15, ground := Ground.textOnly Departure.lateStores }, { on := 16, ground := Ground.phase }], guard := none }) := by kernel_rfl
      obtain rfl := Option.some.inj (hlit.symm.trans hoi)
      have r11 : b.tmps.getD 11 undef = (.pointer (some ⟨ks, 0, none⟩)) := rd (hT.at 16 (by kernel_rfl) (pre_of hpre 16 (by kernel_rfl)))
      have r63 : b.tmps.getD 63 undef = (.agg #[.int .i64 m0, .int .i64 m1, .int .i64 m2, .int .i64 m3, .int .i64 m4, .int .i64 m5]) := rd (hT.at 14 (by kernel_rfl) (pre_of hpre 14 (by kernel_rfl)))
      have pr : L 16 = true := pre_of hpre 16 (by kernel_rfl)
      obtain ⟨ge, fz0, fz1, fz2, fz3, fz4, fz5, u0, u1, u2, u3, u4, u5, ce0, ce1, ce2, ce3, ce4, ce5, -⟩ := fs pr
      have ne_kl : ¬ kl = ks := Nat.ne_of_lt (Nat.lt_of_lt_of_le lt_kl ge)
      have nf_kl : ¬ ks = kl := fun h => ne_kl h.symm
      refine op_go hoi (want_all rfl) fun K hK => ?_
      clear hT hpre hlit hoi
      go_simp
      exact hK _ _ ⟨ks, fun _ _ => rfl, rfl, by go_simp, by go_simp, by go_simp, by go_simp, by go_simp, by go_simp, bs (bs (bs (bs (bs (bs (HB) (Nat.le_trans sz0 ge) _) (Nat.le_trans sz0 ge) _) (Nat.le_trans sz0 ge) _) (Nat.le_trans sz0 ge) _) (Nat.le_trans sz0 ge) _) (Nat.le_trans sz0 ge) _, by simp; omega, fun _ => ⟨ge, by go_simp, by go_simp, by go_simp, by go_simp, by go_simp, by go_simp, m0, m1, m2, m3, m4, m5, by go_simp, by go_simp, by go_simp, by go_simp, by go_simp, by go_simp, fun _ => ⟨rfl, rfl, rfl, rfl, rfl, rfl⟩⟩, fun _ => pr⟩
    · have hlit : (regOps Try.f4 6)[18]? = some ({ dst := some 12, op := Op.assign (Operand.tmp 64), type := 4, pos := "law.go:33", after := #[{ on := 15, ground := Ground.data }, { on := 17, ground := Ground.chain }, { on := 0, ground := Ground.phase }, { on := 1, ground := Ground.phase }, { on := 2, ground := Ground.phase }, { on := 3, ground := Ground.phase }, { on := 4, ground := Ground.phase }, { on := 5, ground := Ground.phase }, { on := 6, ground := Ground.phase }, { on := 7, ground := Ground.phase }, { on := 8, ground := Ground.phase }, { on := 9, ground := Ground.phase }, { on := 10, ground := Ground.phase }, { on := 11, ground := Ground.phase }, { on := 12, ground := Ground.phase }, { on := 13, ground := Ground.phase }, { on := 14, ground := Ground.phase }, { on := 15, ground := Ground.phase }, { on := 16, ground := Ground.phase }, { on := 17, ground := Ground.phase }], guard := none }) := by kernel_rfl
      obtain rfl := Option.some.inj (hlit.symm.trans hoi)
      have r64 : b.tmps.getD 64 undef = (.bool ok) := rd (hT.at 15 (by kernel_rfl) (pre_of hpre 15 (by kernel_rfl)))
      refine op_go hoi (want_all rfl) fun K hK => ?_
      clear hT hpre hlit hoi
      go_simp
      exact hK _ _ ⟨ks, fun _ _ => rfl, rfl, lc0, lc1, lc2, lc3, lc4, lc5, HB, szw, fs, ss⟩
  · intro ks b w' hT hS
    rw [hT.all ht]
    have hn : (regOps Try.f4 6).size = 19 := by kernel_rfl
    rw [hn] at hS ⊢
    skip
    skip
    obtain ⟨lc0, lc1, lc2, lc3, lc4, lc5, HB, szw, fs, ss⟩ := hS
    obtain ⟨ges, fzs0, fzs1, fzs2, fzs3, fzs4, fzs5, us0, us1, us2, us3, us4, us5, ces0, ces1, ces2, ces3, ces4, ces5, uss⟩ := fs rfl
    obtain ⟨rfl, rfl, rfl, rfl, rfl, rfl⟩ := uss rfl
    exact he ks w' ⟨lc0, lc1, lc2, lc3, lc4, lc5, HB⟩ ⟨ces0, ces1, ces2, ces3, ces4, ces5, fzs0, fzs1, fzs2, fzs3, fzs4, fzs5, ges⟩

/-- What each operation of the region leaves. -/
def region4_6_4V (d0 d1 e0 e1 f0 f1 m0 m1 m2 m3 m4 m5 : Int) (kl : Nat) (ok : Bool) (ks : Nat) : Nat → Value
  | 0 => .int .i64 4
  | 1 => .pointer (some ⟨kl, 24, none⟩)
  | 2 => .pointer (some ⟨kl, 24, none⟩)
  | 3 => .agg #[.int .i64 d0, .int .i64 d1]
  | 4 => .int .i64 4
  | 5 => .pointer (some ⟨kl, 24, none⟩)
  | 6 => .pointer (some ⟨kl, 26, none⟩)
  | 7 => .agg #[.int .i64 e0, .int .i64 e1]
  | 8 => .int .i64 4
  | 9 => .pointer (some ⟨kl, 24, none⟩)
  | 10 => .pointer (some ⟨kl, 28, none⟩)
  | 11 => .agg #[.int .i64 f0, .int .i64 f1]
  | 12 => .tuple #[.agg #[.int .i64 m0, .int .i64 m1, .int .i64 m2, .int .i64 m3, .int .i64 m4, .int .i64 m5], .bool ok]
  | 13 => .tuple #[.agg #[.int .i64 m0, .int .i64 m1, .int .i64 m2, .int .i64 m3, .int .i64 m4, .int .i64 m5], .bool ok]
  | 14 => .agg #[.int .i64 m0, .int .i64 m1, .int .i64 m2, .int .i64 m3, .int .i64 m4, .int .i64 m5]
  | 15 => .bool ok
  | 16 => .pointer (some ⟨ks, 0, none⟩)
  | 17 => undef
  | 18 => .bool ok
  | _ => undef

set_option maxHeartbeats 4000000 in
set_option maxRecDepth 100000 in
theorem region4_6_4 (d0 d1 e0 e1 f0 f1 m0 m1 m2 m3 m4 m5 : Int) (kl : Nat) (ok : Bool) (W : World) (hq1 : mkT ⟨d0, d1⟩ ⟨e0, e1⟩ ⟨f0, f1⟩ = (⟨⟨m0, m1⟩, ⟨m2, m3⟩, ⟨m4, m5⟩⟩, ok)) {id : Nat} {ops : Array Oper} {Q : Exit → Act → World → Prop} {a : Act} {w : World}
    (ho : ops = (regOps Try.f4 6)) (hsz : a.tmps.size = 151) (t9 : a.tmps[9]? = some (.pointer (some ⟨kl, 0, none⟩))) (t10 : a.tmps[10]? = some (.int .i64 4))
    (h0 : w.cell? ⟨kl, 24, none⟩ = some (.int .i64 d0) ∧ w.cell? ⟨kl, 25, none⟩ = some (.int .i64 d1) ∧ w.cell? ⟨kl, 26, none⟩ = some (.int .i64 e0) ∧ w.cell? ⟨kl, 27, none⟩ = some (.int .i64 e1) ∧ w.cell? ⟨kl, 28, none⟩ = some (.int .i64 f0) ∧ w.cell? ⟨kl, 29, none⟩ = some (.int .i64 f1) ∧ Below W.heap.size W w)
    (he : ∀ ks w', w'.cell? ⟨kl, 24, none⟩ = some (.int .i64 d0) ∧ w'.cell? ⟨kl, 25, none⟩ = some (.int .i64 d1) ∧ w'.cell? ⟨kl, 26, none⟩ = some (.int .i64 e0) ∧ w'.cell? ⟨kl, 27, none⟩ = some (.int .i64 e1) ∧ w'.cell? ⟨kl, 28, none⟩ = some (.int .i64 f0) ∧ w'.cell? ⟨kl, 29, none⟩ = some (.int .i64 f1) ∧ Below W.heap.size W w' → w'.cell? ⟨ks, 0, none⟩ = some (.int .i64 m0) ∧ w'.cell? ⟨ks, 1, none⟩ = some (.int .i64 m1) ∧ w'.cell? ⟨ks, 2, none⟩ = some (.int .i64 m2) ∧ w'.cell? ⟨ks, 3, none⟩ = some (.int .i64 m3) ∧ w'.cell? ⟨ks, 4, none⟩ = some (.int .i64 m4) ∧ w'.cell? ⟨ks, 5, none⟩ = some (.int .i64 m5) ∧ w'.frozen? ⟨ks, 0, none⟩ = false ∧ w'.frozen? ⟨ks, 1, none⟩ = false ∧ w'.frozen? ⟨ks, 2, none⟩ = false ∧ w'.frozen? ⟨ks, 3, none⟩ = false ∧ w'.frozen? ⟨ks, 4, none⟩ = false ∧ w'.frozen? ⟨ks, 5, none⟩ = false ∧ w.heap.size ≤ ks → Q .normal ⟨((((((((((((((((((a.tmps.setIfInBounds 50 (.int .i64 4)).setIfInBounds 51 (.pointer (some ⟨kl, 24, none⟩))).setIfInBounds 52 (.pointer (some ⟨kl, 24, none⟩))).setIfInBounds 53 (.agg #[.int .i64 d0, .int .i64 d1])).setIfInBounds 54 (.int .i64 4)).setIfInBounds 55 (.pointer (some ⟨kl, 24, none⟩))).setIfInBounds 56 (.pointer (some ⟨kl, 26, none⟩))).setIfInBounds 57 (.agg #[.int .i64 e0, .int .i64 e1])).setIfInBounds 58 (.int .i64 4)).setIfInBounds 59 (.pointer (some ⟨kl, 24, none⟩))).setIfInBounds 60 (.pointer (some ⟨kl, 28, none⟩))).setIfInBounds 61 (.agg #[.int .i64 f0, .int .i64 f1])).setIfInBounds 62 (.tuple #[.agg #[.int .i64 m0, .int .i64 m1, .int .i64 m2, .int .i64 m3, .int .i64 m4, .int .i64 m5], .bool ok])).setIfInBounds 49 (.tuple #[.agg #[.int .i64 m0, .int .i64 m1, .int .i64 m2, .int .i64 m3, .int .i64 m4, .int .i64 m5], .bool ok])).setIfInBounds 63 (.agg #[.int .i64 m0, .int .i64 m1, .int .i64 m2, .int .i64 m3, .int .i64 m4, .int .i64 m5])).setIfInBounds 64 (.bool ok)).setIfInBounds 11 (.pointer (some ⟨ks, 0, none⟩))).setIfInBounds 12 (.bool ok)), a.defers⟩ w') :
    (Code.region id ops true).wp Try.prog Q a w := by
  have ht : tidy (regOps Try.f4 6) a.tmps.size = true := by rw [hsz]; kernel_rfl
  obtain ⟨lc0, lc1, lc2, lc3, lc4, lc5, HB0⟩ := h0
  have lt_kl := World.block_lt_of_cell? w _ lc0
  have sz0 := HB0.size
  refine region_tab (G := Nat) (fun g => (region4_6_4V d0 d1 e0 e1 f0 f1 m0 m1 m2 m3 m4 m5 kl ok g)) (fun g L w' => w'.cell? ⟨kl, 24, none⟩ = some (.int .i64 d0) ∧ w'.cell? ⟨kl, 25, none⟩ = some (.int .i64 d1) ∧ w'.cell? ⟨kl, 26, none⟩ = some (.int .i64 e0) ∧ w'.cell? ⟨kl, 27, none⟩ = some (.int .i64 e1) ∧ w'.cell? ⟨kl, 28, none⟩ = some (.int .i64 f0) ∧ w'.cell? ⟨kl, 29, none⟩ = some (.int .i64 f1) ∧ Below W.heap.size W w' ∧ w.heap.size ≤ w'.heap.size ∧ (L 16 = true → w.heap.size ≤ g ∧ w'.frozen? ⟨g, 0, none⟩ = false ∧ w'.frozen? ⟨g, 1, none⟩ = false ∧ w'.frozen? ⟨g, 2, none⟩ = false ∧ w'.frozen? ⟨g, 3, none⟩ = false ∧ w'.frozen? ⟨g, 4, none⟩ = false ∧ w'.frozen? ⟨g, 5, none⟩ = false ∧ ∃ u0 u1 u2 u3 u4 u5 : Int, w'.cell? ⟨g, 0, none⟩ = some (.int .i64 u0) ∧ w'.cell? ⟨g, 1, none⟩ = some (.int .i64 u1) ∧ w'.cell? ⟨g, 2, none⟩ = some (.int .i64 u2) ∧ w'.cell? ⟨g, 3, none⟩ = some (.int .i64 u3) ∧ w'.cell? ⟨g, 4, none⟩ = some (.int .i64 u4) ∧ w'.cell? ⟨g, 5, none⟩ = some (.int .i64 u5) ∧ (L 17 = true → u0 = m0 ∧ u1 = m1 ∧ u2 = m2 ∧ u3 = m3 ∧ u4 = m4 ∧ u5 = m5)) ∧ (L 17 = true → L 16 = true)) 0 (by kernel_rfl) ho ht ⟨lc0, lc1, lc2, lc3, lc4, lc5, bd HB0, Nat.le_refl _, fun h => (by cases h), fun h => (by cases h)⟩ ?_ ?_
  · intro i o hoi ks L b w' hun hpre hT hS
    clear he lc0 lc1 lc2 lc3 lc4 lc5 ho hsz ht HB0
    have hi : i < (regOps Try.f4 6).size := (Array.getElem?_eq_some_iff.1 hoi).1
    rw [show (regOps Try.f4 6).size = 19 by kernel_rfl] at hi
    skip
    skip
    obtain ⟨lc0, lc1, lc2, lc3, lc4, lc5, HB, szw, fs, ss⟩ := hS
    have hcases : i = 0 ∨ i = 1 ∨ i = 2 ∨ i = 3 ∨ i = 4 ∨ i = 5 ∨ i = 6 ∨ i = 7 ∨ i = 8 ∨ i = 9 ∨ i = 10 ∨ i = 11 ∨ i = 12 ∨ i = 13 ∨ i = 14 ∨ i = 15 ∨ i = 16 ∨ i = 17 ∨ i = 18 := by omega
    rcases hcases with rfl | rfl | rfl | rfl | rfl | rfl | rfl | rfl | rfl | rfl | rfl | rfl | rfl | rfl | rfl | rfl | rfl | rfl | rfl
    · have hlit : (regOps Try.f4 6)[0]? = some ({ dst := some 50, op := Op.move (Operand.tmp 10), type := 3, pos := "law.go:33", after := #[], guard := none }) := by kernel_rfl
      obtain rfl := Option.some.inj (hlit.symm.trans hoi)
      have r10 : b.tmps.getD 10 undef = (.int .i64 4) := rd ((hT.old 10 (by kernel_rfl)).trans t10)
      refine op_go hoi (want_all rfl) fun K hK => ?_
      clear hT hpre hlit hoi
      go_simp
      exact hK _ _ ⟨ks, fun _ _ => rfl, rfl, lc0, lc1, lc2, lc3, lc4, lc5, HB, szw, fs, ss⟩
    · have hlit : (regOps Try.f4 6)[1]? = some ({ dst := some 51, op := Op.indexAddr 39 (Operand.tmp 9) (Operand.tmp 50), type := 0, pos := "law.go:33", after := #[{ on := 0, ground := Ground.data }], guard := none }) := by kernel_rfl
      obtain rfl := Option.some.inj (hlit.symm.trans hoi)
      have r9 : b.tmps.getD 9 undef = (.pointer (some ⟨kl, 0, none⟩)) := rd ((hT.old 9 (by kernel_rfl)).trans t9)
      have r50 : b.tmps.getD 50 undef = (.int .i64 4) := rd (hT.at 0 (by kernel_rfl) (pre_of hpre 0 (by kernel_rfl)))
      refine op_go hoi (want_all rfl) fun K hK => ?_
      clear hT hpre hlit hoi
      go_simp
      exact hK _ _ ⟨ks, fun _ _ => rfl, rfl, lc0, lc1, lc2, lc3, lc4, lc5, HB, szw, fs, ss⟩
    · have hlit : (regOps Try.f4 6)[2]? = some ({ dst := some 52, op := Op.indexAddr 38 (Operand.tmp 51) (Operand.const (Value.int IntKind.i64 0)), type := 0, pos := "law.go:33", after := #[{ on := 1, ground := Ground.data }], guard := none }) := by kernel_rfl
      obtain rfl := Option.some.inj (hlit.symm.trans hoi)
      have r51 : b.tmps.getD 51 undef = (.pointer (some ⟨kl, 24, none⟩)) := rd (hT.at 1 (by kernel_rfl) (pre_of hpre 1 (by kernel_rfl)))
      refine op_go hoi (want_all rfl) fun K hK => ?_
      clear hT hpre hlit hoi
      go_simp
      exact hK _ _ ⟨ks, fun _ _ => rfl, rfl, lc0, lc1, lc2, lc3, lc4, lc5, HB, szw, fs, ss⟩
    · have hlit : (regOps Try.f4 6)[3]? = some ({ dst := some 53, op := Op.load 23 (Operand.tmp 52), type := 23, pos := "law.go:33", after := #[{ on := 2, ground := Ground.data }], guard := none }) := by kernel_rfl
      obtain rfl := Option.some.inj (hlit.symm.trans hoi)
      have r52 : b.tmps.getD 52 undef = (.pointer (some ⟨kl, 24, none⟩)) := rd (hT.at 2 (by kernel_rfl) (pre_of hpre 2 (by kernel_rfl)))
      refine op_go hoi (want_all rfl) fun K hK => ?_
      clear hT hpre hlit hoi
      go_simp
      exact hK _ _ ⟨ks, fun _ _ => rfl, rfl, lc0, lc1, lc2, lc3, lc4, lc5, HB, szw, fs, ss⟩
    · have hlit : (regOps Try.f4 6)[4]? = some ({ dst := some 54, op := Op.move (Operand.tmp 10), type := 3, pos := "law.go:33", after := #[], guard := none }) := by kernel_rfl
      obtain rfl := Option.some.inj (hlit.symm.trans hoi)
      have r10 : b.tmps.getD 10 undef = (.int .i64 4) := rd ((hT.old 10 (by kernel_rfl)).trans t10)
      refine op_go hoi (want_all rfl) fun K hK => ?_
      clear hT hpre hlit hoi
      go_simp
      exact hK _ _ ⟨ks, fun _ _ => rfl, rfl, lc0, lc1, lc2, lc3, lc4, lc5, HB, szw, fs, ss⟩
    · have hlit : (regOps Try.f4 6)[5]? = some ({ dst := some 55, op := Op.indexAddr 39 (Operand.tmp 9) (Operand.tmp 54), type := 0, pos := "law.go:33", after := #[{ on := 4, ground := Ground.data }], guard := none }) := by kernel_rfl
      obtain rfl := Option.some.inj (hlit.symm.trans hoi)
      have r9 : b.tmps.getD 9 undef = (.pointer (some ⟨kl, 0, none⟩)) := rd ((hT.old 9 (by kernel_rfl)).trans t9)
      have r54 : b.tmps.getD 54 undef = (.int .i64 4) := rd (hT.at 4 (by kernel_rfl) (pre_of hpre 4 (by kernel_rfl)))
      refine op_go hoi (want_all rfl) fun K hK => ?_
      clear hT hpre hlit hoi
      go_simp
      exact hK _ _ ⟨ks, fun _ _ => rfl, rfl, lc0, lc1, lc2, lc3, lc4, lc5, HB, szw, fs, ss⟩
    · have hlit : (regOps Try.f4 6)[6]? = some ({ dst := some 56, op := Op.indexAddr 38 (Operand.tmp 55) (Operand.const (Value.int IntKind.i64 1)), type := 0, pos := "law.go:33", after := #[{ on := 5, ground := Ground.data }], guard := none }) := by kernel_rfl
      obtain rfl := Option.some.inj (hlit.symm.trans hoi)
      have r55 : b.tmps.getD 55 undef = (.pointer (some ⟨kl, 24, none⟩)) := rd (hT.at 5 (by kernel_rfl) (pre_of hpre 5 (by kernel_rfl)))
      refine op_go hoi (want_all rfl) fun K hK => ?_
      clear hT hpre hlit hoi
      go_simp
      exact hK _ _ ⟨ks, fun _ _ => rfl, rfl, lc0, lc1, lc2, lc3, lc4, lc5, HB, szw, fs, ss⟩
    · have hlit : (regOps Try.f4 6)[7]? = some ({ dst := some 57, op := Op.load 23 (Operand.tmp 56), type := 23, pos := "law.go:33", after := #[{ on := 6, ground := Ground.data }], guard := none }) := by kernel_rfl
      obtain rfl := Option.some.inj (hlit.symm.trans hoi)
      have r56 : b.tmps.getD 56 undef = (.pointer (some ⟨kl, 26, none⟩)) := rd (hT.at 6 (by kernel_rfl) (pre_of hpre 6 (by kernel_rfl)))
      refine op_go hoi (want_all rfl) fun K hK => ?_
      clear hT hpre hlit hoi
      go_simp
      exact hK _ _ ⟨ks, fun _ _ => rfl, rfl, lc0, lc1, lc2, lc3, lc4, lc5, HB, szw, fs, ss⟩
    · have hlit : (regOps Try.f4 6)[8]? = some ({ dst := some 58, op := Op.move (Operand.tmp 10), type := 3, pos := "law.go:33", after := #[], guard := none }) := by kernel_rfl
      obtain rfl := Option.some.inj (hlit.symm.trans hoi)
      have r10 : b.tmps.getD 10 undef = (.int .i64 4) := rd ((hT.old 10 (by kernel_rfl)).trans t10)
      refine op_go hoi (want_all rfl) fun K hK => ?_
      clear hT hpre hlit hoi
      go_simp
      exact hK _ _ ⟨ks, fun _ _ => rfl, rfl, lc0, lc1, lc2, lc3, lc4, lc5, HB, szw, fs, ss⟩
    · have hlit : (regOps Try.f4 6)[9]? = some ({ dst := some 59, op := Op.indexAddr 39 (Operand.tmp 9) (Operand.tmp 58), type := 0, pos := "law.go:33", after := #[{ on := 8, ground := Ground.data }], guard := none }) := by kernel_rfl
      obtain rfl := Option.some.inj (hlit.symm.trans hoi)
      have r9 : b.tmps.getD 9 undef = (.pointer (some ⟨kl, 0, none⟩)) := rd ((hT.old 9 (by kernel_rfl)).trans t9)
      have r58 : b.tmps.getD 58 undef = (.int .i64 4) := rd (hT.at 8 (by kernel_rfl) (pre_of hpre 8 (by kernel_rfl)))
      refine op_go hoi (want_all rfl) fun K hK => ?_
      clear hT hpre hlit hoi
      go_simp
      exact hK _ _ ⟨ks, fun _ _ => rfl, rfl, lc0, lc1, lc2, lc3, lc4, lc5, HB, szw, fs, ss⟩
    · have hlit : (regOps Try.f4 6)[10]? = some ({ dst := some 60, op := Op.indexAddr 38 (Operand.tmp 59) (Operand.const (Value.int IntKind.i64 2)), type := 0, pos := "law.go:33", after := #[{ on := 9, ground := Ground.data }], guard := none }) := by kernel_rfl
      obtain rfl := Option.some.inj (hlit.symm.trans hoi)
      have r59 : b.tmps.getD 59 undef = (.pointer (some ⟨kl, 24, none⟩)) := rd (hT.at 9 (by kernel_rfl) (pre_of hpre 9 (by kernel_rfl)))
      refine op_go hoi (want_all rfl) fun K hK => ?_
      clear hT hpre hlit hoi
      go_simp
      exact hK _ _ ⟨ks, fun _ _ => rfl, rfl, lc0, lc1, lc2, lc3, lc4, lc5, HB, szw, fs, ss⟩
    · have hlit : (regOps Try.f4 6)[11]? = some ({ dst := some 61, op := Op.load 23 (Operand.tmp 60), type := 23, pos := "law.go:33", after := #[{ on := 10, ground := Ground.data }], guard := none }) := by kernel_rfl
      obtain rfl := Option.some.inj (hlit.symm.trans hoi)
      have r60 : b.tmps.getD 60 undef = (.pointer (some ⟨kl, 28, none⟩)) := rd (hT.at 10 (by kernel_rfl) (pre_of hpre 10 (by kernel_rfl)))
      refine op_go hoi (want_all rfl) fun K hK => ?_
      clear hT hpre hlit hoi
      go_simp
      exact hK _ _ ⟨ks, fun _ _ => rfl, rfl, lc0, lc1, lc2, lc3, lc4, lc5, HB, szw, fs, ss⟩
    · have hlit : (regOps Try.f4 6)[12]? = some ({ dst := some 62, op := Op.call { callee := Callee.value (Operand.func 20), args := #[Operand.tmp 53, Operand.tmp 57, Operand.tmp 61], argTypes := #[23, 23, 23] }, type := 26, pos := "law.go:33", after := #[{ on := 3, ground := Ground.data }, { on := 7, ground := Ground.data }, { on := 11, ground := Ground.data }], guard := none }) := by kernel_rfl
      obtain rfl := Option.some.inj (hlit.symm.trans hoi)
      have r53 : b.tmps.getD 53 undef = (.agg #[.int .i64 d0, .int .i64 d1]) := rd (hT.at 3 (by kernel_rfl) (pre_of hpre 3 (by kernel_rfl)))
      have r57 : b.tmps.getD 57 undef = (.agg #[.int .i64 e0, .int .i64 e1]) := rd (hT.at 7 (by kernel_rfl) (pre_of hpre 7 (by kernel_rfl)))
      have r61 : b.tmps.getD 61 undef = (.agg #[.int .i64 f0, .int .i64 f1]) := rd (hT.at 11 (by kernel_rfl) (pre_of hpre 11 (by kernel_rfl)))
      refine op_go hoi (want_all rfl) fun K hK => ?_
      clear hT hpre hlit hoi
      go_simp
      go_at_call 20
      refine (make20 _ _ _ _ _ _ _).mono ?_; rw [hq1]; rintro e w2 ⟨rfl, hb⟩; replace lc0 := ck hb lc0; replace lc1 := ck hb lc1; replace lc2 := ck hb lc2; replace lc3 := ck hb lc3; replace lc4 := ck hb lc4; replace lc5 := ck hb lc5; replace szw : w.heap.size ≤ w2.heap.size := Nat.le_trans szw hb.size; replace fs : L 16 = true → w.heap.size ≤ ks ∧ w2.frozen? ⟨ks, 0, none⟩ = false ∧ w2.frozen? ⟨ks, 1, none⟩ = false ∧ w2.frozen? ⟨ks, 2, none⟩ = false ∧ w2.frozen? ⟨ks, 3, none⟩ = false ∧ w2.frozen? ⟨ks, 4, none⟩ = false ∧ w2.frozen? ⟨ks, 5, none⟩ = false ∧ ∃ u0 u1 u2 u3 u4 u5 : Int, w2.cell? ⟨ks, 0, none⟩ = some (Value.int .i64 u0) ∧ w2.cell? ⟨ks, 1, none⟩ = some (Value.int .i64 u1) ∧ w2.cell? ⟨ks, 2, none⟩ = some (Value.int .i64 u2) ∧ w2.cell? ⟨ks, 3, none⟩ = some (Value.int .i64 u3) ∧ w2.cell? ⟨ks, 4, none⟩ = some (Value.int .i64 u4) ∧ w2.cell? ⟨ks, 5, none⟩ = some (Value.int .i64 u5) ∧ (L 17 = true → u0 = m0 ∧ u1 = m1 ∧ u2 = m2 ∧ u3 = m3 ∧ u4 = m4 ∧ u5 = m5) := fun h => (by obtain ⟨ge, fz0, fz1, fz2, fz3, fz4, fz5, u0, u1, u2, u3, u4, u5, ce0, ce1, ce2, ce3, ce4, ce5, us⟩ := fs h; exact ⟨ge, cf hb (World.block_lt_of_cell? _ _ ce0) fz0, cf hb (World.block_lt_of_cell? _ _ ce1) fz1, cf hb (World.block_lt_of_cell? _ _ ce2) fz2, cf hb (World.block_lt_of_cell? _ _ ce3) fz3, cf hb (World.block_lt_of_cell? _ _ ce4) fz4, cf hb (World.block_lt_of_cell? _ _ ce5) fz5, u0, u1, u2, u3, u4, u5, ck hb ce0, ck hb ce1, ck hb ce2, ck hb ce3, ck hb ce4, ck hb ce5, us⟩); replace HB : Below W.heap.size W w2 := bt HB hb; clear hb
      exact hK _ _ ⟨ks, fun _ _ => rfl, rfl, lc0, lc1, lc2, lc3, lc4, lc5, HB, szw, fs, ss⟩
    · have hlit : (regOps Try.f4 6)[13]? = some ({ dst := some 49, op := Op.move (Operand.tmp 62), type := 26, pos := "law.go:33", after := #[{ on := 12, ground := Ground.data }], guard := none }) := by kernel_rfl
      obtain rfl := Option.some.inj (hlit.symm.trans hoi)
      have r62 : b.tmps.getD 62 undef = (.tuple #[.agg #[.int .i64 m0, .int .i64 m1, .int .i64 m2, .int .i64 m3, .int .i64 m4, .int .i64 m5], .bool ok]) := rd (hT.at 12 (by kernel_rfl) (pre_of hpre 12 (by kernel_rfl)))
      refine op_go hoi (want_all rfl) fun K hK => ?_
      clear hT hpre hlit hoi
      go_simp
      exact hK _ _ ⟨ks, fun _ _ => rfl, rfl, lc0, lc1, lc2, lc3, lc4, lc5, HB, szw, fs, ss⟩
    · have hlit : (regOps Try.f4 6)[14]? = some ({ dst := some 63, op := Op.extract (Operand.tmp 49) 0, type := 25, pos := "law.go:33", after := #[{ on := 13, ground := Ground.data }], guard := none }) := by kernel_rfl
      obtain rfl := Option.some.inj (hlit.symm.trans hoi)
      have r49 : b.tmps.getD 49 undef = (.tuple #[.agg #[.int .i64 m0, .int .i64 m1, .int .i64 m2, .int .i64 m3, .int .i64 m4, .int .i64 m5], .bool ok]) := rd (hT.at 13 (by kernel_rfl) (pre_of hpre 13 (by kernel_rfl)))
      refine op_go hoi (want_all rfl) fun K hK => ?_
      clear hT hpre hlit hoi
      go_simp
      exact hK _ _ ⟨ks, fun _ _ => rfl, rfl, lc0, lc1, lc2, lc3, lc4, lc5, HB, szw, fs, ss⟩
    · have hlit : (regOps Try.f4 6)[15]? = some ({ dst := some 64, op := Op.extract (Operand.tmp 49) 1, type := 4, pos := "law.go:33", after := #[{ on := 13, ground := Ground.data }, { on := 17, ground := Ground.gcOnly Departure.lateStores }], guard := none }) := by kernel_rfl
      obtain rfl := Option.some.inj (hlit.symm.trans hoi)
      have r49 : b.tmps.getD 49 undef = (.tuple #[.agg #[.int .i64 m0, .int .i64 m1, .int .i64 m2, .int .i64 m3, .int .i64 m4, .int .i64 m5], .bool ok]) := rd (hT.at 13 (by kernel_rfl) (pre_of hpre 13 (by kernel_rfl)))
      refine op_go hoi (want_all rfl) fun K hK => ?_
      clear hT hpre hlit hoi
      go_simp
      exact hK _ _ ⟨ks, fun _ _ => rfl, rfl, lc0, lc1, lc2, lc3, lc4, lc5, HB, szw, fs, ss⟩
    · have hlit : (regOps Try.f4 6)[16]? = some ({ dst := some 11, op := Op.alloc 25, type := 0, pos := "law.go:33", after := #[], guard := none }) := by kernel_rfl
      obtain rfl := Option.some.inj (hlit.symm.trans hoi)
      refine op_go hoi (want_all rfl) fun K hK => ?_
      clear hT hpre hlit hoi
      go_simp
      have lw_lc0 := World.block_lt_of_cell? w' _ lc0
      have lw_lc1 := World.block_lt_of_cell? w' _ lc1
      have lw_lc2 := World.block_lt_of_cell? w' _ lc2
      have lw_lc3 := World.block_lt_of_cell? w' _ lc3
      have lw_lc4 := World.block_lt_of_cell? w' _ lc4
      have lw_lc5 := World.block_lt_of_cell? w' _ lc5
      refine hK _ _ ⟨w'.heap.size, fun j hj => ?_, rfl, by go_simp, by go_simp, by go_simp, by go_simp, by go_simp, by go_simp, ba HB _, by simp; omega, fun _ => ⟨szw, by go_simp, by go_simp, by go_simp, by go_simp, by go_simp, by go_simp, 0, 0, 0, 0, 0, 0, by go_simp, by go_simp, by go_simp, by go_simp, by go_simp, by go_simp, fun h => absurd ((ss h).symm.trans hun) (by decide)⟩, fun _ => rfl⟩
      by_cases e : j = 16
      · subst e; rw [hun] at hj; cases hj
      · unfold region4_6_4V; split <;> first | rfl | (exact absurd rfl e)
    · have hlit : (regOps Try.f4 6)[17]? = some ({ dst := none, op := Op.store 25 (Operand.tmp 11) (Operand.tmp 63), type := 0, pos := "law.go:33", after := #[{ on := 16, ground := Ground.data }, { on := 14, ground := Ground.data }, { on := 12, ground := Ground.chain }, { on := 0, ground := Ground.phase }, { on := 1, ground := Ground.phase }, { on := 2, ground := Ground.phase }, { on := 3, ground := Ground.phase }, { on := 4, ground := Ground.phase }, { on := 5, ground := Ground.phase }, { on := 6, ground := Ground.phase }, { on := 7, ground := Ground.phase }, { on := 8, ground := Ground.phase }, { on := 9, ground := Ground.phase }, { on := 10, ground := Ground.phase }, { on := 11, ground := Ground.phase }, { on := 12, ground := Ground.phase }, { on := 13, ground := Ground.phase }, { on := 14, ground := Ground.phase }, { on := 15, ground := Ground.textOnly Departure.lateStores }, { on := 16, ground := Ground.phase }], guard := none }) := by kernel_rfl
      obtain rfl := Option.some.inj (hlit.symm.trans hoi)
      have r11 : b.tmps.getD 11 undef = (.pointer (some ⟨ks, 0, none⟩)) := rd (hT.at 16 (by kernel_rfl) (pre_of hpre 16 (by kernel_rfl)))
      have r63 : b.tmps.getD 63 undef = (.agg #[.int .i64 m0, .int .i64 m1, .int .i64 m2, .int .i64 m3, .int .i64 m4, .int .i64 m5]) := rd (hT.at 14 (by kernel_rfl) (pre_of hpre 14 (by kernel_rfl)))
      have pr : L 16 = true := pre_of hpre 16 (by kernel_rfl)
      obtain ⟨ge, fz0, fz1, fz2, fz3, fz4, fz5, u0, u1, u2, u3, u4, u5, ce0, ce1, ce2, ce3, ce4, ce5, -⟩ := fs pr
      have ne_kl : ¬ kl = ks := Nat.ne_of_lt (Nat.lt_of_lt_of_le lt_kl ge)
      have nf_kl : ¬ ks = kl := fun h => ne_kl h.symm
      refine op_go hoi (want_all rfl) fun K hK => ?_
      clear hT hpre hlit hoi
      go_simp
      exact hK _ _ ⟨ks, fun _ _ => rfl, rfl, by go_simp, by go_simp, by go_simp, by go_simp, by go_simp, by go_simp, bs (bs (bs (bs (bs (bs (HB) (Nat.le_trans sz0 ge) _) (Nat.le_trans sz0 ge) _) (Nat.le_trans sz0 ge) _) (Nat.le_trans sz0 ge) _) (Nat.le_trans sz0 ge) _) (Nat.le_trans sz0 ge) _, by simp; omega, fun _ => ⟨ge, by go_simp, by go_simp, by go_simp, by go_simp, by go_simp, by go_simp, m0, m1, m2, m3, m4, m5, by go_simp, by go_simp, by go_simp, by go_simp, by go_simp, by go_simp, fun _ => ⟨rfl, rfl, rfl, rfl, rfl, rfl⟩⟩, fun _ => pr⟩
    · have hlit : (regOps Try.f4 6)[18]? = some ({ dst := some 12, op := Op.assign (Operand.tmp 64), type := 4, pos := "law.go:33", after := #[{ on := 15, ground := Ground.data }, { on := 17, ground := Ground.chain }, { on := 0, ground := Ground.phase }, { on := 1, ground := Ground.phase }, { on := 2, ground := Ground.phase }, { on := 3, ground := Ground.phase }, { on := 4, ground := Ground.phase }, { on := 5, ground := Ground.phase }, { on := 6, ground := Ground.phase }, { on := 7, ground := Ground.phase }, { on := 8, ground := Ground.phase }, { on := 9, ground := Ground.phase }, { on := 10, ground := Ground.phase }, { on := 11, ground := Ground.phase }, { on := 12, ground := Ground.phase }, { on := 13, ground := Ground.phase }, { on := 14, ground := Ground.phase }, { on := 15, ground := Ground.phase }, { on := 16, ground := Ground.phase }, { on := 17, ground := Ground.phase }], guard := none }) := by kernel_rfl
      obtain rfl := Option.some.inj (hlit.symm.trans hoi)
      have r64 : b.tmps.getD 64 undef = (.bool ok) := rd (hT.at 15 (by kernel_rfl) (pre_of hpre 15 (by kernel_rfl)))
      refine op_go hoi (want_all rfl) fun K hK => ?_
      clear hT hpre hlit hoi
      go_simp
      exact hK _ _ ⟨ks, fun _ _ => rfl, rfl, lc0, lc1, lc2, lc3, lc4, lc5, HB, szw, fs, ss⟩
  · intro ks b w' hT hS
    rw [hT.all ht]
    have hn : (regOps Try.f4 6).size = 19 := by kernel_rfl
    rw [hn] at hS ⊢
    skip
    skip
    obtain ⟨lc0, lc1, lc2, lc3, lc4, lc5, HB, szw, fs, ss⟩ := hS
    obtain ⟨ges, fzs0, fzs1, fzs2, fzs3, fzs4, fzs5, us0, us1, us2, us3, us4, us5, ces0, ces1, ces2, ces3, ces4, ces5, uss⟩ := fs rfl
    obtain ⟨rfl, rfl, rfl, rfl, rfl, rfl⟩ := uss rfl
    exact he ks w' ⟨lc0, lc1, lc2, lc3, lc4, lc5, HB⟩ ⟨ces0, ces1, ces2, ces3, ces4, ces5, fzs0, fzs1, fzs2, fzs3, fzs4, fzs5, ges⟩

/-- What each operation of the region leaves. -/
def region4_18V (d0 d1 e0 e1 f0 f1 x0 x1 y0 y1 q0 q1 j : Int) : Nat → Value
  | 0 => .agg #[.int .i64 x0, .int .i64 x1]
  | 1 => .agg #[.int .i64 y0, .int .i64 y1]
  | 2 => .agg #[.int .i64 d0, .int .i64 d1, .int .i64 e0, .int .i64 e1, .int .i64 f0, .int .i64 f1]
  | 3 => .int .i64 j
  | 4 => .int .i64 (j + 2)
  | 5 => .agg #[.int .i64 q0, .int .i64 q1]
  | 6 => .int .i64 1
  | 7 => .bool false
  | 8 => .bool false
  | 9 => .agg #[.int .i64 d0, .int .i64 d1, .int .i64 e0, .int .i64 e1, .int .i64 f0, .int .i64 f1]
  | 10 => .agg #[.int .i64 x0, .int .i64 x1]
  | 11 => .bool true
  | 12 => .bool false
  | 13 => .bool false
  | 14 => .bool false
  | 15 => .agg #[.int .i64 d0, .int .i64 d1, .int .i64 e0, .int .i64 e1, .int .i64 f0, .int .i64 f1]
  | 16 => .agg #[.int .i64 x0, .int .i64 x1]
  | 17 => .bool false
  | 18 => .bool false
  | _ => undef

set_option maxHeartbeats 4000000 in
set_option maxRecDepth 100000 in
theorem region4_18 (d0 d1 e0 e1 f0 f1 x0 x1 y0 y1 q0 q1 j : Int) (kt kx ky : Nat) (W : World) (eq1 : IntKind.i64.wrap (j + 2) = j + 2) (hq1 : cor ⟨⟨d0, d1⟩, ⟨e0, e1⟩, ⟨f0, f1⟩⟩ (j + 2) = ⟨q0, q1⟩) (hq2 : ori ⟨x0, x1⟩ ⟨y0, y1⟩ ⟨q0, q1⟩ = 1) (hq3 : has ⟨⟨d0, d1⟩, ⟨e0, e1⟩, ⟨f0, f1⟩⟩ ⟨x0, x1⟩ = true) (hq4 : ins ⟨⟨d0, d1⟩, ⟨e0, e1⟩, ⟨f0, f1⟩⟩ ⟨x0, x1⟩ = false) {id : Nat} {ops : Array Oper} {Q : Exit → Act → World → Prop} {a : Act} {w : World}
    (ho : ops = (regOps Try.f4 18)) (hsz : a.tmps.size = 151) (t15 : a.tmps[15]? = some (.pointer (some ⟨kx, 0, none⟩))) (t16 : a.tmps[16]? = some (.pointer (some ⟨ky, 0, none⟩))) (t7 : a.tmps[7]? = some (.pointer (some ⟨kt, 0, none⟩))) (t14 : a.tmps[14]? = some (.int .i64 j))
    (h0 : w.drew.cell? ⟨kt, 0, none⟩ = some (.int .i64 d0) ∧ w.drew.cell? ⟨kt, 1, none⟩ = some (.int .i64 d1) ∧ w.drew.cell? ⟨kt, 2, none⟩ = some (.int .i64 e0) ∧ w.drew.cell? ⟨kt, 3, none⟩ = some (.int .i64 e1) ∧ w.drew.cell? ⟨kt, 4, none⟩ = some (.int .i64 f0) ∧ w.drew.cell? ⟨kt, 5, none⟩ = some (.int .i64 f1) ∧ w.drew.cell? ⟨kx, 0, none⟩ = some (.int .i64 x0) ∧ w.drew.cell? ⟨kx, 1, none⟩ = some (.int .i64 x1) ∧ w.drew.cell? ⟨ky, 0, none⟩ = some (.int .i64 y0) ∧ w.drew.cell? ⟨ky, 1, none⟩ = some (.int .i64 y1) ∧ Below W.heap.size W w.drew)
    (he : ∀ w', w'.cell? ⟨kt, 0, none⟩ = some (.int .i64 d0) ∧ w'.cell? ⟨kt, 1, none⟩ = some (.int .i64 d1) ∧ w'.cell? ⟨kt, 2, none⟩ = some (.int .i64 e0) ∧ w'.cell? ⟨kt, 3, none⟩ = some (.int .i64 e1) ∧ w'.cell? ⟨kt, 4, none⟩ = some (.int .i64 f0) ∧ w'.cell? ⟨kt, 5, none⟩ = some (.int .i64 f1) ∧ w'.cell? ⟨kx, 0, none⟩ = some (.int .i64 x0) ∧ w'.cell? ⟨kx, 1, none⟩ = some (.int .i64 x1) ∧ w'.cell? ⟨ky, 0, none⟩ = some (.int .i64 y0) ∧ w'.cell? ⟨ky, 1, none⟩ = some (.int .i64 y1) ∧ Below W.heap.size W w' → Q .normal ⟨(((((((((((((((((((a.tmps.setIfInBounds 122 (.agg #[.int .i64 x0, .int .i64 x1])).setIfInBounds 123 (.agg #[.int .i64 y0, .int .i64 y1])).setIfInBounds 124 (.agg #[.int .i64 d0, .int .i64 d1, .int .i64 e0, .int .i64 e1, .int .i64 f0, .int .i64 f1])).setIfInBounds 125 (.int .i64 j)).setIfInBounds 126 (.int .i64 (j + 2))).setIfInBounds 127 (.agg #[.int .i64 q0, .int .i64 q1])).setIfInBounds 128 (.int .i64 1)).setIfInBounds 129 (.bool false)).setIfInBounds 130 (.bool false)).setIfInBounds 131 (.agg #[.int .i64 d0, .int .i64 d1, .int .i64 e0, .int .i64 e1, .int .i64 f0, .int .i64 f1])).setIfInBounds 132 (.agg #[.int .i64 x0, .int .i64 x1])).setIfInBounds 133 (.bool true)).setIfInBounds 134 (.bool false)).setIfInBounds 135 (.bool false)).setIfInBounds 136 (.bool false)).setIfInBounds 137 (.agg #[.int .i64 d0, .int .i64 d1, .int .i64 e0, .int .i64 e1, .int .i64 f0, .int .i64 f1])).setIfInBounds 138 (.agg #[.int .i64 x0, .int .i64 x1])).setIfInBounds 139 (.bool false)).setIfInBounds 140 (.bool false)), a.defers⟩ w') :
    (Code.region id ops true).wp Try.prog Q a w := by
  have ht : tidy (regOps Try.f4 18) a.tmps.size = true := by rw [hsz]; kernel_rfl
  refine region_tab (G := Unit) (fun _ => (region4_18V d0 d1 e0 e1 f0 f1 x0 x1 y0 y1 q0 q1 j  )) (fun _ _ w' => w'.cell? ⟨kt, 0, none⟩ = some (.int .i64 d0) ∧ w'.cell? ⟨kt, 1, none⟩ = some (.int .i64 d1) ∧ w'.cell? ⟨kt, 2, none⟩ = some (.int .i64 e0) ∧ w'.cell? ⟨kt, 3, none⟩ = some (.int .i64 e1) ∧ w'.cell? ⟨kt, 4, none⟩ = some (.int .i64 f0) ∧ w'.cell? ⟨kt, 5, none⟩ = some (.int .i64 f1) ∧ w'.cell? ⟨kx, 0, none⟩ = some (.int .i64 x0) ∧ w'.cell? ⟨kx, 1, none⟩ = some (.int .i64 x1) ∧ w'.cell? ⟨ky, 0, none⟩ = some (.int .i64 y0) ∧ w'.cell? ⟨ky, 1, none⟩ = some (.int .i64 y1) ∧ Below W.heap.size W w') () (by kernel_rfl) ho ht h0 ?_ ?_
  · intro i o hoi g L b w' hun hpre hT hS
    clear he h0 ho hsz ht
    have hi : i < (regOps Try.f4 18).size := (Array.getElem?_eq_some_iff.1 hoi).1
    rw [show (regOps Try.f4 18).size = 19 by kernel_rfl] at hi
    obtain ⟨tc0, tc1, tc2, tc3, tc4, tc5, xc0, xc1, yc0, yc1, HB⟩ := hS
    have hcases : i = 0 ∨ i = 1 ∨ i = 2 ∨ i = 3 ∨ i = 4 ∨ i = 5 ∨ i = 6 ∨ i = 7 ∨ i = 8 ∨ i = 9 ∨ i = 10 ∨ i = 11 ∨ i = 12 ∨ i = 13 ∨ i = 14 ∨ i = 15 ∨ i = 16 ∨ i = 17 ∨ i = 18 := by omega
    rcases hcases with rfl | rfl | rfl | rfl | rfl | rfl | rfl | rfl | rfl | rfl | rfl | rfl | rfl | rfl | rfl | rfl | rfl | rfl | rfl
    · have hlit : (regOps Try.f4 18)[0]? = some ({ dst := some 122, op := Op.load 23 (Operand.tmp 15), type := 23, pos := "law.go:47", after := #[], guard := none }) := by kernel_rfl
      obtain rfl := Option.some.inj (hlit.symm.trans hoi)
      have r15 : b.tmps.getD 15 undef = (.pointer (some ⟨kx, 0, none⟩)) := rd ((hT.old 15 (by kernel_rfl)).trans t15)
      refine op_go hoi (want_all rfl) fun K hK => ?_
      clear hT hpre hun hlit hoi
      go_simp
      exact hK _ _ ⟨(), fun _ _ => rfl, rfl, tc0, tc1, tc2, tc3, tc4, tc5, xc0, xc1, yc0, yc1, HB⟩
    · have hlit : (regOps Try.f4 18)[1]? = some ({ dst := some 123, op := Op.load 23 (Operand.tmp 16), type := 23, pos := "law.go:47", after := #[], guard := none }) := by kernel_rfl
      obtain rfl := Option.some.inj (hlit.symm.trans hoi)
      have r16 : b.tmps.getD 16 undef = (.pointer (some ⟨ky, 0, none⟩)) := rd ((hT.old 16 (by kernel_rfl)).trans t16)
      refine op_go hoi (want_all rfl) fun K hK => ?_
      clear hT hpre hun hlit hoi
      go_simp
      exact hK _ _ ⟨(), fun _ _ => rfl, rfl, tc0, tc1, tc2, tc3, tc4, tc5, xc0, xc1, yc0, yc1, HB⟩
    · have hlit : (regOps Try.f4 18)[2]? = some ({ dst := some 124, op := Op.load 25 (Operand.tmp 7), type := 25, pos := "law.go:47", after := #[], guard := none }) := by kernel_rfl
      obtain rfl := Option.some.inj (hlit.symm.trans hoi)
      have r7 : b.tmps.getD 7 undef = (.pointer (some ⟨kt, 0, none⟩)) := rd ((hT.old 7 (by kernel_rfl)).trans t7)
      refine op_go hoi (want_all rfl) fun K hK => ?_
      clear hT hpre hun hlit hoi
      go_simp
      exact hK _ _ ⟨(), fun _ _ => rfl, rfl, tc0, tc1, tc2, tc3, tc4, tc5, xc0, xc1, yc0, yc1, HB⟩
    · have hlit : (regOps Try.f4 18)[3]? = some ({ dst := some 125, op := Op.move (Operand.tmp 14), type := 3, pos := "law.go:47", after := #[], guard := none }) := by kernel_rfl
      obtain rfl := Option.some.inj (hlit.symm.trans hoi)
      have r14 : b.tmps.getD 14 undef = (.int .i64 j) := rd ((hT.old 14 (by kernel_rfl)).trans t14)
      refine op_go hoi (want_all rfl) fun K hK => ?_
      clear hT hpre hun hlit hoi
      go_simp
      exact hK _ _ ⟨(), fun _ _ => rfl, rfl, tc0, tc1, tc2, tc3, tc4, tc5, xc0, xc1, yc0, yc1, HB⟩
    · have hlit : (regOps Try.f4 18)[4]? = some ({ dst := some 126, op := Op.binOp BinOp.add 3 (Operand.tmp 125) (Operand.const (Value.int IntKind.i64 2)) 3, type := 3, pos := "law.go:47", after := #[{ on := 3, ground := Ground.data }], guard := none }) := by kernel_rfl
      obtain rfl := Option.some.inj (hlit.symm.trans hoi)
      have r125 : b.tmps.getD 125 undef = (.int .i64 j) := rd (hT.at 3 (by kernel_rfl) (pre_of hpre 3 (by kernel_rfl)))
      refine op_go hoi (want_all rfl) fun K hK => ?_
      clear hT hpre hun hlit hoi
      go_simp
      exact hK _ _ ⟨(), fun _ _ => rfl, rfl, tc0, tc1, tc2, tc3, tc4, tc5, xc0, xc1, yc0, yc1, HB⟩
    · have hlit : (regOps Try.f4 18)[5]? = some ({ dst := some 127, op := Op.call { callee := Callee.value (Operand.func 28), args := #[Operand.tmp 124, Operand.tmp 126], argTypes := #[25, 3] }, type := 23, pos := "law.go:47", after := #[{ on := 2, ground := Ground.data }, { on := 4, ground := Ground.data }], guard := none }) := by kernel_rfl
      obtain rfl := Option.some.inj (hlit.symm.trans hoi)
      have r124 : b.tmps.getD 124 undef = (.agg #[.int .i64 d0, .int .i64 d1, .int .i64 e0, .int .i64 e1, .int .i64 f0, .int .i64 f1]) := rd (hT.at 2 (by kernel_rfl) (pre_of hpre 2 (by kernel_rfl)))
      have r126 : b.tmps.getD 126 undef = (.int .i64 (j + 2)) := rd (hT.at 4 (by kernel_rfl) (pre_of hpre 4 (by kernel_rfl)))
      refine op_go hoi (want_all rfl) fun K hK => ?_
      clear hT hpre hun hlit hoi
      go_simp
      go_at_call 28
      refine (cor28 _ _ _ _ _ _ _ _).mono ?_; rw [hq1]; rintro e w2 ⟨rfl, hb⟩; replace tc0 := ck hb (a := ⟨kt, 0, none⟩) (v := .int .i64 d0) (by go_simp); replace tc1 := ck hb (a := ⟨kt, 1, none⟩) (v := .int .i64 d1) (by go_simp); replace tc2 := ck hb (a := ⟨kt, 2, none⟩) (v := .int .i64 e0) (by go_simp); replace tc3 := ck hb (a := ⟨kt, 3, none⟩) (v := .int .i64 e1) (by go_simp); replace tc4 := ck hb (a := ⟨kt, 4, none⟩) (v := .int .i64 f0) (by go_simp); replace tc5 := ck hb (a := ⟨kt, 5, none⟩) (v := .int .i64 f1) (by go_simp); replace xc0 := ck hb (a := ⟨kx, 0, none⟩) (v := .int .i64 x0) (by go_simp); replace xc1 := ck hb (a := ⟨kx, 1, none⟩) (v := .int .i64 x1) (by go_simp); replace yc0 := ck hb (a := ⟨ky, 0, none⟩) (v := .int .i64 y0) (by go_simp); replace yc1 := ck hb (a := ⟨ky, 1, none⟩) (v := .int .i64 y1) (by go_simp); replace HB : Below W.heap.size W w2 := bt HB hb; clear hb
      exact hK _ _ ⟨(), fun _ _ => rfl, rfl, tc0, tc1, tc2, tc3, tc4, tc5, xc0, xc1, yc0, yc1, HB⟩
    · have hlit : (regOps Try.f4 18)[6]? = some ({ dst := some 128, op := Op.call { callee := Callee.value (Operand.func 37), args := #[Operand.tmp 122, Operand.tmp 123, Operand.tmp 127], argTypes := #[23, 23, 23] }, type := 3, pos := "law.go:47", after := #[{ on := 0, ground := Ground.data }, { on := 1, ground := Ground.data }, { on := 5, ground := Ground.data }, { on := 5, ground := Ground.chain }], guard := none }) := by kernel_rfl
      obtain rfl := Option.some.inj (hlit.symm.trans hoi)
      have r122 : b.tmps.getD 122 undef = (.agg #[.int .i64 x0, .int .i64 x1]) := rd (hT.at 0 (by kernel_rfl) (pre_of hpre 0 (by kernel_rfl)))
      have r123 : b.tmps.getD 123 undef = (.agg #[.int .i64 y0, .int .i64 y1]) := rd (hT.at 1 (by kernel_rfl) (pre_of hpre 1 (by kernel_rfl)))
      have r127 : b.tmps.getD 127 undef = (.agg #[.int .i64 q0, .int .i64 q1]) := rd (hT.at 5 (by kernel_rfl) (pre_of hpre 5 (by kernel_rfl)))
      refine op_go hoi (want_all rfl) fun K hK => ?_
      clear hT hpre hun hlit hoi
      go_simp
      go_at_call 37
      refine (ori37 _ _ _ _ _ _ _).mono ?_; rw [hq2]; rintro e w2 ⟨rfl, hb⟩; replace tc0 := ck hb (a := ⟨kt, 0, none⟩) (v := .int .i64 d0) (by go_simp); replace tc1 := ck hb (a := ⟨kt, 1, none⟩) (v := .int .i64 d1) (by go_simp); replace tc2 := ck hb (a := ⟨kt, 2, none⟩) (v := .int .i64 e0) (by go_simp); replace tc3 := ck hb (a := ⟨kt, 3, none⟩) (v := .int .i64 e1) (by go_simp); replace tc4 := ck hb (a := ⟨kt, 4, none⟩) (v := .int .i64 f0) (by go_simp); replace tc5 := ck hb (a := ⟨kt, 5, none⟩) (v := .int .i64 f1) (by go_simp); replace xc0 := ck hb (a := ⟨kx, 0, none⟩) (v := .int .i64 x0) (by go_simp); replace xc1 := ck hb (a := ⟨kx, 1, none⟩) (v := .int .i64 x1) (by go_simp); replace yc0 := ck hb (a := ⟨ky, 0, none⟩) (v := .int .i64 y0) (by go_simp); replace yc1 := ck hb (a := ⟨ky, 1, none⟩) (v := .int .i64 y1) (by go_simp); replace HB : Below W.heap.size W w2 := bt HB hb; clear hb
      exact hK _ _ ⟨(), fun _ _ => rfl, rfl, tc0, tc1, tc2, tc3, tc4, tc5, xc0, xc1, yc0, yc1, HB⟩
    · have hlit : (regOps Try.f4 18)[7]? = some ({ dst := some 129, op := Op.binOp BinOp.neq 3 (Operand.tmp 128) (Operand.const (Value.int IntKind.i64 1)) 3, type := 4, pos := "law.go:47", after := #[{ on := 6, ground := Ground.data }], guard := none }) := by kernel_rfl
      obtain rfl := Option.some.inj (hlit.symm.trans hoi)
      have r128 : b.tmps.getD 128 undef = (.int .i64 1) := rd (hT.at 6 (by kernel_rfl) (pre_of hpre 6 (by kernel_rfl)))
      refine op_go hoi (want_all rfl) fun K hK => ?_
      clear hT hpre hun hlit hoi
      go_simp
      exact hK _ _ ⟨(), fun _ _ => rfl, rfl, tc0, tc1, tc2, tc3, tc4, tc5, xc0, xc1, yc0, yc1, HB⟩
    · have hlit : (regOps Try.f4 18)[8]? = some ({ dst := some 130, op := Op.move (Operand.tmp 129), type := 4, pos := "law.go:47", after := #[{ on := 7, ground := Ground.data }, { on := 6, ground := Ground.chain }], guard := none }) := by kernel_rfl
      obtain rfl := Option.some.inj (hlit.symm.trans hoi)
      have r129 : b.tmps.getD 129 undef = (.bool false) := rd (hT.at 7 (by kernel_rfl) (pre_of hpre 7 (by kernel_rfl)))
      refine op_go hoi (want_all rfl) fun K hK => ?_
      clear hT hpre hun hlit hoi
      go_simp
      exact hK _ _ ⟨(), fun _ _ => rfl, rfl, tc0, tc1, tc2, tc3, tc4, tc5, xc0, xc1, yc0, yc1, HB⟩
    · have hlit : (regOps Try.f4 18)[9]? = some ({ dst := some 131, op := Op.load 25 (Operand.tmp 7), type := 25, pos := "law.go:47", after := #[{ on := 8, ground := Ground.guard }], guard := some (8, false) }) := by kernel_rfl
      obtain rfl := Option.some.inj (hlit.symm.trans hoi)
      have r7 : b.tmps.getD 7 undef = (.pointer (some ⟨kt, 0, none⟩)) := rd ((hT.old 7 (by kernel_rfl)).trans t7)
      refine op_go hoi (want_yes rfl (d := 130) (by kernel_rfl) (hT.at 8 (by kernel_rfl) (pre_of hpre 8 (by kernel_rfl)))) fun K hK => ?_
      clear hT hpre hun hlit hoi
      go_simp
      exact hK _ _ ⟨(), fun _ _ => rfl, rfl, tc0, tc1, tc2, tc3, tc4, tc5, xc0, xc1, yc0, yc1, HB⟩
    · have hlit : (regOps Try.f4 18)[10]? = some ({ dst := some 132, op := Op.load 23 (Operand.tmp 15), type := 23, pos := "law.go:47", after := #[{ on := 8, ground := Ground.guard }], guard := some (8, false) }) := by kernel_rfl
      obtain rfl := Option.some.inj (hlit.symm.trans hoi)
      have r15 : b.tmps.getD 15 undef = (.pointer (some ⟨kx, 0, none⟩)) := rd ((hT.old 15 (by kernel_rfl)).trans t15)
      refine op_go hoi (want_yes rfl (d := 130) (by kernel_rfl) (hT.at 8 (by kernel_rfl) (pre_of hpre 8 (by kernel_rfl)))) fun K hK => ?_
      clear hT hpre hun hlit hoi
      go_simp
      exact hK _ _ ⟨(), fun _ _ => rfl, rfl, tc0, tc1, tc2, tc3, tc4, tc5, xc0, xc1, yc0, yc1, HB⟩
    · have hlit : (regOps Try.f4 18)[11]? = some ({ dst := some 133, op := Op.call { callee := Callee.value (Operand.func 30), args := #[Operand.tmp 131, Operand.tmp 132], argTypes := #[25, 23] }, type := 4, pos := "law.go:47", after := #[{ on := 9, ground := Ground.data }, { on := 10, ground := Ground.data }, { on := 8, ground := Ground.chain }, { on := 8, ground := Ground.guard }], guard := some (8, false) }) := by kernel_rfl
      obtain rfl := Option.some.inj (hlit.symm.trans hoi)
      have r131 : b.tmps.getD 131 undef = (.agg #[.int .i64 d0, .int .i64 d1, .int .i64 e0, .int .i64 e1, .int .i64 f0, .int .i64 f1]) := rd (hT.at 9 (by kernel_rfl) (pre_of hpre 9 (by kernel_rfl)))
      have r132 : b.tmps.getD 132 undef = (.agg #[.int .i64 x0, .int .i64 x1]) := rd (hT.at 10 (by kernel_rfl) (pre_of hpre 10 (by kernel_rfl)))
      refine op_go hoi (want_yes rfl (d := 130) (by kernel_rfl) (hT.at 8 (by kernel_rfl) (pre_of hpre 8 (by kernel_rfl)))) fun K hK => ?_
      clear hT hpre hun hlit hoi
      go_simp
      go_at_call 30
      refine (has30 _ _ _ _ _ _ _ _ _).mono ?_; rw [hq3]; rintro e w2 ⟨rfl, hb⟩; replace tc0 := ck hb (a := ⟨kt, 0, none⟩) (v := .int .i64 d0) (by go_simp); replace tc1 := ck hb (a := ⟨kt, 1, none⟩) (v := .int .i64 d1) (by go_simp); replace tc2 := ck hb (a := ⟨kt, 2, none⟩) (v := .int .i64 e0) (by go_simp); replace tc3 := ck hb (a := ⟨kt, 3, none⟩) (v := .int .i64 e1) (by go_simp); replace tc4 := ck hb (a := ⟨kt, 4, none⟩) (v := .int .i64 f0) (by go_simp); replace tc5 := ck hb (a := ⟨kt, 5, none⟩) (v := .int .i64 f1) (by go_simp); replace xc0 := ck hb (a := ⟨kx, 0, none⟩) (v := .int .i64 x0) (by go_simp); replace xc1 := ck hb (a := ⟨kx, 1, none⟩) (v := .int .i64 x1) (by go_simp); replace yc0 := ck hb (a := ⟨ky, 0, none⟩) (v := .int .i64 y0) (by go_simp); replace yc1 := ck hb (a := ⟨ky, 1, none⟩) (v := .int .i64 y1) (by go_simp); replace HB : Below W.heap.size W w2 := bt HB hb; clear hb
      exact hK _ _ ⟨(), fun _ _ => rfl, rfl, tc0, tc1, tc2, tc3, tc4, tc5, xc0, xc1, yc0, yc1, HB⟩
    · have hlit : (regOps Try.f4 18)[12]? = some ({ dst := some 134, op := Op.unOp UnOp.not 4 (Operand.tmp 133), type := 4, pos := "law.go:47", after := #[{ on := 11, ground := Ground.data }, { on := 8, ground := Ground.guard }], guard := some (8, false) }) := by kernel_rfl
      obtain rfl := Option.some.inj (hlit.symm.trans hoi)
      have r133 : b.tmps.getD 133 undef = (.bool true) := rd (hT.at 11 (by kernel_rfl) (pre_of hpre 11 (by kernel_rfl)))
      refine op_go hoi (want_yes rfl (d := 130) (by kernel_rfl) (hT.at 8 (by kernel_rfl) (pre_of hpre 8 (by kernel_rfl)))) fun K hK => ?_
      clear hT hpre hun hlit hoi
      go_simp
      exact hK _ _ ⟨(), fun _ _ => rfl, rfl, tc0, tc1, tc2, tc3, tc4, tc5, xc0, xc1, yc0, yc1, HB⟩
    · have hlit : (regOps Try.f4 18)[13]? = some ({ dst := some 135, op := Op.pick (Operand.tmp 130) (Operand.const (Value.bool true)) (Operand.tmp 134), type := 4, pos := "law.go:47", after := #[{ on := 8, ground := Ground.data }, { on := 12, ground := Ground.data }], guard := none }) := by kernel_rfl
      obtain rfl := Option.some.inj (hlit.symm.trans hoi)
      have r130 : b.tmps.getD 130 undef = (.bool false) := rd (hT.at 8 (by kernel_rfl) (pre_of hpre 8 (by kernel_rfl)))
      have r134 : b.tmps.getD 134 undef = (.bool false) := rd (hT.at 12 (by kernel_rfl) (pre_of hpre 12 (by kernel_rfl)))
      refine op_go hoi (want_all rfl) fun K hK => ?_
      clear hT hpre hun hlit hoi
      go_simp
      exact hK _ _ ⟨(), fun _ _ => rfl, rfl, tc0, tc1, tc2, tc3, tc4, tc5, xc0, xc1, yc0, yc1, HB⟩
    · have hlit : (regOps Try.f4 18)[14]? = some ({ dst := some 136, op := Op.move (Operand.tmp 135), type := 4, pos := "law.go:47", after := #[{ on := 13, ground := Ground.data }, { on := 11, ground := Ground.chain }], guard := none }) := by kernel_rfl
      obtain rfl := Option.some.inj (hlit.symm.trans hoi)
      have r135 : b.tmps.getD 135 undef = (.bool false) := rd (hT.at 13 (by kernel_rfl) (pre_of hpre 13 (by kernel_rfl)))
      refine op_go hoi (want_all rfl) fun K hK => ?_
      clear hT hpre hun hlit hoi
      go_simp
      exact hK _ _ ⟨(), fun _ _ => rfl, rfl, tc0, tc1, tc2, tc3, tc4, tc5, xc0, xc1, yc0, yc1, HB⟩
    · have hlit : (regOps Try.f4 18)[15]? = some ({ dst := some 137, op := Op.load 25 (Operand.tmp 7), type := 25, pos := "law.go:47", after := #[{ on := 14, ground := Ground.guard }], guard := some (14, false) }) := by kernel_rfl
      obtain rfl := Option.some.inj (hlit.symm.trans hoi)
      have r7 : b.tmps.getD 7 undef = (.pointer (some ⟨kt, 0, none⟩)) := rd ((hT.old 7 (by kernel_rfl)).trans t7)
      refine op_go hoi (want_yes rfl (d := 136) (by kernel_rfl) (hT.at 14 (by kernel_rfl) (pre_of hpre 14 (by kernel_rfl)))) fun K hK => ?_
      clear hT hpre hun hlit hoi
      go_simp
      exact hK _ _ ⟨(), fun _ _ => rfl, rfl, tc0, tc1, tc2, tc3, tc4, tc5, xc0, xc1, yc0, yc1, HB⟩
    · have hlit : (regOps Try.f4 18)[16]? = some ({ dst := some 138, op := Op.load 23 (Operand.tmp 15), type := 23, pos := "law.go:47", after := #[{ on := 14, ground := Ground.guard }], guard := some (14, false) }) := by kernel_rfl
      obtain rfl := Option.some.inj (hlit.symm.trans hoi)
      have r15 : b.tmps.getD 15 undef = (.pointer (some ⟨kx, 0, none⟩)) := rd ((hT.old 15 (by kernel_rfl)).trans t15)
      refine op_go hoi (want_yes rfl (d := 136) (by kernel_rfl) (hT.at 14 (by kernel_rfl) (pre_of hpre 14 (by kernel_rfl)))) fun K hK => ?_
      clear hT hpre hun hlit hoi
      go_simp
      exact hK _ _ ⟨(), fun _ _ => rfl, rfl, tc0, tc1, tc2, tc3, tc4, tc5, xc0, xc1, yc0, yc1, HB⟩
    · have hlit : (regOps Try.f4 18)[17]? = some ({ dst := some 139, op := Op.call { callee := Callee.value (Operand.func 32), args := #[Operand.tmp 137, Operand.tmp 138], argTypes := #[25, 23] }, type := 4, pos := "law.go:47", after := #[{ on := 15, ground := Ground.data }, { on := 16, ground := Ground.data }, { on := 14, ground := Ground.chain }, { on := 14, ground := Ground.guard }], guard := some (14, false) }) := by kernel_rfl
      obtain rfl := Option.some.inj (hlit.symm.trans hoi)
      have r137 : b.tmps.getD 137 undef = (.agg #[.int .i64 d0, .int .i64 d1, .int .i64 e0, .int .i64 e1, .int .i64 f0, .int .i64 f1]) := rd (hT.at 15 (by kernel_rfl) (pre_of hpre 15 (by kernel_rfl)))
      have r138 : b.tmps.getD 138 undef = (.agg #[.int .i64 x0, .int .i64 x1]) := rd (hT.at 16 (by kernel_rfl) (pre_of hpre 16 (by kernel_rfl)))
      refine op_go hoi (want_yes rfl (d := 136) (by kernel_rfl) (hT.at 14 (by kernel_rfl) (pre_of hpre 14 (by kernel_rfl)))) fun K hK => ?_
      clear hT hpre hun hlit hoi
      go_simp
      go_at_call 32
      refine (ins32 _ _ _ _ _ _ _ _ _).mono ?_; rw [hq4]; rintro e w2 ⟨rfl, hb⟩; replace tc0 := ck hb (a := ⟨kt, 0, none⟩) (v := .int .i64 d0) (by go_simp); replace tc1 := ck hb (a := ⟨kt, 1, none⟩) (v := .int .i64 d1) (by go_simp); replace tc2 := ck hb (a := ⟨kt, 2, none⟩) (v := .int .i64 e0) (by go_simp); replace tc3 := ck hb (a := ⟨kt, 3, none⟩) (v := .int .i64 e1) (by go_simp); replace tc4 := ck hb (a := ⟨kt, 4, none⟩) (v := .int .i64 f0) (by go_simp); replace tc5 := ck hb (a := ⟨kt, 5, none⟩) (v := .int .i64 f1) (by go_simp); replace xc0 := ck hb (a := ⟨kx, 0, none⟩) (v := .int .i64 x0) (by go_simp); replace xc1 := ck hb (a := ⟨kx, 1, none⟩) (v := .int .i64 x1) (by go_simp); replace yc0 := ck hb (a := ⟨ky, 0, none⟩) (v := .int .i64 y0) (by go_simp); replace yc1 := ck hb (a := ⟨ky, 1, none⟩) (v := .int .i64 y1) (by go_simp); replace HB : Below W.heap.size W w2 := bt HB hb; clear hb
      exact hK _ _ ⟨(), fun _ _ => rfl, rfl, tc0, tc1, tc2, tc3, tc4, tc5, xc0, xc1, yc0, yc1, HB⟩
    · have hlit : (regOps Try.f4 18)[18]? = some ({ dst := some 140, op := Op.pick (Operand.tmp 136) (Operand.const (Value.bool true)) (Operand.tmp 139), type := 4, pos := "law.go:47", after := #[{ on := 14, ground := Ground.data }, { on := 17, ground := Ground.data }], guard := none }) := by kernel_rfl
      obtain rfl := Option.some.inj (hlit.symm.trans hoi)
      have r136 : b.tmps.getD 136 undef = (.bool false) := rd (hT.at 14 (by kernel_rfl) (pre_of hpre 14 (by kernel_rfl)))
      have r139 : b.tmps.getD 139 undef = (.bool false) := rd (hT.at 17 (by kernel_rfl) (pre_of hpre 17 (by kernel_rfl)))
      refine op_go hoi (want_all rfl) fun K hK => ?_
      clear hT hpre hun hlit hoi
      go_simp
      exact hK _ _ ⟨(), fun _ _ => rfl, rfl, tc0, tc1, tc2, tc3, tc4, tc5, xc0, xc1, yc0, yc1, HB⟩
  · intro g b w' hT hS
    rw [hT.all ht]
    have hn : (regOps Try.f4 18).size = 19 := by kernel_rfl
    rw [hn]
    exact he w' hS

end Go.Proofs.Ytandgbpbabmdfaa
