import Derived.Test.YtkamnnkdadfebaaDoorRg
import Derived.Test.YtkamnnkdadfebaaDoorB6
import Derived.Test.YtkamnnkdadfebaaDoorA3
import Derived.Test.YtkamnnkdadfebaaDoorA4
namespace Go.Proofs.YtkamnnkdadfebaaDoor
open Go.RowKit
set_option linter.unusedVariables false
attribute [local go_sem high] eq24 eq37


/-- What each operation of the region leaves. -/
def region21_1V (x0 x1 : Int) (oo : Bool) : Nat → Value
  | 0 => .agg #[.int .i64 x0, .int .u64 x1]
  | 1 => .agg #[.int .i64 x0, .int .u64 x1]
  | 2 => .agg #[.int .i64 x0, .int .u64 x1]
  | 3 => .bool true
  | 4 => .bool true
  | 5 => .bool oo
  | 6 => .bool oo
  | 7 => .bool true
  | 8 => .bool true
  | 9 => .bool true
  | _ => undef

set_option maxHeartbeats 4000000 in
set_option maxRecDepth 100000 in
theorem region21_1 (x0 x1 : Int) (kx ky : Nat) (oo : Bool) (W : World)  {id : Nat} {ops : Array Oper} {Q : Exit → Act → World → Prop} {a : Act} {w : World}
    (ho : ops = (regOps Tryd.f21 1)) (hsz : a.tmps.size = 18) (t1 : a.tmps[1]? = some (.bool oo)) (t3 : a.tmps[3]? = some (.bool oo)) (t4 : a.tmps[4]? = some (.pointer (some ⟨kx, 0, none⟩))) (t6 : a.tmps[6]? = some (.pointer (some ⟨ky, 0, none⟩)))
    (h0 : w.drew.cell? ⟨kx, 0, none⟩ = some (.int .i64 x0) ∧ w.drew.cell? ⟨kx, 1, none⟩ = some (.int .u64 x1) ∧ w.drew.cell? ⟨ky, 0, none⟩ = some (.int .i64 x0) ∧ w.drew.cell? ⟨ky, 1, none⟩ = some (.int .u64 x1) ∧ Below W.heap.size W w.drew)
    (he : ∀ w', w'.cell? ⟨kx, 0, none⟩ = some (.int .i64 x0) ∧ w'.cell? ⟨kx, 1, none⟩ = some (.int .u64 x1) ∧ w'.cell? ⟨ky, 0, none⟩ = some (.int .i64 x0) ∧ w'.cell? ⟨ky, 1, none⟩ = some (.int .u64 x1) ∧ Below W.heap.size W w' → Q .normal ⟨((((((((((a.tmps.setIfInBounds 9 (.agg #[.int .i64 x0, .int .u64 x1])).setIfInBounds 10 (.agg #[.int .i64 x0, .int .u64 x1])).setIfInBounds 11 (.agg #[.int .i64 x0, .int .u64 x1])).setIfInBounds 12 (.bool true)).setIfInBounds 13 (.bool true)).setIfInBounds 14 (.bool oo)).setIfInBounds 15 (.bool oo)).setIfInBounds 16 (.bool true)).setIfInBounds 17 (.bool true)).setIfInBounds 8 (.bool true)), a.defers⟩ w') :
    (Code.region id ops true).wp Tryd.prog Q a w := by
  have ht : tidy (regOps Tryd.f21 1) a.tmps.size = true := by rw [hsz]; kernel_rfl
  refine region_tab (G := Unit) (fun _ => (region21_1V x0 x1  oo)) (fun _ _ w' => w'.cell? ⟨kx, 0, none⟩ = some (.int .i64 x0) ∧ w'.cell? ⟨kx, 1, none⟩ = some (.int .u64 x1) ∧ w'.cell? ⟨ky, 0, none⟩ = some (.int .i64 x0) ∧ w'.cell? ⟨ky, 1, none⟩ = some (.int .u64 x1) ∧ Below W.heap.size W w') () (by kernel_rfl) ho ht h0 ?_ ?_
  · intro i o hoi g L b w' hun hpre hT hS
    clear he h0 ho hsz ht
    have hi : i < (regOps Tryd.f21 1).size := (Array.getElem?_eq_some_iff.1 hoi).1
    rw [show (regOps Tryd.f21 1).size = 10 by kernel_rfl] at hi
    obtain ⟨xc0, xc1, yc0, yc1, HB⟩ := hS
    have hcases : i = 0 ∨ i = 1 ∨ i = 2 ∨ i = 3 ∨ i = 4 ∨ i = 5 ∨ i = 6 ∨ i = 7 ∨ i = 8 ∨ i = 9 := by omega
    rcases hcases with rfl | rfl | rfl | rfl | rfl | rfl | rfl | rfl | rfl | rfl
    · have hlit : (regOps Tryd.f21 1)[0]? = some ({ dst := some 9, op := Op.load 24 (Operand.tmp 4), type := 24, pos := "law.go:14", after := #[], guard := none }) := by kernel_rfl
      obtain rfl := Option.some.inj (hlit.symm.trans hoi)
      have r4 : b.tmps.getD 4 undef = (.pointer (some ⟨kx, 0, none⟩)) := rd ((hT.old 4 (by kernel_rfl)).trans t4)
      refine op_go hoi (want_all rfl) fun K hK => ?_
      clear hT hpre hun hlit hoi
      go_simp
      exact hK _ _ ⟨(), fun _ _ => rfl, rfl, xc0, xc1, yc0, yc1, HB⟩
    · have hlit : (regOps Tryd.f21 1)[1]? = some ({ dst := some 10, op := Op.call { callee := Callee.value (Operand.func 17), args := #[Operand.tmp 9], argTypes := #[24] }, type := 37, pos := "law.go:14", after := #[{ on := 0, ground := Ground.data }], guard := none }) := by kernel_rfl
      obtain rfl := Option.some.inj (hlit.symm.trans hoi)
      have r9 : b.tmps.getD 9 undef = (.agg #[.int .i64 x0, .int .u64 x1]) := rd (hT.at 0 (by kernel_rfl) (pre_of hpre 0 (by kernel_rfl)))
      refine op_go hoi (want_all rfl) fun K hK => ?_
      clear hT hpre hun hlit hoi
      go_simp
      go_at_call 17
      refine (of17 _ _ _).mono ?_; rintro e w2 ⟨rfl, hb⟩; replace xc0 := ck hb (a := ⟨kx, 0, none⟩) (v := .int .i64 x0) (by go_simp); replace xc1 := ck hb (a := ⟨kx, 1, none⟩) (v := .int .u64 x1) (by go_simp); replace yc0 := ck hb (a := ⟨ky, 0, none⟩) (v := .int .i64 x0) (by go_simp); replace yc1 := ck hb (a := ⟨ky, 1, none⟩) (v := .int .u64 x1) (by go_simp); replace HB : Below W.heap.size W w2 := bt HB hb; clear hb
      exact hK _ _ ⟨(), fun _ _ => rfl, rfl, xc0, xc1, yc0, yc1, HB⟩
    · have hlit : (regOps Tryd.f21 1)[2]? = some ({ dst := some 11, op := Op.load 37 (Operand.tmp 6), type := 37, pos := "law.go:14", after := #[], guard := none }) := by kernel_rfl
      obtain rfl := Option.some.inj (hlit.symm.trans hoi)
      have r6 : b.tmps.getD 6 undef = (.pointer (some ⟨ky, 0, none⟩)) := rd ((hT.old 6 (by kernel_rfl)).trans t6)
      refine op_go hoi (want_all rfl) fun K hK => ?_
      clear hT hpre hun hlit hoi
      go_simp
      exact hK _ _ ⟨(), fun _ _ => rfl, rfl, xc0, xc1, yc0, yc1, HB⟩
    · have hlit : (regOps Tryd.f21 1)[3]? = some ({ dst := some 12, op := Op.binOp BinOp.eql 37 (Operand.tmp 10) (Operand.tmp 11) 37, type := 4, pos := "law.go:14", after := #[{ on := 1, ground := Ground.data }, { on := 2, ground := Ground.data }], guard := none }) := by kernel_rfl
      obtain rfl := Option.some.inj (hlit.symm.trans hoi)
      have r10 : b.tmps.getD 10 undef = (.agg #[.int .i64 x0, .int .u64 x1]) := rd (hT.at 1 (by kernel_rfl) (pre_of hpre 1 (by kernel_rfl)))
      have r11 : b.tmps.getD 11 undef = (.agg #[.int .i64 x0, .int .u64 x1]) := rd (hT.at 2 (by kernel_rfl) (pre_of hpre 2 (by kernel_rfl)))
      refine op_go hoi (want_all rfl) fun K hK => ?_
      clear hT hpre hun hlit hoi
      go_simp
      exact hK _ _ ⟨(), fun _ _ => rfl, rfl, xc0, xc1, yc0, yc1, HB⟩
    · have hlit : (regOps Tryd.f21 1)[4]? = some ({ dst := some 13, op := Op.move (Operand.tmp 12), type := 4, pos := "law.go:14", after := #[{ on := 3, ground := Ground.data }, { on := 1, ground := Ground.chain }], guard := none }) := by kernel_rfl
      obtain rfl := Option.some.inj (hlit.symm.trans hoi)
      have r12 : b.tmps.getD 12 undef = (.bool true) := rd (hT.at 3 (by kernel_rfl) (pre_of hpre 3 (by kernel_rfl)))
      refine op_go hoi (want_all rfl) fun K hK => ?_
      clear hT hpre hun hlit hoi
      go_simp
      exact hK _ _ ⟨(), fun _ _ => rfl, rfl, xc0, xc1, yc0, yc1, HB⟩
    · have hlit : (regOps Tryd.f21 1)[5]? = some ({ dst := some 14, op := Op.move (Operand.tmp 1), type := 4, pos := "law.go:14", after := #[{ on := 4, ground := Ground.guard }], guard := some (4, true) }) := by kernel_rfl
      obtain rfl := Option.some.inj (hlit.symm.trans hoi)
      have r1 : b.tmps.getD 1 undef = (.bool oo) := rd ((hT.old 1 (by kernel_rfl)).trans t1)
      refine op_go hoi (want_yes rfl (d := 13) (by kernel_rfl) (hT.at 4 (by kernel_rfl) (pre_of hpre 4 (by kernel_rfl)))) fun K hK => ?_
      clear hT hpre hun hlit hoi
      go_simp
      exact hK _ _ ⟨(), fun _ _ => rfl, rfl, xc0, xc1, yc0, yc1, HB⟩
    · have hlit : (regOps Tryd.f21 1)[6]? = some ({ dst := some 15, op := Op.move (Operand.tmp 3), type := 4, pos := "law.go:14", after := #[{ on := 4, ground := Ground.guard }], guard := some (4, true) }) := by kernel_rfl
      obtain rfl := Option.some.inj (hlit.symm.trans hoi)
      have r3 : b.tmps.getD 3 undef = (.bool oo) := rd ((hT.old 3 (by kernel_rfl)).trans t3)
      refine op_go hoi (want_yes rfl (d := 13) (by kernel_rfl) (hT.at 4 (by kernel_rfl) (pre_of hpre 4 (by kernel_rfl)))) fun K hK => ?_
      clear hT hpre hun hlit hoi
      go_simp
      exact hK _ _ ⟨(), fun _ _ => rfl, rfl, xc0, xc1, yc0, yc1, HB⟩
    · have hlit : (regOps Tryd.f21 1)[7]? = some ({ dst := some 16, op := Op.binOp BinOp.eql 4 (Operand.tmp 14) (Operand.tmp 15) 4, type := 4, pos := "law.go:14", after := #[{ on := 5, ground := Ground.data }, { on := 6, ground := Ground.data }, { on := 4, ground := Ground.guard }], guard := some (4, true) }) := by kernel_rfl
      obtain rfl := Option.some.inj (hlit.symm.trans hoi)
      have r14 : b.tmps.getD 14 undef = (.bool oo) := rd (hT.at 5 (by kernel_rfl) (pre_of hpre 5 (by kernel_rfl)))
      have r15 : b.tmps.getD 15 undef = (.bool oo) := rd (hT.at 6 (by kernel_rfl) (pre_of hpre 6 (by kernel_rfl)))
      refine op_go hoi (want_yes rfl (d := 13) (by kernel_rfl) (hT.at 4 (by kernel_rfl) (pre_of hpre 4 (by kernel_rfl)))) fun K hK => ?_
      clear hT hpre hun hlit hoi
      go_simp
      exact hK _ _ ⟨(), fun _ _ => rfl, rfl, xc0, xc1, yc0, yc1, HB⟩
    · have hlit : (regOps Tryd.f21 1)[8]? = some ({ dst := some 17, op := Op.pick (Operand.tmp 13) (Operand.tmp 16) (Operand.const (Value.bool false)), type := 4, pos := "law.go:14", after := #[{ on := 4, ground := Ground.data }, { on := 7, ground := Ground.data }], guard := none }) := by kernel_rfl
      obtain rfl := Option.some.inj (hlit.symm.trans hoi)
      have r13 : b.tmps.getD 13 undef = (.bool true) := rd (hT.at 4 (by kernel_rfl) (pre_of hpre 4 (by kernel_rfl)))
      have r16 : b.tmps.getD 16 undef = (.bool true) := rd (hT.at 7 (by kernel_rfl) (pre_of hpre 7 (by kernel_rfl)))
      refine op_go hoi (want_all rfl) fun K hK => ?_
      clear hT hpre hun hlit hoi
      go_simp
      exact hK _ _ ⟨(), fun _ _ => rfl, rfl, xc0, xc1, yc0, yc1, HB⟩
    · have hlit : (regOps Tryd.f21 1)[9]? = some ({ dst := some 8, op := Op.assign (Operand.tmp 17), type := 4, pos := "law.go:14", after := #[{ on := 8, ground := Ground.data }, { on := 4, ground := Ground.chain }, { on := 0, ground := Ground.phase }, { on := 1, ground := Ground.phase }, { on := 2, ground := Ground.phase }, { on := 3, ground := Ground.phase }, { on := 4, ground := Ground.phase }, { on := 5, ground := Ground.phase }, { on := 6, ground := Ground.phase }, { on := 7, ground := Ground.phase }, { on := 8, ground := Ground.phase }], guard := none }) := by kernel_rfl
      obtain rfl := Option.some.inj (hlit.symm.trans hoi)
      have r17 : b.tmps.getD 17 undef = (.bool true) := rd (hT.at 8 (by kernel_rfl) (pre_of hpre 8 (by kernel_rfl)))
      refine op_go hoi (want_all rfl) fun K hK => ?_
      clear hT hpre hun hlit hoi
      go_simp
      exact hK _ _ ⟨(), fun _ _ => rfl, rfl, xc0, xc1, yc0, yc1, HB⟩
  · intro g b w' hT hS
    rw [hT.all ht]
    have hn : (regOps Tryd.f21 1).size = 10 := by kernel_rfl
    rw [hn]
    exact he w' hS
set_option maxHeartbeats 4000000 in
set_option maxRecDepth 100000 in
theorem same21 (x0 x1 : Int) (oo : Bool) (w : World) :
    Calls Tryd.prog 21 #[.agg #[.int .i64 x0, .int .u64 x1], .bool oo, .agg #[.int .i64 x0, .int .u64 x1], .bool oo] w fun e w' => e = .returned (.bool true) ∧ Below w.heap.size w w' := by
  have HB := Below.refl w.heap.size w
  go_enter Tryd.func21, Tryd.ntmps21
  go_wp2_with fail
  refine region21_1 x0 x1 w.heap.size (w.heap.size + 1) oo w (by kernel_rfl) rfl rfl rfl rfl rfl ⟨?_, ?_, ?_, ?_, ?_⟩ (fun w9 hS => ?_)
  iterate 4 (focus (go_simp; done))
  · exact (by repeat (first | (with_reducible exact HB) | (with_reducible exact Below.refl _ _) | (with_reducible apply bd) | (with_reducible apply ba) | (with_reducible refine bs ?_ (by first | (simp; done) | (simp; omega)) _)))
  obtain ⟨-, -, -, -, HB⟩ := hS
  simp only [List.setIfInBounds_toArray, List.set_cons_zero, List.set_cons_succ]
  go_wp2_with fail
  go_ret
  exact ⟨rfl, by repeat (first | (with_reducible exact HB) | (with_reducible exact Below.refl _ _) | (with_reducible apply bd) | (with_reducible apply ba) | (with_reducible refine bs ?_ (by first | (simp; done) | (simp; omega)) _))⟩
end Go.Proofs.YtkamnnkdadfebaaDoor
