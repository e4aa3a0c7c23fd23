import Derived.Test.YtandgbpbabmdfaaT32
import Derived.Test.YtandgbpbabmdfaaRh
namespace Go.Proofs.Ytandgbpbabmdfaa
open Go.RowKit
attribute [local go_sem high] eq23 eq25 mn_two mx_two mn_three mx_three mx_four

/-- What each operation of the region leaves. -/
def region14_1V (a0 a1 b0 b1 c0 c1 d0 d1 o k : Int) : Nat → Value
  | 0 => .agg #[.int .i64 a0, .int .i64 a1]
  | 1 => .agg #[.int .i64 b0, .int .i64 b1]
  | 2 => .agg #[.int .i64 c0, .int .i64 c1]
  | 3 => .int .i64 o
  | 4 => .agg #[.int .i64 a0, .int .i64 a1]
  | 5 => .agg #[.int .i64 b0, .int .i64 b1]
  | 6 => .agg #[.int .i64 c0, .int .i64 c1]
  | 7 => .agg #[.int .i64 d0, .int .i64 d1]
  | 8 => .int .i64 k
  | 9 => .int .i64 o
  | 10 => .int .i64 k
  | _ => undef

set_option maxHeartbeats 4000000 in
set_option maxRecDepth 100000 in
theorem region14_1 (a0 a1 b0 b1 c0 c1 d0 d1 o k : Int) (ka kb kc kd : Nat) (W : World) (h1 : ori ⟨a0, a1⟩ ⟨b0, b1⟩ ⟨c0, c1⟩ = o) (h2 : circ ⟨a0, a1⟩ ⟨b0, b1⟩ ⟨c0, c1⟩ ⟨d0, d1⟩ = k) {id : Nat} {ops : Array Oper} {Q : Exit → Act → World → Prop} {a : Act} {w : World}
    (ho : ops = (regOps Try.f14 1)) (hsz : a.tmps.size = 157) (t6 : a.tmps[6]? = some (.pointer (some ⟨ka, 0, none⟩))) (t7 : a.tmps[7]? = some (.pointer (some ⟨kb, 0, none⟩))) (t8 : a.tmps[8]? = some (.pointer (some ⟨kc, 0, none⟩))) (t9 : a.tmps[9]? = some (.pointer (some ⟨kd, 0, none⟩)))
    (h0 : w.drew.cell? ⟨ka, 0, none⟩ = some (.int .i64 a0) ∧ w.drew.cell? ⟨ka, 1, none⟩ = some (.int .i64 a1) ∧ w.drew.cell? ⟨kb, 0, none⟩ = some (.int .i64 b0) ∧ w.drew.cell? ⟨kb, 1, none⟩ = some (.int .i64 b1) ∧ w.drew.cell? ⟨kc, 0, none⟩ = some (.int .i64 c0) ∧ w.drew.cell? ⟨kc, 1, none⟩ = some (.int .i64 c1) ∧ w.drew.cell? ⟨kd, 0, none⟩ = some (.int .i64 d0) ∧ w.drew.cell? ⟨kd, 1, none⟩ = some (.int .i64 d1) ∧ Below W.heap.size W w.drew)
    (he : ∀ w', w'.cell? ⟨ka, 0, none⟩ = some (.int .i64 a0) ∧ w'.cell? ⟨ka, 1, none⟩ = some (.int .i64 a1) ∧ w'.cell? ⟨kb, 0, none⟩ = some (.int .i64 b0) ∧ w'.cell? ⟨kb, 1, none⟩ = some (.int .i64 b1) ∧ w'.cell? ⟨kc, 0, none⟩ = some (.int .i64 c0) ∧ w'.cell? ⟨kc, 1, none⟩ = some (.int .i64 c1) ∧ w'.cell? ⟨kd, 0, none⟩ = some (.int .i64 d0) ∧ w'.cell? ⟨kd, 1, none⟩ = some (.int .i64 d1) ∧ Below W.heap.size W w' → Q .normal ⟨(((((((((((a.tmps.setIfInBounds 17 (.agg #[.int .i64 a0, .int .i64 a1])).setIfInBounds 18 (.agg #[.int .i64 b0, .int .i64 b1])).setIfInBounds 19 (.agg #[.int .i64 c0, .int .i64 c1])).setIfInBounds 20 (.int .i64 o)).setIfInBounds 21 (.agg #[.int .i64 a0, .int .i64 a1])).setIfInBounds 22 (.agg #[.int .i64 b0, .int .i64 b1])).setIfInBounds 23 (.agg #[.int .i64 c0, .int .i64 c1])).setIfInBounds 24 (.agg #[.int .i64 d0, .int .i64 d1])).setIfInBounds 25 (.int .i64 k)).setIfInBounds 13 (.int .i64 o)).setIfInBounds 14 (.int .i64 k)), a.defers⟩ w') :
    (Code.region id ops true).wp Try.prog Q a w := by
  have ht : tidy (regOps Try.f14 1) a.tmps.size = true := by rw [hsz]; kernel_rfl
  refine region_tab (G := Unit) (fun _ => (region14_1V a0 a1 b0 b1 c0 c1 d0 d1 o k  )) (fun _ _ w' => w'.cell? ⟨ka, 0, none⟩ = some (.int .i64 a0) ∧ w'.cell? ⟨ka, 1, none⟩ = some (.int .i64 a1) ∧ w'.cell? ⟨kb, 0, none⟩ = some (.int .i64 b0) ∧ w'.cell? ⟨kb, 1, none⟩ = some (.int .i64 b1) ∧ w'.cell? ⟨kc, 0, none⟩ = some (.int .i64 c0) ∧ w'.cell? ⟨kc, 1, none⟩ = some (.int .i64 c1) ∧ w'.cell? ⟨kd, 0, none⟩ = some (.int .i64 d0) ∧ w'.cell? ⟨kd, 1, none⟩ = some (.int .i64 d1) ∧ Below W.heap.size W w') () (by kernel_rfl) ho ht h0 ?_ ?_
  · intro i o hoi g L b w' hun hpre hT hS
    clear he h0 ho hsz ht
    have hi : i < (regOps Try.f14 1).size := (Array.getElem?_eq_some_iff.1 hoi).1
    rw [show (regOps Try.f14 1).size = 11 by kernel_rfl] at hi
    obtain ⟨ac0, ac1, bc0, bc1, cc0, cc1, ddc0, ddc1, HB⟩ := hS
    have hcases : i = 0 ∨ i = 1 ∨ i = 2 ∨ i = 3 ∨ i = 4 ∨ i = 5 ∨ i = 6 ∨ i = 7 ∨ i = 8 ∨ i = 9 ∨ i = 10 := by omega
    rcases hcases with rfl | rfl | rfl | rfl | rfl | rfl | rfl | rfl | rfl | rfl | rfl
    · have hlit : (regOps Try.f14 1)[0]? = some ({ dst := some 17, op := Op.load 23 (Operand.tmp 6), type := 23, pos := "law.go:24", after := #[], guard := none }) := by kernel_rfl
      obtain rfl := Option.some.inj (hlit.symm.trans hoi)
      have r6 : b.tmps.getD 6 undef = (.pointer (some ⟨ka, 0, none⟩)) := rd ((hT.old 6 (by kernel_rfl)).trans t6)
      refine op_go hoi (want_all rfl) fun K hK => ?_
      clear hT hpre hun hlit hoi
      go_simp
      exact hK _ _ ⟨(), fun _ _ => rfl, rfl, ac0, ac1, bc0, bc1, cc0, cc1, ddc0, ddc1, HB⟩
    · have hlit : (regOps Try.f14 1)[1]? = some ({ dst := some 18, op := Op.load 23 (Operand.tmp 7), type := 23, pos := "law.go:24", after := #[], guard := none }) := by kernel_rfl
      obtain rfl := Option.some.inj (hlit.symm.trans hoi)
      have r7 : b.tmps.getD 7 undef = (.pointer (some ⟨kb, 0, none⟩)) := rd ((hT.old 7 (by kernel_rfl)).trans t7)
      refine op_go hoi (want_all rfl) fun K hK => ?_
      clear hT hpre hun hlit hoi
      go_simp
      exact hK _ _ ⟨(), fun _ _ => rfl, rfl, ac0, ac1, bc0, bc1, cc0, cc1, ddc0, ddc1, HB⟩
    · have hlit : (regOps Try.f14 1)[2]? = some ({ dst := some 19, op := Op.load 23 (Operand.tmp 8), type := 23, pos := "law.go:24", after := #[], guard := none }) := by kernel_rfl
      obtain rfl := Option.some.inj (hlit.symm.trans hoi)
      have r8 : b.tmps.getD 8 undef = (.pointer (some ⟨kc, 0, none⟩)) := rd ((hT.old 8 (by kernel_rfl)).trans t8)
      refine op_go hoi (want_all rfl) fun K hK => ?_
      clear hT hpre hun hlit hoi
      go_simp
      exact hK _ _ ⟨(), fun _ _ => rfl, rfl, ac0, ac1, bc0, bc1, cc0, cc1, ddc0, ddc1, HB⟩
    · have hlit : (regOps Try.f14 1)[3]? = some ({ dst := some 20, op := Op.call { callee := Callee.value (Operand.func 52), args := #[Operand.tmp 17, Operand.tmp 18, Operand.tmp 19], argTypes := #[23, 23, 23] }, type := 3, pos := "law.go:24", after := #[{ on := 0, ground := Ground.data }, { on := 1, ground := Ground.data }, { on := 2, ground := Ground.data }], guard := none }) := by kernel_rfl
      obtain rfl := Option.some.inj (hlit.symm.trans hoi)
      have r17 : b.tmps.getD 17 undef = (.agg #[.int .i64 a0, .int .i64 a1]) := rd (hT.at 0 (by kernel_rfl) (pre_of hpre 0 (by kernel_rfl)))
      have r18 : b.tmps.getD 18 undef = (.agg #[.int .i64 b0, .int .i64 b1]) := rd (hT.at 1 (by kernel_rfl) (pre_of hpre 1 (by kernel_rfl)))
      have r19 : b.tmps.getD 19 undef = (.agg #[.int .i64 c0, .int .i64 c1]) := rd (hT.at 2 (by kernel_rfl) (pre_of hpre 2 (by kernel_rfl)))
      refine op_go hoi (want_all rfl) fun K hK => ?_
      clear hT hpre hun hlit hoi
      go_simp
      go_at_call 52
      refine (ori52 _ _ _ _ _ _ _).mono ?_; rw [h1]; rintro e w2 ⟨rfl, hb⟩; replace ac0 := ck hb (a := ⟨ka, 0, none⟩) (v := .int .i64 a0) (by go_simp); replace ac1 := ck hb (a := ⟨ka, 1, none⟩) (v := .int .i64 a1) (by go_simp); replace bc0 := ck hb (a := ⟨kb, 0, none⟩) (v := .int .i64 b0) (by go_simp); replace bc1 := ck hb (a := ⟨kb, 1, none⟩) (v := .int .i64 b1) (by go_simp); replace cc0 := ck hb (a := ⟨kc, 0, none⟩) (v := .int .i64 c0) (by go_simp); replace cc1 := ck hb (a := ⟨kc, 1, none⟩) (v := .int .i64 c1) (by go_simp); replace ddc0 := ck hb (a := ⟨kd, 0, none⟩) (v := .int .i64 d0) (by go_simp); replace ddc1 := ck hb (a := ⟨kd, 1, none⟩) (v := .int .i64 d1) (by go_simp); replace HB : Below W.heap.size W w2 := bt HB hb; clear hb
      exact hK _ _ ⟨(), fun _ _ => rfl, rfl, ac0, ac1, bc0, bc1, cc0, cc1, ddc0, ddc1, HB⟩
    · have hlit : (regOps Try.f14 1)[4]? = some ({ dst := some 21, op := Op.load 23 (Operand.tmp 6), type := 23, pos := "law.go:24", after := #[], guard := none }) := by kernel_rfl
      obtain rfl := Option.some.inj (hlit.symm.trans hoi)
      have r6 : b.tmps.getD 6 undef = (.pointer (some ⟨ka, 0, none⟩)) := rd ((hT.old 6 (by kernel_rfl)).trans t6)
      refine op_go hoi (want_all rfl) fun K hK => ?_
      clear hT hpre hun hlit hoi
      go_simp
      exact hK _ _ ⟨(), fun _ _ => rfl, rfl, ac0, ac1, bc0, bc1, cc0, cc1, ddc0, ddc1, HB⟩
    · have hlit : (regOps Try.f14 1)[5]? = some ({ dst := some 22, op := Op.load 23 (Operand.tmp 7), type := 23, pos := "law.go:24", after := #[], guard := none }) := by kernel_rfl
      obtain rfl := Option.some.inj (hlit.symm.trans hoi)
      have r7 : b.tmps.getD 7 undef = (.pointer (some ⟨kb, 0, none⟩)) := rd ((hT.old 7 (by kernel_rfl)).trans t7)
      refine op_go hoi (want_all rfl) fun K hK => ?_
      clear hT hpre hun hlit hoi
      go_simp
      exact hK _ _ ⟨(), fun _ _ => rfl, rfl, ac0, ac1, bc0, bc1, cc0, cc1, ddc0, ddc1, HB⟩
    · have hlit : (regOps Try.f14 1)[6]? = some ({ dst := some 23, op := Op.load 23 (Operand.tmp 8), type := 23, pos := "law.go:24", after := #[], guard := none }) := by kernel_rfl
      obtain rfl := Option.some.inj (hlit.symm.trans hoi)
      have r8 : b.tmps.getD 8 undef = (.pointer (some ⟨kc, 0, none⟩)) := rd ((hT.old 8 (by kernel_rfl)).trans t8)
      refine op_go hoi (want_all rfl) fun K hK => ?_
      clear hT hpre hun hlit hoi
      go_simp
      exact hK _ _ ⟨(), fun _ _ => rfl, rfl, ac0, ac1, bc0, bc1, cc0, cc1, ddc0, ddc1, HB⟩
    · have hlit : (regOps Try.f14 1)[7]? = some ({ dst := some 24, op := Op.load 23 (Operand.tmp 9), type := 23, pos := "law.go:24", after := #[], guard := none }) := by kernel_rfl
      obtain rfl := Option.some.inj (hlit.symm.trans hoi)
      have r9 : b.tmps.getD 9 undef = (.pointer (some ⟨kd, 0, none⟩)) := rd ((hT.old 9 (by kernel_rfl)).trans t9)
      refine op_go hoi (want_all rfl) fun K hK => ?_
      clear hT hpre hun hlit hoi
      go_simp
      exact hK _ _ ⟨(), fun _ _ => rfl, rfl, ac0, ac1, bc0, bc1, cc0, cc1, ddc0, ddc1, HB⟩
    · have hlit : (regOps Try.f14 1)[8]? = some ({ dst := some 25, op := Op.call { callee := Callee.value (Operand.func 53), args := #[Operand.tmp 21, Operand.tmp 22, Operand.tmp 23, Operand.tmp 24], argTypes := #[23, 23, 23, 23] }, type := 3, pos := "law.go:24", after := #[{ on := 4, ground := Ground.data }, { on := 5, ground := Ground.data }, { on := 6, ground := Ground.data }, { on := 7, ground := Ground.data }, { on := 3, ground := Ground.chain }], guard := none }) := by kernel_rfl
      obtain rfl := Option.some.inj (hlit.symm.trans hoi)
      have r21 : b.tmps.getD 21 undef = (.agg #[.int .i64 a0, .int .i64 a1]) := rd (hT.at 4 (by kernel_rfl) (pre_of hpre 4 (by kernel_rfl)))
      have r22 : b.tmps.getD 22 undef = (.agg #[.int .i64 b0, .int .i64 b1]) := rd (hT.at 5 (by kernel_rfl) (pre_of hpre 5 (by kernel_rfl)))
      have r23 : b.tmps.getD 23 undef = (.agg #[.int .i64 c0, .int .i64 c1]) := rd (hT.at 6 (by kernel_rfl) (pre_of hpre 6 (by kernel_rfl)))
      have r24 : b.tmps.getD 24 undef = (.agg #[.int .i64 d0, .int .i64 d1]) := rd (hT.at 7 (by kernel_rfl) (pre_of hpre 7 (by kernel_rfl)))
      refine op_go hoi (want_all rfl) fun K hK => ?_
      clear hT hpre hun hlit hoi
      go_simp
      go_at_call 53
      refine (circ53 _ _ _ _ _ _ _ _ _).mono ?_; rw [h2]; rintro e w2 ⟨rfl, hb⟩; replace ac0 := ck hb (a := ⟨ka, 0, none⟩) (v := .int .i64 a0) (by go_simp); replace ac1 := ck hb (a := ⟨ka, 1, none⟩) (v := .int .i64 a1) (by go_simp); replace bc0 := ck hb (a := ⟨kb, 0, none⟩) (v := .int .i64 b0) (by go_simp); replace bc1 := ck hb (a := ⟨kb, 1, none⟩) (v := .int .i64 b1) (by go_simp); replace cc0 := ck hb (a := ⟨kc, 0, none⟩) (v := .int .i64 c0) (by go_simp); replace cc1 := ck hb (a := ⟨kc, 1, none⟩) (v := .int .i64 c1) (by go_simp); replace ddc0 := ck hb (a := ⟨kd, 0, none⟩) (v := .int .i64 d0) (by go_simp); replace ddc1 := ck hb (a := ⟨kd, 1, none⟩) (v := .int .i64 d1) (by go_simp); replace HB : Below W.heap.size W w2 := bt HB hb; clear hb
      exact hK _ _ ⟨(), fun _ _ => rfl, rfl, ac0, ac1, bc0, bc1, cc0, cc1, ddc0, ddc1, HB⟩
    · have hlit : (regOps Try.f14 1)[9]? = some ({ dst := some 13, op := Op.assign (Operand.tmp 20), type := 3, pos := "law.go:24", after := #[{ on := 3, ground := Ground.data }, { on := 8, ground := Ground.chain }, { on := 0, ground := Ground.phase }, { on := 1, ground := Ground.phase }, { on := 2, ground := Ground.phase }, { on := 3, ground := Ground.phase }, { on := 4, ground := Ground.textOnly Departure.lateStores }, { on := 5, ground := Ground.textOnly Departure.lateStores }, { on := 6, ground := Ground.textOnly Departure.lateStores }, { on := 7, ground := Ground.textOnly Departure.lateStores }, { on := 8, ground := Ground.textOnly Departure.lateStoresUnsure }], guard := none }) := by kernel_rfl
      obtain rfl := Option.some.inj (hlit.symm.trans hoi)
      have r20 : b.tmps.getD 20 undef = (.int .i64 o) := rd (hT.at 3 (by kernel_rfl) (pre_of hpre 3 (by kernel_rfl)))
      refine op_go hoi (want_all rfl) fun K hK => ?_
      clear hT hpre hun hlit hoi
      go_simp
      exact hK _ _ ⟨(), fun _ _ => rfl, rfl, ac0, ac1, bc0, bc1, cc0, cc1, ddc0, ddc1, HB⟩
    · have hlit : (regOps Try.f14 1)[10]? = some ({ dst := some 14, op := Op.assign (Operand.tmp 25), type := 3, pos := "law.go:24", after := #[{ on := 8, ground := Ground.data }, { on := 9, ground := Ground.chain }, { on := 0, ground := Ground.phase }, { on := 1, ground := Ground.phase }, { on := 2, ground := Ground.phase }, { on := 3, ground := Ground.phase }, { on := 4, ground := Ground.phase }, { on := 5, ground := Ground.phase }, { on := 6, ground := Ground.phase }, { on := 7, ground := Ground.phase }, { on := 8, ground := Ground.phase }, { on := 9, ground := Ground.phase }], guard := none }) := by kernel_rfl
      obtain rfl := Option.some.inj (hlit.symm.trans hoi)
      have r25 : b.tmps.getD 25 undef = (.int .i64 k) := rd (hT.at 8 (by kernel_rfl) (pre_of hpre 8 (by kernel_rfl)))
      refine op_go hoi (want_all rfl) fun K hK => ?_
      clear hT hpre hun hlit hoi
      go_simp
      exact hK _ _ ⟨(), fun _ _ => rfl, rfl, ac0, ac1, bc0, bc1, cc0, cc1, ddc0, ddc1, HB⟩
  · intro g b w' hT hS
    rw [hT.all ht]
    have hn : (regOps Try.f14 1).size = 11 := by kernel_rfl
    rw [hn]
    exact he w' hS

/-- What each operation of the region leaves. -/
def region14_s0V (a0 a1 p0 p1 u v : Int) (kp : Nat) : Nat → Value
  | 0 => .int .i64 0
  | 1 => .int .i64 0
  | 2 => .int .i64 0
  | 3 => .pointer (some ⟨kp, 0, none⟩)
  | 4 => .pointer (some ⟨kp, 0, none⟩)
  | 5 => .int .i64 a0
  | 6 => .int .i64 u
  | 7 => .int .i64 p0
  | 8 => .int .i64 0
  | 9 => .pointer (some ⟨kp, 0, none⟩)
  | 10 => .pointer (some ⟨kp, 1, none⟩)
  | 11 => .int .i64 a1
  | 12 => .int .i64 v
  | 13 => .int .i64 p1
  | 14 => .pointer (some ⟨kp, 0, none⟩)
  | 15 => .pointer (some ⟨kp, 0, none⟩)
  | 16 => undef
  | 17 => .pointer (some ⟨kp, 0, none⟩)
  | 18 => .pointer (some ⟨kp, 1, none⟩)
  | 19 => undef
  | _ => undef

set_option maxHeartbeats 4000000 in
set_option maxRecDepth 100000 in
theorem region14_s0 (a0 a1 b0 b1 c0 c1 d0 d1 p0 p1 u v : Int) (ka kb kc kd kp : Nat) (W : World) (eq1 : IntKind.i64.wrap (a0 + u) = p0) (eq2 : IntKind.i64.wrap (a1 + v) = p1) (nekakp : ¬ ka = kp) (nekbkp : ¬ kb = kp) (nekckp : ¬ kc = kp) (nekdkp : ¬ kd = kp) {id : Nat} {ops : Array Oper} {Q : Exit → Act → World → Prop} {a : Act} {w : World}
    (ho : ops = (regOps Try.f14 10)) (hsz : a.tmps.size = 157) (t15 : a.tmps[15]? = some (.pointer (some ⟨kp, 0, none⟩))) (t16 : a.tmps[16]? = some (.int .i64 0)) (t4 : a.tmps[4]? = some (.int .i64 u)) (t5 : a.tmps[5]? = some (.int .i64 v)) (geg : W.heap.size ≤ kp) (geh : W.heap.size ≤ kp)
    (h0 : w.cell? ⟨ka, 0, none⟩ = some (.int .i64 a0) ∧ w.cell? ⟨ka, 1, none⟩ = some (.int .i64 a1) ∧ w.cell? ⟨kb, 0, none⟩ = some (.int .i64 b0) ∧ w.cell? ⟨kb, 1, none⟩ = some (.int .i64 b1) ∧ w.cell? ⟨kc, 0, none⟩ = some (.int .i64 c0) ∧ w.cell? ⟨kc, 1, none⟩ = some (.int .i64 c1) ∧ w.cell? ⟨kd, 0, none⟩ = some (.int .i64 d0) ∧ w.cell? ⟨kd, 1, none⟩ = some (.int .i64 d1) ∧ w.cell? ⟨kp, 2, none⟩ = some (.int .i64 b0) ∧ w.cell? ⟨kp, 3, none⟩ = some (.int .i64 b1) ∧ w.cell? ⟨kp, 4, none⟩ = some (.int .i64 c0) ∧ w.cell? ⟨kp, 5, none⟩ = some (.int .i64 c1) ∧ w.cell? ⟨kp, 6, none⟩ = some (.int .i64 d0) ∧ w.cell? ⟨kp, 7, none⟩ = some (.int .i64 d1) ∧ w.frozen? ⟨kp, 2, none⟩ = false ∧ w.frozen? ⟨kp, 3, none⟩ = false ∧ w.frozen? ⟨kp, 4, none⟩ = false ∧ w.frozen? ⟨kp, 5, none⟩ = false ∧ w.frozen? ⟨kp, 6, none⟩ = false ∧ w.frozen? ⟨kp, 7, none⟩ = false ∧ Below W.heap.size W w) (hs0 : w.frozen? ⟨kp, 0, none⟩ = false ∧ w.frozen? ⟨kp, 1, none⟩ = false ∧ w.cell? ⟨kp, 0, none⟩ = some (.int .i64 a0) ∧ w.cell? ⟨kp, 1, none⟩ = some (.int .i64 a1))
    (he : ∀ w', w'.cell? ⟨ka, 0, none⟩ = some (.int .i64 a0) ∧ w'.cell? ⟨ka, 1, none⟩ = some (.int .i64 a1) ∧ w'.cell? ⟨kb, 0, none⟩ = some (.int .i64 b0) ∧ w'.cell? ⟨kb, 1, none⟩ = some (.int .i64 b1) ∧ w'.cell? ⟨kc, 0, none⟩ = some (.int .i64 c0) ∧ w'.cell? ⟨kc, 1, none⟩ = some (.int .i64 c1) ∧ w'.cell? ⟨kd, 0, none⟩ = some (.int .i64 d0) ∧ w'.cell? ⟨kd, 1, none⟩ = some (.int .i64 d1) ∧ w'.cell? ⟨kp, 2, none⟩ = some (.int .i64 b0) ∧ w'.cell? ⟨kp, 3, none⟩ = some (.int .i64 b1) ∧ w'.cell? ⟨kp, 4, none⟩ = some (.int .i64 c0) ∧ w'.cell? ⟨kp, 5, none⟩ = some (.int .i64 c1) ∧ w'.cell? ⟨kp, 6, none⟩ = some (.int .i64 d0) ∧ w'.cell? ⟨kp, 7, none⟩ = some (.int .i64 d1) ∧ w'.frozen? ⟨kp, 2, none⟩ = false ∧ w'.frozen? ⟨kp, 3, none⟩ = false ∧ w'.frozen? ⟨kp, 4, none⟩ = false ∧ w'.frozen? ⟨kp, 5, none⟩ = false ∧ w'.frozen? ⟨kp, 6, none⟩ = false ∧ w'.frozen? ⟨kp, 7, none⟩ = false ∧ Below W.heap.size W w' → w'.frozen? ⟨kp, 0, none⟩ = false ∧ w'.frozen? ⟨kp, 1, none⟩ = false ∧ w'.cell? ⟨kp, 0, none⟩ = some (.int .i64 p0) ∧ w'.cell? ⟨kp, 1, none⟩ = some (.int .i64 p1) → Q .normal ⟨((((((((((((((((((a.tmps.setIfInBounds 91 (.int .i64 0)).setIfInBounds 92 (.int .i64 0)).setIfInBounds 93 (.int .i64 0)).setIfInBounds 94 (.pointer (some ⟨kp, 0, none⟩))).setIfInBounds 95 (.pointer (some ⟨kp, 0, none⟩))).setIfInBounds 96 (.int .i64 a0)).setIfInBounds 97 (.int .i64 u)).setIfInBounds 98 (.int .i64 p0)).setIfInBounds 99 (.int .i64 0)).setIfInBounds 100 (.pointer (some ⟨kp, 0, none⟩))).setIfInBounds 101 (.pointer (some ⟨kp, 1, none⟩))).setIfInBounds 102 (.int .i64 a1)).setIfInBounds 103 (.int .i64 v)).setIfInBounds 104 (.int .i64 p1)).setIfInBounds 105 (.pointer (some ⟨kp, 0, none⟩))).setIfInBounds 106 (.pointer (some ⟨kp, 0, none⟩))).setIfInBounds 107 (.pointer (some ⟨kp, 0, none⟩))).setIfInBounds 108 (.pointer (some ⟨kp, 1, none⟩))), a.defers⟩ w') :
    (Code.region id ops true).wp Try.prog Q a w := by
  have ht : tidy (regOps Try.f14 10) a.tmps.size = true := by rw [hsz]; kernel_rfl
  obtain ⟨ac0, ac1, bc0, bc1, cc0, cc1, ddc0, ddc1, pc2, pc3, pc4, pc5, pc6, pc7, pf2, pf3, pf4, pf5, pf6, pf7, HB0⟩ := h0
  obtain ⟨zg0, zh0, cg0, ch0⟩ := hs0
  have ltg := World.block_lt_of_cell? w _ cg0
  have lth := World.block_lt_of_cell? w _ ch0
  refine region_tab2 (G := Unit) (fun _ => (region14_s0V a0 a1 p0 p1 u v kp)) (fun _ L w' => w'.cell? ⟨ka, 0, none⟩ = some (.int .i64 a0) ∧ w'.cell? ⟨ka, 1, none⟩ = some (.int .i64 a1) ∧ w'.cell? ⟨kb, 0, none⟩ = some (.int .i64 b0) ∧ w'.cell? ⟨kb, 1, none⟩ = some (.int .i64 b1) ∧ w'.cell? ⟨kc, 0, none⟩ = some (.int .i64 c0) ∧ w'.cell? ⟨kc, 1, none⟩ = some (.int .i64 c1) ∧ w'.cell? ⟨kd, 0, none⟩ = some (.int .i64 d0) ∧ w'.cell? ⟨kd, 1, none⟩ = some (.int .i64 d1) ∧ w'.cell? ⟨kp, 2, none⟩ = some (.int .i64 b0) ∧ w'.cell? ⟨kp, 3, none⟩ = some (.int .i64 b1) ∧ w'.cell? ⟨kp, 4, none⟩ = some (.int .i64 c0) ∧ w'.cell? ⟨kp, 5, none⟩ = some (.int .i64 c1) ∧ w'.cell? ⟨kp, 6, none⟩ = some (.int .i64 d0) ∧ w'.cell? ⟨kp, 7, none⟩ = some (.int .i64 d1) ∧ w'.frozen? ⟨kp, 2, none⟩ = false ∧ w'.frozen? ⟨kp, 3, none⟩ = false ∧ w'.frozen? ⟨kp, 4, none⟩ = false ∧ w'.frozen? ⟨kp, 5, none⟩ = false ∧ w'.frozen? ⟨kp, 6, none⟩ = false ∧ w'.frozen? ⟨kp, 7, none⟩ = false ∧ Below W.heap.size W w' ∧ w.heap.size ≤ w'.heap.size ∧ w'.frozen? ⟨kp, 0, none⟩ = false ∧ w'.frozen? ⟨kp, 1, none⟩ = false ∧ (L 16 = false → w'.cell? ⟨kp, 0, none⟩ = some (.int .i64 a0)) ∧ (L 16 = true → w'.cell? ⟨kp, 0, none⟩ = some (.int .i64 p0)) ∧ (L 19 = false → w'.cell? ⟨kp, 1, none⟩ = some (.int .i64 a1)) ∧ (L 19 = true → w'.cell? ⟨kp, 1, none⟩ = some (.int .i64 p1))) () (by kernel_rfl) ho ht ⟨ac0, ac1, bc0, bc1, cc0, cc1, ddc0, ddc1, pc2, pc3, pc4, pc5, pc6, pc7, pf2, pf3, pf4, pf5, pf6, pf7, bd HB0, Nat.le_refl _, zg0, zh0, fun _ => cg0, fun h => (by cases h), fun _ => ch0, fun h => (by cases h)⟩ ?_ ?_
  · intro i o hoi g L b w' hun hdn hpre hT hS
    clear he ac0 ac1 bc0 bc1 cc0 cc1 ddc0 ddc1 pc2 pc3 pc4 pc5 pc6 pc7 pf2 pf3 pf4 pf5 pf6 pf7 cg0 ch0 zg0 zh0 ho hsz ht HB0
    have hi : i < (regOps Try.f14 10).size := (Array.getElem?_eq_some_iff.1 hoi).1
    rw [show (regOps Try.f14 10).size = 20 by kernel_rfl] at hi
    obtain ⟨ac0, ac1, bc0, bc1, cc0, cc1, ddc0, ddc1, pc2, pc3, pc4, pc5, pc6, pc7, pf2, pf3, pf4, pf5, pf6, pf7, HB, szw, zg0, zh0, og, ng, oh, nh⟩ := hS
    have hcases : i = 0 ∨ i = 1 ∨ i = 2 ∨ i = 3 ∨ i = 4 ∨ i = 5 ∨ i = 6 ∨ i = 7 ∨ i = 8 ∨ i = 9 ∨ i = 10 ∨ i = 11 ∨ i = 12 ∨ i = 13 ∨ i = 14 ∨ i = 15 ∨ i = 16 ∨ i = 17 ∨ i = 18 ∨ i = 19 := by omega
    rcases hcases with rfl | rfl | rfl | rfl | rfl | rfl | rfl | rfl | rfl | rfl | rfl | rfl | rfl | rfl | rfl | rfl | rfl | rfl | rfl | rfl
    · have hlit : (regOps Try.f14 10)[0]? = some ({ dst := some 91, op := Op.move (Operand.tmp 16), type := 3, pos := "law.go:33", after := #[], guard := none }) := by kernel_rfl
      obtain rfl := Option.some.inj (hlit.symm.trans hoi)
      have r16 : b.tmps.getD 16 undef = (.int .i64 0) := rd ((hT.old 16 (by kernel_rfl)).trans t16)
      refine op_go hoi (want_all rfl) fun K hK => ?_
      clear hT hpre hlit hoi hdn
      go_simp
      exact hK _ _ ⟨(), fun _ _ => rfl, rfl, ac0, ac1, bc0, bc1, cc0, cc1, ddc0, ddc1, pc2, pc3, pc4, pc5, pc6, pc7, pf2, pf3, pf4, pf5, pf6, pf7, HB, szw, zg0, zh0, og, ng, oh, nh⟩
    · have hlit : (regOps Try.f14 10)[1]? = some ({ dst := some 92, op := Op.move (Operand.tmp 16), type := 3, pos := "law.go:33", after := #[{ on := 16, ground := Ground.gcOnly Departure.lateStores }], guard := none }) := by kernel_rfl
      obtain rfl := Option.some.inj (hlit.symm.trans hoi)
      have r16 : b.tmps.getD 16 undef = (.int .i64 0) := rd ((hT.old 16 (by kernel_rfl)).trans t16)
      refine op_go hoi (want_all rfl) fun K hK => ?_
      clear hT hpre hlit hoi hdn
      go_simp
      exact hK _ _ ⟨(), fun _ _ => rfl, rfl, ac0, ac1, bc0, bc1, cc0, cc1, ddc0, ddc1, pc2, pc3, pc4, pc5, pc6, pc7, pf2, pf3, pf4, pf5, pf6, pf7, HB, szw, zg0, zh0, og, ng, oh, nh⟩
    · have hlit : (regOps Try.f14 10)[2]? = some ({ dst := some 93, op := Op.move (Operand.tmp 16), type := 3, pos := "law.go:33", after := #[], guard := none }) := by kernel_rfl
      obtain rfl := Option.some.inj (hlit.symm.trans hoi)
      have r16 : b.tmps.getD 16 undef = (.int .i64 0) := rd ((hT.old 16 (by kernel_rfl)).trans t16)
      refine op_go hoi (want_all rfl) fun K hK => ?_
      clear hT hpre hlit hoi hdn
      go_simp
      exact hK _ _ ⟨(), fun _ _ => rfl, rfl, ac0, ac1, bc0, bc1, cc0, cc1, ddc0, ddc1, pc2, pc3, pc4, pc5, pc6, pc7, pf2, pf3, pf4, pf5, pf6, pf7, HB, szw, zg0, zh0, og, ng, oh, nh⟩
    · have hlit : (regOps Try.f14 10)[3]? = some ({ dst := some 94, op := Op.indexAddr 60 (Operand.tmp 15) (Operand.tmp 93), type := 0, pos := "law.go:33", after := #[{ on := 2, ground := Ground.data }], guard := none }) := by kernel_rfl
      obtain rfl := Option.some.inj (hlit.symm.trans hoi)
      have r15 : b.tmps.getD 15 undef = (.pointer (some ⟨kp, 0, none⟩)) := rd ((hT.old 15 (by kernel_rfl)).trans t15)
      have r93 : b.tmps.getD 93 undef = (.int .i64 0) := rd (hT.at 2 (by kernel_rfl) (pre_of hpre 2 (by kernel_rfl)))
      refine op_go hoi (want_all rfl) fun K hK => ?_
      clear hT hpre hlit hoi hdn
      go_simp
      exact hK _ _ ⟨(), fun _ _ => rfl, rfl, ac0, ac1, bc0, bc1, cc0, cc1, ddc0, ddc1, pc2, pc3, pc4, pc5, pc6, pc7, pf2, pf3, pf4, pf5, pf6, pf7, HB, szw, zg0, zh0, og, ng, oh, nh⟩
    · have hlit : (regOps Try.f14 10)[4]? = some ({ dst := some 95, op := Op.fieldAddr 23 (Operand.tmp 94) 0, type := 0, pos := "law.go:33", after := #[{ on := 3, ground := Ground.data }], guard := none }) := by kernel_rfl
      obtain rfl := Option.some.inj (hlit.symm.trans hoi)
      have r94 : b.tmps.getD 94 undef = (.pointer (some ⟨kp, 0, none⟩)) := rd (hT.at 3 (by kernel_rfl) (pre_of hpre 3 (by kernel_rfl)))
      refine op_go hoi (want_all rfl) fun K hK => ?_
      clear hT hpre hlit hoi hdn
      go_simp
      exact hK _ _ ⟨(), fun _ _ => rfl, rfl, ac0, ac1, bc0, bc1, cc0, cc1, ddc0, ddc1, pc2, pc3, pc4, pc5, pc6, pc7, pf2, pf3, pf4, pf5, pf6, pf7, HB, szw, zg0, zh0, og, ng, oh, nh⟩
    · have hlit : (regOps Try.f14 10)[5]? = some ({ dst := some 96, op := Op.load 3 (Operand.tmp 95), type := 3, pos := "law.go:33", after := #[{ on := 4, ground := Ground.data }], guard := none }) := by kernel_rfl
      obtain rfl := Option.some.inj (hlit.symm.trans hoi)
      have r95 : b.tmps.getD 95 undef = (.pointer (some ⟨kp, 0, none⟩)) := rd (hT.at 4 (by kernel_rfl) (pre_of hpre 4 (by kernel_rfl)))
      have nl : L 16 = false := Down.not (fun h => (hdn.step (k := 7) (j := 5) (by kernel_rfl) (hdn.step (k := 16) (j := 7) (by kernel_rfl) h))) hun
      obtain cg0 := og nl
      refine op_go hoi (want_all rfl) fun K hK => ?_
      clear hT hpre hlit hoi hdn
      go_simp
      exact hK _ _ ⟨(), fun _ _ => rfl, rfl, ac0, ac1, bc0, bc1, cc0, cc1, ddc0, ddc1, pc2, pc3, pc4, pc5, pc6, pc7, pf2, pf3, pf4, pf5, pf6, pf7, HB, szw, zg0, zh0, og, ng, oh, nh⟩
    · have hlit : (regOps Try.f14 10)[6]? = some ({ dst := some 97, op := Op.move (Operand.tmp 4), type := 3, pos := "law.go:33", after := #[], guard := none }) := by kernel_rfl
      obtain rfl := Option.some.inj (hlit.symm.trans hoi)
      have r4 : b.tmps.getD 4 undef = (.int .i64 u) := rd ((hT.old 4 (by kernel_rfl)).trans t4)
      refine op_go hoi (want_all rfl) fun K hK => ?_
      clear hT hpre hlit hoi hdn
      go_simp
      exact hK _ _ ⟨(), fun _ _ => rfl, rfl, ac0, ac1, bc0, bc1, cc0, cc1, ddc0, ddc1, pc2, pc3, pc4, pc5, pc6, pc7, pf2, pf3, pf4, pf5, pf6, pf7, HB, szw, zg0, zh0, og, ng, oh, nh⟩
    · have hlit : (regOps Try.f14 10)[7]? = some ({ dst := some 98, op := Op.binOp BinOp.add 3 (Operand.tmp 96) (Operand.tmp 97) 3, type := 3, pos := "law.go:33", after := #[{ on := 5, ground := Ground.data }, { on := 6, ground := Ground.data }], guard := none }) := by kernel_rfl
      obtain rfl := Option.some.inj (hlit.symm.trans hoi)
      have r96 : b.tmps.getD 96 undef = (.int .i64 a0) := rd (hT.at 5 (by kernel_rfl) (pre_of hpre 5 (by kernel_rfl)))
      have r97 : b.tmps.getD 97 undef = (.int .i64 u) := rd (hT.at 6 (by kernel_rfl) (pre_of hpre 6 (by kernel_rfl)))
      refine op_go hoi (want_all rfl) fun K hK => ?_
      clear hT hpre hlit hoi hdn
      go_simp
      exact hK _ _ ⟨(), fun _ _ => rfl, rfl, ac0, ac1, bc0, bc1, cc0, cc1, ddc0, ddc1, pc2, pc3, pc4, pc5, pc6, pc7, pf2, pf3, pf4, pf5, pf6, pf7, HB, szw, zg0, zh0, og, ng, oh, nh⟩
    · have hlit : (regOps Try.f14 10)[8]? = some ({ dst := some 99, op := Op.move (Operand.tmp 16), type := 3, pos := "law.go:33", after := #[], guard := none }) := by kernel_rfl
      obtain rfl := Option.some.inj (hlit.symm.trans hoi)
      have r16 : b.tmps.getD 16 undef = (.int .i64 0) := rd ((hT.old 16 (by kernel_rfl)).trans t16)
      refine op_go hoi (want_all rfl) fun K hK => ?_
      clear hT hpre hlit hoi hdn
      go_simp
      exact hK _ _ ⟨(), fun _ _ => rfl, rfl, ac0, ac1, bc0, bc1, cc0, cc1, ddc0, ddc1, pc2, pc3, pc4, pc5, pc6, pc7, pf2, pf3, pf4, pf5, pf6, pf7, HB, szw, zg0, zh0, og, ng, oh, nh⟩
    · have hlit : (regOps Try.f14 10)[9]? = some ({ dst := some 100, op := Op.indexAddr 60 (Operand.tmp 15) (Operand.tmp 99), type := 0, pos := "law.go:33", after := #[{ on := 8, ground := Ground.data }], guard := none }) := by kernel_rfl
      obtain rfl := Option.some.inj (hlit.symm.trans hoi)
      have r15 : b.tmps.getD 15 undef = (.pointer (some ⟨kp, 0, none⟩)) := rd ((hT.old 15 (by kernel_rfl)).trans t15)
      have r99 : b.tmps.getD 99 undef = (.int .i64 0) := rd (hT.at 8 (by kernel_rfl) (pre_of hpre 8 (by kernel_rfl)))
      refine op_go hoi (want_all rfl) fun K hK => ?_
      clear hT hpre hlit hoi hdn
      go_simp
      exact hK _ _ ⟨(), fun _ _ => rfl, rfl, ac0, ac1, bc0, bc1, cc0, cc1, ddc0, ddc1, pc2, pc3, pc4, pc5, pc6, pc7, pf2, pf3, pf4, pf5, pf6, pf7, HB, szw, zg0, zh0, og, ng, oh, nh⟩
    · have hlit : (regOps Try.f14 10)[10]? = some ({ dst := some 101, op := Op.fieldAddr 23 (Operand.tmp 100) 1, type := 0, pos := "law.go:33", after := #[{ on := 9, ground := Ground.data }], guard := none }) := by kernel_rfl
      obtain rfl := Option.some.inj (hlit.symm.trans hoi)
      have r100 : b.tmps.getD 100 undef = (.pointer (some ⟨kp, 0, none⟩)) := rd (hT.at 9 (by kernel_rfl) (pre_of hpre 9 (by kernel_rfl)))
      refine op_go hoi (want_all rfl) fun K hK => ?_
      clear hT hpre hlit hoi hdn
      go_simp
      exact hK _ _ ⟨(), fun _ _ => rfl, rfl, ac0, ac1, bc0, bc1, cc0, cc1, ddc0, ddc1, pc2, pc3, pc4, pc5, pc6, pc7, pf2, pf3, pf4, pf5, pf6, pf7, HB, szw, zg0, zh0, og, ng, oh, nh⟩
    · have hlit : (regOps Try.f14 10)[11]? = some ({ dst := some 102, op := Op.load 3 (Operand.tmp 101), type := 3, pos := "law.go:33", after := #[{ on := 10, ground := Ground.data }], guard := none }) := by kernel_rfl
      obtain rfl := Option.some.inj (hlit.symm.trans hoi)
      have r101 : b.tmps.getD 101 undef = (.pointer (some ⟨kp, 1, none⟩)) := rd (hT.at 10 (by kernel_rfl) (pre_of hpre 10 (by kernel_rfl)))
      have nl : L 19 = false := Down.not (fun h => (hdn.step (k := 13) (j := 11) (by kernel_rfl) (hdn.step (k := 19) (j := 13) (by kernel_rfl) h))) hun
      obtain ch0 := oh nl
      refine op_go hoi (want_all rfl) fun K hK => ?_
      clear hT hpre hlit hoi hdn
      go_simp
      exact hK _ _ ⟨(), fun _ _ => rfl, rfl, ac0, ac1, bc0, bc1, cc0, cc1, ddc0, ddc1, pc2, pc3, pc4, pc5, pc6, pc7, pf2, pf3, pf4, pf5, pf6, pf7, HB, szw, zg0, zh0, og, ng, oh, nh⟩
    · have hlit : (regOps Try.f14 10)[12]? = some ({ dst := some 103, op := Op.move (Operand.tmp 5), type := 3, pos := "law.go:33", after := #[], guard := none }) := by kernel_rfl
      obtain rfl := Option.some.inj (hlit.symm.trans hoi)
      have r5 : b.tmps.getD 5 undef = (.int .i64 v) := rd ((hT.old 5 (by kernel_rfl)).trans t5)
      refine op_go hoi (want_all rfl) fun K hK => ?_
      clear hT hpre hlit hoi hdn
      go_simp
      exact hK _ _ ⟨(), fun _ _ => rfl, rfl, ac0, ac1, bc0, bc1, cc0, cc1, ddc0, ddc1, pc2, pc3, pc4, pc5, pc6, pc7, pf2, pf3, pf4, pf5, pf6, pf7, HB, szw, zg0, zh0, og, ng, oh, nh⟩
    · have hlit : (regOps Try.f14 10)[13]? = some ({ dst := some 104, op := Op.binOp BinOp.add 3 (Operand.tmp 102) (Operand.tmp 103) 3, type := 3, pos := "law.go:33", after := #[{ on := 11, ground := Ground.data }, { on := 12, ground := Ground.data }], guard := none }) := by kernel_rfl
      obtain rfl := Option.some.inj (hlit.symm.trans hoi)
      have r102 : b.tmps.getD 102 undef = (.int .i64 a1) := rd (hT.at 11 (by kernel_rfl) (pre_of hpre 11 (by kernel_rfl)))
      have r103 : b.tmps.getD 103 undef = (.int .i64 v) := rd (hT.at 12 (by kernel_rfl) (pre_of hpre 12 (by kernel_rfl)))
      refine op_go hoi (want_all rfl) fun K hK => ?_
      clear hT hpre hlit hoi hdn
      go_simp
      exact hK _ _ ⟨(), fun _ _ => rfl, rfl, ac0, ac1, bc0, bc1, cc0, cc1, ddc0, ddc1, pc2, pc3, pc4, pc5, pc6, pc7, pf2, pf3, pf4, pf5, pf6, pf7, HB, szw, zg0, zh0, og, ng, oh, nh⟩
    · have hlit : (regOps Try.f14 10)[14]? = some ({ dst := some 105, op := Op.indexAddr 60 (Operand.tmp 15) (Operand.tmp 91), type := 0, pos := "law.go:33", after := #[{ on := 0, ground := Ground.data }, { on := 0, ground := Ground.phase }, { on := 1, ground := Ground.textOnly Departure.lateStores }, { on := 2, ground := Ground.phase }, { on := 3, ground := Ground.phase }, { on := 4, ground := Ground.phase }, { on := 5, ground := Ground.phase }, { on := 6, ground := Ground.phase }, { on := 7, ground := Ground.phase }, { on := 8, ground := Ground.textOnly Departure.lateStores }, { on := 9, ground := Ground.phase }, { on := 10, ground := Ground.phase }, { on := 11, ground := Ground.phase }, { on := 12, ground := Ground.textOnly Departure.lateStores }, { on := 13, ground := Ground.textOnly Departure.lateStoresUnsure }], guard := none }) := by kernel_rfl
      obtain rfl := Option.some.inj (hlit.symm.trans hoi)
      have r15 : b.tmps.getD 15 undef = (.pointer (some ⟨kp, 0, none⟩)) := rd ((hT.old 15 (by kernel_rfl)).trans t15)
      have r91 : b.tmps.getD 91 undef = (.int .i64 0) := rd (hT.at 0 (by kernel_rfl) (pre_of hpre 0 (by kernel_rfl)))
      refine op_go hoi (want_all rfl) fun K hK => ?_
      clear hT hpre hlit hoi hdn
      go_simp
      exact hK _ _ ⟨(), fun _ _ => rfl, rfl, ac0, ac1, bc0, bc1, cc0, cc1, ddc0, ddc1, pc2, pc3, pc4, pc5, pc6, pc7, pf2, pf3, pf4, pf5, pf6, pf7, HB, szw, zg0, zh0, og, ng, oh, nh⟩
    · have hlit : (regOps Try.f14 10)[15]? = some ({ dst := some 106, op := Op.fieldAddr 23 (Operand.tmp 105) 0, type := 0, pos := "law.go:33", after := #[{ on := 14, ground := Ground.data }, { on := 0, ground := Ground.phase }, { on := 1, ground := Ground.textOnly Departure.lateStores }, { on := 2, ground := Ground.phase }, { on := 3, ground := Ground.phase }, { on := 4, ground := Ground.phase }, { on := 5, ground := Ground.phase }, { on := 6, ground := Ground.phase }, { on := 7, ground := Ground.phase }, { on := 8, ground := Ground.textOnly Departure.lateStores }, { on := 9, ground := Ground.phase }, { on := 10, ground := Ground.phase }, { on := 11, ground := Ground.phase }, { on := 12, ground := Ground.textOnly Departure.lateStores }, { on := 13, ground := Ground.textOnly Departure.lateStoresUnsure }], guard := none }) := by kernel_rfl
      obtain rfl := Option.some.inj (hlit.symm.trans hoi)
      have r105 : b.tmps.getD 105 undef = (.pointer (some ⟨kp, 0, none⟩)) := rd (hT.at 14 (by kernel_rfl) (pre_of hpre 14 (by kernel_rfl)))
      refine op_go hoi (want_all rfl) fun K hK => ?_
      clear hT hpre hlit hoi hdn
      go_simp
      exact hK _ _ ⟨(), fun _ _ => rfl, rfl, ac0, ac1, bc0, bc1, cc0, cc1, ddc0, ddc1, pc2, pc3, pc4, pc5, pc6, pc7, pf2, pf3, pf4, pf5, pf6, pf7, HB, szw, zg0, zh0, og, ng, oh, nh⟩
    · have hlit : (regOps Try.f14 10)[16]? = some ({ dst := none, op := Op.store 3 (Operand.tmp 106) (Operand.tmp 98), type := 0, pos := "law.go:33", after := #[{ on := 15, ground := Ground.data }, { on := 7, ground := Ground.data }, { on := 0, ground := Ground.phase }, { on := 1, ground := Ground.textOnly Departure.lateStores }, { on := 2, ground := Ground.phase }, { on := 3, ground := Ground.phase }, { on := 4, ground := Ground.phase }, { on := 5, ground := Ground.phase }, { on := 6, ground := Ground.phase }, { on := 7, ground := Ground.phase }, { on := 8, ground := Ground.textOnly Departure.lateStores }, { on := 9, ground := Ground.phase }, { on := 10, ground := Ground.phase }, { on := 11, ground := Ground.phase }, { on := 12, ground := Ground.textOnly Departure.lateStores }, { on := 13, ground := Ground.textOnly Departure.lateStoresUnsure }], guard := none }) := by kernel_rfl
      obtain rfl := Option.some.inj (hlit.symm.trans hoi)
      have r106 : b.tmps.getD 106 undef = (.pointer (some ⟨kp, 0, none⟩)) := rd (hT.at 15 (by kernel_rfl) (pre_of hpre 15 (by kernel_rfl)))
      have r98 : b.tmps.getD 98 undef = (.int .i64 p0) := rd (hT.at 7 (by kernel_rfl) (pre_of hpre 7 (by kernel_rfl)))
      obtain cg0 := og hun
      refine op_go hoi (want_all rfl) fun K hK => ?_
      clear hT hpre hlit hoi hdn
      go_simp
      exact hK _ _ ⟨(), fun _ _ => rfl, rfl, so (ac0) nekakp, so (ac1) nekakp, so (bc0) nekbkp, so (bc1) nekbkp, so (cc0) nekckp, so (cc1) nekckp, so (ddc0) nekdkp, so (ddc1) nekdkp, sb (pc2) (by decide), sb (pc3) (by decide), sb (pc4) (by decide), sb (pc5) (by decide), sb (pc6) (by decide), sb (pc7) (by decide), sf (pf2), sf (pf3), sf (pf4), sf (pf5), sf (pf6), sf (pf7), bs (HB) geg _, sz (szw), sf (zg0), sf (zh0), fun h => (by cases h), fun _ => ss (cg0), fun h => (by obtain x0 := oh h; exact sb (x0) (by decide)), fun h => (by obtain x0 := nh h; exact sb (x0) (by decide))⟩
    · have hlit : (regOps Try.f14 10)[17]? = some ({ dst := some 107, op := Op.indexAddr 60 (Operand.tmp 15) (Operand.tmp 92), type := 0, pos := "law.go:33", after := #[{ on := 1, ground := Ground.data }, { on := 0, ground := Ground.phase }, { on := 1, ground := Ground.phase }, { on := 2, ground := Ground.phase }, { on := 3, ground := Ground.phase }, { on := 4, ground := Ground.phase }, { on := 5, ground := Ground.phase }, { on := 6, ground := Ground.phase }, { on := 7, ground := Ground.phase }, { on := 8, ground := Ground.phase }, { on := 9, ground := Ground.phase }, { on := 10, ground := Ground.phase }, { on := 11, ground := Ground.phase }, { on := 12, ground := Ground.phase }, { on := 13, ground := Ground.phase }, { on := 14, ground := Ground.phase }, { on := 15, ground := Ground.phase }, { on := 16, ground := Ground.phase }], guard := none }) := by kernel_rfl
      obtain rfl := Option.some.inj (hlit.symm.trans hoi)
      have r15 : b.tmps.getD 15 undef = (.pointer (some ⟨kp, 0, none⟩)) := rd ((hT.old 15 (by kernel_rfl)).trans t15)
      have r92 : b.tmps.getD 92 undef = (.int .i64 0) := rd (hT.at 1 (by kernel_rfl) (pre_of hpre 1 (by kernel_rfl)))
      refine op_go hoi (want_all rfl) fun K hK => ?_
      clear hT hpre hlit hoi hdn
      go_simp
      exact hK _ _ ⟨(), fun _ _ => rfl, rfl, ac0, ac1, bc0, bc1, cc0, cc1, ddc0, ddc1, pc2, pc3, pc4, pc5, pc6, pc7, pf2, pf3, pf4, pf5, pf6, pf7, HB, szw, zg0, zh0, og, ng, oh, nh⟩
    · have hlit : (regOps Try.f14 10)[18]? = some ({ dst := some 108, op := Op.fieldAddr 23 (Operand.tmp 107) 1, type := 0, pos := "law.go:33", after := #[{ on := 17, ground := Ground.data }, { on := 0, ground := Ground.phase }, { on := 1, ground := Ground.phase }, { on := 2, ground := Ground.phase }, { on := 3, ground := Ground.phase }, { on := 4, ground := Ground.phase }, { on := 5, ground := Ground.phase }, { on := 6, ground := Ground.phase }, { on := 7, ground := Ground.phase }, { on := 8, ground := Ground.phase }, { on := 9, ground := Ground.phase }, { on := 10, ground := Ground.phase }, { on := 11, ground := Ground.phase }, { on := 12, ground := Ground.phase }, { on := 13, ground := Ground.phase }, { on := 14, ground := Ground.phase }, { on := 15, ground := Ground.phase }, { on := 16, ground := Ground.phase }], guard := none }) := by kernel_rfl
      obtain rfl := Option.some.inj (hlit.symm.trans hoi)
      have r107 : b.tmps.getD 107 undef = (.pointer (some ⟨kp, 0, none⟩)) := rd (hT.at 17 (by kernel_rfl) (pre_of hpre 17 (by kernel_rfl)))
      refine op_go hoi (want_all rfl) fun K hK => ?_
      clear hT hpre hlit hoi hdn
      go_simp
      exact hK _ _ ⟨(), fun _ _ => rfl, rfl, ac0, ac1, bc0, bc1, cc0, cc1, ddc0, ddc1, pc2, pc3, pc4, pc5, pc6, pc7, pf2, pf3, pf4, pf5, pf6, pf7, HB, szw, zg0, zh0, og, ng, oh, nh⟩
    · have hlit : (regOps Try.f14 10)[19]? = some ({ dst := none, op := Op.store 3 (Operand.tmp 108) (Operand.tmp 104), type := 0, pos := "law.go:33", after := #[{ on := 18, ground := Ground.data }, { on := 13, ground := Ground.data }, { on := 16, ground := Ground.chain }, { on := 0, ground := Ground.phase }, { on := 1, ground := Ground.phase }, { on := 2, ground := Ground.phase }, { on := 3, ground := Ground.phase }, { on := 4, ground := Ground.phase }, { on := 5, ground := Ground.phase }, { on := 6, ground := Ground.phase }, { on := 7, ground := Ground.phase }, { on := 8, ground := Ground.phase }, { on := 9, ground := Ground.phase }, { on := 10, ground := Ground.phase }, { on := 11, ground := Ground.phase }, { on := 12, ground := Ground.phase }, { on := 13, ground := Ground.phase }, { on := 14, ground := Ground.phase }, { on := 15, ground := Ground.phase }, { on := 16, ground := Ground.phase }], guard := none }) := by kernel_rfl
      obtain rfl := Option.some.inj (hlit.symm.trans hoi)
      have r108 : b.tmps.getD 108 undef = (.pointer (some ⟨kp, 1, none⟩)) := rd (hT.at 18 (by kernel_rfl) (pre_of hpre 18 (by kernel_rfl)))
      have r104 : b.tmps.getD 104 undef = (.int .i64 p1) := rd (hT.at 13 (by kernel_rfl) (pre_of hpre 13 (by kernel_rfl)))
      obtain ch0 := oh hun
      refine op_go hoi (want_all rfl) fun K hK => ?_
      clear hT hpre hlit hoi hdn
      go_simp
      exact hK _ _ ⟨(), fun _ _ => rfl, rfl, so (ac0) nekakp, so (ac1) nekakp, so (bc0) nekbkp, so (bc1) nekbkp, so (cc0) nekckp, so (cc1) nekckp, so (ddc0) nekdkp, so (ddc1) nekdkp, sb (pc2) (by decide), sb (pc3) (by decide), sb (pc4) (by decide), sb (pc5) (by decide), sb (pc6) (by decide), sb (pc7) (by decide), sf (pf2), sf (pf3), sf (pf4), sf (pf5), sf (pf6), sf (pf7), bs (HB) geh _, sz (szw), sf (zg0), sf (zh0), fun h => (by obtain x0 := og h; exact sb (x0) (by decide)), fun h => (by obtain x0 := ng h; exact sb (x0) (by decide)), fun h => (by cases h), fun _ => ss (ch0)⟩
  · intro g b w' hT hS
    rw [hT.all ht]
    have hn : (regOps Try.f14 10).size = 20 := by kernel_rfl
    rw [hn] at hS ⊢
    obtain ⟨ac0, ac1, bc0, bc1, cc0, cc1, ddc0, ddc1, pc2, pc3, pc4, pc5, pc6, pc7, pf2, pf3, pf4, pf5, pf6, pf7, HB, szw, zg0, zh0, og, ng, oh, nh⟩ := hS
    obtain cg0 := ng rfl
    obtain ch0 := nh rfl
    exact he w' ⟨ac0, ac1, bc0, bc1, cc0, cc1, ddc0, ddc1, pc2, pc3, pc4, pc5, pc6, pc7, pf2, pf3, pf4, pf5, pf6, pf7, HB⟩ ⟨zg0, zh0, cg0, ch0⟩

/-- What each operation of the region leaves. -/
def region14_s1V (b0 b1 q0 q1 u v : Int) (kp : Nat) : Nat → Value
  | 0 => .int .i64 1
  | 1 => .int .i64 1
  | 2 => .int .i64 1
  | 3 => .pointer (some ⟨kp, 2, none⟩)
  | 4 => .pointer (some ⟨kp, 2, none⟩)
  | 5 => .int .i64 b0
  | 6 => .int .i64 u
  | 7 => .int .i64 q0
  | 8 => .int .i64 1
  | 9 => .pointer (some ⟨kp, 2, none⟩)
  | 10 => .pointer (some ⟨kp, 3, none⟩)
  | 11 => .int .i64 b1
  | 12 => .int .i64 v
  | 13 => .int .i64 q1
  | 14 => .pointer (some ⟨kp, 2, none⟩)
  | 15 => .pointer (some ⟨kp, 2, none⟩)
  | 16 => undef
  | 17 => .pointer (some ⟨kp, 2, none⟩)
  | 18 => .pointer (some ⟨kp, 3, none⟩)
  | 19 => undef
  | _ => undef

set_option maxHeartbeats 4000000 in
set_option maxRecDepth 100000 in
theorem region14_s1 (a0 a1 b0 b1 c0 c1 d0 d1 p0 p1 q0 q1 u v : Int) (ka kb kc kd kp : Nat) (W : World) (eq1 : IntKind.i64.wrap (b0 + u) = q0) (eq2 : IntKind.i64.wrap (b1 + v) = q1) (nekakp : ¬ ka = kp) (nekbkp : ¬ kb = kp) (nekckp : ¬ kc = kp) (nekdkp : ¬ kd = kp) {id : Nat} {ops : Array Oper} {Q : Exit → Act → World → Prop} {a : Act} {w : World}
    (ho : ops = (regOps Try.f14 10)) (hsz : a.tmps.size = 157) (t15 : a.tmps[15]? = some (.pointer (some ⟨kp, 0, none⟩))) (t16 : a.tmps[16]? = some (.int .i64 1)) (t4 : a.tmps[4]? = some (.int .i64 u)) (t5 : a.tmps[5]? = some (.int .i64 v)) (geg : W.heap.size ≤ kp) (geh : W.heap.size ≤ kp)
    (h0 : w.cell? ⟨ka, 0, none⟩ = some (.int .i64 a0) ∧ w.cell? ⟨ka, 1, none⟩ = some (.int .i64 a1) ∧ w.cell? ⟨kb, 0, none⟩ = some (.int .i64 b0) ∧ w.cell? ⟨kb, 1, none⟩ = some (.int .i64 b1) ∧ w.cell? ⟨kc, 0, none⟩ = some (.int .i64 c0) ∧ w.cell? ⟨kc, 1, none⟩ = some (.int .i64 c1) ∧ w.cell? ⟨kd, 0, none⟩ = some (.int .i64 d0) ∧ w.cell? ⟨kd, 1, none⟩ = some (.int .i64 d1) ∧ w.cell? ⟨kp, 0, none⟩ = some (.int .i64 p0) ∧ w.cell? ⟨kp, 1, none⟩ = some (.int .i64 p1) ∧ w.cell? ⟨kp, 4, none⟩ = some (.int .i64 c0) ∧ w.cell? ⟨kp, 5, none⟩ = some (.int .i64 c1) ∧ w.cell? ⟨kp, 6, none⟩ = some (.int .i64 d0) ∧ w.cell? ⟨kp, 7, none⟩ = some (.int .i64 d1) ∧ w.frozen? ⟨kp, 0, none⟩ = false ∧ w.frozen? ⟨kp, 1, none⟩ = false ∧ w.frozen? ⟨kp, 4, none⟩ = false ∧ w.frozen? ⟨kp, 5, none⟩ = false ∧ w.frozen? ⟨kp, 6, none⟩ = false ∧ w.frozen? ⟨kp, 7, none⟩ = false ∧ Below W.heap.size W w) (hs0 : w.frozen? ⟨kp, 2, none⟩ = false ∧ w.frozen? ⟨kp, 3, none⟩ = false ∧ w.cell? ⟨kp, 2, none⟩ = some (.int .i64 b0) ∧ w.cell? ⟨kp, 3, none⟩ = some (.int .i64 b1))
    (he : ∀ w', w'.cell? ⟨ka, 0, none⟩ = some (.int .i64 a0) ∧ w'.cell? ⟨ka, 1, none⟩ = some (.int .i64 a1) ∧ w'.cell? ⟨kb, 0, none⟩ = some (.int .i64 b0) ∧ w'.cell? ⟨kb, 1, none⟩ = some (.int .i64 b1) ∧ w'.cell? ⟨kc, 0, none⟩ = some (.int .i64 c0) ∧ w'.cell? ⟨kc, 1, none⟩ = some (.int .i64 c1) ∧ w'.cell? ⟨kd, 0, none⟩ = some (.int .i64 d0) ∧ w'.cell? ⟨kd, 1, none⟩ = some (.int .i64 d1) ∧ w'.cell? ⟨kp, 0, none⟩ = some (.int .i64 p0) ∧ w'.cell? ⟨kp, 1, none⟩ = some (.int .i64 p1) ∧ w'.cell? ⟨kp, 4, none⟩ = some (.int .i64 c0) ∧ w'.cell? ⟨kp, 5, none⟩ = some (.int .i64 c1) ∧ w'.cell? ⟨kp, 6, none⟩ = some (.int .i64 d0) ∧ w'.cell? ⟨kp, 7, none⟩ = some (.int .i64 d1) ∧ w'.frozen? ⟨kp, 0, none⟩ = false ∧ w'.frozen? ⟨kp, 1, none⟩ = false ∧ w'.frozen? ⟨kp, 4, none⟩ = false ∧ w'.frozen? ⟨kp, 5, none⟩ = false ∧ w'.frozen? ⟨kp, 6, none⟩ = false ∧ w'.frozen? ⟨kp, 7, none⟩ = false ∧ Below W.heap.size W w' → w'.frozen? ⟨kp, 2, none⟩ = false ∧ w'.frozen? ⟨kp, 3, none⟩ = false ∧ w'.cell? ⟨kp, 2, none⟩ = some (.int .i64 q0) ∧ w'.cell? ⟨kp, 3, none⟩ = some (.int .i64 q1) → Q .normal ⟨((((((((((((((((((a.tmps.setIfInBounds 91 (.int .i64 1)).setIfInBounds 92 (.int .i64 1)).setIfInBounds 93 (.int .i64 1)).setIfInBounds 94 (.pointer (some ⟨kp, 2, none⟩))).setIfInBounds 95 (.pointer (some ⟨kp, 2, none⟩))).setIfInBounds 96 (.int .i64 b0)).setIfInBounds 97 (.int .i64 u)).setIfInBounds 98 (.int .i64 q0)).setIfInBounds 99 (.int .i64 1)).setIfInBounds 100 (.pointer (some ⟨kp, 2, none⟩))).setIfInBounds 101 (.pointer (some ⟨kp, 3, none⟩))).setIfInBounds 102 (.int .i64 b1)).setIfInBounds 103 (.int .i64 v)).setIfInBounds 104 (.int .i64 q1)).setIfInBounds 105 (.pointer (some ⟨kp, 2, none⟩))).setIfInBounds 106 (.pointer (some ⟨kp, 2, none⟩))).setIfInBounds 107 (.pointer (some ⟨kp, 2, none⟩))).setIfInBounds 108 (.pointer (some ⟨kp, 3, none⟩))), a.defers⟩ w') :
    (Code.region id ops true).wp Try.prog Q a w := by
  have ht : tidy (regOps Try.f14 10) a.tmps.size = true := by rw [hsz]; kernel_rfl
  obtain ⟨ac0, ac1, bc0, bc1, cc0, cc1, ddc0, ddc1, pc0, pc1, pc4, pc5, pc6, pc7, pf0, pf1, pf4, pf5, pf6, pf7, HB0⟩ := h0
  obtain ⟨zg0, zh0, cg0, ch0⟩ := hs0
  have ltg := World.block_lt_of_cell? w _ cg0
  have lth := World.block_lt_of_cell? w _ ch0
  refine region_tab2 (G := Unit) (fun _ => (region14_s1V b0 b1 q0 q1 u v kp)) (fun _ L w' => w'.cell? ⟨ka, 0, none⟩ = some (.int .i64 a0) ∧ w'.cell? ⟨ka, 1, none⟩ = some (.int .i64 a1) ∧ w'.cell? ⟨kb, 0, none⟩ = some (.int .i64 b0) ∧ w'.cell? ⟨kb, 1, none⟩ = some (.int .i64 b1) ∧ w'.cell? ⟨kc, 0, none⟩ = some (.int .i64 c0) ∧ w'.cell? ⟨kc, 1, none⟩ = some (.int .i64 c1) ∧ w'.cell? ⟨kd, 0, none⟩ = some (.int .i64 d0) ∧ w'.cell? ⟨kd, 1, none⟩ = some (.int .i64 d1) ∧ w'.cell? ⟨kp, 0, none⟩ = some (.int .i64 p0) ∧ w'.cell? ⟨kp, 1, none⟩ = some (.int .i64 p1) ∧ w'.cell? ⟨kp, 4, none⟩ = some (.int .i64 c0) ∧ w'.cell? ⟨kp, 5, none⟩ = some (.int .i64 c1) ∧ w'.cell? ⟨kp, 6, none⟩ = some (.int .i64 d0) ∧ w'.cell? ⟨kp, 7, none⟩ = some (.int .i64 d1) ∧ w'.frozen? ⟨kp, 0, none⟩ = false ∧ w'.frozen? ⟨kp, 1, none⟩ = false ∧ w'.frozen? ⟨kp, 4, none⟩ = false ∧ w'.frozen? ⟨kp, 5, none⟩ = false ∧ w'.frozen? ⟨kp, 6, none⟩ = false ∧ w'.frozen? ⟨kp, 7, none⟩ = false ∧ Below W.heap.size W w' ∧ w.heap.size ≤ w'.heap.size ∧ w'.frozen? ⟨kp, 2, none⟩ = false ∧ w'.frozen? ⟨kp, 3, none⟩ = false ∧ (L 16 = false → w'.cell? ⟨kp, 2, none⟩ = some (.int .i64 b0)) ∧ (L 16 = true → w'.cell? ⟨kp, 2, none⟩ = some (.int .i64 q0)) ∧ (L 19 = false → w'.cell? ⟨kp, 3, none⟩ = some (.int .i64 b1)) ∧ (L 19 = true → w'.cell? ⟨kp, 3, none⟩ = some (.int .i64 q1))) () (by kernel_rfl) ho ht ⟨ac0, ac1, bc0, bc1, cc0, cc1, ddc0, ddc1, pc0, pc1, pc4, pc5, pc6, pc7, pf0, pf1, pf4, pf5, pf6, pf7, bd HB0, Nat.le_refl _, zg0, zh0, fun _ => cg0, fun h => (by cases h), fun _ => ch0, fun h => (by cases h)⟩ ?_ ?_
  · intro i o hoi g L b w' hun hdn hpre hT hS
    clear he ac0 ac1 bc0 bc1 cc0 cc1 ddc0 ddc1 pc0 pc1 pc4 pc5 pc6 pc7 pf0 pf1 pf4 pf5 pf6 pf7 cg0 ch0 zg0 zh0 ho hsz ht HB0
    have hi : i < (regOps Try.f14 10).size := (Array.getElem?_eq_some_iff.1 hoi).1
    rw [show (regOps Try.f14 10).size = 20 by kernel_rfl] at hi
    obtain ⟨ac0, ac1, bc0, bc1, cc0, cc1, ddc0, ddc1, pc0, pc1, pc4, pc5, pc6, pc7, pf0, pf1, pf4, pf5, pf6, pf7, HB, szw, zg0, zh0, og, ng, oh, nh⟩ := hS
    have hcases : i = 0 ∨ i = 1 ∨ i = 2 ∨ i = 3 ∨ i = 4 ∨ i = 5 ∨ i = 6 ∨ i = 7 ∨ i = 8 ∨ i = 9 ∨ i = 10 ∨ i = 11 ∨ i = 12 ∨ i = 13 ∨ i = 14 ∨ i = 15 ∨ i = 16 ∨ i = 17 ∨ i = 18 ∨ i = 19 := by omega
    rcases hcases with rfl | rfl | rfl | rfl | rfl | rfl | rfl | rfl | rfl | rfl | rfl | rfl | rfl | rfl | rfl | rfl | rfl | rfl | rfl | rfl
    · have hlit : (regOps Try.f14 10)[0]? = some ({ dst := some 91, op := Op.move (Operand.tmp 16), type := 3, pos := "law.go:33", after := #[], guard := none }) := by kernel_rfl
      obtain rfl := Option.some.inj (hlit.symm.trans hoi)
      have r16 : b.tmps.getD 16 undef = (.int .i64 1) := rd ((hT.old 16 (by kernel_rfl)).trans t16)
      refine op_go hoi (want_all rfl) fun K hK => ?_
      clear hT hpre hlit hoi hdn
      go_simp
      exact hK _ _ ⟨(), fun _ _ => rfl, rfl, ac0, ac1, bc0, bc1, cc0, cc1, ddc0, ddc1, pc0, pc1, pc4, pc5, pc6, pc7, pf0, pf1, pf4, pf5, pf6, pf7, HB, szw, zg0, zh0, og, ng, oh, nh⟩
    · have hlit : (regOps Try.f14 10)[1]? = some ({ dst := some 92, op := Op.move (Operand.tmp 16), type := 3, pos := "law.go:33", after := #[{ on := 16, ground := Ground.gcOnly Departure.lateStores }], guard := none }) := by kernel_rfl
      obtain rfl := Option.some.inj (hlit.symm.trans hoi)
      have r16 : b.tmps.getD 16 undef = (.int .i64 1) := rd ((hT.old 16 (by kernel_rfl)).trans t16)
      refine op_go hoi (want_all rfl) fun K hK => ?_
      clear hT hpre hlit hoi hdn
      go_simp
      exact hK _ _ ⟨(), fun _ _ => rfl, rfl, ac0, ac1, bc0, bc1, cc0, cc1, ddc0, ddc1, pc0, pc1, pc4, pc5, pc6, pc7, pf0, pf1, pf4, pf5, pf6, pf7, HB, szw, zg0, zh0, og, ng, oh, nh⟩
    · have hlit : (regOps Try.f14 10)[2]? = some ({ dst := some 93, op := Op.move (Operand.tmp 16), type := 3, pos := "law.go:33", after := #[], guard := none }) := by kernel_rfl
      obtain rfl := Option.some.inj (hlit.symm.trans hoi)
      have r16 : b.tmps.getD 16 undef = (.int .i64 1) := rd ((hT.old 16 (by kernel_rfl)).trans t16)
      refine op_go hoi (want_all rfl) fun K hK => ?_
      clear hT hpre hlit hoi hdn
      go_simp
      exact hK _ _ ⟨(), fun _ _ => rfl, rfl, ac0, ac1, bc0, bc1, cc0, cc1, ddc0, ddc1, pc0, pc1, pc4, pc5, pc6, pc7, pf0, pf1, pf4, pf5, pf6, pf7, HB, szw, zg0, zh0, og, ng, oh, nh⟩
    · have hlit : (regOps Try.f14 10)[3]? = some ({ dst := some 94, op := Op.indexAddr 60 (Operand.tmp 15) (Operand.tmp 93), type := 0, pos := "law.go:33", after := #[{ on := 2, ground := Ground.data }], guard := none }) := by kernel_rfl
      obtain rfl := Option.some.inj (hlit.symm.trans hoi)
      have r15 : b.tmps.getD 15 undef = (.pointer (some ⟨kp, 0, none⟩)) := rd ((hT.old 15 (by kernel_rfl)).trans t15)
      have r93 : b.tmps.getD 93 undef = (.int .i64 1) := rd (hT.at 2 (by kernel_rfl) (pre_of hpre 2 (by kernel_rfl)))
      refine op_go hoi (want_all rfl) fun K hK => ?_
      clear hT hpre hlit hoi hdn
      go_simp
      exact hK _ _ ⟨(), fun _ _ => rfl, rfl, ac0, ac1, bc0, bc1, cc0, cc1, ddc0, ddc1, pc0, pc1, pc4, pc5, pc6, pc7, pf0, pf1, pf4, pf5, pf6, pf7, HB, szw, zg0, zh0, og, ng, oh, nh⟩
    · have hlit : (regOps Try.f14 10)[4]? = some ({ dst := some 95, op := Op.fieldAddr 23 (Operand.tmp 94) 0, type := 0, pos := "law.go:33", after := #[{ on := 3, ground := Ground.data }], guard := none }) := by kernel_rfl
      obtain rfl := Option.some.inj (hlit.symm.trans hoi)
      have r94 : b.tmps.getD 94 undef = (.pointer (some ⟨kp, 2, none⟩)) := rd (hT.at 3 (by kernel_rfl) (pre_of hpre 3 (by kernel_rfl)))
      refine op_go hoi (want_all rfl) fun K hK => ?_
      clear hT hpre hlit hoi hdn
      go_simp
      exact hK _ _ ⟨(), fun _ _ => rfl, rfl, ac0, ac1, bc0, bc1, cc0, cc1, ddc0, ddc1, pc0, pc1, pc4, pc5, pc6, pc7, pf0, pf1, pf4, pf5, pf6, pf7, HB, szw, zg0, zh0, og, ng, oh, nh⟩
    · have hlit : (regOps Try.f14 10)[5]? = some ({ dst := some 96, op := Op.load 3 (Operand.tmp 95), type := 3, pos := "law.go:33", after := #[{ on := 4, ground := Ground.data }], guard := none }) := by kernel_rfl
      obtain rfl := Option.some.inj (hlit.symm.trans hoi)
      have r95 : b.tmps.getD 95 undef = (.pointer (some ⟨kp, 2, none⟩)) := rd (hT.at 4 (by kernel_rfl) (pre_of hpre 4 (by kernel_rfl)))
      have nl : L 16 = false := Down.not (fun h => (hdn.step (k := 7) (j := 5) (by kernel_rfl) (hdn.step (k := 16) (j := 7) (by kernel_rfl) h))) hun
      obtain cg0 := og nl
      refine op_go hoi (want_all rfl) fun K hK => ?_
      clear hT hpre hlit hoi hdn
      go_simp
      exact hK _ _ ⟨(), fun _ _ => rfl, rfl, ac0, ac1, bc0, bc1, cc0, cc1, ddc0, ddc1, pc0, pc1, pc4, pc5, pc6, pc7, pf0, pf1, pf4, pf5, pf6, pf7, HB, szw, zg0, zh0, og, ng, oh, nh⟩
    · have hlit : (regOps Try.f14 10)[6]? = some ({ dst := some 97, op := Op.move (Operand.tmp 4), type := 3, pos := "law.go:33", after := #[], guard := none }) := by kernel_rfl
      obtain rfl := Option.some.inj (hlit.symm.trans hoi)
      have r4 : b.tmps.getD 4 undef = (.int .i64 u) := rd ((hT.old 4 (by kernel_rfl)).trans t4)
      refine op_go hoi (want_all rfl) fun K hK => ?_
      clear hT hpre hlit hoi hdn
      go_simp
      exact hK _ _ ⟨(), fun _ _ => rfl, rfl, ac0, ac1, bc0, bc1, cc0, cc1, ddc0, ddc1, pc0, pc1, pc4, pc5, pc6, pc7, pf0, pf1, pf4, pf5, pf6, pf7, HB, szw, zg0, zh0, og, ng, oh, nh⟩
    · have hlit : (regOps Try.f14 10)[7]? = some ({ dst := some 98, op := Op.binOp BinOp.add 3 (Operand.tmp 96) (Operand.tmp 97) 3, type := 3, pos := "law.go:33", after := #[{ on := 5, ground := Ground.data }, { on := 6, ground := Ground.data }], guard := none }) := by kernel_rfl
      obtain rfl := Option.some.inj (hlit.symm.trans hoi)
      have r96 : b.tmps.getD 96 undef = (.int .i64 b0) := rd (hT.at 5 (by kernel_rfl) (pre_of hpre 5 (by kernel_rfl)))
      have r97 : b.tmps.getD 97 undef = (.int .i64 u) := rd (hT.at 6 (by kernel_rfl) (pre_of hpre 6 (by kernel_rfl)))
      refine op_go hoi (want_all rfl) fun K hK => ?_
      clear hT hpre hlit hoi hdn
      go_simp
      exact hK _ _ ⟨(), fun _ _ => rfl, rfl, ac0, ac1, bc0, bc1, cc0, cc1, ddc0, ddc1, pc0, pc1, pc4, pc5, pc6, pc7, pf0, pf1, pf4, pf5, pf6, pf7, HB, szw, zg0, zh0, og, ng, oh, nh⟩
    · have hlit : (regOps Try.f14 10)[8]? = some ({ dst := some 99, op := Op.move (Operand.tmp 16), type := 3, pos := "law.go:33", after := #[], guard := none }) := by kernel_rfl
      obtain rfl := Option.some.inj (hlit.symm.trans hoi)
      have r16 : b.tmps.getD 16 undef = (.int .i64 1) := rd ((hT.old 16 (by kernel_rfl)).trans t16)
      refine op_go hoi (want_all rfl) fun K hK => ?_
      clear hT hpre hlit hoi hdn
      go_simp
      exact hK _ _ ⟨(), fun _ _ => rfl, rfl, ac0, ac1, bc0, bc1, cc0, cc1, ddc0, ddc1, pc0, pc1, pc4, pc5, pc6, pc7, pf0, pf1, pf4, pf5, pf6, pf7, HB, szw, zg0, zh0, og, ng, oh, nh⟩
    · have hlit : (regOps Try.f14 10)[9]? = some ({ dst := some 100, op := Op.indexAddr 60 (Operand.tmp 15) (Operand.tmp 99), type := 0, pos := "law.go:33", after := #[{ on := 8, ground := Ground.data }], guard := none }) := by kernel_rfl
      obtain rfl := Option.some.inj (hlit.symm.trans hoi)
      have r15 : b.tmps.getD 15 undef = (.pointer (some ⟨kp, 0, none⟩)) := rd ((hT.old 15 (by kernel_rfl)).trans t15)
      have r99 : b.tmps.getD 99 undef = (.int .i64 1) := rd (hT.at 8 (by kernel_rfl) (pre_of hpre 8 (by kernel_rfl)))
      refine op_go hoi (want_all rfl) fun K hK => ?_
      clear hT hpre hlit hoi hdn
      go_simp
      exact hK _ _ ⟨(), fun _ _ => rfl, rfl, ac0, ac1, bc0, bc1, cc0, cc1, ddc0, ddc1, pc0, pc1, pc4, pc5, pc6, pc7, pf0, pf1, pf4, pf5, pf6, pf7, HB, szw, zg0, zh0, og, ng, oh, nh⟩
    · have hlit : (regOps Try.f14 10)[10]? = some ({ dst := some 101, op := Op.fieldAddr 23 (Operand.tmp 100) 1, type := 0, pos := "law.go:33", after := #[{ on := 9, ground := Ground.data }], guard := none }) := by kernel_rfl
      obtain rfl := Option.some.inj (hlit.symm.trans hoi)
      have r100 : b.tmps.getD 100 undef = (.pointer (some ⟨kp, 2, none⟩)) := rd (hT.at 9 (by kernel_rfl) (pre_of hpre 9 (by kernel_rfl)))
      refine op_go hoi (want_all rfl) fun K hK => ?_
      clear hT hpre hlit hoi hdn
      go_simp
      exact hK _ _ ⟨(), fun _ _ => rfl, rfl, ac0, ac1, bc0, bc1, cc0, cc1, ddc0, ddc1, pc0, pc1, pc4, pc5, pc6, pc7, pf0, pf1, pf4, pf5, pf6, pf7, HB, szw, zg0, zh0, og, ng, oh, nh⟩
    · have hlit : (regOps Try.f14 10)[11]? = some ({ dst := some 102, op := Op.load 3 (Operand.tmp 101), type := 3, pos := "law.go:33", after := #[{ on := 10, ground := Ground.data }], guard := none }) := by kernel_rfl
      obtain rfl := Option.some.inj (hlit.symm.trans hoi)
      have r101 : b.tmps.getD 101 undef = (.pointer (some ⟨kp, 3, none⟩)) := rd (hT.at 10 (by kernel_rfl) (pre_of hpre 10 (by kernel_rfl)))
      have nl : L 19 = false := Down.not (fun h => (hdn.step (k := 13) (j := 11) (by kernel_rfl) (hdn.step (k := 19) (j := 13) (by kernel_rfl) h))) hun
      obtain ch0 := oh nl
      refine op_go hoi (want_all rfl) fun K hK => ?_
      clear hT hpre hlit hoi hdn
      go_simp
      exact hK _ _ ⟨(), fun _ _ => rfl, rfl, ac0, ac1, bc0, bc1, cc0, cc1, ddc0, ddc1, pc0, pc1, pc4, pc5, pc6, pc7, pf0, pf1, pf4, pf5, pf6, pf7, HB, szw, zg0, zh0, og, ng, oh, nh⟩
    · have hlit : (regOps Try.f14 10)[12]? = some ({ dst := some 103, op := Op.move (Operand.tmp 5), type := 3, pos := "law.go:33", after := #[], guard := none }) := by kernel_rfl
      obtain rfl := Option.some.inj (hlit.symm.trans hoi)
      have r5 : b.tmps.getD 5 undef = (.int .i64 v) := rd ((hT.old 5 (by kernel_rfl)).trans t5)
      refine op_go hoi (want_all rfl) fun K hK => ?_
      clear hT hpre hlit hoi hdn
      go_simp
      exact hK _ _ ⟨(), fun _ _ => rfl, rfl, ac0, ac1, bc0, bc1, cc0, cc1, ddc0, ddc1, pc0, pc1, pc4, pc5, pc6, pc7, pf0, pf1, pf4, pf5, pf6, pf7, HB, szw, zg0, zh0, og, ng, oh, nh⟩
    · have hlit : (regOps Try.f14 10)[13]? = some ({ dst := some 104, op := Op.binOp BinOp.add 3 (Operand.tmp 102) (Operand.tmp 103) 3, type := 3, pos := "law.go:33", after := #[{ on := 11, ground := Ground.data }, { on := 12, ground := Ground.data }], guard := none }) := by kernel_rfl
      obtain rfl := Option.some.inj (hlit.symm.trans hoi)
      have r102 : b.tmps.getD 102 undef = (.int .i64 b1) := rd (hT.at 11 (by kernel_rfl) (pre_of hpre 11 (by kernel_rfl)))
      have r103 : b.tmps.getD 103 undef = (.int .i64 v) := rd (hT.at 12 (by kernel_rfl) (pre_of hpre 12 (by kernel_rfl)))
      refine op_go hoi (want_all rfl) fun K hK => ?_
      clear hT hpre hlit hoi hdn
      go_simp
      exact hK _ _ ⟨(), fun _ _ => rfl, rfl, ac0, ac1, bc0, bc1, cc0, cc1, ddc0, ddc1, pc0, pc1, pc4, pc5, pc6, pc7, pf0, pf1, pf4, pf5, pf6, pf7, HB, szw, zg0, zh0, og, ng, oh, nh⟩
    · have hlit : (regOps Try.f14 10)[14]? = some ({ dst := some 105, op := Op.indexAddr 60 (Operand.tmp 15) (Operand.tmp 91), type := 0, pos := "law.go:33", after := #[{ on := 0, ground := Ground.data }, { on := 0, ground := Ground.phase }, { on := 1, ground := Ground.textOnly Departure.lateStores }, { on := 2, ground := Ground.phase }, { on := 3, ground := Ground.phase }, { on := 4, ground := Ground.phase }, { on := 5, ground := Ground.phase }, { on := 6, ground := Ground.phase }, { on := 7, ground := Ground.phase }, { on := 8, ground := Ground.textOnly Departure.lateStores }, { on := 9, ground := Ground.phase }, { on := 10, ground := Ground.phase }, { on := 11, ground := Ground.phase }, { on := 12, ground := Ground.textOnly Departure.lateStores }, { on := 13, ground := Ground.textOnly Departure.lateStoresUnsure }], guard := none }) := by kernel_rfl
      obtain rfl := Option.some.inj (hlit.symm.trans hoi)
      have r15 : b.tmps.getD 15 undef = (.pointer (some ⟨kp, 0, none⟩)) := rd ((hT.old 15 (by kernel_rfl)).trans t15)
      have r91 : b.tmps.getD 91 undef = (.int .i64 1) := rd (hT.at 0 (by kernel_rfl) (pre_of hpre 0 (by kernel_rfl)))
      refine op_go hoi (want_all rfl) fun K hK => ?_
      clear hT hpre hlit hoi hdn
      go_simp
      exact hK _ _ ⟨(), fun _ _ => rfl, rfl, ac0, ac1, bc0, bc1, cc0, cc1, ddc0, ddc1, pc0, pc1, pc4, pc5, pc6, pc7, pf0, pf1, pf4, pf5, pf6, pf7, HB, szw, zg0, zh0, og, ng, oh, nh⟩
    · have hlit : (regOps Try.f14 10)[15]? = some ({ dst := some 106, op := Op.fieldAddr 23 (Operand.tmp 105) 0, type := 0, pos := "law.go:33", after := #[{ on := 14, ground := Ground.data }, { on := 0, ground := Ground.phase }, { on := 1, ground := Ground.textOnly Departure.lateStores }, { on := 2, ground := Ground.phase }, { on := 3, ground := Ground.phase }, { on := 4, ground := Ground.phase }, { on := 5, ground := Ground.phase }, { on := 6, ground := Ground.phase }, { on := 7, ground := Ground.phase }, { on := 8, ground := Ground.textOnly Departure.lateStores }, { on := 9, ground := Ground.phase }, { on := 10, ground := Ground.phase }, { on := 11, ground := Ground.phase }, { on := 12, ground := Ground.textOnly Departure.lateStores }, { on := 13, ground := Ground.textOnly Departure.lateStoresUnsure }], guard := none }) := by kernel_rfl
      obtain rfl := Option.some.inj (hlit.symm.trans hoi)
      have r105 : b.tmps.getD 105 undef = (.pointer (some ⟨kp, 2, none⟩)) := rd (hT.at 14 (by kernel_rfl) (pre_of hpre 14 (by kernel_rfl)))
      refine op_go hoi (want_all rfl) fun K hK => ?_
      clear hT hpre hlit hoi hdn
      go_simp
      exact hK _ _ ⟨(), fun _ _ => rfl, rfl, ac0, ac1, bc0, bc1, cc0, cc1, ddc0, ddc1, pc0, pc1, pc4, pc5, pc6, pc7, pf0, pf1, pf4, pf5, pf6, pf7, HB, szw, zg0, zh0, og, ng, oh, nh⟩
    · have hlit : (regOps Try.f14 10)[16]? = some ({ dst := none, op := Op.store 3 (Operand.tmp 106) (Operand.tmp 98), type := 0, pos := "law.go:33", after := #[{ on := 15, ground := Ground.data }, { on := 7, ground := Ground.data }, { on := 0, ground := Ground.phase }, { on := 1, ground := Ground.textOnly Departure.lateStores }, { on := 2, ground := Ground.phase }, { on := 3, ground := Ground.phase }, { on := 4, ground := Ground.phase }, { on := 5, ground := Ground.phase }, { on := 6, ground := Ground.phase }, { on := 7, ground := Ground.phase }, { on := 8, ground := Ground.textOnly Departure.lateStores }, { on := 9, ground := Ground.phase }, { on := 10, ground := Ground.phase }, { on := 11, ground := Ground.phase }, { on := 12, ground := Ground.textOnly Departure.lateStores }, { on := 13, ground := Ground.textOnly Departure.lateStoresUnsure }], guard := none }) := by kernel_rfl
      obtain rfl := Option.some.inj (hlit.symm.trans hoi)
      have r106 : b.tmps.getD 106 undef = (.pointer (some ⟨kp, 2, none⟩)) := rd (hT.at 15 (by kernel_rfl) (pre_of hpre 15 (by kernel_rfl)))
      have r98 : b.tmps.getD 98 undef = (.int .i64 q0) := rd (hT.at 7 (by kernel_rfl) (pre_of hpre 7 (by kernel_rfl)))
      obtain cg0 := og hun
      refine op_go hoi (want_all rfl) fun K hK => ?_
      clear hT hpre hlit hoi hdn
      go_simp
      exact hK _ _ ⟨(), fun _ _ => rfl, rfl, so (ac0) nekakp, so (ac1) nekakp, so (bc0) nekbkp, so (bc1) nekbkp, so (cc0) nekckp, so (cc1) nekckp, so (ddc0) nekdkp, so (ddc1) nekdkp, sb (pc0) (by decide), sb (pc1) (by decide), sb (pc4) (by decide), sb (pc5) (by decide), sb (pc6) (by decide), sb (pc7) (by decide), sf (pf0), sf (pf1), sf (pf4), sf (pf5), sf (pf6), sf (pf7), bs (HB) geg _, sz (szw), sf (zg0), sf (zh0), fun h => (by cases h), fun _ => ss (cg0), fun h => (by obtain x0 := oh h; exact sb (x0) (by decide)), fun h => (by obtain x0 := nh h; exact sb (x0) (by decide))⟩
    · have hlit : (regOps Try.f14 10)[17]? = some ({ dst := some 107, op := Op.indexAddr 60 (Operand.tmp 15) (Operand.tmp 92), type := 0, pos := "law.go:33", after := #[{ on := 1, ground := Ground.data }, { on := 0, ground := Ground.phase }, { on := 1, ground := Ground.phase }, { on := 2, ground := Ground.phase }, { on := 3, ground := Ground.phase }, { on := 4, ground := Ground.phase }, { on := 5, ground := Ground.phase }, { on := 6, ground := Ground.phase }, { on := 7, ground := Ground.phase }, { on := 8, ground := Ground.phase }, { on := 9, ground := Ground.phase }, { on := 10, ground := Ground.phase }, { on := 11, ground := Ground.phase }, { on := 12, ground := Ground.phase }, { on := 13, ground := Ground.phase }, { on := 14, ground := Ground.phase }, { on := 15, ground := Ground.phase }, { on := 16, ground := Ground.phase }], guard := none }) := by kernel_rfl
      obtain rfl := Option.some.inj (hlit.symm.trans hoi)
      have r15 : b.tmps.getD 15 undef = (.pointer (some ⟨kp, 0, none⟩)) := rd ((hT.old 15 (by kernel_rfl)).trans t15)
      have r92 : b.tmps.getD 92 undef = (.int .i64 1) := rd (hT.at 1 (by kernel_rfl) (pre_of hpre 1 (by kernel_rfl)))
      refine op_go hoi (want_all rfl) fun K hK => ?_
      clear hT hpre hlit hoi hdn
      go_simp
      exact hK _ _ ⟨(), fun _ _ => rfl, rfl, ac0, ac1, bc0, bc1, cc0, cc1, ddc0, ddc1, pc0, pc1, pc4, pc5, pc6, pc7, pf0, pf1, pf4, pf5, pf6, pf7, HB, szw, zg0, zh0, og, ng, oh, nh⟩
    · have hlit : (regOps Try.f14 10)[18]? = some ({ dst := some 108, op := Op.fieldAddr 23 (Operand.tmp 107) 1, type := 0, pos := "law.go:33", after := #[{ on := 17, ground := Ground.data }, { on := 0, ground := Ground.phase }, { on := 1, ground := Ground.phase }, { on := 2, ground := Ground.phase }, { on := 3, ground := Ground.phase }, { on := 4, ground := Ground.phase }, { on := 5, ground := Ground.phase }, { on := 6, ground := Ground.phase }, { on := 7, ground := Ground.phase }, { on := 8, ground := Ground.phase }, { on := 9, ground := Ground.phase }, { on := 10, ground := Ground.phase }, { on := 11, ground := Ground.phase }, { on := 12, ground := Ground.phase }, { on := 13, ground := Ground.phase }, { on := 14, ground := Ground.phase }, { on := 15, ground := Ground.phase }, { on := 16, ground := Ground.phase }], guard := none }) := by kernel_rfl
      obtain rfl := Option.some.inj (hlit.symm.trans hoi)
      have r107 : b.tmps.getD 107 undef = (.pointer (some ⟨kp, 2, none⟩)) := rd (hT.at 17 (by kernel_rfl) (pre_of hpre 17 (by kernel_rfl)))
      refine op_go hoi (want_all rfl) fun K hK => ?_
      clear hT hpre hlit hoi hdn
      go_simp
      exact hK _ _ ⟨(), fun _ _ => rfl, rfl, ac0, ac1, bc0, bc1, cc0, cc1, ddc0, ddc1, pc0, pc1, pc4, pc5, pc6, pc7, pf0, pf1, pf4, pf5, pf6, pf7, HB, szw, zg0, zh0, og, ng, oh, nh⟩
    · have hlit : (regOps Try.f14 10)[19]? = some ({ dst := none, op := Op.store 3 (Operand.tmp 108) (Operand.tmp 104), type := 0, pos := "law.go:33", after := #[{ on := 18, ground := Ground.data }, { on := 13, ground := Ground.data }, { on := 16, ground := Ground.chain }, { on := 0, ground := Ground.phase }, { on := 1, ground := Ground.phase }, { on := 2, ground := Ground.phase }, { on := 3, ground := Ground.phase }, { on := 4, ground := Ground.phase }, { on := 5, ground := Ground.phase }, { on := 6, ground := Ground.phase }, { on := 7, ground := Ground.phase }, { on := 8, ground := Ground.phase }, { on := 9, ground := Ground.phase }, { on := 10, ground := Ground.phase }, { on := 11, ground := Ground.phase }, { on := 12, ground := Ground.phase }, { on := 13, ground := Ground.phase }, { on := 14, ground := Ground.phase }, { on := 15, ground := Ground.phase }, { on := 16, ground := Ground.phase }], guard := none }) := by kernel_rfl
      obtain rfl := Option.some.inj (hlit.symm.trans hoi)
      have r108 : b.tmps.getD 108 undef = (.pointer (some ⟨kp, 3, none⟩)) := rd (hT.at 18 (by kernel_rfl) (pre_of hpre 18 (by kernel_rfl)))
      have r104 : b.tmps.getD 104 undef = (.int .i64 q1) := rd (hT.at 13 (by kernel_rfl) (pre_of hpre 13 (by kernel_rfl)))
      obtain ch0 := oh hun
      refine op_go hoi (want_all rfl) fun K hK => ?_
      clear hT hpre hlit hoi hdn
      go_simp
      exact hK _ _ ⟨(), fun _ _ => rfl, rfl, so (ac0) nekakp, so (ac1) nekakp, so (bc0) nekbkp, so (bc1) nekbkp, so (cc0) nekckp, so (cc1) nekckp, so (ddc0) nekdkp, so (ddc1) nekdkp, sb (pc0) (by decide), sb (pc1) (by decide), sb (pc4) (by decide), sb (pc5) (by decide), sb (pc6) (by decide), sb (pc7) (by decide), sf (pf0), sf (pf1), sf (pf4), sf (pf5), sf (pf6), sf (pf7), bs (HB) geh _, sz (szw), sf (zg0), sf (zh0), fun h => (by obtain x0 := og h; exact sb (x0) (by decide)), fun h => (by obtain x0 := ng h; exact sb (x0) (by decide)), fun h => (by cases h), fun _ => ss (ch0)⟩
  · intro g b w' hT hS
    rw [hT.all ht]
    have hn : (regOps Try.f14 10).size = 20 := by kernel_rfl
    rw [hn] at hS ⊢
    obtain ⟨ac0, ac1, bc0, bc1, cc0, cc1, ddc0, ddc1, pc0, pc1, pc4, pc5, pc6, pc7, pf0, pf1, pf4, pf5, pf6, pf7, HB, szw, zg0, zh0, og, ng, oh, nh⟩ := hS
    obtain cg0 := ng rfl
    obtain ch0 := nh rfl
    exact he w' ⟨ac0, ac1, bc0, bc1, cc0, cc1, ddc0, ddc1, pc0, pc1, pc4, pc5, pc6, pc7, pf0, pf1, pf4, pf5, pf6, pf7, HB⟩ ⟨zg0, zh0, cg0, ch0⟩

/-- What each operation of the region leaves. -/
def region14_s2V (c0 c1 r0 r1 u v : Int) (kp : Nat) : Nat → Value
  | 0 => .int .i64 2
  | 1 => .int .i64 2
  | 2 => .int .i64 2
  | 3 => .pointer (some ⟨kp, 4, none⟩)
  | 4 => .pointer (some ⟨kp, 4, none⟩)
  | 5 => .int .i64 c0
  | 6 => .int .i64 u
  | 7 => .int .i64 r0
  | 8 => .int .i64 2
  | 9 => .pointer (some ⟨kp, 4, none⟩)
  | 10 => .pointer (some ⟨kp, 5, none⟩)
  | 11 => .int .i64 c1
  | 12 => .int .i64 v
  | 13 => .int .i64 r1
  | 14 => .pointer (some ⟨kp, 4, none⟩)
  | 15 => .pointer (some ⟨kp, 4, none⟩)
  | 16 => undef
  | 17 => .pointer (some ⟨kp, 4, none⟩)
  | 18 => .pointer (some ⟨kp, 5, none⟩)
  | 19 => undef
  | _ => undef

set_option maxHeartbeats 4000000 in
set_option maxRecDepth 100000 in
theorem region14_s2 (a0 a1 b0 b1 c0 c1 d0 d1 p0 p1 q0 q1 r0 r1 u v : Int) (ka kb kc kd kp : Nat) (W : World) (eq1 : IntKind.i64.wrap (c0 + u) = r0) (eq2 : IntKind.i64.wrap (c1 + v) = r1) (nekakp : ¬ ka = kp) (nekbkp : ¬ kb = kp) (nekckp : ¬ kc = kp) (nekdkp : ¬ kd = kp) {id : Nat} {ops : Array Oper} {Q : Exit → Act → World → Prop} {a : Act} {w : World}
    (ho : ops = (regOps Try.f14 10)) (hsz : a.tmps.size = 157) (t15 : a.tmps[15]? = some (.pointer (some ⟨kp, 0, none⟩))) (t16 : a.tmps[16]? = some (.int .i64 2)) (t4 : a.tmps[4]? = some (.int .i64 u)) (t5 : a.tmps[5]? = some (.int .i64 v)) (geg : W.heap.size ≤ kp) (geh : W.heap.size ≤ kp)
    (h0 : w.cell? ⟨ka, 0, none⟩ = some (.int .i64 a0) ∧ w.cell? ⟨ka, 1, none⟩ = some (.int .i64 a1) ∧ w.cell? ⟨kb, 0, none⟩ = some (.int .i64 b0) ∧ w.cell? ⟨kb, 1, none⟩ = some (.int .i64 b1) ∧ w.cell? ⟨kc, 0, none⟩ = some (.int .i64 c0) ∧ w.cell? ⟨kc, 1, none⟩ = some (.int .i64 c1) ∧ w.cell? ⟨kd, 0, none⟩ = some (.int .i64 d0) ∧ w.cell? ⟨kd, 1, none⟩ = some (.int .i64 d1) ∧ w.cell? ⟨kp, 0, none⟩ = some (.int .i64 p0) ∧ w.cell? ⟨kp, 1, none⟩ = some (.int .i64 p1) ∧ w.cell? ⟨kp, 2, none⟩ = some (.int .i64 q0) ∧ w.cell? ⟨kp, 3, none⟩ = some (.int .i64 q1) ∧ w.cell? ⟨kp, 6, none⟩ = some (.int .i64 d0) ∧ w.cell? ⟨kp, 7, none⟩ = some (.int .i64 d1) ∧ w.frozen? ⟨kp, 0, none⟩ = false ∧ w.frozen? ⟨kp, 1, none⟩ = false ∧ w.frozen? ⟨kp, 2, none⟩ = false ∧ w.frozen? ⟨kp, 3, none⟩ = false ∧ w.frozen? ⟨kp, 6, none⟩ = false ∧ w.frozen? ⟨kp, 7, none⟩ = false ∧ Below W.heap.size W w) (hs0 : w.frozen? ⟨kp, 4, none⟩ = false ∧ w.frozen? ⟨kp, 5, none⟩ = false ∧ w.cell? ⟨kp, 4, none⟩ = some (.int .i64 c0) ∧ w.cell? ⟨kp, 5, none⟩ = some (.int .i64 c1))
    (he : ∀ w', w'.cell? ⟨ka, 0, none⟩ = some (.int .i64 a0) ∧ w'.cell? ⟨ka, 1, none⟩ = some (.int .i64 a1) ∧ w'.cell? ⟨kb, 0, none⟩ = some (.int .i64 b0) ∧ w'.cell? ⟨kb, 1, none⟩ = some (.int .i64 b1) ∧ w'.cell? ⟨kc, 0, none⟩ = some (.int .i64 c0) ∧ w'.cell? ⟨kc, 1, none⟩ = some (.int .i64 c1) ∧ w'.cell? ⟨kd, 0, none⟩ = some (.int .i64 d0) ∧ w'.cell? ⟨kd, 1, none⟩ = some (.int .i64 d1) ∧ w'.cell? ⟨kp, 0, none⟩ = some (.int .i64 p0) ∧ w'.cell? ⟨kp, 1, none⟩ = some (.int .i64 p1) ∧ w'.cell? ⟨kp, 2, none⟩ = some (.int .i64 q0) ∧ w'.cell? ⟨kp, 3, none⟩ = some (.int .i64 q1) ∧ w'.cell? ⟨kp, 6, none⟩ = some (.int .i64 d0) ∧ w'.cell? ⟨kp, 7, none⟩ = some (.int .i64 d1) ∧ w'.frozen? ⟨kp, 0, none⟩ = false ∧ w'.frozen? ⟨kp, 1, none⟩ = false ∧ w'.frozen? ⟨kp, 2, none⟩ = false ∧ w'.frozen? ⟨kp, 3, none⟩ = false ∧ w'.frozen? ⟨kp, 6, none⟩ = false ∧ w'.frozen? ⟨kp, 7, none⟩ = false ∧ Below W.heap.size W w' → w'.frozen? ⟨kp, 4, none⟩ = false ∧ w'.frozen? ⟨kp, 5, none⟩ = false ∧ w'.cell? ⟨kp, 4, none⟩ = some (.int .i64 r0) ∧ w'.cell? ⟨kp, 5, none⟩ = some (.int .i64 r1) → Q .normal ⟨((((((((((((((((((a.tmps.setIfInBounds 91 (.int .i64 2)).setIfInBounds 92 (.int .i64 2)).setIfInBounds 93 (.int .i64 2)).setIfInBounds 94 (.pointer (some ⟨kp, 4, none⟩))).setIfInBounds 95 (.pointer (some ⟨kp, 4, none⟩))).setIfInBounds 96 (.int .i64 c0)).setIfInBounds 97 (.int .i64 u)).setIfInBounds 98 (.int .i64 r0)).setIfInBounds 99 (.int .i64 2)).setIfInBounds 100 (.pointer (some ⟨kp, 4, none⟩))).setIfInBounds 101 (.pointer (some ⟨kp, 5, none⟩))).setIfInBounds 102 (.int .i64 c1)).setIfInBounds 103 (.int .i64 v)).setIfInBounds 104 (.int .i64 r1)).setIfInBounds 105 (.pointer (some ⟨kp, 4, none⟩))).setIfInBounds 106 (.pointer (some ⟨kp, 4, none⟩))).setIfInBounds 107 (.pointer (some ⟨kp, 4, none⟩))).setIfInBounds 108 (.pointer (some ⟨kp, 5, none⟩))), a.defers⟩ w') :
    (Code.region id ops true).wp Try.prog Q a w := by
  have ht : tidy (regOps Try.f14 10) a.tmps.size = true := by rw [hsz]; kernel_rfl
  obtain ⟨ac0, ac1, bc0, bc1, cc0, cc1, ddc0, ddc1, pc0, pc1, pc2, pc3, pc6, pc7, pf0, pf1, pf2, pf3, pf6, pf7, HB0⟩ := h0
  obtain ⟨zg0, zh0, cg0, ch0⟩ := hs0
  have ltg := World.block_lt_of_cell? w _ cg0
  have lth := World.block_lt_of_cell? w _ ch0
  refine region_tab2 (G := Unit) (fun _ => (region14_s2V c0 c1 r0 r1 u v kp)) (fun _ L w' => w'.cell? ⟨ka, 0, none⟩ = some (.int .i64 a0) ∧ w'.cell? ⟨ka, 1, none⟩ = some (.int .i64 a1) ∧ w'.cell? ⟨kb, 0, none⟩ = some (.int .i64 b0) ∧ w'.cell? ⟨kb, 1, none⟩ = some (.int .i64 b1) ∧ w'.cell? ⟨kc, 0, none⟩ = some (.int .i64 c0) ∧ w'.cell? ⟨kc, 1, none⟩ = some (.int .i64 c1) ∧ w'.cell? ⟨kd, 0, none⟩ = some (.int .i64 d0) ∧ w'.cell? ⟨kd, 1, none⟩ = some (.int .i64 d1) ∧ w'.cell? ⟨kp, 0, none⟩ = some (.int .i64 p0) ∧ w'.cell? ⟨kp, 1, none⟩ = some (.int .i64 p1) ∧ w'.cell? ⟨kp, 2, none⟩ = some (.int .i64 q0) ∧ w'.cell? ⟨kp, 3, none⟩ = some (.int .i64 q1) ∧ w'.cell? ⟨kp, 6, none⟩ = some (.int .i64 d0) ∧ w'.cell? ⟨kp, 7, none⟩ = some (.int .i64 d1) ∧ w'.frozen? ⟨kp, 0, none⟩ = false ∧ w'.frozen? ⟨kp, 1, none⟩ = false ∧ w'.frozen? ⟨kp, 2, none⟩ = false ∧ w'.frozen? ⟨kp, 3, none⟩ = false ∧ w'.frozen? ⟨kp, 6, none⟩ = false ∧ w'.frozen? ⟨kp, 7, none⟩ = false ∧ Below W.heap.size W w' ∧ w.heap.size ≤ w'.heap.size ∧ w'.frozen? ⟨kp, 4, none⟩ = false ∧ w'.frozen? ⟨kp, 5, none⟩ = false ∧ (L 16 = false → w'.cell? ⟨kp, 4, none⟩ = some (.int .i64 c0)) ∧ (L 16 = true → w'.cell? ⟨kp, 4, none⟩ = some (.int .i64 r0)) ∧ (L 19 = false → w'.cell? ⟨kp, 5, none⟩ = some (.int .i64 c1)) ∧ (L 19 = true → w'.cell? ⟨kp, 5, none⟩ = some (.int .i64 r1))) () (by kernel_rfl) ho ht ⟨ac0, ac1, bc0, bc1, cc0, cc1, ddc0, ddc1, pc0, pc1, pc2, pc3, pc6, pc7, pf0, pf1, pf2, pf3, pf6, pf7, bd HB0, Nat.le_refl _, zg0, zh0, fun _ => cg0, fun h => (by cases h), fun _ => ch0, fun h => (by cases h)⟩ ?_ ?_
  · intro i o hoi g L b w' hun hdn hpre hT hS
    clear he ac0 ac1 bc0 bc1 cc0 cc1 ddc0 ddc1 pc0 pc1 pc2 pc3 pc6 pc7 pf0 pf1 pf2 pf3 pf6 pf7 cg0 ch0 zg0 zh0 ho hsz ht HB0
    have hi : i < (regOps Try.f14 10).size := (Array.getElem?_eq_some_iff.1 hoi).1
    rw [show (regOps Try.f14 10).size = 20 by kernel_rfl] at hi
    obtain ⟨ac0, ac1, bc0, bc1, cc0, cc1, ddc0, ddc1, pc0, pc1, pc2, pc3, pc6, pc7, pf0, pf1, pf2, pf3, pf6, pf7, HB, szw, zg0, zh0, og, ng, oh, nh⟩ := hS
    have hcases : i = 0 ∨ i = 1 ∨ i = 2 ∨ i = 3 ∨ i = 4 ∨ i = 5 ∨ i = 6 ∨ i = 7 ∨ i = 8 ∨ i = 9 ∨ i = 10 ∨ i = 11 ∨ i = 12 ∨ i = 13 ∨ i = 14 ∨ i = 15 ∨ i = 16 ∨ i = 17 ∨ i = 18 ∨ i = 19 := by omega
    rcases hcases with rfl | rfl | rfl | rfl | rfl | rfl | rfl | rfl | rfl | rfl | rfl | rfl | rfl | rfl | rfl | rfl | rfl | rfl | rfl | rfl
    · have hlit : (regOps Try.f14 10)[0]? = some ({ dst := some 91, op := Op.move (Operand.tmp 16), type := 3, pos := "law.go:33", after := #[], guard := none }) := by kernel_rfl
      obtain rfl := Option.some.inj (hlit.symm.trans hoi)
      have r16 : b.tmps.getD 16 undef = (.int .i64 2) := rd ((hT.old 16 (by kernel_rfl)).trans t16)
      refine op_go hoi (want_all rfl) fun K hK => ?_
      clear hT hpre hlit hoi hdn
      go_simp
      exact hK _ _ ⟨(), fun _ _ => rfl, rfl, ac0, ac1, bc0, bc1, cc0, cc1, ddc0, ddc1, pc0, pc1, pc2, pc3, pc6, pc7, pf0, pf1, pf2, pf3, pf6, pf7, HB, szw, zg0, zh0, og, ng, oh, nh⟩
    · have hlit : (regOps Try.f14 10)[1]? = some ({ dst := some 92, op := Op.move (Operand.tmp 16), type := 3, pos := "law.go:33", after := #[{ on := 16, ground := Ground.gcOnly Departure.lateStores }], guard := none }) := by kernel_rfl
      obtain rfl := Option.some.inj (hlit.symm.trans hoi)
      have r16 : b.tmps.getD 16 undef = (.int .i64 2) := rd ((hT.old 16 (by kernel_rfl)).trans t16)
      refine op_go hoi (want_all rfl) fun K hK => ?_
      clear hT hpre hlit hoi hdn
      go_simp
      exact hK _ _ ⟨(), fun _ _ => rfl, rfl, ac0, ac1, bc0, bc1, cc0, cc1, ddc0, ddc1, pc0, pc1, pc2, pc3, pc6, pc7, pf0, pf1, pf2, pf3, pf6, pf7, HB, szw, zg0, zh0, og, ng, oh, nh⟩
    · have hlit : (regOps Try.f14 10)[2]? = some ({ dst := some 93, op := Op.move (Operand.tmp 16), type := 3, pos := "law.go:33", after := #[], guard := none }) := by kernel_rfl
      obtain rfl := Option.some.inj (hlit.symm.trans hoi)
      have r16 : b.tmps.getD 16 undef = (.int .i64 2) := rd ((hT.old 16 (by kernel_rfl)).trans t16)
      refine op_go hoi (want_all rfl) fun K hK => ?_
      clear hT hpre hlit hoi hdn
      go_simp
      exact hK _ _ ⟨(), fun _ _ => rfl, rfl, ac0, ac1, bc0, bc1, cc0, cc1, ddc0, ddc1, pc0, pc1, pc2, pc3, pc6, pc7, pf0, pf1, pf2, pf3, pf6, pf7, HB, szw, zg0, zh0, og, ng, oh, nh⟩
    · have hlit : (regOps Try.f14 10)[3]? = some ({ dst := some 94, op := Op.indexAddr 60 (Operand.tmp 15) (Operand.tmp 93), type := 0, pos := "law.go:33", after := #[{ on := 2, ground := Ground.data }], guard := none }) := by kernel_rfl
      obtain rfl := Option.some.inj (hlit.symm.trans hoi)
      have r15 : b.tmps.getD 15 undef = (.pointer (some ⟨kp, 0, none⟩)) := rd ((hT.old 15 (by kernel_rfl)).trans t15)
      have r93 : b.tmps.getD 93 undef = (.int .i64 2) := rd (hT.at 2 (by kernel_rfl) (pre_of hpre 2 (by kernel_rfl)))
      refine op_go hoi (want_all rfl) fun K hK => ?_
      clear hT hpre hlit hoi hdn
      go_simp
      exact hK _ _ ⟨(), fun _ _ => rfl, rfl, ac0, ac1, bc0, bc1, cc0, cc1, ddc0, ddc1, pc0, pc1, pc2, pc3, pc6, pc7, pf0, pf1, pf2, pf3, pf6, pf7, HB, szw, zg0, zh0, og, ng, oh, nh⟩
    · have hlit : (regOps Try.f14 10)[4]? = some ({ dst := some 95, op := Op.fieldAddr 23 (Operand.tmp 94) 0, type := 0, pos := "law.go:33", after := #[{ on := 3, ground := Ground.data }], guard := none }) := by kernel_rfl
      obtain rfl := Option.some.inj (hlit.symm.trans hoi)
      have r94 : b.tmps.getD 94 undef = (.pointer (some ⟨kp, 4, none⟩)) := rd (hT.at 3 (by kernel_rfl) (pre_of hpre 3 (by kernel_rfl)))
      refine op_go hoi (want_all rfl) fun K hK => ?_
      clear hT hpre hlit hoi hdn
      go_simp
      exact hK _ _ ⟨(), fun _ _ => rfl, rfl, ac0, ac1, bc0, bc1, cc0, cc1, ddc0, ddc1, pc0, pc1, pc2, pc3, pc6, pc7, pf0, pf1, pf2, pf3, pf6, pf7, HB, szw, zg0, zh0, og, ng, oh, nh⟩
    · have hlit : (regOps Try.f14 10)[5]? = some ({ dst := some 96, op := Op.load 3 (Operand.tmp 95), type := 3, pos := "law.go:33", after := #[{ on := 4, ground := Ground.data }], guard := none }) := by kernel_rfl
      obtain rfl := Option.some.inj (hlit.symm.trans hoi)
      have r95 : b.tmps.getD 95 undef = (.pointer (some ⟨kp, 4, none⟩)) := rd (hT.at 4 (by kernel_rfl) (pre_of hpre 4 (by kernel_rfl)))
      have nl : L 16 = false := Down.not (fun h => (hdn.step (k := 7) (j := 5) (by kernel_rfl) (hdn.step (k := 16) (j := 7) (by kernel_rfl) h))) hun
      obtain cg0 := og nl
      refine op_go hoi (want_all rfl) fun K hK => ?_
      clear hT hpre hlit hoi hdn
      go_simp
      exact hK _ _ ⟨(), fun _ _ => rfl, rfl, ac0, ac1, bc0, bc1, cc0, cc1, ddc0, ddc1, pc0, pc1, pc2, pc3, pc6, pc7, pf0, pf1, pf2, pf3, pf6, pf7, HB, szw, zg0, zh0, og, ng, oh, nh⟩
    · have hlit : (regOps Try.f14 10)[6]? = some ({ dst := some 97, op := Op.move (Operand.tmp 4), type := 3, pos := "law.go:33", after := #[], guard := none }) := by kernel_rfl
      obtain rfl := Option.some.inj (hlit.symm.trans hoi)
      have r4 : b.tmps.getD 4 undef = (.int .i64 u) := rd ((hT.old 4 (by kernel_rfl)).trans t4)
      refine op_go hoi (want_all rfl) fun K hK => ?_
      clear hT hpre hlit hoi hdn
      go_simp
      exact hK _ _ ⟨(), fun _ _ => rfl, rfl, ac0, ac1, bc0, bc1, cc0, cc1, ddc0, ddc1, pc0, pc1, pc2, pc3, pc6, pc7, pf0, pf1, pf2, pf3, pf6, pf7, HB, szw, zg0, zh0, og, ng, oh, nh⟩
    · have hlit : (regOps Try.f14 10)[7]? = some ({ dst := some 98, op := Op.binOp BinOp.add 3 (Operand.tmp 96) (Operand.tmp 97) 3, type := 3, pos := "law.go:33", after := #[{ on := 5, ground := Ground.data }, { on := 6, ground := Ground.data }], guard := none }) := by kernel_rfl
      obtain rfl := Option.some.inj (hlit.symm.trans hoi)
      have r96 : b.tmps.getD 96 undef = (.int .i64 c0) := rd (hT.at 5 (by kernel_rfl) (pre_of hpre 5 (by kernel_rfl)))
      have r97 : b.tmps.getD 97 undef = (.int .i64 u) := rd (hT.at 6 (by kernel_rfl) (pre_of hpre 6 (by kernel_rfl)))
      refine op_go hoi (want_all rfl) fun K hK => ?_
      clear hT hpre hlit hoi hdn
      go_simp
      exact hK _ _ ⟨(), fun _ _ => rfl, rfl, ac0, ac1, bc0, bc1, cc0, cc1, ddc0, ddc1, pc0, pc1, pc2, pc3, pc6, pc7, pf0, pf1, pf2, pf3, pf6, pf7, HB, szw, zg0, zh0, og, ng, oh, nh⟩
    · have hlit : (regOps Try.f14 10)[8]? = some ({ dst := some 99, op := Op.move (Operand.tmp 16), type := 3, pos := "law.go:33", after := #[], guard := none }) := by kernel_rfl
      obtain rfl := Option.some.inj (hlit.symm.trans hoi)
      have r16 : b.tmps.getD 16 undef = (.int .i64 2) := rd ((hT.old 16 (by kernel_rfl)).trans t16)
      refine op_go hoi (want_all rfl) fun K hK => ?_
      clear hT hpre hlit hoi hdn
      go_simp
      exact hK _ _ ⟨(), fun _ _ => rfl, rfl, ac0, ac1, bc0, bc1, cc0, cc1, ddc0, ddc1, pc0, pc1, pc2, pc3, pc6, pc7, pf0, pf1, pf2, pf3, pf6, pf7, HB, szw, zg0, zh0, og, ng, oh, nh⟩
    · have hlit : (regOps Try.f14 10)[9]? = some ({ dst := some 100, op := Op.indexAddr 60 (Operand.tmp 15) (Operand.tmp 99), type := 0, pos := "law.go:33", after := #[{ on := 8, ground := Ground.data }], guard := none }) := by kernel_rfl
      obtain rfl := Option.some.inj (hlit.symm.trans hoi)
      have r15 : b.tmps.getD 15 undef = (.pointer (some ⟨kp, 0, none⟩)) := rd ((hT.old 15 (by kernel_rfl)).trans t15)
      have r99 : b.tmps.getD 99 undef = (.int .i64 2) := rd (hT.at 8 (by kernel_rfl) (pre_of hpre 8 (by kernel_rfl)))
      refine op_go hoi (want_all rfl) fun K hK => ?_
      clear hT hpre hlit hoi hdn
      go_simp
      exact hK _ _ ⟨(), fun _ _ => rfl, rfl, ac0, ac1, bc0, bc1, cc0, cc1, ddc0, ddc1, pc0, pc1, pc2, pc3, pc6, pc7, pf0, pf1, pf2, pf3, pf6, pf7, HB, szw, zg0, zh0, og, ng, oh, nh⟩
    · have hlit : (regOps Try.f14 10)[10]? = some ({ dst := some 101, op := Op.fieldAddr 23 (Operand.tmp 100) 1, type := 0, pos := "law.go:33", after := #[{ on := 9, ground := Ground.data }], guard := none }) := by kernel_rfl
      obtain rfl := Option.some.inj (hlit.symm.trans hoi)
      have r100 : b.tmps.getD 100 undef = (.pointer (some ⟨kp, 4, none⟩)) := rd (hT.at 9 (by kernel_rfl) (pre_of hpre 9 (by kernel_rfl)))
      refine op_go hoi (want_all rfl) fun K hK => ?_
      clear hT hpre hlit hoi hdn
      go_simp
      exact hK _ _ ⟨(), fun _ _ => rfl, rfl, ac0, ac1, bc0, bc1, cc0, cc1, ddc0, ddc1, pc0, pc1, pc2, pc3, pc6, pc7, pf0, pf1, pf2, pf3, pf6, pf7, HB, szw, zg0, zh0, og, ng, oh, nh⟩
    · have hlit : (regOps Try.f14 10)[11]? = some ({ dst := some 102, op := Op.load 3 (Operand.tmp 101), type := 3, pos := "law.go:33", after := #[{ on := 10, ground := Ground.data }], guard := none }) := by kernel_rfl
      obtain rfl := Option.some.inj (hlit.symm.trans hoi)
      have r101 : b.tmps.getD 101 undef = (.pointer (some ⟨kp, 5, none⟩)) := rd (hT.at 10 (by kernel_rfl) (pre_of hpre 10 (by kernel_rfl)))
      have nl : L 19 = false := Down.not (fun h => (hdn.step (k := 13) (j := 11) (by kernel_rfl) (hdn.step (k := 19) (j := 13) (by kernel_rfl) h))) hun
      obtain ch0 := oh nl
      refine op_go hoi (want_all rfl) fun K hK => ?_
      clear hT hpre hlit hoi hdn
      go_simp
      exact hK _ _ ⟨(), fun _ _ => rfl, rfl, ac0, ac1, bc0, bc1, cc0, cc1, ddc0, ddc1, pc0, pc1, pc2, pc3, pc6, pc7, pf0, pf1, pf2, pf3, pf6, pf7, HB, szw, zg0, zh0, og, ng, oh, nh⟩
    · have hlit : (regOps Try.f14 10)[12]? = some ({ dst := some 103, op := Op.move (Operand.tmp 5), type := 3, pos := "law.go:33", after := #[], guard := none }) := by kernel_rfl
      obtain rfl := Option.some.inj (hlit.symm.trans hoi)
      have r5 : b.tmps.getD 5 undef = (.int .i64 v) := rd ((hT.old 5 (by kernel_rfl)).trans t5)
      refine op_go hoi (want_all rfl) fun K hK => ?_
      clear hT hpre hlit hoi hdn
      go_simp
      exact hK _ _ ⟨(), fun _ _ => rfl, rfl, ac0, ac1, bc0, bc1, cc0, cc1, ddc0, ddc1, pc0, pc1, pc2, pc3, pc6, pc7, pf0, pf1, pf2, pf3, pf6, pf7, HB, szw, zg0, zh0, og, ng, oh, nh⟩
    · have hlit : (regOps Try.f14 10)[13]? = some ({ dst := some 104, op := Op.binOp BinOp.add 3 (Operand.tmp 102) (Operand.tmp 103) 3, type := 3, pos := "law.go:33", after := #[{ on := 11, ground := Ground.data }, { on := 12, ground := Ground.data }], guard := none }) := by kernel_rfl
      obtain rfl := Option.some.inj (hlit.symm.trans hoi)
      have r102 : b.tmps.getD 102 undef = (.int .i64 c1) := rd (hT.at 11 (by kernel_rfl) (pre_of hpre 11 (by kernel_rfl)))
      have r103 : b.tmps.getD 103 undef = (.int .i64 v) := rd (hT.at 12 (by kernel_rfl) (pre_of hpre 12 (by kernel_rfl)))
      refine op_go hoi (want_all rfl) fun K hK => ?_
      clear hT hpre hlit hoi hdn
      go_simp
      exact hK _ _ ⟨(), fun _ _ => rfl, rfl, ac0, ac1, bc0, bc1, cc0, cc1, ddc0, ddc1, pc0, pc1, pc2, pc3, pc6, pc7, pf0, pf1, pf2, pf3, pf6, pf7, HB, szw, zg0, zh0, og, ng, oh, nh⟩
    · have hlit : (regOps Try.f14 10)[14]? = some ({ dst := some 105, op := Op.indexAddr 60 (Operand.tmp 15) (Operand.tmp 91), type := 0, pos := "law.go:33", after := #[{ on := 0, ground := Ground.data }, { on := 0, ground := Ground.phase }, { on := 1, ground := Ground.textOnly Departure.lateStores }, { on := 2, ground := Ground.phase }, { on := 3, ground := Ground.phase }, { on := 4, ground := Ground.phase }, { on := 5, ground := Ground.phase }, { on := 6, ground := Ground.phase }, { on := 7, ground := Ground.phase }, { on := 8, ground := Ground.textOnly Departure.lateStores }, { on := 9, ground := Ground.phase }, { on := 10, ground := Ground.phase }, { on := 11, ground := Ground.phase }, { on := 12, ground := Ground.textOnly Departure.lateStores }, { on := 13, ground := Ground.textOnly Departure.lateStoresUnsure }], guard := none }) := by kernel_rfl
      obtain rfl := Option.some.inj (hlit.symm.trans hoi)
      have r15 : b.tmps.getD 15 undef = (.pointer (some ⟨kp, 0, none⟩)) := rd ((hT.old 15 (by kernel_rfl)).trans t15)
      have r91 : b.tmps.getD 91 undef = (.int .i64 2) := rd (hT.at 0 (by kernel_rfl) (pre_of hpre 0 (by kernel_rfl)))
      refine op_go hoi (want_all rfl) fun K hK => ?_
      clear hT hpre hlit hoi hdn
      go_simp
      exact hK _ _ ⟨(), fun _ _ => rfl, rfl, ac0, ac1, bc0, bc1, cc0, cc1, ddc0, ddc1, pc0, pc1, pc2, pc3, pc6, pc7, pf0, pf1, pf2, pf3, pf6, pf7, HB, szw, zg0, zh0, og, ng, oh, nh⟩
    · have hlit : (regOps Try.f14 10)[15]? = some ({ dst := some 106, op := Op.fieldAddr 23 (Operand.tmp 105) 0, type := 0, pos := "law.go:33", after := #[{ on := 14, ground := Ground.data }, { on := 0, ground := Ground.phase }, { on := 1, ground := Ground.textOnly Departure.lateStores }, { on := 2, ground := Ground.phase }, { on := 3, ground := Ground.phase }, { on := 4, ground := Ground.phase }, { on := 5, ground := Ground.phase }, { on := 6, ground := Ground.phase }, { on := 7, ground := Ground.phase }, { on := 8, ground := Ground.textOnly Departure.lateStores }, { on := 9, ground := Ground.phase }, { on := 10, ground := Ground.phase }, { on := 11, ground := Ground.phase }, { on := 12, ground := Ground.textOnly Departure.lateStores }, { on := 13, ground := Ground.textOnly Departure.lateStoresUnsure }], guard := none }) := by kernel_rfl
      obtain rfl := Option.some.inj (hlit.symm.trans hoi)
      have r105 : b.tmps.getD 105 undef = (.pointer (some ⟨kp, 4, none⟩)) := rd (hT.at 14 (by kernel_rfl) (pre_of hpre 14 (by kernel_rfl)))
      refine op_go hoi (want_all rfl) fun K hK => ?_
      clear hT hpre hlit hoi hdn
      go_simp
      exact hK _ _ ⟨(), fun _ _ => rfl, rfl, ac0, ac1, bc0, bc1, cc0, cc1, ddc0, ddc1, pc0, pc1, pc2, pc3, pc6, pc7, pf0, pf1, pf2, pf3, pf6, pf7, HB, szw, zg0, zh0, og, ng, oh, nh⟩
    · have hlit : (regOps Try.f14 10)[16]? = some ({ dst := none, op := Op.store 3 (Operand.tmp 106) (Operand.tmp 98), type := 0, pos := "law.go:33", after := #[{ on := 15, ground := Ground.data }, { on := 7, ground := Ground.data }, { on := 0, ground := Ground.phase }, { on := 1, ground := Ground.textOnly Departure.lateStores }, { on := 2, ground := Ground.phase }, { on := 3, ground := Ground.phase }, { on := 4, ground := Ground.phase }, { on := 5, ground := Ground.phase }, { on := 6, ground := Ground.phase }, { on := 7, ground := Ground.phase }, { on := 8, ground := Ground.textOnly Departure.lateStores }, { on := 9, ground := Ground.phase }, { on := 10, ground := Ground.phase }, { on := 11, ground := Ground.phase }, { on := 12, ground := Ground.textOnly Departure.lateStores }, { on := 13, ground := Ground.textOnly Departure.lateStoresUnsure }], guard := none }) := by kernel_rfl
      obtain rfl := Option.some.inj (hlit.symm.trans hoi)
      have r106 : b.tmps.getD 106 undef = (.pointer (some ⟨kp, 4, none⟩)) := rd (hT.at 15 (by kernel_rfl) (pre_of hpre 15 (by kernel_rfl)))
      have r98 : b.tmps.getD 98 undef = (.int .i64 r0) := rd (hT.at 7 (by kernel_rfl) (pre_of hpre 7 (by kernel_rfl)))
      obtain cg0 := og hun
      refine op_go hoi (want_all rfl) fun K hK => ?_
      clear hT hpre hlit hoi hdn
      go_simp
      exact hK _ _ ⟨(), fun _ _ => rfl, rfl, so (ac0) nekakp, so (ac1) nekakp, so (bc0) nekbkp, so (bc1) nekbkp, so (cc0) nekckp, so (cc1) nekckp, so (ddc0) nekdkp, so (ddc1) nekdkp, sb (pc0) (by decide), sb (pc1) (by decide), sb (pc2) (by decide), sb (pc3) (by decide), sb (pc6) (by decide), sb (pc7) (by decide), sf (pf0), sf (pf1), sf (pf2), sf (pf3), sf (pf6), sf (pf7), bs (HB) geg _, sz (szw), sf (zg0), sf (zh0), fun h => (by cases h), fun _ => ss (cg0), fun h => (by obtain x0 := oh h; exact sb (x0) (by decide)), fun h => (by obtain x0 := nh h; exact sb (x0) (by decide))⟩
    · have hlit : (regOps Try.f14 10)[17]? = some ({ dst := some 107, op := Op.indexAddr 60 (Operand.tmp 15) (Operand.tmp 92), type := 0, pos := "law.go:33", after := #[{ on := 1, ground := Ground.data }, { on := 0, ground := Ground.phase }, { on := 1, ground := Ground.phase }, { on := 2, ground := Ground.phase }, { on := 3, ground := Ground.phase }, { on := 4, ground := Ground.phase }, { on := 5, ground := Ground.phase }, { on := 6, ground := Ground.phase }, { on := 7, ground := Ground.phase }, { on := 8, ground := Ground.phase }, { on := 9, ground := Ground.phase }, { on := 10, ground := Ground.phase }, { on := 11, ground := Ground.phase }, { on := 12, ground := Ground.phase }, { on := 13, ground := Ground.phase }, { on := 14, ground := Ground.phase }, { on := 15, ground := Ground.phase }, { on := 16, ground := Ground.phase }], guard := none }) := by kernel_rfl
      obtain rfl := Option.some.inj (hlit.symm.trans hoi)
      have r15 : b.tmps.getD 15 undef = (.pointer (some ⟨kp, 0, none⟩)) := rd ((hT.old 15 (by kernel_rfl)).trans t15)
      have r92 : b.tmps.getD 92 undef = (.int .i64 2) := rd (hT.at 1 (by kernel_rfl) (pre_of hpre 1 (by kernel_rfl)))
      refine op_go hoi (want_all rfl) fun K hK => ?_
      clear hT hpre hlit hoi hdn
      go_simp
      exact hK _ _ ⟨(), fun _ _ => rfl, rfl, ac0, ac1, bc0, bc1, cc0, cc1, ddc0, ddc1, pc0, pc1, pc2, pc3, pc6, pc7, pf0, pf1, pf2, pf3, pf6, pf7, HB, szw, zg0, zh0, og, ng, oh, nh⟩
    · have hlit : (regOps Try.f14 10)[18]? = some ({ dst := some 108, op := Op.fieldAddr 23 (Operand.tmp 107) 1, type := 0, pos := "law.go:33", after := #[{ on := 17, ground := Ground.data }, { on := 0, ground := Ground.phase }, { on := 1, ground := Ground.phase }, { on := 2, ground := Ground.phase }, { on := 3, ground := Ground.phase }, { on := 4, ground := Ground.phase }, { on := 5, ground := Ground.phase }, { on := 6, ground := Ground.phase }, { on := 7, ground := Ground.phase }, { on := 8, ground := Ground.phase }, { on := 9, ground := Ground.phase }, { on := 10, ground := Ground.phase }, { on := 11, ground := Ground.phase }, { on := 12, ground := Ground.phase }, { on := 13, ground := Ground.phase }, { on := 14, ground := Ground.phase }, { on := 15, ground := Ground.phase }, { on := 16, ground := Ground.phase }], guard := none }) := by kernel_rfl
      obtain rfl := Option.some.inj (hlit.symm.trans hoi)
      have r107 : b.tmps.getD 107 undef = (.pointer (some ⟨kp, 4, none⟩)) := rd (hT.at 17 (by kernel_rfl) (pre_of hpre 17 (by kernel_rfl)))
      refine op_go hoi (want_all rfl) fun K hK => ?_
      clear hT hpre hlit hoi hdn
      go_simp
      exact hK _ _ ⟨(), fun _ _ => rfl, rfl, ac0, ac1, bc0, bc1, cc0, cc1, ddc0, ddc1, pc0, pc1, pc2, pc3, pc6, pc7, pf0, pf1, pf2, pf3, pf6, pf7, HB, szw, zg0, zh0, og, ng, oh, nh⟩
    · have hlit : (regOps Try.f14 10)[19]? = some ({ dst := none, op := Op.store 3 (Operand.tmp 108) (Operand.tmp 104), type := 0, pos := "law.go:33", after := #[{ on := 18, ground := Ground.data }, { on := 13, ground := Ground.data }, { on := 16, ground := Ground.chain }, { on := 0, ground := Ground.phase }, { on := 1, ground := Ground.phase }, { on := 2, ground := Ground.phase }, { on := 3, ground := Ground.phase }, { on := 4, ground := Ground.phase }, { on := 5, ground := Ground.phase }, { on := 6, ground := Ground.phase }, { on := 7, ground := Ground.phase }, { on := 8, ground := Ground.phase }, { on := 9, ground := Ground.phase }, { on := 10, ground := Ground.phase }, { on := 11, ground := Ground.phase }, { on := 12, ground := Ground.phase }, { on := 13, ground := Ground.phase }, { on := 14, ground := Ground.phase }, { on := 15, ground := Ground.phase }, { on := 16, ground := Ground.phase }], guard := none }) := by kernel_rfl
      obtain rfl := Option.some.inj (hlit.symm.trans hoi)
      have r108 : b.tmps.getD 108 undef = (.pointer (some ⟨kp, 5, none⟩)) := rd (hT.at 18 (by kernel_rfl) (pre_of hpre 18 (by kernel_rfl)))
      have r104 : b.tmps.getD 104 undef = (.int .i64 r1) := rd (hT.at 13 (by kernel_rfl) (pre_of hpre 13 (by kernel_rfl)))
      obtain ch0 := oh hun
      refine op_go hoi (want_all rfl) fun K hK => ?_
      clear hT hpre hlit hoi hdn
      go_simp
      exact hK _ _ ⟨(), fun _ _ => rfl, rfl, so (ac0) nekakp, so (ac1) nekakp, so (bc0) nekbkp, so (bc1) nekbkp, so (cc0) nekckp, so (cc1) nekckp, so (ddc0) nekdkp, so (ddc1) nekdkp, sb (pc0) (by decide), sb (pc1) (by decide), sb (pc2) (by decide), sb (pc3) (by decide), sb (pc6) (by decide), sb (pc7) (by decide), sf (pf0), sf (pf1), sf (pf2), sf (pf3), sf (pf6), sf (pf7), bs (HB) geh _, sz (szw), sf (zg0), sf (zh0), fun h => (by obtain x0 := og h; exact sb (x0) (by decide)), fun h => (by obtain x0 := ng h; exact sb (x0) (by decide)), fun h => (by cases h), fun _ => ss (ch0)⟩
  · intro g b w' hT hS
    rw [hT.all ht]
    have hn : (regOps Try.f14 10).size = 20 := by kernel_rfl
    rw [hn] at hS ⊢
    obtain ⟨ac0, ac1, bc0, bc1, cc0, cc1, ddc0, ddc1, pc0, pc1, pc2, pc3, pc6, pc7, pf0, pf1, pf2, pf3, pf6, pf7, HB, szw, zg0, zh0, og, ng, oh, nh⟩ := hS
    obtain cg0 := ng rfl
    obtain ch0 := nh rfl
    exact he w' ⟨ac0, ac1, bc0, bc1, cc0, cc1, ddc0, ddc1, pc0, pc1, pc2, pc3, pc6, pc7, pf0, pf1, pf2, pf3, pf6, pf7, HB⟩ ⟨zg0, zh0, cg0, ch0⟩

/-- What each operation of the region leaves. -/
def region14_s3V (d0 d1 s0 s1 u v : Int) (kp : Nat) : Nat → Value
  | 0 => .int .i64 3
  | 1 => .int .i64 3
  | 2 => .int .i64 3
  | 3 => .pointer (some ⟨kp, 6, none⟩)
  | 4 => .pointer (some ⟨kp, 6, none⟩)
  | 5 => .int .i64 d0
  | 6 => .int .i64 u
  | 7 => .int .i64 s0
  | 8 => .int .i64 3
  | 9 => .pointer (some ⟨kp, 6, none⟩)
  | 10 => .pointer (some ⟨kp, 7, none⟩)
  | 11 => .int .i64 d1
  | 12 => .int .i64 v
  | 13 => .int .i64 s1
  | 14 => .pointer (some ⟨kp, 6, none⟩)
  | 15 => .pointer (some ⟨kp, 6, none⟩)
  | 16 => undef
  | 17 => .pointer (some ⟨kp, 6, none⟩)
  | 18 => .pointer (some ⟨kp, 7, none⟩)
  | 19 => undef
  | _ => undef

set_option maxHeartbeats 4000000 in
set_option maxRecDepth 100000 in
theorem region14_s3 (a0 a1 b0 b1 c0 c1 d0 d1 p0 p1 q0 q1 r0 r1 s0 s1 u v : Int) (ka kb kc kd kp : Nat) (W : World) (eq1 : IntKind.i64.wrap (d0 + u) = s0) (eq2 : IntKind.i64.wrap (d1 + v) = s1) (nekakp : ¬ ka = kp) (nekbkp : ¬ kb = kp) (nekckp : ¬ kc = kp) (nekdkp : ¬ kd = kp) {id : Nat} {ops : Array Oper} {Q : Exit → Act → World → Prop} {a : Act} {w : World}
    (ho : ops = (regOps Try.f14 10)) (hsz : a.tmps.size = 157) (t15 : a.tmps[15]? = some (.pointer (some ⟨kp, 0, none⟩))) (t16 : a.tmps[16]? = some (.int .i64 3)) (t4 : a.tmps[4]? = some (.int .i64 u)) (t5 : a.tmps[5]? = some (.int .i64 v)) (geg : W.heap.size ≤ kp) (geh : W.heap.size ≤ kp)
    (h0 : w.cell? ⟨ka, 0, none⟩ = some (.int .i64 a0) ∧ w.cell? ⟨ka, 1, none⟩ = some (.int .i64 a1) ∧ w.cell? ⟨kb, 0, none⟩ = some (.int .i64 b0) ∧ w.cell? ⟨kb, 1, none⟩ = some (.int .i64 b1) ∧ w.cell? ⟨kc, 0, none⟩ = some (.int .i64 c0) ∧ w.cell? ⟨kc, 1, none⟩ = some (.int .i64 c1) ∧ w.cell? ⟨kd, 0, none⟩ = some (.int .i64 d0) ∧ w.cell? ⟨kd, 1, none⟩ = some (.int .i64 d1) ∧ w.cell? ⟨kp, 0, none⟩ = some (.int .i64 p0) ∧ w.cell? ⟨kp, 1, none⟩ = some (.int .i64 p1) ∧ w.cell? ⟨kp, 2, none⟩ = some (.int .i64 q0) ∧ w.cell? ⟨kp, 3, none⟩ = some (.int .i64 q1) ∧ w.cell? ⟨kp, 4, none⟩ = some (.int .i64 r0) ∧ w.cell? ⟨kp, 5, none⟩ = some (.int .i64 r1) ∧ w.frozen? ⟨kp, 0, none⟩ = false ∧ w.frozen? ⟨kp, 1, none⟩ = false ∧ w.frozen? ⟨kp, 2, none⟩ = false ∧ w.frozen? ⟨kp, 3, none⟩ = false ∧ w.frozen? ⟨kp, 4, none⟩ = false ∧ w.frozen? ⟨kp, 5, none⟩ = false ∧ Below W.heap.size W w) (hs0 : w.frozen? ⟨kp, 6, none⟩ = false ∧ w.frozen? ⟨kp, 7, none⟩ = false ∧ w.cell? ⟨kp, 6, none⟩ = some (.int .i64 d0) ∧ w.cell? ⟨kp, 7, none⟩ = some (.int .i64 d1))
    (he : ∀ w', w'.cell? ⟨ka, 0, none⟩ = some (.int .i64 a0) ∧ w'.cell? ⟨ka, 1, none⟩ = some (.int .i64 a1) ∧ w'.cell? ⟨kb, 0, none⟩ = some (.int .i64 b0) ∧ w'.cell? ⟨kb, 1, none⟩ = some (.int .i64 b1) ∧ w'.cell? ⟨kc, 0, none⟩ = some (.int .i64 c0) ∧ w'.cell? ⟨kc, 1, none⟩ = some (.int .i64 c1) ∧ w'.cell? ⟨kd, 0, none⟩ = some (.int .i64 d0) ∧ w'.cell? ⟨kd, 1, none⟩ = some (.int .i64 d1) ∧ w'.cell? ⟨kp, 0, none⟩ = some (.int .i64 p0) ∧ w'.cell? ⟨kp, 1, none⟩ = some (.int .i64 p1) ∧ w'.cell? ⟨kp, 2, none⟩ = some (.int .i64 q0) ∧ w'.cell? ⟨kp, 3, none⟩ = some (.int .i64 q1) ∧ w'.cell? ⟨kp, 4, none⟩ = some (.int .i64 r0) ∧ w'.cell? ⟨kp, 5, none⟩ = some (.int .i64 r1) ∧ w'.frozen? ⟨kp, 0, none⟩ = false ∧ w'.frozen? ⟨kp, 1, none⟩ = false ∧ w'.frozen? ⟨kp, 2, none⟩ = false ∧ w'.frozen? ⟨kp, 3, none⟩ = false ∧ w'.frozen? ⟨kp, 4, none⟩ = false ∧ w'.frozen? ⟨kp, 5, none⟩ = false ∧ Below W.heap.size W w' → w'.frozen? ⟨kp, 6, none⟩ = false ∧ w'.frozen? ⟨kp, 7, none⟩ = false ∧ w'.cell? ⟨kp, 6, none⟩ = some (.int .i64 s0) ∧ w'.cell? ⟨kp, 7, none⟩ = some (.int .i64 s1) → Q .normal ⟨((((((((((((((((((a.tmps.setIfInBounds 91 (.int .i64 3)).setIfInBounds 92 (.int .i64 3)).setIfInBounds 93 (.int .i64 3)).setIfInBounds 94 (.pointer (some ⟨kp, 6, none⟩))).setIfInBounds 95 (.pointer (some ⟨kp, 6, none⟩))).setIfInBounds 96 (.int .i64 d0)).setIfInBounds 97 (.int .i64 u)).setIfInBounds 98 (.int .i64 s0)).setIfInBounds 99 (.int .i64 3)).setIfInBounds 100 (.pointer (some ⟨kp, 6, none⟩))).setIfInBounds 101 (.pointer (some ⟨kp, 7, none⟩))).setIfInBounds 102 (.int .i64 d1)).setIfInBounds 103 (.int .i64 v)).setIfInBounds 104 (.int .i64 s1)).setIfInBounds 105 (.pointer (some ⟨kp, 6, none⟩))).setIfInBounds 106 (.pointer (some ⟨kp, 6, none⟩))).setIfInBounds 107 (.pointer (some ⟨kp, 6, none⟩))).setIfInBounds 108 (.pointer (some ⟨kp, 7, none⟩))), a.defers⟩ w') :
    (Code.region id ops true).wp Try.prog Q a w := by
  have ht : tidy (regOps Try.f14 10) a.tmps.size = true := by rw [hsz]; kernel_rfl
  obtain ⟨ac0, ac1, bc0, bc1, cc0, cc1, ddc0, ddc1, pc0, pc1, pc2, pc3, pc4, pc5, pf0, pf1, pf2, pf3, pf4, pf5, HB0⟩ := h0
  obtain ⟨zg0, zh0, cg0, ch0⟩ := hs0
  have ltg := World.block_lt_of_cell? w _ cg0
  have lth := World.block_lt_of_cell? w _ ch0
  refine region_tab2 (G := Unit) (fun _ => (region14_s3V d0 d1 s0 s1 u v kp)) (fun _ L w' => w'.cell? ⟨ka, 0, none⟩ = some (.int .i64 a0) ∧ w'.cell? ⟨ka, 1, none⟩ = some (.int .i64 a1) ∧ w'.cell? ⟨kb, 0, none⟩ = some (.int .i64 b0) ∧ w'.cell? ⟨kb, 1, none⟩ = some (.int .i64 b1) ∧ w'.cell? ⟨kc, 0, none⟩ = some (.int .i64 c0) ∧ w'.cell? ⟨kc, 1, none⟩ = some (.int .i64 c1) ∧ w'.cell? ⟨kd, 0, none⟩ = some (.int .i64 d0) ∧ w'.cell? ⟨kd, 1, none⟩ = some (.int .i64 d1) ∧ w'.cell? ⟨kp, 0, none⟩ = some (.int .i64 p0) ∧ w'.cell? ⟨kp, 1, none⟩ = some (.int .i64 p1) ∧ w'.cell? ⟨kp, 2, none⟩ = some (.int .i64 q0) ∧ w'.cell? ⟨kp, 3, none⟩ = some (.int .i64 q1) ∧ w'.cell? ⟨kp, 4, none⟩ = some (.int .i64 r0) ∧ w'.cell? ⟨kp, 5, none⟩ = some (.int .i64 r1) ∧ w'.frozen? ⟨kp, 0, none⟩ = false ∧ w'.frozen? ⟨kp, 1, none⟩ = false ∧ w'.frozen? ⟨kp, 2, none⟩ = false ∧ w'.frozen? ⟨kp, 3, none⟩ = false ∧ w'.frozen? ⟨kp, 4, none⟩ = false ∧ w'.frozen? ⟨kp, 5, none⟩ = false ∧ Below W.heap.size W w' ∧ w.heap.size ≤ w'.heap.size ∧ w'.frozen? ⟨kp, 6, none⟩ = false ∧ w'.frozen? ⟨kp, 7, none⟩ = false ∧ (L 16 = false → w'.cell? ⟨kp, 6, none⟩ = some (.int .i64 d0)) ∧ (L 16 = true → w'.cell? ⟨kp, 6, none⟩ = some (.int .i64 s0)) ∧ (L 19 = false → w'.cell? ⟨kp, 7, none⟩ = some (.int .i64 d1)) ∧ (L 19 = true → w'.cell? ⟨kp, 7, none⟩ = some (.int .i64 s1))) () (by kernel_rfl) ho ht ⟨ac0, ac1, bc0, bc1, cc0, cc1, ddc0, ddc1, pc0, pc1, pc2, pc3, pc4, pc5, pf0, pf1, pf2, pf3, pf4, pf5, bd HB0, Nat.le_refl _, zg0, zh0, fun _ => cg0, fun h => (by cases h), fun _ => ch0, fun h => (by cases h)⟩ ?_ ?_
  · intro i o hoi g L b w' hun hdn hpre hT hS
    clear he ac0 ac1 bc0 bc1 cc0 cc1 ddc0 ddc1 pc0 pc1 pc2 pc3 pc4 pc5 pf0 pf1 pf2 pf3 pf4 pf5 cg0 ch0 zg0 zh0 ho hsz ht HB0
    have hi : i < (regOps Try.f14 10).size := (Array.getElem?_eq_some_iff.1 hoi).1
    rw [show (regOps Try.f14 10).size = 20 by kernel_rfl] at hi
    obtain ⟨ac0, ac1, bc0, bc1, cc0, cc1, ddc0, ddc1, pc0, pc1, pc2, pc3, pc4, pc5, pf0, pf1, pf2, pf3, pf4, pf5, HB, szw, zg0, zh0, og, ng, oh, nh⟩ := hS
    have hcases : i = 0 ∨ i = 1 ∨ i = 2 ∨ i = 3 ∨ i = 4 ∨ i = 5 ∨ i = 6 ∨ i = 7 ∨ i = 8 ∨ i = 9 ∨ i = 10 ∨ i = 11 ∨ i = 12 ∨ i = 13 ∨ i = 14 ∨ i = 15 ∨ i = 16 ∨ i = 17 ∨ i = 18 ∨ i = 19 := by omega
    rcases hcases with rfl | rfl | rfl | rfl | rfl | rfl | rfl | rfl | rfl | rfl | rfl | rfl | rfl | rfl | rfl | rfl | rfl | rfl | rfl | rfl
    · have hlit : (regOps Try.f14 10)[0]? = some ({ dst := some 91, op := Op.move (Operand.tmp 16), type := 3, pos := "law.go:33", after := #[], guard := none }) := by kernel_rfl
      obtain rfl := Option.some.inj (hlit.symm.trans hoi)
      have r16 : b.tmps.getD 16 undef = (.int .i64 3) := rd ((hT.old 16 (by kernel_rfl)).trans t16)
      refine op_go hoi (want_all rfl) fun K hK => ?_
      clear hT hpre hlit hoi hdn
      go_simp
      exact hK _ _ ⟨(), fun _ _ => rfl, rfl, ac0, ac1, bc0, bc1, cc0, cc1, ddc0, ddc1, pc0, pc1, pc2, pc3, pc4, pc5, pf0, pf1, pf2, pf3, pf4, pf5, HB, szw, zg0, zh0, og, ng, oh, nh⟩
    · have hlit : (regOps Try.f14 10)[1]? = some ({ dst := some 92, op := Op.move (Operand.tmp 16), type := 3, pos := "law.go:33", after := #[{ on := 16, ground := Ground.gcOnly Departure.lateStores }], guard := none }) := by kernel_rfl
      obtain rfl := Option.some.inj (hlit.symm.trans hoi)
      have r16 : b.tmps.getD 16 undef = (.int .i64 3) := rd ((hT.old 16 (by kernel_rfl)).trans t16)
      refine op_go hoi (want_all rfl) fun K hK => ?_
      clear hT hpre hlit hoi hdn
      go_simp
      exact hK _ _ ⟨(), fun _ _ => rfl, rfl, ac0, ac1, bc0, bc1, cc0, cc1, ddc0, ddc1, pc0, pc1, pc2, pc3, pc4, pc5, pf0, pf1, pf2, pf3, pf4, pf5, HB, szw, zg0, zh0, og, ng, oh, nh⟩
    · have hlit : (regOps Try.f14 10)[2]? = some ({ dst := some 93, op := Op.move (Operand.tmp 16), type := 3, pos := "law.go:33", after := #[], guard := none }) := by kernel_rfl
      obtain rfl := Option.some.inj (hlit.symm.trans hoi)
      have r16 : b.tmps.getD 16 undef = (.int .i64 3) := rd ((hT.old 16 (by kernel_rfl)).trans t16)
      refine op_go hoi (want_all rfl) fun K hK => ?_
      clear hT hpre hlit hoi hdn
      go_simp
      exact hK _ _ ⟨(), fun _ _ => rfl, rfl, ac0, ac1, bc0, bc1, cc0, cc1, ddc0, ddc1, pc0, pc1, pc2, pc3, pc4, pc5, pf0, pf1, pf2, pf3, pf4, pf5, HB, szw, zg0, zh0, og, ng, oh, nh⟩
    · have hlit : (regOps Try.f14 10)[3]? = some ({ dst := some 94, op := Op.indexAddr 60 (Operand.tmp 15) (Operand.tmp 93), type := 0, pos := "law.go:33", after := #[{ on := 2, ground := Ground.data }], guard := none }) := by kernel_rfl
      obtain rfl := Option.some.inj (hlit.symm.trans hoi)
      have r15 : b.tmps.getD 15 undef = (.pointer (some ⟨kp, 0, none⟩)) := rd ((hT.old 15 (by kernel_rfl)).trans t15)
      have r93 : b.tmps.getD 93 undef = (.int .i64 3) := rd (hT.at 2 (by kernel_rfl) (pre_of hpre 2 (by kernel_rfl)))
      refine op_go hoi (want_all rfl) fun K hK => ?_
      clear hT hpre hlit hoi hdn
      go_simp
      exact hK _ _ ⟨(), fun _ _ => rfl, rfl, ac0, ac1, bc0, bc1, cc0, cc1, ddc0, ddc1, pc0, pc1, pc2, pc3, pc4, pc5, pf0, pf1, pf2, pf3, pf4, pf5, HB, szw, zg0, zh0, og, ng, oh, nh⟩
    · have hlit : (regOps Try.f14 10)[4]? = some ({ dst := some 95, op := Op.fieldAddr 23 (Operand.tmp 94) 0, type := 0, pos := "law.go:33", after := #[{ on := 3, ground := Ground.data }], guard := none }) := by kernel_rfl
      obtain rfl := Option.some.inj (hlit.symm.trans hoi)
      have r94 : b.tmps.getD 94 undef = (.pointer (some ⟨kp, 6, none⟩)) := rd (hT.at 3 (by kernel_rfl) (pre_of hpre 3 (by kernel_rfl)))
      refine op_go hoi (want_all rfl) fun K hK => ?_
      clear hT hpre hlit hoi hdn
      go_simp
      exact hK _ _ ⟨(), fun _ _ => rfl, rfl, ac0, ac1, bc0, bc1, cc0, cc1, ddc0, ddc1, pc0, pc1, pc2, pc3, pc4, pc5, pf0, pf1, pf2, pf3, pf4, pf5, HB, szw, zg0, zh0, og, ng, oh, nh⟩
    · have hlit : (regOps Try.f14 10)[5]? = some ({ dst := some 96, op := Op.load 3 (Operand.tmp 95), type := 3, pos := "law.go:33", after := #[{ on := 4, ground := Ground.data }], guard := none }) := by kernel_rfl
      obtain rfl := Option.some.inj (hlit.symm.trans hoi)
      have r95 : b.tmps.getD 95 undef = (.pointer (some ⟨kp, 6, none⟩)) := rd (hT.at 4 (by kernel_rfl) (pre_of hpre 4 (by kernel_rfl)))
      have nl : L 16 = false := Down.not (fun h => (hdn.step (k := 7) (j := 5) (by kernel_rfl) (hdn.step (k := 16) (j := 7) (by kernel_rfl) h))) hun
      obtain cg0 := og nl
      refine op_go hoi (want_all rfl) fun K hK => ?_
      clear hT hpre hlit hoi hdn
      go_simp
      exact hK _ _ ⟨(), fun _ _ => rfl, rfl, ac0, ac1, bc0, bc1, cc0, cc1, ddc0, ddc1, pc0, pc1, pc2, pc3, pc4, pc5, pf0, pf1, pf2, pf3, pf4, pf5, HB, szw, zg0, zh0, og, ng, oh, nh⟩
    · have hlit : (regOps Try.f14 10)[6]? = some ({ dst := some 97, op := Op.move (Operand.tmp 4), type := 3, pos := "law.go:33", after := #[], guard := none }) := by kernel_rfl
      obtain rfl := Option.some.inj (hlit.symm.trans hoi)
      have r4 : b.tmps.getD 4 undef = (.int .i64 u) := rd ((hT.old 4 (by kernel_rfl)).trans t4)
      refine op_go hoi (want_all rfl) fun K hK => ?_
      clear hT hpre hlit hoi hdn
      go_simp
      exact hK _ _ ⟨(), fun _ _ => rfl, rfl, ac0, ac1, bc0, bc1, cc0, cc1, ddc0, ddc1, pc0, pc1, pc2, pc3, pc4, pc5, pf0, pf1, pf2, pf3, pf4, pf5, HB, szw, zg0, zh0, og, ng, oh, nh⟩
    · have hlit : (regOps Try.f14 10)[7]? = some ({ dst := some 98, op := Op.binOp BinOp.add 3 (Operand.tmp 96) (Operand.tmp 97) 3, type := 3, pos := "law.go:33", after := #[{ on := 5, ground := Ground.data }, { on := 6, ground := Ground.data }], guard := none }) := by kernel_rfl
      obtain rfl := Option.some.inj (hlit.symm.trans hoi)
      have r96 : b.tmps.getD 96 undef = (.int .i64 d0) := rd (hT.at 5 (by kernel_rfl) (pre_of hpre 5 (by kernel_rfl)))
      have r97 : b.tmps.getD 97 undef = (.int .i64 u) := rd (hT.at 6 (by kernel_rfl) (pre_of hpre 6 (by kernel_rfl)))
      refine op_go hoi (want_all rfl) fun K hK => ?_
      clear hT hpre hlit hoi hdn
      go_simp
      exact hK _ _ ⟨(), fun _ _ => rfl, rfl, ac0, ac1, bc0, bc1, cc0, cc1, ddc0, ddc1, pc0, pc1, pc2, pc3, pc4, pc5, pf0, pf1, pf2, pf3, pf4, pf5, HB, szw, zg0, zh0, og, ng, oh, nh⟩
    · have hlit : (regOps Try.f14 10)[8]? = some ({ dst := some 99, op := Op.move (Operand.tmp 16), type := 3, pos := "law.go:33", after := #[], guard := none }) := by kernel_rfl
      obtain rfl := Option.some.inj (hlit.symm.trans hoi)
      have r16 : b.tmps.getD 16 undef = (.int .i64 3) := rd ((hT.old 16 (by kernel_rfl)).trans t16)
      refine op_go hoi (want_all rfl) fun K hK => ?_
      clear hT hpre hlit hoi hdn
      go_simp
      exact hK _ _ ⟨(), fun _ _ => rfl, rfl, ac0, ac1, bc0, bc1, cc0, cc1, ddc0, ddc1, pc0, pc1, pc2, pc3, pc4, pc5, pf0, pf1, pf2, pf3, pf4, pf5, HB, szw, zg0, zh0, og, ng, oh, nh⟩
    · have hlit : (regOps Try.f14 10)[9]? = some ({ dst := some 100, op := Op.indexAddr 60 (Operand.tmp 15) (Operand.tmp 99), type := 0, pos := "law.go:33", after := #[{ on := 8, ground := Ground.data }], guard := none }) := by kernel_rfl
      obtain rfl := Option.some.inj (hlit.symm.trans hoi)
      have r15 : b.tmps.getD 15 undef = (.pointer (some ⟨kp, 0, none⟩)) := rd ((hT.old 15 (by kernel_rfl)).trans t15)
      have r99 : b.tmps.getD 99 undef = (.int .i64 3) := rd (hT.at 8 (by kernel_rfl) (pre_of hpre 8 (by kernel_rfl)))
      refine op_go hoi (want_all rfl) fun K hK => ?_
      clear hT hpre hlit hoi hdn
      go_simp
      exact hK _ _ ⟨(), fun _ _ => rfl, rfl, ac0, ac1, bc0, bc1, cc0, cc1, ddc0, ddc1, pc0, pc1, pc2, pc3, pc4, pc5, pf0, pf1, pf2, pf3, pf4, pf5, HB, szw, zg0, zh0, og, ng, oh, nh⟩
    · have hlit : (regOps Try.f14 10)[10]? = some ({ dst := some 101, op := Op.fieldAddr 23 (Operand.tmp 100) 1, type := 0, pos := "law.go:33", after := #[{ on := 9, ground := Ground.data }], guard := none }) := by kernel_rfl
      obtain rfl := Option.some.inj (hlit.symm.trans hoi)
      have r100 : b.tmps.getD 100 undef = (.pointer (some ⟨kp, 6, none⟩)) := rd (hT.at 9 (by kernel_rfl) (pre_of hpre 9 (by kernel_rfl)))
      refine op_go hoi (want_all rfl) fun K hK => ?_
      clear hT hpre hlit hoi hdn
      go_simp
      exact hK _ _ ⟨(), fun _ _ => rfl, rfl, ac0, ac1, bc0, bc1, cc0, cc1, ddc0, ddc1, pc0, pc1, pc2, pc3, pc4, pc5, pf0, pf1, pf2, pf3, pf4, pf5, HB, szw, zg0, zh0, og, ng, oh, nh⟩
    · have hlit : (regOps Try.f14 10)[11]? = some ({ dst := some 102, op := Op.load 3 (Operand.tmp 101), type := 3, pos := "law.go:33", after := #[{ on := 10, ground := Ground.data }], guard := none }) := by kernel_rfl
      obtain rfl := Option.some.inj (hlit.symm.trans hoi)
      have r101 : b.tmps.getD 101 undef = (.pointer (some ⟨kp, 7, none⟩)) := rd (hT.at 10 (by kernel_rfl) (pre_of hpre 10 (by kernel_rfl)))
      have nl : L 19 = false := Down.not (fun h => (hdn.step (k := 13) (j := 11) (by kernel_rfl) (hdn.step (k := 19) (j := 13) (by kernel_rfl) h))) hun
      obtain ch0 := oh nl
      refine op_go hoi (want_all rfl) fun K hK => ?_
      clear hT hpre hlit hoi hdn
      go_simp
      exact hK _ _ ⟨(), fun _ _ => rfl, rfl, ac0, ac1, bc0, bc1, cc0, cc1, ddc0, ddc1, pc0, pc1, pc2, pc3, pc4, pc5, pf0, pf1, pf2, pf3, pf4, pf5, HB, szw, zg0, zh0, og, ng, oh, nh⟩
    · have hlit : (regOps Try.f14 10)[12]? = some ({ dst := some 103, op := Op.move (Operand.tmp 5), type := 3, pos := "law.go:33", after := #[], guard := none }) := by kernel_rfl
      obtain rfl := Option.some.inj (hlit.symm.trans hoi)
      have r5 : b.tmps.getD 5 undef = (.int .i64 v) := rd ((hT.old 5 (by kernel_rfl)).trans t5)
      refine op_go hoi (want_all rfl) fun K hK => ?_
      clear hT hpre hlit hoi hdn
      go_simp
      exact hK _ _ ⟨(), fun _ _ => rfl, rfl, ac0, ac1, bc0, bc1, cc0, cc1, ddc0, ddc1, pc0, pc1, pc2, pc3, pc4, pc5, pf0, pf1, pf2, pf3, pf4, pf5, HB, szw, zg0, zh0, og, ng, oh, nh⟩
    · have hlit : (regOps Try.f14 10)[13]? = some ({ dst := some 104, op := Op.binOp BinOp.add 3 (Operand.tmp 102) (Operand.tmp 103) 3, type := 3, pos := "law.go:33", after := #[{ on := 11, ground := Ground.data }, { on := 12, ground := Ground.data }], guard := none }) := by kernel_rfl
      obtain rfl := Option.some.inj (hlit.symm.trans hoi)
      have r102 : b.tmps.getD 102 undef = (.int .i64 d1) := rd (hT.at 11 (by kernel_rfl) (pre_of hpre 11 (by kernel_rfl)))
      have r103 : b.tmps.getD 103 undef = (.int .i64 v) := rd (hT.at 12 (by kernel_rfl) (pre_of hpre 12 (by kernel_rfl)))
      refine op_go hoi (want_all rfl) fun K hK => ?_
      clear hT hpre hlit hoi hdn
      go_simp
      exact hK _ _ ⟨(), fun _ _ => rfl, rfl, ac0, ac1, bc0, bc1, cc0, cc1, ddc0, ddc1, pc0, pc1, pc2, pc3, pc4, pc5, pf0, pf1, pf2, pf3, pf4, pf5, HB, szw, zg0, zh0, og, ng, oh, nh⟩
    · have hlit : (regOps Try.f14 10)[14]? = some ({ dst := some 105, op := Op.indexAddr 60 (Operand.tmp 15) (Operand.tmp 91), type := 0, pos := "law.go:33", after := #[{ on := 0, ground := Ground.data }, { on := 0, ground := Ground.phase }, { on := 1, ground := Ground.textOnly Departure.lateStores }, { on := 2, ground := Ground.phase }, { on := 3, ground := Ground.phase }, { on := 4, ground := Ground.phase }, { on := 5, ground := Ground.phase }, { on := 6, ground := Ground.phase }, { on := 7, ground := Ground.phase }, { on := 8, ground := Ground.textOnly Departure.lateStores }, { on := 9, ground := Ground.phase }, { on := 10, ground := Ground.phase }, { on := 11, ground := Ground.phase }, { on := 12, ground := Ground.textOnly Departure.lateStores }, { on := 13, ground := Ground.textOnly Departure.lateStoresUnsure }], guard := none }) := by kernel_rfl
      obtain rfl := Option.some.inj (hlit.symm.trans hoi)
      have r15 : b.tmps.getD 15 undef = (.pointer (some ⟨kp, 0, none⟩)) := rd ((hT.old 15 (by kernel_rfl)).trans t15)
      have r91 : b.tmps.getD 91 undef = (.int .i64 3) := rd (hT.at 0 (by kernel_rfl) (pre_of hpre 0 (by kernel_rfl)))
      refine op_go hoi (want_all rfl) fun K hK => ?_
      clear hT hpre hlit hoi hdn
      go_simp
      exact hK _ _ ⟨(), fun _ _ => rfl, rfl, ac0, ac1, bc0, bc1, cc0, cc1, ddc0, ddc1, pc0, pc1, pc2, pc3, pc4, pc5, pf0, pf1, pf2, pf3, pf4, pf5, HB, szw, zg0, zh0, og, ng, oh, nh⟩
    · have hlit : (regOps Try.f14 10)[15]? = some ({ dst := some 106, op := Op.fieldAddr 23 (Operand.tmp 105) 0, type := 0, pos := "law.go:33", after := #[{ on := 14, ground := Ground.data }, { on := 0, ground := Ground.phase }, { on := 1, ground := Ground.textOnly Departure.lateStores }, { on := 2, ground := Ground.phase }, { on := 3, ground := Ground.phase }, { on := 4, ground := Ground.phase }, { on := 5, ground := Ground.phase }, { on := 6, ground := Ground.phase }, { on := 7, ground := Ground.phase }, { on := 8, ground := Ground.textOnly Departure.lateStores }, { on := 9, ground := Ground.phase }, { on := 10, ground := Ground.phase }, { on := 11, ground := Ground.phase }, { on := 12, ground := Ground.textOnly Departure.lateStores }, { on := 13, ground := Ground.textOnly Departure.lateStoresUnsure }], guard := none }) := by kernel_rfl
      obtain rfl := Option.some.inj (hlit.symm.trans hoi)
      have r105 : b.tmps.getD 105 undef = (.pointer (some ⟨kp, 6, none⟩)) := rd (hT.at 14 (by kernel_rfl) (pre_of hpre 14 (by kernel_rfl)))
      refine op_go hoi (want_all rfl) fun K hK => ?_
      clear hT hpre hlit hoi hdn
      go_simp
      exact hK _ _ ⟨(), fun _ _ => rfl, rfl, ac0, ac1, bc0, bc1, cc0, cc1, ddc0, ddc1, pc0, pc1, pc2, pc3, pc4, pc5, pf0, pf1, pf2, pf3, pf4, pf5, HB, szw, zg0, zh0, og, ng, oh, nh⟩
    · have hlit : (regOps Try.f14 10)[16]? = some ({ dst := none, op := Op.store 3 (Operand.tmp 106) (Operand.tmp 98), type := 0, pos := "law.go:33", after := #[{ on := 15, ground := Ground.data }, { on := 7, ground := Ground.data }, { on := 0, ground := Ground.phase }, { on := 1, ground := Ground.textOnly Departure.lateStores }, { on := 2, ground := Ground.phase }, { on := 3, ground := Ground.phase }, { on := 4, ground := Ground.phase }, { on := 5, ground := Ground.phase }, { on := 6, ground := Ground.phase }, { on := 7, ground := Ground.phase }, { on := 8, ground := Ground.textOnly Departure.lateStores }, { on := 9, ground := Ground.phase }, { on := 10, ground := Ground.phase }, { on := 11, ground := Ground.phase }, { on := 12, ground := Ground.textOnly Departure.lateStores }, { on := 13, ground := Ground.textOnly Departure.lateStoresUnsure }], guard := none }) := by kernel_rfl
      obtain rfl := Option.some.inj (hlit.symm.trans hoi)
      have r106 : b.tmps.getD 106 undef = (.pointer (some ⟨kp, 6, none⟩)) := rd (hT.at 15 (by kernel_rfl) (pre_of hpre 15 (by kernel_rfl)))
      have r98 : b.tmps.getD 98 undef = (.int .i64 s0) := rd (hT.at 7 (by kernel_rfl) (pre_of hpre 7 (by kernel_rfl)))
      obtain cg0 := og hun
      refine op_go hoi (want_all rfl) fun K hK => ?_
      clear hT hpre hlit hoi hdn
      go_simp
      exact hK _ _ ⟨(), fun _ _ => rfl, rfl, so (ac0) nekakp, so (ac1) nekakp, so (bc0) nekbkp, so (bc1) nekbkp, so (cc0) nekckp, so (cc1) nekckp, so (ddc0) nekdkp, so (ddc1) nekdkp, sb (pc0) (by decide), sb (pc1) (by decide), sb (pc2) (by decide), sb (pc3) (by decide), sb (pc4) (by decide), sb (pc5) (by decide), sf (pf0), sf (pf1), sf (pf2), sf (pf3), sf (pf4), sf (pf5), bs (HB) geg _, sz (szw), sf (zg0), sf (zh0), fun h => (by cases h), fun _ => ss (cg0), fun h => (by obtain x0 := oh h; exact sb (x0) (by decide)), fun h => (by obtain x0 := nh h; exact sb (x0) (by decide))⟩
    · have hlit : (regOps Try.f14 10)[17]? = some ({ dst := some 107, op := Op.indexAddr 60 (Operand.tmp 15) (Operand.tmp 92), type := 0, pos := "law.go:33", after := #[{ on := 1, ground := Ground.data }, { on := 0, ground := Ground.phase }, { on := 1, ground := Ground.phase }, { on := 2, ground := Ground.phase }, { on := 3, ground := Ground.phase }, { on := 4, ground := Ground.phase }, { on := 5, ground := Ground.phase }, { on := 6, ground := Ground.phase }, { on := 7, ground := Ground.phase }, { on := 8, ground := Ground.phase }, { on := 9, ground := Ground.phase }, { on := 10, ground := Ground.phase }, { on := 11, ground := Ground.phase }, { on := 12, ground := Ground.phase }, { on := 13, ground := Ground.phase }, { on := 14, ground := Ground.phase }, { on := 15, ground := Ground.phase }, { on := 16, ground := Ground.phase }], guard := none }) := by kernel_rfl
      obtain rfl := Option.some.inj (hlit.symm.trans hoi)
      have r15 : b.tmps.getD 15 undef = (.pointer (some ⟨kp, 0, none⟩)) := rd ((hT.old 15 (by kernel_rfl)).trans t15)
      have r92 : b.tmps.getD 92 undef = (.int .i64 3) := rd (hT.at 1 (by kernel_rfl) (pre_of hpre 1 (by kernel_rfl)))
      refine op_go hoi (want_all rfl) fun K hK => ?_
      clear hT hpre hlit hoi hdn
      go_simp
      exact hK _ _ ⟨(), fun _ _ => rfl, rfl, ac0, ac1, bc0, bc1, cc0, cc1, ddc0, ddc1, pc0, pc1, pc2, pc3, pc4, pc5, pf0, pf1, pf2, pf3, pf4, pf5, HB, szw, zg0, zh0, og, ng, oh, nh⟩
    · have hlit : (regOps Try.f14 10)[18]? = some ({ dst := some 108, op := Op.fieldAddr 23 (Operand.tmp 107) 1, type := 0, pos := "law.go:33", after := #[{ on := 17, ground := Ground.data }, { on := 0, ground := Ground.phase }, { on := 1, ground := Ground.phase }, { on := 2, ground := Ground.phase }, { on := 3, ground := Ground.phase }, { on := 4, ground := Ground.phase }, { on := 5, ground := Ground.phase }, { on := 6, ground := Ground.phase }, { on := 7, ground := Ground.phase }, { on := 8, ground := Ground.phase }, { on := 9, ground := Ground.phase }, { on := 10, ground := Ground.phase }, { on := 11, ground := Ground.phase }, { on := 12, ground := Ground.phase }, { on := 13, ground := Ground.phase }, { on := 14, ground := Ground.phase }, { on := 15, ground := Ground.phase }, { on := 16, ground := Ground.phase }], guard := none }) := by kernel_rfl
      obtain rfl := Option.some.inj (hlit.symm.trans hoi)
      have r107 : b.tmps.getD 107 undef = (.pointer (some ⟨kp, 6, none⟩)) := rd (hT.at 17 (by kernel_rfl) (pre_of hpre 17 (by kernel_rfl)))
      refine op_go hoi (want_all rfl) fun K hK => ?_
      clear hT hpre hlit hoi hdn
      go_simp
      exact hK _ _ ⟨(), fun _ _ => rfl, rfl, ac0, ac1, bc0, bc1, cc0, cc1, ddc0, ddc1, pc0, pc1, pc2, pc3, pc4, pc5, pf0, pf1, pf2, pf3, pf4, pf5, HB, szw, zg0, zh0, og, ng, oh, nh⟩
    · have hlit : (regOps Try.f14 10)[19]? = some ({ dst := none, op := Op.store 3 (Operand.tmp 108) (Operand.tmp 104), type := 0, pos := "law.go:33", after := #[{ on := 18, ground := Ground.data }, { on := 13, ground := Ground.data }, { on := 16, ground := Ground.chain }, { on := 0, ground := Ground.phase }, { on := 1, ground := Ground.phase }, { on := 2, ground := Ground.phase }, { on := 3, ground := Ground.phase }, { on := 4, ground := Ground.phase }, { on := 5, ground := Ground.phase }, { on := 6, ground := Ground.phase }, { on := 7, ground := Ground.phase }, { on := 8, ground := Ground.phase }, { on := 9, ground := Ground.phase }, { on := 10, ground := Ground.phase }, { on := 11, ground := Ground.phase }, { on := 12, ground := Ground.phase }, { on := 13, ground := Ground.phase }, { on := 14, ground := Ground.phase }, { on := 15, ground := Ground.phase }, { on := 16, ground := Ground.phase }], guard := none }) := by kernel_rfl
      obtain rfl := Option.some.inj (hlit.symm.trans hoi)
      have r108 : b.tmps.getD 108 undef = (.pointer (some ⟨kp, 7, none⟩)) := rd (hT.at 18 (by kernel_rfl) (pre_of hpre 18 (by kernel_rfl)))
      have r104 : b.tmps.getD 104 undef = (.int .i64 s1) := rd (hT.at 13 (by kernel_rfl) (pre_of hpre 13 (by kernel_rfl)))
      obtain ch0 := oh hun
      refine op_go hoi (want_all rfl) fun K hK => ?_
      clear hT hpre hlit hoi hdn
      go_simp
      exact hK _ _ ⟨(), fun _ _ => rfl, rfl, so (ac0) nekakp, so (ac1) nekakp, so (bc0) nekbkp, so (bc1) nekbkp, so (cc0) nekckp, so (cc1) nekckp, so (ddc0) nekdkp, so (ddc1) nekdkp, sb (pc0) (by decide), sb (pc1) (by decide), sb (pc2) (by decide), sb (pc3) (by decide), sb (pc4) (by decide), sb (pc5) (by decide), sf (pf0), sf (pf1), sf (pf2), sf (pf3), sf (pf4), sf (pf5), bs (HB) geh _, sz (szw), sf (zg0), sf (zh0), fun h => (by obtain x0 := og h; exact sb (x0) (by decide)), fun h => (by obtain x0 := ng h; exact sb (x0) (by decide)), fun h => (by cases h), fun _ => ss (ch0)⟩
  · intro g b w' hT hS
    rw [hT.all ht]
    have hn : (regOps Try.f14 10).size = 20 := by kernel_rfl
    rw [hn] at hS ⊢
    obtain ⟨ac0, ac1, bc0, bc1, cc0, cc1, ddc0, ddc1, pc0, pc1, pc2, pc3, pc4, pc5, pf0, pf1, pf2, pf3, pf4, pf5, HB, szw, zg0, zh0, og, ng, oh, nh⟩ := hS
    obtain cg0 := ng rfl
    obtain ch0 := nh rfl
    exact he w' ⟨ac0, ac1, bc0, bc1, cc0, cc1, ddc0, ddc1, pc0, pc1, pc2, pc3, pc4, pc5, pf0, pf1, pf2, pf3, pf4, pf5, HB⟩ ⟨zg0, zh0, cg0, ch0⟩

/-- What each operation of the region leaves. -/
def region14_yV (a0 a1 b0 b1 c0 c1 d0 d1 p0 p1 q0 q1 r0 r1 s0 s1 o k n : Int) (kp : Nat) : Nat → Value
  | 0 => .pointer (some ⟨kp, 0, none⟩)
  | 1 => .agg #[.int .i64 p0, .int .i64 p1]
  | 2 => .pointer (some ⟨kp, 2, none⟩)
  | 3 => .agg #[.int .i64 q0, .int .i64 q1]
  | 4 => .pointer (some ⟨kp, 4, none⟩)
  | 5 => .agg #[.int .i64 r0, .int .i64 r1]
  | 6 => .int .i64 o
  | 7 => .int .i64 o
  | 8 => .bool true
  | 9 => .bool true
  | 10 => .pointer (some ⟨kp, 0, none⟩)
  | 11 => .agg #[.int .i64 p0, .int .i64 p1]
  | 12 => .pointer (some ⟨kp, 2, none⟩)
  | 13 => .agg #[.int .i64 q0, .int .i64 q1]
  | 14 => .pointer (some ⟨kp, 4, none⟩)
  | 15 => .agg #[.int .i64 r0, .int .i64 r1]
  | 16 => .pointer (some ⟨kp, 6, none⟩)
  | 17 => .agg #[.int .i64 s0, .int .i64 s1]
  | 18 => .int .i64 k
  | 19 => .int .i64 k
  | 20 => .bool true
  | 21 => .bool true
  | 22 => .bool true
  | 23 => .agg #[.int .i64 a0, .int .i64 a1]
  | 24 => .agg #[.int .i64 b0, .int .i64 b1]
  | 25 => .agg #[.int .i64 c0, .int .i64 c1]
  | 26 => .agg #[.int .i64 d0, .int .i64 d1]
  | 27 => .int .i64 n
  | 28 => .pointer (some ⟨kp, 0, none⟩)
  | 29 => .agg #[.int .i64 p0, .int .i64 p1]
  | 30 => .pointer (some ⟨kp, 2, none⟩)
  | 31 => .agg #[.int .i64 q0, .int .i64 q1]
  | 32 => .pointer (some ⟨kp, 4, none⟩)
  | 33 => .agg #[.int .i64 r0, .int .i64 r1]
  | 34 => .pointer (some ⟨kp, 6, none⟩)
  | 35 => .agg #[.int .i64 s0, .int .i64 s1]
  | 36 => .int .i64 n
  | 37 => .bool true
  | 38 => .bool true
  | 39 => .bool true
  | 40 => .bool true
  | 41 => .bool true
  | 42 => .bool true
  | _ => undef

set_option maxHeartbeats 4000000 in
set_option maxRecDepth 100000 in
theorem region14_y (a0 a1 b0 b1 c0 c1 d0 d1 p0 p1 q0 q1 r0 r1 s0 s1 o k n : Int) (ka kb kc kd kp : Nat) (W : World) (h1 : ori ⟨p0, p1⟩ ⟨q0, q1⟩ ⟨r0, r1⟩ = o) (h2 : circ ⟨p0, p1⟩ ⟨q0, q1⟩ ⟨r0, r1⟩ ⟨s0, s1⟩ = k) (h3 : meet ⟨a0, a1⟩ ⟨b0, b1⟩ ⟨c0, c1⟩ ⟨d0, d1⟩ = n) (h4 : meet ⟨p0, p1⟩ ⟨q0, q1⟩ ⟨r0, r1⟩ ⟨s0, s1⟩ = n) {id : Nat} {ops : Array Oper} {Q : Exit → Act → World → Prop} {a : Act} {w : World}
    (ho : ops = (regOps Try.f14 13)) (hsz : a.tmps.size = 157) (t15 : a.tmps[15]? = some (.pointer (some ⟨kp, 0, none⟩))) (t13 : a.tmps[13]? = some (.int .i64 o)) (t14 : a.tmps[14]? = some (.int .i64 k)) (t6 : a.tmps[6]? = some (.pointer (some ⟨ka, 0, none⟩))) (t7 : a.tmps[7]? = some (.pointer (some ⟨kb, 0, none⟩))) (t8 : a.tmps[8]? = some (.pointer (some ⟨kc, 0, none⟩))) (t9 : a.tmps[9]? = some (.pointer (some ⟨kd, 0, none⟩)))
    (h0 : w.drew.cell? ⟨ka, 0, none⟩ = some (.int .i64 a0) ∧ w.drew.cell? ⟨ka, 1, none⟩ = some (.int .i64 a1) ∧ w.drew.cell? ⟨kb, 0, none⟩ = some (.int .i64 b0) ∧ w.drew.cell? ⟨kb, 1, none⟩ = some (.int .i64 b1) ∧ w.drew.cell? ⟨kc, 0, none⟩ = some (.int .i64 c0) ∧ w.drew.cell? ⟨kc, 1, none⟩ = some (.int .i64 c1) ∧ w.drew.cell? ⟨kd, 0, none⟩ = some (.int .i64 d0) ∧ w.drew.cell? ⟨kd, 1, none⟩ = some (.int .i64 d1) ∧ w.drew.cell? ⟨kp, 0, none⟩ = some (.int .i64 p0) ∧ w.drew.cell? ⟨kp, 1, none⟩ = some (.int .i64 p1) ∧ w.drew.cell? ⟨kp, 2, none⟩ = some (.int .i64 q0) ∧ w.drew.cell? ⟨kp, 3, none⟩ = some (.int .i64 q1) ∧ w.drew.cell? ⟨kp, 4, none⟩ = some (.int .i64 r0) ∧ w.drew.cell? ⟨kp, 5, none⟩ = some (.int .i64 r1) ∧ w.drew.cell? ⟨kp, 6, none⟩ = some (.int .i64 s0) ∧ w.drew.cell? ⟨kp, 7, none⟩ = some (.int .i64 s1) ∧ Below W.heap.size W w.drew)
    (he : ∀ w', w'.cell? ⟨ka, 0, none⟩ = some (.int .i64 a0) ∧ w'.cell? ⟨ka, 1, none⟩ = some (.int .i64 a1) ∧ w'.cell? ⟨kb, 0, none⟩ = some (.int .i64 b0) ∧ w'.cell? ⟨kb, 1, none⟩ = some (.int .i64 b1) ∧ w'.cell? ⟨kc, 0, none⟩ = some (.int .i64 c0) ∧ w'.cell? ⟨kc, 1, none⟩ = some (.int .i64 c1) ∧ w'.cell? ⟨kd, 0, none⟩ = some (.int .i64 d0) ∧ w'.cell? ⟨kd, 1, none⟩ = some (.int .i64 d1) ∧ w'.cell? ⟨kp, 0, none⟩ = some (.int .i64 p0) ∧ w'.cell? ⟨kp, 1, none⟩ = some (.int .i64 p1) ∧ w'.cell? ⟨kp, 2, none⟩ = some (.int .i64 q0) ∧ w'.cell? ⟨kp, 3, none⟩ = some (.int .i64 q1) ∧ w'.cell? ⟨kp, 4, none⟩ = some (.int .i64 r0) ∧ w'.cell? ⟨kp, 5, none⟩ = some (.int .i64 r1) ∧ w'.cell? ⟨kp, 6, none⟩ = some (.int .i64 s0) ∧ w'.cell? ⟨kp, 7, none⟩ = some (.int .i64 s1) ∧ Below W.heap.size W w' → Q .normal ⟨(((((((((((((((((((((((((((((((((((((((((((a.tmps.setIfInBounds 115 (.pointer (some ⟨kp, 0, none⟩))).setIfInBounds 116 (.agg #[.int .i64 p0, .int .i64 p1])).setIfInBounds 117 (.pointer (some ⟨kp, 2, none⟩))).setIfInBounds 118 (.agg #[.int .i64 q0, .int .i64 q1])).setIfInBounds 119 (.pointer (some ⟨kp, 4, none⟩))).setIfInBounds 120 (.agg #[.int .i64 r0, .int .i64 r1])).setIfInBounds 121 (.int .i64 o)).setIfInBounds 122 (.int .i64 o)).setIfInBounds 123 (.bool true)).setIfInBounds 124 (.bool true)).setIfInBounds 125 (.pointer (some ⟨kp, 0, none⟩))).setIfInBounds 126 (.agg #[.int .i64 p0, .int .i64 p1])).setIfInBounds 127 (.pointer (some ⟨kp, 2, none⟩))).setIfInBounds 128 (.agg #[.int .i64 q0, .int .i64 q1])).setIfInBounds 129 (.pointer (some ⟨kp, 4, none⟩))).setIfInBounds 130 (.agg #[.int .i64 r0, .int .i64 r1])).setIfInBounds 131 (.pointer (some ⟨kp, 6, none⟩))).setIfInBounds 132 (.agg #[.int .i64 s0, .int .i64 s1])).setIfInBounds 133 (.int .i64 k)).setIfInBounds 134 (.int .i64 k)).setIfInBounds 135 (.bool true)).setIfInBounds 136 (.bool true)).setIfInBounds 137 (.bool true)).setIfInBounds 138 (.agg #[.int .i64 a0, .int .i64 a1])).setIfInBounds 139 (.agg #[.int .i64 b0, .int .i64 b1])).setIfInBounds 140 (.agg #[.int .i64 c0, .int .i64 c1])).setIfInBounds 141 (.agg #[.int .i64 d0, .int .i64 d1])).setIfInBounds 142 (.int .i64 n)).setIfInBounds 143 (.pointer (some ⟨kp, 0, none⟩))).setIfInBounds 144 (.agg #[.int .i64 p0, .int .i64 p1])).setIfInBounds 145 (.pointer (some ⟨kp, 2, none⟩))).setIfInBounds 146 (.agg #[.int .i64 q0, .int .i64 q1])).setIfInBounds 147 (.pointer (some ⟨kp, 4, none⟩))).setIfInBounds 148 (.agg #[.int .i64 r0, .int .i64 r1])).setIfInBounds 149 (.pointer (some ⟨kp, 6, none⟩))).setIfInBounds 150 (.agg #[.int .i64 s0, .int .i64 s1])).setIfInBounds 151 (.int .i64 n)).setIfInBounds 152 (.bool true)).setIfInBounds 153 (.bool true)).setIfInBounds 154 (.bool true)).setIfInBounds 155 (.bool true)).setIfInBounds 156 (.bool true)).setIfInBounds 12 (.bool true)), a.defers⟩ w') :
    (Code.region id ops true).wp Try.prog Q a w := by
  have ht : tidy (regOps Try.f14 13) a.tmps.size = true := by rw [hsz]; kernel_rfl
  refine region_tab (G := Unit) (fun _ => (region14_yV a0 a1 b0 b1 c0 c1 d0 d1 p0 p1 q0 q1 r0 r1 s0 s1 o k n kp )) (fun _ _ w' => w'.cell? ⟨ka, 0, none⟩ = some (.int .i64 a0) ∧ w'.cell? ⟨ka, 1, none⟩ = some (.int .i64 a1) ∧ w'.cell? ⟨kb, 0, none⟩ = some (.int .i64 b0) ∧ w'.cell? ⟨kb, 1, none⟩ = some (.int .i64 b1) ∧ w'.cell? ⟨kc, 0, none⟩ = some (.int .i64 c0) ∧ w'.cell? ⟨kc, 1, none⟩ = some (.int .i64 c1) ∧ w'.cell? ⟨kd, 0, none⟩ = some (.int .i64 d0) ∧ w'.cell? ⟨kd, 1, none⟩ = some (.int .i64 d1) ∧ w'.cell? ⟨kp, 0, none⟩ = some (.int .i64 p0) ∧ w'.cell? ⟨kp, 1, none⟩ = some (.int .i64 p1) ∧ w'.cell? ⟨kp, 2, none⟩ = some (.int .i64 q0) ∧ w'.cell? ⟨kp, 3, none⟩ = some (.int .i64 q1) ∧ w'.cell? ⟨kp, 4, none⟩ = some (.int .i64 r0) ∧ w'.cell? ⟨kp, 5, none⟩ = some (.int .i64 r1) ∧ w'.cell? ⟨kp, 6, none⟩ = some (.int .i64 s0) ∧ w'.cell? ⟨kp, 7, none⟩ = some (.int .i64 s1) ∧ Below W.heap.size W w') () (by kernel_rfl) ho ht h0 ?_ ?_
  · intro i o hoi g L b w' hun hpre hT hS
    clear he h0 ho hsz ht
    have hi : i < (regOps Try.f14 13).size := (Array.getElem?_eq_some_iff.1 hoi).1
    rw [show (regOps Try.f14 13).size = 43 by kernel_rfl] at hi
    obtain ⟨ac0, ac1, bc0, bc1, cc0, cc1, ddc0, ddc1, pc0, pc1, pc2, pc3, pc4, pc5, pc6, pc7, HB⟩ := hS
    have hcases : i = 0 ∨ i = 1 ∨ i = 2 ∨ i = 3 ∨ i = 4 ∨ i = 5 ∨ i = 6 ∨ i = 7 ∨ i = 8 ∨ i = 9 ∨ i = 10 ∨ i = 11 ∨ i = 12 ∨ i = 13 ∨ i = 14 ∨ i = 15 ∨ i = 16 ∨ i = 17 ∨ i = 18 ∨ i = 19 ∨ i = 20 ∨ i = 21 ∨ i = 22 ∨ i = 23 ∨ i = 24 ∨ i = 25 ∨ i = 26 ∨ i = 27 ∨ i = 28 ∨ i = 29 ∨ i = 30 ∨ i = 31 ∨ i = 32 ∨ i = 33 ∨ i = 34 ∨ i = 35 ∨ i = 36 ∨ i = 37 ∨ i = 38 ∨ i = 39 ∨ i = 40 ∨ i = 41 ∨ i = 42 := by omega
    rcases hcases with rfl | rfl | rfl | rfl | rfl | rfl | rfl | rfl | rfl | rfl | rfl | rfl | rfl | rfl | rfl | rfl | rfl | rfl | rfl | rfl | rfl | rfl | rfl | rfl | rfl | rfl | rfl | rfl | rfl | rfl | rfl | rfl | rfl | rfl | rfl | rfl | rfl | rfl | rfl | rfl | rfl | rfl | rfl
    · have hlit : (regOps Try.f14 13)[0]? = some ({ dst := some 115, op := Op.indexAddr 60 (Operand.tmp 15) (Operand.const (Value.int IntKind.i64 0)), type := 0, pos := "law.go:38", after := #[], guard := none }) := by kernel_rfl
      obtain rfl := Option.some.inj (hlit.symm.trans hoi)
      have r15 : b.tmps.getD 15 undef = (.pointer (some ⟨kp, 0, none⟩)) := rd ((hT.old 15 (by kernel_rfl)).trans t15)
      refine op_go hoi (want_all rfl) fun K hK => ?_
      clear hT hpre hun hlit hoi
      go_simp
      exact hK _ _ ⟨(), fun _ _ => rfl, rfl, ac0, ac1, bc0, bc1, cc0, cc1, ddc0, ddc1, pc0, pc1, pc2, pc3, pc4, pc5, pc6, pc7, HB⟩
    · have hlit : (regOps Try.f14 13)[1]? = some ({ dst := some 116, op := Op.load 23 (Operand.tmp 115), type := 23, pos := "law.go:38", after := #[{ on := 0, ground := Ground.data }], guard := none }) := by kernel_rfl
      obtain rfl := Option.some.inj (hlit.symm.trans hoi)
      have r115 : b.tmps.getD 115 undef = (.pointer (some ⟨kp, 0, none⟩)) := rd (hT.at 0 (by kernel_rfl) (pre_of hpre 0 (by kernel_rfl)))
      refine op_go hoi (want_all rfl) fun K hK => ?_
      clear hT hpre hun hlit hoi
      go_simp
      exact hK _ _ ⟨(), fun _ _ => rfl, rfl, ac0, ac1, bc0, bc1, cc0, cc1, ddc0, ddc1, pc0, pc1, pc2, pc3, pc4, pc5, pc6, pc7, HB⟩
    · have hlit : (regOps Try.f14 13)[2]? = some ({ dst := some 117, op := Op.indexAddr 60 (Operand.tmp 15) (Operand.const (Value.int IntKind.i64 1)), type := 0, pos := "law.go:38", after := #[], guard := none }) := by kernel_rfl
      obtain rfl := Option.some.inj (hlit.symm.trans hoi)
      have r15 : b.tmps.getD 15 undef = (.pointer (some ⟨kp, 0, none⟩)) := rd ((hT.old 15 (by kernel_rfl)).trans t15)
      refine op_go hoi (want_all rfl) fun K hK => ?_
      clear hT hpre hun hlit hoi
      go_simp
      exact hK _ _ ⟨(), fun _ _ => rfl, rfl, ac0, ac1, bc0, bc1, cc0, cc1, ddc0, ddc1, pc0, pc1, pc2, pc3, pc4, pc5, pc6, pc7, HB⟩
    · have hlit : (regOps Try.f14 13)[3]? = some ({ dst := some 118, op := Op.load 23 (Operand.tmp 117), type := 23, pos := "law.go:38", after := #[{ on := 2, ground := Ground.data }], guard := none }) := by kernel_rfl
      obtain rfl := Option.some.inj (hlit.symm.trans hoi)
      have r117 : b.tmps.getD 117 undef = (.pointer (some ⟨kp, 2, none⟩)) := rd (hT.at 2 (by kernel_rfl) (pre_of hpre 2 (by kernel_rfl)))
      refine op_go hoi (want_all rfl) fun K hK => ?_
      clear hT hpre hun hlit hoi
      go_simp
      exact hK _ _ ⟨(), fun _ _ => rfl, rfl, ac0, ac1, bc0, bc1, cc0, cc1, ddc0, ddc1, pc0, pc1, pc2, pc3, pc4, pc5, pc6, pc7, HB⟩
    · have hlit : (regOps Try.f14 13)[4]? = some ({ dst := some 119, op := Op.indexAddr 60 (Operand.tmp 15) (Operand.const (Value.int IntKind.i64 2)), type := 0, pos := "law.go:38", after := #[], guard := none }) := by kernel_rfl
      obtain rfl := Option.some.inj (hlit.symm.trans hoi)
      have r15 : b.tmps.getD 15 undef = (.pointer (some ⟨kp, 0, none⟩)) := rd ((hT.old 15 (by kernel_rfl)).trans t15)
      refine op_go hoi (want_all rfl) fun K hK => ?_
      clear hT hpre hun hlit hoi
      go_simp
      exact hK _ _ ⟨(), fun _ _ => rfl, rfl, ac0, ac1, bc0, bc1, cc0, cc1, ddc0, ddc1, pc0, pc1, pc2, pc3, pc4, pc5, pc6, pc7, HB⟩
    · have hlit : (regOps Try.f14 13)[5]? = some ({ dst := some 120, op := Op.load 23 (Operand.tmp 119), type := 23, pos := "law.go:38", after := #[{ on := 4, ground := Ground.data }], guard := none }) := by kernel_rfl
      obtain rfl := Option.some.inj (hlit.symm.trans hoi)
      have r119 : b.tmps.getD 119 undef = (.pointer (some ⟨kp, 4, none⟩)) := rd (hT.at 4 (by kernel_rfl) (pre_of hpre 4 (by kernel_rfl)))
      refine op_go hoi (want_all rfl) fun K hK => ?_
      clear hT hpre hun hlit hoi
      go_simp
      exact hK _ _ ⟨(), fun _ _ => rfl, rfl, ac0, ac1, bc0, bc1, cc0, cc1, ddc0, ddc1, pc0, pc1, pc2, pc3, pc4, pc5, pc6, pc7, HB⟩
    · have hlit : (regOps Try.f14 13)[6]? = some ({ dst := some 121, op := Op.call { callee := Callee.value (Operand.func 52), args := #[Operand.tmp 116, Operand.tmp 118, Operand.tmp 120], argTypes := #[23, 23, 23] }, type := 3, pos := "law.go:38", after := #[{ on := 1, ground := Ground.data }, { on := 3, ground := Ground.data }, { on := 5, ground := Ground.data }], guard := none }) := by kernel_rfl
      obtain rfl := Option.some.inj (hlit.symm.trans hoi)
      have r116 : b.tmps.getD 116 undef = (.agg #[.int .i64 p0, .int .i64 p1]) := rd (hT.at 1 (by kernel_rfl) (pre_of hpre 1 (by kernel_rfl)))
      have r118 : b.tmps.getD 118 undef = (.agg #[.int .i64 q0, .int .i64 q1]) := rd (hT.at 3 (by kernel_rfl) (pre_of hpre 3 (by kernel_rfl)))
      have r120 : b.tmps.getD 120 undef = (.agg #[.int .i64 r0, .int .i64 r1]) := rd (hT.at 5 (by kernel_rfl) (pre_of hpre 5 (by kernel_rfl)))
      refine op_go hoi (want_all rfl) fun K hK => ?_
      clear hT hpre hun hlit hoi
      go_simp
      go_at_call 52
      refine (ori52 _ _ _ _ _ _ _).mono ?_; rw [h1]; rintro e w2 ⟨rfl, hb⟩; replace ac0 := ck hb (a := ⟨ka, 0, none⟩) (v := .int .i64 a0) (by go_simp); replace ac1 := ck hb (a := ⟨ka, 1, none⟩) (v := .int .i64 a1) (by go_simp); replace bc0 := ck hb (a := ⟨kb, 0, none⟩) (v := .int .i64 b0) (by go_simp); replace bc1 := ck hb (a := ⟨kb, 1, none⟩) (v := .int .i64 b1) (by go_simp); replace cc0 := ck hb (a := ⟨kc, 0, none⟩) (v := .int .i64 c0) (by go_simp); replace cc1 := ck hb (a := ⟨kc, 1, none⟩) (v := .int .i64 c1) (by go_simp); replace ddc0 := ck hb (a := ⟨kd, 0, none⟩) (v := .int .i64 d0) (by go_simp); replace ddc1 := ck hb (a := ⟨kd, 1, none⟩) (v := .int .i64 d1) (by go_simp); replace pc0 := ck hb (a := ⟨kp, 0, none⟩) (v := .int .i64 p0) (by go_simp); replace pc1 := ck hb (a := ⟨kp, 1, none⟩) (v := .int .i64 p1) (by go_simp); replace pc2 := ck hb (a := ⟨kp, 2, none⟩) (v := .int .i64 q0) (by go_simp); replace pc3 := ck hb (a := ⟨kp, 3, none⟩) (v := .int .i64 q1) (by go_simp); replace pc4 := ck hb (a := ⟨kp, 4, none⟩) (v := .int .i64 r0) (by go_simp); replace pc5 := ck hb (a := ⟨kp, 5, none⟩) (v := .int .i64 r1) (by go_simp); replace pc6 := ck hb (a := ⟨kp, 6, none⟩) (v := .int .i64 s0) (by go_simp); replace pc7 := ck hb (a := ⟨kp, 7, none⟩) (v := .int .i64 s1) (by go_simp); replace HB : Below W.heap.size W w2 := bt HB hb; clear hb
      exact hK _ _ ⟨(), fun _ _ => rfl, rfl, ac0, ac1, bc0, bc1, cc0, cc1, ddc0, ddc1, pc0, pc1, pc2, pc3, pc4, pc5, pc6, pc7, HB⟩
    · have hlit : (regOps Try.f14 13)[7]? = some ({ dst := some 122, op := Op.move (Operand.tmp 13), type := 3, pos := "law.go:38", after := #[], guard := none }) := by kernel_rfl
      obtain rfl := Option.some.inj (hlit.symm.trans hoi)
      have r13 : b.tmps.getD 13 undef = (.int .i64 o) := rd ((hT.old 13 (by kernel_rfl)).trans t13)
      refine op_go hoi (want_all rfl) fun K hK => ?_
      clear hT hpre hun hlit hoi
      go_simp
      exact hK _ _ ⟨(), fun _ _ => rfl, rfl, ac0, ac1, bc0, bc1, cc0, cc1, ddc0, ddc1, pc0, pc1, pc2, pc3, pc4, pc5, pc6, pc7, HB⟩
    · have hlit : (regOps Try.f14 13)[8]? = some ({ dst := some 123, op := Op.binOp BinOp.eql 3 (Operand.tmp 121) (Operand.tmp 122) 3, type := 4, pos := "law.go:38", after := #[{ on := 6, ground := Ground.data }, { on := 7, ground := Ground.data }], guard := none }) := by kernel_rfl
      obtain rfl := Option.some.inj (hlit.symm.trans hoi)
      have r121 : b.tmps.getD 121 undef = (.int .i64 o) := rd (hT.at 6 (by kernel_rfl) (pre_of hpre 6 (by kernel_rfl)))
      have r122 : b.tmps.getD 122 undef = (.int .i64 o) := rd (hT.at 7 (by kernel_rfl) (pre_of hpre 7 (by kernel_rfl)))
      refine op_go hoi (want_all rfl) fun K hK => ?_
      clear hT hpre hun hlit hoi
      go_simp
      exact hK _ _ ⟨(), fun _ _ => rfl, rfl, ac0, ac1, bc0, bc1, cc0, cc1, ddc0, ddc1, pc0, pc1, pc2, pc3, pc4, pc5, pc6, pc7, HB⟩
    · have hlit : (regOps Try.f14 13)[9]? = some ({ dst := some 124, op := Op.move (Operand.tmp 123), type := 4, pos := "law.go:38", after := #[{ on := 8, ground := Ground.data }, { on := 6, ground := Ground.chain }], guard := none }) := by kernel_rfl
      obtain rfl := Option.some.inj (hlit.symm.trans hoi)
      have r123 : b.tmps.getD 123 undef = (.bool true) := rd (hT.at 8 (by kernel_rfl) (pre_of hpre 8 (by kernel_rfl)))
      refine op_go hoi (want_all rfl) fun K hK => ?_
      clear hT hpre hun hlit hoi
      go_simp
      exact hK _ _ ⟨(), fun _ _ => rfl, rfl, ac0, ac1, bc0, bc1, cc0, cc1, ddc0, ddc1, pc0, pc1, pc2, pc3, pc4, pc5, pc6, pc7, HB⟩
    · have hlit : (regOps Try.f14 13)[10]? = some ({ dst := some 125, op := Op.indexAddr 60 (Operand.tmp 15) (Operand.const (Value.int IntKind.i64 0)), type := 0, pos := "law.go:38", after := #[{ on := 9, ground := Ground.guard }], guard := some (9, true) }) := by kernel_rfl
      obtain rfl := Option.some.inj (hlit.symm.trans hoi)
      have r15 : b.tmps.getD 15 undef = (.pointer (some ⟨kp, 0, none⟩)) := rd ((hT.old 15 (by kernel_rfl)).trans t15)
      refine op_go hoi (want_yes rfl (d := 124) (by kernel_rfl) (hT.at 9 (by kernel_rfl) (pre_of hpre 9 (by kernel_rfl)))) fun K hK => ?_
      clear hT hpre hun hlit hoi
      go_simp
      exact hK _ _ ⟨(), fun _ _ => rfl, rfl, ac0, ac1, bc0, bc1, cc0, cc1, ddc0, ddc1, pc0, pc1, pc2, pc3, pc4, pc5, pc6, pc7, HB⟩
    · have hlit : (regOps Try.f14 13)[11]? = some ({ dst := some 126, op := Op.load 23 (Operand.tmp 125), type := 23, pos := "law.go:38", after := #[{ on := 10, ground := Ground.data }, { on := 9, ground := Ground.guard }], guard := some (9, true) }) := by kernel_rfl
      obtain rfl := Option.some.inj (hlit.symm.trans hoi)
      have r125 : b.tmps.getD 125 undef = (.pointer (some ⟨kp, 0, none⟩)) := rd (hT.at 10 (by kernel_rfl) (pre_of hpre 10 (by kernel_rfl)))
      refine op_go hoi (want_yes rfl (d := 124) (by kernel_rfl) (hT.at 9 (by kernel_rfl) (pre_of hpre 9 (by kernel_rfl)))) fun K hK => ?_
      clear hT hpre hun hlit hoi
      go_simp
      exact hK _ _ ⟨(), fun _ _ => rfl, rfl, ac0, ac1, bc0, bc1, cc0, cc1, ddc0, ddc1, pc0, pc1, pc2, pc3, pc4, pc5, pc6, pc7, HB⟩
    · have hlit : (regOps Try.f14 13)[12]? = some ({ dst := some 127, op := Op.indexAddr 60 (Operand.tmp 15) (Operand.const (Value.int IntKind.i64 1)), type := 0, pos := "law.go:38", after := #[{ on := 9, ground := Ground.guard }], guard := some (9, true) }) := by kernel_rfl
      obtain rfl := Option.some.inj (hlit.symm.trans hoi)
      have r15 : b.tmps.getD 15 undef = (.pointer (some ⟨kp, 0, none⟩)) := rd ((hT.old 15 (by kernel_rfl)).trans t15)
      refine op_go hoi (want_yes rfl (d := 124) (by kernel_rfl) (hT.at 9 (by kernel_rfl) (pre_of hpre 9 (by kernel_rfl)))) fun K hK => ?_
      clear hT hpre hun hlit hoi
      go_simp
      exact hK _ _ ⟨(), fun _ _ => rfl, rfl, ac0, ac1, bc0, bc1, cc0, cc1, ddc0, ddc1, pc0, pc1, pc2, pc3, pc4, pc5, pc6, pc7, HB⟩
    · have hlit : (regOps Try.f14 13)[13]? = some ({ dst := some 128, op := Op.load 23 (Operand.tmp 127), type := 23, pos := "law.go:38", after := #[{ on := 12, ground := Ground.data }, { on := 9, ground := Ground.guard }], guard := some (9, true) }) := by kernel_rfl
      obtain rfl := Option.some.inj (hlit.symm.trans hoi)
      have r127 : b.tmps.getD 127 undef = (.pointer (some ⟨kp, 2, none⟩)) := rd (hT.at 12 (by kernel_rfl) (pre_of hpre 12 (by kernel_rfl)))
      refine op_go hoi (want_yes rfl (d := 124) (by kernel_rfl) (hT.at 9 (by kernel_rfl) (pre_of hpre 9 (by kernel_rfl)))) fun K hK => ?_
      clear hT hpre hun hlit hoi
      go_simp
      exact hK _ _ ⟨(), fun _ _ => rfl, rfl, ac0, ac1, bc0, bc1, cc0, cc1, ddc0, ddc1, pc0, pc1, pc2, pc3, pc4, pc5, pc6, pc7, HB⟩
    · have hlit : (regOps Try.f14 13)[14]? = some ({ dst := some 129, op := Op.indexAddr 60 (Operand.tmp 15) (Operand.const (Value.int IntKind.i64 2)), type := 0, pos := "law.go:38", after := #[{ on := 9, ground := Ground.guard }], guard := some (9, true) }) := by kernel_rfl
      obtain rfl := Option.some.inj (hlit.symm.trans hoi)
      have r15 : b.tmps.getD 15 undef = (.pointer (some ⟨kp, 0, none⟩)) := rd ((hT.old 15 (by kernel_rfl)).trans t15)
      refine op_go hoi (want_yes rfl (d := 124) (by kernel_rfl) (hT.at 9 (by kernel_rfl) (pre_of hpre 9 (by kernel_rfl)))) fun K hK => ?_
      clear hT hpre hun hlit hoi
      go_simp
      exact hK _ _ ⟨(), fun _ _ => rfl, rfl, ac0, ac1, bc0, bc1, cc0, cc1, ddc0, ddc1, pc0, pc1, pc2, pc3, pc4, pc5, pc6, pc7, HB⟩
    · have hlit : (regOps Try.f14 13)[15]? = some ({ dst := some 130, op := Op.load 23 (Operand.tmp 129), type := 23, pos := "law.go:38", after := #[{ on := 14, ground := Ground.data }, { on := 9, ground := Ground.guard }], guard := some (9, true) }) := by kernel_rfl
      obtain rfl := Option.some.inj (hlit.symm.trans hoi)
      have r129 : b.tmps.getD 129 undef = (.pointer (some ⟨kp, 4, none⟩)) := rd (hT.at 14 (by kernel_rfl) (pre_of hpre 14 (by kernel_rfl)))
      refine op_go hoi (want_yes rfl (d := 124) (by kernel_rfl) (hT.at 9 (by kernel_rfl) (pre_of hpre 9 (by kernel_rfl)))) fun K hK => ?_
      clear hT hpre hun hlit hoi
      go_simp
      exact hK _ _ ⟨(), fun _ _ => rfl, rfl, ac0, ac1, bc0, bc1, cc0, cc1, ddc0, ddc1, pc0, pc1, pc2, pc3, pc4, pc5, pc6, pc7, HB⟩
    · have hlit : (regOps Try.f14 13)[16]? = some ({ dst := some 131, op := Op.indexAddr 60 (Operand.tmp 15) (Operand.const (Value.int IntKind.i64 3)), type := 0, pos := "law.go:38", after := #[{ on := 9, ground := Ground.guard }], guard := some (9, true) }) := by kernel_rfl
      obtain rfl := Option.some.inj (hlit.symm.trans hoi)
      have r15 : b.tmps.getD 15 undef = (.pointer (some ⟨kp, 0, none⟩)) := rd ((hT.old 15 (by kernel_rfl)).trans t15)
      refine op_go hoi (want_yes rfl (d := 124) (by kernel_rfl) (hT.at 9 (by kernel_rfl) (pre_of hpre 9 (by kernel_rfl)))) fun K hK => ?_
      clear hT hpre hun hlit hoi
      go_simp
      exact hK _ _ ⟨(), fun _ _ => rfl, rfl, ac0, ac1, bc0, bc1, cc0, cc1, ddc0, ddc1, pc0, pc1, pc2, pc3, pc4, pc5, pc6, pc7, HB⟩
    · have hlit : (regOps Try.f14 13)[17]? = some ({ dst := some 132, op := Op.load 23 (Operand.tmp 131), type := 23, pos := "law.go:38", after := #[{ on := 16, ground := Ground.data }, { on := 9, ground := Ground.guard }], guard := some (9, true) }) := by kernel_rfl
      obtain rfl := Option.some.inj (hlit.symm.trans hoi)
      have r131 : b.tmps.getD 131 undef = (.pointer (some ⟨kp, 6, none⟩)) := rd (hT.at 16 (by kernel_rfl) (pre_of hpre 16 (by kernel_rfl)))
      refine op_go hoi (want_yes rfl (d := 124) (by kernel_rfl) (hT.at 9 (by kernel_rfl) (pre_of hpre 9 (by kernel_rfl)))) fun K hK => ?_
      clear hT hpre hun hlit hoi
      go_simp
      exact hK _ _ ⟨(), fun _ _ => rfl, rfl, ac0, ac1, bc0, bc1, cc0, cc1, ddc0, ddc1, pc0, pc1, pc2, pc3, pc4, pc5, pc6, pc7, HB⟩
    · have hlit : (regOps Try.f14 13)[18]? = some ({ dst := some 133, op := Op.call { callee := Callee.value (Operand.func 53), args := #[Operand.tmp 126, Operand.tmp 128, Operand.tmp 130, Operand.tmp 132], argTypes := #[23, 23, 23, 23] }, type := 3, pos := "law.go:38", after := #[{ on := 11, ground := Ground.data }, { on := 13, ground := Ground.data }, { on := 15, ground := Ground.data }, { on := 17, ground := Ground.data }, { on := 9, ground := Ground.chain }, { on := 9, ground := Ground.guard }], guard := some (9, true) }) := by kernel_rfl
      obtain rfl := Option.some.inj (hlit.symm.trans hoi)
      have r126 : b.tmps.getD 126 undef = (.agg #[.int .i64 p0, .int .i64 p1]) := rd (hT.at 11 (by kernel_rfl) (pre_of hpre 11 (by kernel_rfl)))
      have r128 : b.tmps.getD 128 undef = (.agg #[.int .i64 q0, .int .i64 q1]) := rd (hT.at 13 (by kernel_rfl) (pre_of hpre 13 (by kernel_rfl)))
      have r130 : b.tmps.getD 130 undef = (.agg #[.int .i64 r0, .int .i64 r1]) := rd (hT.at 15 (by kernel_rfl) (pre_of hpre 15 (by kernel_rfl)))
      have r132 : b.tmps.getD 132 undef = (.agg #[.int .i64 s0, .int .i64 s1]) := rd (hT.at 17 (by kernel_rfl) (pre_of hpre 17 (by kernel_rfl)))
      refine op_go hoi (want_yes rfl (d := 124) (by kernel_rfl) (hT.at 9 (by kernel_rfl) (pre_of hpre 9 (by kernel_rfl)))) fun K hK => ?_
      clear hT hpre hun hlit hoi
      go_simp
      go_at_call 53
      refine (circ53 _ _ _ _ _ _ _ _ _).mono ?_; rw [h2]; rintro e w2 ⟨rfl, hb⟩; replace ac0 := ck hb (a := ⟨ka, 0, none⟩) (v := .int .i64 a0) (by go_simp); replace ac1 := ck hb (a := ⟨ka, 1, none⟩) (v := .int .i64 a1) (by go_simp); replace bc0 := ck hb (a := ⟨kb, 0, none⟩) (v := .int .i64 b0) (by go_simp); replace bc1 := ck hb (a := ⟨kb, 1, none⟩) (v := .int .i64 b1) (by go_simp); replace cc0 := ck hb (a := ⟨kc, 0, none⟩) (v := .int .i64 c0) (by go_simp); replace cc1 := ck hb (a := ⟨kc, 1, none⟩) (v := .int .i64 c1) (by go_simp); replace ddc0 := ck hb (a := ⟨kd, 0, none⟩) (v := .int .i64 d0) (by go_simp); replace ddc1 := ck hb (a := ⟨kd, 1, none⟩) (v := .int .i64 d1) (by go_simp); replace pc0 := ck hb (a := ⟨kp, 0, none⟩) (v := .int .i64 p0) (by go_simp); replace pc1 := ck hb (a := ⟨kp, 1, none⟩) (v := .int .i64 p1) (by go_simp); replace pc2 := ck hb (a := ⟨kp, 2, none⟩) (v := .int .i64 q0) (by go_simp); replace pc3 := ck hb (a := ⟨kp, 3, none⟩) (v := .int .i64 q1) (by go_simp); replace pc4 := ck hb (a := ⟨kp, 4, none⟩) (v := .int .i64 r0) (by go_simp); replace pc5 := ck hb (a := ⟨kp, 5, none⟩) (v := .int .i64 r1) (by go_simp); replace pc6 := ck hb (a := ⟨kp, 6, none⟩) (v := .int .i64 s0) (by go_simp); replace pc7 := ck hb (a := ⟨kp, 7, none⟩) (v := .int .i64 s1) (by go_simp); replace HB : Below W.heap.size W w2 := bt HB hb; clear hb
      exact hK _ _ ⟨(), fun _ _ => rfl, rfl, ac0, ac1, bc0, bc1, cc0, cc1, ddc0, ddc1, pc0, pc1, pc2, pc3, pc4, pc5, pc6, pc7, HB⟩
    · have hlit : (regOps Try.f14 13)[19]? = some ({ dst := some 134, op := Op.move (Operand.tmp 14), type := 3, pos := "law.go:38", after := #[{ on := 9, ground := Ground.guard }], guard := some (9, true) }) := by kernel_rfl
      obtain rfl := Option.some.inj (hlit.symm.trans hoi)
      have r14 : b.tmps.getD 14 undef = (.int .i64 k) := rd ((hT.old 14 (by kernel_rfl)).trans t14)
      refine op_go hoi (want_yes rfl (d := 124) (by kernel_rfl) (hT.at 9 (by kernel_rfl) (pre_of hpre 9 (by kernel_rfl)))) fun K hK => ?_
      clear hT hpre hun hlit hoi
      go_simp
      exact hK _ _ ⟨(), fun _ _ => rfl, rfl, ac0, ac1, bc0, bc1, cc0, cc1, ddc0, ddc1, pc0, pc1, pc2, pc3, pc4, pc5, pc6, pc7, HB⟩
    · have hlit : (regOps Try.f14 13)[20]? = some ({ dst := some 135, op := Op.binOp BinOp.eql 3 (Operand.tmp 133) (Operand.tmp 134) 3, type := 4, pos := "law.go:38", after := #[{ on := 18, ground := Ground.data }, { on := 19, ground := Ground.data }, { on := 9, ground := Ground.guard }], guard := some (9, true) }) := by kernel_rfl
      obtain rfl := Option.some.inj (hlit.symm.trans hoi)
      have r133 : b.tmps.getD 133 undef = (.int .i64 k) := rd (hT.at 18 (by kernel_rfl) (pre_of hpre 18 (by kernel_rfl)))
      have r134 : b.tmps.getD 134 undef = (.int .i64 k) := rd (hT.at 19 (by kernel_rfl) (pre_of hpre 19 (by kernel_rfl)))
      refine op_go hoi (want_yes rfl (d := 124) (by kernel_rfl) (hT.at 9 (by kernel_rfl) (pre_of hpre 9 (by kernel_rfl)))) fun K hK => ?_
      clear hT hpre hun hlit hoi
      go_simp
      exact hK _ _ ⟨(), fun _ _ => rfl, rfl, ac0, ac1, bc0, bc1, cc0, cc1, ddc0, ddc1, pc0, pc1, pc2, pc3, pc4, pc5, pc6, pc7, HB⟩
    · have hlit : (regOps Try.f14 13)[21]? = some ({ dst := some 136, op := Op.pick (Operand.tmp 124) (Operand.tmp 135) (Operand.const (Value.bool false)), type := 4, pos := "law.go:38", after := #[{ on := 9, ground := Ground.data }, { on := 20, ground := Ground.data }], guard := none }) := by kernel_rfl
      obtain rfl := Option.some.inj (hlit.symm.trans hoi)
      have r124 : b.tmps.getD 124 undef = (.bool true) := rd (hT.at 9 (by kernel_rfl) (pre_of hpre 9 (by kernel_rfl)))
      have r135 : b.tmps.getD 135 undef = (.bool true) := rd (hT.at 20 (by kernel_rfl) (pre_of hpre 20 (by kernel_rfl)))
      refine op_go hoi (want_all rfl) fun K hK => ?_
      clear hT hpre hun hlit hoi
      go_simp
      exact hK _ _ ⟨(), fun _ _ => rfl, rfl, ac0, ac1, bc0, bc1, cc0, cc1, ddc0, ddc1, pc0, pc1, pc2, pc3, pc4, pc5, pc6, pc7, HB⟩
    · have hlit : (regOps Try.f14 13)[22]? = some ({ dst := some 137, op := Op.move (Operand.tmp 136), type := 4, pos := "law.go:38", after := #[{ on := 21, ground := Ground.data }, { on := 18, ground := Ground.chain }], guard := none }) := by kernel_rfl
      obtain rfl := Option.some.inj (hlit.symm.trans hoi)
      have r136 : b.tmps.getD 136 undef = (.bool true) := rd (hT.at 21 (by kernel_rfl) (pre_of hpre 21 (by kernel_rfl)))
      refine op_go hoi (want_all rfl) fun K hK => ?_
      clear hT hpre hun hlit hoi
      go_simp
      exact hK _ _ ⟨(), fun _ _ => rfl, rfl, ac0, ac1, bc0, bc1, cc0, cc1, ddc0, ddc1, pc0, pc1, pc2, pc3, pc4, pc5, pc6, pc7, HB⟩
    · have hlit : (regOps Try.f14 13)[23]? = some ({ dst := some 138, op := Op.load 23 (Operand.tmp 6), type := 23, pos := "law.go:38", after := #[{ on := 22, ground := Ground.guard }], guard := some (22, true) }) := by kernel_rfl
      obtain rfl := Option.some.inj (hlit.symm.trans hoi)
      have r6 : b.tmps.getD 6 undef = (.pointer (some ⟨ka, 0, none⟩)) := rd ((hT.old 6 (by kernel_rfl)).trans t6)
      refine op_go hoi (want_yes rfl (d := 137) (by kernel_rfl) (hT.at 22 (by kernel_rfl) (pre_of hpre 22 (by kernel_rfl)))) fun K hK => ?_
      clear hT hpre hun hlit hoi
      go_simp
      exact hK _ _ ⟨(), fun _ _ => rfl, rfl, ac0, ac1, bc0, bc1, cc0, cc1, ddc0, ddc1, pc0, pc1, pc2, pc3, pc4, pc5, pc6, pc7, HB⟩
    · have hlit : (regOps Try.f14 13)[24]? = some ({ dst := some 139, op := Op.load 23 (Operand.tmp 7), type := 23, pos := "law.go:38", after := #[{ on := 22, ground := Ground.guard }], guard := some (22, true) }) := by kernel_rfl
      obtain rfl := Option.some.inj (hlit.symm.trans hoi)
      have r7 : b.tmps.getD 7 undef = (.pointer (some ⟨kb, 0, none⟩)) := rd ((hT.old 7 (by kernel_rfl)).trans t7)
      refine op_go hoi (want_yes rfl (d := 137) (by kernel_rfl) (hT.at 22 (by kernel_rfl) (pre_of hpre 22 (by kernel_rfl)))) fun K hK => ?_
      clear hT hpre hun hlit hoi
      go_simp
      exact hK _ _ ⟨(), fun _ _ => rfl, rfl, ac0, ac1, bc0, bc1, cc0, cc1, ddc0, ddc1, pc0, pc1, pc2, pc3, pc4, pc5, pc6, pc7, HB⟩
    · have hlit : (regOps Try.f14 13)[25]? = some ({ dst := some 140, op := Op.load 23 (Operand.tmp 8), type := 23, pos := "law.go:38", after := #[{ on := 22, ground := Ground.guard }], guard := some (22, true) }) := by kernel_rfl
      obtain rfl := Option.some.inj (hlit.symm.trans hoi)
      have r8 : b.tmps.getD 8 undef = (.pointer (some ⟨kc, 0, none⟩)) := rd ((hT.old 8 (by kernel_rfl)).trans t8)
      refine op_go hoi (want_yes rfl (d := 137) (by kernel_rfl) (hT.at 22 (by kernel_rfl) (pre_of hpre 22 (by kernel_rfl)))) fun K hK => ?_
      clear hT hpre hun hlit hoi
      go_simp
      exact hK _ _ ⟨(), fun _ _ => rfl, rfl, ac0, ac1, bc0, bc1, cc0, cc1, ddc0, ddc1, pc0, pc1, pc2, pc3, pc4, pc5, pc6, pc7, HB⟩
    · have hlit : (regOps Try.f14 13)[26]? = some ({ dst := some 141, op := Op.load 23 (Operand.tmp 9), type := 23, pos := "law.go:38", after := #[{ on := 22, ground := Ground.guard }], guard := some (22, true) }) := by kernel_rfl
      obtain rfl := Option.some.inj (hlit.symm.trans hoi)
      have r9 : b.tmps.getD 9 undef = (.pointer (some ⟨kd, 0, none⟩)) := rd ((hT.old 9 (by kernel_rfl)).trans t9)
      refine op_go hoi (want_yes rfl (d := 137) (by kernel_rfl) (hT.at 22 (by kernel_rfl) (pre_of hpre 22 (by kernel_rfl)))) fun K hK => ?_
      clear hT hpre hun hlit hoi
      go_simp
      exact hK _ _ ⟨(), fun _ _ => rfl, rfl, ac0, ac1, bc0, bc1, cc0, cc1, ddc0, ddc1, pc0, pc1, pc2, pc3, pc4, pc5, pc6, pc7, HB⟩
    · have hlit : (regOps Try.f14 13)[27]? = some ({ dst := some 142, op := Op.call { callee := Callee.value (Operand.func 56), args := #[Operand.tmp 138, Operand.tmp 139, Operand.tmp 140, Operand.tmp 141], argTypes := #[23, 23, 23, 23] }, type := 3, pos := "law.go:38", after := #[{ on := 23, ground := Ground.data }, { on := 24, ground := Ground.data }, { on := 25, ground := Ground.data }, { on := 26, ground := Ground.data }, { on := 22, ground := Ground.chain }, { on := 22, ground := Ground.guard }], guard := some (22, true) }) := by kernel_rfl
      obtain rfl := Option.some.inj (hlit.symm.trans hoi)
      have r138 : b.tmps.getD 138 undef = (.agg #[.int .i64 a0, .int .i64 a1]) := rd (hT.at 23 (by kernel_rfl) (pre_of hpre 23 (by kernel_rfl)))
      have r139 : b.tmps.getD 139 undef = (.agg #[.int .i64 b0, .int .i64 b1]) := rd (hT.at 24 (by kernel_rfl) (pre_of hpre 24 (by kernel_rfl)))
      have r140 : b.tmps.getD 140 undef = (.agg #[.int .i64 c0, .int .i64 c1]) := rd (hT.at 25 (by kernel_rfl) (pre_of hpre 25 (by kernel_rfl)))
      have r141 : b.tmps.getD 141 undef = (.agg #[.int .i64 d0, .int .i64 d1]) := rd (hT.at 26 (by kernel_rfl) (pre_of hpre 26 (by kernel_rfl)))
      refine op_go hoi (want_yes rfl (d := 137) (by kernel_rfl) (hT.at 22 (by kernel_rfl) (pre_of hpre 22 (by kernel_rfl)))) fun K hK => ?_
      clear hT hpre hun hlit hoi
      go_simp
      go_at_call 56
      refine (meet56 _ _ _ _ _ _ _ _ _).mono ?_; rw [h3]; rintro e w2 ⟨rfl, hb⟩; replace ac0 := ck hb (a := ⟨ka, 0, none⟩) (v := .int .i64 a0) (by go_simp); replace ac1 := ck hb (a := ⟨ka, 1, none⟩) (v := .int .i64 a1) (by go_simp); replace bc0 := ck hb (a := ⟨kb, 0, none⟩) (v := .int .i64 b0) (by go_simp); replace bc1 := ck hb (a := ⟨kb, 1, none⟩) (v := .int .i64 b1) (by go_simp); replace cc0 := ck hb (a := ⟨kc, 0, none⟩) (v := .int .i64 c0) (by go_simp); replace cc1 := ck hb (a := ⟨kc, 1, none⟩) (v := .int .i64 c1) (by go_simp); replace ddc0 := ck hb (a := ⟨kd, 0, none⟩) (v := .int .i64 d0) (by go_simp); replace ddc1 := ck hb (a := ⟨kd, 1, none⟩) (v := .int .i64 d1) (by go_simp); replace pc0 := ck hb (a := ⟨kp, 0, none⟩) (v := .int .i64 p0) (by go_simp); replace pc1 := ck hb (a := ⟨kp, 1, none⟩) (v := .int .i64 p1) (by go_simp); replace pc2 := ck hb (a := ⟨kp, 2, none⟩) (v := .int .i64 q0) (by go_simp); replace pc3 := ck hb (a := ⟨kp, 3, none⟩) (v := .int .i64 q1) (by go_simp); replace pc4 := ck hb (a := ⟨kp, 4, none⟩) (v := .int .i64 r0) (by go_simp); replace pc5 := ck hb (a := ⟨kp, 5, none⟩) (v := .int .i64 r1) (by go_simp); replace pc6 := ck hb (a := ⟨kp, 6, none⟩) (v := .int .i64 s0) (by go_simp); replace pc7 := ck hb (a := ⟨kp, 7, none⟩) (v := .int .i64 s1) (by go_simp); replace HB : Below W.heap.size W w2 := bt HB hb; clear hb
      exact hK _ _ ⟨(), fun _ _ => rfl, rfl, ac0, ac1, bc0, bc1, cc0, cc1, ddc0, ddc1, pc0, pc1, pc2, pc3, pc4, pc5, pc6, pc7, HB⟩
    · have hlit : (regOps Try.f14 13)[28]? = some ({ dst := some 143, op := Op.indexAddr 60 (Operand.tmp 15) (Operand.const (Value.int IntKind.i64 0)), type := 0, pos := "law.go:38", after := #[{ on := 22, ground := Ground.guard }], guard := some (22, true) }) := by kernel_rfl
      obtain rfl := Option.some.inj (hlit.symm.trans hoi)
      have r15 : b.tmps.getD 15 undef = (.pointer (some ⟨kp, 0, none⟩)) := rd ((hT.old 15 (by kernel_rfl)).trans t15)
      refine op_go hoi (want_yes rfl (d := 137) (by kernel_rfl) (hT.at 22 (by kernel_rfl) (pre_of hpre 22 (by kernel_rfl)))) fun K hK => ?_
      clear hT hpre hun hlit hoi
      go_simp
      exact hK _ _ ⟨(), fun _ _ => rfl, rfl, ac0, ac1, bc0, bc1, cc0, cc1, ddc0, ddc1, pc0, pc1, pc2, pc3, pc4, pc5, pc6, pc7, HB⟩
    · have hlit : (regOps Try.f14 13)[29]? = some ({ dst := some 144, op := Op.load 23 (Operand.tmp 143), type := 23, pos := "law.go:38", after := #[{ on := 28, ground := Ground.data }, { on := 22, ground := Ground.guard }], guard := some (22, true) }) := by kernel_rfl
      obtain rfl := Option.some.inj (hlit.symm.trans hoi)
      have r143 : b.tmps.getD 143 undef = (.pointer (some ⟨kp, 0, none⟩)) := rd (hT.at 28 (by kernel_rfl) (pre_of hpre 28 (by kernel_rfl)))
      refine op_go hoi (want_yes rfl (d := 137) (by kernel_rfl) (hT.at 22 (by kernel_rfl) (pre_of hpre 22 (by kernel_rfl)))) fun K hK => ?_
      clear hT hpre hun hlit hoi
      go_simp
      exact hK _ _ ⟨(), fun _ _ => rfl, rfl, ac0, ac1, bc0, bc1, cc0, cc1, ddc0, ddc1, pc0, pc1, pc2, pc3, pc4, pc5, pc6, pc7, HB⟩
    · have hlit : (regOps Try.f14 13)[30]? = some ({ dst := some 145, op := Op.indexAddr 60 (Operand.tmp 15) (Operand.const (Value.int IntKind.i64 1)), type := 0, pos := "law.go:38", after := #[{ on := 22, ground := Ground.guard }], guard := some (22, true) }) := by kernel_rfl
      obtain rfl := Option.some.inj (hlit.symm.trans hoi)
      have r15 : b.tmps.getD 15 undef = (.pointer (some ⟨kp, 0, none⟩)) := rd ((hT.old 15 (by kernel_rfl)).trans t15)
      refine op_go hoi (want_yes rfl (d := 137) (by kernel_rfl) (hT.at 22 (by kernel_rfl) (pre_of hpre 22 (by kernel_rfl)))) fun K hK => ?_
      clear hT hpre hun hlit hoi
      go_simp
      exact hK _ _ ⟨(), fun _ _ => rfl, rfl, ac0, ac1, bc0, bc1, cc0, cc1, ddc0, ddc1, pc0, pc1, pc2, pc3, pc4, pc5, pc6, pc7, HB⟩
    · have hlit : (regOps Try.f14 13)[31]? = some ({ dst := some 146, op := Op.load 23 (Operand.tmp 145), type := 23, pos := "law.go:38", after := #[{ on := 30, ground := Ground.data }, { on := 22, ground := Ground.guard }], guard := some (22, true) }) := by kernel_rfl
      obtain rfl := Option.some.inj (hlit.symm.trans hoi)
      have r145 : b.tmps.getD 145 undef = (.pointer (some ⟨kp, 2, none⟩)) := rd (hT.at 30 (by kernel_rfl) (pre_of hpre 30 (by kernel_rfl)))
      refine op_go hoi (want_yes rfl (d := 137) (by kernel_rfl) (hT.at 22 (by kernel_rfl) (pre_of hpre 22 (by kernel_rfl)))) fun K hK => ?_
      clear hT hpre hun hlit hoi
      go_simp
      exact hK _ _ ⟨(), fun _ _ => rfl, rfl, ac0, ac1, bc0, bc1, cc0, cc1, ddc0, ddc1, pc0, pc1, pc2, pc3, pc4, pc5, pc6, pc7, HB⟩
    · have hlit : (regOps Try.f14 13)[32]? = some ({ dst := some 147, op := Op.indexAddr 60 (Operand.tmp 15) (Operand.const (Value.int IntKind.i64 2)), type := 0, pos := "law.go:38", after := #[{ on := 22, ground := Ground.guard }], guard := some (22, true) }) := by kernel_rfl
      obtain rfl := Option.some.inj (hlit.symm.trans hoi)
      have r15 : b.tmps.getD 15 undef = (.pointer (some ⟨kp, 0, none⟩)) := rd ((hT.old 15 (by kernel_rfl)).trans t15)
      refine op_go hoi (want_yes rfl (d := 137) (by kernel_rfl) (hT.at 22 (by kernel_rfl) (pre_of hpre 22 (by kernel_rfl)))) fun K hK => ?_
      clear hT hpre hun hlit hoi
      go_simp
      exact hK _ _ ⟨(), fun _ _ => rfl, rfl, ac0, ac1, bc0, bc1, cc0, cc1, ddc0, ddc1, pc0, pc1, pc2, pc3, pc4, pc5, pc6, pc7, HB⟩
    · have hlit : (regOps Try.f14 13)[33]? = some ({ dst := some 148, op := Op.load 23 (Operand.tmp 147), type := 23, pos := "law.go:38", after := #[{ on := 32, ground := Ground.data }, { on := 22, ground := Ground.guard }], guard := some (22, true) }) := by kernel_rfl
      obtain rfl := Option.some.inj (hlit.symm.trans hoi)
      have r147 : b.tmps.getD 147 undef = (.pointer (some ⟨kp, 4, none⟩)) := rd (hT.at 32 (by kernel_rfl) (pre_of hpre 32 (by kernel_rfl)))
      refine op_go hoi (want_yes rfl (d := 137) (by kernel_rfl) (hT.at 22 (by kernel_rfl) (pre_of hpre 22 (by kernel_rfl)))) fun K hK => ?_
      clear hT hpre hun hlit hoi
      go_simp
      exact hK _ _ ⟨(), fun _ _ => rfl, rfl, ac0, ac1, bc0, bc1, cc0, cc1, ddc0, ddc1, pc0, pc1, pc2, pc3, pc4, pc5, pc6, pc7, HB⟩
    · have hlit : (regOps Try.f14 13)[34]? = some ({ dst := some 149, op := Op.indexAddr 60 (Operand.tmp 15) (Operand.const (Value.int IntKind.i64 3)), type := 0, pos := "law.go:38", after := #[{ on := 22, ground := Ground.guard }], guard := some (22, true) }) := by kernel_rfl
      obtain rfl := Option.some.inj (hlit.symm.trans hoi)
      have r15 : b.tmps.getD 15 undef = (.pointer (some ⟨kp, 0, none⟩)) := rd ((hT.old 15 (by kernel_rfl)).trans t15)
      refine op_go hoi (want_yes rfl (d := 137) (by kernel_rfl) (hT.at 22 (by kernel_rfl) (pre_of hpre 22 (by kernel_rfl)))) fun K hK => ?_
      clear hT hpre hun hlit hoi
      go_simp
      exact hK _ _ ⟨(), fun _ _ => rfl, rfl, ac0, ac1, bc0, bc1, cc0, cc1, ddc0, ddc1, pc0, pc1, pc2, pc3, pc4, pc5, pc6, pc7, HB⟩
    · have hlit : (regOps Try.f14 13)[35]? = some ({ dst := some 150, op := Op.load 23 (Operand.tmp 149), type := 23, pos := "law.go:38", after := #[{ on := 34, ground := Ground.data }, { on := 22, ground := Ground.guard }], guard := some (22, true) }) := by kernel_rfl
      obtain rfl := Option.some.inj (hlit.symm.trans hoi)
      have r149 : b.tmps.getD 149 undef = (.pointer (some ⟨kp, 6, none⟩)) := rd (hT.at 34 (by kernel_rfl) (pre_of hpre 34 (by kernel_rfl)))
      refine op_go hoi (want_yes rfl (d := 137) (by kernel_rfl) (hT.at 22 (by kernel_rfl) (pre_of hpre 22 (by kernel_rfl)))) fun K hK => ?_
      clear hT hpre hun hlit hoi
      go_simp
      exact hK _ _ ⟨(), fun _ _ => rfl, rfl, ac0, ac1, bc0, bc1, cc0, cc1, ddc0, ddc1, pc0, pc1, pc2, pc3, pc4, pc5, pc6, pc7, HB⟩
    · have hlit : (regOps Try.f14 13)[36]? = some ({ dst := some 151, op := Op.call { callee := Callee.value (Operand.func 56), args := #[Operand.tmp 144, Operand.tmp 146, Operand.tmp 148, Operand.tmp 150], argTypes := #[23, 23, 23, 23] }, type := 3, pos := "law.go:38", after := #[{ on := 29, ground := Ground.data }, { on := 31, ground := Ground.data }, { on := 33, ground := Ground.data }, { on := 35, ground := Ground.data }, { on := 27, ground := Ground.chain }, { on := 22, ground := Ground.guard }], guard := some (22, true) }) := by kernel_rfl
      obtain rfl := Option.some.inj (hlit.symm.trans hoi)
      have r144 : b.tmps.getD 144 undef = (.agg #[.int .i64 p0, .int .i64 p1]) := rd (hT.at 29 (by kernel_rfl) (pre_of hpre 29 (by kernel_rfl)))
      have r146 : b.tmps.getD 146 undef = (.agg #[.int .i64 q0, .int .i64 q1]) := rd (hT.at 31 (by kernel_rfl) (pre_of hpre 31 (by kernel_rfl)))
      have r148 : b.tmps.getD 148 undef = (.agg #[.int .i64 r0, .int .i64 r1]) := rd (hT.at 33 (by kernel_rfl) (pre_of hpre 33 (by kernel_rfl)))
      have r150 : b.tmps.getD 150 undef = (.agg #[.int .i64 s0, .int .i64 s1]) := rd (hT.at 35 (by kernel_rfl) (pre_of hpre 35 (by kernel_rfl)))
      refine op_go hoi (want_yes rfl (d := 137) (by kernel_rfl) (hT.at 22 (by kernel_rfl) (pre_of hpre 22 (by kernel_rfl)))) fun K hK => ?_
      clear hT hpre hun hlit hoi
      go_simp
      go_at_call 56
      refine (meet56 _ _ _ _ _ _ _ _ _).mono ?_; rw [h4]; rintro e w2 ⟨rfl, hb⟩; replace ac0 := ck hb (a := ⟨ka, 0, none⟩) (v := .int .i64 a0) (by go_simp); replace ac1 := ck hb (a := ⟨ka, 1, none⟩) (v := .int .i64 a1) (by go_simp); replace bc0 := ck hb (a := ⟨kb, 0, none⟩) (v := .int .i64 b0) (by go_simp); replace bc1 := ck hb (a := ⟨kb, 1, none⟩) (v := .int .i64 b1) (by go_simp); replace cc0 := ck hb (a := ⟨kc, 0, none⟩) (v := .int .i64 c0) (by go_simp); replace cc1 := ck hb (a := ⟨kc, 1, none⟩) (v := .int .i64 c1) (by go_simp); replace ddc0 := ck hb (a := ⟨kd, 0, none⟩) (v := .int .i64 d0) (by go_simp); replace ddc1 := ck hb (a := ⟨kd, 1, none⟩) (v := .int .i64 d1) (by go_simp); replace pc0 := ck hb (a := ⟨kp, 0, none⟩) (v := .int .i64 p0) (by go_simp); replace pc1 := ck hb (a := ⟨kp, 1, none⟩) (v := .int .i64 p1) (by go_simp); replace pc2 := ck hb (a := ⟨kp, 2, none⟩) (v := .int .i64 q0) (by go_simp); replace pc3 := ck hb (a := ⟨kp, 3, none⟩) (v := .int .i64 q1) (by go_simp); replace pc4 := ck hb (a := ⟨kp, 4, none⟩) (v := .int .i64 r0) (by go_simp); replace pc5 := ck hb (a := ⟨kp, 5, none⟩) (v := .int .i64 r1) (by go_simp); replace pc6 := ck hb (a := ⟨kp, 6, none⟩) (v := .int .i64 s0) (by go_simp); replace pc7 := ck hb (a := ⟨kp, 7, none⟩) (v := .int .i64 s1) (by go_simp); replace HB : Below W.heap.size W w2 := bt HB hb; clear hb
      exact hK _ _ ⟨(), fun _ _ => rfl, rfl, ac0, ac1, bc0, bc1, cc0, cc1, ddc0, ddc1, pc0, pc1, pc2, pc3, pc4, pc5, pc6, pc7, HB⟩
    · have hlit : (regOps Try.f14 13)[37]? = some ({ dst := some 152, op := Op.binOp BinOp.eql 3 (Operand.tmp 142) (Operand.tmp 151) 3, type := 4, pos := "law.go:38", after := #[{ on := 27, ground := Ground.data }, { on := 36, ground := Ground.data }, { on := 22, ground := Ground.guard }], guard := some (22, true) }) := by kernel_rfl
      obtain rfl := Option.some.inj (hlit.symm.trans hoi)
      have r142 : b.tmps.getD 142 undef = (.int .i64 n) := rd (hT.at 27 (by kernel_rfl) (pre_of hpre 27 (by kernel_rfl)))
      have r151 : b.tmps.getD 151 undef = (.int .i64 n) := rd (hT.at 36 (by kernel_rfl) (pre_of hpre 36 (by kernel_rfl)))
      refine op_go hoi (want_yes rfl (d := 137) (by kernel_rfl) (hT.at 22 (by kernel_rfl) (pre_of hpre 22 (by kernel_rfl)))) fun K hK => ?_
      clear hT hpre hun hlit hoi
      go_simp
      exact hK _ _ ⟨(), fun _ _ => rfl, rfl, ac0, ac1, bc0, bc1, cc0, cc1, ddc0, ddc1, pc0, pc1, pc2, pc3, pc4, pc5, pc6, pc7, HB⟩
    · have hlit : (regOps Try.f14 13)[38]? = some ({ dst := some 153, op := Op.pick (Operand.tmp 137) (Operand.tmp 152) (Operand.const (Value.bool false)), type := 4, pos := "law.go:38", after := #[{ on := 22, ground := Ground.data }, { on := 37, ground := Ground.data }], guard := none }) := by kernel_rfl
      obtain rfl := Option.some.inj (hlit.symm.trans hoi)
      have r137 : b.tmps.getD 137 undef = (.bool true) := rd (hT.at 22 (by kernel_rfl) (pre_of hpre 22 (by kernel_rfl)))
      have r152 : b.tmps.getD 152 undef = (.bool true) := rd (hT.at 37 (by kernel_rfl) (pre_of hpre 37 (by kernel_rfl)))
      refine op_go hoi (want_all rfl) fun K hK => ?_
      clear hT hpre hun hlit hoi
      go_simp
      exact hK _ _ ⟨(), fun _ _ => rfl, rfl, ac0, ac1, bc0, bc1, cc0, cc1, ddc0, ddc1, pc0, pc1, pc2, pc3, pc4, pc5, pc6, pc7, HB⟩
    · have hlit : (regOps Try.f14 13)[39]? = some ({ dst := some 154, op := Op.move (Operand.tmp 153), type := 4, pos := "law.go:38", after := #[{ on := 38, ground := Ground.data }, { on := 36, ground := Ground.chain }], guard := none }) := by kernel_rfl
      obtain rfl := Option.some.inj (hlit.symm.trans hoi)
      have r153 : b.tmps.getD 153 undef = (.bool true) := rd (hT.at 38 (by kernel_rfl) (pre_of hpre 38 (by kernel_rfl)))
      refine op_go hoi (want_all rfl) fun K hK => ?_
      clear hT hpre hun hlit hoi
      go_simp
      exact hK _ _ ⟨(), fun _ _ => rfl, rfl, ac0, ac1, bc0, bc1, cc0, cc1, ddc0, ddc1, pc0, pc1, pc2, pc3, pc4, pc5, pc6, pc7, HB⟩
    · have hlit : (regOps Try.f14 13)[40]? = some ({ dst := some 155, op := Op.call { callee := Callee.value (Operand.func 58), args := #[], argTypes := #[] }, type := 4, pos := "law.go:38", after := #[{ on := 39, ground := Ground.chain }, { on := 39, ground := Ground.guard }], guard := some (39, true) }) := by kernel_rfl
      obtain rfl := Option.some.inj (hlit.symm.trans hoi)
      refine op_go hoi (want_yes rfl (d := 154) (by kernel_rfl) (hT.at 39 (by kernel_rfl) (pre_of hpre 39 (by kernel_rfl)))) fun K hK => ?_
      clear hT hpre hun hlit hoi
      go_simp
      go_at_call 58
      refine (awake58 _).mono ?_; rintro e w2 ⟨rfl, hb⟩; replace ac0 := ck hb (a := ⟨ka, 0, none⟩) (v := .int .i64 a0) (by go_simp); replace ac1 := ck hb (a := ⟨ka, 1, none⟩) (v := .int .i64 a1) (by go_simp); replace bc0 := ck hb (a := ⟨kb, 0, none⟩) (v := .int .i64 b0) (by go_simp); replace bc1 := ck hb (a := ⟨kb, 1, none⟩) (v := .int .i64 b1) (by go_simp); replace cc0 := ck hb (a := ⟨kc, 0, none⟩) (v := .int .i64 c0) (by go_simp); replace cc1 := ck hb (a := ⟨kc, 1, none⟩) (v := .int .i64 c1) (by go_simp); replace ddc0 := ck hb (a := ⟨kd, 0, none⟩) (v := .int .i64 d0) (by go_simp); replace ddc1 := ck hb (a := ⟨kd, 1, none⟩) (v := .int .i64 d1) (by go_simp); replace pc0 := ck hb (a := ⟨kp, 0, none⟩) (v := .int .i64 p0) (by go_simp); replace pc1 := ck hb (a := ⟨kp, 1, none⟩) (v := .int .i64 p1) (by go_simp); replace pc2 := ck hb (a := ⟨kp, 2, none⟩) (v := .int .i64 q0) (by go_simp); replace pc3 := ck hb (a := ⟨kp, 3, none⟩) (v := .int .i64 q1) (by go_simp); replace pc4 := ck hb (a := ⟨kp, 4, none⟩) (v := .int .i64 r0) (by go_simp); replace pc5 := ck hb (a := ⟨kp, 5, none⟩) (v := .int .i64 r1) (by go_simp); replace pc6 := ck hb (a := ⟨kp, 6, none⟩) (v := .int .i64 s0) (by go_simp); replace pc7 := ck hb (a := ⟨kp, 7, none⟩) (v := .int .i64 s1) (by go_simp); replace HB : Below W.heap.size W w2 := bt HB hb; clear hb
      exact hK _ _ ⟨(), fun _ _ => rfl, rfl, ac0, ac1, bc0, bc1, cc0, cc1, ddc0, ddc1, pc0, pc1, pc2, pc3, pc4, pc5, pc6, pc7, HB⟩
    · have hlit : (regOps Try.f14 13)[41]? = some ({ dst := some 156, op := Op.pick (Operand.tmp 154) (Operand.tmp 155) (Operand.const (Value.bool false)), type := 4, pos := "law.go:38", after := #[{ on := 39, ground := Ground.data }, { on := 40, ground := Ground.data }], guard := none }) := by kernel_rfl
      obtain rfl := Option.some.inj (hlit.symm.trans hoi)
      have r154 : b.tmps.getD 154 undef = (.bool true) := rd (hT.at 39 (by kernel_rfl) (pre_of hpre 39 (by kernel_rfl)))
      have r155 : b.tmps.getD 155 undef = (.bool true) := rd (hT.at 40 (by kernel_rfl) (pre_of hpre 40 (by kernel_rfl)))
      refine op_go hoi (want_all rfl) fun K hK => ?_
      clear hT hpre hun hlit hoi
      go_simp
      exact hK _ _ ⟨(), fun _ _ => rfl, rfl, ac0, ac1, bc0, bc1, cc0, cc1, ddc0, ddc1, pc0, pc1, pc2, pc3, pc4, pc5, pc6, pc7, HB⟩
    · have hlit : (regOps Try.f14 13)[42]? = some ({ dst := some 12, op := Op.assign (Operand.tmp 156), type := 4, pos := "law.go:38", after := #[{ on := 41, ground := Ground.data }, { on := 40, ground := Ground.chain }, { on := 0, ground := Ground.phase }, { on := 1, ground := Ground.phase }, { on := 2, ground := Ground.phase }, { on := 3, ground := Ground.phase }, { on := 4, ground := Ground.phase }, { on := 5, ground := Ground.phase }, { on := 6, ground := Ground.phase }, { on := 7, ground := Ground.phase }, { on := 8, ground := Ground.phase }, { on := 9, ground := Ground.phase }, { on := 10, ground := Ground.phase }, { on := 11, ground := Ground.phase }, { on := 12, ground := Ground.phase }, { on := 13, ground := Ground.phase }, { on := 14, ground := Ground.phase }, { on := 15, ground := Ground.phase }, { on := 16, ground := Ground.phase }, { on := 17, ground := Ground.phase }, { on := 18, ground := Ground.phase }, { on := 19, ground := Ground.phase }, { on := 20, ground := Ground.phase }, { on := 21, ground := Ground.phase }, { on := 22, ground := Ground.phase }, { on := 23, ground := Ground.phase }, { on := 24, ground := Ground.phase }, { on := 25, ground := Ground.phase }, { on := 26, ground := Ground.phase }, { on := 27, ground := Ground.phase }, { on := 28, ground := Ground.phase }, { on := 29, ground := Ground.phase }, { on := 30, ground := Ground.phase }, { on := 31, ground := Ground.phase }, { on := 32, ground := Ground.phase }, { on := 33, ground := Ground.phase }, { on := 34, ground := Ground.phase }, { on := 35, ground := Ground.phase }, { on := 36, ground := Ground.phase }, { on := 37, ground := Ground.phase }, { on := 38, ground := Ground.phase }, { on := 39, ground := Ground.phase }, { on := 40, ground := Ground.phase }, { on := 41, ground := Ground.phase }], guard := none }) := by kernel_rfl
      obtain rfl := Option.some.inj (hlit.symm.trans hoi)
      have r156 : b.tmps.getD 156 undef = (.bool true) := rd (hT.at 41 (by kernel_rfl) (pre_of hpre 41 (by kernel_rfl)))
      refine op_go hoi (want_all rfl) fun K hK => ?_
      clear hT hpre hun hlit hoi
      go_simp
      exact hK _ _ ⟨(), fun _ _ => rfl, rfl, ac0, ac1, bc0, bc1, cc0, cc1, ddc0, ddc1, pc0, pc1, pc2, pc3, pc4, pc5, pc6, pc7, HB⟩
  · intro g b w' hT hS
    rw [hT.all ht]
    have hn : (regOps Try.f14 13).size = 43 := by kernel_rfl
    rw [hn]
    exact he w' hS

end Go.Proofs.Ytandgbpbabmdfaa
