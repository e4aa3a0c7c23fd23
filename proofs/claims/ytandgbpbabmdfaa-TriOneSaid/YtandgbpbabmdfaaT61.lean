import Derived.Test.YtandgbpbabmdfaaR38
namespace Go.Proofs.Ytandgbpbabmdfaa
open Go.RowKit
attribute [local go_sem high] eq23 eq25 mn_two mx_two mn_three mx_three mx_four

/-- What each operation of the region leaves. -/
def region39_0V (a0 a1 : Int) (kg kk c d : Nat) : Nat → Value
  | 0 => .slice (some ⟨kg, 0, none⟩) 3 c
  | 1 => .int .i64 0
  | 2 => .pointer (some ⟨kg, 0, none⟩)
  | 3 => .agg #[.int .i64 a0, .int .i64 a1]
  | 4 => .slice (some ⟨kk, 0, none⟩) 3 d
  | 5 => .int .i64 0
  | 6 => .pointer (some ⟨kk, 0, none⟩)
  | 7 => .agg #[.int .i64 a0, .int .i64 a1]
  | 8 => .bool false
  | _ => undef

set_option maxHeartbeats 4000000 in
set_option maxRecDepth 100000 in
theorem region39_0 (a0 a1 b0 b1 c0 c1 : Int) (kg kk c d : Nat) (W : World)  {id : Nat} {ops : Array Oper} {Q : Exit → Act → World → Prop} {a : Act} {w : World}
    (ho : ops = (regOps Try.f39 6)) (hsz : a.tmps.size = 26) (t0 : a.tmps[0]? = some (.slice (some ⟨kg, 0, none⟩) 3 c)) (t1 : a.tmps[1]? = some (.slice (some ⟨kk, 0, none⟩) 3 d)) (t5 : a.tmps[5]? = some (.int .i64 0))
    (h0 : w.drew.cell? ⟨kg, 0, none⟩ = some (.int .i64 a0) ∧ w.drew.cell? ⟨kg, 1, none⟩ = some (.int .i64 a1) ∧ w.drew.cell? ⟨kg, 2, none⟩ = some (.int .i64 b0) ∧ w.drew.cell? ⟨kg, 3, none⟩ = some (.int .i64 b1) ∧ w.drew.cell? ⟨kg, 4, none⟩ = some (.int .i64 c0) ∧ w.drew.cell? ⟨kg, 5, none⟩ = some (.int .i64 c1) ∧ w.drew.cell? ⟨kk, 0, none⟩ = some (.int .i64 a0) ∧ w.drew.cell? ⟨kk, 1, none⟩ = some (.int .i64 a1) ∧ w.drew.cell? ⟨kk, 2, none⟩ = some (.int .i64 b0) ∧ w.drew.cell? ⟨kk, 3, none⟩ = some (.int .i64 b1) ∧ w.drew.cell? ⟨kk, 4, none⟩ = some (.int .i64 c0) ∧ w.drew.cell? ⟨kk, 5, none⟩ = some (.int .i64 c1) ∧ Below W.heap.size W w.drew)
    (he : ∀ w', w'.cell? ⟨kg, 0, none⟩ = some (.int .i64 a0) ∧ w'.cell? ⟨kg, 1, none⟩ = some (.int .i64 a1) ∧ w'.cell? ⟨kg, 2, none⟩ = some (.int .i64 b0) ∧ w'.cell? ⟨kg, 3, none⟩ = some (.int .i64 b1) ∧ w'.cell? ⟨kg, 4, none⟩ = some (.int .i64 c0) ∧ w'.cell? ⟨kg, 5, none⟩ = some (.int .i64 c1) ∧ w'.cell? ⟨kk, 0, none⟩ = some (.int .i64 a0) ∧ w'.cell? ⟨kk, 1, none⟩ = some (.int .i64 a1) ∧ w'.cell? ⟨kk, 2, none⟩ = some (.int .i64 b0) ∧ w'.cell? ⟨kk, 3, none⟩ = some (.int .i64 b1) ∧ w'.cell? ⟨kk, 4, none⟩ = some (.int .i64 c0) ∧ w'.cell? ⟨kk, 5, none⟩ = some (.int .i64 c1) ∧ Below W.heap.size W w' → Q .normal ⟨(((((((((a.tmps.setIfInBounds 17 (.slice (some ⟨kg, 0, none⟩) 3 c)).setIfInBounds 18 (.int .i64 0)).setIfInBounds 19 (.pointer (some ⟨kg, 0, none⟩))).setIfInBounds 20 (.agg #[.int .i64 a0, .int .i64 a1])).setIfInBounds 21 (.slice (some ⟨kk, 0, none⟩) 3 d)).setIfInBounds 22 (.int .i64 0)).setIfInBounds 23 (.pointer (some ⟨kk, 0, none⟩))).setIfInBounds 24 (.agg #[.int .i64 a0, .int .i64 a1])).setIfInBounds 25 (.bool false)), a.defers⟩ w') :
    (Code.region id ops true).wp Try.prog Q a w := by
  have ht : tidy (regOps Try.f39 6) a.tmps.size = true := by rw [hsz]; kernel_rfl
  refine region_tab (G := Unit) (fun _ => (region39_0V a0 a1 kg kk c d )) (fun _ _ w' => w'.cell? ⟨kg, 0, none⟩ = some (.int .i64 a0) ∧ w'.cell? ⟨kg, 1, none⟩ = some (.int .i64 a1) ∧ w'.cell? ⟨kg, 2, none⟩ = some (.int .i64 b0) ∧ w'.cell? ⟨kg, 3, none⟩ = some (.int .i64 b1) ∧ w'.cell? ⟨kg, 4, none⟩ = some (.int .i64 c0) ∧ w'.cell? ⟨kg, 5, none⟩ = some (.int .i64 c1) ∧ w'.cell? ⟨kk, 0, none⟩ = some (.int .i64 a0) ∧ w'.cell? ⟨kk, 1, none⟩ = some (.int .i64 a1) ∧ w'.cell? ⟨kk, 2, none⟩ = some (.int .i64 b0) ∧ w'.cell? ⟨kk, 3, none⟩ = some (.int .i64 b1) ∧ w'.cell? ⟨kk, 4, none⟩ = some (.int .i64 c0) ∧ w'.cell? ⟨kk, 5, none⟩ = some (.int .i64 c1) ∧ Below W.heap.size W w') () (by kernel_rfl) ho ht h0 ?_ ?_
  · intro i o hoi g L b w' hun hpre hT hS
    clear he h0 ho hsz ht
    have hi : i < (regOps Try.f39 6).size := (Array.getElem?_eq_some_iff.1 hoi).1
    rw [show (regOps Try.f39 6).size = 9 by kernel_rfl] at hi
    obtain ⟨gc0, gc1, gc2, gc3, gc4, gc5, kc0, kc1, kc2, kc3, kc4, kc5, HB⟩ := hS
    have hcases : i = 0 ∨ i = 1 ∨ i = 2 ∨ i = 3 ∨ i = 4 ∨ i = 5 ∨ i = 6 ∨ i = 7 ∨ i = 8 := by omega
    rcases hcases with rfl | rfl | rfl | rfl | rfl | rfl | rfl | rfl | rfl
    · have hlit : (regOps Try.f39 6)[0]? = some ({ dst := some 17, op := Op.move (Operand.tmp 0), type := 41, pos := "alike.go:28", after := #[], guard := none }) := by kernel_rfl
      obtain rfl := Option.some.inj (hlit.symm.trans hoi)
      have r0 : b.tmps.getD 0 undef = (.slice (some ⟨kg, 0, none⟩) 3 c) := rd ((hT.old 0 (by kernel_rfl)).trans t0)
      refine op_go hoi (want_all rfl) fun K hK => ?_
      clear hT hpre hun hlit hoi
      go_simp
      exact hK _ _ ⟨(), fun _ _ => rfl, rfl, gc0, gc1, gc2, gc3, gc4, gc5, kc0, kc1, kc2, kc3, kc4, kc5, HB⟩
    · have hlit : (regOps Try.f39 6)[1]? = some ({ dst := some 18, op := Op.move (Operand.tmp 5), type := 3, pos := "alike.go:28", after := #[], guard := none }) := by kernel_rfl
      obtain rfl := Option.some.inj (hlit.symm.trans hoi)
      have r5 : b.tmps.getD 5 undef = (.int .i64 0) := rd ((hT.old 5 (by kernel_rfl)).trans t5)
      refine op_go hoi (want_all rfl) fun K hK => ?_
      clear hT hpre hun hlit hoi
      go_simp
      exact hK _ _ ⟨(), fun _ _ => rfl, rfl, gc0, gc1, gc2, gc3, gc4, gc5, kc0, kc1, kc2, kc3, kc4, kc5, HB⟩
    · have hlit : (regOps Try.f39 6)[2]? = some ({ dst := some 19, op := Op.indexAddr 41 (Operand.tmp 17) (Operand.tmp 18), type := 0, pos := "alike.go:28", after := #[{ on := 0, ground := Ground.data }, { on := 1, ground := Ground.data }], guard := none }) := by kernel_rfl
      obtain rfl := Option.some.inj (hlit.symm.trans hoi)
      have r17 : b.tmps.getD 17 undef = (.slice (some ⟨kg, 0, none⟩) 3 c) := rd (hT.at 0 (by kernel_rfl) (pre_of hpre 0 (by kernel_rfl)))
      have r18 : b.tmps.getD 18 undef = (.int .i64 0) := rd (hT.at 1 (by kernel_rfl) (pre_of hpre 1 (by kernel_rfl)))
      refine op_go hoi (want_all rfl) fun K hK => ?_
      clear hT hpre hun hlit hoi
      go_simp
      exact hK _ _ ⟨(), fun _ _ => rfl, rfl, gc0, gc1, gc2, gc3, gc4, gc5, kc0, kc1, kc2, kc3, kc4, kc5, HB⟩
    · have hlit : (regOps Try.f39 6)[3]? = some ({ dst := some 20, op := Op.load 23 (Operand.tmp 19), type := 23, pos := "alike.go:28", after := #[{ on := 2, ground := Ground.data }], guard := none }) := by kernel_rfl
      obtain rfl := Option.some.inj (hlit.symm.trans hoi)
      have r19 : b.tmps.getD 19 undef = (.pointer (some ⟨kg, 0, none⟩)) := rd (hT.at 2 (by kernel_rfl) (pre_of hpre 2 (by kernel_rfl)))
      refine op_go hoi (want_all rfl) fun K hK => ?_
      clear hT hpre hun hlit hoi
      go_simp
      exact hK _ _ ⟨(), fun _ _ => rfl, rfl, gc0, gc1, gc2, gc3, gc4, gc5, kc0, kc1, kc2, kc3, kc4, kc5, HB⟩
    · have hlit : (regOps Try.f39 6)[4]? = some ({ dst := some 21, op := Op.move (Operand.tmp 1), type := 41, pos := "alike.go:28", after := #[], guard := none }) := by kernel_rfl
      obtain rfl := Option.some.inj (hlit.symm.trans hoi)
      have r1 : b.tmps.getD 1 undef = (.slice (some ⟨kk, 0, none⟩) 3 d) := rd ((hT.old 1 (by kernel_rfl)).trans t1)
      refine op_go hoi (want_all rfl) fun K hK => ?_
      clear hT hpre hun hlit hoi
      go_simp
      exact hK _ _ ⟨(), fun _ _ => rfl, rfl, gc0, gc1, gc2, gc3, gc4, gc5, kc0, kc1, kc2, kc3, kc4, kc5, HB⟩
    · have hlit : (regOps Try.f39 6)[5]? = some ({ dst := some 22, op := Op.move (Operand.tmp 5), type := 3, pos := "alike.go:28", after := #[], guard := none }) := by kernel_rfl
      obtain rfl := Option.some.inj (hlit.symm.trans hoi)
      have r5 : b.tmps.getD 5 undef = (.int .i64 0) := rd ((hT.old 5 (by kernel_rfl)).trans t5)
      refine op_go hoi (want_all rfl) fun K hK => ?_
      clear hT hpre hun hlit hoi
      go_simp
      exact hK _ _ ⟨(), fun _ _ => rfl, rfl, gc0, gc1, gc2, gc3, gc4, gc5, kc0, kc1, kc2, kc3, kc4, kc5, HB⟩
    · have hlit : (regOps Try.f39 6)[6]? = some ({ dst := some 23, op := Op.indexAddr 41 (Operand.tmp 21) (Operand.tmp 22), type := 0, pos := "alike.go:28", after := #[{ on := 4, ground := Ground.data }, { on := 5, ground := Ground.data }], guard := none }) := by kernel_rfl
      obtain rfl := Option.some.inj (hlit.symm.trans hoi)
      have r21 : b.tmps.getD 21 undef = (.slice (some ⟨kk, 0, none⟩) 3 d) := rd (hT.at 4 (by kernel_rfl) (pre_of hpre 4 (by kernel_rfl)))
      have r22 : b.tmps.getD 22 undef = (.int .i64 0) := rd (hT.at 5 (by kernel_rfl) (pre_of hpre 5 (by kernel_rfl)))
      refine op_go hoi (want_all rfl) fun K hK => ?_
      clear hT hpre hun hlit hoi
      go_simp
      exact hK _ _ ⟨(), fun _ _ => rfl, rfl, gc0, gc1, gc2, gc3, gc4, gc5, kc0, kc1, kc2, kc3, kc4, kc5, HB⟩
    · have hlit : (regOps Try.f39 6)[7]? = some ({ dst := some 24, op := Op.load 23 (Operand.tmp 23), type := 23, pos := "alike.go:28", after := #[{ on := 6, ground := Ground.data }], guard := none }) := by kernel_rfl
      obtain rfl := Option.some.inj (hlit.symm.trans hoi)
      have r23 : b.tmps.getD 23 undef = (.pointer (some ⟨kk, 0, none⟩)) := rd (hT.at 6 (by kernel_rfl) (pre_of hpre 6 (by kernel_rfl)))
      refine op_go hoi (want_all rfl) fun K hK => ?_
      clear hT hpre hun hlit hoi
      go_simp
      exact hK _ _ ⟨(), fun _ _ => rfl, rfl, gc0, gc1, gc2, gc3, gc4, gc5, kc0, kc1, kc2, kc3, kc4, kc5, HB⟩
    · have hlit : (regOps Try.f39 6)[8]? = some ({ dst := some 25, op := Op.binOp BinOp.neq 23 (Operand.tmp 20) (Operand.tmp 24) 23, type := 4, pos := "alike.go:28", after := #[{ on := 3, ground := Ground.data }, { on := 7, ground := Ground.data }], guard := none }) := by kernel_rfl
      obtain rfl := Option.some.inj (hlit.symm.trans hoi)
      have r20 : b.tmps.getD 20 undef = (.agg #[.int .i64 a0, .int .i64 a1]) := rd (hT.at 3 (by kernel_rfl) (pre_of hpre 3 (by kernel_rfl)))
      have r24 : b.tmps.getD 24 undef = (.agg #[.int .i64 a0, .int .i64 a1]) := rd (hT.at 7 (by kernel_rfl) (pre_of hpre 7 (by kernel_rfl)))
      refine op_go hoi (want_all rfl) fun K hK => ?_
      clear hT hpre hun hlit hoi
      go_simp
      exact hK _ _ ⟨(), fun _ _ => rfl, rfl, gc0, gc1, gc2, gc3, gc4, gc5, kc0, kc1, kc2, kc3, kc4, kc5, HB⟩
  · intro g b w' hT hS
    rw [hT.all ht]
    have hn : (regOps Try.f39 6).size = 9 := by kernel_rfl
    rw [hn]
    exact he w' hS

/-- What each operation of the region leaves. -/
def region39_1V (b0 b1 : Int) (kg kk c d : Nat) : Nat → Value
  | 0 => .slice (some ⟨kg, 0, none⟩) 3 c
  | 1 => .int .i64 1
  | 2 => .pointer (some ⟨kg, 2, none⟩)
  | 3 => .agg #[.int .i64 b0, .int .i64 b1]
  | 4 => .slice (some ⟨kk, 0, none⟩) 3 d
  | 5 => .int .i64 1
  | 6 => .pointer (some ⟨kk, 2, none⟩)
  | 7 => .agg #[.int .i64 b0, .int .i64 b1]
  | 8 => .bool false
  | _ => undef

set_option maxHeartbeats 4000000 in
set_option maxRecDepth 100000 in
theorem region39_1 (a0 a1 b0 b1 c0 c1 : Int) (kg kk c d : Nat) (W : World)  {id : Nat} {ops : Array Oper} {Q : Exit → Act → World → Prop} {a : Act} {w : World}
    (ho : ops = (regOps Try.f39 6)) (hsz : a.tmps.size = 26) (t0 : a.tmps[0]? = some (.slice (some ⟨kg, 0, none⟩) 3 c)) (t1 : a.tmps[1]? = some (.slice (some ⟨kk, 0, none⟩) 3 d)) (t5 : a.tmps[5]? = some (.int .i64 1))
    (h0 : w.drew.cell? ⟨kg, 0, none⟩ = some (.int .i64 a0) ∧ w.drew.cell? ⟨kg, 1, none⟩ = some (.int .i64 a1) ∧ w.drew.cell? ⟨kg, 2, none⟩ = some (.int .i64 b0) ∧ w.drew.cell? ⟨kg, 3, none⟩ = some (.int .i64 b1) ∧ w.drew.cell? ⟨kg, 4, none⟩ = some (.int .i64 c0) ∧ w.drew.cell? ⟨kg, 5, none⟩ = some (.int .i64 c1) ∧ w.drew.cell? ⟨kk, 0, none⟩ = some (.int .i64 a0) ∧ w.drew.cell? ⟨kk, 1, none⟩ = some (.int .i64 a1) ∧ w.drew.cell? ⟨kk, 2, none⟩ = some (.int .i64 b0) ∧ w.drew.cell? ⟨kk, 3, none⟩ = some (.int .i64 b1) ∧ w.drew.cell? ⟨kk, 4, none⟩ = some (.int .i64 c0) ∧ w.drew.cell? ⟨kk, 5, none⟩ = some (.int .i64 c1) ∧ Below W.heap.size W w.drew)
    (he : ∀ w', w'.cell? ⟨kg, 0, none⟩ = some (.int .i64 a0) ∧ w'.cell? ⟨kg, 1, none⟩ = some (.int .i64 a1) ∧ w'.cell? ⟨kg, 2, none⟩ = some (.int .i64 b0) ∧ w'.cell? ⟨kg, 3, none⟩ = some (.int .i64 b1) ∧ w'.cell? ⟨kg, 4, none⟩ = some (.int .i64 c0) ∧ w'.cell? ⟨kg, 5, none⟩ = some (.int .i64 c1) ∧ w'.cell? ⟨kk, 0, none⟩ = some (.int .i64 a0) ∧ w'.cell? ⟨kk, 1, none⟩ = some (.int .i64 a1) ∧ w'.cell? ⟨kk, 2, none⟩ = some (.int .i64 b0) ∧ w'.cell? ⟨kk, 3, none⟩ = some (.int .i64 b1) ∧ w'.cell? ⟨kk, 4, none⟩ = some (.int .i64 c0) ∧ w'.cell? ⟨kk, 5, none⟩ = some (.int .i64 c1) ∧ Below W.heap.size W w' → Q .normal ⟨(((((((((a.tmps.setIfInBounds 17 (.slice (some ⟨kg, 0, none⟩) 3 c)).setIfInBounds 18 (.int .i64 1)).setIfInBounds 19 (.pointer (some ⟨kg, 2, none⟩))).setIfInBounds 20 (.agg #[.int .i64 b0, .int .i64 b1])).setIfInBounds 21 (.slice (some ⟨kk, 0, none⟩) 3 d)).setIfInBounds 22 (.int .i64 1)).setIfInBounds 23 (.pointer (some ⟨kk, 2, none⟩))).setIfInBounds 24 (.agg #[.int .i64 b0, .int .i64 b1])).setIfInBounds 25 (.bool false)), a.defers⟩ w') :
    (Code.region id ops true).wp Try.prog Q a w := by
  have ht : tidy (regOps Try.f39 6) a.tmps.size = true := by rw [hsz]; kernel_rfl
  refine region_tab (G := Unit) (fun _ => (region39_1V b0 b1 kg kk c d )) (fun _ _ w' => w'.cell? ⟨kg, 0, none⟩ = some (.int .i64 a0) ∧ w'.cell? ⟨kg, 1, none⟩ = some (.int .i64 a1) ∧ w'.cell? ⟨kg, 2, none⟩ = some (.int .i64 b0) ∧ w'.cell? ⟨kg, 3, none⟩ = some (.int .i64 b1) ∧ w'.cell? ⟨kg, 4, none⟩ = some (.int .i64 c0) ∧ w'.cell? ⟨kg, 5, none⟩ = some (.int .i64 c1) ∧ w'.cell? ⟨kk, 0, none⟩ = some (.int .i64 a0) ∧ w'.cell? ⟨kk, 1, none⟩ = some (.int .i64 a1) ∧ w'.cell? ⟨kk, 2, none⟩ = some (.int .i64 b0) ∧ w'.cell? ⟨kk, 3, none⟩ = some (.int .i64 b1) ∧ w'.cell? ⟨kk, 4, none⟩ = some (.int .i64 c0) ∧ w'.cell? ⟨kk, 5, none⟩ = some (.int .i64 c1) ∧ Below W.heap.size W w') () (by kernel_rfl) ho ht h0 ?_ ?_
  · intro i o hoi g L b w' hun hpre hT hS
    clear he h0 ho hsz ht
    have hi : i < (regOps Try.f39 6).size := (Array.getElem?_eq_some_iff.1 hoi).1
    rw [show (regOps Try.f39 6).size = 9 by kernel_rfl] at hi
    obtain ⟨gc0, gc1, gc2, gc3, gc4, gc5, kc0, kc1, kc2, kc3, kc4, kc5, HB⟩ := hS
    have hcases : i = 0 ∨ i = 1 ∨ i = 2 ∨ i = 3 ∨ i = 4 ∨ i = 5 ∨ i = 6 ∨ i = 7 ∨ i = 8 := by omega
    rcases hcases with rfl | rfl | rfl | rfl | rfl | rfl | rfl | rfl | rfl
    · have hlit : (regOps Try.f39 6)[0]? = some ({ dst := some 17, op := Op.move (Operand.tmp 0), type := 41, pos := "alike.go:28", after := #[], guard := none }) := by kernel_rfl
      obtain rfl := Option.some.inj (hlit.symm.trans hoi)
      have r0 : b.tmps.getD 0 undef = (.slice (some ⟨kg, 0, none⟩) 3 c) := rd ((hT.old 0 (by kernel_rfl)).trans t0)
      refine op_go hoi (want_all rfl) fun K hK => ?_
      clear hT hpre hun hlit hoi
      go_simp
      exact hK _ _ ⟨(), fun _ _ => rfl, rfl, gc0, gc1, gc2, gc3, gc4, gc5, kc0, kc1, kc2, kc3, kc4, kc5, HB⟩
    · have hlit : (regOps Try.f39 6)[1]? = some ({ dst := some 18, op := Op.move (Operand.tmp 5), type := 3, pos := "alike.go:28", after := #[], guard := none }) := by kernel_rfl
      obtain rfl := Option.some.inj (hlit.symm.trans hoi)
      have r5 : b.tmps.getD 5 undef = (.int .i64 1) := rd ((hT.old 5 (by kernel_rfl)).trans t5)
      refine op_go hoi (want_all rfl) fun K hK => ?_
      clear hT hpre hun hlit hoi
      go_simp
      exact hK _ _ ⟨(), fun _ _ => rfl, rfl, gc0, gc1, gc2, gc3, gc4, gc5, kc0, kc1, kc2, kc3, kc4, kc5, HB⟩
    · have hlit : (regOps Try.f39 6)[2]? = some ({ dst := some 19, op := Op.indexAddr 41 (Operand.tmp 17) (Operand.tmp 18), type := 0, pos := "alike.go:28", after := #[{ on := 0, ground := Ground.data }, { on := 1, ground := Ground.data }], guard := none }) := by kernel_rfl
      obtain rfl := Option.some.inj (hlit.symm.trans hoi)
      have r17 : b.tmps.getD 17 undef = (.slice (some ⟨kg, 0, none⟩) 3 c) := rd (hT.at 0 (by kernel_rfl) (pre_of hpre 0 (by kernel_rfl)))
      have r18 : b.tmps.getD 18 undef = (.int .i64 1) := rd (hT.at 1 (by kernel_rfl) (pre_of hpre 1 (by kernel_rfl)))
      refine op_go hoi (want_all rfl) fun K hK => ?_
      clear hT hpre hun hlit hoi
      go_simp
      exact hK _ _ ⟨(), fun _ _ => rfl, rfl, gc0, gc1, gc2, gc3, gc4, gc5, kc0, kc1, kc2, kc3, kc4, kc5, HB⟩
    · have hlit : (regOps Try.f39 6)[3]? = some ({ dst := some 20, op := Op.load 23 (Operand.tmp 19), type := 23, pos := "alike.go:28", after := #[{ on := 2, ground := Ground.data }], guard := none }) := by kernel_rfl
      obtain rfl := Option.some.inj (hlit.symm.trans hoi)
      have r19 : b.tmps.getD 19 undef = (.pointer (some ⟨kg, 2, none⟩)) := rd (hT.at 2 (by kernel_rfl) (pre_of hpre 2 (by kernel_rfl)))
      refine op_go hoi (want_all rfl) fun K hK => ?_
      clear hT hpre hun hlit hoi
      go_simp
      exact hK _ _ ⟨(), fun _ _ => rfl, rfl, gc0, gc1, gc2, gc3, gc4, gc5, kc0, kc1, kc2, kc3, kc4, kc5, HB⟩
    · have hlit : (regOps Try.f39 6)[4]? = some ({ dst := some 21, op := Op.move (Operand.tmp 1), type := 41, pos := "alike.go:28", after := #[], guard := none }) := by kernel_rfl
      obtain rfl := Option.some.inj (hlit.symm.trans hoi)
      have r1 : b.tmps.getD 1 undef = (.slice (some ⟨kk, 0, none⟩) 3 d) := rd ((hT.old 1 (by kernel_rfl)).trans t1)
      refine op_go hoi (want_all rfl) fun K hK => ?_
      clear hT hpre hun hlit hoi
      go_simp
      exact hK _ _ ⟨(), fun _ _ => rfl, rfl, gc0, gc1, gc2, gc3, gc4, gc5, kc0, kc1, kc2, kc3, kc4, kc5, HB⟩
    · have hlit : (regOps Try.f39 6)[5]? = some ({ dst := some 22, op := Op.move (Operand.tmp 5), type := 3, pos := "alike.go:28", after := #[], guard := none }) := by kernel_rfl
      obtain rfl := Option.some.inj (hlit.symm.trans hoi)
      have r5 : b.tmps.getD 5 undef = (.int .i64 1) := rd ((hT.old 5 (by kernel_rfl)).trans t5)
      refine op_go hoi (want_all rfl) fun K hK => ?_
      clear hT hpre hun hlit hoi
      go_simp
      exact hK _ _ ⟨(), fun _ _ => rfl, rfl, gc0, gc1, gc2, gc3, gc4, gc5, kc0, kc1, kc2, kc3, kc4, kc5, HB⟩
    · have hlit : (regOps Try.f39 6)[6]? = some ({ dst := some 23, op := Op.indexAddr 41 (Operand.tmp 21) (Operand.tmp 22), type := 0, pos := "alike.go:28", after := #[{ on := 4, ground := Ground.data }, { on := 5, ground := Ground.data }], guard := none }) := by kernel_rfl
      obtain rfl := Option.some.inj (hlit.symm.trans hoi)
      have r21 : b.tmps.getD 21 undef = (.slice (some ⟨kk, 0, none⟩) 3 d) := rd (hT.at 4 (by kernel_rfl) (pre_of hpre 4 (by kernel_rfl)))
      have r22 : b.tmps.getD 22 undef = (.int .i64 1) := rd (hT.at 5 (by kernel_rfl) (pre_of hpre 5 (by kernel_rfl)))
      refine op_go hoi (want_all rfl) fun K hK => ?_
      clear hT hpre hun hlit hoi
      go_simp
      exact hK _ _ ⟨(), fun _ _ => rfl, rfl, gc0, gc1, gc2, gc3, gc4, gc5, kc0, kc1, kc2, kc3, kc4, kc5, HB⟩
    · have hlit : (regOps Try.f39 6)[7]? = some ({ dst := some 24, op := Op.load 23 (Operand.tmp 23), type := 23, pos := "alike.go:28", after := #[{ on := 6, ground := Ground.data }], guard := none }) := by kernel_rfl
      obtain rfl := Option.some.inj (hlit.symm.trans hoi)
      have r23 : b.tmps.getD 23 undef = (.pointer (some ⟨kk, 2, none⟩)) := rd (hT.at 6 (by kernel_rfl) (pre_of hpre 6 (by kernel_rfl)))
      refine op_go hoi (want_all rfl) fun K hK => ?_
      clear hT hpre hun hlit hoi
      go_simp
      exact hK _ _ ⟨(), fun _ _ => rfl, rfl, gc0, gc1, gc2, gc3, gc4, gc5, kc0, kc1, kc2, kc3, kc4, kc5, HB⟩
    · have hlit : (regOps Try.f39 6)[8]? = some ({ dst := some 25, op := Op.binOp BinOp.neq 23 (Operand.tmp 20) (Operand.tmp 24) 23, type := 4, pos := "alike.go:28", after := #[{ on := 3, ground := Ground.data }, { on := 7, ground := Ground.data }], guard := none }) := by kernel_rfl
      obtain rfl := Option.some.inj (hlit.symm.trans hoi)
      have r20 : b.tmps.getD 20 undef = (.agg #[.int .i64 b0, .int .i64 b1]) := rd (hT.at 3 (by kernel_rfl) (pre_of hpre 3 (by kernel_rfl)))
      have r24 : b.tmps.getD 24 undef = (.agg #[.int .i64 b0, .int .i64 b1]) := rd (hT.at 7 (by kernel_rfl) (pre_of hpre 7 (by kernel_rfl)))
      refine op_go hoi (want_all rfl) fun K hK => ?_
      clear hT hpre hun hlit hoi
      go_simp
      exact hK _ _ ⟨(), fun _ _ => rfl, rfl, gc0, gc1, gc2, gc3, gc4, gc5, kc0, kc1, kc2, kc3, kc4, kc5, HB⟩
  · intro g b w' hT hS
    rw [hT.all ht]
    have hn : (regOps Try.f39 6).size = 9 := by kernel_rfl
    rw [hn]
    exact he w' hS

/-- What each operation of the region leaves. -/
def region39_2V (c0 c1 : Int) (kg kk c d : Nat) : Nat → Value
  | 0 => .slice (some ⟨kg, 0, none⟩) 3 c
  | 1 => .int .i64 2
  | 2 => .pointer (some ⟨kg, 4, none⟩)
  | 3 => .agg #[.int .i64 c0, .int .i64 c1]
  | 4 => .slice (some ⟨kk, 0, none⟩) 3 d
  | 5 => .int .i64 2
  | 6 => .pointer (some ⟨kk, 4, none⟩)
  | 7 => .agg #[.int .i64 c0, .int .i64 c1]
  | 8 => .bool false
  | _ => undef

set_option maxHeartbeats 4000000 in
set_option maxRecDepth 100000 in
theorem region39_2 (a0 a1 b0 b1 c0 c1 : Int) (kg kk c d : Nat) (W : World)  {id : Nat} {ops : Array Oper} {Q : Exit → Act → World → Prop} {a : Act} {w : World}
    (ho : ops = (regOps Try.f39 6)) (hsz : a.tmps.size = 26) (t0 : a.tmps[0]? = some (.slice (some ⟨kg, 0, none⟩) 3 c)) (t1 : a.tmps[1]? = some (.slice (some ⟨kk, 0, none⟩) 3 d)) (t5 : a.tmps[5]? = some (.int .i64 2))
    (h0 : w.drew.cell? ⟨kg, 0, none⟩ = some (.int .i64 a0) ∧ w.drew.cell? ⟨kg, 1, none⟩ = some (.int .i64 a1) ∧ w.drew.cell? ⟨kg, 2, none⟩ = some (.int .i64 b0) ∧ w.drew.cell? ⟨kg, 3, none⟩ = some (.int .i64 b1) ∧ w.drew.cell? ⟨kg, 4, none⟩ = some (.int .i64 c0) ∧ w.drew.cell? ⟨kg, 5, none⟩ = some (.int .i64 c1) ∧ w.drew.cell? ⟨kk, 0, none⟩ = some (.int .i64 a0) ∧ w.drew.cell? ⟨kk, 1, none⟩ = some (.int .i64 a1) ∧ w.drew.cell? ⟨kk, 2, none⟩ = some (.int .i64 b0) ∧ w.drew.cell? ⟨kk, 3, none⟩ = some (.int .i64 b1) ∧ w.drew.cell? ⟨kk, 4, none⟩ = some (.int .i64 c0) ∧ w.drew.cell? ⟨kk, 5, none⟩ = some (.int .i64 c1) ∧ Below W.heap.size W w.drew)
    (he : ∀ w', w'.cell? ⟨kg, 0, none⟩ = some (.int .i64 a0) ∧ w'.cell? ⟨kg, 1, none⟩ = some (.int .i64 a1) ∧ w'.cell? ⟨kg, 2, none⟩ = some (.int .i64 b0) ∧ w'.cell? ⟨kg, 3, none⟩ = some (.int .i64 b1) ∧ w'.cell? ⟨kg, 4, none⟩ = some (.int .i64 c0) ∧ w'.cell? ⟨kg, 5, none⟩ = some (.int .i64 c1) ∧ w'.cell? ⟨kk, 0, none⟩ = some (.int .i64 a0) ∧ w'.cell? ⟨kk, 1, none⟩ = some (.int .i64 a1) ∧ w'.cell? ⟨kk, 2, none⟩ = some (.int .i64 b0) ∧ w'.cell? ⟨kk, 3, none⟩ = some (.int .i64 b1) ∧ w'.cell? ⟨kk, 4, none⟩ = some (.int .i64 c0) ∧ w'.cell? ⟨kk, 5, none⟩ = some (.int .i64 c1) ∧ Below W.heap.size W w' → Q .normal ⟨(((((((((a.tmps.setIfInBounds 17 (.slice (some ⟨kg, 0, none⟩) 3 c)).setIfInBounds 18 (.int .i64 2)).setIfInBounds 19 (.pointer (some ⟨kg, 4, none⟩))).setIfInBounds 20 (.agg #[.int .i64 c0, .int .i64 c1])).setIfInBounds 21 (.slice (some ⟨kk, 0, none⟩) 3 d)).setIfInBounds 22 (.int .i64 2)).setIfInBounds 23 (.pointer (some ⟨kk, 4, none⟩))).setIfInBounds 24 (.agg #[.int .i64 c0, .int .i64 c1])).setIfInBounds 25 (.bool false)), a.defers⟩ w') :
    (Code.region id ops true).wp Try.prog Q a w := by
  have ht : tidy (regOps Try.f39 6) a.tmps.size = true := by rw [hsz]; kernel_rfl
  refine region_tab (G := Unit) (fun _ => (region39_2V c0 c1 kg kk c d )) (fun _ _ w' => w'.cell? ⟨kg, 0, none⟩ = some (.int .i64 a0) ∧ w'.cell? ⟨kg, 1, none⟩ = some (.int .i64 a1) ∧ w'.cell? ⟨kg, 2, none⟩ = some (.int .i64 b0) ∧ w'.cell? ⟨kg, 3, none⟩ = some (.int .i64 b1) ∧ w'.cell? ⟨kg, 4, none⟩ = some (.int .i64 c0) ∧ w'.cell? ⟨kg, 5, none⟩ = some (.int .i64 c1) ∧ w'.cell? ⟨kk, 0, none⟩ = some (.int .i64 a0) ∧ w'.cell? ⟨kk, 1, none⟩ = some (.int .i64 a1) ∧ w'.cell? ⟨kk, 2, none⟩ = some (.int .i64 b0) ∧ w'.cell? ⟨kk, 3, none⟩ = some (.int .i64 b1) ∧ w'.cell? ⟨kk, 4, none⟩ = some (.int .i64 c0) ∧ w'.cell? ⟨kk, 5, none⟩ = some (.int .i64 c1) ∧ Below W.heap.size W w') () (by kernel_rfl) ho ht h0 ?_ ?_
  · intro i o hoi g L b w' hun hpre hT hS
    clear he h0 ho hsz ht
    have hi : i < (regOps Try.f39 6).size := (Array.getElem?_eq_some_iff.1 hoi).1
    rw [show (regOps Try.f39 6).size = 9 by kernel_rfl] at hi
    obtain ⟨gc0, gc1, gc2, gc3, gc4, gc5, kc0, kc1, kc2, kc3, kc4, kc5, HB⟩ := hS
    have hcases : i = 0 ∨ i = 1 ∨ i = 2 ∨ i = 3 ∨ i = 4 ∨ i = 5 ∨ i = 6 ∨ i = 7 ∨ i = 8 := by omega
    rcases hcases with rfl | rfl | rfl | rfl | rfl | rfl | rfl | rfl | rfl
    · have hlit : (regOps Try.f39 6)[0]? = some ({ dst := some 17, op := Op.move (Operand.tmp 0), type := 41, pos := "alike.go:28", after := #[], guard := none }) := by kernel_rfl
      obtain rfl := Option.some.inj (hlit.symm.trans hoi)
      have r0 : b.tmps.getD 0 undef = (.slice (some ⟨kg, 0, none⟩) 3 c) := rd ((hT.old 0 (by kernel_rfl)).trans t0)
      refine op_go hoi (want_all rfl) fun K hK => ?_
      clear hT hpre hun hlit hoi
      go_simp
      exact hK _ _ ⟨(), fun _ _ => rfl, rfl, gc0, gc1, gc2, gc3, gc4, gc5, kc0, kc1, kc2, kc3, kc4, kc5, HB⟩
    · have hlit : (regOps Try.f39 6)[1]? = some ({ dst := some 18, op := Op.move (Operand.tmp 5), type := 3, pos := "alike.go:28", after := #[], guard := none }) := by kernel_rfl
      obtain rfl := Option.some.inj (hlit.symm.trans hoi)
      have r5 : b.tmps.getD 5 undef = (.int .i64 2) := rd ((hT.old 5 (by kernel_rfl)).trans t5)
      refine op_go hoi (want_all rfl) fun K hK => ?_
      clear hT hpre hun hlit hoi
      go_simp
      exact hK _ _ ⟨(), fun _ _ => rfl, rfl, gc0, gc1, gc2, gc3, gc4, gc5, kc0, kc1, kc2, kc3, kc4, kc5, HB⟩
    · have hlit : (regOps Try.f39 6)[2]? = some ({ dst := some 19, op := Op.indexAddr 41 (Operand.tmp 17) (Operand.tmp 18), type := 0, pos := "alike.go:28", after := #[{ on := 0, ground := Ground.data }, { on := 1, ground := Ground.data }], guard := none }) := by kernel_rfl
      obtain rfl := Option.some.inj (hlit.symm.trans hoi)
      have r17 : b.tmps.getD 17 undef = (.slice (some ⟨kg, 0, none⟩) 3 c) := rd (hT.at 0 (by kernel_rfl) (pre_of hpre 0 (by kernel_rfl)))
      have r18 : b.tmps.getD 18 undef = (.int .i64 2) := rd (hT.at 1 (by kernel_rfl) (pre_of hpre 1 (by kernel_rfl)))
      refine op_go hoi (want_all rfl) fun K hK => ?_
      clear hT hpre hun hlit hoi
      go_simp
      exact hK _ _ ⟨(), fun _ _ => rfl, rfl, gc0, gc1, gc2, gc3, gc4, gc5, kc0, kc1, kc2, kc3, kc4, kc5, HB⟩
    · have hlit : (regOps Try.f39 6)[3]? = some ({ dst := some 20, op := Op.load 23 (Operand.tmp 19), type := 23, pos := "alike.go:28", after := #[{ on := 2, ground := Ground.data }], guard := none }) := by kernel_rfl
      obtain rfl := Option.some.inj (hlit.symm.trans hoi)
      have r19 : b.tmps.getD 19 undef = (.pointer (some ⟨kg, 4, none⟩)) := rd (hT.at 2 (by kernel_rfl) (pre_of hpre 2 (by kernel_rfl)))
      refine op_go hoi (want_all rfl) fun K hK => ?_
      clear hT hpre hun hlit hoi
      go_simp
      exact hK _ _ ⟨(), fun _ _ => rfl, rfl, gc0, gc1, gc2, gc3, gc4, gc5, kc0, kc1, kc2, kc3, kc4, kc5, HB⟩
    · have hlit : (regOps Try.f39 6)[4]? = some ({ dst := some 21, op := Op.move (Operand.tmp 1), type := 41, pos := "alike.go:28", after := #[], guard := none }) := by kernel_rfl
      obtain rfl := Option.some.inj (hlit.symm.trans hoi)
      have r1 : b.tmps.getD 1 undef = (.slice (some ⟨kk, 0, none⟩) 3 d) := rd ((hT.old 1 (by kernel_rfl)).trans t1)
      refine op_go hoi (want_all rfl) fun K hK => ?_
      clear hT hpre hun hlit hoi
      go_simp
      exact hK _ _ ⟨(), fun _ _ => rfl, rfl, gc0, gc1, gc2, gc3, gc4, gc5, kc0, kc1, kc2, kc3, kc4, kc5, HB⟩
    · have hlit : (regOps Try.f39 6)[5]? = some ({ dst := some 22, op := Op.move (Operand.tmp 5), type := 3, pos := "alike.go:28", after := #[], guard := none }) := by kernel_rfl
      obtain rfl := Option.some.inj (hlit.symm.trans hoi)
      have r5 : b.tmps.getD 5 undef = (.int .i64 2) := rd ((hT.old 5 (by kernel_rfl)).trans t5)
      refine op_go hoi (want_all rfl) fun K hK => ?_
      clear hT hpre hun hlit hoi
      go_simp
      exact hK _ _ ⟨(), fun _ _ => rfl, rfl, gc0, gc1, gc2, gc3, gc4, gc5, kc0, kc1, kc2, kc3, kc4, kc5, HB⟩
    · have hlit : (regOps Try.f39 6)[6]? = some ({ dst := some 23, op := Op.indexAddr 41 (Operand.tmp 21) (Operand.tmp 22), type := 0, pos := "alike.go:28", after := #[{ on := 4, ground := Ground.data }, { on := 5, ground := Ground.data }], guard := none }) := by kernel_rfl
      obtain rfl := Option.some.inj (hlit.symm.trans hoi)
      have r21 : b.tmps.getD 21 undef = (.slice (some ⟨kk, 0, none⟩) 3 d) := rd (hT.at 4 (by kernel_rfl) (pre_of hpre 4 (by kernel_rfl)))
      have r22 : b.tmps.getD 22 undef = (.int .i64 2) := rd (hT.at 5 (by kernel_rfl) (pre_of hpre 5 (by kernel_rfl)))
      refine op_go hoi (want_all rfl) fun K hK => ?_
      clear hT hpre hun hlit hoi
      go_simp
      exact hK _ _ ⟨(), fun _ _ => rfl, rfl, gc0, gc1, gc2, gc3, gc4, gc5, kc0, kc1, kc2, kc3, kc4, kc5, HB⟩
    · have hlit : (regOps Try.f39 6)[7]? = some ({ dst := some 24, op := Op.load 23 (Operand.tmp 23), type := 23, pos := "alike.go:28", after := #[{ on := 6, ground := Ground.data }], guard := none }) := by kernel_rfl
      obtain rfl := Option.some.inj (hlit.symm.trans hoi)
      have r23 : b.tmps.getD 23 undef = (.pointer (some ⟨kk, 4, none⟩)) := rd (hT.at 6 (by kernel_rfl) (pre_of hpre 6 (by kernel_rfl)))
      refine op_go hoi (want_all rfl) fun K hK => ?_
      clear hT hpre hun hlit hoi
      go_simp
      exact hK _ _ ⟨(), fun _ _ => rfl, rfl, gc0, gc1, gc2, gc3, gc4, gc5, kc0, kc1, kc2, kc3, kc4, kc5, HB⟩
    · have hlit : (regOps Try.f39 6)[8]? = some ({ dst := some 25, op := Op.binOp BinOp.neq 23 (Operand.tmp 20) (Operand.tmp 24) 23, type := 4, pos := "alike.go:28", after := #[{ on := 3, ground := Ground.data }, { on := 7, ground := Ground.data }], guard := none }) := by kernel_rfl
      obtain rfl := Option.some.inj (hlit.symm.trans hoi)
      have r20 : b.tmps.getD 20 undef = (.agg #[.int .i64 c0, .int .i64 c1]) := rd (hT.at 3 (by kernel_rfl) (pre_of hpre 3 (by kernel_rfl)))
      have r24 : b.tmps.getD 24 undef = (.agg #[.int .i64 c0, .int .i64 c1]) := rd (hT.at 7 (by kernel_rfl) (pre_of hpre 7 (by kernel_rfl)))
      refine op_go hoi (want_all rfl) fun K hK => ?_
      clear hT hpre hun hlit hoi
      go_simp
      exact hK _ _ ⟨(), fun _ _ => rfl, rfl, gc0, gc1, gc2, gc3, gc4, gc5, kc0, kc1, kc2, kc3, kc4, kc5, HB⟩
  · intro g b w' hT hS
    rw [hT.all ht]
    have hn : (regOps Try.f39 6).size = 9 := by kernel_rfl
    rw [hn]
    exact he w' hS

set_option maxHeartbeats 4000000 in
set_option maxRecDepth 100000 in
/-- The reference's Points, of two slices of the same three points. -/
theorem pts39 (a0 a1 b0 b1 c0 c1 : Int) (kg kk c d : Nat) (w : World) (gc0 : w.cell? ⟨kg, 0, none⟩ = some (.int .i64 a0)) (gc1 : w.cell? ⟨kg, 1, none⟩ = some (.int .i64 a1)) (gc2 : w.cell? ⟨kg, 2, none⟩ = some (.int .i64 b0)) (gc3 : w.cell? ⟨kg, 3, none⟩ = some (.int .i64 b1)) (gc4 : w.cell? ⟨kg, 4, none⟩ = some (.int .i64 c0)) (gc5 : w.cell? ⟨kg, 5, none⟩ = some (.int .i64 c1)) (kc0 : w.cell? ⟨kk, 0, none⟩ = some (.int .i64 a0)) (kc1 : w.cell? ⟨kk, 1, none⟩ = some (.int .i64 a1)) (kc2 : w.cell? ⟨kk, 2, none⟩ = some (.int .i64 b0)) (kc3 : w.cell? ⟨kk, 3, none⟩ = some (.int .i64 b1)) (kc4 : w.cell? ⟨kk, 4, none⟩ = some (.int .i64 c0)) (kc5 : w.cell? ⟨kk, 5, none⟩ = some (.int .i64 c1)) :
    Calls Try.prog 39 #[.slice (some ⟨kg, 0, none⟩) 3 c, .slice (some ⟨kk, 0, none⟩) 3 d] w fun e w' => e = .returned (.bool true) ∧ Below w.heap.size w w' := by
  have HB := Below.refl w.heap.size w
  go_enter Try.func39, Try.ntmps39
  go_wp2_with fail
  refine wp_loop_rounds 4 ?_
  rw [rounds_succ]
  go_wp2_with fail
  refine region39_0 a0 a1 b0 b1 c0 c1 kg kk c d w (by kernel_rfl) rfl rfl rfl rfl ⟨gc0, gc1, gc2, gc3, gc4, gc5, kc0, kc1, kc2, kc3, kc4, kc5, bd HB⟩ (fun wq0 hS => ?_)
  obtain ⟨gc0, gc1, gc2, gc3, gc4, gc5, kc0, kc1, kc2, kc3, kc4, kc5, HB⟩ := hS
  simp only [List.setIfInBounds_toArray, List.set_cons_zero, List.set_cons_succ]
  go_wp2_with fail
  rw [rounds_succ]
  go_wp2_with fail
  refine region39_1 a0 a1 b0 b1 c0 c1 kg kk c d w (by kernel_rfl) rfl rfl rfl rfl ⟨gc0, gc1, gc2, gc3, gc4, gc5, kc0, kc1, kc2, kc3, kc4, kc5, bd HB⟩ (fun wq1 hS => ?_)
  obtain ⟨gc0, gc1, gc2, gc3, gc4, gc5, kc0, kc1, kc2, kc3, kc4, kc5, HB⟩ := hS
  simp only [List.setIfInBounds_toArray, List.set_cons_zero, List.set_cons_succ]
  go_wp2_with fail
  rw [rounds_succ]
  go_wp2_with fail
  refine region39_2 a0 a1 b0 b1 c0 c1 kg kk c d w (by kernel_rfl) rfl rfl rfl rfl ⟨gc0, gc1, gc2, gc3, gc4, gc5, kc0, kc1, kc2, kc3, kc4, kc5, bd HB⟩ (fun wq2 hS => ?_)
  obtain ⟨gc0, gc1, gc2, gc3, gc4, gc5, kc0, kc1, kc2, kc3, kc4, kc5, HB⟩ := hS
  simp only [List.setIfInBounds_toArray, List.set_cons_zero, List.set_cons_succ]
  go_wp2_with fail
  rw [rounds_succ]
  go_wp2
  go_ret
  exact ⟨rfl, HB⟩

end Go.Proofs.Ytandgbpbabmdfaa
