import Derived.Test.YtkamnnkdadfebaaDoorRg
import Derived.Test.YtkamnnkdadfebaaDoorB8
import Derived.Test.YtkamnnkdadfebaaDoorR21
namespace Go.Proofs.YtkamnnkdadfebaaDoor
open Go.RowKit
set_option linter.unusedVariables false
attribute [local go_sem high] eq24 eq37


/-- What each operation of the region leaves. -/
def region6_2V (u0 u1 v0 v1 s0 s1 : Int) (o1 : Bool) (kz : Nat) : Nat → Value
  | 0 => .agg #[.int .i64 u0, .int .u64 u1]
  | 1 => .agg #[.int .i64 u0, .int .u64 u1]
  | 2 => .agg #[.int .i64 v0, .int .u64 v1]
  | 3 => .agg #[.int .i64 v0, .int .u64 v1]
  | 4 => .tuple #[.agg #[.int .i64 s0, .int .u64 s1], .bool o1]
  | 5 => .tuple #[.agg #[.int .i64 s0, .int .u64 s1], .bool o1]
  | 6 => .agg #[.int .i64 s0, .int .u64 s1]
  | 7 => .bool o1
  | 8 => .pointer (some ⟨kz, 0, none⟩)
  | 9 => undef
  | 10 => .bool o1
  | _ => undef

set_option maxHeartbeats 4000000 in
set_option maxRecDepth 100000 in
theorem region6_2 (u0 u1 v0 v1 s0 s1 : Int) (kx ky : Nat) (o1 : Bool) (W : World) (m1 : ∀ w : World, Calls Tryd.prog 16 #[.agg #[.int .i64 u0, .int .u64 u1], .agg #[.int .i64 v0, .int .u64 v1]] w fun e w' => e = .returned (.tuple #[.agg #[.int .i64 s0, .int .u64 s1], .bool o1]) ∧ Below w.heap.size w w') {id : Nat} {ops : Array Oper} {Q : Exit → Act → World → Prop} {a : Act} {w : World}
    (ho : ops = (regOps Tryd.f6 2)) (hsz : a.tmps.size = 115) (t3 : a.tmps[3]? = some (.pointer (some ⟨kx, 0, none⟩))) (t4 : a.tmps[4]? = some (.pointer (some ⟨ky, 0, none⟩)))
    (h0 : w.cell? ⟨kx, 0, none⟩ = some (.int .i64 u0) ∧ w.cell? ⟨kx, 1, none⟩ = some (.int .u64 u1) ∧ w.cell? ⟨ky, 0, none⟩ = some (.int .i64 v0) ∧ w.cell? ⟨ky, 1, none⟩ = some (.int .u64 v1) ∧ Below W.heap.size W w)
    (he : ∀ kz w', w'.cell? ⟨kx, 0, none⟩ = some (.int .i64 u0) ∧ w'.cell? ⟨kx, 1, none⟩ = some (.int .u64 u1) ∧ w'.cell? ⟨ky, 0, none⟩ = some (.int .i64 v0) ∧ w'.cell? ⟨ky, 1, none⟩ = some (.int .u64 v1) ∧ Below W.heap.size W w' → w'.cell? ⟨kz, 0, none⟩ = some (.int .i64 s0) ∧ w'.cell? ⟨kz, 1, none⟩ = some (.int .u64 s1) ∧ w'.frozen? ⟨kz, 0, none⟩ = false ∧ w'.frozen? ⟨kz, 1, none⟩ = false ∧ w.heap.size ≤ kz → Q .normal ⟨((((((((((a.tmps.setIfInBounds 26 (.agg #[.int .i64 u0, .int .u64 u1])).setIfInBounds 27 (.agg #[.int .i64 u0, .int .u64 u1])).setIfInBounds 28 (.agg #[.int .i64 v0, .int .u64 v1])).setIfInBounds 29 (.agg #[.int .i64 v0, .int .u64 v1])).setIfInBounds 30 (.tuple #[.agg #[.int .i64 s0, .int .u64 s1], .bool o1])).setIfInBounds 25 (.tuple #[.agg #[.int .i64 s0, .int .u64 s1], .bool o1])).setIfInBounds 31 (.agg #[.int .i64 s0, .int .u64 s1])).setIfInBounds 32 (.bool o1)).setIfInBounds 9 (.pointer (some ⟨kz, 0, none⟩))).setIfInBounds 10 (.bool o1)), a.defers⟩ w') :
    (Code.region id ops true).wp Tryd.prog Q a w := by
  have ht : tidy (regOps Tryd.f6 2) a.tmps.size = true := by rw [hsz]; kernel_rfl
  obtain ⟨uc0, uc1, vc0, vc1, HB0⟩ := h0
  have lt_kx := World.block_lt_of_cell? w _ uc0
  have lt_ky := World.block_lt_of_cell? w _ vc0
  have sz0 := HB0.size
  refine region_tab (G := Nat) (fun g => (region6_2V u0 u1 v0 v1 s0 s1  o1 g)) (fun g L w' => w'.cell? ⟨kx, 0, none⟩ = some (.int .i64 u0) ∧ w'.cell? ⟨kx, 1, none⟩ = some (.int .u64 u1) ∧ w'.cell? ⟨ky, 0, none⟩ = some (.int .i64 v0) ∧ w'.cell? ⟨ky, 1, none⟩ = some (.int .u64 v1) ∧ Below W.heap.size W w' ∧ w.heap.size ≤ w'.heap.size ∧ (L 8 = true → w.heap.size ≤ g ∧ w'.frozen? ⟨g, 0, none⟩ = false ∧ w'.frozen? ⟨g, 1, none⟩ = false ∧ ∃ u0 u1 : Int, w'.cell? ⟨g, 0, none⟩ = some (.int .i64 u0) ∧ w'.cell? ⟨g, 1, none⟩ = some (.int .u64 u1) ∧ (L 9 = true → u0 = s0 ∧ u1 = s1)) ∧ (L 9 = true → L 8 = true)) 0 (by kernel_rfl) ho ht ⟨uc0, uc1, vc0, vc1, bd HB0, Nat.le_refl _, fun h => (by cases h), fun h => (by cases h)⟩ ?_ ?_
  · intro i o hoi kz L b w' hun hpre hT hS
    clear he uc0 uc1 vc0 vc1 ho hsz ht HB0
    have hi : i < (regOps Tryd.f6 2).size := (Array.getElem?_eq_some_iff.1 hoi).1
    rw [show (regOps Tryd.f6 2).size = 11 by kernel_rfl] at hi
    skip
    skip
    obtain ⟨uc0, uc1, vc0, vc1, HB, szw, fz, sz⟩ := hS
    have hcases : i = 0 ∨ i = 1 ∨ i = 2 ∨ i = 3 ∨ i = 4 ∨ i = 5 ∨ i = 6 ∨ i = 7 ∨ i = 8 ∨ i = 9 ∨ i = 10 := by omega
    rcases hcases with rfl | rfl | rfl | rfl | rfl | rfl | rfl | rfl | rfl | rfl | rfl
    · have hlit : (regOps Tryd.f6 2)[0]? = some ({ dst := some 26, op := Op.load 24 (Operand.tmp 3), type := 24, pos := "law.go:30", after := #[], guard := none }) := by kernel_rfl
      obtain rfl := Option.some.inj (hlit.symm.trans hoi)
      have r3 : b.tmps.getD 3 undef = (.pointer (some ⟨kx, 0, none⟩)) := rd ((hT.old 3 (by kernel_rfl)).trans t3)
      refine op_go hoi (want_all rfl) fun K hK => ?_
      clear hT hpre hlit hoi
      go_simp
      exact hK _ _ ⟨kz, fun _ _ => rfl, rfl, uc0, uc1, vc0, vc1, HB, szw, fz, sz⟩
    · have hlit : (regOps Tryd.f6 2)[1]? = some ({ dst := some 27, op := Op.call { callee := Callee.value (Operand.func 17), args := #[Operand.tmp 26], argTypes := #[24] }, type := 37, pos := "law.go:30", after := #[{ on := 0, ground := Ground.data }], guard := none }) := by kernel_rfl
      obtain rfl := Option.some.inj (hlit.symm.trans hoi)
      have r26 : b.tmps.getD 26 undef = (.agg #[.int .i64 u0, .int .u64 u1]) := rd (hT.at 0 (by kernel_rfl) (pre_of hpre 0 (by kernel_rfl)))
      refine op_go hoi (want_all rfl) fun K hK => ?_
      clear hT hpre hlit hoi
      go_simp
      go_at_call 17
      refine (of17 _ _ _).mono ?_; rintro e w2 ⟨rfl, hb⟩; replace uc0 := ck hb uc0; replace uc1 := ck hb uc1; replace vc0 := ck hb vc0; replace vc1 := ck hb vc1; replace szw : w.heap.size ≤ w2.heap.size := Nat.le_trans szw hb.size; replace fz : L 8 = true → w.heap.size ≤ kz ∧ w2.frozen? ⟨kz, 0, none⟩ = false ∧ w2.frozen? ⟨kz, 1, none⟩ = false ∧ ∃ u0 u1 : Int, w2.cell? ⟨kz, 0, none⟩ = some (Value.int .i64 u0) ∧ w2.cell? ⟨kz, 1, none⟩ = some (Value.int .u64 u1) ∧ (L 9 = true → u0 = s0 ∧ u1 = s1) := fun h => (by obtain ⟨ge, fz0, fz1, u0, u1, ce0, ce1, us⟩ := fz h; exact ⟨ge, cf hb (World.block_lt_of_cell? _ _ ce0) fz0, cf hb (World.block_lt_of_cell? _ _ ce1) fz1, u0, u1, ck hb ce0, ck hb ce1, us⟩); replace HB : Below W.heap.size W w2 := bt HB hb; clear hb
      exact hK _ _ ⟨kz, fun _ _ => rfl, rfl, uc0, uc1, vc0, vc1, HB, szw, fz, sz⟩
    · have hlit : (regOps Tryd.f6 2)[2]? = some ({ dst := some 28, op := Op.load 24 (Operand.tmp 4), type := 24, pos := "law.go:30", after := #[], guard := none }) := by kernel_rfl
      obtain rfl := Option.some.inj (hlit.symm.trans hoi)
      have r4 : b.tmps.getD 4 undef = (.pointer (some ⟨ky, 0, none⟩)) := rd ((hT.old 4 (by kernel_rfl)).trans t4)
      refine op_go hoi (want_all rfl) fun K hK => ?_
      clear hT hpre hlit hoi
      go_simp
      exact hK _ _ ⟨kz, fun _ _ => rfl, rfl, uc0, uc1, vc0, vc1, HB, szw, fz, sz⟩
    · have hlit : (regOps Tryd.f6 2)[3]? = some ({ dst := some 29, op := Op.call { callee := Callee.value (Operand.func 17), args := #[Operand.tmp 28], argTypes := #[24] }, type := 37, pos := "law.go:30", after := #[{ on := 2, ground := Ground.data }, { on := 1, ground := Ground.chain }], guard := none }) := by kernel_rfl
      obtain rfl := Option.some.inj (hlit.symm.trans hoi)
      have r28 : b.tmps.getD 28 undef = (.agg #[.int .i64 v0, .int .u64 v1]) := rd (hT.at 2 (by kernel_rfl) (pre_of hpre 2 (by kernel_rfl)))
      refine op_go hoi (want_all rfl) fun K hK => ?_
      clear hT hpre hlit hoi
      go_simp
      go_at_call 17
      refine (of17 _ _ _).mono ?_; rintro e w2 ⟨rfl, hb⟩; replace uc0 := ck hb uc0; replace uc1 := ck hb uc1; replace vc0 := ck hb vc0; replace vc1 := ck hb vc1; replace szw : w.heap.size ≤ w2.heap.size := Nat.le_trans szw hb.size; replace fz : L 8 = true → w.heap.size ≤ kz ∧ w2.frozen? ⟨kz, 0, none⟩ = false ∧ w2.frozen? ⟨kz, 1, none⟩ = false ∧ ∃ u0 u1 : Int, w2.cell? ⟨kz, 0, none⟩ = some (Value.int .i64 u0) ∧ w2.cell? ⟨kz, 1, none⟩ = some (Value.int .u64 u1) ∧ (L 9 = true → u0 = s0 ∧ u1 = s1) := fun h => (by obtain ⟨ge, fz0, fz1, u0, u1, ce0, ce1, us⟩ := fz h; exact ⟨ge, cf hb (World.block_lt_of_cell? _ _ ce0) fz0, cf hb (World.block_lt_of_cell? _ _ ce1) fz1, u0, u1, ck hb ce0, ck hb ce1, us⟩); replace HB : Below W.heap.size W w2 := bt HB hb; clear hb
      exact hK _ _ ⟨kz, fun _ _ => rfl, rfl, uc0, uc1, vc0, vc1, HB, szw, fz, sz⟩
    · have hlit : (regOps Tryd.f6 2)[4]? = some ({ dst := some 30, op := Op.call { callee := Callee.value (Operand.func 16), args := #[Operand.tmp 27, Operand.tmp 29], argTypes := #[37, 37] }, type := 38, pos := "law.go:30", after := #[{ on := 1, ground := Ground.data }, { on := 3, ground := Ground.data }, { on := 3, ground := Ground.chain }], guard := none }) := by kernel_rfl
      obtain rfl := Option.some.inj (hlit.symm.trans hoi)
      have r27 : b.tmps.getD 27 undef = (.agg #[.int .i64 u0, .int .u64 u1]) := rd (hT.at 1 (by kernel_rfl) (pre_of hpre 1 (by kernel_rfl)))
      have r29 : b.tmps.getD 29 undef = (.agg #[.int .i64 v0, .int .u64 v1]) := rd (hT.at 3 (by kernel_rfl) (pre_of hpre 3 (by kernel_rfl)))
      refine op_go hoi (want_all rfl) fun K hK => ?_
      clear hT hpre hlit hoi
      go_simp
      go_at_call 16
      refine (m1 _).mono ?_; rintro e w2 ⟨rfl, hb⟩; replace uc0 := ck hb uc0; replace uc1 := ck hb uc1; replace vc0 := ck hb vc0; replace vc1 := ck hb vc1; replace szw : w.heap.size ≤ w2.heap.size := Nat.le_trans szw hb.size; replace fz : L 8 = true → w.heap.size ≤ kz ∧ w2.frozen? ⟨kz, 0, none⟩ = false ∧ w2.frozen? ⟨kz, 1, none⟩ = false ∧ ∃ u0 u1 : Int, w2.cell? ⟨kz, 0, none⟩ = some (Value.int .i64 u0) ∧ w2.cell? ⟨kz, 1, none⟩ = some (Value.int .u64 u1) ∧ (L 9 = true → u0 = s0 ∧ u1 = s1) := fun h => (by obtain ⟨ge, fz0, fz1, u0, u1, ce0, ce1, us⟩ := fz h; exact ⟨ge, cf hb (World.block_lt_of_cell? _ _ ce0) fz0, cf hb (World.block_lt_of_cell? _ _ ce1) fz1, u0, u1, ck hb ce0, ck hb ce1, us⟩); replace HB : Below W.heap.size W w2 := bt HB hb; clear hb
      exact hK _ _ ⟨kz, fun _ _ => rfl, rfl, uc0, uc1, vc0, vc1, HB, szw, fz, sz⟩
    · have hlit : (regOps Tryd.f6 2)[5]? = some ({ dst := some 25, op := Op.move (Operand.tmp 30), type := 38, pos := "law.go:30", after := #[{ on := 4, ground := Ground.data }], guard := none }) := by kernel_rfl
      obtain rfl := Option.some.inj (hlit.symm.trans hoi)
      have r30 : b.tmps.getD 30 undef = (.tuple #[.agg #[.int .i64 s0, .int .u64 s1], .bool o1]) := rd (hT.at 4 (by kernel_rfl) (pre_of hpre 4 (by kernel_rfl)))
      refine op_go hoi (want_all rfl) fun K hK => ?_
      clear hT hpre hlit hoi
      go_simp
      exact hK _ _ ⟨kz, fun _ _ => rfl, rfl, uc0, uc1, vc0, vc1, HB, szw, fz, sz⟩
    · have hlit : (regOps Tryd.f6 2)[6]? = some ({ dst := some 31, op := Op.extract (Operand.tmp 25) 0, type := 37, pos := "law.go:30", after := #[{ on := 5, ground := Ground.data }], guard := none }) := by kernel_rfl
      obtain rfl := Option.some.inj (hlit.symm.trans hoi)
      have r25 : b.tmps.getD 25 undef = (.tuple #[.agg #[.int .i64 s0, .int .u64 s1], .bool o1]) := rd (hT.at 5 (by kernel_rfl) (pre_of hpre 5 (by kernel_rfl)))
      refine op_go hoi (want_all rfl) fun K hK => ?_
      clear hT hpre hlit hoi
      go_simp
      exact hK _ _ ⟨kz, fun _ _ => rfl, rfl, uc0, uc1, vc0, vc1, HB, szw, fz, sz⟩
    · have hlit : (regOps Tryd.f6 2)[7]? = some ({ dst := some 32, op := Op.extract (Operand.tmp 25) 1, type := 4, pos := "law.go:30", after := #[{ on := 5, ground := Ground.data }, { on := 9, ground := Ground.gcOnly Departure.lateStores }], guard := none }) := by kernel_rfl
      obtain rfl := Option.some.inj (hlit.symm.trans hoi)
      have r25 : b.tmps.getD 25 undef = (.tuple #[.agg #[.int .i64 s0, .int .u64 s1], .bool o1]) := rd (hT.at 5 (by kernel_rfl) (pre_of hpre 5 (by kernel_rfl)))
      refine op_go hoi (want_all rfl) fun K hK => ?_
      clear hT hpre hlit hoi
      go_simp
      exact hK _ _ ⟨kz, fun _ _ => rfl, rfl, uc0, uc1, vc0, vc1, HB, szw, fz, sz⟩
    · have hlit : (regOps Tryd.f6 2)[8]? = some ({ dst := some 9, op := Op.alloc 37, type := 0, pos := "law.go:30", after := #[], guard := none }) := by kernel_rfl
      obtain rfl := Option.some.inj (hlit.symm.trans hoi)
      refine op_go hoi (want_all rfl) fun K hK => ?_
      clear hT hpre hlit hoi
      go_simp
      have lw_uc0 := World.block_lt_of_cell? w' _ uc0
      have lw_uc1 := World.block_lt_of_cell? w' _ uc1
      have lw_vc0 := World.block_lt_of_cell? w' _ vc0
      have lw_vc1 := World.block_lt_of_cell? w' _ vc1
      refine hK _ _ ⟨w'.heap.size, fun j hj => ?_, rfl, by go_simp, by go_simp, by go_simp, by go_simp, ba HB _, by simp; omega, fun _ => ⟨szw, by go_simp, by go_simp, 0, 0, by go_simp, by go_simp, fun h => absurd ((sz h).symm.trans hun) (by decide)⟩, fun _ => rfl⟩
      by_cases e : j = 8
      · subst e; rw [hun] at hj; cases hj
      · unfold region6_2V; split <;> first | rfl | (exact absurd rfl e)
    · have hlit : (regOps Tryd.f6 2)[9]? = some ({ dst := none, op := Op.store 37 (Operand.tmp 9) (Operand.tmp 31), type := 0, pos := "law.go:30", after := #[{ on := 8, ground := Ground.data }, { on := 6, ground := Ground.data }, { on := 4, ground := Ground.chain }, { on := 0, ground := Ground.phase }, { on := 1, ground := Ground.phase }, { on := 2, ground := Ground.phase }, { on := 3, ground := Ground.phase }, { on := 4, ground := Ground.phase }, { on := 5, ground := Ground.phase }, { on := 6, ground := Ground.phase }, { on := 7, ground := Ground.textOnly Departure.lateStores }, { on := 8, ground := Ground.phase }], guard := none }) := by kernel_rfl
      obtain rfl := Option.some.inj (hlit.symm.trans hoi)
      have r9 : b.tmps.getD 9 undef = (.pointer (some ⟨kz, 0, none⟩)) := rd (hT.at 8 (by kernel_rfl) (pre_of hpre 8 (by kernel_rfl)))
      have r31 : b.tmps.getD 31 undef = (.agg #[.int .i64 s0, .int .u64 s1]) := rd (hT.at 6 (by kernel_rfl) (pre_of hpre 6 (by kernel_rfl)))
      have pr : L 8 = true := pre_of hpre 8 (by kernel_rfl)
      obtain ⟨ge, fz0, fz1, u0, u1, ce0, ce1, -⟩ := fz pr
      have ne_kx : ¬ kx = kz := Nat.ne_of_lt (Nat.lt_of_lt_of_le lt_kx ge)
      have nf_kx : ¬ kz = kx := fun h => ne_kx h.symm
      have ne_ky : ¬ ky = kz := Nat.ne_of_lt (Nat.lt_of_lt_of_le lt_ky ge)
      have nf_ky : ¬ kz = ky := fun h => ne_ky h.symm
      refine op_go hoi (want_all rfl) fun K hK => ?_
      clear hT hpre hlit hoi
      go_simp
      exact hK _ _ ⟨kz, fun _ _ => rfl, rfl, by go_simp, by go_simp, by go_simp, by go_simp, bs (bs (HB) (Nat.le_trans sz0 ge) _) (Nat.le_trans sz0 ge) _, by simp; omega, fun _ => ⟨ge, by go_simp, by go_simp, s0, s1, by go_simp, by go_simp, fun _ => ⟨rfl, rfl⟩⟩, fun _ => pr⟩
    · have hlit : (regOps Tryd.f6 2)[10]? = some ({ dst := some 10, op := Op.assign (Operand.tmp 32), type := 4, pos := "law.go:30", after := #[{ on := 7, ground := Ground.data }, { on := 9, ground := Ground.chain }, { on := 0, ground := Ground.phase }, { on := 1, ground := Ground.phase }, { on := 2, ground := Ground.phase }, { on := 3, ground := Ground.phase }, { on := 4, ground := Ground.phase }, { on := 5, ground := Ground.phase }, { on := 6, ground := Ground.phase }, { on := 7, ground := Ground.phase }, { on := 8, ground := Ground.phase }, { on := 9, ground := Ground.phase }], guard := none }) := by kernel_rfl
      obtain rfl := Option.some.inj (hlit.symm.trans hoi)
      have r32 : b.tmps.getD 32 undef = (.bool o1) := rd (hT.at 7 (by kernel_rfl) (pre_of hpre 7 (by kernel_rfl)))
      refine op_go hoi (want_all rfl) fun K hK => ?_
      clear hT hpre hlit hoi
      go_simp
      exact hK _ _ ⟨kz, fun _ _ => rfl, rfl, uc0, uc1, vc0, vc1, HB, szw, fz, sz⟩
  · intro kz b w' hT hS
    rw [hT.all ht]
    have hn : (regOps Tryd.f6 2).size = 11 := by kernel_rfl
    rw [hn] at hS ⊢
    skip
    skip
    obtain ⟨uc0, uc1, vc0, vc1, HB, szw, fz, sz⟩ := hS
    obtain ⟨gez, fzz0, fzz1, uz0, uz1, cez0, cez1, usz⟩ := fz rfl
    obtain ⟨rfl, rfl⟩ := usz rfl
    exact he kz w' ⟨uc0, uc1, vc0, vc1, HB⟩ ⟨cez0, cez1, fzz0, fzz1, gez⟩

/-- What each operation of the region leaves. -/
def region6_4V (u0 u1 v0 v1 d0 d1 : Int) (o2 : Bool) (kz : Nat) : Nat → Value
  | 0 => .agg #[.int .i64 u0, .int .u64 u1]
  | 1 => .agg #[.int .i64 u0, .int .u64 u1]
  | 2 => .agg #[.int .i64 v0, .int .u64 v1]
  | 3 => .agg #[.int .i64 v0, .int .u64 v1]
  | 4 => .tuple #[.agg #[.int .i64 d0, .int .u64 d1], .bool o2]
  | 5 => .tuple #[.agg #[.int .i64 d0, .int .u64 d1], .bool o2]
  | 6 => .agg #[.int .i64 d0, .int .u64 d1]
  | 7 => .bool o2
  | 8 => .pointer (some ⟨kz, 0, none⟩)
  | 9 => undef
  | 10 => .bool o2
  | _ => undef

set_option maxHeartbeats 4000000 in
set_option maxRecDepth 100000 in
theorem region6_4 (u0 u1 v0 v1 d0 d1 : Int) (kx ky : Nat) (o2 : Bool) (W : World) (m1 : ∀ w : World, Calls Tryd.prog 18 #[.agg #[.int .i64 u0, .int .u64 u1], .agg #[.int .i64 v0, .int .u64 v1]] w fun e w' => e = .returned (.tuple #[.agg #[.int .i64 d0, .int .u64 d1], .bool o2]) ∧ Below w.heap.size w w') {id : Nat} {ops : Array Oper} {Q : Exit → Act → World → Prop} {a : Act} {w : World}
    (ho : ops = (regOps Tryd.f6 4)) (hsz : a.tmps.size = 115) (t3 : a.tmps[3]? = some (.pointer (some ⟨kx, 0, none⟩))) (t4 : a.tmps[4]? = some (.pointer (some ⟨ky, 0, none⟩)))
    (h0 : w.cell? ⟨kx, 0, none⟩ = some (.int .i64 u0) ∧ w.cell? ⟨kx, 1, none⟩ = some (.int .u64 u1) ∧ w.cell? ⟨ky, 0, none⟩ = some (.int .i64 v0) ∧ w.cell? ⟨ky, 1, none⟩ = some (.int .u64 v1) ∧ Below W.heap.size W w)
    (he : ∀ kz w', w'.cell? ⟨kx, 0, none⟩ = some (.int .i64 u0) ∧ w'.cell? ⟨kx, 1, none⟩ = some (.int .u64 u1) ∧ w'.cell? ⟨ky, 0, none⟩ = some (.int .i64 v0) ∧ w'.cell? ⟨ky, 1, none⟩ = some (.int .u64 v1) ∧ Below W.heap.size W w' → w'.cell? ⟨kz, 0, none⟩ = some (.int .i64 d0) ∧ w'.cell? ⟨kz, 1, none⟩ = some (.int .u64 d1) ∧ w'.frozen? ⟨kz, 0, none⟩ = false ∧ w'.frozen? ⟨kz, 1, none⟩ = false ∧ w.heap.size ≤ kz → Q .normal ⟨((((((((((a.tmps.setIfInBounds 40 (.agg #[.int .i64 u0, .int .u64 u1])).setIfInBounds 41 (.agg #[.int .i64 u0, .int .u64 u1])).setIfInBounds 42 (.agg #[.int .i64 v0, .int .u64 v1])).setIfInBounds 43 (.agg #[.int .i64 v0, .int .u64 v1])).setIfInBounds 44 (.tuple #[.agg #[.int .i64 d0, .int .u64 d1], .bool o2])).setIfInBounds 39 (.tuple #[.agg #[.int .i64 d0, .int .u64 d1], .bool o2])).setIfInBounds 45 (.agg #[.int .i64 d0, .int .u64 d1])).setIfInBounds 46 (.bool o2)).setIfInBounds 13 (.pointer (some ⟨kz, 0, none⟩))).setIfInBounds 14 (.bool o2)), a.defers⟩ w') :
    (Code.region id ops true).wp Tryd.prog Q a w := by
  have ht : tidy (regOps Tryd.f6 4) a.tmps.size = true := by rw [hsz]; kernel_rfl
  obtain ⟨uc0, uc1, vc0, vc1, HB0⟩ := h0
  have lt_kx := World.block_lt_of_cell? w _ uc0
  have lt_ky := World.block_lt_of_cell? w _ vc0
  have sz0 := HB0.size
  refine region_tab (G := Nat) (fun g => (region6_4V u0 u1 v0 v1 d0 d1  o2 g)) (fun g L w' => w'.cell? ⟨kx, 0, none⟩ = some (.int .i64 u0) ∧ w'.cell? ⟨kx, 1, none⟩ = some (.int .u64 u1) ∧ w'.cell? ⟨ky, 0, none⟩ = some (.int .i64 v0) ∧ w'.cell? ⟨ky, 1, none⟩ = some (.int .u64 v1) ∧ Below W.heap.size W w' ∧ w.heap.size ≤ w'.heap.size ∧ (L 8 = true → w.heap.size ≤ g ∧ w'.frozen? ⟨g, 0, none⟩ = false ∧ w'.frozen? ⟨g, 1, none⟩ = false ∧ ∃ u0 u1 : Int, w'.cell? ⟨g, 0, none⟩ = some (.int .i64 u0) ∧ w'.cell? ⟨g, 1, none⟩ = some (.int .u64 u1) ∧ (L 9 = true → u0 = d0 ∧ u1 = d1)) ∧ (L 9 = true → L 8 = true)) 0 (by kernel_rfl) ho ht ⟨uc0, uc1, vc0, vc1, bd HB0, Nat.le_refl _, fun h => (by cases h), fun h => (by cases h)⟩ ?_ ?_
  · intro i o hoi kz L b w' hun hpre hT hS
    clear he uc0 uc1 vc0 vc1 ho hsz ht HB0
    have hi : i < (regOps Tryd.f6 4).size := (Array.getElem?_eq_some_iff.1 hoi).1
    rw [show (regOps Tryd.f6 4).size = 11 by kernel_rfl] at hi
    skip
    skip
    obtain ⟨uc0, uc1, vc0, vc1, HB, szw, fz, sz⟩ := hS
    have hcases : i = 0 ∨ i = 1 ∨ i = 2 ∨ i = 3 ∨ i = 4 ∨ i = 5 ∨ i = 6 ∨ i = 7 ∨ i = 8 ∨ i = 9 ∨ i = 10 := by omega
    rcases hcases with rfl | rfl | rfl | rfl | rfl | rfl | rfl | rfl | rfl | rfl | rfl
    · have hlit : (regOps Tryd.f6 4)[0]? = some ({ dst := some 40, op := Op.load 24 (Operand.tmp 3), type := 24, pos := "law.go:32", after := #[], guard := none }) := by kernel_rfl
      obtain rfl := Option.some.inj (hlit.symm.trans hoi)
      have r3 : b.tmps.getD 3 undef = (.pointer (some ⟨kx, 0, none⟩)) := rd ((hT.old 3 (by kernel_rfl)).trans t3)
      refine op_go hoi (want_all rfl) fun K hK => ?_
      clear hT hpre hlit hoi
      go_simp
      exact hK _ _ ⟨kz, fun _ _ => rfl, rfl, uc0, uc1, vc0, vc1, HB, szw, fz, sz⟩
    · have hlit : (regOps Tryd.f6 4)[1]? = some ({ dst := some 41, op := Op.call { callee := Callee.value (Operand.func 17), args := #[Operand.tmp 40], argTypes := #[24] }, type := 37, pos := "law.go:32", after := #[{ on := 0, ground := Ground.data }], guard := none }) := by kernel_rfl
      obtain rfl := Option.some.inj (hlit.symm.trans hoi)
      have r40 : b.tmps.getD 40 undef = (.agg #[.int .i64 u0, .int .u64 u1]) := rd (hT.at 0 (by kernel_rfl) (pre_of hpre 0 (by kernel_rfl)))
      refine op_go hoi (want_all rfl) fun K hK => ?_
      clear hT hpre hlit hoi
      go_simp
      go_at_call 17
      refine (of17 _ _ _).mono ?_; rintro e w2 ⟨rfl, hb⟩; replace uc0 := ck hb uc0; replace uc1 := ck hb uc1; replace vc0 := ck hb vc0; replace vc1 := ck hb vc1; replace szw : w.heap.size ≤ w2.heap.size := Nat.le_trans szw hb.size; replace fz : L 8 = true → w.heap.size ≤ kz ∧ w2.frozen? ⟨kz, 0, none⟩ = false ∧ w2.frozen? ⟨kz, 1, none⟩ = false ∧ ∃ u0 u1 : Int, w2.cell? ⟨kz, 0, none⟩ = some (Value.int .i64 u0) ∧ w2.cell? ⟨kz, 1, none⟩ = some (Value.int .u64 u1) ∧ (L 9 = true → u0 = d0 ∧ u1 = d1) := fun h => (by obtain ⟨ge, fz0, fz1, u0, u1, ce0, ce1, us⟩ := fz h; exact ⟨ge, cf hb (World.block_lt_of_cell? _ _ ce0) fz0, cf hb (World.block_lt_of_cell? _ _ ce1) fz1, u0, u1, ck hb ce0, ck hb ce1, us⟩); replace HB : Below W.heap.size W w2 := bt HB hb; clear hb
      exact hK _ _ ⟨kz, fun _ _ => rfl, rfl, uc0, uc1, vc0, vc1, HB, szw, fz, sz⟩
    · have hlit : (regOps Tryd.f6 4)[2]? = some ({ dst := some 42, op := Op.load 24 (Operand.tmp 4), type := 24, pos := "law.go:32", after := #[], guard := none }) := by kernel_rfl
      obtain rfl := Option.some.inj (hlit.symm.trans hoi)
      have r4 : b.tmps.getD 4 undef = (.pointer (some ⟨ky, 0, none⟩)) := rd ((hT.old 4 (by kernel_rfl)).trans t4)
      refine op_go hoi (want_all rfl) fun K hK => ?_
      clear hT hpre hlit hoi
      go_simp
      exact hK _ _ ⟨kz, fun _ _ => rfl, rfl, uc0, uc1, vc0, vc1, HB, szw, fz, sz⟩
    · have hlit : (regOps Tryd.f6 4)[3]? = some ({ dst := some 43, op := Op.call { callee := Callee.value (Operand.func 17), args := #[Operand.tmp 42], argTypes := #[24] }, type := 37, pos := "law.go:32", after := #[{ on := 2, ground := Ground.data }, { on := 1, ground := Ground.chain }], guard := none }) := by kernel_rfl
      obtain rfl := Option.some.inj (hlit.symm.trans hoi)
      have r42 : b.tmps.getD 42 undef = (.agg #[.int .i64 v0, .int .u64 v1]) := rd (hT.at 2 (by kernel_rfl) (pre_of hpre 2 (by kernel_rfl)))
      refine op_go hoi (want_all rfl) fun K hK => ?_
      clear hT hpre hlit hoi
      go_simp
      go_at_call 17
      refine (of17 _ _ _).mono ?_; rintro e w2 ⟨rfl, hb⟩; replace uc0 := ck hb uc0; replace uc1 := ck hb uc1; replace vc0 := ck hb vc0; replace vc1 := ck hb vc1; replace szw : w.heap.size ≤ w2.heap.size := Nat.le_trans szw hb.size; replace fz : L 8 = true → w.heap.size ≤ kz ∧ w2.frozen? ⟨kz, 0, none⟩ = false ∧ w2.frozen? ⟨kz, 1, none⟩ = false ∧ ∃ u0 u1 : Int, w2.cell? ⟨kz, 0, none⟩ = some (Value.int .i64 u0) ∧ w2.cell? ⟨kz, 1, none⟩ = some (Value.int .u64 u1) ∧ (L 9 = true → u0 = d0 ∧ u1 = d1) := fun h => (by obtain ⟨ge, fz0, fz1, u0, u1, ce0, ce1, us⟩ := fz h; exact ⟨ge, cf hb (World.block_lt_of_cell? _ _ ce0) fz0, cf hb (World.block_lt_of_cell? _ _ ce1) fz1, u0, u1, ck hb ce0, ck hb ce1, us⟩); replace HB : Below W.heap.size W w2 := bt HB hb; clear hb
      exact hK _ _ ⟨kz, fun _ _ => rfl, rfl, uc0, uc1, vc0, vc1, HB, szw, fz, sz⟩
    · have hlit : (regOps Tryd.f6 4)[4]? = some ({ dst := some 44, op := Op.call { callee := Callee.value (Operand.func 18), args := #[Operand.tmp 41, Operand.tmp 43], argTypes := #[37, 37] }, type := 38, pos := "law.go:32", after := #[{ on := 1, ground := Ground.data }, { on := 3, ground := Ground.data }, { on := 3, ground := Ground.chain }], guard := none }) := by kernel_rfl
      obtain rfl := Option.some.inj (hlit.symm.trans hoi)
      have r41 : b.tmps.getD 41 undef = (.agg #[.int .i64 u0, .int .u64 u1]) := rd (hT.at 1 (by kernel_rfl) (pre_of hpre 1 (by kernel_rfl)))
      have r43 : b.tmps.getD 43 undef = (.agg #[.int .i64 v0, .int .u64 v1]) := rd (hT.at 3 (by kernel_rfl) (pre_of hpre 3 (by kernel_rfl)))
      refine op_go hoi (want_all rfl) fun K hK => ?_
      clear hT hpre hlit hoi
      go_simp
      go_at_call 18
      refine (m1 _).mono ?_; rintro e w2 ⟨rfl, hb⟩; replace uc0 := ck hb uc0; replace uc1 := ck hb uc1; replace vc0 := ck hb vc0; replace vc1 := ck hb vc1; replace szw : w.heap.size ≤ w2.heap.size := Nat.le_trans szw hb.size; replace fz : L 8 = true → w.heap.size ≤ kz ∧ w2.frozen? ⟨kz, 0, none⟩ = false ∧ w2.frozen? ⟨kz, 1, none⟩ = false ∧ ∃ u0 u1 : Int, w2.cell? ⟨kz, 0, none⟩ = some (Value.int .i64 u0) ∧ w2.cell? ⟨kz, 1, none⟩ = some (Value.int .u64 u1) ∧ (L 9 = true → u0 = d0 ∧ u1 = d1) := fun h => (by obtain ⟨ge, fz0, fz1, u0, u1, ce0, ce1, us⟩ := fz h; exact ⟨ge, cf hb (World.block_lt_of_cell? _ _ ce0) fz0, cf hb (World.block_lt_of_cell? _ _ ce1) fz1, u0, u1, ck hb ce0, ck hb ce1, us⟩); replace HB : Below W.heap.size W w2 := bt HB hb; clear hb
      exact hK _ _ ⟨kz, fun _ _ => rfl, rfl, uc0, uc1, vc0, vc1, HB, szw, fz, sz⟩
    · have hlit : (regOps Tryd.f6 4)[5]? = some ({ dst := some 39, op := Op.move (Operand.tmp 44), type := 38, pos := "law.go:32", after := #[{ on := 4, ground := Ground.data }], guard := none }) := by kernel_rfl
      obtain rfl := Option.some.inj (hlit.symm.trans hoi)
      have r44 : b.tmps.getD 44 undef = (.tuple #[.agg #[.int .i64 d0, .int .u64 d1], .bool o2]) := rd (hT.at 4 (by kernel_rfl) (pre_of hpre 4 (by kernel_rfl)))
      refine op_go hoi (want_all rfl) fun K hK => ?_
      clear hT hpre hlit hoi
      go_simp
      exact hK _ _ ⟨kz, fun _ _ => rfl, rfl, uc0, uc1, vc0, vc1, HB, szw, fz, sz⟩
    · have hlit : (regOps Tryd.f6 4)[6]? = some ({ dst := some 45, op := Op.extract (Operand.tmp 39) 0, type := 37, pos := "law.go:32", after := #[{ on := 5, ground := Ground.data }], guard := none }) := by kernel_rfl
      obtain rfl := Option.some.inj (hlit.symm.trans hoi)
      have r39 : b.tmps.getD 39 undef = (.tuple #[.agg #[.int .i64 d0, .int .u64 d1], .bool o2]) := rd (hT.at 5 (by kernel_rfl) (pre_of hpre 5 (by kernel_rfl)))
      refine op_go hoi (want_all rfl) fun K hK => ?_
      clear hT hpre hlit hoi
      go_simp
      exact hK _ _ ⟨kz, fun _ _ => rfl, rfl, uc0, uc1, vc0, vc1, HB, szw, fz, sz⟩
    · have hlit : (regOps Tryd.f6 4)[7]? = some ({ dst := some 46, op := Op.extract (Operand.tmp 39) 1, type := 4, pos := "law.go:32", after := #[{ on := 5, ground := Ground.data }, { on := 9, ground := Ground.gcOnly Departure.lateStores }], guard := none }) := by kernel_rfl
      obtain rfl := Option.some.inj (hlit.symm.trans hoi)
      have r39 : b.tmps.getD 39 undef = (.tuple #[.agg #[.int .i64 d0, .int .u64 d1], .bool o2]) := rd (hT.at 5 (by kernel_rfl) (pre_of hpre 5 (by kernel_rfl)))
      refine op_go hoi (want_all rfl) fun K hK => ?_
      clear hT hpre hlit hoi
      go_simp
      exact hK _ _ ⟨kz, fun _ _ => rfl, rfl, uc0, uc1, vc0, vc1, HB, szw, fz, sz⟩
    · have hlit : (regOps Tryd.f6 4)[8]? = some ({ dst := some 13, op := Op.alloc 37, type := 0, pos := "law.go:32", after := #[], guard := none }) := by kernel_rfl
      obtain rfl := Option.some.inj (hlit.symm.trans hoi)
      refine op_go hoi (want_all rfl) fun K hK => ?_
      clear hT hpre hlit hoi
      go_simp
      have lw_uc0 := World.block_lt_of_cell? w' _ uc0
      have lw_uc1 := World.block_lt_of_cell? w' _ uc1
      have lw_vc0 := World.block_lt_of_cell? w' _ vc0
      have lw_vc1 := World.block_lt_of_cell? w' _ vc1
      refine hK _ _ ⟨w'.heap.size, fun j hj => ?_, rfl, by go_simp, by go_simp, by go_simp, by go_simp, ba HB _, by simp; omega, fun _ => ⟨szw, by go_simp, by go_simp, 0, 0, by go_simp, by go_simp, fun h => absurd ((sz h).symm.trans hun) (by decide)⟩, fun _ => rfl⟩
      by_cases e : j = 8
      · subst e; rw [hun] at hj; cases hj
      · unfold region6_4V; split <;> first | rfl | (exact absurd rfl e)
    · have hlit : (regOps Tryd.f6 4)[9]? = some ({ dst := none, op := Op.store 37 (Operand.tmp 13) (Operand.tmp 45), type := 0, pos := "law.go:32", after := #[{ on := 8, ground := Ground.data }, { on := 6, ground := Ground.data }, { on := 4, ground := Ground.chain }, { on := 0, ground := Ground.phase }, { on := 1, ground := Ground.phase }, { on := 2, ground := Ground.phase }, { on := 3, ground := Ground.phase }, { on := 4, ground := Ground.phase }, { on := 5, ground := Ground.phase }, { on := 6, ground := Ground.phase }, { on := 7, ground := Ground.textOnly Departure.lateStores }, { on := 8, ground := Ground.phase }], guard := none }) := by kernel_rfl
      obtain rfl := Option.some.inj (hlit.symm.trans hoi)
      have r13 : b.tmps.getD 13 undef = (.pointer (some ⟨kz, 0, none⟩)) := rd (hT.at 8 (by kernel_rfl) (pre_of hpre 8 (by kernel_rfl)))
      have r45 : b.tmps.getD 45 undef = (.agg #[.int .i64 d0, .int .u64 d1]) := rd (hT.at 6 (by kernel_rfl) (pre_of hpre 6 (by kernel_rfl)))
      have pr : L 8 = true := pre_of hpre 8 (by kernel_rfl)
      obtain ⟨ge, fz0, fz1, u0, u1, ce0, ce1, -⟩ := fz pr
      have ne_kx : ¬ kx = kz := Nat.ne_of_lt (Nat.lt_of_lt_of_le lt_kx ge)
      have nf_kx : ¬ kz = kx := fun h => ne_kx h.symm
      have ne_ky : ¬ ky = kz := Nat.ne_of_lt (Nat.lt_of_lt_of_le lt_ky ge)
      have nf_ky : ¬ kz = ky := fun h => ne_ky h.symm
      refine op_go hoi (want_all rfl) fun K hK => ?_
      clear hT hpre hlit hoi
      go_simp
      exact hK _ _ ⟨kz, fun _ _ => rfl, rfl, by go_simp, by go_simp, by go_simp, by go_simp, bs (bs (HB) (Nat.le_trans sz0 ge) _) (Nat.le_trans sz0 ge) _, by simp; omega, fun _ => ⟨ge, by go_simp, by go_simp, d0, d1, by go_simp, by go_simp, fun _ => ⟨rfl, rfl⟩⟩, fun _ => pr⟩
    · have hlit : (regOps Tryd.f6 4)[10]? = some ({ dst := some 14, op := Op.assign (Operand.tmp 46), type := 4, pos := "law.go:32", after := #[{ on := 7, ground := Ground.data }, { on := 9, ground := Ground.chain }, { on := 0, ground := Ground.phase }, { on := 1, ground := Ground.phase }, { on := 2, ground := Ground.phase }, { on := 3, ground := Ground.phase }, { on := 4, ground := Ground.phase }, { on := 5, ground := Ground.phase }, { on := 6, ground := Ground.phase }, { on := 7, ground := Ground.phase }, { on := 8, ground := Ground.phase }, { on := 9, ground := Ground.phase }], guard := none }) := by kernel_rfl
      obtain rfl := Option.some.inj (hlit.symm.trans hoi)
      have r46 : b.tmps.getD 46 undef = (.bool o2) := rd (hT.at 7 (by kernel_rfl) (pre_of hpre 7 (by kernel_rfl)))
      refine op_go hoi (want_all rfl) fun K hK => ?_
      clear hT hpre hlit hoi
      go_simp
      exact hK _ _ ⟨kz, fun _ _ => rfl, rfl, uc0, uc1, vc0, vc1, HB, szw, fz, sz⟩
  · intro kz b w' hT hS
    rw [hT.all ht]
    have hn : (regOps Tryd.f6 4).size = 11 := by kernel_rfl
    rw [hn] at hS ⊢
    skip
    skip
    obtain ⟨uc0, uc1, vc0, vc1, HB, szw, fz, sz⟩ := hS
    obtain ⟨gez, fzz0, fzz1, uz0, uz1, cez0, cez1, usz⟩ := fz rfl
    obtain ⟨rfl, rfl⟩ := usz rfl
    exact he kz w' ⟨uc0, uc1, vc0, vc1, HB⟩ ⟨cez0, cez1, fzz0, fzz1, gez⟩
end Go.Proofs.YtkamnnkdadfebaaDoor
