import Derived.Test.YtkamnnkdadfebaaDoorRg
namespace Go.Proofs.YtkamnnkdadfebaaDoor
open Go.RowKit
attribute [local go_sem high] eq24 eq37


/-- What each operation of the region leaves. -/
def region4_4V (aa cc p0 p1 q0 q1 s0 s1 : Int) (kx : Nat) : Nat → Value
  | 0 => .agg #[.int .i64 s0, .int .u64 s1]
  | 1 => .int .i64 aa
  | 2 => .int .i64 cc
  | 3 => .agg #[.int .i64 q0, .int .u64 q1]
  | 4 => .tuple #[.agg #[.int .i64 p0, .int .u64 p1], .bool true]
  | 5 => .tuple #[.agg #[.int .i64 p0, .int .u64 p1], .bool true]
  | 6 => .agg #[.int .i64 p0, .int .u64 p1]
  | 7 => .bool true
  | 8 => .pointer (some ⟨kx, 0, none⟩)
  | 9 => undef
  | 10 => .bool true
  | _ => undef

set_option maxHeartbeats 4000000 in
set_option maxRecDepth 100000 in
theorem region4_4 (aa cc p0 p1 q0 q1 s0 s1 : Int) (ks : Nat) (W : World) (m1 : ∀ w : World, Calls Tryd.prog 12 #[.int .i64 aa, .int .i64 cc] w fun e w' => e = .returned (.agg #[.int .i64 q0, .int .u64 q1]) ∧ Below w.heap.size w w') (m2 : ∀ w : World, Calls Tryd.prog 14 #[.agg #[.int .i64 s0, .int .u64 s1], .agg #[.int .i64 q0, .int .u64 q1]] w fun e w' => e = .returned (.tuple #[.agg #[.int .i64 p0, .int .u64 p1], .bool true]) ∧ Below w.heap.size w w') {id : Nat} {ops : Array Oper} {Q : Exit → Act → World → Prop} {a : Act} {w : World}
    (ho : ops = (regOps Tryd.f4 4)) (hsz : a.tmps.size = 81) (t0 : a.tmps[0]? = some (.int .i64 aa)) (t2 : a.tmps[2]? = some (.int .i64 cc)) (t7 : a.tmps[7]? = some (.pointer (some ⟨ks, 0, none⟩)))
    (h0 : w.cell? ⟨ks, 0, none⟩ = some (.int .i64 s0) ∧ w.cell? ⟨ks, 1, none⟩ = some (.int .u64 s1) ∧ Below W.heap.size W w)
    (he : ∀ kx w', w'.cell? ⟨ks, 0, none⟩ = some (.int .i64 s0) ∧ w'.cell? ⟨ks, 1, none⟩ = some (.int .u64 s1) ∧ Below W.heap.size W w' → w'.cell? ⟨kx, 0, none⟩ = some (.int .i64 p0) ∧ w'.cell? ⟨kx, 1, none⟩ = some (.int .u64 p1) ∧ w'.frozen? ⟨kx, 0, none⟩ = false ∧ w'.frozen? ⟨kx, 1, none⟩ = false ∧ w.heap.size ≤ kx → Q .normal ⟨((((((((((a.tmps.setIfInBounds 37 (.agg #[.int .i64 s0, .int .u64 s1])).setIfInBounds 38 (.int .i64 aa)).setIfInBounds 39 (.int .i64 cc)).setIfInBounds 40 (.agg #[.int .i64 q0, .int .u64 q1])).setIfInBounds 41 (.tuple #[.agg #[.int .i64 p0, .int .u64 p1], .bool true])).setIfInBounds 36 (.tuple #[.agg #[.int .i64 p0, .int .u64 p1], .bool true])).setIfInBounds 42 (.agg #[.int .i64 p0, .int .u64 p1])).setIfInBounds 43 (.bool true)).setIfInBounds 9 (.pointer (some ⟨kx, 0, none⟩))).setIfInBounds 10 (.bool true)), a.defers⟩ w') :
    (Code.region id ops true).wp Tryd.prog Q a w := by
  have ht : tidy (regOps Tryd.f4 4) a.tmps.size = true := by rw [hsz]; kernel_rfl
  obtain ⟨sc0, sc1, HB0⟩ := h0
  have lt_ks := World.block_lt_of_cell? w _ sc0
  have sz0 := HB0.size
  refine region_tab (G := Nat) (fun g => (region4_4V aa cc p0 p1 q0 q1 s0 s1   g)) (fun g L w' => w'.cell? ⟨ks, 0, none⟩ = some (.int .i64 s0) ∧ w'.cell? ⟨ks, 1, none⟩ = some (.int .u64 s1) ∧ Below W.heap.size W w' ∧ w.heap.size ≤ w'.heap.size ∧ (L 8 = true → w.heap.size ≤ g ∧ w'.frozen? ⟨g, 0, none⟩ = false ∧ w'.frozen? ⟨g, 1, none⟩ = false ∧ ∃ u0 u1 : Int, w'.cell? ⟨g, 0, none⟩ = some (.int .i64 u0) ∧ w'.cell? ⟨g, 1, none⟩ = some (.int .u64 u1) ∧ (L 9 = true → u0 = p0 ∧ u1 = p1)) ∧ (L 9 = true → L 8 = true)) 0 (by kernel_rfl) ho ht ⟨sc0, sc1, bd HB0, Nat.le_refl _, fun h => (by cases h), fun h => (by cases h)⟩ ?_ ?_
  · intro i o hoi kx L b w' hun hpre hT hS
    clear he sc0 sc1 ho hsz ht HB0
    have hi : i < (regOps Tryd.f4 4).size := (Array.getElem?_eq_some_iff.1 hoi).1
    rw [show (regOps Tryd.f4 4).size = 11 by kernel_rfl] at hi
    skip
    skip
    obtain ⟨sc0, sc1, HB, szw, fx, sx⟩ := hS
    have hcases : i = 0 ∨ i = 1 ∨ i = 2 ∨ i = 3 ∨ i = 4 ∨ i = 5 ∨ i = 6 ∨ i = 7 ∨ i = 8 ∨ i = 9 ∨ i = 10 := by omega
    rcases hcases with rfl | rfl | rfl | rfl | rfl | rfl | rfl | rfl | rfl | rfl | rfl
    · have hlit : (regOps Tryd.f4 4)[0]? = some ({ dst := some 37, op := Op.load 24 (Operand.tmp 7), type := 24, pos := "law.go:57", after := #[], guard := none }) := by kernel_rfl
      obtain rfl := Option.some.inj (hlit.symm.trans hoi)
      have r7 : b.tmps.getD 7 undef = (.pointer (some ⟨ks, 0, none⟩)) := rd ((hT.old 7 (by kernel_rfl)).trans t7)
      refine op_go hoi (want_all rfl) fun K hK => ?_
      clear hT hpre hlit hoi
      go_simp
      exact hK _ _ ⟨kx, fun _ _ => rfl, rfl, sc0, sc1, HB, szw, fx, sx⟩
    · have hlit : (regOps Tryd.f4 4)[1]? = some ({ dst := some 38, op := Op.move (Operand.tmp 0), type := 3, pos := "law.go:57", after := #[], guard := none }) := by kernel_rfl
      obtain rfl := Option.some.inj (hlit.symm.trans hoi)
      have r0 : b.tmps.getD 0 undef = (.int .i64 aa) := rd ((hT.old 0 (by kernel_rfl)).trans t0)
      refine op_go hoi (want_all rfl) fun K hK => ?_
      clear hT hpre hlit hoi
      go_simp
      exact hK _ _ ⟨kx, fun _ _ => rfl, rfl, sc0, sc1, HB, szw, fx, sx⟩
    · have hlit : (regOps Tryd.f4 4)[2]? = some ({ dst := some 39, op := Op.move (Operand.tmp 2), type := 3, pos := "law.go:57", after := #[], guard := none }) := by kernel_rfl
      obtain rfl := Option.some.inj (hlit.symm.trans hoi)
      have r2 : b.tmps.getD 2 undef = (.int .i64 cc) := rd ((hT.old 2 (by kernel_rfl)).trans t2)
      refine op_go hoi (want_all rfl) fun K hK => ?_
      clear hT hpre hlit hoi
      go_simp
      exact hK _ _ ⟨kx, fun _ _ => rfl, rfl, sc0, sc1, HB, szw, fx, sx⟩
    · have hlit : (regOps Tryd.f4 4)[3]? = some ({ dst := some 40, op := Op.call { callee := Callee.value (Operand.func 12), args := #[Operand.tmp 38, Operand.tmp 39], argTypes := #[3, 3] }, type := 24, pos := "law.go:57", after := #[{ on := 1, ground := Ground.data }, { on := 2, ground := Ground.data }], guard := none }) := by kernel_rfl
      obtain rfl := Option.some.inj (hlit.symm.trans hoi)
      have r38 : b.tmps.getD 38 undef = (.int .i64 aa) := rd (hT.at 1 (by kernel_rfl) (pre_of hpre 1 (by kernel_rfl)))
      have r39 : b.tmps.getD 39 undef = (.int .i64 cc) := rd (hT.at 2 (by kernel_rfl) (pre_of hpre 2 (by kernel_rfl)))
      refine op_go hoi (want_all rfl) fun K hK => ?_
      clear hT hpre hlit hoi
      go_simp
      go_at_call 12
      refine (m1 _).mono ?_; rintro e w2 ⟨rfl, hb⟩; replace sc0 := ck hb sc0; replace sc1 := ck hb sc1; replace szw : w.heap.size ≤ w2.heap.size := Nat.le_trans szw hb.size; replace fx : L 8 = true → w.heap.size ≤ kx ∧ w2.frozen? ⟨kx, 0, none⟩ = false ∧ w2.frozen? ⟨kx, 1, none⟩ = false ∧ ∃ u0 u1 : Int, w2.cell? ⟨kx, 0, none⟩ = some (Value.int .i64 u0) ∧ w2.cell? ⟨kx, 1, none⟩ = some (Value.int .u64 u1) ∧ (L 9 = true → u0 = p0 ∧ u1 = p1) := fun h => (by obtain ⟨ge, fz0, fz1, u0, u1, ce0, ce1, us⟩ := fx h; exact ⟨ge, cf hb (World.block_lt_of_cell? _ _ ce0) fz0, cf hb (World.block_lt_of_cell? _ _ ce1) fz1, u0, u1, ck hb ce0, ck hb ce1, us⟩); replace HB : Below W.heap.size W w2 := bt HB hb; clear hb
      exact hK _ _ ⟨kx, fun _ _ => rfl, rfl, sc0, sc1, HB, szw, fx, sx⟩
    · have hlit : (regOps Tryd.f4 4)[4]? = some ({ dst := some 41, op := Op.call { callee := Callee.value (Operand.func 14), args := #[Operand.tmp 37, Operand.tmp 40], argTypes := #[24, 24] }, type := 31, pos := "law.go:57", after := #[{ on := 0, ground := Ground.data }, { on := 3, ground := Ground.data }, { on := 3, ground := Ground.chain }], guard := none }) := by kernel_rfl
      obtain rfl := Option.some.inj (hlit.symm.trans hoi)
      have r37 : b.tmps.getD 37 undef = (.agg #[.int .i64 s0, .int .u64 s1]) := rd (hT.at 0 (by kernel_rfl) (pre_of hpre 0 (by kernel_rfl)))
      have r40 : b.tmps.getD 40 undef = (.agg #[.int .i64 q0, .int .u64 q1]) := rd (hT.at 3 (by kernel_rfl) (pre_of hpre 3 (by kernel_rfl)))
      refine op_go hoi (want_all rfl) fun K hK => ?_
      clear hT hpre hlit hoi
      go_simp
      go_at_call 14
      refine (m2 _).mono ?_; rintro e w2 ⟨rfl, hb⟩; replace sc0 := ck hb sc0; replace sc1 := ck hb sc1; replace szw : w.heap.size ≤ w2.heap.size := Nat.le_trans szw hb.size; replace fx : L 8 = true → w.heap.size ≤ kx ∧ w2.frozen? ⟨kx, 0, none⟩ = false ∧ w2.frozen? ⟨kx, 1, none⟩ = false ∧ ∃ u0 u1 : Int, w2.cell? ⟨kx, 0, none⟩ = some (Value.int .i64 u0) ∧ w2.cell? ⟨kx, 1, none⟩ = some (Value.int .u64 u1) ∧ (L 9 = true → u0 = p0 ∧ u1 = p1) := fun h => (by obtain ⟨ge, fz0, fz1, u0, u1, ce0, ce1, us⟩ := fx h; exact ⟨ge, cf hb (World.block_lt_of_cell? _ _ ce0) fz0, cf hb (World.block_lt_of_cell? _ _ ce1) fz1, u0, u1, ck hb ce0, ck hb ce1, us⟩); replace HB : Below W.heap.size W w2 := bt HB hb; clear hb
      exact hK _ _ ⟨kx, fun _ _ => rfl, rfl, sc0, sc1, HB, szw, fx, sx⟩
    · have hlit : (regOps Tryd.f4 4)[5]? = some ({ dst := some 36, op := Op.move (Operand.tmp 41), type := 31, pos := "law.go:57", after := #[{ on := 4, ground := Ground.data }], guard := none }) := by kernel_rfl
      obtain rfl := Option.some.inj (hlit.symm.trans hoi)
      have r41 : b.tmps.getD 41 undef = (.tuple #[.agg #[.int .i64 p0, .int .u64 p1], .bool true]) := rd (hT.at 4 (by kernel_rfl) (pre_of hpre 4 (by kernel_rfl)))
      refine op_go hoi (want_all rfl) fun K hK => ?_
      clear hT hpre hlit hoi
      go_simp
      exact hK _ _ ⟨kx, fun _ _ => rfl, rfl, sc0, sc1, HB, szw, fx, sx⟩
    · have hlit : (regOps Tryd.f4 4)[6]? = some ({ dst := some 42, op := Op.extract (Operand.tmp 36) 0, type := 24, pos := "law.go:57", after := #[{ on := 5, ground := Ground.data }], guard := none }) := by kernel_rfl
      obtain rfl := Option.some.inj (hlit.symm.trans hoi)
      have r36 : b.tmps.getD 36 undef = (.tuple #[.agg #[.int .i64 p0, .int .u64 p1], .bool true]) := rd (hT.at 5 (by kernel_rfl) (pre_of hpre 5 (by kernel_rfl)))
      refine op_go hoi (want_all rfl) fun K hK => ?_
      clear hT hpre hlit hoi
      go_simp
      exact hK _ _ ⟨kx, fun _ _ => rfl, rfl, sc0, sc1, HB, szw, fx, sx⟩
    · have hlit : (regOps Tryd.f4 4)[7]? = some ({ dst := some 43, op := Op.extract (Operand.tmp 36) 1, type := 4, pos := "law.go:57", after := #[{ on := 5, ground := Ground.data }, { on := 9, ground := Ground.gcOnly Departure.lateStores }], guard := none }) := by kernel_rfl
      obtain rfl := Option.some.inj (hlit.symm.trans hoi)
      have r36 : b.tmps.getD 36 undef = (.tuple #[.agg #[.int .i64 p0, .int .u64 p1], .bool true]) := rd (hT.at 5 (by kernel_rfl) (pre_of hpre 5 (by kernel_rfl)))
      refine op_go hoi (want_all rfl) fun K hK => ?_
      clear hT hpre hlit hoi
      go_simp
      exact hK _ _ ⟨kx, fun _ _ => rfl, rfl, sc0, sc1, HB, szw, fx, sx⟩
    · have hlit : (regOps Tryd.f4 4)[8]? = some ({ dst := some 9, op := Op.alloc 24, type := 0, pos := "law.go:57", after := #[], guard := none }) := by kernel_rfl
      obtain rfl := Option.some.inj (hlit.symm.trans hoi)
      refine op_go hoi (want_all rfl) fun K hK => ?_
      clear hT hpre hlit hoi
      go_simp
      have lw_sc0 := World.block_lt_of_cell? w' _ sc0
      have lw_sc1 := World.block_lt_of_cell? w' _ sc1
      refine hK _ _ ⟨w'.heap.size, fun j hj => ?_, rfl, by go_simp, by go_simp, ba HB _, by simp; omega, fun _ => ⟨szw, by go_simp, by go_simp, 0, 0, by go_simp, by go_simp, fun h => absurd ((sx h).symm.trans hun) (by decide)⟩, fun _ => rfl⟩
      by_cases e : j = 8
      · subst e; rw [hun] at hj; cases hj
      · unfold region4_4V; split <;> first | rfl | (exact absurd rfl e)
    · have hlit : (regOps Tryd.f4 4)[9]? = some ({ dst := none, op := Op.store 24 (Operand.tmp 9) (Operand.tmp 42), type := 0, pos := "law.go:57", after := #[{ on := 8, ground := Ground.data }, { on := 6, ground := Ground.data }, { on := 4, ground := Ground.chain }, { on := 0, ground := Ground.phase }, { on := 1, ground := Ground.phase }, { on := 2, ground := Ground.phase }, { on := 3, ground := Ground.phase }, { on := 4, ground := Ground.phase }, { on := 5, ground := Ground.phase }, { on := 6, ground := Ground.phase }, { on := 7, ground := Ground.textOnly Departure.lateStores }, { on := 8, ground := Ground.phase }], guard := none }) := by kernel_rfl
      obtain rfl := Option.some.inj (hlit.symm.trans hoi)
      have r9 : b.tmps.getD 9 undef = (.pointer (some ⟨kx, 0, none⟩)) := rd (hT.at 8 (by kernel_rfl) (pre_of hpre 8 (by kernel_rfl)))
      have r42 : b.tmps.getD 42 undef = (.agg #[.int .i64 p0, .int .u64 p1]) := rd (hT.at 6 (by kernel_rfl) (pre_of hpre 6 (by kernel_rfl)))
      have pr : L 8 = true := pre_of hpre 8 (by kernel_rfl)
      obtain ⟨ge, fz0, fz1, u0, u1, ce0, ce1, -⟩ := fx pr
      have ne_ks : ¬ ks = kx := Nat.ne_of_lt (Nat.lt_of_lt_of_le lt_ks ge)
      have nf_ks : ¬ kx = ks := fun h => ne_ks h.symm
      refine op_go hoi (want_all rfl) fun K hK => ?_
      clear hT hpre hlit hoi
      go_simp
      exact hK _ _ ⟨kx, fun _ _ => rfl, rfl, by go_simp, by go_simp, bs (bs (HB) (Nat.le_trans sz0 ge) _) (Nat.le_trans sz0 ge) _, by simp; omega, fun _ => ⟨ge, by go_simp, by go_simp, p0, p1, by go_simp, by go_simp, fun _ => ⟨rfl, rfl⟩⟩, fun _ => pr⟩
    · have hlit : (regOps Tryd.f4 4)[10]? = some ({ dst := some 10, op := Op.assign (Operand.tmp 43), type := 4, pos := "law.go:57", after := #[{ on := 7, ground := Ground.data }, { on := 9, ground := Ground.chain }, { on := 0, ground := Ground.phase }, { on := 1, ground := Ground.phase }, { on := 2, ground := Ground.phase }, { on := 3, ground := Ground.phase }, { on := 4, ground := Ground.phase }, { on := 5, ground := Ground.phase }, { on := 6, ground := Ground.phase }, { on := 7, ground := Ground.phase }, { on := 8, ground := Ground.phase }, { on := 9, ground := Ground.phase }], guard := none }) := by kernel_rfl
      obtain rfl := Option.some.inj (hlit.symm.trans hoi)
      have r43 : b.tmps.getD 43 undef = (.bool true) := rd (hT.at 7 (by kernel_rfl) (pre_of hpre 7 (by kernel_rfl)))
      refine op_go hoi (want_all rfl) fun K hK => ?_
      clear hT hpre hlit hoi
      go_simp
      exact hK _ _ ⟨kx, fun _ _ => rfl, rfl, sc0, sc1, HB, szw, fx, sx⟩
  · intro kx b w' hT hS
    rw [hT.all ht]
    have hn : (regOps Tryd.f4 4).size = 11 := by kernel_rfl
    rw [hn] at hS ⊢
    skip
    skip
    obtain ⟨sc0, sc1, HB, szw, fx, sx⟩ := hS
    obtain ⟨gex, fzx0, fzx1, ux0, ux1, cex0, cex1, usx⟩ := fx rfl
    obtain ⟨rfl, rfl⟩ := usx rfl
    exact he kx w' ⟨sc0, sc1, HB⟩ ⟨cex0, cex1, fzx0, fzx1, gex⟩
end Go.Proofs.YtkamnnkdadfebaaDoor
