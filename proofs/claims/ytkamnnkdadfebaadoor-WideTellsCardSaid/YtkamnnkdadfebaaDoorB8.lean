import Derived.Test.YtkamnnkdadfebaaDoorRg
import Derived.Test.YtkamnnkdadfebaaDoorB6
import Derived.Test.YtkamnnkdadfebaaDoorA3
namespace Go.Proofs.YtkamnnkdadfebaaDoor
open Go.RowKit
set_option linter.unusedVariables false
attribute [local go_sem high] eq24 eq37


/-- What each operation of the region leaves. -/
def region18_1V (u0 u1 v0 v1 n0 n1 s0 s1 : Int) (kz : Nat) : Nat → Value
  | 0 => .agg #[.int .i64 u0, .int .u64 u1]
  | 1 => .agg #[.int .i64 v0, .int .u64 v1]
  | 2 => .agg #[.int .i64 n0, .int .u64 n1]
  | 3 => .agg #[.int .i64 s0, .int .u64 s1]
  | 4 => .pointer (some ⟨kz, 0, none⟩)
  | 5 => undef
  | _ => undef

set_option maxHeartbeats 4000000 in
set_option maxRecDepth 100000 in
theorem region18_1 (u0 u1 v0 v1 n0 n1 s0 s1 : Int) (kx ky : Nat) (W : World) (m1 : ∀ w : World, Calls Tryd.prog 40 #[.agg #[.int .i64 v0, .int .u64 v1]] w fun e w' => e = .returned (.agg #[.int .i64 n0, .int .u64 n1]) ∧ Below w.heap.size w w') (m2 : ∀ w : World, Calls Tryd.prog 39 #[.agg #[.int .i64 u0, .int .u64 u1], .agg #[.int .i64 n0, .int .u64 n1]] w fun e w' => e = .returned (.agg #[.int .i64 s0, .int .u64 s1]) ∧ Below w.heap.size w w') {id : Nat} {ops : Array Oper} {Q : Exit → Act → World → Prop} {a : Act} {w : World}
    (ho : ops = (regOps Tryd.f18 1)) (hsz : a.tmps.size = 29) (t2 : a.tmps[2]? = some (.pointer (some ⟨kx, 0, none⟩))) (t3 : a.tmps[3]? = some (.pointer (some ⟨ky, 0, none⟩)))
    (h0 : w.cell? ⟨kx, 0, none⟩ = some (.int .i64 u0) ∧ w.cell? ⟨kx, 1, none⟩ = some (.int .u64 u1) ∧ w.cell? ⟨ky, 0, none⟩ = some (.int .i64 v0) ∧ w.cell? ⟨ky, 1, none⟩ = some (.int .u64 v1) ∧ Below W.heap.size W w)
    (he : ∀ kz w', w'.cell? ⟨kx, 0, none⟩ = some (.int .i64 u0) ∧ w'.cell? ⟨kx, 1, none⟩ = some (.int .u64 u1) ∧ w'.cell? ⟨ky, 0, none⟩ = some (.int .i64 v0) ∧ w'.cell? ⟨ky, 1, none⟩ = some (.int .u64 v1) ∧ Below W.heap.size W w' → w'.cell? ⟨kz, 0, none⟩ = some (.int .i64 s0) ∧ w'.cell? ⟨kz, 1, none⟩ = some (.int .u64 s1) ∧ w'.frozen? ⟨kz, 0, none⟩ = false ∧ w'.frozen? ⟨kz, 1, none⟩ = false ∧ w.heap.size ≤ kz → Q .normal ⟨(((((a.tmps.setIfInBounds 7 (.agg #[.int .i64 u0, .int .u64 u1])).setIfInBounds 8 (.agg #[.int .i64 v0, .int .u64 v1])).setIfInBounds 9 (.agg #[.int .i64 n0, .int .u64 n1])).setIfInBounds 10 (.agg #[.int .i64 s0, .int .u64 s1])).setIfInBounds 6 (.pointer (some ⟨kz, 0, none⟩))), a.defers⟩ w') :
    (Code.region id ops true).wp Tryd.prog Q a w := by
  have ht : tidy (regOps Tryd.f18 1) a.tmps.size = true := by rw [hsz]; kernel_rfl
  obtain ⟨uc0, uc1, vc0, vc1, HB0⟩ := h0
  have lt_kx := World.block_lt_of_cell? w _ uc0
  have lt_ky := World.block_lt_of_cell? w _ vc0
  have sz0 := HB0.size
  refine region_tab (G := Nat) (fun g => (region18_1V u0 u1 v0 v1 n0 n1 s0 s1   g)) (fun g L w' => w'.cell? ⟨kx, 0, none⟩ = some (.int .i64 u0) ∧ w'.cell? ⟨kx, 1, none⟩ = some (.int .u64 u1) ∧ w'.cell? ⟨ky, 0, none⟩ = some (.int .i64 v0) ∧ w'.cell? ⟨ky, 1, none⟩ = some (.int .u64 v1) ∧ Below W.heap.size W w' ∧ w.heap.size ≤ w'.heap.size ∧ (L 4 = true → w.heap.size ≤ g ∧ w'.frozen? ⟨g, 0, none⟩ = false ∧ w'.frozen? ⟨g, 1, none⟩ = false ∧ ∃ u0 u1 : Int, w'.cell? ⟨g, 0, none⟩ = some (.int .i64 u0) ∧ w'.cell? ⟨g, 1, none⟩ = some (.int .u64 u1) ∧ (L 5 = true → u0 = s0 ∧ u1 = s1)) ∧ (L 5 = true → L 4 = true)) 0 (by kernel_rfl) ho ht ⟨uc0, uc1, vc0, vc1, bd HB0, Nat.le_refl _, fun h => (by cases h), fun h => (by cases h)⟩ ?_ ?_
  · intro i o hoi kz L b w' hun hpre hT hS
    clear he uc0 uc1 vc0 vc1 ho hsz ht HB0
    have hi : i < (regOps Tryd.f18 1).size := (Array.getElem?_eq_some_iff.1 hoi).1
    rw [show (regOps Tryd.f18 1).size = 6 by kernel_rfl] at hi
    skip
    skip
    obtain ⟨uc0, uc1, vc0, vc1, HB, szw, fz, sz⟩ := hS
    have hcases : i = 0 ∨ i = 1 ∨ i = 2 ∨ i = 3 ∨ i = 4 ∨ i = 5 := by omega
    rcases hcases with rfl | rfl | rfl | rfl | rfl | rfl
    · have hlit : (regOps Tryd.f18 1)[0]? = some ({ dst := some 7, op := Op.load 37 (Operand.tmp 2), type := 37, pos := "geom.go:67", after := #[], guard := none }) := by kernel_rfl
      obtain rfl := Option.some.inj (hlit.symm.trans hoi)
      have r2 : b.tmps.getD 2 undef = (.pointer (some ⟨kx, 0, none⟩)) := rd ((hT.old 2 (by kernel_rfl)).trans t2)
      refine op_go hoi (want_all rfl) fun K hK => ?_
      clear hT hpre hlit hoi
      go_simp
      exact hK _ _ ⟨kz, fun _ _ => rfl, rfl, uc0, uc1, vc0, vc1, HB, szw, fz, sz⟩
    · have hlit : (regOps Tryd.f18 1)[1]? = some ({ dst := some 8, op := Op.load 37 (Operand.tmp 3), type := 37, pos := "geom.go:67", after := #[], guard := none }) := by kernel_rfl
      obtain rfl := Option.some.inj (hlit.symm.trans hoi)
      have r3 : b.tmps.getD 3 undef = (.pointer (some ⟨ky, 0, none⟩)) := rd ((hT.old 3 (by kernel_rfl)).trans t3)
      refine op_go hoi (want_all rfl) fun K hK => ?_
      clear hT hpre hlit hoi
      go_simp
      exact hK _ _ ⟨kz, fun _ _ => rfl, rfl, uc0, uc1, vc0, vc1, HB, szw, fz, sz⟩
    · have hlit : (regOps Tryd.f18 1)[2]? = some ({ dst := some 9, op := Op.call { callee := Callee.value (Operand.func 40), args := #[Operand.tmp 8], argTypes := #[37] }, type := 37, pos := "geom.go:67", after := #[{ on := 1, ground := Ground.data }], guard := none }) := by kernel_rfl
      obtain rfl := Option.some.inj (hlit.symm.trans hoi)
      have r8 : b.tmps.getD 8 undef = (.agg #[.int .i64 v0, .int .u64 v1]) := rd (hT.at 1 (by kernel_rfl) (pre_of hpre 1 (by kernel_rfl)))
      refine op_go hoi (want_all rfl) fun K hK => ?_
      clear hT hpre hlit hoi
      go_simp
      go_at_call 40
      refine (m1 _).mono ?_; rintro e w2 ⟨rfl, hb⟩; replace uc0 := ck hb uc0; replace uc1 := ck hb uc1; replace vc0 := ck hb vc0; replace vc1 := ck hb vc1; replace szw : w.heap.size ≤ w2.heap.size := Nat.le_trans szw hb.size; replace fz : L 4 = true → w.heap.size ≤ kz ∧ w2.frozen? ⟨kz, 0, none⟩ = false ∧ w2.frozen? ⟨kz, 1, none⟩ = false ∧ ∃ u0 u1 : Int, w2.cell? ⟨kz, 0, none⟩ = some (Value.int .i64 u0) ∧ w2.cell? ⟨kz, 1, none⟩ = some (Value.int .u64 u1) ∧ (L 5 = true → u0 = s0 ∧ u1 = s1) := fun h => (by obtain ⟨ge, fz0, fz1, u0, u1, ce0, ce1, us⟩ := fz h; exact ⟨ge, cf hb (World.block_lt_of_cell? _ _ ce0) fz0, cf hb (World.block_lt_of_cell? _ _ ce1) fz1, u0, u1, ck hb ce0, ck hb ce1, us⟩); replace HB : Below W.heap.size W w2 := bt HB hb; clear hb
      exact hK _ _ ⟨kz, fun _ _ => rfl, rfl, uc0, uc1, vc0, vc1, HB, szw, fz, sz⟩
    · have hlit : (regOps Tryd.f18 1)[3]? = some ({ dst := some 10, op := Op.call { callee := Callee.value (Operand.func 39), args := #[Operand.tmp 7, Operand.tmp 9], argTypes := #[37, 37] }, type := 37, pos := "geom.go:67", after := #[{ on := 0, ground := Ground.data }, { on := 2, ground := Ground.data }, { on := 2, ground := Ground.chain }], guard := none }) := by kernel_rfl
      obtain rfl := Option.some.inj (hlit.symm.trans hoi)
      have r7 : b.tmps.getD 7 undef = (.agg #[.int .i64 u0, .int .u64 u1]) := rd (hT.at 0 (by kernel_rfl) (pre_of hpre 0 (by kernel_rfl)))
      have r9 : b.tmps.getD 9 undef = (.agg #[.int .i64 n0, .int .u64 n1]) := rd (hT.at 2 (by kernel_rfl) (pre_of hpre 2 (by kernel_rfl)))
      refine op_go hoi (want_all rfl) fun K hK => ?_
      clear hT hpre hlit hoi
      go_simp
      go_at_call 39
      refine (m2 _).mono ?_; rintro e w2 ⟨rfl, hb⟩; replace uc0 := ck hb uc0; replace uc1 := ck hb uc1; replace vc0 := ck hb vc0; replace vc1 := ck hb vc1; replace szw : w.heap.size ≤ w2.heap.size := Nat.le_trans szw hb.size; replace fz : L 4 = true → w.heap.size ≤ kz ∧ w2.frozen? ⟨kz, 0, none⟩ = false ∧ w2.frozen? ⟨kz, 1, none⟩ = false ∧ ∃ u0 u1 : Int, w2.cell? ⟨kz, 0, none⟩ = some (Value.int .i64 u0) ∧ w2.cell? ⟨kz, 1, none⟩ = some (Value.int .u64 u1) ∧ (L 5 = true → u0 = s0 ∧ u1 = s1) := fun h => (by obtain ⟨ge, fz0, fz1, u0, u1, ce0, ce1, us⟩ := fz h; exact ⟨ge, cf hb (World.block_lt_of_cell? _ _ ce0) fz0, cf hb (World.block_lt_of_cell? _ _ ce1) fz1, u0, u1, ck hb ce0, ck hb ce1, us⟩); replace HB : Below W.heap.size W w2 := bt HB hb; clear hb
      exact hK _ _ ⟨kz, fun _ _ => rfl, rfl, uc0, uc1, vc0, vc1, HB, szw, fz, sz⟩
    · have hlit : (regOps Tryd.f18 1)[4]? = some ({ dst := some 6, op := Op.alloc 37, type := 0, pos := "geom.go:67", after := #[], guard := none }) := by kernel_rfl
      obtain rfl := Option.some.inj (hlit.symm.trans hoi)
      refine op_go hoi (want_all rfl) fun K hK => ?_
      clear hT hpre hlit hoi
      go_simp
      have lw_uc0 := World.block_lt_of_cell? w' _ uc0
      have lw_uc1 := World.block_lt_of_cell? w' _ uc1
      have lw_vc0 := World.block_lt_of_cell? w' _ vc0
      have lw_vc1 := World.block_lt_of_cell? w' _ vc1
      refine hK _ _ ⟨w'.heap.size, fun j hj => ?_, rfl, by go_simp, by go_simp, by go_simp, by go_simp, ba HB _, by simp; omega, fun _ => ⟨szw, by go_simp, by go_simp, 0, 0, by go_simp, by go_simp, fun h => absurd ((sz h).symm.trans hun) (by decide)⟩, fun _ => rfl⟩
      by_cases e : j = 4
      · subst e; rw [hun] at hj; cases hj
      · unfold region18_1V; split <;> first | rfl | (exact absurd rfl e)
    · have hlit : (regOps Tryd.f18 1)[5]? = some ({ dst := none, op := Op.store 37 (Operand.tmp 6) (Operand.tmp 10), type := 0, pos := "geom.go:67", after := #[{ on := 4, ground := Ground.data }, { on := 3, ground := Ground.data }, { on := 3, ground := Ground.chain }, { on := 0, ground := Ground.phase }, { on := 1, ground := Ground.phase }, { on := 2, ground := Ground.phase }, { on := 3, ground := Ground.phase }, { on := 4, ground := Ground.phase }], guard := none }) := by kernel_rfl
      obtain rfl := Option.some.inj (hlit.symm.trans hoi)
      have r6 : b.tmps.getD 6 undef = (.pointer (some ⟨kz, 0, none⟩)) := rd (hT.at 4 (by kernel_rfl) (pre_of hpre 4 (by kernel_rfl)))
      have r10 : b.tmps.getD 10 undef = (.agg #[.int .i64 s0, .int .u64 s1]) := rd (hT.at 3 (by kernel_rfl) (pre_of hpre 3 (by kernel_rfl)))
      have pr : L 4 = true := pre_of hpre 4 (by kernel_rfl)
      obtain ⟨ge, fz0, fz1, u0, u1, ce0, ce1, -⟩ := fz pr
      have ne_kx : ¬ kx = kz := Nat.ne_of_lt (Nat.lt_of_lt_of_le lt_kx ge)
      have nf_kx : ¬ kz = kx := fun h => ne_kx h.symm
      have ne_ky : ¬ ky = kz := Nat.ne_of_lt (Nat.lt_of_lt_of_le lt_ky ge)
      have nf_ky : ¬ kz = ky := fun h => ne_ky h.symm
      refine op_go hoi (want_all rfl) fun K hK => ?_
      clear hT hpre hlit hoi
      go_simp
      exact hK _ _ ⟨kz, fun _ _ => rfl, rfl, by go_simp, by go_simp, by go_simp, by go_simp, bs (bs (HB) (Nat.le_trans sz0 ge) _) (Nat.le_trans sz0 ge) _, by simp; omega, fun _ => ⟨ge, by go_simp, by go_simp, s0, s1, by go_simp, by go_simp, fun _ => ⟨rfl, rfl⟩⟩, fun _ => pr⟩
  · intro kz b w' hT hS
    rw [hT.all ht]
    have hn : (regOps Tryd.f18 1).size = 6 := by kernel_rfl
    rw [hn] at hS ⊢
    skip
    skip
    obtain ⟨uc0, uc1, vc0, vc1, HB, szw, fz, sz⟩ := hS
    obtain ⟨gez, fzz0, fzz1, uz0, uz1, cez0, cez1, usz⟩ := fz rfl
    obtain ⟨rfl, rfl⟩ := usz rfl
    exact he kz w' ⟨uc0, uc1, vc0, vc1, HB⟩ ⟨cez0, cez1, fzz0, fzz1, gez⟩
set_option maxHeartbeats 4000000 in
set_option maxRecDepth 100000 in
theorem add16w_y (u0 u1 v0 v1 s0 s1 : Int) (w : World) (bu bv bh : Bool) (m1 : ∀ w : World, Calls Tryd.prog 39 #[.agg #[.int .i64 u0, .int .u64 u1], .agg #[.int .i64 v0, .int .u64 v1]] w fun e w' => e = .returned (.agg #[.int .i64 s0, .int .u64 s1]) ∧ Below w.heap.size w w')
    (h1 : decide (u0 < 0) = bu) (h2 : decide (v0 < 0) = bv) (h3 : decide (s0 < 0) = bh) (hb : bu = bv → bh = bu) :
    Calls Tryd.prog 16 #[.agg #[.int .i64 u0, .int .u64 u1], .agg #[.int .i64 v0, .int .u64 v1]] w fun e w' => e = .returned (.tuple #[.agg #[.int .i64 s0, .int .u64 s1], .bool true]) ∧ Below w.heap.size w w' := by
  have HB := Below.refl w.heap.size w
  have hcases : (bu = true ∧ bv = true ∧ bh = true) ∨ (bu = false ∧ bv = false ∧ bh = false) ∨ (bu = true ∧ bv = false) ∨ (bu = false ∧ bv = true) := by
    cases bu <;> cases bv <;> cases bh <;> simp at hb ⊢
  clear hb
  rcases hcases with ⟨rfl, rfl, rfl⟩ | ⟨rfl, rfl, rfl⟩ | ⟨rfl, rfl⟩ | ⟨rfl, rfl⟩
  all_goals
    go_enter Tryd.func16, Tryd.ntmps16
    go_wp2_with fail
    refine (m1 _).mono ?_; rintro e w1 ⟨rfl, hb⟩; (with_reducible (repeat replace hb := undr hb))
    have fr0 := cf hb (b := w.heap.size + 1 + 1) (o := 0) (by simp) (by go_simp)
    have fr1 := cf hb (b := w.heap.size + 1 + 1) (o := 1) (by simp) (by go_simp)
    have cx0 := ck hb (a := ⟨w.heap.size, 0, none⟩) (v := .int .i64 u0) (by go_simp)
    have cx1 := ck hb (a := ⟨w.heap.size, 1, none⟩) (v := .int .u64 u1) (by go_simp)
    have cy0 := ck hb (a := ⟨w.heap.size + 1, 0, none⟩) (v := .int .i64 v0) (by go_simp)
    have cy1 := ck hb (a := ⟨w.heap.size + 1, 1, none⟩) (v := .int .u64 v1) (by go_simp)
    have cr0 := ck hb (a := ⟨w.heap.size + 1 + 1, 0, none⟩) (v := .int .i64 0) (by go_simp)
    have cr1 := ck hb (a := ⟨w.heap.size + 1 + 1, 1, none⟩) (v := .int .u64 0) (by go_simp)
    have zw_0 : w.heap.size < w1.heap.size := World.block_lt_of_cell? w1 _ cx0
    have nw_0 : ¬ w.heap.size = w1.heap.size := Nat.ne_of_lt zw_0
    have zw_1 : w.heap.size + 1 < w1.heap.size := World.block_lt_of_cell? w1 _ cy0
    have nw_1 : ¬ w.heap.size + 1 = w1.heap.size := Nat.ne_of_lt zw_1
    have zw_2 : w.heap.size + 1 + 1 < w1.heap.size := World.block_lt_of_cell? w1 _ cr0
    have nw_2 : ¬ w.heap.size + 1 + 1 = w1.heap.size := Nat.ne_of_lt zw_2
    replace HB : Below w.heap.size w w1 := bt (by repeat (first | (with_reducible exact HB) | (with_reducible exact Below.refl _ _) | (with_reducible apply bd) | (with_reducible apply ba) | (with_reducible refine bs ?_ (by first | (simp; done) | (simp; omega)) _))) hb
    clear hb
    go_wp2_with fail
    (try simp only [Exit.inBlock, Exit.then])
    refine bodyPost_ret (v := .tuple #[.agg #[.int .i64 s0, .int .u64 s1], .bool true]) ?_ ?_ ?_
    · simp [results, Tryd.results16, go_sem, cr0, cr1, zw_2, nw_2]
    · rfl
    exact ⟨rfl, by repeat (first | (with_reducible exact HB) | (with_reducible exact Below.refl _ _) | (with_reducible apply bd) | (with_reducible apply ba) | (with_reducible refine bs ?_ (by first | (simp; done) | (simp; omega)) _))⟩

set_option maxHeartbeats 4000000 in
set_option maxRecDepth 100000 in
theorem add16w_n (u0 u1 v0 v1 s0 s1 : Int) (w : World) (bu bv bh : Bool) (m1 : ∀ w : World, Calls Tryd.prog 39 #[.agg #[.int .i64 u0, .int .u64 u1], .agg #[.int .i64 v0, .int .u64 v1]] w fun e w' => e = .returned (.agg #[.int .i64 s0, .int .u64 s1]) ∧ Below w.heap.size w w')
    (h1 : decide (u0 < 0) = bu) (h2 : decide (v0 < 0) = bv) (h3 : decide (s0 < 0) = bh) (hb : bu = bv ∧ bh ≠ bu) :
    Calls Tryd.prog 16 #[.agg #[.int .i64 u0, .int .u64 u1], .agg #[.int .i64 v0, .int .u64 v1]] w fun e w' => e = .returned (.tuple #[.agg #[.int .i64 0, .int .u64 0], .bool false]) ∧ Below w.heap.size w w' := by
  have HB := Below.refl w.heap.size w
  have hcases : (bu = true ∧ bv = true ∧ bh = false) ∨ (bu = false ∧ bv = false ∧ bh = true) := by
    cases bu <;> cases bv <;> cases bh <;> simp at hb ⊢
  clear hb
  rcases hcases with ⟨rfl, rfl, rfl⟩ | ⟨rfl, rfl, rfl⟩
  all_goals
    go_enter Tryd.func16, Tryd.ntmps16
    go_wp2_with fail
    refine (m1 _).mono ?_; rintro e w1 ⟨rfl, hb⟩; (with_reducible (repeat replace hb := undr hb))
    have fr0 := cf hb (b := w.heap.size + 1 + 1) (o := 0) (by simp) (by go_simp)
    have fr1 := cf hb (b := w.heap.size + 1 + 1) (o := 1) (by simp) (by go_simp)
    have cx0 := ck hb (a := ⟨w.heap.size, 0, none⟩) (v := .int .i64 u0) (by go_simp)
    have cx1 := ck hb (a := ⟨w.heap.size, 1, none⟩) (v := .int .u64 u1) (by go_simp)
    have cy0 := ck hb (a := ⟨w.heap.size + 1, 0, none⟩) (v := .int .i64 v0) (by go_simp)
    have cy1 := ck hb (a := ⟨w.heap.size + 1, 1, none⟩) (v := .int .u64 v1) (by go_simp)
    have cr0 := ck hb (a := ⟨w.heap.size + 1 + 1, 0, none⟩) (v := .int .i64 0) (by go_simp)
    have cr1 := ck hb (a := ⟨w.heap.size + 1 + 1, 1, none⟩) (v := .int .u64 0) (by go_simp)
    have zw_0 : w.heap.size < w1.heap.size := World.block_lt_of_cell? w1 _ cx0
    have nw_0 : ¬ w.heap.size = w1.heap.size := Nat.ne_of_lt zw_0
    have zw_1 : w.heap.size + 1 < w1.heap.size := World.block_lt_of_cell? w1 _ cy0
    have nw_1 : ¬ w.heap.size + 1 = w1.heap.size := Nat.ne_of_lt zw_1
    have zw_2 : w.heap.size + 1 + 1 < w1.heap.size := World.block_lt_of_cell? w1 _ cr0
    have nw_2 : ¬ w.heap.size + 1 + 1 = w1.heap.size := Nat.ne_of_lt zw_2
    replace HB : Below w.heap.size w w1 := bt (by repeat (first | (with_reducible exact HB) | (with_reducible exact Below.refl _ _) | (with_reducible apply bd) | (with_reducible apply ba) | (with_reducible refine bs ?_ (by first | (simp; done) | (simp; omega)) _))) hb
    clear hb
    go_wp2_with fail
    (try simp only [Exit.inBlock, Exit.then])
    refine bodyPost_ret (v := .tuple #[.agg #[.int .i64 0, .int .u64 0], .bool false]) ?_ ?_ ?_
    · simp [results, Tryd.results16, go_sem, cr0, cr1, zw_2, nw_2]
    · rfl
    exact ⟨rfl, by repeat (first | (with_reducible exact HB) | (with_reducible exact Below.refl _ _) | (with_reducible apply bd) | (with_reducible apply ba) | (with_reducible refine bs ?_ (by first | (simp; done) | (simp; omega)) _))⟩

set_option maxHeartbeats 4000000 in
set_option maxRecDepth 100000 in
theorem sub18w_y (u0 u1 v0 v1 s0 s1 n0 n1 : Int) (w : World) (bu bv bh : Bool) (m1 : ∀ w : World, Calls Tryd.prog 40 #[.agg #[.int .i64 v0, .int .u64 v1]] w fun e w' => e = .returned (.agg #[.int .i64 n0, .int .u64 n1]) ∧ Below w.heap.size w w') (m2 : ∀ w : World, Calls Tryd.prog 39 #[.agg #[.int .i64 u0, .int .u64 u1], .agg #[.int .i64 n0, .int .u64 n1]] w fun e w' => e = .returned (.agg #[.int .i64 s0, .int .u64 s1]) ∧ Below w.heap.size w w')
    (h1 : decide (u0 < 0) = bu) (h2 : decide (v0 < 0) = bv) (h3 : decide (s0 < 0) = bh) (hb : bu ≠ bv → bh = bu) :
    Calls Tryd.prog 18 #[.agg #[.int .i64 u0, .int .u64 u1], .agg #[.int .i64 v0, .int .u64 v1]] w fun e w' => e = .returned (.tuple #[.agg #[.int .i64 s0, .int .u64 s1], .bool true]) ∧ Below w.heap.size w w' := by
  have HB := Below.refl w.heap.size w
  have hcases : (bu = true ∧ bv = false ∧ bh = true) ∨ (bu = false ∧ bv = true ∧ bh = false) ∨ (bu = true ∧ bv = true) ∨ (bu = false ∧ bv = false) := by
    cases bu <;> cases bv <;> cases bh <;> simp at hb ⊢
  clear hb
  rcases hcases with ⟨rfl, rfl, rfl⟩ | ⟨rfl, rfl, rfl⟩ | ⟨rfl, rfl⟩ | ⟨rfl, rfl⟩
  all_goals
    go_enter Tryd.func18, Tryd.ntmps18
    have cr0 : (((w.alloc (.cells #[.int .i64 u0, .int .u64 u1] 37)).alloc (.cells #[.int .i64 v0, .int .u64 v1] 37)).alloc (.cells #[.int .i64 0, .int .u64 0] 37)).cell? ⟨w.heap.size + 1 + 1, 0, none⟩ = some (.int .i64 0) := by go_simp
    have cr1 : (((w.alloc (.cells #[.int .i64 u0, .int .u64 u1] 37)).alloc (.cells #[.int .i64 v0, .int .u64 v1] 37)).alloc (.cells #[.int .i64 0, .int .u64 0] 37)).cell? ⟨w.heap.size + 1 + 1, 1, none⟩ = some (.int .u64 0) := by go_simp
    have fr0 : (((w.alloc (.cells #[.int .i64 u0, .int .u64 u1] 37)).alloc (.cells #[.int .i64 v0, .int .u64 v1] 37)).alloc (.cells #[.int .i64 0, .int .u64 0] 37)).frozen? ⟨w.heap.size + 1 + 1, 0, none⟩ = false := by go_simp
    have fr1 : (((w.alloc (.cells #[.int .i64 u0, .int .u64 u1] 37)).alloc (.cells #[.int .i64 v0, .int .u64 v1] 37)).alloc (.cells #[.int .i64 0, .int .u64 0] 37)).frozen? ⟨w.heap.size + 1 + 1, 1, none⟩ = false := by go_simp
    go_wp2_with fail
    refine region18_1 u0 u1 v0 v1 n0 n1 s0 s1 w.heap.size (w.heap.size + 1) (((w.alloc (.cells #[.int .i64 u0, .int .u64 u1] 37)).alloc (.cells #[.int .i64 v0, .int .u64 v1] 37)).alloc (.cells #[.int .i64 0, .int .u64 0] 37)) m1 m2 (by kernel_rfl) rfl rfl rfl ⟨?_, ?_, ?_, ?_, Below.refl _ _⟩ (fun kz w1 hS hN => ?_)
    iterate 4 (focus (go_simp; done))
    obtain ⟨cx0, cx1, cy0, cy1, hb⟩ := hS
    obtain ⟨cs0, cs1, fs0, fs1, gz⟩ := hN
    replace cr0 := ck hb cr0
    replace cr1 := ck hb cr1
    replace fr0 := cf hb (b := w.heap.size + 1 + 1) (o := 0) (by simp) fr0
    replace fr1 := cf hb (b := w.heap.size + 1 + 1) (o := 1) (by simp) fr1
    have nz : ¬ kz = w.heap.size + 1 + 1 := by simp at gz; omega
    have nz2 : ¬ w.heap.size + 1 + 1 = kz := fun e => nz e.symm
    replace HB : Below w.heap.size w w1 := bt (by repeat (first | (with_reducible exact HB) | (with_reducible exact Below.refl _ _) | (with_reducible apply bd) | (with_reducible apply ba) | (with_reducible refine bs ?_ (by first | (simp; done) | (simp; omega)) _))) hb
    clear hb gz
    simp only [List.setIfInBounds_toArray, List.set_cons_zero, List.set_cons_succ]
    go_wp2_with fail
    (try simp only [Exit.inBlock, Exit.then])
    refine bodyPost_ret (v := .tuple #[.agg #[.int .i64 s0, .int .u64 s1], .bool true]) ?_ ?_ ?_
    · simp [results, Tryd.results18, go_sem, cr0, cr1, nz, nz2]
    · rfl
    exact ⟨rfl, by repeat (first | (with_reducible exact HB) | (with_reducible exact Below.refl _ _) | (with_reducible apply bd) | (with_reducible apply ba) | (with_reducible refine bs ?_ (by first | (simp; done) | (simp; omega)) _))⟩

set_option maxHeartbeats 4000000 in
set_option maxRecDepth 100000 in
theorem sub18w_n (u0 u1 v0 v1 s0 s1 n0 n1 : Int) (w : World) (bu bv bh : Bool) (m1 : ∀ w : World, Calls Tryd.prog 40 #[.agg #[.int .i64 v0, .int .u64 v1]] w fun e w' => e = .returned (.agg #[.int .i64 n0, .int .u64 n1]) ∧ Below w.heap.size w w') (m2 : ∀ w : World, Calls Tryd.prog 39 #[.agg #[.int .i64 u0, .int .u64 u1], .agg #[.int .i64 n0, .int .u64 n1]] w fun e w' => e = .returned (.agg #[.int .i64 s0, .int .u64 s1]) ∧ Below w.heap.size w w')
    (h1 : decide (u0 < 0) = bu) (h2 : decide (v0 < 0) = bv) (h3 : decide (s0 < 0) = bh) (hb : bu ≠ bv ∧ bh ≠ bu) :
    Calls Tryd.prog 18 #[.agg #[.int .i64 u0, .int .u64 u1], .agg #[.int .i64 v0, .int .u64 v1]] w fun e w' => e = .returned (.tuple #[.agg #[.int .i64 0, .int .u64 0], .bool false]) ∧ Below w.heap.size w w' := by
  have HB := Below.refl w.heap.size w
  have hcases : (bu = true ∧ bv = false ∧ bh = false) ∨ (bu = false ∧ bv = true ∧ bh = true) := by
    cases bu <;> cases bv <;> cases bh <;> simp at hb ⊢
  clear hb
  rcases hcases with ⟨rfl, rfl, rfl⟩ | ⟨rfl, rfl, rfl⟩
  all_goals
    go_enter Tryd.func18, Tryd.ntmps18
    have cr0 : (((w.alloc (.cells #[.int .i64 u0, .int .u64 u1] 37)).alloc (.cells #[.int .i64 v0, .int .u64 v1] 37)).alloc (.cells #[.int .i64 0, .int .u64 0] 37)).cell? ⟨w.heap.size + 1 + 1, 0, none⟩ = some (.int .i64 0) := by go_simp
    have cr1 : (((w.alloc (.cells #[.int .i64 u0, .int .u64 u1] 37)).alloc (.cells #[.int .i64 v0, .int .u64 v1] 37)).alloc (.cells #[.int .i64 0, .int .u64 0] 37)).cell? ⟨w.heap.size + 1 + 1, 1, none⟩ = some (.int .u64 0) := by go_simp
    have fr0 : (((w.alloc (.cells #[.int .i64 u0, .int .u64 u1] 37)).alloc (.cells #[.int .i64 v0, .int .u64 v1] 37)).alloc (.cells #[.int .i64 0, .int .u64 0] 37)).frozen? ⟨w.heap.size + 1 + 1, 0, none⟩ = false := by go_simp
    have fr1 : (((w.alloc (.cells #[.int .i64 u0, .int .u64 u1] 37)).alloc (.cells #[.int .i64 v0, .int .u64 v1] 37)).alloc (.cells #[.int .i64 0, .int .u64 0] 37)).frozen? ⟨w.heap.size + 1 + 1, 1, none⟩ = false := by go_simp
    go_wp2_with fail
    refine region18_1 u0 u1 v0 v1 n0 n1 s0 s1 w.heap.size (w.heap.size + 1) (((w.alloc (.cells #[.int .i64 u0, .int .u64 u1] 37)).alloc (.cells #[.int .i64 v0, .int .u64 v1] 37)).alloc (.cells #[.int .i64 0, .int .u64 0] 37)) m1 m2 (by kernel_rfl) rfl rfl rfl ⟨?_, ?_, ?_, ?_, Below.refl _ _⟩ (fun kz w1 hS hN => ?_)
    iterate 4 (focus (go_simp; done))
    obtain ⟨cx0, cx1, cy0, cy1, hb⟩ := hS
    obtain ⟨cs0, cs1, fs0, fs1, gz⟩ := hN
    replace cr0 := ck hb cr0
    replace cr1 := ck hb cr1
    replace fr0 := cf hb (b := w.heap.size + 1 + 1) (o := 0) (by simp) fr0
    replace fr1 := cf hb (b := w.heap.size + 1 + 1) (o := 1) (by simp) fr1
    have nz : ¬ kz = w.heap.size + 1 + 1 := by simp at gz; omega
    have nz2 : ¬ w.heap.size + 1 + 1 = kz := fun e => nz e.symm
    replace HB : Below w.heap.size w w1 := bt (by repeat (first | (with_reducible exact HB) | (with_reducible exact Below.refl _ _) | (with_reducible apply bd) | (with_reducible apply ba) | (with_reducible refine bs ?_ (by first | (simp; done) | (simp; omega)) _))) hb
    clear hb gz
    simp only [List.setIfInBounds_toArray, List.set_cons_zero, List.set_cons_succ]
    go_wp2_with fail
    (try simp only [Exit.inBlock, Exit.then])
    refine bodyPost_ret (v := .tuple #[.agg #[.int .i64 0, .int .u64 0], .bool false]) ?_ ?_ ?_
    · simp [results, Tryd.results18, go_sem, cr0, cr1, nz, nz2]
    · rfl
    exact ⟨rfl, by repeat (first | (with_reducible exact HB) | (with_reducible exact Below.refl _ _) | (with_reducible apply bd) | (with_reducible apply ba) | (with_reducible refine bs ?_ (by first | (simp; done) | (simp; omega)) _))⟩

theorem hi_in {u : Int} (h1 : -170141183460469231731687303715884105728 ≤ u) (h2 : u < 170141183460469231731687303715884105728) : wrap64 (hiW u) = hiW u := by unfold wrap64 hiW; omega
theorem add16 (u v : Int) (w : World) (hu : fits u = true) (hv : fits v = true) :
    Calls Tryd.prog 16 #[.agg #[.int .i64 (hiW u), .int .u64 (loW u)], .agg #[.int .i64 (hiW v), .int .u64 (loW v)]] w fun e w' => e = .returned (.tuple #[.agg #[.int .i64 (hiW (cutA (u + v))), .int .u64 (loW (cutA (u + v)))], .bool (fits (u + v))]) ∧ Below w.heap.size w w' := by
  obtain ⟨u1, u2⟩ := fits_bd hu
  obtain ⟨v1, v2⟩ := fits_bd hv
  have m1 : ∀ w, Calls Tryd.prog 39 #[.agg #[.int .i64 (hiW u), .int .u64 (loW u)], .agg #[.int .i64 (hiW v), .int .u64 (loW v)]] w fun e w' => e = .returned (.agg #[.int .i64 (wrap64 (hiW (u + v))), .int .u64 (loW (u + v))]) ∧ Below w.heap.size w w' := fun w => by
    have := add39 u v w
    rw [hi_in u1 u2, hi_in v1 v2] at this; exact this
  cases hf : fits (u + v)
  · rw [cutA_no hf]
    have hf' := fits_not hf
    refine add16w_n _ _ _ _ _ _ w _ _ _ m1 rfl rfl rfl ⟨?_, ?_⟩
    all_goals unfold hiW; simp only [decide_eq_decide, ne_eq]; (try unfold wrap64); omega
  · rw [cutA_yes hf]
    obtain ⟨f1, f2⟩ := fits_bd hf
    rw [hi_in f1 f2] at m1
    refine add16w_y _ _ _ _ _ _ w _ _ _ m1 rfl rfl rfl ?_
    unfold hiW; simp only [decide_eq_decide, ne_eq]; intro g; omega

theorem sub18 (u v : Int) (w : World) (hu : fits u = true) (hv : fits v = true) :
    Calls Tryd.prog 18 #[.agg #[.int .i64 (hiW u), .int .u64 (loW u)], .agg #[.int .i64 (hiW v), .int .u64 (loW v)]] w fun e w' => e = .returned (.tuple #[.agg #[.int .i64 (hiW (cutA (u - v))), .int .u64 (loW (cutA (u - v)))], .bool (fits (u - v))]) ∧ Below w.heap.size w w' := by
  obtain ⟨u1, u2⟩ := fits_bd hu
  obtain ⟨v1, v2⟩ := fits_bd hv
  have m1 : ∀ w, Calls Tryd.prog 40 #[.agg #[.int .i64 (hiW v), .int .u64 (loW v)]] w fun e w' => e = .returned (.agg #[.int .i64 (wrap64 (hiW (-v))), .int .u64 (loW (-v))]) ∧ Below w.heap.size w w' := fun w => by
    have := neg40 v w
    rw [hi_in v1 v2] at this; exact this
  have m2 : ∀ w, Calls Tryd.prog 39 #[.agg #[.int .i64 (hiW u), .int .u64 (loW u)], .agg #[.int .i64 (wrap64 (hiW (-v))), .int .u64 (loW (-v))]] w fun e w' => e = .returned (.agg #[.int .i64 (wrap64 (hiW (u - v))), .int .u64 (loW (u - v))]) ∧ Below w.heap.size w w' := fun w => by
    have := add39 u (-v) w
    rw [hi_in u1 u2, show u + -v = u - v by omega] at this; exact this
  cases hf : fits (u - v)
  · rw [cutA_no hf]
    have hf' := fits_not hf
    refine sub18w_n _ _ _ _ _ _ _ _ w _ _ _ m1 m2 rfl rfl rfl ⟨?_, ?_⟩
    all_goals unfold hiW; simp only [decide_eq_decide, ne_eq]; (try unfold wrap64); omega
  · rw [cutA_yes hf]
    obtain ⟨f1, f2⟩ := fits_bd hf
    rw [hi_in f1 f2] at m2
    refine sub18w_y _ _ _ _ _ _ _ _ w _ _ _ m1 m2 rfl rfl rfl ?_
    unfold hiW; simp only [decide_eq_decide, ne_eq]; intro g; omega

set_option maxHeartbeats 4000000 in
set_option maxRecDepth 100000 in
theorem least41_0 (u0 u1 : Int) (w : World) (h1 : (u0 == -9223372036854775808) = false)  :
    Calls Tryd.prog 41 #[.agg #[.int .i64 u0, .int .u64 u1]] w fun e w' => e = .returned (.bool false) ∧ Below w.heap.size w w' := by
  have HB := Below.refl w.heap.size w
  go_enter Tryd.func41, Tryd.ntmps41
  go_wp2
  go_ret
  exact ⟨rfl, by repeat (first | (with_reducible exact HB) | (with_reducible exact Below.refl _ _) | (with_reducible apply bd) | (with_reducible apply ba) | (with_reducible refine bs ?_ (by first | (simp; done) | (simp; omega)) _))⟩

set_option maxHeartbeats 4000000 in
set_option maxRecDepth 100000 in
theorem least41_10 (u0 u1 : Int) (w : World) (h1 : (u0 == -9223372036854775808) = true) (h2 : (u1 == 0) = false) :
    Calls Tryd.prog 41 #[.agg #[.int .i64 u0, .int .u64 u1]] w fun e w' => e = .returned (.bool false) ∧ Below w.heap.size w w' := by
  have HB := Below.refl w.heap.size w
  go_enter Tryd.func41, Tryd.ntmps41
  go_wp2
  go_ret
  exact ⟨rfl, by repeat (first | (with_reducible exact HB) | (with_reducible exact Below.refl _ _) | (with_reducible apply bd) | (with_reducible apply ba) | (with_reducible refine bs ?_ (by first | (simp; done) | (simp; omega)) _))⟩

set_option maxHeartbeats 4000000 in
set_option maxRecDepth 100000 in
theorem least41_11 (u0 u1 : Int) (w : World) (h1 : (u0 == -9223372036854775808) = true) (h2 : (u1 == 0) = true) :
    Calls Tryd.prog 41 #[.agg #[.int .i64 u0, .int .u64 u1]] w fun e w' => e = .returned (.bool true) ∧ Below w.heap.size w w' := by
  have HB := Below.refl w.heap.size w
  go_enter Tryd.func41, Tryd.ntmps41
  go_wp2
  go_ret
  exact ⟨rfl, by repeat (first | (with_reducible exact HB) | (with_reducible exact Below.refl _ _) | (with_reducible apply bd) | (with_reducible apply ba) | (with_reducible refine bs ?_ (by first | (simp; done) | (simp; omega)) _))⟩

set_option maxHeartbeats 4000000 in
set_option maxRecDepth 100000 in
theorem neg20w_y (u0 u1 s0 s1 : Int) (w : World) (m1 : ∀ w : World, Calls Tryd.prog 41 #[.agg #[.int .i64 u0, .int .u64 u1]] w fun e w' => e = .returned (.bool false) ∧ Below w.heap.size w w') (m2 : ∀ w : World, Calls Tryd.prog 40 #[.agg #[.int .i64 u0, .int .u64 u1]] w fun e w' => e = .returned (.agg #[.int .i64 s0, .int .u64 s1]) ∧ Below w.heap.size w w') :
    Calls Tryd.prog 20 #[.agg #[.int .i64 u0, .int .u64 u1]] w fun e w' => e = .returned (.tuple #[.agg #[.int .i64 s0, .int .u64 s1], .bool true]) ∧ Below w.heap.size w w' := by
  have HB := Below.refl w.heap.size w
  go_enter Tryd.func20, Tryd.ntmps20
  go_wp2_with fail
  refine (m1 _).mono ?_; rintro e w1 ⟨rfl, hb⟩; (with_reducible (repeat replace hb := undr hb))
  have fr0 := cf hb (b := w.heap.size + 1) (o := 0) (by first | exact World.block_lt_of_cell? _ _ ‹_› | (simp; done) | (simp; omega)) (by go_simp)
  have fr1 := cf hb (b := w.heap.size + 1) (o := 1) (by first | exact World.block_lt_of_cell? _ _ ‹_› | (simp; done) | (simp; omega)) (by go_simp)
  have cx0 := ck hb (a := ⟨w.heap.size, 0, none⟩) (v := .int .i64 u0) (by go_simp)
  have cx1 := ck hb (a := ⟨w.heap.size, 1, none⟩) (v := .int .u64 u1) (by go_simp)
  have cr0 := ck hb (a := ⟨w.heap.size + 1, 0, none⟩) (v := .int .i64 0) (by go_simp)
  have cr1 := ck hb (a := ⟨w.heap.size + 1, 1, none⟩) (v := .int .u64 0) (by go_simp)
  have zw_0 : w.heap.size < w1.heap.size := World.block_lt_of_cell? w1 _ cx0
  have nw_0 : ¬ w.heap.size = w1.heap.size := Nat.ne_of_lt zw_0
  have zw_1 : w.heap.size + 1 < w1.heap.size := World.block_lt_of_cell? w1 _ cr0
  have nw_1 : ¬ w.heap.size + 1 = w1.heap.size := Nat.ne_of_lt zw_1
  replace HB : Below w.heap.size w w1 := bt (by repeat (first | (with_reducible exact HB) | (with_reducible exact Below.refl _ _) | (with_reducible apply bd) | (with_reducible apply ba) | (with_reducible refine bs ?_ (by first | (simp; done) | (simp; omega)) _))) hb
  clear hb
  go_wp2_with fail
  refine (m2 _).mono ?_; rintro e w2 ⟨rfl, hb⟩; (with_reducible (repeat replace hb := undr hb))
  replace fr0 := cf hb (b := w.heap.size + 1) (o := 0) zw_1 fr0
  replace fr1 := cf hb (b := w.heap.size + 1) (o := 1) zw_1 fr1
  replace cx0 := ck hb (a := ⟨w.heap.size, 0, none⟩) (v := .int .i64 u0) (by first | (go_simp; done) | simpa using cx0)
  replace cx1 := ck hb (a := ⟨w.heap.size, 1, none⟩) (v := .int .u64 u1) (by first | (go_simp; done) | simpa using cx1)
  replace cr0 := ck hb (a := ⟨w.heap.size + 1, 0, none⟩) (v := .int .i64 0) (by first | (go_simp; done) | simpa using cr0)
  replace cr1 := ck hb (a := ⟨w.heap.size + 1, 1, none⟩) (v := .int .u64 0) (by first | (go_simp; done) | simpa using cr1)
  replace zw_0 : w.heap.size < w2.heap.size := World.block_lt_of_cell? w2 _ cx0
  replace nw_0 : ¬ w.heap.size = w2.heap.size := Nat.ne_of_lt zw_0
  replace zw_1 : w.heap.size + 1 < w2.heap.size := World.block_lt_of_cell? w2 _ cr0
  replace nw_1 : ¬ w.heap.size + 1 = w2.heap.size := Nat.ne_of_lt zw_1
  replace HB : Below w.heap.size w w2 := bt (by repeat (first | (with_reducible exact HB) | (with_reducible exact Below.refl _ _) | (with_reducible apply bd) | (with_reducible apply ba) | (with_reducible refine bs ?_ (by first | (simp; done) | (simp; omega)) _))) hb
  clear hb
  go_wp2_with fail
  (try simp only [Exit.inBlock, Exit.then])
  refine bodyPost_ret (v := .tuple #[.agg #[.int .i64 s0, .int .u64 s1], .bool true]) ?_ ?_ ?_
  · simp [results, Tryd.results20, go_sem, cr0, cr1]
  · rfl
  exact ⟨rfl, by repeat (first | (with_reducible exact HB) | (with_reducible exact Below.refl _ _) | (with_reducible apply bd) | (with_reducible apply ba) | (with_reducible refine bs ?_ (by first | (simp; done) | (simp; omega)) _))⟩

set_option maxHeartbeats 4000000 in
set_option maxRecDepth 100000 in
theorem neg20w_n (u0 u1 s0 s1 : Int) (w : World) (m1 : ∀ w : World, Calls Tryd.prog 41 #[.agg #[.int .i64 u0, .int .u64 u1]] w fun e w' => e = .returned (.bool true) ∧ Below w.heap.size w w') (m2 : ∀ w : World, Calls Tryd.prog 40 #[.agg #[.int .i64 u0, .int .u64 u1]] w fun e w' => e = .returned (.agg #[.int .i64 s0, .int .u64 s1]) ∧ Below w.heap.size w w') :
    Calls Tryd.prog 20 #[.agg #[.int .i64 u0, .int .u64 u1]] w fun e w' => e = .returned (.tuple #[.agg #[.int .i64 0, .int .u64 0], .bool false]) ∧ Below w.heap.size w w' := by
  have HB := Below.refl w.heap.size w
  go_enter Tryd.func20, Tryd.ntmps20
  go_wp2_with fail
  refine (m1 _).mono ?_; rintro e w1 ⟨rfl, hb⟩; (with_reducible (repeat replace hb := undr hb))
  have fr0 := cf hb (b := w.heap.size + 1) (o := 0) (by first | exact World.block_lt_of_cell? _ _ ‹_› | (simp; done) | (simp; omega)) (by go_simp)
  have fr1 := cf hb (b := w.heap.size + 1) (o := 1) (by first | exact World.block_lt_of_cell? _ _ ‹_› | (simp; done) | (simp; omega)) (by go_simp)
  have cx0 := ck hb (a := ⟨w.heap.size, 0, none⟩) (v := .int .i64 u0) (by go_simp)
  have cx1 := ck hb (a := ⟨w.heap.size, 1, none⟩) (v := .int .u64 u1) (by go_simp)
  have cr0 := ck hb (a := ⟨w.heap.size + 1, 0, none⟩) (v := .int .i64 0) (by go_simp)
  have cr1 := ck hb (a := ⟨w.heap.size + 1, 1, none⟩) (v := .int .u64 0) (by go_simp)
  have zw_0 : w.heap.size < w1.heap.size := World.block_lt_of_cell? w1 _ cx0
  have nw_0 : ¬ w.heap.size = w1.heap.size := Nat.ne_of_lt zw_0
  have zw_1 : w.heap.size + 1 < w1.heap.size := World.block_lt_of_cell? w1 _ cr0
  have nw_1 : ¬ w.heap.size + 1 = w1.heap.size := Nat.ne_of_lt zw_1
  replace HB : Below w.heap.size w w1 := bt (by repeat (first | (with_reducible exact HB) | (with_reducible exact Below.refl _ _) | (with_reducible apply bd) | (with_reducible apply ba) | (with_reducible refine bs ?_ (by first | (simp; done) | (simp; omega)) _))) hb
  clear hb
  go_wp2_with fail
  (try simp only [Exit.inBlock, Exit.then])
  refine bodyPost_ret (v := .tuple #[.agg #[.int .i64 0, .int .u64 0], .bool false]) ?_ ?_ ?_
  · simp [results, Tryd.results20, go_sem, cr0, cr1]
  · rfl
  exact ⟨rfl, by repeat (first | (with_reducible exact HB) | (with_reducible exact Below.refl _ _) | (with_reducible apply bd) | (with_reducible apply ba) | (with_reducible refine bs ?_ (by first | (simp; done) | (simp; omega)) _))⟩

theorem neg20 (u : Int) (w : World) (hu : fits u = true) :
    Calls Tryd.prog 20 #[.agg #[.int .i64 (hiW u), .int .u64 (loW u)]] w fun e w' => e = .returned (.tuple #[.agg #[.int .i64 (hiW (cutA (-u))), .int .u64 (loW (cutA (-u)))], .bool (fits (-u))]) ∧ Below w.heap.size w w' := by
  obtain ⟨u1, u2⟩ := fits_bd hu
  have m2 : ∀ w, Calls Tryd.prog 40 #[.agg #[.int .i64 (hiW u), .int .u64 (loW u)]] w fun e w' => e = .returned (.agg #[.int .i64 (wrap64 (hiW (-u))), .int .u64 (loW (-u))]) ∧ Below w.heap.size w w' := fun w => by
    have := neg40 u w
    rw [hi_in u1 u2] at this; exact this
  by_cases h : u = -170141183460469231731687303715884105728
  · have hf : fits (-u) = false := fits_no (by omega)
    rw [hf, cutA_no hf]
    refine neg20w_n _ _ _ _ w (fun w => least41_11 _ _ w (beq_iff_eq.2 (by unfold hiW; omega)) (beq_iff_eq.2 (by unfold loW; omega))) m2
  · have hf : fits (-u) = true := fits_yes (by omega) (by omega)
    rw [hf, cutA_yes hf]
    obtain ⟨f1, f2⟩ := fits_bd hf
    rw [hi_in f1 f2] at m2
    refine neg20w_y _ _ _ _ w (fun w => ?_) m2
    by_cases h1 : hiW u = -9223372036854775808
    · exact least41_10 _ _ w (beq_iff_eq.2 h1) (beq_eq_false_iff_ne.2 (by unfold hiW at h1; unfold loW; omega))
    · exact least41_0 _ _ w (beq_eq_false_iff_ne.2 h1)

set_option maxHeartbeats 4000000 in
set_option maxRecDepth 100000 in
theorem from27_neg (n l : Int) (w : World) (h : decide (n < 0) = true) (e : IntKind.u64.wrap n = l) :
    Calls Tryd.prog 27 #[.int .i64 n] w fun e w' => e = .returned (.agg #[.int .i64 (-1), .int .u64 l]) ∧ Below w.heap.size w w' := by
  have HB := Below.refl w.heap.size w
  go_enter Tryd.func27, Tryd.ntmps27
  go_wp2
  (try simp only [Exit.inBlock, Exit.then])
  refine bodyPost_ret (v := .agg #[.int .i64 (-1), .int .u64 l]) ?_ ?_ ?_
  · simp [results, Tryd.results27, go_sem]
  · rfl
  exact ⟨rfl, by repeat (first | (with_reducible exact HB) | (with_reducible exact Below.refl _ _) | (with_reducible apply bd) | (with_reducible apply ba) | (with_reducible refine bs ?_ (by first | (simp; done) | (simp; omega)) _))⟩

set_option maxHeartbeats 4000000 in
set_option maxRecDepth 100000 in
theorem from27_pos (n l : Int) (w : World) (h : decide (n < 0) = false) (e : IntKind.u64.wrap n = l) :
    Calls Tryd.prog 27 #[.int .i64 n] w fun e w' => e = .returned (.agg #[.int .i64 0, .int .u64 l]) ∧ Below w.heap.size w w' := by
  have HB := Below.refl w.heap.size w
  go_enter Tryd.func27, Tryd.ntmps27
  go_wp2
  (try simp only [Exit.inBlock, Exit.then])
  refine bodyPost_ret (v := .agg #[.int .i64 0, .int .u64 l]) ?_ ?_ ?_
  · simp [results, Tryd.results27, go_sem]
  · rfl
  exact ⟨rfl, by repeat (first | (with_reducible exact HB) | (with_reducible exact Below.refl _ _) | (with_reducible apply bd) | (with_reducible apply ba) | (with_reducible refine bs ?_ (by first | (simp; done) | (simp; omega)) _))⟩

theorem from27 (n : Int) (h1 : -9223372036854775808 ≤ n) (h2 : n ≤ 9223372036854775807) (w : World) :
    Calls Tryd.prog 27 #[.int .i64 n] w fun e w' => e = .returned (.agg #[.int .i64 (hiW n), .int .u64 (loW n)]) ∧ Below w.heap.size w w' := by
  have e : IntKind.u64.wrap n = loW n := by rw [IntKind.wrap_u64]; unfold loW; omega
  by_cases h : n < 0
  · rw [show hiW n = -1 by unfold hiW; omega]
    exact from27_neg n _ w (decide_eq_true h) e
  · rw [show hiW n = 0 by unfold hiW; omega]
    exact from27_pos n _ w (decide_eq_false h) e
end Go.Proofs.YtkamnnkdadfebaaDoor
