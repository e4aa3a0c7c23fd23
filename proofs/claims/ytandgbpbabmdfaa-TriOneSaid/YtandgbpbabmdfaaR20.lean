import Derived.Test.YtandgbpbabmdfaaT20
import Derived.Test.YtandgbpbabmdfaaRh
namespace Go.Proofs.Ytandgbpbabmdfaa
open Go.RowKit
attribute [local go_sem high] eq23 eq25 mn_two mx_two mn_three mx_three mx_four

/-- What each operation of the region leaves. -/
def region82aV (p0 p1 q0 q1 r0 r1 u0 u1 v0 v1 x0 x1 d0 d1 : Int) (kp kq kr kd : Nat) : Nat → Value
  | 0 => .pointer (some ⟨kp, 0, none⟩)
  | 1 => .int .i64 p0
  | 2 => .pointer (some ⟨kd, 0, none⟩)
  | 3 => .int .i64 d0
  | 4 => .int .i64 u0
  | 5 => .pointer (some ⟨kp, 1, none⟩)
  | 6 => .int .i64 p1
  | 7 => .pointer (some ⟨kd, 1, none⟩)
  | 8 => .int .i64 d1
  | 9 => .int .i64 u1
  | 10 => .agg #[.int .i64 u0, .int .i64 u1]
  | 11 => .pointer (some ⟨kq, 0, none⟩)
  | 12 => .int .i64 q0
  | 13 => .pointer (some ⟨kd, 0, none⟩)
  | 14 => .int .i64 d0
  | 15 => .int .i64 v0
  | 16 => .pointer (some ⟨kq, 1, none⟩)
  | 17 => .int .i64 q1
  | 18 => .pointer (some ⟨kd, 1, none⟩)
  | 19 => .int .i64 d1
  | 20 => .int .i64 v1
  | 21 => .agg #[.int .i64 v0, .int .i64 v1]
  | 22 => .pointer (some ⟨kr, 0, none⟩)
  | 23 => .int .i64 r0
  | 24 => .pointer (some ⟨kd, 0, none⟩)
  | 25 => .int .i64 d0
  | 26 => .int .i64 x0
  | 27 => .pointer (some ⟨kr, 1, none⟩)
  | 28 => .int .i64 r1
  | 29 => .pointer (some ⟨kd, 1, none⟩)
  | 30 => .int .i64 d1
  | 31 => .int .i64 x1
  | 32 => .agg #[.int .i64 x0, .int .i64 x1]
  | 33 => undef
  | 34 => undef
  | 35 => undef
  | _ => undef

set_option maxHeartbeats 4000000 in
set_option maxRecDepth 100000 in
theorem region82a (p0 p1 q0 q1 r0 r1 u0 u1 v0 v1 x0 x1 d0 d1 e0 e1 f0 f1 g0 g1 s0 s1 : Int) (kp kq kr kd ke kf kg ks : Nat) (W : World) (eq0 : IntKind.i64.wrap (p0 - d0) = u0) (eq1 : IntKind.i64.wrap (p1 - d1) = u1) (eq2 : IntKind.i64.wrap (q0 - d0) = v0) (eq3 : IntKind.i64.wrap (q1 - d1) = v1) (eq4 : IntKind.i64.wrap (r0 - d0) = x0) (eq5 : IntKind.i64.wrap (r1 - d1) = x1) (nekpkq : ¬ kp = kq) (nekpkr : ¬ kp = kr) (nekqkp : ¬ kq = kp) (nekqkr : ¬ kq = kr) (nekrkp : ¬ kr = kp) (nekrkq : ¬ kr = kq) (nekdkp : ¬ kd = kp) (nekdkq : ¬ kd = kq) (nekdkr : ¬ kd = kr) (nekekp : ¬ ke = kp) (nekekq : ¬ ke = kq) (nekekr : ¬ ke = kr) (nekfkp : ¬ kf = kp) (nekfkq : ¬ kf = kq) (nekfkr : ¬ kf = kr) (nekgkp : ¬ kg = kp) (nekgkq : ¬ kg = kq) (nekgkr : ¬ kg = kr) (nekskp : ¬ ks = kp) (nekskq : ¬ ks = kq) (nekskr : ¬ ks = kr) {id : Nat} {ops : Array Oper} {Q : Exit → Act → World → Prop} {a : Act} {w : World}
    (ho : ops = (regOps Try.f82 1)) (hsz : a.tmps.size = 69) (t5 : a.tmps[5]? = some (.pointer (some ⟨kp, 0, none⟩))) (t6 : a.tmps[6]? = some (.pointer (some ⟨kq, 0, none⟩))) (t7 : a.tmps[7]? = some (.pointer (some ⟨kr, 0, none⟩))) (t3 : a.tmps[3]? = some (.pointer (some ⟨kd, 0, none⟩))) (gep : W.heap.size ≤ kp) (geq : W.heap.size ≤ kq) (ger : W.heap.size ≤ kr)
    (h0 : w.cell? ⟨kd, 0, none⟩ = some (.int .i64 d0) ∧ w.cell? ⟨kd, 1, none⟩ = some (.int .i64 d1) ∧ w.cell? ⟨ke, 0, none⟩ = some (.int .i64 e0) ∧ w.cell? ⟨ke, 1, none⟩ = some (.int .i64 e1) ∧ w.cell? ⟨kf, 0, none⟩ = some (.int .i64 f0) ∧ w.cell? ⟨kf, 1, none⟩ = some (.int .i64 f1) ∧ w.cell? ⟨kg, 0, none⟩ = some (.int .i64 g0) ∧ w.cell? ⟨kg, 1, none⟩ = some (.int .i64 g1) ∧ w.cell? ⟨ks, 0, none⟩ = some (.int .i64 s0) ∧ w.cell? ⟨ks, 1, none⟩ = some (.int .u64 s1) ∧ w.frozen? ⟨ks, 0, none⟩ = false ∧ w.frozen? ⟨ks, 1, none⟩ = false ∧ Below W.heap.size W w) (hs0 : w.frozen? ⟨kp, 0, none⟩ = false ∧ w.frozen? ⟨kp, 1, none⟩ = false ∧ w.frozen? ⟨kq, 0, none⟩ = false ∧ w.frozen? ⟨kq, 1, none⟩ = false ∧ w.frozen? ⟨kr, 0, none⟩ = false ∧ w.frozen? ⟨kr, 1, none⟩ = false ∧ w.cell? ⟨kp, 0, none⟩ = some (.int .i64 p0) ∧ w.cell? ⟨kp, 1, none⟩ = some (.int .i64 p1) ∧ w.cell? ⟨kq, 0, none⟩ = some (.int .i64 q0) ∧ w.cell? ⟨kq, 1, none⟩ = some (.int .i64 q1) ∧ w.cell? ⟨kr, 0, none⟩ = some (.int .i64 r0) ∧ w.cell? ⟨kr, 1, none⟩ = some (.int .i64 r1))
    (he : ∀ w', w'.cell? ⟨kd, 0, none⟩ = some (.int .i64 d0) ∧ w'.cell? ⟨kd, 1, none⟩ = some (.int .i64 d1) ∧ w'.cell? ⟨ke, 0, none⟩ = some (.int .i64 e0) ∧ w'.cell? ⟨ke, 1, none⟩ = some (.int .i64 e1) ∧ w'.cell? ⟨kf, 0, none⟩ = some (.int .i64 f0) ∧ w'.cell? ⟨kf, 1, none⟩ = some (.int .i64 f1) ∧ w'.cell? ⟨kg, 0, none⟩ = some (.int .i64 g0) ∧ w'.cell? ⟨kg, 1, none⟩ = some (.int .i64 g1) ∧ w'.cell? ⟨ks, 0, none⟩ = some (.int .i64 s0) ∧ w'.cell? ⟨ks, 1, none⟩ = some (.int .u64 s1) ∧ w'.frozen? ⟨ks, 0, none⟩ = false ∧ w'.frozen? ⟨ks, 1, none⟩ = false ∧ Below W.heap.size W w' → w'.frozen? ⟨kp, 0, none⟩ = false ∧ w'.frozen? ⟨kp, 1, none⟩ = false ∧ w'.frozen? ⟨kq, 0, none⟩ = false ∧ w'.frozen? ⟨kq, 1, none⟩ = false ∧ w'.frozen? ⟨kr, 0, none⟩ = false ∧ w'.frozen? ⟨kr, 1, none⟩ = false ∧ w'.cell? ⟨kp, 0, none⟩ = some (.int .i64 u0) ∧ w'.cell? ⟨kp, 1, none⟩ = some (.int .i64 u1) ∧ w'.cell? ⟨kq, 0, none⟩ = some (.int .i64 v0) ∧ w'.cell? ⟨kq, 1, none⟩ = some (.int .i64 v1) ∧ w'.cell? ⟨kr, 0, none⟩ = some (.int .i64 x0) ∧ w'.cell? ⟨kr, 1, none⟩ = some (.int .i64 x1) → Q .normal ⟨(((((((((((((((((((((((((((((((((a.tmps.setIfInBounds 8 (.pointer (some ⟨kp, 0, none⟩))).setIfInBounds 9 (.int .i64 p0)).setIfInBounds 10 (.pointer (some ⟨kd, 0, none⟩))).setIfInBounds 11 (.int .i64 d0)).setIfInBounds 12 (.int .i64 u0)).setIfInBounds 13 (.pointer (some ⟨kp, 1, none⟩))).setIfInBounds 14 (.int .i64 p1)).setIfInBounds 15 (.pointer (some ⟨kd, 1, none⟩))).setIfInBounds 16 (.int .i64 d1)).setIfInBounds 17 (.int .i64 u1)).setIfInBounds 18 (.agg #[.int .i64 u0, .int .i64 u1])).setIfInBounds 19 (.pointer (some ⟨kq, 0, none⟩))).setIfInBounds 20 (.int .i64 q0)).setIfInBounds 21 (.pointer (some ⟨kd, 0, none⟩))).setIfInBounds 22 (.int .i64 d0)).setIfInBounds 23 (.int .i64 v0)).setIfInBounds 24 (.pointer (some ⟨kq, 1, none⟩))).setIfInBounds 25 (.int .i64 q1)).setIfInBounds 26 (.pointer (some ⟨kd, 1, none⟩))).setIfInBounds 27 (.int .i64 d1)).setIfInBounds 28 (.int .i64 v1)).setIfInBounds 29 (.agg #[.int .i64 v0, .int .i64 v1])).setIfInBounds 30 (.pointer (some ⟨kr, 0, none⟩))).setIfInBounds 31 (.int .i64 r0)).setIfInBounds 32 (.pointer (some ⟨kd, 0, none⟩))).setIfInBounds 33 (.int .i64 d0)).setIfInBounds 34 (.int .i64 x0)).setIfInBounds 35 (.pointer (some ⟨kr, 1, none⟩))).setIfInBounds 36 (.int .i64 r1)).setIfInBounds 37 (.pointer (some ⟨kd, 1, none⟩))).setIfInBounds 38 (.int .i64 d1)).setIfInBounds 39 (.int .i64 x1)).setIfInBounds 40 (.agg #[.int .i64 x0, .int .i64 x1])), a.defers⟩ w') :
    (Code.region id ops true).wp Try.prog Q a w := by
  have ht : tidy (regOps Try.f82 1) a.tmps.size = true := by rw [hsz]; kernel_rfl
  obtain ⟨dc0, dc1, ec0, ec1, fc0, fc1, gc0, gc1, sc0, sc1, zs0, zs1, HB0⟩ := h0
  obtain ⟨zp0, zp1, zq0, zq1, zr0, zr1, cp0, cp1, cq0, cq1, cr0, cr1⟩ := hs0
  have ltp := World.block_lt_of_cell? w _ cp0
  have ltq := World.block_lt_of_cell? w _ cq0
  have ltr := World.block_lt_of_cell? w _ cr0
  refine region_tab2 (G := Unit) (fun _ => (region82aV p0 p1 q0 q1 r0 r1 u0 u1 v0 v1 x0 x1 d0 d1 kp kq kr kd)) (fun _ L w' => w'.cell? ⟨kd, 0, none⟩ = some (.int .i64 d0) ∧ w'.cell? ⟨kd, 1, none⟩ = some (.int .i64 d1) ∧ w'.cell? ⟨ke, 0, none⟩ = some (.int .i64 e0) ∧ w'.cell? ⟨ke, 1, none⟩ = some (.int .i64 e1) ∧ w'.cell? ⟨kf, 0, none⟩ = some (.int .i64 f0) ∧ w'.cell? ⟨kf, 1, none⟩ = some (.int .i64 f1) ∧ w'.cell? ⟨kg, 0, none⟩ = some (.int .i64 g0) ∧ w'.cell? ⟨kg, 1, none⟩ = some (.int .i64 g1) ∧ w'.cell? ⟨ks, 0, none⟩ = some (.int .i64 s0) ∧ w'.cell? ⟨ks, 1, none⟩ = some (.int .u64 s1) ∧ w'.frozen? ⟨ks, 0, none⟩ = false ∧ w'.frozen? ⟨ks, 1, none⟩ = false ∧ Below W.heap.size W w' ∧ w.heap.size ≤ w'.heap.size ∧ w'.frozen? ⟨kp, 0, none⟩ = false ∧ w'.frozen? ⟨kp, 1, none⟩ = false ∧ w'.frozen? ⟨kq, 0, none⟩ = false ∧ w'.frozen? ⟨kq, 1, none⟩ = false ∧ w'.frozen? ⟨kr, 0, none⟩ = false ∧ w'.frozen? ⟨kr, 1, none⟩ = false ∧ (L 33 = false → w'.cell? ⟨kp, 0, none⟩ = some (.int .i64 p0) ∧ w'.cell? ⟨kp, 1, none⟩ = some (.int .i64 p1)) ∧ (L 33 = true → w'.cell? ⟨kp, 0, none⟩ = some (.int .i64 u0) ∧ w'.cell? ⟨kp, 1, none⟩ = some (.int .i64 u1)) ∧ (L 34 = false → w'.cell? ⟨kq, 0, none⟩ = some (.int .i64 q0) ∧ w'.cell? ⟨kq, 1, none⟩ = some (.int .i64 q1)) ∧ (L 34 = true → w'.cell? ⟨kq, 0, none⟩ = some (.int .i64 v0) ∧ w'.cell? ⟨kq, 1, none⟩ = some (.int .i64 v1)) ∧ (L 35 = false → w'.cell? ⟨kr, 0, none⟩ = some (.int .i64 r0) ∧ w'.cell? ⟨kr, 1, none⟩ = some (.int .i64 r1)) ∧ (L 35 = true → w'.cell? ⟨kr, 0, none⟩ = some (.int .i64 x0) ∧ w'.cell? ⟨kr, 1, none⟩ = some (.int .i64 x1))) () (by kernel_rfl) ho ht ⟨dc0, dc1, ec0, ec1, fc0, fc1, gc0, gc1, sc0, sc1, zs0, zs1, bd HB0, Nat.le_refl _, zp0, zp1, zq0, zq1, zr0, zr1, fun _ => ⟨cp0, cp1⟩, fun h => (by cases h), fun _ => ⟨cq0, cq1⟩, fun h => (by cases h), fun _ => ⟨cr0, cr1⟩, fun h => (by cases h)⟩ ?_ ?_
  · intro i o hoi g L b w' hun hdn hpre hT hS
    clear he dc0 dc1 ec0 ec1 fc0 fc1 gc0 gc1 sc0 sc1 zs0 zs1 cp0 cp1 cq0 cq1 cr0 cr1 zp0 zp1 zq0 zq1 zr0 zr1 ho hsz ht HB0
    have hi : i < (regOps Try.f82 1).size := (Array.getElem?_eq_some_iff.1 hoi).1
    rw [show (regOps Try.f82 1).size = 36 by kernel_rfl] at hi
    obtain ⟨dc0, dc1, ec0, ec1, fc0, fc1, gc0, gc1, sc0, sc1, zs0, zs1, HB, szw, zp0, zp1, zq0, zq1, zr0, zr1, op, np, oq, nq, or, nr⟩ := hS
    have hcases : i = 0 ∨ i = 1 ∨ i = 2 ∨ i = 3 ∨ i = 4 ∨ i = 5 ∨ i = 6 ∨ i = 7 ∨ i = 8 ∨ i = 9 ∨ i = 10 ∨ i = 11 ∨ i = 12 ∨ i = 13 ∨ i = 14 ∨ i = 15 ∨ i = 16 ∨ i = 17 ∨ i = 18 ∨ i = 19 ∨ i = 20 ∨ i = 21 ∨ i = 22 ∨ i = 23 ∨ i = 24 ∨ i = 25 ∨ i = 26 ∨ i = 27 ∨ i = 28 ∨ i = 29 ∨ i = 30 ∨ i = 31 ∨ i = 32 ∨ i = 33 ∨ i = 34 ∨ i = 35 := by omega
    rcases hcases with rfl | rfl | rfl | rfl | rfl | rfl | rfl | rfl | rfl | rfl | rfl | rfl | rfl | rfl | rfl | rfl | rfl | rfl | rfl | rfl | rfl | rfl | rfl | rfl | rfl | rfl | rfl | rfl | rfl | rfl | rfl | rfl | rfl | rfl | rfl | rfl
    · have hlit : (regOps Try.f82 1)[0]? = some ({ dst := some 8, op := Op.fieldAddr 23 (Operand.tmp 5) 0, type := 0, pos := "exact.go:41", after := #[], guard := none }) := by kernel_rfl
      obtain rfl := Option.some.inj (hlit.symm.trans hoi)
      have r5 : b.tmps.getD 5 undef = (.pointer (some ⟨kp, 0, none⟩)) := rd ((hT.old 5 (by kernel_rfl)).trans t5)
      refine op_go hoi (want_all rfl) fun K hK => ?_
      clear hT hpre hlit hoi hdn
      go_simp
      exact hK _ _ ⟨(), fun _ _ => rfl, rfl, dc0, dc1, ec0, ec1, fc0, fc1, gc0, gc1, sc0, sc1, zs0, zs1, HB, szw, zp0, zp1, zq0, zq1, zr0, zr1, op, np, oq, nq, or, nr⟩
    · have hlit : (regOps Try.f82 1)[1]? = some ({ dst := some 9, op := Op.load 3 (Operand.tmp 8), type := 3, pos := "exact.go:41", after := #[{ on := 0, ground := Ground.data }], guard := none }) := by kernel_rfl
      obtain rfl := Option.some.inj (hlit.symm.trans hoi)
      have r8 : b.tmps.getD 8 undef = (.pointer (some ⟨kp, 0, none⟩)) := rd (hT.at 0 (by kernel_rfl) (pre_of hpre 0 (by kernel_rfl)))
      have nl : L 33 = false := Down.not (fun h => (hdn.step (k := 4) (j := 1) (by kernel_rfl) (hdn.step (k := 10) (j := 4) (by kernel_rfl) (hdn.step (k := 33) (j := 10) (by kernel_rfl) h)))) hun
      obtain ⟨cp0, cp1⟩ := op nl
      refine op_go hoi (want_all rfl) fun K hK => ?_
      clear hT hpre hlit hoi hdn
      go_simp
      exact hK _ _ ⟨(), fun _ _ => rfl, rfl, dc0, dc1, ec0, ec1, fc0, fc1, gc0, gc1, sc0, sc1, zs0, zs1, HB, szw, zp0, zp1, zq0, zq1, zr0, zr1, op, np, oq, nq, or, nr⟩
    · have hlit : (regOps Try.f82 1)[2]? = some ({ dst := some 10, op := Op.fieldAddr 23 (Operand.tmp 3) 0, type := 0, pos := "exact.go:41", after := #[], guard := none }) := by kernel_rfl
      obtain rfl := Option.some.inj (hlit.symm.trans hoi)
      have r3 : b.tmps.getD 3 undef = (.pointer (some ⟨kd, 0, none⟩)) := rd ((hT.old 3 (by kernel_rfl)).trans t3)
      refine op_go hoi (want_all rfl) fun K hK => ?_
      clear hT hpre hlit hoi hdn
      go_simp
      exact hK _ _ ⟨(), fun _ _ => rfl, rfl, dc0, dc1, ec0, ec1, fc0, fc1, gc0, gc1, sc0, sc1, zs0, zs1, HB, szw, zp0, zp1, zq0, zq1, zr0, zr1, op, np, oq, nq, or, nr⟩
    · have hlit : (regOps Try.f82 1)[3]? = some ({ dst := some 11, op := Op.load 3 (Operand.tmp 10), type := 3, pos := "exact.go:41", after := #[{ on := 2, ground := Ground.data }], guard := none }) := by kernel_rfl
      obtain rfl := Option.some.inj (hlit.symm.trans hoi)
      have r10 : b.tmps.getD 10 undef = (.pointer (some ⟨kd, 0, none⟩)) := rd (hT.at 2 (by kernel_rfl) (pre_of hpre 2 (by kernel_rfl)))
      refine op_go hoi (want_all rfl) fun K hK => ?_
      clear hT hpre hlit hoi hdn
      go_simp
      exact hK _ _ ⟨(), fun _ _ => rfl, rfl, dc0, dc1, ec0, ec1, fc0, fc1, gc0, gc1, sc0, sc1, zs0, zs1, HB, szw, zp0, zp1, zq0, zq1, zr0, zr1, op, np, oq, nq, or, nr⟩
    · have hlit : (regOps Try.f82 1)[4]? = some ({ dst := some 12, op := Op.binOp BinOp.sub 3 (Operand.tmp 9) (Operand.tmp 11) 3, type := 3, pos := "exact.go:41", after := #[{ on := 1, ground := Ground.data }, { on := 3, ground := Ground.data }], guard := none }) := by kernel_rfl
      obtain rfl := Option.some.inj (hlit.symm.trans hoi)
      have r9 : b.tmps.getD 9 undef = (.int .i64 p0) := rd (hT.at 1 (by kernel_rfl) (pre_of hpre 1 (by kernel_rfl)))
      have r11 : b.tmps.getD 11 undef = (.int .i64 d0) := rd (hT.at 3 (by kernel_rfl) (pre_of hpre 3 (by kernel_rfl)))
      refine op_go hoi (want_all rfl) fun K hK => ?_
      clear hT hpre hlit hoi hdn
      go_simp
      exact hK _ _ ⟨(), fun _ _ => rfl, rfl, dc0, dc1, ec0, ec1, fc0, fc1, gc0, gc1, sc0, sc1, zs0, zs1, HB, szw, zp0, zp1, zq0, zq1, zr0, zr1, op, np, oq, nq, or, nr⟩
    · have hlit : (regOps Try.f82 1)[5]? = some ({ dst := some 13, op := Op.fieldAddr 23 (Operand.tmp 5) 1, type := 0, pos := "exact.go:41", after := #[], guard := none }) := by kernel_rfl
      obtain rfl := Option.some.inj (hlit.symm.trans hoi)
      have r5 : b.tmps.getD 5 undef = (.pointer (some ⟨kp, 0, none⟩)) := rd ((hT.old 5 (by kernel_rfl)).trans t5)
      refine op_go hoi (want_all rfl) fun K hK => ?_
      clear hT hpre hlit hoi hdn
      go_simp
      exact hK _ _ ⟨(), fun _ _ => rfl, rfl, dc0, dc1, ec0, ec1, fc0, fc1, gc0, gc1, sc0, sc1, zs0, zs1, HB, szw, zp0, zp1, zq0, zq1, zr0, zr1, op, np, oq, nq, or, nr⟩
    · have hlit : (regOps Try.f82 1)[6]? = some ({ dst := some 14, op := Op.load 3 (Operand.tmp 13), type := 3, pos := "exact.go:41", after := #[{ on := 5, ground := Ground.data }], guard := none }) := by kernel_rfl
      obtain rfl := Option.some.inj (hlit.symm.trans hoi)
      have r13 : b.tmps.getD 13 undef = (.pointer (some ⟨kp, 1, none⟩)) := rd (hT.at 5 (by kernel_rfl) (pre_of hpre 5 (by kernel_rfl)))
      have nl : L 33 = false := Down.not (fun h => (hdn.step (k := 9) (j := 6) (by kernel_rfl) (hdn.step (k := 10) (j := 9) (by kernel_rfl) (hdn.step (k := 33) (j := 10) (by kernel_rfl) h)))) hun
      obtain ⟨cp0, cp1⟩ := op nl
      refine op_go hoi (want_all rfl) fun K hK => ?_
      clear hT hpre hlit hoi hdn
      go_simp
      exact hK _ _ ⟨(), fun _ _ => rfl, rfl, dc0, dc1, ec0, ec1, fc0, fc1, gc0, gc1, sc0, sc1, zs0, zs1, HB, szw, zp0, zp1, zq0, zq1, zr0, zr1, op, np, oq, nq, or, nr⟩
    · have hlit : (regOps Try.f82 1)[7]? = some ({ dst := some 15, op := Op.fieldAddr 23 (Operand.tmp 3) 1, type := 0, pos := "exact.go:41", after := #[], guard := none }) := by kernel_rfl
      obtain rfl := Option.some.inj (hlit.symm.trans hoi)
      have r3 : b.tmps.getD 3 undef = (.pointer (some ⟨kd, 0, none⟩)) := rd ((hT.old 3 (by kernel_rfl)).trans t3)
      refine op_go hoi (want_all rfl) fun K hK => ?_
      clear hT hpre hlit hoi hdn
      go_simp
      exact hK _ _ ⟨(), fun _ _ => rfl, rfl, dc0, dc1, ec0, ec1, fc0, fc1, gc0, gc1, sc0, sc1, zs0, zs1, HB, szw, zp0, zp1, zq0, zq1, zr0, zr1, op, np, oq, nq, or, nr⟩
    · have hlit : (regOps Try.f82 1)[8]? = some ({ dst := some 16, op := Op.load 3 (Operand.tmp 15), type := 3, pos := "exact.go:41", after := #[{ on := 7, ground := Ground.data }], guard := none }) := by kernel_rfl
      obtain rfl := Option.some.inj (hlit.symm.trans hoi)
      have r15 : b.tmps.getD 15 undef = (.pointer (some ⟨kd, 1, none⟩)) := rd (hT.at 7 (by kernel_rfl) (pre_of hpre 7 (by kernel_rfl)))
      refine op_go hoi (want_all rfl) fun K hK => ?_
      clear hT hpre hlit hoi hdn
      go_simp
      exact hK _ _ ⟨(), fun _ _ => rfl, rfl, dc0, dc1, ec0, ec1, fc0, fc1, gc0, gc1, sc0, sc1, zs0, zs1, HB, szw, zp0, zp1, zq0, zq1, zr0, zr1, op, np, oq, nq, or, nr⟩
    · have hlit : (regOps Try.f82 1)[9]? = some ({ dst := some 17, op := Op.binOp BinOp.sub 3 (Operand.tmp 14) (Operand.tmp 16) 3, type := 3, pos := "exact.go:41", after := #[{ on := 6, ground := Ground.data }, { on := 8, ground := Ground.data }], guard := none }) := by kernel_rfl
      obtain rfl := Option.some.inj (hlit.symm.trans hoi)
      have r14 : b.tmps.getD 14 undef = (.int .i64 p1) := rd (hT.at 6 (by kernel_rfl) (pre_of hpre 6 (by kernel_rfl)))
      have r16 : b.tmps.getD 16 undef = (.int .i64 d1) := rd (hT.at 8 (by kernel_rfl) (pre_of hpre 8 (by kernel_rfl)))
      refine op_go hoi (want_all rfl) fun K hK => ?_
      clear hT hpre hlit hoi hdn
      go_simp
      exact hK _ _ ⟨(), fun _ _ => rfl, rfl, dc0, dc1, ec0, ec1, fc0, fc1, gc0, gc1, sc0, sc1, zs0, zs1, HB, szw, zp0, zp1, zq0, zq1, zr0, zr1, op, np, oq, nq, or, nr⟩
    · have hlit : (regOps Try.f82 1)[10]? = some ({ dst := some 18, op := Op.build 23 #[(0, Operand.tmp 12), (1, Operand.tmp 17)], type := 23, pos := "exact.go:41", after := #[{ on := 4, ground := Ground.data }, { on := 9, ground := Ground.data }], guard := none }) := by kernel_rfl
      obtain rfl := Option.some.inj (hlit.symm.trans hoi)
      have r12 : b.tmps.getD 12 undef = (.int .i64 u0) := rd (hT.at 4 (by kernel_rfl) (pre_of hpre 4 (by kernel_rfl)))
      have q12 : b.tmps[12]?.getD undef = (.int .i64 u0) := (Array.getD_eq_getD_getElem? ..).symm.trans r12
      have r17 : b.tmps.getD 17 undef = (.int .i64 u1) := rd (hT.at 9 (by kernel_rfl) (pre_of hpre 9 (by kernel_rfl)))
      have q17 : b.tmps[17]?.getD undef = (.int .i64 u1) := (Array.getD_eq_getD_getElem? ..).symm.trans r17
      refine op_go hoi (want_all rfl) fun K hK => ?_
      clear hT hpre hlit hoi hdn
      go_simp
      exact hK _ _ ⟨(), fun _ _ => rfl, rfl, dc0, dc1, ec0, ec1, fc0, fc1, gc0, gc1, sc0, sc1, zs0, zs1, HB, szw, zp0, zp1, zq0, zq1, zr0, zr1, op, np, oq, nq, or, nr⟩
    · have hlit : (regOps Try.f82 1)[11]? = some ({ dst := some 19, op := Op.fieldAddr 23 (Operand.tmp 6) 0, type := 0, pos := "exact.go:41", after := #[{ on := 33, ground := Ground.gcOnly Departure.lateStores }], guard := none }) := by kernel_rfl
      obtain rfl := Option.some.inj (hlit.symm.trans hoi)
      have r6 : b.tmps.getD 6 undef = (.pointer (some ⟨kq, 0, none⟩)) := rd ((hT.old 6 (by kernel_rfl)).trans t6)
      refine op_go hoi (want_all rfl) fun K hK => ?_
      clear hT hpre hlit hoi hdn
      go_simp
      exact hK _ _ ⟨(), fun _ _ => rfl, rfl, dc0, dc1, ec0, ec1, fc0, fc1, gc0, gc1, sc0, sc1, zs0, zs1, HB, szw, zp0, zp1, zq0, zq1, zr0, zr1, op, np, oq, nq, or, nr⟩
    · have hlit : (regOps Try.f82 1)[12]? = some ({ dst := some 20, op := Op.load 3 (Operand.tmp 19), type := 3, pos := "exact.go:41", after := #[{ on := 11, ground := Ground.data }, { on := 33, ground := Ground.gcOnly Departure.lateStores }], guard := none }) := by kernel_rfl
      obtain rfl := Option.some.inj (hlit.symm.trans hoi)
      have r19 : b.tmps.getD 19 undef = (.pointer (some ⟨kq, 0, none⟩)) := rd (hT.at 11 (by kernel_rfl) (pre_of hpre 11 (by kernel_rfl)))
      have nl : L 34 = false := Down.not (fun h => (hdn.step (k := 15) (j := 12) (by kernel_rfl) (hdn.step (k := 21) (j := 15) (by kernel_rfl) (hdn.step (k := 34) (j := 21) (by kernel_rfl) h)))) hun
      obtain ⟨cq0, cq1⟩ := oq nl
      refine op_go hoi (want_all rfl) fun K hK => ?_
      clear hT hpre hlit hoi hdn
      go_simp
      exact hK _ _ ⟨(), fun _ _ => rfl, rfl, dc0, dc1, ec0, ec1, fc0, fc1, gc0, gc1, sc0, sc1, zs0, zs1, HB, szw, zp0, zp1, zq0, zq1, zr0, zr1, op, np, oq, nq, or, nr⟩
    · have hlit : (regOps Try.f82 1)[13]? = some ({ dst := some 21, op := Op.fieldAddr 23 (Operand.tmp 3) 0, type := 0, pos := "exact.go:41", after := #[{ on := 33, ground := Ground.gcOnly Departure.lateStores }], guard := none }) := by kernel_rfl
      obtain rfl := Option.some.inj (hlit.symm.trans hoi)
      have r3 : b.tmps.getD 3 undef = (.pointer (some ⟨kd, 0, none⟩)) := rd ((hT.old 3 (by kernel_rfl)).trans t3)
      refine op_go hoi (want_all rfl) fun K hK => ?_
      clear hT hpre hlit hoi hdn
      go_simp
      exact hK _ _ ⟨(), fun _ _ => rfl, rfl, dc0, dc1, ec0, ec1, fc0, fc1, gc0, gc1, sc0, sc1, zs0, zs1, HB, szw, zp0, zp1, zq0, zq1, zr0, zr1, op, np, oq, nq, or, nr⟩
    · have hlit : (regOps Try.f82 1)[14]? = some ({ dst := some 22, op := Op.load 3 (Operand.tmp 21), type := 3, pos := "exact.go:41", after := #[{ on := 13, ground := Ground.data }, { on := 33, ground := Ground.gcOnly Departure.lateStores }], guard := none }) := by kernel_rfl
      obtain rfl := Option.some.inj (hlit.symm.trans hoi)
      have r21 : b.tmps.getD 21 undef = (.pointer (some ⟨kd, 0, none⟩)) := rd (hT.at 13 (by kernel_rfl) (pre_of hpre 13 (by kernel_rfl)))
      refine op_go hoi (want_all rfl) fun K hK => ?_
      clear hT hpre hlit hoi hdn
      go_simp
      exact hK _ _ ⟨(), fun _ _ => rfl, rfl, dc0, dc1, ec0, ec1, fc0, fc1, gc0, gc1, sc0, sc1, zs0, zs1, HB, szw, zp0, zp1, zq0, zq1, zr0, zr1, op, np, oq, nq, or, nr⟩
    · have hlit : (regOps Try.f82 1)[15]? = some ({ dst := some 23, op := Op.binOp BinOp.sub 3 (Operand.tmp 20) (Operand.tmp 22) 3, type := 3, pos := "exact.go:41", after := #[{ on := 12, ground := Ground.data }, { on := 14, ground := Ground.data }, { on := 33, ground := Ground.gcOnly Departure.lateStores }], guard := none }) := by kernel_rfl
      obtain rfl := Option.some.inj (hlit.symm.trans hoi)
      have r20 : b.tmps.getD 20 undef = (.int .i64 q0) := rd (hT.at 12 (by kernel_rfl) (pre_of hpre 12 (by kernel_rfl)))
      have r22 : b.tmps.getD 22 undef = (.int .i64 d0) := rd (hT.at 14 (by kernel_rfl) (pre_of hpre 14 (by kernel_rfl)))
      refine op_go hoi (want_all rfl) fun K hK => ?_
      clear hT hpre hlit hoi hdn
      go_simp
      exact hK _ _ ⟨(), fun _ _ => rfl, rfl, dc0, dc1, ec0, ec1, fc0, fc1, gc0, gc1, sc0, sc1, zs0, zs1, HB, szw, zp0, zp1, zq0, zq1, zr0, zr1, op, np, oq, nq, or, nr⟩
    · have hlit : (regOps Try.f82 1)[16]? = some ({ dst := some 24, op := Op.fieldAddr 23 (Operand.tmp 6) 1, type := 0, pos := "exact.go:41", after := #[{ on := 33, ground := Ground.gcOnly Departure.lateStores }], guard := none }) := by kernel_rfl
      obtain rfl := Option.some.inj (hlit.symm.trans hoi)
      have r6 : b.tmps.getD 6 undef = (.pointer (some ⟨kq, 0, none⟩)) := rd ((hT.old 6 (by kernel_rfl)).trans t6)
      refine op_go hoi (want_all rfl) fun K hK => ?_
      clear hT hpre hlit hoi hdn
      go_simp
      exact hK _ _ ⟨(), fun _ _ => rfl, rfl, dc0, dc1, ec0, ec1, fc0, fc1, gc0, gc1, sc0, sc1, zs0, zs1, HB, szw, zp0, zp1, zq0, zq1, zr0, zr1, op, np, oq, nq, or, nr⟩
    · have hlit : (regOps Try.f82 1)[17]? = some ({ dst := some 25, op := Op.load 3 (Operand.tmp 24), type := 3, pos := "exact.go:41", after := #[{ on := 16, ground := Ground.data }, { on := 33, ground := Ground.gcOnly Departure.lateStores }], guard := none }) := by kernel_rfl
      obtain rfl := Option.some.inj (hlit.symm.trans hoi)
      have r24 : b.tmps.getD 24 undef = (.pointer (some ⟨kq, 1, none⟩)) := rd (hT.at 16 (by kernel_rfl) (pre_of hpre 16 (by kernel_rfl)))
      have nl : L 34 = false := Down.not (fun h => (hdn.step (k := 20) (j := 17) (by kernel_rfl) (hdn.step (k := 21) (j := 20) (by kernel_rfl) (hdn.step (k := 34) (j := 21) (by kernel_rfl) h)))) hun
      obtain ⟨cq0, cq1⟩ := oq nl
      refine op_go hoi (want_all rfl) fun K hK => ?_
      clear hT hpre hlit hoi hdn
      go_simp
      exact hK _ _ ⟨(), fun _ _ => rfl, rfl, dc0, dc1, ec0, ec1, fc0, fc1, gc0, gc1, sc0, sc1, zs0, zs1, HB, szw, zp0, zp1, zq0, zq1, zr0, zr1, op, np, oq, nq, or, nr⟩
    · have hlit : (regOps Try.f82 1)[18]? = some ({ dst := some 26, op := Op.fieldAddr 23 (Operand.tmp 3) 1, type := 0, pos := "exact.go:41", after := #[{ on := 33, ground := Ground.gcOnly Departure.lateStores }], guard := none }) := by kernel_rfl
      obtain rfl := Option.some.inj (hlit.symm.trans hoi)
      have r3 : b.tmps.getD 3 undef = (.pointer (some ⟨kd, 0, none⟩)) := rd ((hT.old 3 (by kernel_rfl)).trans t3)
      refine op_go hoi (want_all rfl) fun K hK => ?_
      clear hT hpre hlit hoi hdn
      go_simp
      exact hK _ _ ⟨(), fun _ _ => rfl, rfl, dc0, dc1, ec0, ec1, fc0, fc1, gc0, gc1, sc0, sc1, zs0, zs1, HB, szw, zp0, zp1, zq0, zq1, zr0, zr1, op, np, oq, nq, or, nr⟩
    · have hlit : (regOps Try.f82 1)[19]? = some ({ dst := some 27, op := Op.load 3 (Operand.tmp 26), type := 3, pos := "exact.go:41", after := #[{ on := 18, ground := Ground.data }, { on := 33, ground := Ground.gcOnly Departure.lateStores }], guard := none }) := by kernel_rfl
      obtain rfl := Option.some.inj (hlit.symm.trans hoi)
      have r26 : b.tmps.getD 26 undef = (.pointer (some ⟨kd, 1, none⟩)) := rd (hT.at 18 (by kernel_rfl) (pre_of hpre 18 (by kernel_rfl)))
      refine op_go hoi (want_all rfl) fun K hK => ?_
      clear hT hpre hlit hoi hdn
      go_simp
      exact hK _ _ ⟨(), fun _ _ => rfl, rfl, dc0, dc1, ec0, ec1, fc0, fc1, gc0, gc1, sc0, sc1, zs0, zs1, HB, szw, zp0, zp1, zq0, zq1, zr0, zr1, op, np, oq, nq, or, nr⟩
    · have hlit : (regOps Try.f82 1)[20]? = some ({ dst := some 28, op := Op.binOp BinOp.sub 3 (Operand.tmp 25) (Operand.tmp 27) 3, type := 3, pos := "exact.go:41", after := #[{ on := 17, ground := Ground.data }, { on := 19, ground := Ground.data }, { on := 33, ground := Ground.gcOnly Departure.lateStores }], guard := none }) := by kernel_rfl
      obtain rfl := Option.some.inj (hlit.symm.trans hoi)
      have r25 : b.tmps.getD 25 undef = (.int .i64 q1) := rd (hT.at 17 (by kernel_rfl) (pre_of hpre 17 (by kernel_rfl)))
      have r27 : b.tmps.getD 27 undef = (.int .i64 d1) := rd (hT.at 19 (by kernel_rfl) (pre_of hpre 19 (by kernel_rfl)))
      refine op_go hoi (want_all rfl) fun K hK => ?_
      clear hT hpre hlit hoi hdn
      go_simp
      exact hK _ _ ⟨(), fun _ _ => rfl, rfl, dc0, dc1, ec0, ec1, fc0, fc1, gc0, gc1, sc0, sc1, zs0, zs1, HB, szw, zp0, zp1, zq0, zq1, zr0, zr1, op, np, oq, nq, or, nr⟩
    · have hlit : (regOps Try.f82 1)[21]? = some ({ dst := some 29, op := Op.build 23 #[(0, Operand.tmp 23), (1, Operand.tmp 28)], type := 23, pos := "exact.go:41", after := #[{ on := 15, ground := Ground.data }, { on := 20, ground := Ground.data }, { on := 33, ground := Ground.gcOnly Departure.lateStores }], guard := none }) := by kernel_rfl
      obtain rfl := Option.some.inj (hlit.symm.trans hoi)
      have r23 : b.tmps.getD 23 undef = (.int .i64 v0) := rd (hT.at 15 (by kernel_rfl) (pre_of hpre 15 (by kernel_rfl)))
      have q23 : b.tmps[23]?.getD undef = (.int .i64 v0) := (Array.getD_eq_getD_getElem? ..).symm.trans r23
      have r28 : b.tmps.getD 28 undef = (.int .i64 v1) := rd (hT.at 20 (by kernel_rfl) (pre_of hpre 20 (by kernel_rfl)))
      have q28 : b.tmps[28]?.getD undef = (.int .i64 v1) := (Array.getD_eq_getD_getElem? ..).symm.trans r28
      refine op_go hoi (want_all rfl) fun K hK => ?_
      clear hT hpre hlit hoi hdn
      go_simp
      exact hK _ _ ⟨(), fun _ _ => rfl, rfl, dc0, dc1, ec0, ec1, fc0, fc1, gc0, gc1, sc0, sc1, zs0, zs1, HB, szw, zp0, zp1, zq0, zq1, zr0, zr1, op, np, oq, nq, or, nr⟩
    · have hlit : (regOps Try.f82 1)[22]? = some ({ dst := some 30, op := Op.fieldAddr 23 (Operand.tmp 7) 0, type := 0, pos := "exact.go:41", after := #[{ on := 34, ground := Ground.gcOnly Departure.lateStores }], guard := none }) := by kernel_rfl
      obtain rfl := Option.some.inj (hlit.symm.trans hoi)
      have r7 : b.tmps.getD 7 undef = (.pointer (some ⟨kr, 0, none⟩)) := rd ((hT.old 7 (by kernel_rfl)).trans t7)
      refine op_go hoi (want_all rfl) fun K hK => ?_
      clear hT hpre hlit hoi hdn
      go_simp
      exact hK _ _ ⟨(), fun _ _ => rfl, rfl, dc0, dc1, ec0, ec1, fc0, fc1, gc0, gc1, sc0, sc1, zs0, zs1, HB, szw, zp0, zp1, zq0, zq1, zr0, zr1, op, np, oq, nq, or, nr⟩
    · have hlit : (regOps Try.f82 1)[23]? = some ({ dst := some 31, op := Op.load 3 (Operand.tmp 30), type := 3, pos := "exact.go:41", after := #[{ on := 22, ground := Ground.data }, { on := 34, ground := Ground.gcOnly Departure.lateStores }], guard := none }) := by kernel_rfl
      obtain rfl := Option.some.inj (hlit.symm.trans hoi)
      have r30 : b.tmps.getD 30 undef = (.pointer (some ⟨kr, 0, none⟩)) := rd (hT.at 22 (by kernel_rfl) (pre_of hpre 22 (by kernel_rfl)))
      have nl : L 35 = false := Down.not (fun h => (hdn.step (k := 26) (j := 23) (by kernel_rfl) (hdn.step (k := 32) (j := 26) (by kernel_rfl) (hdn.step (k := 35) (j := 32) (by kernel_rfl) h)))) hun
      obtain ⟨cr0, cr1⟩ := or nl
      refine op_go hoi (want_all rfl) fun K hK => ?_
      clear hT hpre hlit hoi hdn
      go_simp
      exact hK _ _ ⟨(), fun _ _ => rfl, rfl, dc0, dc1, ec0, ec1, fc0, fc1, gc0, gc1, sc0, sc1, zs0, zs1, HB, szw, zp0, zp1, zq0, zq1, zr0, zr1, op, np, oq, nq, or, nr⟩
    · have hlit : (regOps Try.f82 1)[24]? = some ({ dst := some 32, op := Op.fieldAddr 23 (Operand.tmp 3) 0, type := 0, pos := "exact.go:41", after := #[{ on := 34, ground := Ground.gcOnly Departure.lateStores }], guard := none }) := by kernel_rfl
      obtain rfl := Option.some.inj (hlit.symm.trans hoi)
      have r3 : b.tmps.getD 3 undef = (.pointer (some ⟨kd, 0, none⟩)) := rd ((hT.old 3 (by kernel_rfl)).trans t3)
      refine op_go hoi (want_all rfl) fun K hK => ?_
      clear hT hpre hlit hoi hdn
      go_simp
      exact hK _ _ ⟨(), fun _ _ => rfl, rfl, dc0, dc1, ec0, ec1, fc0, fc1, gc0, gc1, sc0, sc1, zs0, zs1, HB, szw, zp0, zp1, zq0, zq1, zr0, zr1, op, np, oq, nq, or, nr⟩
    · have hlit : (regOps Try.f82 1)[25]? = some ({ dst := some 33, op := Op.load 3 (Operand.tmp 32), type := 3, pos := "exact.go:41", after := #[{ on := 24, ground := Ground.data }, { on := 34, ground := Ground.gcOnly Departure.lateStores }], guard := none }) := by kernel_rfl
      obtain rfl := Option.some.inj (hlit.symm.trans hoi)
      have r32 : b.tmps.getD 32 undef = (.pointer (some ⟨kd, 0, none⟩)) := rd (hT.at 24 (by kernel_rfl) (pre_of hpre 24 (by kernel_rfl)))
      refine op_go hoi (want_all rfl) fun K hK => ?_
      clear hT hpre hlit hoi hdn
      go_simp
      exact hK _ _ ⟨(), fun _ _ => rfl, rfl, dc0, dc1, ec0, ec1, fc0, fc1, gc0, gc1, sc0, sc1, zs0, zs1, HB, szw, zp0, zp1, zq0, zq1, zr0, zr1, op, np, oq, nq, or, nr⟩
    · have hlit : (regOps Try.f82 1)[26]? = some ({ dst := some 34, op := Op.binOp BinOp.sub 3 (Operand.tmp 31) (Operand.tmp 33) 3, type := 3, pos := "exact.go:41", after := #[{ on := 23, ground := Ground.data }, { on := 25, ground := Ground.data }, { on := 34, ground := Ground.gcOnly Departure.lateStores }], guard := none }) := by kernel_rfl
      obtain rfl := Option.some.inj (hlit.symm.trans hoi)
      have r31 : b.tmps.getD 31 undef = (.int .i64 r0) := rd (hT.at 23 (by kernel_rfl) (pre_of hpre 23 (by kernel_rfl)))
      have r33 : b.tmps.getD 33 undef = (.int .i64 d0) := rd (hT.at 25 (by kernel_rfl) (pre_of hpre 25 (by kernel_rfl)))
      refine op_go hoi (want_all rfl) fun K hK => ?_
      clear hT hpre hlit hoi hdn
      go_simp
      exact hK _ _ ⟨(), fun _ _ => rfl, rfl, dc0, dc1, ec0, ec1, fc0, fc1, gc0, gc1, sc0, sc1, zs0, zs1, HB, szw, zp0, zp1, zq0, zq1, zr0, zr1, op, np, oq, nq, or, nr⟩
    · have hlit : (regOps Try.f82 1)[27]? = some ({ dst := some 35, op := Op.fieldAddr 23 (Operand.tmp 7) 1, type := 0, pos := "exact.go:41", after := #[{ on := 34, ground := Ground.gcOnly Departure.lateStores }], guard := none }) := by kernel_rfl
      obtain rfl := Option.some.inj (hlit.symm.trans hoi)
      have r7 : b.tmps.getD 7 undef = (.pointer (some ⟨kr, 0, none⟩)) := rd ((hT.old 7 (by kernel_rfl)).trans t7)
      refine op_go hoi (want_all rfl) fun K hK => ?_
      clear hT hpre hlit hoi hdn
      go_simp
      exact hK _ _ ⟨(), fun _ _ => rfl, rfl, dc0, dc1, ec0, ec1, fc0, fc1, gc0, gc1, sc0, sc1, zs0, zs1, HB, szw, zp0, zp1, zq0, zq1, zr0, zr1, op, np, oq, nq, or, nr⟩
    · have hlit : (regOps Try.f82 1)[28]? = some ({ dst := some 36, op := Op.load 3 (Operand.tmp 35), type := 3, pos := "exact.go:41", after := #[{ on := 27, ground := Ground.data }, { on := 34, ground := Ground.gcOnly Departure.lateStores }], guard := none }) := by kernel_rfl
      obtain rfl := Option.some.inj (hlit.symm.trans hoi)
      have r35 : b.tmps.getD 35 undef = (.pointer (some ⟨kr, 1, none⟩)) := rd (hT.at 27 (by kernel_rfl) (pre_of hpre 27 (by kernel_rfl)))
      have nl : L 35 = false := Down.not (fun h => (hdn.step (k := 31) (j := 28) (by kernel_rfl) (hdn.step (k := 32) (j := 31) (by kernel_rfl) (hdn.step (k := 35) (j := 32) (by kernel_rfl) h)))) hun
      obtain ⟨cr0, cr1⟩ := or nl
      refine op_go hoi (want_all rfl) fun K hK => ?_
      clear hT hpre hlit hoi hdn
      go_simp
      exact hK _ _ ⟨(), fun _ _ => rfl, rfl, dc0, dc1, ec0, ec1, fc0, fc1, gc0, gc1, sc0, sc1, zs0, zs1, HB, szw, zp0, zp1, zq0, zq1, zr0, zr1, op, np, oq, nq, or, nr⟩
    · have hlit : (regOps Try.f82 1)[29]? = some ({ dst := some 37, op := Op.fieldAddr 23 (Operand.tmp 3) 1, type := 0, pos := "exact.go:41", after := #[{ on := 34, ground := Ground.gcOnly Departure.lateStores }], guard := none }) := by kernel_rfl
      obtain rfl := Option.some.inj (hlit.symm.trans hoi)
      have r3 : b.tmps.getD 3 undef = (.pointer (some ⟨kd, 0, none⟩)) := rd ((hT.old 3 (by kernel_rfl)).trans t3)
      refine op_go hoi (want_all rfl) fun K hK => ?_
      clear hT hpre hlit hoi hdn
      go_simp
      exact hK _ _ ⟨(), fun _ _ => rfl, rfl, dc0, dc1, ec0, ec1, fc0, fc1, gc0, gc1, sc0, sc1, zs0, zs1, HB, szw, zp0, zp1, zq0, zq1, zr0, zr1, op, np, oq, nq, or, nr⟩
    · have hlit : (regOps Try.f82 1)[30]? = some ({ dst := some 38, op := Op.load 3 (Operand.tmp 37), type := 3, pos := "exact.go:41", after := #[{ on := 29, ground := Ground.data }, { on := 34, ground := Ground.gcOnly Departure.lateStores }], guard := none }) := by kernel_rfl
      obtain rfl := Option.some.inj (hlit.symm.trans hoi)
      have r37 : b.tmps.getD 37 undef = (.pointer (some ⟨kd, 1, none⟩)) := rd (hT.at 29 (by kernel_rfl) (pre_of hpre 29 (by kernel_rfl)))
      refine op_go hoi (want_all rfl) fun K hK => ?_
      clear hT hpre hlit hoi hdn
      go_simp
      exact hK _ _ ⟨(), fun _ _ => rfl, rfl, dc0, dc1, ec0, ec1, fc0, fc1, gc0, gc1, sc0, sc1, zs0, zs1, HB, szw, zp0, zp1, zq0, zq1, zr0, zr1, op, np, oq, nq, or, nr⟩
    · have hlit : (regOps Try.f82 1)[31]? = some ({ dst := some 39, op := Op.binOp BinOp.sub 3 (Operand.tmp 36) (Operand.tmp 38) 3, type := 3, pos := "exact.go:41", after := #[{ on := 28, ground := Ground.data }, { on := 30, ground := Ground.data }, { on := 34, ground := Ground.gcOnly Departure.lateStores }], guard := none }) := by kernel_rfl
      obtain rfl := Option.some.inj (hlit.symm.trans hoi)
      have r36 : b.tmps.getD 36 undef = (.int .i64 r1) := rd (hT.at 28 (by kernel_rfl) (pre_of hpre 28 (by kernel_rfl)))
      have r38 : b.tmps.getD 38 undef = (.int .i64 d1) := rd (hT.at 30 (by kernel_rfl) (pre_of hpre 30 (by kernel_rfl)))
      refine op_go hoi (want_all rfl) fun K hK => ?_
      clear hT hpre hlit hoi hdn
      go_simp
      exact hK _ _ ⟨(), fun _ _ => rfl, rfl, dc0, dc1, ec0, ec1, fc0, fc1, gc0, gc1, sc0, sc1, zs0, zs1, HB, szw, zp0, zp1, zq0, zq1, zr0, zr1, op, np, oq, nq, or, nr⟩
    · have hlit : (regOps Try.f82 1)[32]? = some ({ dst := some 40, op := Op.build 23 #[(0, Operand.tmp 34), (1, Operand.tmp 39)], type := 23, pos := "exact.go:41", after := #[{ on := 26, ground := Ground.data }, { on := 31, ground := Ground.data }, { on := 34, ground := Ground.gcOnly Departure.lateStores }], guard := none }) := by kernel_rfl
      obtain rfl := Option.some.inj (hlit.symm.trans hoi)
      have r34 : b.tmps.getD 34 undef = (.int .i64 x0) := rd (hT.at 26 (by kernel_rfl) (pre_of hpre 26 (by kernel_rfl)))
      have q34 : b.tmps[34]?.getD undef = (.int .i64 x0) := (Array.getD_eq_getD_getElem? ..).symm.trans r34
      have r39 : b.tmps.getD 39 undef = (.int .i64 x1) := rd (hT.at 31 (by kernel_rfl) (pre_of hpre 31 (by kernel_rfl)))
      have q39 : b.tmps[39]?.getD undef = (.int .i64 x1) := (Array.getD_eq_getD_getElem? ..).symm.trans r39
      refine op_go hoi (want_all rfl) fun K hK => ?_
      clear hT hpre hlit hoi hdn
      go_simp
      exact hK _ _ ⟨(), fun _ _ => rfl, rfl, dc0, dc1, ec0, ec1, fc0, fc1, gc0, gc1, sc0, sc1, zs0, zs1, HB, szw, zp0, zp1, zq0, zq1, zr0, zr1, op, np, oq, nq, or, nr⟩
    · have hlit : (regOps Try.f82 1)[33]? = some ({ dst := none, op := Op.store 23 (Operand.tmp 5) (Operand.tmp 18), type := 0, pos := "exact.go:41", after := #[{ on := 10, ground := Ground.data }, { on := 0, ground := Ground.phase }, { on := 1, ground := Ground.phase }, { on := 2, ground := Ground.phase }, { on := 3, ground := Ground.phase }, { on := 4, ground := Ground.phase }, { on := 5, ground := Ground.phase }, { on := 6, ground := Ground.phase }, { on := 7, ground := Ground.phase }, { on := 8, ground := Ground.phase }, { on := 9, ground := Ground.phase }, { on := 10, ground := Ground.phase }, { on := 11, ground := Ground.textOnly Departure.lateStores }, { on := 12, ground := Ground.textOnly Departure.lateStores }, { on := 13, ground := Ground.textOnly Departure.lateStores }, { on := 14, ground := Ground.textOnly Departure.lateStores }, { on := 15, ground := Ground.textOnly Departure.lateStores }, { on := 16, ground := Ground.textOnly Departure.lateStores }, { on := 17, ground := Ground.textOnly Departure.lateStores }, { on := 18, ground := Ground.textOnly Departure.lateStores }, { on := 19, ground := Ground.textOnly Departure.lateStores }, { on := 20, ground := Ground.textOnly Departure.lateStores }, { on := 21, ground := Ground.textOnly Departure.lateStores }, { on := 22, ground := Ground.textOnly Departure.lateStores }, { on := 23, ground := Ground.textOnly Departure.lateStores }, { on := 24, ground := Ground.textOnly Departure.lateStores }, { on := 25, ground := Ground.textOnly Departure.lateStores }, { on := 26, ground := Ground.textOnly Departure.lateStores }, { on := 27, ground := Ground.textOnly Departure.lateStores }, { on := 28, ground := Ground.textOnly Departure.lateStores }, { on := 29, ground := Ground.textOnly Departure.lateStores }, { on := 30, ground := Ground.textOnly Departure.lateStores }, { on := 31, ground := Ground.textOnly Departure.lateStores }, { on := 32, ground := Ground.textOnly Departure.lateStores }], guard := none }) := by kernel_rfl
      obtain rfl := Option.some.inj (hlit.symm.trans hoi)
      have r5 : b.tmps.getD 5 undef = (.pointer (some ⟨kp, 0, none⟩)) := rd ((hT.old 5 (by kernel_rfl)).trans t5)
      have r18 : b.tmps.getD 18 undef = (.agg #[.int .i64 u0, .int .i64 u1]) := rd (hT.at 10 (by kernel_rfl) (pre_of hpre 10 (by kernel_rfl)))
      obtain ⟨cp0, cp1⟩ := op hun
      refine op_go hoi (want_all rfl) fun K hK => ?_
      clear hT hpre hlit hoi hdn
      go_simp
      exact hK _ _ ⟨(), fun _ _ => rfl, rfl, so (so (dc0) nekdkp) nekdkp, so (so (dc1) nekdkp) nekdkp, so (so (ec0) nekekp) nekekp, so (so (ec1) nekekp) nekekp, so (so (fc0) nekfkp) nekfkp, so (so (fc1) nekfkp) nekfkp, so (so (gc0) nekgkp) nekgkp, so (so (gc1) nekgkp) nekgkp, so (so (sc0) nekskp) nekskp, so (so (sc1) nekskp) nekskp, sf (sf (zs0)), sf (sf (zs1)), bs (bs (HB) gep _) gep _, sz (sz (szw)), sf (sf (zp0)), sf (sf (zp1)), sf (sf (zq0)), sf (sf (zq1)), sf (sf (zr0)), sf (sf (zr1)), fun h => (by cases h), fun _ => ⟨sb (ss (cp0)) (by decide), ss (sb (cp1) (by decide))⟩, fun h => (by obtain ⟨x0, x1⟩ := oq h; exact ⟨so (so (x0) nekqkp) nekqkp, so (so (x1) nekqkp) nekqkp⟩), fun h => (by obtain ⟨x0, x1⟩ := nq h; exact ⟨so (so (x0) nekqkp) nekqkp, so (so (x1) nekqkp) nekqkp⟩), fun h => (by obtain ⟨x0, x1⟩ := or h; exact ⟨so (so (x0) nekrkp) nekrkp, so (so (x1) nekrkp) nekrkp⟩), fun h => (by obtain ⟨x0, x1⟩ := nr h; exact ⟨so (so (x0) nekrkp) nekrkp, so (so (x1) nekrkp) nekrkp⟩)⟩
    · have hlit : (regOps Try.f82 1)[34]? = some ({ dst := none, op := Op.store 23 (Operand.tmp 6) (Operand.tmp 29), type := 0, pos := "exact.go:41", after := #[{ on := 21, ground := Ground.data }, { on := 33, ground := Ground.chain }, { on := 0, ground := Ground.phase }, { on := 1, ground := Ground.phase }, { on := 2, ground := Ground.phase }, { on := 3, ground := Ground.phase }, { on := 4, ground := Ground.phase }, { on := 5, ground := Ground.phase }, { on := 6, ground := Ground.phase }, { on := 7, ground := Ground.phase }, { on := 8, ground := Ground.phase }, { on := 9, ground := Ground.phase }, { on := 10, ground := Ground.phase }, { on := 11, ground := Ground.phase }, { on := 12, ground := Ground.phase }, { on := 13, ground := Ground.phase }, { on := 14, ground := Ground.phase }, { on := 15, ground := Ground.phase }, { on := 16, ground := Ground.phase }, { on := 17, ground := Ground.phase }, { on := 18, ground := Ground.phase }, { on := 19, ground := Ground.phase }, { on := 20, ground := Ground.phase }, { on := 21, ground := Ground.phase }, { on := 22, ground := Ground.textOnly Departure.lateStores }, { on := 23, ground := Ground.textOnly Departure.lateStores }, { on := 24, ground := Ground.textOnly Departure.lateStores }, { on := 25, ground := Ground.textOnly Departure.lateStores }, { on := 26, ground := Ground.textOnly Departure.lateStores }, { on := 27, ground := Ground.textOnly Departure.lateStores }, { on := 28, ground := Ground.textOnly Departure.lateStores }, { on := 29, ground := Ground.textOnly Departure.lateStores }, { on := 30, ground := Ground.textOnly Departure.lateStores }, { on := 31, ground := Ground.textOnly Departure.lateStores }, { on := 32, ground := Ground.textOnly Departure.lateStores }, { on := 33, ground := Ground.phase }], guard := none }) := by kernel_rfl
      obtain rfl := Option.some.inj (hlit.symm.trans hoi)
      have r6 : b.tmps.getD 6 undef = (.pointer (some ⟨kq, 0, none⟩)) := rd ((hT.old 6 (by kernel_rfl)).trans t6)
      have r29 : b.tmps.getD 29 undef = (.agg #[.int .i64 v0, .int .i64 v1]) := rd (hT.at 21 (by kernel_rfl) (pre_of hpre 21 (by kernel_rfl)))
      obtain ⟨cq0, cq1⟩ := oq hun
      refine op_go hoi (want_all rfl) fun K hK => ?_
      clear hT hpre hlit hoi hdn
      go_simp
      exact hK _ _ ⟨(), fun _ _ => rfl, rfl, so (so (dc0) nekdkq) nekdkq, so (so (dc1) nekdkq) nekdkq, so (so (ec0) nekekq) nekekq, so (so (ec1) nekekq) nekekq, so (so (fc0) nekfkq) nekfkq, so (so (fc1) nekfkq) nekfkq, so (so (gc0) nekgkq) nekgkq, so (so (gc1) nekgkq) nekgkq, so (so (sc0) nekskq) nekskq, so (so (sc1) nekskq) nekskq, sf (sf (zs0)), sf (sf (zs1)), bs (bs (HB) geq _) geq _, sz (sz (szw)), sf (sf (zp0)), sf (sf (zp1)), sf (sf (zq0)), sf (sf (zq1)), sf (sf (zr0)), sf (sf (zr1)), fun h => (by obtain ⟨x0, x1⟩ := op h; exact ⟨so (so (x0) nekpkq) nekpkq, so (so (x1) nekpkq) nekpkq⟩), fun h => (by obtain ⟨x0, x1⟩ := np h; exact ⟨so (so (x0) nekpkq) nekpkq, so (so (x1) nekpkq) nekpkq⟩), fun h => (by cases h), fun _ => ⟨sb (ss (cq0)) (by decide), ss (sb (cq1) (by decide))⟩, fun h => (by obtain ⟨x0, x1⟩ := or h; exact ⟨so (so (x0) nekrkq) nekrkq, so (so (x1) nekrkq) nekrkq⟩), fun h => (by obtain ⟨x0, x1⟩ := nr h; exact ⟨so (so (x0) nekrkq) nekrkq, so (so (x1) nekrkq) nekrkq⟩)⟩
    · have hlit : (regOps Try.f82 1)[35]? = some ({ dst := none, op := Op.store 23 (Operand.tmp 7) (Operand.tmp 40), type := 0, pos := "exact.go:41", after := #[{ on := 32, ground := Ground.data }, { on := 34, ground := Ground.chain }, { on := 0, ground := Ground.phase }, { on := 1, ground := Ground.phase }, { on := 2, ground := Ground.phase }, { on := 3, ground := Ground.phase }, { on := 4, ground := Ground.phase }, { on := 5, ground := Ground.phase }, { on := 6, ground := Ground.phase }, { on := 7, ground := Ground.phase }, { on := 8, ground := Ground.phase }, { on := 9, ground := Ground.phase }, { on := 10, ground := Ground.phase }, { on := 11, ground := Ground.phase }, { on := 12, ground := Ground.phase }, { on := 13, ground := Ground.phase }, { on := 14, ground := Ground.phase }, { on := 15, ground := Ground.phase }, { on := 16, ground := Ground.phase }, { on := 17, ground := Ground.phase }, { on := 18, ground := Ground.phase }, { on := 19, ground := Ground.phase }, { on := 20, ground := Ground.phase }, { on := 21, ground := Ground.phase }, { on := 22, ground := Ground.phase }, { on := 23, ground := Ground.phase }, { on := 24, ground := Ground.phase }, { on := 25, ground := Ground.phase }, { on := 26, ground := Ground.phase }, { on := 27, ground := Ground.phase }, { on := 28, ground := Ground.phase }, { on := 29, ground := Ground.phase }, { on := 30, ground := Ground.phase }, { on := 31, ground := Ground.phase }, { on := 32, ground := Ground.phase }, { on := 33, ground := Ground.phase }, { on := 34, ground := Ground.phase }], guard := none }) := by kernel_rfl
      obtain rfl := Option.some.inj (hlit.symm.trans hoi)
      have r7 : b.tmps.getD 7 undef = (.pointer (some ⟨kr, 0, none⟩)) := rd ((hT.old 7 (by kernel_rfl)).trans t7)
      have r40 : b.tmps.getD 40 undef = (.agg #[.int .i64 x0, .int .i64 x1]) := rd (hT.at 32 (by kernel_rfl) (pre_of hpre 32 (by kernel_rfl)))
      obtain ⟨cr0, cr1⟩ := or hun
      refine op_go hoi (want_all rfl) fun K hK => ?_
      clear hT hpre hlit hoi hdn
      go_simp
      exact hK _ _ ⟨(), fun _ _ => rfl, rfl, so (so (dc0) nekdkr) nekdkr, so (so (dc1) nekdkr) nekdkr, so (so (ec0) nekekr) nekekr, so (so (ec1) nekekr) nekekr, so (so (fc0) nekfkr) nekfkr, so (so (fc1) nekfkr) nekfkr, so (so (gc0) nekgkr) nekgkr, so (so (gc1) nekgkr) nekgkr, so (so (sc0) nekskr) nekskr, so (so (sc1) nekskr) nekskr, sf (sf (zs0)), sf (sf (zs1)), bs (bs (HB) ger _) ger _, sz (sz (szw)), sf (sf (zp0)), sf (sf (zp1)), sf (sf (zq0)), sf (sf (zq1)), sf (sf (zr0)), sf (sf (zr1)), fun h => (by obtain ⟨x0, x1⟩ := op h; exact ⟨so (so (x0) nekpkr) nekpkr, so (so (x1) nekpkr) nekpkr⟩), fun h => (by obtain ⟨x0, x1⟩ := np h; exact ⟨so (so (x0) nekpkr) nekpkr, so (so (x1) nekpkr) nekpkr⟩), fun h => (by obtain ⟨x0, x1⟩ := oq h; exact ⟨so (so (x0) nekqkr) nekqkr, so (so (x1) nekqkr) nekqkr⟩), fun h => (by obtain ⟨x0, x1⟩ := nq h; exact ⟨so (so (x0) nekqkr) nekqkr, so (so (x1) nekqkr) nekqkr⟩), fun h => (by cases h), fun _ => ⟨sb (ss (cr0)) (by decide), ss (sb (cr1) (by decide))⟩⟩
  · intro g b w' hT hS
    rw [hT.all ht]
    have hn : (regOps Try.f82 1).size = 36 := by kernel_rfl
    rw [hn] at hS ⊢
    obtain ⟨dc0, dc1, ec0, ec1, fc0, fc1, gc0, gc1, sc0, sc1, zs0, zs1, HB, szw, zp0, zp1, zq0, zq1, zr0, zr1, op, np, oq, nq, or, nr⟩ := hS
    obtain ⟨cp0, cp1⟩ := np rfl
    obtain ⟨cq0, cq1⟩ := nq rfl
    obtain ⟨cr0, cr1⟩ := nr rfl
    exact he w' ⟨dc0, dc1, ec0, ec1, fc0, fc1, gc0, gc1, sc0, sc1, zs0, zs1, HB⟩ ⟨zp0, zp1, zq0, zq1, zr0, zr1, cp0, cp1, cq0, cq1, cr0, cr1⟩

/-- What each operation of the region leaves. -/
def region82bV (u0 u1 v0 v1 x0 x1 s a1 a2 b1 b2 m n : Int) (kp kq kr : Nat) : Nat → Value
  | 0 => .agg #[.int .i64 (hiW s), .int .u64 (loW s)]
  | 1 => .pointer (some ⟨kp, 0, none⟩)
  | 2 => .int .i64 u0
  | 3 => .pointer (some ⟨kp, 0, none⟩)
  | 4 => .int .i64 u0
  | 5 => .int .i64 a1
  | 6 => .pointer (some ⟨kp, 1, none⟩)
  | 7 => .int .i64 u1
  | 8 => .pointer (some ⟨kp, 1, none⟩)
  | 9 => .int .i64 u1
  | 10 => .int .i64 a2
  | 11 => .int .i64 m
  | 12 => .pointer (some ⟨kq, 0, none⟩)
  | 13 => .int .i64 v0
  | 14 => .pointer (some ⟨kr, 1, none⟩)
  | 15 => .int .i64 x1
  | 16 => .int .i64 b1
  | 17 => .pointer (some ⟨kq, 1, none⟩)
  | 18 => .int .i64 v1
  | 19 => .pointer (some ⟨kr, 0, none⟩)
  | 20 => .int .i64 x0
  | 21 => .int .i64 b2
  | 22 => .int .i64 n
  | 23 => .agg #[.int .i64 (hiW (m * n)), .int .u64 (loW (m * n))]
  | 24 => .tuple #[.agg #[.int .i64 (hiW (s + m * n)), .int .u64 (loW (s + m * n))], .bool true]
  | 25 => .tuple #[.agg #[.int .i64 (hiW (s + m * n)), .int .u64 (loW (s + m * n))], .bool true]
  | 26 => .agg #[.int .i64 (hiW (s + m * n)), .int .u64 (loW (s + m * n))]
  | 27 => .bool true
  | 28 => undef
  | _ => undef

set_option maxHeartbeats 4000000 in
set_option maxRecDepth 100000 in
theorem region82b (u0 u1 v0 v1 x0 x1 d0 d1 e0 e1 f0 f1 g0 g1 s a1 a2 b1 b2 m n : Int) (kp kq kr kd ke kf kg ks : Nat) (W : World) (eq1 : IntKind.i64.wrap (u0 * u0) = a1) (eq2 : IntKind.i64.wrap (u1 * u1) = a2) (eq3 : IntKind.i64.wrap (a1 + a2) = m) (eq4 : IntKind.i64.wrap (v0 * x1) = b1) (eq5 : IntKind.i64.wrap (v1 * x0) = b2) (eq6 : IntKind.i64.wrap (b1 - b2) = n) (hm : ∀ w : World, Calls Try.prog 79 #[.int .i64 m, .int .i64 n] w fun e w' => e = .returned (.agg #[.int .i64 (hiW (m * n)), .int .u64 (loW (m * n))]) ∧ Below w.heap.size w w') (ha : ∀ w : World, Calls Try.prog 83 #[.agg #[.int .i64 (hiW s), .int .u64 (loW s)], .agg #[.int .i64 (hiW (m * n)), .int .u64 (loW (m * n))]] w fun e w' => e = .returned (.tuple #[.agg #[.int .i64 (hiW (s + m * n)), .int .u64 (loW (s + m * n))], .bool true]) ∧ Below w.heap.size w w') (nekpks : ¬ kp = ks) (nekqks : ¬ kq = ks) (nekrks : ¬ kr = ks) (nekdks : ¬ kd = ks) (nekeks : ¬ ke = ks) (nekfks : ¬ kf = ks) (nekgks : ¬ kg = ks) {id : Nat} {ops : Array Oper} {Q : Exit → Act → World → Prop} {a : Act} {w : World}
    (ho : ops = (regOps Try.f82 2)) (hsz : a.tmps.size = 69) (t4 : a.tmps[4]? = some (.pointer (some ⟨ks, 0, none⟩))) (t5 : a.tmps[5]? = some (.pointer (some ⟨kp, 0, none⟩))) (t6 : a.tmps[6]? = some (.pointer (some ⟨kq, 0, none⟩))) (t7 : a.tmps[7]? = some (.pointer (some ⟨kr, 0, none⟩))) (ges : W.heap.size ≤ ks)
    (h0 : w.cell? ⟨kd, 0, none⟩ = some (.int .i64 d0) ∧ w.cell? ⟨kd, 1, none⟩ = some (.int .i64 d1) ∧ w.cell? ⟨ke, 0, none⟩ = some (.int .i64 e0) ∧ w.cell? ⟨ke, 1, none⟩ = some (.int .i64 e1) ∧ w.cell? ⟨kf, 0, none⟩ = some (.int .i64 f0) ∧ w.cell? ⟨kf, 1, none⟩ = some (.int .i64 f1) ∧ w.cell? ⟨kg, 0, none⟩ = some (.int .i64 g0) ∧ w.cell? ⟨kg, 1, none⟩ = some (.int .i64 g1) ∧ w.cell? ⟨kp, 0, none⟩ = some (.int .i64 u0) ∧ w.cell? ⟨kp, 1, none⟩ = some (.int .i64 u1) ∧ w.cell? ⟨kq, 0, none⟩ = some (.int .i64 v0) ∧ w.cell? ⟨kq, 1, none⟩ = some (.int .i64 v1) ∧ w.cell? ⟨kr, 0, none⟩ = some (.int .i64 x0) ∧ w.cell? ⟨kr, 1, none⟩ = some (.int .i64 x1) ∧ Below W.heap.size W w) (hs0 : w.frozen? ⟨ks, 0, none⟩ = false ∧ w.frozen? ⟨ks, 1, none⟩ = false ∧ w.cell? ⟨ks, 0, none⟩ = some (.int .i64 (hiW s)) ∧ w.cell? ⟨ks, 1, none⟩ = some (.int .u64 (loW s)))
    (he : ∀ w', w'.cell? ⟨kd, 0, none⟩ = some (.int .i64 d0) ∧ w'.cell? ⟨kd, 1, none⟩ = some (.int .i64 d1) ∧ w'.cell? ⟨ke, 0, none⟩ = some (.int .i64 e0) ∧ w'.cell? ⟨ke, 1, none⟩ = some (.int .i64 e1) ∧ w'.cell? ⟨kf, 0, none⟩ = some (.int .i64 f0) ∧ w'.cell? ⟨kf, 1, none⟩ = some (.int .i64 f1) ∧ w'.cell? ⟨kg, 0, none⟩ = some (.int .i64 g0) ∧ w'.cell? ⟨kg, 1, none⟩ = some (.int .i64 g1) ∧ w'.cell? ⟨kp, 0, none⟩ = some (.int .i64 u0) ∧ w'.cell? ⟨kp, 1, none⟩ = some (.int .i64 u1) ∧ w'.cell? ⟨kq, 0, none⟩ = some (.int .i64 v0) ∧ w'.cell? ⟨kq, 1, none⟩ = some (.int .i64 v1) ∧ w'.cell? ⟨kr, 0, none⟩ = some (.int .i64 x0) ∧ w'.cell? ⟨kr, 1, none⟩ = some (.int .i64 x1) ∧ Below W.heap.size W w' → w'.frozen? ⟨ks, 0, none⟩ = false ∧ w'.frozen? ⟨ks, 1, none⟩ = false ∧ w'.cell? ⟨ks, 0, none⟩ = some (.int .i64 (hiW (s + m * n))) ∧ w'.cell? ⟨ks, 1, none⟩ = some (.int .u64 (loW (s + m * n))) → Q .normal ⟨((((((((((((((((((((((((((((a.tmps.setIfInBounds 42 (.agg #[.int .i64 (hiW s), .int .u64 (loW s)])).setIfInBounds 43 (.pointer (some ⟨kp, 0, none⟩))).setIfInBounds 44 (.int .i64 u0)).setIfInBounds 45 (.pointer (some ⟨kp, 0, none⟩))).setIfInBounds 46 (.int .i64 u0)).setIfInBounds 47 (.int .i64 a1)).setIfInBounds 48 (.pointer (some ⟨kp, 1, none⟩))).setIfInBounds 49 (.int .i64 u1)).setIfInBounds 50 (.pointer (some ⟨kp, 1, none⟩))).setIfInBounds 51 (.int .i64 u1)).setIfInBounds 52 (.int .i64 a2)).setIfInBounds 53 (.int .i64 m)).setIfInBounds 54 (.pointer (some ⟨kq, 0, none⟩))).setIfInBounds 55 (.int .i64 v0)).setIfInBounds 56 (.pointer (some ⟨kr, 1, none⟩))).setIfInBounds 57 (.int .i64 x1)).setIfInBounds 58 (.int .i64 b1)).setIfInBounds 59 (.pointer (some ⟨kq, 1, none⟩))).setIfInBounds 60 (.int .i64 v1)).setIfInBounds 61 (.pointer (some ⟨kr, 0, none⟩))).setIfInBounds 62 (.int .i64 x0)).setIfInBounds 63 (.int .i64 b2)).setIfInBounds 64 (.int .i64 n)).setIfInBounds 65 (.agg #[.int .i64 (hiW (m * n)), .int .u64 (loW (m * n))])).setIfInBounds 66 (.tuple #[.agg #[.int .i64 (hiW (s + m * n)), .int .u64 (loW (s + m * n))], .bool true])).setIfInBounds 41 (.tuple #[.agg #[.int .i64 (hiW (s + m * n)), .int .u64 (loW (s + m * n))], .bool true])).setIfInBounds 67 (.agg #[.int .i64 (hiW (s + m * n)), .int .u64 (loW (s + m * n))])).setIfInBounds 68 (.bool true)), a.defers⟩ w') :
    (Code.region id ops true).wp Try.prog Q a w := by
  have ht : tidy (regOps Try.f82 2) a.tmps.size = true := by rw [hsz]; kernel_rfl
  obtain ⟨dc0, dc1, ec0, ec1, fc0, fc1, gc0, gc1, pc0, pc1, qc0, qc1, rc0, rc1, HB0⟩ := h0
  obtain ⟨zs0, zs1, cs0, cs1⟩ := hs0
  have lts := World.block_lt_of_cell? w _ cs0
  refine region_tab2 (G := Unit) (fun _ => (region82bV u0 u1 v0 v1 x0 x1 s a1 a2 b1 b2 m n kp kq kr)) (fun _ L w' => w'.cell? ⟨kd, 0, none⟩ = some (.int .i64 d0) ∧ w'.cell? ⟨kd, 1, none⟩ = some (.int .i64 d1) ∧ w'.cell? ⟨ke, 0, none⟩ = some (.int .i64 e0) ∧ w'.cell? ⟨ke, 1, none⟩ = some (.int .i64 e1) ∧ w'.cell? ⟨kf, 0, none⟩ = some (.int .i64 f0) ∧ w'.cell? ⟨kf, 1, none⟩ = some (.int .i64 f1) ∧ w'.cell? ⟨kg, 0, none⟩ = some (.int .i64 g0) ∧ w'.cell? ⟨kg, 1, none⟩ = some (.int .i64 g1) ∧ w'.cell? ⟨kp, 0, none⟩ = some (.int .i64 u0) ∧ w'.cell? ⟨kp, 1, none⟩ = some (.int .i64 u1) ∧ w'.cell? ⟨kq, 0, none⟩ = some (.int .i64 v0) ∧ w'.cell? ⟨kq, 1, none⟩ = some (.int .i64 v1) ∧ w'.cell? ⟨kr, 0, none⟩ = some (.int .i64 x0) ∧ w'.cell? ⟨kr, 1, none⟩ = some (.int .i64 x1) ∧ Below W.heap.size W w' ∧ w.heap.size ≤ w'.heap.size ∧ w'.frozen? ⟨ks, 0, none⟩ = false ∧ w'.frozen? ⟨ks, 1, none⟩ = false ∧ (L 28 = false → w'.cell? ⟨ks, 0, none⟩ = some (.int .i64 (hiW s)) ∧ w'.cell? ⟨ks, 1, none⟩ = some (.int .u64 (loW s))) ∧ (L 28 = true → w'.cell? ⟨ks, 0, none⟩ = some (.int .i64 (hiW (s + m * n))) ∧ w'.cell? ⟨ks, 1, none⟩ = some (.int .u64 (loW (s + m * n))))) () (by kernel_rfl) ho ht ⟨dc0, dc1, ec0, ec1, fc0, fc1, gc0, gc1, pc0, pc1, qc0, qc1, rc0, rc1, bd HB0, Nat.le_refl _, zs0, zs1, fun _ => ⟨cs0, cs1⟩, fun h => (by cases h)⟩ ?_ ?_
  · intro i o hoi g L b w' hun hdn hpre hT hS
    clear he dc0 dc1 ec0 ec1 fc0 fc1 gc0 gc1 pc0 pc1 qc0 qc1 rc0 rc1 cs0 cs1 zs0 zs1 ho hsz ht HB0
    have hi : i < (regOps Try.f82 2).size := (Array.getElem?_eq_some_iff.1 hoi).1
    rw [show (regOps Try.f82 2).size = 29 by kernel_rfl] at hi
    obtain ⟨dc0, dc1, ec0, ec1, fc0, fc1, gc0, gc1, pc0, pc1, qc0, qc1, rc0, rc1, HB, szw, zs0, zs1, os, ns⟩ := hS
    have hcases : i = 0 ∨ i = 1 ∨ i = 2 ∨ i = 3 ∨ i = 4 ∨ i = 5 ∨ i = 6 ∨ i = 7 ∨ i = 8 ∨ i = 9 ∨ i = 10 ∨ i = 11 ∨ i = 12 ∨ i = 13 ∨ i = 14 ∨ i = 15 ∨ i = 16 ∨ i = 17 ∨ i = 18 ∨ i = 19 ∨ i = 20 ∨ i = 21 ∨ i = 22 ∨ i = 23 ∨ i = 24 ∨ i = 25 ∨ i = 26 ∨ i = 27 ∨ i = 28 := by omega
    rcases hcases with rfl | rfl | rfl | rfl | rfl | rfl | rfl | rfl | rfl | rfl | rfl | rfl | rfl | rfl | rfl | rfl | rfl | rfl | rfl | rfl | rfl | rfl | rfl | rfl | rfl | rfl | rfl | rfl | rfl
    · have hlit : (regOps Try.f82 2)[0]? = some ({ dst := some 42, op := Op.load 81 (Operand.tmp 4), type := 81, pos := "exact.go:42", after := #[], guard := none }) := by kernel_rfl
      obtain rfl := Option.some.inj (hlit.symm.trans hoi)
      have r4 : b.tmps.getD 4 undef = (.pointer (some ⟨ks, 0, none⟩)) := rd ((hT.old 4 (by kernel_rfl)).trans t4)
      have nl : L 28 = false := Down.not (fun h => (hdn.step (k := 24) (j := 0) (by kernel_rfl) (hdn.step (k := 28) (j := 24) (by kernel_rfl) h))) hun
      obtain ⟨cs0, cs1⟩ := os nl
      refine op_go hoi (want_all rfl) fun K hK => ?_
      clear hT hpre hlit hoi hdn
      go_simp
      exact hK _ _ ⟨(), fun _ _ => rfl, rfl, dc0, dc1, ec0, ec1, fc0, fc1, gc0, gc1, pc0, pc1, qc0, qc1, rc0, rc1, HB, szw, zs0, zs1, os, ns⟩
    · have hlit : (regOps Try.f82 2)[1]? = some ({ dst := some 43, op := Op.fieldAddr 23 (Operand.tmp 5) 0, type := 0, pos := "exact.go:42", after := #[], guard := none }) := by kernel_rfl
      obtain rfl := Option.some.inj (hlit.symm.trans hoi)
      have r5 : b.tmps.getD 5 undef = (.pointer (some ⟨kp, 0, none⟩)) := rd ((hT.old 5 (by kernel_rfl)).trans t5)
      refine op_go hoi (want_all rfl) fun K hK => ?_
      clear hT hpre hlit hoi hdn
      go_simp
      exact hK _ _ ⟨(), fun _ _ => rfl, rfl, dc0, dc1, ec0, ec1, fc0, fc1, gc0, gc1, pc0, pc1, qc0, qc1, rc0, rc1, HB, szw, zs0, zs1, os, ns⟩
    · have hlit : (regOps Try.f82 2)[2]? = some ({ dst := some 44, op := Op.load 3 (Operand.tmp 43), type := 3, pos := "exact.go:42", after := #[{ on := 1, ground := Ground.data }], guard := none }) := by kernel_rfl
      obtain rfl := Option.some.inj (hlit.symm.trans hoi)
      have r43 : b.tmps.getD 43 undef = (.pointer (some ⟨kp, 0, none⟩)) := rd (hT.at 1 (by kernel_rfl) (pre_of hpre 1 (by kernel_rfl)))
      refine op_go hoi (want_all rfl) fun K hK => ?_
      clear hT hpre hlit hoi hdn
      go_simp
      exact hK _ _ ⟨(), fun _ _ => rfl, rfl, dc0, dc1, ec0, ec1, fc0, fc1, gc0, gc1, pc0, pc1, qc0, qc1, rc0, rc1, HB, szw, zs0, zs1, os, ns⟩
    · have hlit : (regOps Try.f82 2)[3]? = some ({ dst := some 45, op := Op.fieldAddr 23 (Operand.tmp 5) 0, type := 0, pos := "exact.go:42", after := #[], guard := none }) := by kernel_rfl
      obtain rfl := Option.some.inj (hlit.symm.trans hoi)
      have r5 : b.tmps.getD 5 undef = (.pointer (some ⟨kp, 0, none⟩)) := rd ((hT.old 5 (by kernel_rfl)).trans t5)
      refine op_go hoi (want_all rfl) fun K hK => ?_
      clear hT hpre hlit hoi hdn
      go_simp
      exact hK _ _ ⟨(), fun _ _ => rfl, rfl, dc0, dc1, ec0, ec1, fc0, fc1, gc0, gc1, pc0, pc1, qc0, qc1, rc0, rc1, HB, szw, zs0, zs1, os, ns⟩
    · have hlit : (regOps Try.f82 2)[4]? = some ({ dst := some 46, op := Op.load 3 (Operand.tmp 45), type := 3, pos := "exact.go:42", after := #[{ on := 3, ground := Ground.data }], guard := none }) := by kernel_rfl
      obtain rfl := Option.some.inj (hlit.symm.trans hoi)
      have r45 : b.tmps.getD 45 undef = (.pointer (some ⟨kp, 0, none⟩)) := rd (hT.at 3 (by kernel_rfl) (pre_of hpre 3 (by kernel_rfl)))
      refine op_go hoi (want_all rfl) fun K hK => ?_
      clear hT hpre hlit hoi hdn
      go_simp
      exact hK _ _ ⟨(), fun _ _ => rfl, rfl, dc0, dc1, ec0, ec1, fc0, fc1, gc0, gc1, pc0, pc1, qc0, qc1, rc0, rc1, HB, szw, zs0, zs1, os, ns⟩
    · have hlit : (regOps Try.f82 2)[5]? = some ({ dst := some 47, op := Op.binOp BinOp.mul 3 (Operand.tmp 44) (Operand.tmp 46) 3, type := 3, pos := "exact.go:42", after := #[{ on := 2, ground := Ground.data }, { on := 4, ground := Ground.data }], guard := none }) := by kernel_rfl
      obtain rfl := Option.some.inj (hlit.symm.trans hoi)
      have r44 : b.tmps.getD 44 undef = (.int .i64 u0) := rd (hT.at 2 (by kernel_rfl) (pre_of hpre 2 (by kernel_rfl)))
      have r46 : b.tmps.getD 46 undef = (.int .i64 u0) := rd (hT.at 4 (by kernel_rfl) (pre_of hpre 4 (by kernel_rfl)))
      refine op_go hoi (want_all rfl) fun K hK => ?_
      clear hT hpre hlit hoi hdn
      go_simp
      exact hK _ _ ⟨(), fun _ _ => rfl, rfl, dc0, dc1, ec0, ec1, fc0, fc1, gc0, gc1, pc0, pc1, qc0, qc1, rc0, rc1, HB, szw, zs0, zs1, os, ns⟩
    · have hlit : (regOps Try.f82 2)[6]? = some ({ dst := some 48, op := Op.fieldAddr 23 (Operand.tmp 5) 1, type := 0, pos := "exact.go:42", after := #[], guard := none }) := by kernel_rfl
      obtain rfl := Option.some.inj (hlit.symm.trans hoi)
      have r5 : b.tmps.getD 5 undef = (.pointer (some ⟨kp, 0, none⟩)) := rd ((hT.old 5 (by kernel_rfl)).trans t5)
      refine op_go hoi (want_all rfl) fun K hK => ?_
      clear hT hpre hlit hoi hdn
      go_simp
      exact hK _ _ ⟨(), fun _ _ => rfl, rfl, dc0, dc1, ec0, ec1, fc0, fc1, gc0, gc1, pc0, pc1, qc0, qc1, rc0, rc1, HB, szw, zs0, zs1, os, ns⟩
    · have hlit : (regOps Try.f82 2)[7]? = some ({ dst := some 49, op := Op.load 3 (Operand.tmp 48), type := 3, pos := "exact.go:42", after := #[{ on := 6, ground := Ground.data }], guard := none }) := by kernel_rfl
      obtain rfl := Option.some.inj (hlit.symm.trans hoi)
      have r48 : b.tmps.getD 48 undef = (.pointer (some ⟨kp, 1, none⟩)) := rd (hT.at 6 (by kernel_rfl) (pre_of hpre 6 (by kernel_rfl)))
      refine op_go hoi (want_all rfl) fun K hK => ?_
      clear hT hpre hlit hoi hdn
      go_simp
      exact hK _ _ ⟨(), fun _ _ => rfl, rfl, dc0, dc1, ec0, ec1, fc0, fc1, gc0, gc1, pc0, pc1, qc0, qc1, rc0, rc1, HB, szw, zs0, zs1, os, ns⟩
    · have hlit : (regOps Try.f82 2)[8]? = some ({ dst := some 50, op := Op.fieldAddr 23 (Operand.tmp 5) 1, type := 0, pos := "exact.go:42", after := #[], guard := none }) := by kernel_rfl
      obtain rfl := Option.some.inj (hlit.symm.trans hoi)
      have r5 : b.tmps.getD 5 undef = (.pointer (some ⟨kp, 0, none⟩)) := rd ((hT.old 5 (by kernel_rfl)).trans t5)
      refine op_go hoi (want_all rfl) fun K hK => ?_
      clear hT hpre hlit hoi hdn
      go_simp
      exact hK _ _ ⟨(), fun _ _ => rfl, rfl, dc0, dc1, ec0, ec1, fc0, fc1, gc0, gc1, pc0, pc1, qc0, qc1, rc0, rc1, HB, szw, zs0, zs1, os, ns⟩
    · have hlit : (regOps Try.f82 2)[9]? = some ({ dst := some 51, op := Op.load 3 (Operand.tmp 50), type := 3, pos := "exact.go:42", after := #[{ on := 8, ground := Ground.data }], guard := none }) := by kernel_rfl
      obtain rfl := Option.some.inj (hlit.symm.trans hoi)
      have r50 : b.tmps.getD 50 undef = (.pointer (some ⟨kp, 1, none⟩)) := rd (hT.at 8 (by kernel_rfl) (pre_of hpre 8 (by kernel_rfl)))
      refine op_go hoi (want_all rfl) fun K hK => ?_
      clear hT hpre hlit hoi hdn
      go_simp
      exact hK _ _ ⟨(), fun _ _ => rfl, rfl, dc0, dc1, ec0, ec1, fc0, fc1, gc0, gc1, pc0, pc1, qc0, qc1, rc0, rc1, HB, szw, zs0, zs1, os, ns⟩
    · have hlit : (regOps Try.f82 2)[10]? = some ({ dst := some 52, op := Op.binOp BinOp.mul 3 (Operand.tmp 49) (Operand.tmp 51) 3, type := 3, pos := "exact.go:42", after := #[{ on := 7, ground := Ground.data }, { on := 9, ground := Ground.data }], guard := none }) := by kernel_rfl
      obtain rfl := Option.some.inj (hlit.symm.trans hoi)
      have r49 : b.tmps.getD 49 undef = (.int .i64 u1) := rd (hT.at 7 (by kernel_rfl) (pre_of hpre 7 (by kernel_rfl)))
      have r51 : b.tmps.getD 51 undef = (.int .i64 u1) := rd (hT.at 9 (by kernel_rfl) (pre_of hpre 9 (by kernel_rfl)))
      refine op_go hoi (want_all rfl) fun K hK => ?_
      clear hT hpre hlit hoi hdn
      go_simp
      exact hK _ _ ⟨(), fun _ _ => rfl, rfl, dc0, dc1, ec0, ec1, fc0, fc1, gc0, gc1, pc0, pc1, qc0, qc1, rc0, rc1, HB, szw, zs0, zs1, os, ns⟩
    · have hlit : (regOps Try.f82 2)[11]? = some ({ dst := some 53, op := Op.binOp BinOp.add 3 (Operand.tmp 47) (Operand.tmp 52) 3, type := 3, pos := "exact.go:42", after := #[{ on := 5, ground := Ground.data }, { on := 10, ground := Ground.data }], guard := none }) := by kernel_rfl
      obtain rfl := Option.some.inj (hlit.symm.trans hoi)
      have r47 : b.tmps.getD 47 undef = (.int .i64 a1) := rd (hT.at 5 (by kernel_rfl) (pre_of hpre 5 (by kernel_rfl)))
      have r52 : b.tmps.getD 52 undef = (.int .i64 a2) := rd (hT.at 10 (by kernel_rfl) (pre_of hpre 10 (by kernel_rfl)))
      refine op_go hoi (want_all rfl) fun K hK => ?_
      clear hT hpre hlit hoi hdn
      go_simp
      exact hK _ _ ⟨(), fun _ _ => rfl, rfl, dc0, dc1, ec0, ec1, fc0, fc1, gc0, gc1, pc0, pc1, qc0, qc1, rc0, rc1, HB, szw, zs0, zs1, os, ns⟩
    · have hlit : (regOps Try.f82 2)[12]? = some ({ dst := some 54, op := Op.fieldAddr 23 (Operand.tmp 6) 0, type := 0, pos := "exact.go:42", after := #[], guard := none }) := by kernel_rfl
      obtain rfl := Option.some.inj (hlit.symm.trans hoi)
      have r6 : b.tmps.getD 6 undef = (.pointer (some ⟨kq, 0, none⟩)) := rd ((hT.old 6 (by kernel_rfl)).trans t6)
      refine op_go hoi (want_all rfl) fun K hK => ?_
      clear hT hpre hlit hoi hdn
      go_simp
      exact hK _ _ ⟨(), fun _ _ => rfl, rfl, dc0, dc1, ec0, ec1, fc0, fc1, gc0, gc1, pc0, pc1, qc0, qc1, rc0, rc1, HB, szw, zs0, zs1, os, ns⟩
    · have hlit : (regOps Try.f82 2)[13]? = some ({ dst := some 55, op := Op.load 3 (Operand.tmp 54), type := 3, pos := "exact.go:42", after := #[{ on := 12, ground := Ground.data }], guard := none }) := by kernel_rfl
      obtain rfl := Option.some.inj (hlit.symm.trans hoi)
      have r54 : b.tmps.getD 54 undef = (.pointer (some ⟨kq, 0, none⟩)) := rd (hT.at 12 (by kernel_rfl) (pre_of hpre 12 (by kernel_rfl)))
      refine op_go hoi (want_all rfl) fun K hK => ?_
      clear hT hpre hlit hoi hdn
      go_simp
      exact hK _ _ ⟨(), fun _ _ => rfl, rfl, dc0, dc1, ec0, ec1, fc0, fc1, gc0, gc1, pc0, pc1, qc0, qc1, rc0, rc1, HB, szw, zs0, zs1, os, ns⟩
    · have hlit : (regOps Try.f82 2)[14]? = some ({ dst := some 56, op := Op.fieldAddr 23 (Operand.tmp 7) 1, type := 0, pos := "exact.go:42", after := #[], guard := none }) := by kernel_rfl
      obtain rfl := Option.some.inj (hlit.symm.trans hoi)
      have r7 : b.tmps.getD 7 undef = (.pointer (some ⟨kr, 0, none⟩)) := rd ((hT.old 7 (by kernel_rfl)).trans t7)
      refine op_go hoi (want_all rfl) fun K hK => ?_
      clear hT hpre hlit hoi hdn
      go_simp
      exact hK _ _ ⟨(), fun _ _ => rfl, rfl, dc0, dc1, ec0, ec1, fc0, fc1, gc0, gc1, pc0, pc1, qc0, qc1, rc0, rc1, HB, szw, zs0, zs1, os, ns⟩
    · have hlit : (regOps Try.f82 2)[15]? = some ({ dst := some 57, op := Op.load 3 (Operand.tmp 56), type := 3, pos := "exact.go:42", after := #[{ on := 14, ground := Ground.data }], guard := none }) := by kernel_rfl
      obtain rfl := Option.some.inj (hlit.symm.trans hoi)
      have r56 : b.tmps.getD 56 undef = (.pointer (some ⟨kr, 1, none⟩)) := rd (hT.at 14 (by kernel_rfl) (pre_of hpre 14 (by kernel_rfl)))
      refine op_go hoi (want_all rfl) fun K hK => ?_
      clear hT hpre hlit hoi hdn
      go_simp
      exact hK _ _ ⟨(), fun _ _ => rfl, rfl, dc0, dc1, ec0, ec1, fc0, fc1, gc0, gc1, pc0, pc1, qc0, qc1, rc0, rc1, HB, szw, zs0, zs1, os, ns⟩
    · have hlit : (regOps Try.f82 2)[16]? = some ({ dst := some 58, op := Op.binOp BinOp.mul 3 (Operand.tmp 55) (Operand.tmp 57) 3, type := 3, pos := "exact.go:42", after := #[{ on := 13, ground := Ground.data }, { on := 15, ground := Ground.data }], guard := none }) := by kernel_rfl
      obtain rfl := Option.some.inj (hlit.symm.trans hoi)
      have r55 : b.tmps.getD 55 undef = (.int .i64 v0) := rd (hT.at 13 (by kernel_rfl) (pre_of hpre 13 (by kernel_rfl)))
      have r57 : b.tmps.getD 57 undef = (.int .i64 x1) := rd (hT.at 15 (by kernel_rfl) (pre_of hpre 15 (by kernel_rfl)))
      refine op_go hoi (want_all rfl) fun K hK => ?_
      clear hT hpre hlit hoi hdn
      go_simp
      exact hK _ _ ⟨(), fun _ _ => rfl, rfl, dc0, dc1, ec0, ec1, fc0, fc1, gc0, gc1, pc0, pc1, qc0, qc1, rc0, rc1, HB, szw, zs0, zs1, os, ns⟩
    · have hlit : (regOps Try.f82 2)[17]? = some ({ dst := some 59, op := Op.fieldAddr 23 (Operand.tmp 6) 1, type := 0, pos := "exact.go:42", after := #[], guard := none }) := by kernel_rfl
      obtain rfl := Option.some.inj (hlit.symm.trans hoi)
      have r6 : b.tmps.getD 6 undef = (.pointer (some ⟨kq, 0, none⟩)) := rd ((hT.old 6 (by kernel_rfl)).trans t6)
      refine op_go hoi (want_all rfl) fun K hK => ?_
      clear hT hpre hlit hoi hdn
      go_simp
      exact hK _ _ ⟨(), fun _ _ => rfl, rfl, dc0, dc1, ec0, ec1, fc0, fc1, gc0, gc1, pc0, pc1, qc0, qc1, rc0, rc1, HB, szw, zs0, zs1, os, ns⟩
    · have hlit : (regOps Try.f82 2)[18]? = some ({ dst := some 60, op := Op.load 3 (Operand.tmp 59), type := 3, pos := "exact.go:42", after := #[{ on := 17, ground := Ground.data }], guard := none }) := by kernel_rfl
      obtain rfl := Option.some.inj (hlit.symm.trans hoi)
      have r59 : b.tmps.getD 59 undef = (.pointer (some ⟨kq, 1, none⟩)) := rd (hT.at 17 (by kernel_rfl) (pre_of hpre 17 (by kernel_rfl)))
      refine op_go hoi (want_all rfl) fun K hK => ?_
      clear hT hpre hlit hoi hdn
      go_simp
      exact hK _ _ ⟨(), fun _ _ => rfl, rfl, dc0, dc1, ec0, ec1, fc0, fc1, gc0, gc1, pc0, pc1, qc0, qc1, rc0, rc1, HB, szw, zs0, zs1, os, ns⟩
    · have hlit : (regOps Try.f82 2)[19]? = some ({ dst := some 61, op := Op.fieldAddr 23 (Operand.tmp 7) 0, type := 0, pos := "exact.go:42", after := #[], guard := none }) := by kernel_rfl
      obtain rfl := Option.some.inj (hlit.symm.trans hoi)
      have r7 : b.tmps.getD 7 undef = (.pointer (some ⟨kr, 0, none⟩)) := rd ((hT.old 7 (by kernel_rfl)).trans t7)
      refine op_go hoi (want_all rfl) fun K hK => ?_
      clear hT hpre hlit hoi hdn
      go_simp
      exact hK _ _ ⟨(), fun _ _ => rfl, rfl, dc0, dc1, ec0, ec1, fc0, fc1, gc0, gc1, pc0, pc1, qc0, qc1, rc0, rc1, HB, szw, zs0, zs1, os, ns⟩
    · have hlit : (regOps Try.f82 2)[20]? = some ({ dst := some 62, op := Op.load 3 (Operand.tmp 61), type := 3, pos := "exact.go:42", after := #[{ on := 19, ground := Ground.data }], guard := none }) := by kernel_rfl
      obtain rfl := Option.some.inj (hlit.symm.trans hoi)
      have r61 : b.tmps.getD 61 undef = (.pointer (some ⟨kr, 0, none⟩)) := rd (hT.at 19 (by kernel_rfl) (pre_of hpre 19 (by kernel_rfl)))
      refine op_go hoi (want_all rfl) fun K hK => ?_
      clear hT hpre hlit hoi hdn
      go_simp
      exact hK _ _ ⟨(), fun _ _ => rfl, rfl, dc0, dc1, ec0, ec1, fc0, fc1, gc0, gc1, pc0, pc1, qc0, qc1, rc0, rc1, HB, szw, zs0, zs1, os, ns⟩
    · have hlit : (regOps Try.f82 2)[21]? = some ({ dst := some 63, op := Op.binOp BinOp.mul 3 (Operand.tmp 60) (Operand.tmp 62) 3, type := 3, pos := "exact.go:42", after := #[{ on := 18, ground := Ground.data }, { on := 20, ground := Ground.data }], guard := none }) := by kernel_rfl
      obtain rfl := Option.some.inj (hlit.symm.trans hoi)
      have r60 : b.tmps.getD 60 undef = (.int .i64 v1) := rd (hT.at 18 (by kernel_rfl) (pre_of hpre 18 (by kernel_rfl)))
      have r62 : b.tmps.getD 62 undef = (.int .i64 x0) := rd (hT.at 20 (by kernel_rfl) (pre_of hpre 20 (by kernel_rfl)))
      refine op_go hoi (want_all rfl) fun K hK => ?_
      clear hT hpre hlit hoi hdn
      go_simp
      exact hK _ _ ⟨(), fun _ _ => rfl, rfl, dc0, dc1, ec0, ec1, fc0, fc1, gc0, gc1, pc0, pc1, qc0, qc1, rc0, rc1, HB, szw, zs0, zs1, os, ns⟩
    · have hlit : (regOps Try.f82 2)[22]? = some ({ dst := some 64, op := Op.binOp BinOp.sub 3 (Operand.tmp 58) (Operand.tmp 63) 3, type := 3, pos := "exact.go:42", after := #[{ on := 16, ground := Ground.data }, { on := 21, ground := Ground.data }], guard := none }) := by kernel_rfl
      obtain rfl := Option.some.inj (hlit.symm.trans hoi)
      have r58 : b.tmps.getD 58 undef = (.int .i64 b1) := rd (hT.at 16 (by kernel_rfl) (pre_of hpre 16 (by kernel_rfl)))
      have r63 : b.tmps.getD 63 undef = (.int .i64 b2) := rd (hT.at 21 (by kernel_rfl) (pre_of hpre 21 (by kernel_rfl)))
      refine op_go hoi (want_all rfl) fun K hK => ?_
      clear hT hpre hlit hoi hdn
      go_simp
      exact hK _ _ ⟨(), fun _ _ => rfl, rfl, dc0, dc1, ec0, ec1, fc0, fc1, gc0, gc1, pc0, pc1, qc0, qc1, rc0, rc1, HB, szw, zs0, zs1, os, ns⟩
    · have hlit : (regOps Try.f82 2)[23]? = some ({ dst := some 65, op := Op.call { callee := Callee.value (Operand.func 79), args := #[Operand.tmp 53, Operand.tmp 64], argTypes := #[3, 3] }, type := 81, pos := "exact.go:42", after := #[{ on := 11, ground := Ground.data }, { on := 22, ground := Ground.data }], guard := none }) := by kernel_rfl
      obtain rfl := Option.some.inj (hlit.symm.trans hoi)
      have r53 : b.tmps.getD 53 undef = (.int .i64 m) := rd (hT.at 11 (by kernel_rfl) (pre_of hpre 11 (by kernel_rfl)))
      have r64 : b.tmps.getD 64 undef = (.int .i64 n) := rd (hT.at 22 (by kernel_rfl) (pre_of hpre 22 (by kernel_rfl)))
      refine op_go hoi (want_all rfl) fun K hK => ?_
      clear hT hpre hlit hoi hdn
      go_simp
      go_at_call 79
      refine (hm w').mono ?_; rintro e w2 ⟨rfl, hb⟩; replace dc0 := ck hb dc0; replace dc1 := ck hb dc1; replace ec0 := ck hb ec0; replace ec1 := ck hb ec1; replace fc0 := ck hb fc0; replace fc1 := ck hb fc1; replace gc0 := ck hb gc0; replace gc1 := ck hb gc1; replace pc0 := ck hb pc0; replace pc1 := ck hb pc1; replace qc0 := ck hb qc0; replace qc1 := ck hb qc1; replace rc0 := ck hb rc0; replace rc1 := ck hb rc1; replace zs0 := cf hb (Nat.lt_of_lt_of_le lts szw) zs0; replace zs1 := cf hb (Nat.lt_of_lt_of_le lts szw) zs1; replace os : L 28 = false → w2.cell? ⟨ks, 0, none⟩ = some (.int .i64 (hiW s)) ∧ w2.cell? ⟨ks, 1, none⟩ = some (.int .u64 (loW s)) := fun h => (by obtain ⟨x0, x1⟩ := os h; exact ⟨ck hb x0, ck hb x1⟩); replace ns : L 28 = true → w2.cell? ⟨ks, 0, none⟩ = some (.int .i64 (hiW (s + m * n))) ∧ w2.cell? ⟨ks, 1, none⟩ = some (.int .u64 (loW (s + m * n))) := fun h => (by obtain ⟨x0, x1⟩ := ns h; exact ⟨ck hb x0, ck hb x1⟩); replace szw : w.heap.size ≤ w2.heap.size := Nat.le_trans szw hb.size; replace HB : Below W.heap.size W w2 := bt HB hb; clear hb
      exact hK _ _ ⟨(), fun _ _ => rfl, rfl, dc0, dc1, ec0, ec1, fc0, fc1, gc0, gc1, pc0, pc1, qc0, qc1, rc0, rc1, HB, szw, zs0, zs1, os, ns⟩
    · have hlit : (regOps Try.f82 2)[24]? = some ({ dst := some 66, op := Op.call { callee := Callee.value (Operand.func 83), args := #[Operand.tmp 42, Operand.tmp 65], argTypes := #[81, 81] }, type := 86, pos := "exact.go:42", after := #[{ on := 0, ground := Ground.data }, { on := 23, ground := Ground.data }, { on := 23, ground := Ground.chain }], guard := none }) := by kernel_rfl
      obtain rfl := Option.some.inj (hlit.symm.trans hoi)
      have r42 : b.tmps.getD 42 undef = (.agg #[.int .i64 (hiW s), .int .u64 (loW s)]) := rd (hT.at 0 (by kernel_rfl) (pre_of hpre 0 (by kernel_rfl)))
      have r65 : b.tmps.getD 65 undef = (.agg #[.int .i64 (hiW (m * n)), .int .u64 (loW (m * n))]) := rd (hT.at 23 (by kernel_rfl) (pre_of hpre 23 (by kernel_rfl)))
      refine op_go hoi (want_all rfl) fun K hK => ?_
      clear hT hpre hlit hoi hdn
      go_simp
      go_at_call 83
      refine (ha w').mono ?_; rintro e w2 ⟨rfl, hb⟩; replace dc0 := ck hb dc0; replace dc1 := ck hb dc1; replace ec0 := ck hb ec0; replace ec1 := ck hb ec1; replace fc0 := ck hb fc0; replace fc1 := ck hb fc1; replace gc0 := ck hb gc0; replace gc1 := ck hb gc1; replace pc0 := ck hb pc0; replace pc1 := ck hb pc1; replace qc0 := ck hb qc0; replace qc1 := ck hb qc1; replace rc0 := ck hb rc0; replace rc1 := ck hb rc1; replace zs0 := cf hb (Nat.lt_of_lt_of_le lts szw) zs0; replace zs1 := cf hb (Nat.lt_of_lt_of_le lts szw) zs1; replace os : L 28 = false → w2.cell? ⟨ks, 0, none⟩ = some (.int .i64 (hiW s)) ∧ w2.cell? ⟨ks, 1, none⟩ = some (.int .u64 (loW s)) := fun h => (by obtain ⟨x0, x1⟩ := os h; exact ⟨ck hb x0, ck hb x1⟩); replace ns : L 28 = true → w2.cell? ⟨ks, 0, none⟩ = some (.int .i64 (hiW (s + m * n))) ∧ w2.cell? ⟨ks, 1, none⟩ = some (.int .u64 (loW (s + m * n))) := fun h => (by obtain ⟨x0, x1⟩ := ns h; exact ⟨ck hb x0, ck hb x1⟩); replace szw : w.heap.size ≤ w2.heap.size := Nat.le_trans szw hb.size; replace HB : Below W.heap.size W w2 := bt HB hb; clear hb
      exact hK _ _ ⟨(), fun _ _ => rfl, rfl, dc0, dc1, ec0, ec1, fc0, fc1, gc0, gc1, pc0, pc1, qc0, qc1, rc0, rc1, HB, szw, zs0, zs1, os, ns⟩
    · have hlit : (regOps Try.f82 2)[25]? = some ({ dst := some 41, op := Op.move (Operand.tmp 66), type := 86, pos := "exact.go:42", after := #[{ on := 24, ground := Ground.data }], guard := none }) := by kernel_rfl
      obtain rfl := Option.some.inj (hlit.symm.trans hoi)
      have r66 : b.tmps.getD 66 undef = (.tuple #[.agg #[.int .i64 (hiW (s + m * n)), .int .u64 (loW (s + m * n))], .bool true]) := rd (hT.at 24 (by kernel_rfl) (pre_of hpre 24 (by kernel_rfl)))
      refine op_go hoi (want_all rfl) fun K hK => ?_
      clear hT hpre hlit hoi hdn
      go_simp
      exact hK _ _ ⟨(), fun _ _ => rfl, rfl, dc0, dc1, ec0, ec1, fc0, fc1, gc0, gc1, pc0, pc1, qc0, qc1, rc0, rc1, HB, szw, zs0, zs1, os, ns⟩
    · have hlit : (regOps Try.f82 2)[26]? = some ({ dst := some 67, op := Op.extract (Operand.tmp 41) 0, type := 81, pos := "exact.go:42", after := #[{ on := 25, ground := Ground.data }], guard := none }) := by kernel_rfl
      obtain rfl := Option.some.inj (hlit.symm.trans hoi)
      have r41 : b.tmps.getD 41 undef = (.tuple #[.agg #[.int .i64 (hiW (s + m * n)), .int .u64 (loW (s + m * n))], .bool true]) := rd (hT.at 25 (by kernel_rfl) (pre_of hpre 25 (by kernel_rfl)))
      refine op_go hoi (want_all rfl) fun K hK => ?_
      clear hT hpre hlit hoi hdn
      go_simp
      exact hK _ _ ⟨(), fun _ _ => rfl, rfl, dc0, dc1, ec0, ec1, fc0, fc1, gc0, gc1, pc0, pc1, qc0, qc1, rc0, rc1, HB, szw, zs0, zs1, os, ns⟩
    · have hlit : (regOps Try.f82 2)[27]? = some ({ dst := some 68, op := Op.extract (Operand.tmp 41) 1, type := 4, pos := "exact.go:42", after := #[{ on := 25, ground := Ground.data }, { on := 28, ground := Ground.gcOnly Departure.lateStores }], guard := none }) := by kernel_rfl
      obtain rfl := Option.some.inj (hlit.symm.trans hoi)
      have r41 : b.tmps.getD 41 undef = (.tuple #[.agg #[.int .i64 (hiW (s + m * n)), .int .u64 (loW (s + m * n))], .bool true]) := rd (hT.at 25 (by kernel_rfl) (pre_of hpre 25 (by kernel_rfl)))
      refine op_go hoi (want_all rfl) fun K hK => ?_
      clear hT hpre hlit hoi hdn
      go_simp
      exact hK _ _ ⟨(), fun _ _ => rfl, rfl, dc0, dc1, ec0, ec1, fc0, fc1, gc0, gc1, pc0, pc1, qc0, qc1, rc0, rc1, HB, szw, zs0, zs1, os, ns⟩
    · have hlit : (regOps Try.f82 2)[28]? = some ({ dst := none, op := Op.store 81 (Operand.tmp 4) (Operand.tmp 67), type := 0, pos := "exact.go:42", after := #[{ on := 26, ground := Ground.data }, { on := 24, ground := Ground.chain }, { on := 0, ground := Ground.phase }, { on := 1, ground := Ground.phase }, { on := 2, ground := Ground.phase }, { on := 3, ground := Ground.phase }, { on := 4, ground := Ground.phase }, { on := 5, ground := Ground.phase }, { on := 6, ground := Ground.phase }, { on := 7, ground := Ground.phase }, { on := 8, ground := Ground.phase }, { on := 9, ground := Ground.phase }, { on := 10, ground := Ground.phase }, { on := 11, ground := Ground.phase }, { on := 12, ground := Ground.phase }, { on := 13, ground := Ground.phase }, { on := 14, ground := Ground.phase }, { on := 15, ground := Ground.phase }, { on := 16, ground := Ground.phase }, { on := 17, ground := Ground.phase }, { on := 18, ground := Ground.phase }, { on := 19, ground := Ground.phase }, { on := 20, ground := Ground.phase }, { on := 21, ground := Ground.phase }, { on := 22, ground := Ground.phase }, { on := 23, ground := Ground.phase }, { on := 24, ground := Ground.phase }, { on := 25, ground := Ground.phase }, { on := 26, ground := Ground.phase }, { on := 27, ground := Ground.textOnly Departure.lateStores }], guard := none }) := by kernel_rfl
      obtain rfl := Option.some.inj (hlit.symm.trans hoi)
      have r4 : b.tmps.getD 4 undef = (.pointer (some ⟨ks, 0, none⟩)) := rd ((hT.old 4 (by kernel_rfl)).trans t4)
      have r67 : b.tmps.getD 67 undef = (.agg #[.int .i64 (hiW (s + m * n)), .int .u64 (loW (s + m * n))]) := rd (hT.at 26 (by kernel_rfl) (pre_of hpre 26 (by kernel_rfl)))
      obtain ⟨cs0, cs1⟩ := os hun
      refine op_go hoi (want_all rfl) fun K hK => ?_
      clear hT hpre hlit hoi hdn
      go_simp
      exact hK _ _ ⟨(), fun _ _ => rfl, rfl, so (so (dc0) nekdks) nekdks, so (so (dc1) nekdks) nekdks, so (so (ec0) nekeks) nekeks, so (so (ec1) nekeks) nekeks, so (so (fc0) nekfks) nekfks, so (so (fc1) nekfks) nekfks, so (so (gc0) nekgks) nekgks, so (so (gc1) nekgks) nekgks, so (so (pc0) nekpks) nekpks, so (so (pc1) nekpks) nekpks, so (so (qc0) nekqks) nekqks, so (so (qc1) nekqks) nekqks, so (so (rc0) nekrks) nekrks, so (so (rc1) nekrks) nekrks, bs (bs (HB) ges _) ges _, sz (sz (szw)), sf (sf (zs0)), sf (sf (zs1)), fun h => (by cases h), fun _ => ⟨sb (ss (cs0)) (by decide), ss (sb (cs1) (by decide))⟩⟩
  · intro g b w' hT hS
    rw [hT.all ht]
    have hn : (regOps Try.f82 2).size = 29 := by kernel_rfl
    rw [hn] at hS ⊢
    obtain ⟨dc0, dc1, ec0, ec1, fc0, fc1, gc0, gc1, pc0, pc1, qc0, qc1, rc0, rc1, HB, szw, zs0, zs1, os, ns⟩ := hS
    obtain ⟨cs0, cs1⟩ := ns rfl
    exact he w' ⟨dc0, dc1, ec0, ec1, fc0, fc1, gc0, gc1, pc0, pc1, qc0, qc1, rc0, rc1, HB⟩ ⟨zs0, zs1, cs0, cs1⟩

end Go.Proofs.Ytandgbpbabmdfaa
