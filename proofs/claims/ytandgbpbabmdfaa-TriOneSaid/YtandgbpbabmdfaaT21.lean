import Derived.Test.YtandgbpbabmdfaaR20
import Derived.Test.YtandgbpbabmdfaaMx
import Derived.IntWalk
namespace Go.Proofs.Ytandgbpbabmdfaa
open Go.RowKit
attribute [local go_sem high] eq23 eq25 mn_two mx_two mn_three mx_three mx_four

theorem sq_bd {x y : Int} (h1 : -16777216 ≤ x) (h2 : x ≤ 16777216) (h3 : -16777216 ≤ y) (h4 : y ≤ 16777216) : 0 ≤ x * x + y * y ∧ x * x + y * y ≤ 562949953421312 := by
  have k1 := mul_bd h1 h2 h1 h2
  have k2 := mul_bd h3 h4 h3 h4
  have hh : ∀ n : Int, 0 ≤ n * n := fun n => by rcases Int.le_total 0 n with h | h; exact Int.mul_nonneg h h; exact Int.mul_nonneg_of_nonpos_of_nonpos h h
  have := hh x; have := hh y
  omega
theorem big_bd {m n : Int} (h1 : 0 ≤ m) (h2 : m ≤ 562949953421312) (h3 : -562949953421312 ≤ n) (h4 : n ≤ 562949953421312) : -316912650057057350374175801344 ≤ m * n ∧ m * n ≤ 316912650057057350374175801344 := by
  have k1 := Int.mul_le_mul_of_nonneg_left h3 h1
  have k2 := Int.mul_le_mul_of_nonneg_left h4 h1
  have k3 := Int.mul_le_mul_of_nonneg_right h2 (show (0 : Int) ≤ 562949953421312 by omega)
  omega

set_option maxHeartbeats 4000000 in
set_option maxRecDepth 100000 in
theorem add82w (p0 p1 q0 q1 r0 r1 d0 d1 e0 e1 f0 f1 g0 g1 u0 u1 v0 v1 x0 x1 s a1 a2 b1 b2 m n : Int) (kd ke kf kg ks : Nat) (W w : World) (hB : Below W.heap.size W w) (geS : W.heap.size ≤ ks) (ne1 : ¬ kd = ks) (ne2 : ¬ ke = ks) (ne3 : ¬ kf = ks) (ne4 : ¬ kg = ks)
    (hC : w.cell? ⟨kd, 0, none⟩ = some (.int .i64 d0) ∧ w.cell? ⟨kd, 1, none⟩ = some (.int .i64 d1) ∧ w.cell? ⟨ke, 0, none⟩ = some (.int .i64 e0) ∧ w.cell? ⟨ke, 1, none⟩ = some (.int .i64 e1) ∧ w.cell? ⟨kf, 0, none⟩ = some (.int .i64 f0) ∧ w.cell? ⟨kf, 1, none⟩ = some (.int .i64 f1) ∧ w.cell? ⟨kg, 0, none⟩ = some (.int .i64 g0) ∧ w.cell? ⟨kg, 1, none⟩ = some (.int .i64 g1) ∧ w.cell? ⟨ks, 0, none⟩ = some (.int .i64 (hiW s)) ∧ w.cell? ⟨ks, 1, none⟩ = some (.int .u64 (loW s)) ∧ w.frozen? ⟨ks, 0, none⟩ = false ∧ w.frozen? ⟨ks, 1, none⟩ = false) (q1' : IntKind.i64.wrap (p0 - d0) = u0) (q2' : IntKind.i64.wrap (p1 - d1) = u1) (q3' : IntKind.i64.wrap (q0 - d0) = v0) (q4' : IntKind.i64.wrap (q1 - d1) = v1) (q5' : IntKind.i64.wrap (r0 - d0) = x0) (q6' : IntKind.i64.wrap (r1 - d1) = x1)
    (eq1 : IntKind.i64.wrap (u0 * u0) = a1) (eq2 : IntKind.i64.wrap (u1 * u1) = a2) (eq3 : IntKind.i64.wrap (a1 + a2) = m) (eq4 : IntKind.i64.wrap (v0 * x1) = b1) (eq5 : IntKind.i64.wrap (v1 * x0) = b2) (eq6 : IntKind.i64.wrap (b1 - b2) = n)
    (hm : ∀ w : World, Calls Try.prog 79 #[.int .i64 m, .int .i64 n] w fun e w' => e = .returned (.agg #[.int .i64 (hiW (m * n)), .int .u64 (loW (m * n))]) ∧ Below w.heap.size w w')
    (ha : ∀ w : World, Calls Try.prog 83 #[.agg #[.int .i64 (hiW s), .int .u64 (loW s)], .agg #[.int .i64 (hiW (m * n)), .int .u64 (loW (m * n))]] w fun e w' => e = .returned (.tuple #[.agg #[.int .i64 (hiW (s + m * n)), .int .u64 (loW (s + m * n))], .bool true]) ∧ Below w.heap.size w w') :
    Calls Try.prog 82 #[.agg #[.int .i64 p0, .int .i64 p1], .agg #[.int .i64 q0, .int .i64 q1], .agg #[.int .i64 r0, .int .i64 r1], .pointer (some ⟨kd, 0, none⟩), .pointer (some ⟨ks, 0, none⟩)] w fun e w' => e = .returned (.tuple #[]) ∧ Below W.heap.size W w' ∧ w'.cell? ⟨kd, 0, none⟩ = some (.int .i64 d0) ∧ w'.cell? ⟨kd, 1, none⟩ = some (.int .i64 d1) ∧ w'.cell? ⟨ke, 0, none⟩ = some (.int .i64 e0) ∧ w'.cell? ⟨ke, 1, none⟩ = some (.int .i64 e1) ∧ w'.cell? ⟨kf, 0, none⟩ = some (.int .i64 f0) ∧ w'.cell? ⟨kf, 1, none⟩ = some (.int .i64 f1) ∧ w'.cell? ⟨kg, 0, none⟩ = some (.int .i64 g0) ∧ w'.cell? ⟨kg, 1, none⟩ = some (.int .i64 g1) ∧ w'.cell? ⟨ks, 0, none⟩ = some (.int .i64 (hiW (s + m * n))) ∧ w'.cell? ⟨ks, 1, none⟩ = some (.int .u64 (loW (s + m * n))) ∧ w'.frozen? ⟨ks, 0, none⟩ = false ∧ w'.frozen? ⟨ks, 1, none⟩ = false := by
  obtain ⟨dc0, dc1, ec0, ec1, fc0, fc1, gc0, gc1, sc0, sc1, zs0, zs1⟩ := hC
  have gW := hB.size
  have ld := World.block_lt_of_cell? w _ dc0
  have le := World.block_lt_of_cell? w _ ec0
  have lf := World.block_lt_of_cell? w _ fc0
  have lg := World.block_lt_of_cell? w _ gc0
  have ls := World.block_lt_of_cell? w _ sc0
  dsimp only at ld le lf lg ls
  have hd0 := Nat.ne_of_lt ld; have he0 := Nat.ne_of_lt le; have hf0 := Nat.ne_of_lt lf; have hg0 := Nat.ne_of_lt lg; have hs0 := Nat.ne_of_lt ls
  have nd1 : ¬ kd = w.heap.size + 1 := by omega
  have nd2 : ¬ kd = w.heap.size + 1 + 1 := by omega
  have ne1' : ¬ ke = w.heap.size + 1 := by omega
  have ne2' : ¬ ke = w.heap.size + 1 + 1 := by omega
  have nf1 : ¬ kf = w.heap.size + 1 := by omega
  have nf2 : ¬ kf = w.heap.size + 1 + 1 := by omega
  have ng1 : ¬ kg = w.heap.size + 1 := by omega
  have ng2 : ¬ kg = w.heap.size + 1 + 1 := by omega
  have ns1 : ¬ ks = w.heap.size + 1 := by omega
  have ns2 : ¬ ks = w.heap.size + 1 + 1 := by omega
  have b1s : ¬ w.heap.size = ks := by omega
  have b2s : ¬ w.heap.size + 1 = ks := by omega
  have b3s : ¬ w.heap.size + 1 + 1 = ks := by omega
  have pd1 : kd < w.heap.size + 1 := by omega
  have pe1 : ke < w.heap.size + 1 := by omega
  have pf1 : kf < w.heap.size + 1 := by omega
  have pg1 : kg < w.heap.size + 1 := by omega
  have ps1 : ks < w.heap.size + 1 := by omega
  have pd2 : kd < w.heap.size + 1 + 1 := by omega
  have pe2 : ke < w.heap.size + 1 + 1 := by omega
  have pf2 : kf < w.heap.size + 1 + 1 := by omega
  have pg2 : kg < w.heap.size + 1 + 1 := by omega
  have ps2 : ks < w.heap.size + 1 + 1 := by omega
  go_enter Try.func82, Try.ntmps82
  go_wp2_with fail
  refine region82a p0 p1 q0 q1 r0 r1 u0 u1 v0 v1 x0 x1 d0 d1 e0 e1 f0 f1 g0 g1 (hiW s) (loW s) w.heap.size (w.heap.size + 1) (w.heap.size + 1 + 1) kd ke kf kg ks W q1' q2' q3' q4' q5' q6' (by omega) (by omega) (by omega) (by omega) (by omega) (by omega) (by omega) (by omega) (by omega) (by omega) (by omega) (by omega) (by omega) (by omega) (by omega) (by omega) (by omega) (by omega) (by omega) (by omega) (by omega) (by kernel_rfl) rfl rfl rfl rfl rfl gW (by omega) (by omega) ⟨?_, ?_, ?_, ?_, ?_, ?_, ?_, ?_, ?_, ?_, ?_, ?_, ?_⟩ ⟨?_, ?_, ?_, ?_, ?_, ?_, ?_, ?_, ?_, ?_, ?_, ?_⟩ (fun w1 hS hN => ?_)
  iterate 12 (focus (go_simp; done))
  · exact ba (ba (ba hB _) _) _
  iterate 12 (focus (go_simp; done))
  obtain ⟨dc0, dc1, ec0, ec1, fc0, fc1, gc0, gc1, sc0, sc1, zs0, zs1, HB⟩ := hS
  obtain ⟨-, -, -, -, -, -, pc0, pc1, qc0, qc1, rc0, rc1⟩ := hN
  simp only [List.setIfInBounds_toArray, List.set_cons_zero, List.set_cons_succ]
  go_wp2_with fail
  refine region82b u0 u1 v0 v1 x0 x1 d0 d1 e0 e1 f0 f1 g0 g1 s a1 a2 b1 b2 m n w.heap.size (w.heap.size + 1) (w.heap.size + 1 + 1) kd ke kf kg ks W eq1 eq2 eq3 eq4 eq5 eq6 hm ha b1s b2s b3s ne1 ne2 ne3 ne4 (by kernel_rfl) rfl rfl rfl rfl rfl geS ⟨?_, ?_, ?_, ?_, ?_, ?_, ?_, ?_, ?_, ?_, ?_, ?_, ?_, ?_, ?_⟩ ⟨?_, ?_, ?_, ?_⟩ (fun w2 hS hN => ?_)
  iterate 14 (focus (go_simp; done))
  · exact HB
  iterate 4 (focus (go_simp; done))
  obtain ⟨dc0, dc1, ec0, ec1, fc0, fc1, gc0, gc1, -, -, -, -, -, -, HB⟩ := hS
  obtain ⟨zs0, zs1, sc0, sc1⟩ := hN
  simp only [List.setIfInBounds_toArray, List.set_cons_zero, List.set_cons_succ]
  go_wp2
  refine bodyPost_end (v := .tuple #[]) ?_ ?_ ?_
  · simp [results, Try.results82, go_sem]
  · rfl
  exact ⟨rfl, HB, dc0, dc1, ec0, ec1, fc0, fc1, gc0, gc1, sc0, sc1, zs0, zs1⟩

/-- The closure that adds one of the three products. -/
theorem add82 (p0 p1 q0 q1 r0 r1 d0 d1 e0 e1 f0 f1 g0 g1 s : Int) (kd ke kf kg ks : Nat) (W w : World) (hB : Below W.heap.size W w) (geS : W.heap.size ≤ ks) (ne1 : ¬ kd = ks) (ne2 : ¬ ke = ks) (ne3 : ¬ kf = ks) (ne4 : ¬ kg = ks)
    (hC : w.cell? ⟨kd, 0, none⟩ = some (.int .i64 d0) ∧ w.cell? ⟨kd, 1, none⟩ = some (.int .i64 d1) ∧ w.cell? ⟨ke, 0, none⟩ = some (.int .i64 e0) ∧ w.cell? ⟨ke, 1, none⟩ = some (.int .i64 e1) ∧ w.cell? ⟨kf, 0, none⟩ = some (.int .i64 f0) ∧ w.cell? ⟨kf, 1, none⟩ = some (.int .i64 f1) ∧ w.cell? ⟨kg, 0, none⟩ = some (.int .i64 g0) ∧ w.cell? ⟨kg, 1, none⟩ = some (.int .i64 g1) ∧ w.cell? ⟨ks, 0, none⟩ = some (.int .i64 (hiW s)) ∧ w.cell? ⟨ks, 1, none⟩ = some (.int .u64 (loW s)) ∧ w.frozen? ⟨ks, 0, none⟩ = false ∧ w.frozen? ⟨ks, 1, none⟩ = false) (vp : val ⟨p0, p1⟩ = true) (vq : val ⟨q0, q1⟩ = true) (vr : val ⟨r0, r1⟩ = true) (vd : val ⟨d0, d1⟩ = true) (s1 : -1267650600228229401496703205376 ≤ s) (s2 : s ≤ 1267650600228229401496703205376) :
    Calls Try.prog 82 #[.agg #[.int .i64 p0, .int .i64 p1], .agg #[.int .i64 q0, .int .i64 q1], .agg #[.int .i64 r0, .int .i64 r1], .pointer (some ⟨kd, 0, none⟩), .pointer (some ⟨ks, 0, none⟩)] w fun e w' => e = .returned (.tuple #[]) ∧ Below W.heap.size W w' ∧ w'.cell? ⟨kd, 0, none⟩ = some (.int .i64 d0) ∧ w'.cell? ⟨kd, 1, none⟩ = some (.int .i64 d1) ∧ w'.cell? ⟨ke, 0, none⟩ = some (.int .i64 e0) ∧ w'.cell? ⟨ke, 1, none⟩ = some (.int .i64 e1) ∧ w'.cell? ⟨kf, 0, none⟩ = some (.int .i64 f0) ∧ w'.cell? ⟨kf, 1, none⟩ = some (.int .i64 f1) ∧ w'.cell? ⟨kg, 0, none⟩ = some (.int .i64 g0) ∧ w'.cell? ⟨kg, 1, none⟩ = some (.int .i64 g1) ∧ w'.cell? ⟨ks, 0, none⟩ = some (.int .i64 (hiW (s + sq ⟨p0, p1⟩ ⟨d0, d1⟩ * crs ⟨q0, q1⟩ ⟨r0, r1⟩ ⟨d0, d1⟩))) ∧ w'.cell? ⟨ks, 1, none⟩ = some (.int .u64 (loW (s + sq ⟨p0, p1⟩ ⟨d0, d1⟩ * crs ⟨q0, q1⟩ ⟨r0, r1⟩ ⟨d0, d1⟩))) ∧ w'.frozen? ⟨ks, 0, none⟩ = false ∧ w'.frozen? ⟨ks, 1, none⟩ = false := by
  obtain ⟨vp1, vp2, vp3, vp4⟩ := val_xy vp
  obtain ⟨vq1, vq2, vq3, vq4⟩ := val_xy vq
  obtain ⟨vr1, vr2, vr3, vr4⟩ := val_xy vr
  obtain ⟨vd1, vd2, vd3, vd4⟩ := val_xy vd
  have A1 := mul_bd (a := p0 - d0) (b := p0 - d0) (by omega) (by omega) (by omega) (by omega)
  have A2 := mul_bd (a := p1 - d1) (b := p1 - d1) (by omega) (by omega) (by omega) (by omega)
  have A3 := sq_bd (x := p0 - d0) (y := p1 - d1) (by omega) (by omega) (by omega) (by omega)
  have A4 := mul_bd (a := q0 - d0) (b := r1 - d1) (by omega) (by omega) (by omega) (by omega)
  have A5 := mul_bd (a := q1 - d1) (b := r0 - d0) (by omega) (by omega) (by omega) (by omega)
  have A6 := big_bd (m := (p0 - d0) * (p0 - d0) + (p1 - d1) * (p1 - d1)) (n := (q0 - d0) * (r1 - d1) - (q1 - d1) * (r0 - d0)) A3.1 A3.2 (by omega) (by omega)
  have q1' : IntKind.i64.wrap (p0 - d0) = p0 - d0 := IntWalk.i64_in _ (by omega)
  have q2' : IntKind.i64.wrap (p1 - d1) = p1 - d1 := IntWalk.i64_in _ (by omega)
  have q3' : IntKind.i64.wrap (q0 - d0) = q0 - d0 := IntWalk.i64_in _ (by omega)
  have q4' : IntKind.i64.wrap (q1 - d1) = q1 - d1 := IntWalk.i64_in _ (by omega)
  have q5' : IntKind.i64.wrap (r0 - d0) = r0 - d0 := IntWalk.i64_in _ (by omega)
  have q6' : IntKind.i64.wrap (r1 - d1) = r1 - d1 := IntWalk.i64_in _ (by omega)
  have e1' : IntKind.i64.wrap ((p0 - d0) * (p0 - d0)) = (p0 - d0) * (p0 - d0) := IntWalk.i64_in _ (by omega)
  have e2' : IntKind.i64.wrap ((p1 - d1) * (p1 - d1)) = (p1 - d1) * (p1 - d1) := IntWalk.i64_in _ (by omega)
  have e3' : IntKind.i64.wrap ((p0 - d0) * (p0 - d0) + (p1 - d1) * (p1 - d1)) = (p0 - d0) * (p0 - d0) + (p1 - d1) * (p1 - d1) := IntWalk.i64_in _ (by omega)
  have e4' : IntKind.i64.wrap ((q0 - d0) * (r1 - d1)) = (q0 - d0) * (r1 - d1) := IntWalk.i64_in _ (by omega)
  have e5' : IntKind.i64.wrap ((q1 - d1) * (r0 - d0)) = (q1 - d1) * (r0 - d0) := IntWalk.i64_in _ (by omega)
  have e6' : IntKind.i64.wrap ((q0 - d0) * (r1 - d1) - (q1 - d1) * (r0 - d0)) = (q0 - d0) * (r1 - d1) - (q1 - d1) * (r0 - d0) := IntWalk.i64_in _ (by omega)
  have hm : ∀ w : World, Calls Try.prog 79 #[.int .i64 ((p0 - d0) * (p0 - d0) + (p1 - d1) * (p1 - d1)), .int .i64 ((q0 - d0) * (r1 - d1) - (q1 - d1) * (r0 - d0))] w fun e w' => e = .returned (.agg #[.int .i64 (hiW (((p0 - d0) * (p0 - d0) + (p1 - d1) * (p1 - d1)) * ((q0 - d0) * (r1 - d1) - (q1 - d1) * (r0 - d0)))), .int .u64 (loW (((p0 - d0) * (p0 - d0) + (p1 - d1) * (p1 - d1)) * ((q0 - d0) * (r1 - d1) - (q1 - d1) * (r0 - d0))))]) ∧ Below w.heap.size w w' :=
    fun w => mul79 _ _ (by omega) (by omega) (by omega) (by omega) w
  have ha : ∀ w : World, Calls Try.prog 83 #[.agg #[.int .i64 (hiW s), .int .u64 (loW s)], .agg #[.int .i64 (hiW (((p0 - d0) * (p0 - d0) + (p1 - d1) * (p1 - d1)) * ((q0 - d0) * (r1 - d1) - (q1 - d1) * (r0 - d0)))), .int .u64 (loW (((p0 - d0) * (p0 - d0) + (p1 - d1) * (p1 - d1)) * ((q0 - d0) * (r1 - d1) - (q1 - d1) * (r0 - d0))))]] w fun e w' => e = .returned (.tuple #[.agg #[.int .i64 (hiW (s + ((p0 - d0) * (p0 - d0) + (p1 - d1) * (p1 - d1)) * ((q0 - d0) * (r1 - d1) - (q1 - d1) * (r0 - d0)))), .int .u64 (loW (s + ((p0 - d0) * (p0 - d0) + (p1 - d1) * (p1 - d1)) * ((q0 - d0) * (r1 - d1) - (q1 - d1) * (r0 - d0))))], .bool true]) ∧ Below w.heap.size w w' :=
    fun w => add83 _ _ w (by omega) (by omega) (by omega) (by omega) (by omega) (by omega)
  exact add82w p0 p1 q0 q1 r0 r1 d0 d1 e0 e1 f0 f1 g0 g1 _ _ _ _ _ _ s _ _ _ _ _ _ kd ke kf kg ks W w hB geS ne1 ne2 ne3 ne4 hC q1' q2' q3' q4' q5' q6' e1' e2' e3' e4' e5' e6' hm ha

end Go.Proofs.Ytandgbpbabmdfaa
