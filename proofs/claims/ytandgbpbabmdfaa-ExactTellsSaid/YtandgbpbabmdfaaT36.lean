import Derived.Test.YtandgbpbabmdfaaT35
import Derived.Test.YtandgbpbabmdfaaT24
namespace Go.Proofs.Ytandgbpbabmdfaa
open Go.RowKit
attribute [local go_sem high] eq23 eq25 mn_two mx_two mn_three mx_three mx_four

set_option maxHeartbeats 8000000 in
set_option maxRecDepth 100000 in
/-- The reference's tie. -/
theorem circ54_g (a0 a1 b0 b1 c0 c1 d0 d1 : Int) (w : World) (H : C54 a0 a1 b0 b1 c0 c1 d0 d1 0) (ho : ori ⟨a0, a1⟩ ⟨b0, b1⟩ ⟨c0, c1⟩ = 1) (hv : val ⟨d0, d1⟩ = true) (e1 : (d0 == a0 && d1 == a1) = false) (e2 : (d0 == b0 && d1 == b1) = false) (e3 : (d0 == c0 && d1 == c1) = false) (nda : (⟨d0, d1⟩ : Pt) ≠ ⟨a0, a1⟩) (ndb : (⟨d0, d1⟩ : Pt) ≠ ⟨b0, b1⟩) (ndc : (⟨d0, d1⟩ : Pt) ≠ ⟨c0, c1⟩) (nab : (⟨a0, a1⟩ : Pt) ≠ ⟨b0, b1⟩) (nbc : (⟨b0, b1⟩ : Pt) ≠ ⟨c0, c1⟩) (nac : (⟨a0, a1⟩ : Pt) ≠ ⟨c0, c1⟩) :
    Calls Try.prog 54 #[.agg #[.int .i64 a0, .int .i64 a1], .agg #[.int .i64 b0, .int .i64 b1], .agg #[.int .i64 c0, .int .i64 c1], .agg #[.int .i64 d0, .int .i64 d1]] w fun e w' => e = .returned (.int .i64 (tieW ⟨a0, a1⟩ ⟨b0, b1⟩ ⟨c0, c1⟩ ⟨d0, d1⟩)) ∧ Below w.heap.size w w' := by
  obtain ⟨u0, u1, v0, v1, x0, x1, g1, g2, g3, g4, g5, g6, z0, z1, h1, h2, h3, h4, h5, h6, p0, p1, q0, q1, y0, y1, j1, j2, j3, j4, j5, j6, r0, r1, s0, s1, d0_, d1_, d2_, d3_, d4_, d5_, g1_, g2_, g3_, g4_, g5_, g6_, c7, h1_, h2_, h3_, h4_, h5_, h6_, c8m, c8n, c8a, j1_, j2_, j3_, j4_, j5_, j6_, c9m, c9a, c10⟩ := H
  have HB := Below.refl w.heap.size w
  go_enter Try.func54, Try.ntmps54
  go_wp2_with fail
  refine (ori37 _ _ _ _ _ _ _).mono ?_; rw [ho]; rintro e w1 ⟨rfl, hb⟩; (with_reducible (repeat replace hb := undr hb)); replace ac0 := ck hb (a := ⟨w.heap.size, 0, none⟩) (v := .int .i64 a0) (by go_simp); replace ac1 := ck hb (a := ⟨w.heap.size, 1, none⟩) (v := .int .i64 a1) (by go_simp); replace bc0 := ck hb (a := ⟨w.heap.size + 1, 0, none⟩) (v := .int .i64 b0) (by go_simp); replace bc1 := ck hb (a := ⟨w.heap.size + 1, 1, none⟩) (v := .int .i64 b1) (by go_simp); replace cc0 := ck hb (a := ⟨w.heap.size + 1 + 1, 0, none⟩) (v := .int .i64 c0) (by go_simp); replace cc1 := ck hb (a := ⟨w.heap.size + 1 + 1, 1, none⟩) (v := .int .i64 c1) (by go_simp); replace ddc0 := ck hb (a := ⟨w.heap.size + 1 + 1 + 1, 0, none⟩) (v := .int .i64 d0) (by go_simp); replace ddc1 := ck hb (a := ⟨w.heap.size + 1 + 1 + 1, 1, none⟩) (v := .int .i64 d1) (by go_simp); replace az : w.heap.size < w1.heap.size := World.block_lt_of_cell? w1 _ ac0; replace an : ¬ w.heap.size = w1.heap.size := Nat.ne_of_lt az; replace bz : w.heap.size + 1 < w1.heap.size := World.block_lt_of_cell? w1 _ bc0; replace bn : ¬ w.heap.size + 1 = w1.heap.size := Nat.ne_of_lt bz; replace bo : w.heap.size < w1.heap.size := Nat.lt_of_succ_lt bz; replace cz : w.heap.size + 1 + 1 < w1.heap.size := World.block_lt_of_cell? w1 _ cc0; replace cn : ¬ w.heap.size + 1 + 1 = w1.heap.size := Nat.ne_of_lt cz; replace co : w.heap.size + 1 < w1.heap.size := Nat.lt_of_succ_lt cz; replace ddz : w.heap.size + 1 + 1 + 1 < w1.heap.size := World.block_lt_of_cell? w1 _ ddc0; replace ddn : ¬ w.heap.size + 1 + 1 + 1 = w1.heap.size := Nat.ne_of_lt ddz; replace ddo : w.heap.size + 1 + 1 < w1.heap.size := Nat.lt_of_succ_lt ddz; replace HB : Below w.heap.size w w1 := bt (by repeat (first | (with_reducible exact HB) | (with_reducible exact Below.refl _ _) | (with_reducible apply bd) | (with_reducible apply ba) | (with_reducible refine bs ?_ (by first | (simp; done) | (simp; omega)) _))) hb; clear hb
  go_wp2_with fail
  refine (valid48 _ _ _).mono ?_; rw [hv]; rintro e w2 ⟨rfl, hb⟩; (with_reducible (repeat replace hb := undr hb)); replace ac0 := ck hb (a := ⟨w.heap.size, 0, none⟩) (v := .int .i64 a0) (by go_simp); replace ac1 := ck hb (a := ⟨w.heap.size, 1, none⟩) (v := .int .i64 a1) (by go_simp); replace bc0 := ck hb (a := ⟨w.heap.size + 1, 0, none⟩) (v := .int .i64 b0) (by go_simp); replace bc1 := ck hb (a := ⟨w.heap.size + 1, 1, none⟩) (v := .int .i64 b1) (by go_simp); replace cc0 := ck hb (a := ⟨w.heap.size + 1 + 1, 0, none⟩) (v := .int .i64 c0) (by go_simp); replace cc1 := ck hb (a := ⟨w.heap.size + 1 + 1, 1, none⟩) (v := .int .i64 c1) (by go_simp); replace ddc0 := ck hb (a := ⟨w.heap.size + 1 + 1 + 1, 0, none⟩) (v := .int .i64 d0) (by go_simp); replace ddc1 := ck hb (a := ⟨w.heap.size + 1 + 1 + 1, 1, none⟩) (v := .int .i64 d1) (by go_simp); replace az : w.heap.size < w2.heap.size := World.block_lt_of_cell? w2 _ ac0; replace an : ¬ w.heap.size = w2.heap.size := Nat.ne_of_lt az; replace bz : w.heap.size + 1 < w2.heap.size := World.block_lt_of_cell? w2 _ bc0; replace bn : ¬ w.heap.size + 1 = w2.heap.size := Nat.ne_of_lt bz; replace bo : w.heap.size < w2.heap.size := Nat.lt_of_succ_lt bz; replace cz : w.heap.size + 1 + 1 < w2.heap.size := World.block_lt_of_cell? w2 _ cc0; replace cn : ¬ w.heap.size + 1 + 1 = w2.heap.size := Nat.ne_of_lt cz; replace co : w.heap.size + 1 < w2.heap.size := Nat.lt_of_succ_lt cz; replace ddz : w.heap.size + 1 + 1 + 1 < w2.heap.size := World.block_lt_of_cell? w2 _ ddc0; replace ddn : ¬ w.heap.size + 1 + 1 + 1 = w2.heap.size := Nat.ne_of_lt ddz; replace ddo : w.heap.size + 1 + 1 < w2.heap.size := Nat.lt_of_succ_lt ddz; replace HB : Below w.heap.size w w2 := bt (by repeat (first | (with_reducible exact HB) | (with_reducible exact Below.refl _ _) | (with_reducible apply bd) | (with_reducible apply ba) | (with_reducible refine bs ?_ (by first | (simp; done) | (simp; omega)) _))) hb; clear hb
  go_wp2_with fail
  refine region54_6 a0 a1 b0 b1 c0 c1 d0 d1 u0 u1 v0 v1 x0 x1 w.heap.size (w.heap.size + 1) (w.heap.size + 1 + 1) (w.heap.size + 1 + 1 + 1) w d0_ d1_ d2_ d3_ d4_ d5_ (by kernel_rfl) rfl rfl rfl rfl rfl ⟨ac0, ac1, bc0, bc1, cc0, cc1, ddc0, ddc1, bd HB⟩ (fun w3 hS => ?_)
  obtain ⟨ac0, ac1, bc0, bc1, cc0, cc1, ddc0, ddc1, HB⟩ := hS
  simp only [List.setIfInBounds_toArray, List.set_cons_zero, List.set_cons_succ]
  clear d0_ d1_ d2_ d3_ d4_ d5_ ho hv e1 e2 e3
  go_wp2_with fail
  refine (c7 _).mono ?_; rintro e w7 ⟨rfl, hb⟩; (with_reducible (repeat replace hb := undr hb)); replace ac0 := ck hb (a := ⟨w.heap.size, 0, none⟩) (v := .int .i64 a0) (by go_simp); replace ac1 := ck hb (a := ⟨w.heap.size, 1, none⟩) (v := .int .i64 a1) (by go_simp); replace bc0 := ck hb (a := ⟨w.heap.size + 1, 0, none⟩) (v := .int .i64 b0) (by go_simp); replace bc1 := ck hb (a := ⟨w.heap.size + 1, 1, none⟩) (v := .int .i64 b1) (by go_simp); replace cc0 := ck hb (a := ⟨w.heap.size + 1 + 1, 0, none⟩) (v := .int .i64 c0) (by go_simp); replace cc1 := ck hb (a := ⟨w.heap.size + 1 + 1, 1, none⟩) (v := .int .i64 c1) (by go_simp); replace ddc0 := ck hb (a := ⟨w.heap.size + 1 + 1 + 1, 0, none⟩) (v := .int .i64 d0) (by go_simp); replace ddc1 := ck hb (a := ⟨w.heap.size + 1 + 1 + 1, 1, none⟩) (v := .int .i64 d1) (by go_simp); replace az : w.heap.size < w7.heap.size := World.block_lt_of_cell? w7 _ ac0; replace an : ¬ w.heap.size = w7.heap.size := Nat.ne_of_lt az; replace bz : w.heap.size + 1 < w7.heap.size := World.block_lt_of_cell? w7 _ bc0; replace bn : ¬ w.heap.size + 1 = w7.heap.size := Nat.ne_of_lt bz; replace bo : w.heap.size < w7.heap.size := Nat.lt_of_succ_lt bz; replace cz : w.heap.size + 1 + 1 < w7.heap.size := World.block_lt_of_cell? w7 _ cc0; replace cn : ¬ w.heap.size + 1 + 1 = w7.heap.size := Nat.ne_of_lt cz; replace co : w.heap.size + 1 < w7.heap.size := Nat.lt_of_succ_lt cz; replace ddz : w.heap.size + 1 + 1 + 1 < w7.heap.size := World.block_lt_of_cell? w7 _ ddc0; replace ddn : ¬ w.heap.size + 1 + 1 + 1 = w7.heap.size := Nat.ne_of_lt ddz; replace ddo : w.heap.size + 1 + 1 < w7.heap.size := Nat.lt_of_succ_lt ddz; replace HB : Below w.heap.size w w7 := bt (by repeat (first | (with_reducible exact HB) | (with_reducible exact Below.refl _ _) | (with_reducible apply bd) | (with_reducible apply ba) | (with_reducible refine bs ?_ (by first | (simp; done) | (simp; omega)) _))) hb; clear hb
  clear g1_ g2_ g3_ g4_ g5_ g6_ c7
  have nea : ¬ w.heap.size = w7.heap.size := Nat.ne_of_lt az
  have neb : ¬ w.heap.size + 1 = w7.heap.size := Nat.ne_of_lt bz
  have nec : ¬ w.heap.size + 1 + 1 = w7.heap.size := Nat.ne_of_lt cz
  have ned : ¬ w.heap.size + 1 + 1 + 1 = w7.heap.size := Nat.ne_of_lt ddz
  have geZ : w.heap.size ≤ w7.heap.size := Nat.le_of_lt az
  go_wp2_with fail
  refine region54_8 a0 a1 b0 b1 c0 c1 d0 d1 u0 u1 v0 v1 x0 x1 z0 z1 p0 p1 q0 q1 y0 y1 h1 h2 h3 h4 h5 h6 w.heap.size (w.heap.size + 1) (w.heap.size + 1 + 1) (w.heap.size + 1 + 1 + 1) w7.heap.size w h1_ h2_ h3_ h4_ h5_ h6_ c8m c8n c8a nea neb nec ned (by kernel_rfl) rfl rfl rfl rfl rfl rfl rfl rfl geZ ⟨?_, ?_, ?_, ?_, ?_, ?_, ?_, ?_, ?_⟩ ⟨?_, ?_, ?_, ?_⟩ (fun w8 hS hN => ?_)
  iterate 8 (focus (go_simp; done))
  focus exact (by repeat (first | (with_reducible exact HB) | (with_reducible exact Below.refl _ _) | (with_reducible apply bd) | (with_reducible apply ba) | (with_reducible refine bs ?_ (by first | (simp; done) | (simp; omega)) _)))
  iterate 4 (focus (go_simp; done))
  obtain ⟨ac0, ac1, bc0, bc1, cc0, cc1, ddc0, ddc1, HB⟩ := hS
  obtain ⟨zf0, zf1, zc0, zc1⟩ := hN
  simp only [List.setIfInBounds_toArray, List.set_cons_zero, List.set_cons_succ]
  clear h1_ h2_ h3_ h4_ h5_ h6_ c8m c8n c8a
  go_wp2_with fail
  refine region54_9 a0 a1 b0 b1 c0 c1 d0 d1 u0 u1 v0 v1 x0 x1 y0 y1 r0 r1 s0 s1 j1 j2 j3 j4 j5 j6 w.heap.size (w.heap.size + 1) (w.heap.size + 1 + 1) (w.heap.size + 1 + 1 + 1) w7.heap.size w j1_ j2_ j3_ j4_ j5_ j6_ c9m c9a nea neb nec ned (by kernel_rfl) rfl rfl rfl rfl rfl rfl rfl rfl geZ ⟨ac0, ac1, bc0, bc1, cc0, cc1, ddc0, ddc1, HB⟩ ⟨zf0, zf1, zc0, zc1⟩ (fun w9 hS hN => ?_)
  obtain ⟨ac0, ac1, bc0, bc1, cc0, cc1, ddc0, ddc1, HB⟩ := hS
  obtain ⟨zf0, zf1, zc0, zc1⟩ := hN
  simp only [List.setIfInBounds_toArray, List.set_cons_zero, List.set_cons_succ]
  clear j1_ j2_ j3_ j4_ j5_ j6_ c9m c9a zf0 zf1 nea neb nec ned geZ
  go_wp2_with fail
  refine (c10 _).mono ?_; rintro e w10 ⟨rfl, hb⟩; (with_reducible (repeat replace hb := undr hb)); replace ac0 := ck hb (a := ⟨w.heap.size, 0, none⟩) (v := .int .i64 a0) (by go_simp); replace ac1 := ck hb (a := ⟨w.heap.size, 1, none⟩) (v := .int .i64 a1) (by go_simp); replace bc0 := ck hb (a := ⟨w.heap.size + 1, 0, none⟩) (v := .int .i64 b0) (by go_simp); replace bc1 := ck hb (a := ⟨w.heap.size + 1, 1, none⟩) (v := .int .i64 b1) (by go_simp); replace cc0 := ck hb (a := ⟨w.heap.size + 1 + 1, 0, none⟩) (v := .int .i64 c0) (by go_simp); replace cc1 := ck hb (a := ⟨w.heap.size + 1 + 1, 1, none⟩) (v := .int .i64 c1) (by go_simp); replace ddc0 := ck hb (a := ⟨w.heap.size + 1 + 1 + 1, 0, none⟩) (v := .int .i64 d0) (by go_simp); replace ddc1 := ck hb (a := ⟨w.heap.size + 1 + 1 + 1, 1, none⟩) (v := .int .i64 d1) (by go_simp); replace az : w.heap.size < w10.heap.size := World.block_lt_of_cell? w10 _ ac0; replace an : ¬ w.heap.size = w10.heap.size := Nat.ne_of_lt az; replace bz : w.heap.size + 1 < w10.heap.size := World.block_lt_of_cell? w10 _ bc0; replace bn : ¬ w.heap.size + 1 = w10.heap.size := Nat.ne_of_lt bz; replace bo : w.heap.size < w10.heap.size := Nat.lt_of_succ_lt bz; replace cz : w.heap.size + 1 + 1 < w10.heap.size := World.block_lt_of_cell? w10 _ cc0; replace cn : ¬ w.heap.size + 1 + 1 = w10.heap.size := Nat.ne_of_lt cz; replace co : w.heap.size + 1 < w10.heap.size := Nat.lt_of_succ_lt cz; replace ddz : w.heap.size + 1 + 1 + 1 < w10.heap.size := World.block_lt_of_cell? w10 _ ddc0; replace ddn : ¬ w.heap.size + 1 + 1 + 1 = w10.heap.size := Nat.ne_of_lt ddz; replace ddo : w.heap.size + 1 + 1 < w10.heap.size := Nat.lt_of_succ_lt ddz; replace HB : Below w.heap.size w w10 := bt (by repeat (first | (with_reducible exact HB) | (with_reducible exact Below.refl _ _) | (with_reducible apply bd) | (with_reducible apply ba) | (with_reducible refine bs ?_ (by first | (simp; done) | (simp; omega)) _))) hb; clear hb
  clear zc0 zc1 c10
  have ead := pt_beq nda.symm
  have ebd := pt_beq ndb.symm
  have ecd := pt_beq ndc.symm
  have eba := pt_beq nab.symm
  have eca := pt_beq nac.symm
  have ecb := pt_beq nbc.symm
  have neal : ¬ w.heap.size = w10.heap.size := Nat.ne_of_lt az
  have nebl : ¬ w.heap.size + 1 = w10.heap.size := Nat.ne_of_lt bz
  have necl : ¬ w.heap.size + 1 + 1 = w10.heap.size := Nat.ne_of_lt cz
  have neddl : ¬ w.heap.size + 1 + 1 + 1 = w10.heap.size := Nat.ne_of_lt ddz
  go_wp2_with fail
  refine (cmp51 _ _ _ _ _).mono ?_; rintro e w11 ⟨rfl, hb⟩; (with_reducible (repeat replace hb := undr hb)); replace lf0 := cf hb (b := w10.heap.size) (o := 0) (by first | exact lz | exact World.block_lt_of_cell? _ _ lc0 | (simp; done) | (simp; omega) | omega) (by go_simp); replace lf1 := cf hb (b := w10.heap.size) (o := 1) (by first | exact lz | exact World.block_lt_of_cell? _ _ lc0 | (simp; done) | (simp; omega) | omega) (by go_simp); replace ac0 := ck hb (a := ⟨w.heap.size, 0, none⟩) (v := .int .i64 a0) (by go_simp); replace ac1 := ck hb (a := ⟨w.heap.size, 1, none⟩) (v := .int .i64 a1) (by go_simp); replace bc0 := ck hb (a := ⟨w.heap.size + 1, 0, none⟩) (v := .int .i64 b0) (by go_simp); replace bc1 := ck hb (a := ⟨w.heap.size + 1, 1, none⟩) (v := .int .i64 b1) (by go_simp); replace cc0 := ck hb (a := ⟨w.heap.size + 1 + 1, 0, none⟩) (v := .int .i64 c0) (by go_simp); replace cc1 := ck hb (a := ⟨w.heap.size + 1 + 1, 1, none⟩) (v := .int .i64 c1) (by go_simp); replace ddc0 := ck hb (a := ⟨w.heap.size + 1 + 1 + 1, 0, none⟩) (v := .int .i64 d0) (by go_simp); replace ddc1 := ck hb (a := ⟨w.heap.size + 1 + 1 + 1, 1, none⟩) (v := .int .i64 d1) (by go_simp); replace lc0 := ck hb (a := ⟨w10.heap.size, 0, none⟩) (v := .int .i64 d0) (by go_simp); replace lc1 := ck hb (a := ⟨w10.heap.size, 1, none⟩) (v := .int .i64 d1) (by go_simp); replace HB : Below w.heap.size w w11 := bt (by repeat (first | (with_reducible exact HB) | (with_reducible exact Below.refl _ _) | (with_reducible apply bd) | (with_reducible apply ba) | (with_reducible refine bs ?_ (by first | (simp; done) | (simp; omega)) _))) hb; clear hb
  cases n1 : decide (cmpP ⟨a0, a1⟩ ⟨d0, d1⟩ < 0)
  · go_wp2_with fail
    refine (cmp51 _ _ _ _ _).mono ?_; rintro e w12 ⟨rfl, hb⟩; (with_reducible (repeat replace hb := undr hb)); replace lf0 := cf hb (World.block_lt_of_cell? _ _ lc0) (lf0); replace lf1 := cf hb (World.block_lt_of_cell? _ _ lc0) (lf1); replace ac0 := ck hb (ac0); replace ac1 := ck hb (ac1); replace bc0 := ck hb (bc0); replace bc1 := ck hb (bc1); replace cc0 := ck hb (cc0); replace cc1 := ck hb (cc1); replace ddc0 := ck hb (ddc0); replace ddc1 := ck hb (ddc1); replace lc0 := ck hb (lc0); replace lc1 := ck hb (lc1); replace HB : Below w.heap.size w w12 := bt (by repeat (first | (with_reducible exact HB) | (with_reducible exact Below.refl _ _) | (with_reducible apply bd) | (with_reducible apply ba) | (with_reducible refine bs ?_ (by first | (simp; done) | (simp; omega)) _))) hb; clear hb
    cases n2 : decide (cmpP ⟨b0, b1⟩ ⟨d0, d1⟩ < 0)
    · go_wp2_with fail
      refine (cmp51 _ _ _ _ _).mono ?_; rintro e w13 ⟨rfl, hb⟩; (with_reducible (repeat replace hb := undr hb)); replace lf0 := cf hb (World.block_lt_of_cell? _ _ lc0) (lf0); replace lf1 := cf hb (World.block_lt_of_cell? _ _ lc0) (lf1); replace ac0 := ck hb (ac0); replace ac1 := ck hb (ac1); replace bc0 := ck hb (bc0); replace bc1 := ck hb (bc1); replace cc0 := ck hb (cc0); replace cc1 := ck hb (cc1); replace ddc0 := ck hb (ddc0); replace ddc1 := ck hb (ddc1); replace lc0 := ck hb (lc0); replace lc1 := ck hb (lc1); replace HB : Below w.heap.size w w13 := bt (by repeat (first | (with_reducible exact HB) | (with_reducible exact Below.refl _ _) | (with_reducible apply bd) | (with_reducible apply ba) | (with_reducible refine bs ?_ (by first | (simp; done) | (simp; omega)) _))) hb; clear hb
      cases n3 : decide (cmpP ⟨c0, c1⟩ ⟨d0, d1⟩ < 0)
      · have hl : leastP ⟨a0, a1⟩ ⟨b0, b1⟩ ⟨c0, c1⟩ ⟨d0, d1⟩ = ⟨d0, d1⟩ := by unfold leastP; rw [minP_no n1, minP_no n2, minP_no n3]
        have ht := tie_d hl
        clear hl
        go_wp2
        go_ret
        exact ⟨by rw [ht]; rfl, by repeat (first | (with_reducible exact HB) | (with_reducible exact Below.refl _ _) | (with_reducible apply bd) | (with_reducible apply ba) | (with_reducible refine bs ?_ (by first | (simp; done) | (simp; omega)) _))⟩
      · have hl : leastP ⟨a0, a1⟩ ⟨b0, b1⟩ ⟨c0, c1⟩ ⟨d0, d1⟩ = ⟨c0, c1⟩ := by unfold leastP; rw [minP_no n1, minP_no n2, minP_yes n3]
        have hn := neg_ori ⟨a0, a1⟩ ⟨b0, b1⟩ ⟨d0, d1⟩
        have ht := tie_c hl ndc.symm nac.symm nbc.symm
        clear hl
        go_wp2_with (go_at_call 37; refine (ori37 _ _ _ _ _ _ _).mono ?_; rintro e w14 ⟨rfl, hb⟩; (with_reducible (repeat replace hb := undr hb)); replace HB : Below w.heap.size w w14 := bt (by repeat (first | (with_reducible exact HB) | (with_reducible exact Below.refl _ _) | (with_reducible apply bd) | (with_reducible apply ba) | (with_reducible refine bs ?_ (by first | (simp; done) | (simp; omega)) _))) hb; clear hb)
        go_ret
        exact ⟨by rw [ht]; rfl, by repeat (first | (with_reducible exact HB) | (with_reducible exact Below.refl _ _) | (with_reducible apply bd) | (with_reducible apply ba) | (with_reducible refine bs ?_ (by first | (simp; done) | (simp; omega)) _))⟩
    · go_wp2_with fail
      refine (cmp51 _ _ _ _ _).mono ?_; rintro e w13 ⟨rfl, hb⟩; (with_reducible (repeat replace hb := undr hb)); replace lf0 := cf hb (szl (szl (World.block_lt_of_cell? _ _ lc0))) (sf (sf (lf0))); replace lf1 := cf hb (szl (szl (World.block_lt_of_cell? _ _ lc0))) (sf (sf (lf1))); replace ac0 := ck hb (so (so (ac0) neal) neal); replace ac1 := ck hb (so (so (ac1) neal) neal); replace bc0 := ck hb (so (so (bc0) nebl) nebl); replace bc1 := ck hb (so (so (bc1) nebl) nebl); replace cc0 := ck hb (so (so (cc0) necl) necl); replace cc1 := ck hb (so (so (cc1) necl) necl); replace ddc0 := ck hb (so (so (ddc0) neddl) neddl); replace ddc1 := ck hb (so (so (ddc1) neddl) neddl); replace lc0 := ck hb (sb (ss (lc0)) (by decide)); replace lc1 := ck hb (ss (sb (lc1) (by decide))); replace HB : Below w.heap.size w w13 := bt (by repeat (first | (with_reducible exact HB) | (with_reducible exact Below.refl _ _) | (with_reducible apply bd) | (with_reducible apply ba) | (with_reducible refine bs ?_ (by first | (simp; done) | (simp; omega)) _))) hb; clear hb
      cases n3 : decide (cmpP ⟨c0, c1⟩ ⟨b0, b1⟩ < 0)
      · have hl : leastP ⟨a0, a1⟩ ⟨b0, b1⟩ ⟨c0, c1⟩ ⟨d0, d1⟩ = ⟨b0, b1⟩ := by unfold leastP; rw [minP_no n1, minP_yes n2, minP_no n3]
        have hn := neg_ori ⟨a0, a1⟩ ⟨d0, d1⟩ ⟨c0, c1⟩
        have ht := tie_b hl ndb.symm nab.symm
        clear hl
        go_wp2_with (go_at_call 37; refine (ori37 _ _ _ _ _ _ _).mono ?_; rintro e w14 ⟨rfl, hb⟩; (with_reducible (repeat replace hb := undr hb)); replace HB : Below w.heap.size w w14 := bt (by repeat (first | (with_reducible exact HB) | (with_reducible exact Below.refl _ _) | (with_reducible apply bd) | (with_reducible apply ba) | (with_reducible refine bs ?_ (by first | (simp; done) | (simp; omega)) _))) hb; clear hb)
        go_ret
        exact ⟨by rw [ht]; rfl, by repeat (first | (with_reducible exact HB) | (with_reducible exact Below.refl _ _) | (with_reducible apply bd) | (with_reducible apply ba) | (with_reducible refine bs ?_ (by first | (simp; done) | (simp; omega)) _))⟩
      · have hl : leastP ⟨a0, a1⟩ ⟨b0, b1⟩ ⟨c0, c1⟩ ⟨d0, d1⟩ = ⟨c0, c1⟩ := by unfold leastP; rw [minP_no n1, minP_yes n2, minP_yes n3]
        have hn := neg_ori ⟨a0, a1⟩ ⟨b0, b1⟩ ⟨d0, d1⟩
        have ht := tie_c hl ndc.symm nac.symm nbc.symm
        clear hl
        go_wp2_with (go_at_call 37; refine (ori37 _ _ _ _ _ _ _).mono ?_; rintro e w14 ⟨rfl, hb⟩; (with_reducible (repeat replace hb := undr hb)); replace HB : Below w.heap.size w w14 := bt (by repeat (first | (with_reducible exact HB) | (with_reducible exact Below.refl _ _) | (with_reducible apply bd) | (with_reducible apply ba) | (with_reducible refine bs ?_ (by first | (simp; done) | (simp; omega)) _))) hb; clear hb)
        go_ret
        exact ⟨by rw [ht]; rfl, by repeat (first | (with_reducible exact HB) | (with_reducible exact Below.refl _ _) | (with_reducible apply bd) | (with_reducible apply ba) | (with_reducible refine bs ?_ (by first | (simp; done) | (simp; omega)) _))⟩
  · go_wp2_with fail
    refine (cmp51 _ _ _ _ _).mono ?_; rintro e w12 ⟨rfl, hb⟩; (with_reducible (repeat replace hb := undr hb)); replace lf0 := cf hb (szl (szl (World.block_lt_of_cell? _ _ lc0))) (sf (sf (lf0))); replace lf1 := cf hb (szl (szl (World.block_lt_of_cell? _ _ lc0))) (sf (sf (lf1))); replace ac0 := ck hb (so (so (ac0) neal) neal); replace ac1 := ck hb (so (so (ac1) neal) neal); replace bc0 := ck hb (so (so (bc0) nebl) nebl); replace bc1 := ck hb (so (so (bc1) nebl) nebl); replace cc0 := ck hb (so (so (cc0) necl) necl); replace cc1 := ck hb (so (so (cc1) necl) necl); replace ddc0 := ck hb (so (so (ddc0) neddl) neddl); replace ddc1 := ck hb (so (so (ddc1) neddl) neddl); replace lc0 := ck hb (sb (ss (lc0)) (by decide)); replace lc1 := ck hb (ss (sb (lc1) (by decide))); replace HB : Below w.heap.size w w12 := bt (by repeat (first | (with_reducible exact HB) | (with_reducible exact Below.refl _ _) | (with_reducible apply bd) | (with_reducible apply ba) | (with_reducible refine bs ?_ (by first | (simp; done) | (simp; omega)) _))) hb; clear hb
    cases n2 : decide (cmpP ⟨b0, b1⟩ ⟨a0, a1⟩ < 0)
    · go_wp2_with fail
      refine (cmp51 _ _ _ _ _).mono ?_; rintro e w13 ⟨rfl, hb⟩; (with_reducible (repeat replace hb := undr hb)); replace lf0 := cf hb (World.block_lt_of_cell? _ _ lc0) (lf0); replace lf1 := cf hb (World.block_lt_of_cell? _ _ lc0) (lf1); replace ac0 := ck hb (ac0); replace ac1 := ck hb (ac1); replace bc0 := ck hb (bc0); replace bc1 := ck hb (bc1); replace cc0 := ck hb (cc0); replace cc1 := ck hb (cc1); replace ddc0 := ck hb (ddc0); replace ddc1 := ck hb (ddc1); replace lc0 := ck hb (lc0); replace lc1 := ck hb (lc1); replace HB : Below w.heap.size w w13 := bt (by repeat (first | (with_reducible exact HB) | (with_reducible exact Below.refl _ _) | (with_reducible apply bd) | (with_reducible apply ba) | (with_reducible refine bs ?_ (by first | (simp; done) | (simp; omega)) _))) hb; clear hb
      cases n3 : decide (cmpP ⟨c0, c1⟩ ⟨a0, a1⟩ < 0)
      · have hl : leastP ⟨a0, a1⟩ ⟨b0, b1⟩ ⟨c0, c1⟩ ⟨d0, d1⟩ = ⟨a0, a1⟩ := by unfold leastP; rw [minP_yes n1, minP_no n2, minP_no n3]
        have hn := neg_ori ⟨d0, d1⟩ ⟨b0, b1⟩ ⟨c0, c1⟩
        have ht := tie_a hl nda.symm
        clear hl
        go_wp2_with (go_at_call 37; refine (ori37 _ _ _ _ _ _ _).mono ?_; rintro e w14 ⟨rfl, hb⟩; (with_reducible (repeat replace hb := undr hb)); replace HB : Below w.heap.size w w14 := bt (by repeat (first | (with_reducible exact HB) | (with_reducible exact Below.refl _ _) | (with_reducible apply bd) | (with_reducible apply ba) | (with_reducible refine bs ?_ (by first | (simp; done) | (simp; omega)) _))) hb; clear hb)
        go_ret
        exact ⟨by rw [ht]; rfl, by repeat (first | (with_reducible exact HB) | (with_reducible exact Below.refl _ _) | (with_reducible apply bd) | (with_reducible apply ba) | (with_reducible refine bs ?_ (by first | (simp; done) | (simp; omega)) _))⟩
      · have hl : leastP ⟨a0, a1⟩ ⟨b0, b1⟩ ⟨c0, c1⟩ ⟨d0, d1⟩ = ⟨c0, c1⟩ := by unfold leastP; rw [minP_yes n1, minP_no n2, minP_yes n3]
        have hn := neg_ori ⟨a0, a1⟩ ⟨b0, b1⟩ ⟨d0, d1⟩
        have ht := tie_c hl ndc.symm nac.symm nbc.symm
        clear hl
        go_wp2_with (go_at_call 37; refine (ori37 _ _ _ _ _ _ _).mono ?_; rintro e w14 ⟨rfl, hb⟩; (with_reducible (repeat replace hb := undr hb)); replace HB : Below w.heap.size w w14 := bt (by repeat (first | (with_reducible exact HB) | (with_reducible exact Below.refl _ _) | (with_reducible apply bd) | (with_reducible apply ba) | (with_reducible refine bs ?_ (by first | (simp; done) | (simp; omega)) _))) hb; clear hb)
        go_ret
        exact ⟨by rw [ht]; rfl, by repeat (first | (with_reducible exact HB) | (with_reducible exact Below.refl _ _) | (with_reducible apply bd) | (with_reducible apply ba) | (with_reducible refine bs ?_ (by first | (simp; done) | (simp; omega)) _))⟩
    · go_wp2_with fail
      refine (cmp51 _ _ _ _ _).mono ?_; rintro e w13 ⟨rfl, hb⟩; (with_reducible (repeat replace hb := undr hb)); replace lf0 := cf hb (szl (szl (World.block_lt_of_cell? _ _ lc0))) (sf (sf (lf0))); replace lf1 := cf hb (szl (szl (World.block_lt_of_cell? _ _ lc0))) (sf (sf (lf1))); replace ac0 := ck hb (so (so (ac0) neal) neal); replace ac1 := ck hb (so (so (ac1) neal) neal); replace bc0 := ck hb (so (so (bc0) nebl) nebl); replace bc1 := ck hb (so (so (bc1) nebl) nebl); replace cc0 := ck hb (so (so (cc0) necl) necl); replace cc1 := ck hb (so (so (cc1) necl) necl); replace ddc0 := ck hb (so (so (ddc0) neddl) neddl); replace ddc1 := ck hb (so (so (ddc1) neddl) neddl); replace lc0 := ck hb (sb (ss (lc0)) (by decide)); replace lc1 := ck hb (ss (sb (lc1) (by decide))); replace HB : Below w.heap.size w w13 := bt (by repeat (first | (with_reducible exact HB) | (with_reducible exact Below.refl _ _) | (with_reducible apply bd) | (with_reducible apply ba) | (with_reducible refine bs ?_ (by first | (simp; done) | (simp; omega)) _))) hb; clear hb
      cases n3 : decide (cmpP ⟨c0, c1⟩ ⟨b0, b1⟩ < 0)
      · have hl : leastP ⟨a0, a1⟩ ⟨b0, b1⟩ ⟨c0, c1⟩ ⟨d0, d1⟩ = ⟨b0, b1⟩ := by unfold leastP; rw [minP_yes n1, minP_yes n2, minP_no n3]
        have hn := neg_ori ⟨a0, a1⟩ ⟨d0, d1⟩ ⟨c0, c1⟩
        have ht := tie_b hl ndb.symm nab.symm
        clear hl
        go_wp2_with (go_at_call 37; refine (ori37 _ _ _ _ _ _ _).mono ?_; rintro e w14 ⟨rfl, hb⟩; (with_reducible (repeat replace hb := undr hb)); replace HB : Below w.heap.size w w14 := bt (by repeat (first | (with_reducible exact HB) | (with_reducible exact Below.refl _ _) | (with_reducible apply bd) | (with_reducible apply ba) | (with_reducible refine bs ?_ (by first | (simp; done) | (simp; omega)) _))) hb; clear hb)
        go_ret
        exact ⟨by rw [ht]; rfl, by repeat (first | (with_reducible exact HB) | (with_reducible exact Below.refl _ _) | (with_reducible apply bd) | (with_reducible apply ba) | (with_reducible refine bs ?_ (by first | (simp; done) | (simp; omega)) _))⟩
      · have hl : leastP ⟨a0, a1⟩ ⟨b0, b1⟩ ⟨c0, c1⟩ ⟨d0, d1⟩ = ⟨c0, c1⟩ := by unfold leastP; rw [minP_yes n1, minP_yes n2, minP_yes n3]
        have hn := neg_ori ⟨a0, a1⟩ ⟨b0, b1⟩ ⟨d0, d1⟩
        have ht := tie_c hl ndc.symm nac.symm nbc.symm
        clear hl
        go_wp2_with (go_at_call 37; refine (ori37 _ _ _ _ _ _ _).mono ?_; rintro e w14 ⟨rfl, hb⟩; (with_reducible (repeat replace hb := undr hb)); replace HB : Below w.heap.size w w14 := bt (by repeat (first | (with_reducible exact HB) | (with_reducible exact Below.refl _ _) | (with_reducible apply bd) | (with_reducible apply ba) | (with_reducible refine bs ?_ (by first | (simp; done) | (simp; omega)) _))) hb; clear hb)
        go_ret
        exact ⟨by rw [ht]; rfl, by repeat (first | (with_reducible exact HB) | (with_reducible exact Below.refl _ _) | (with_reducible apply bd) | (with_reducible apply ba) | (with_reducible refine bs ?_ (by first | (simp; done) | (simp; omega)) _))⟩

end Go.Proofs.Ytandgbpbabmdfaa
