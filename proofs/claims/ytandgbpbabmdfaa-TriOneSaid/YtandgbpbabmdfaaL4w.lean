import Derived.Test.YtandgbpbabmdfaaR4
import Derived.Test.YtandgbpbabmdfaaR4b
import Derived.Test.YtandgbpbabmdfaaR4c
import Derived.Test.YtandgbpbabmdfaaNe
namespace Go.Proofs.Ytandgbpbabmdfaa
open Go.RowKit
attribute [local go_sem high] eq23 eq25 mn_two mx_two mn_three mx_three mx_four

set_option maxHeartbeats 4000000 in
set_option maxRecDepth 100000 in
theorem triOne_no (a0 a1 b0 b1 c0 c1 : Int) (w : World) (hm : mkT ⟨a0, a1⟩ ⟨b0, b1⟩ ⟨c0, c1⟩ = (⟨⟨0, 0⟩, ⟨0, 0⟩, ⟨0, 0⟩⟩, false)) (ho : ori ⟨a0, a1⟩ ⟨b0, b1⟩ ⟨c0, c1⟩ = 0) :
    Calls Try.prog 4 #[.agg #[.int .i64 a0, .int .i64 a1], .agg #[.int .i64 b0, .int .i64 b1], .agg #[.int .i64 c0, .int .i64 c1]] w fun e w' => e = .returned (.bool true) ∧ Below w.heap.size w w' := by
  replace ho := Lib.hid ho
  have HB := Below.refl w.heap.size w
  obtain ⟨M1, M2, M3, M4, M5⟩ : _ ∧ _ ∧ _ ∧ _ ∧ _ := mkT_orders ⟨a0, a1⟩ ⟨b0, b1⟩ ⟨c0, c1⟩
  rw [hm] at M1 M2 M3 M4 M5
  replace M1 := Lib.hid M1
  replace M2 := Lib.hid M2
  replace M3 := Lib.hid M3
  replace M4 := Lib.hid M4
  replace M5 := Lib.hid M5
  replace hm := Lib.hid hm
  go_enter Try.func4, Try.ntmps4
  generalize hR : Code.region 2 _ false = C2
  go_wp2_with fail
  refine (make20 _ _ _ _ _ _ _).mono ?_; rw [hm.out]; rintro e w1 ⟨rfl, hb⟩; (with_reducible (repeat replace hb := undr hb)); replace ac0 := ck hb (a := ⟨w.heap.size, 0, none⟩) (v := .int .i64 a0) (by go_simp); replace ac1 := ck hb (a := ⟨w.heap.size, 1, none⟩) (v := .int .i64 a1) (by go_simp); replace bc0 := ck hb (a := ⟨w.heap.size + 1, 0, none⟩) (v := .int .i64 b0) (by go_simp); replace bc1 := ck hb (a := ⟨w.heap.size + 1, 1, none⟩) (v := .int .i64 b1) (by go_simp); replace cc0 := ck hb (a := ⟨w.heap.size + 1 + 1, 0, none⟩) (v := .int .i64 c0) (by go_simp); replace cc1 := ck hb (a := ⟨w.heap.size + 1 + 1, 1, none⟩) (v := .int .i64 c1) (by go_simp); replace az : w.heap.size < w1.heap.size := World.block_lt_of_cell? w1 _ ac0; replace an : ¬ w.heap.size = w1.heap.size := Nat.ne_of_lt az; replace bz : w.heap.size + 1 < w1.heap.size := World.block_lt_of_cell? w1 _ bc0; replace bn : ¬ w.heap.size + 1 = w1.heap.size := Nat.ne_of_lt bz; replace bo : w.heap.size < w1.heap.size := Nat.lt_of_succ_lt bz; replace cz : w.heap.size + 1 + 1 < w1.heap.size := World.block_lt_of_cell? w1 _ cc0; replace cn : ¬ w.heap.size + 1 + 1 = w1.heap.size := Nat.ne_of_lt cz; replace co : w.heap.size + 1 < w1.heap.size := Nat.lt_of_succ_lt cz; replace HB : Below w.heap.size w w1 := bt (by repeat (first | (with_reducible exact HB) | (with_reducible exact Below.refl _ _) | (with_reducible apply bd) | (with_reducible apply ba) | (with_reducible refine bs ?_ (by first | (simp; done) | (simp; omega)) _))) hb; clear hb
  clear hm
  go_wp2_with fail
  subst hR
  refine region4_2 a0 a1 b0 b1 c0 c1 w.heap.size (w.heap.size + 1) (w.heap.size + 1 + 1) (by kernel_rfl) rfl rfl rfl rfl (by go_simp) (by go_simp) (by go_simp) (by go_simp) (by go_simp) (by go_simp) ?_
  intro kl wx hkl hwx
  simp only [List.setIfInBounds_toArray, List.set_cons_zero, List.set_cons_succ]
  have tc0 : wx.cell? ⟨w1.heap.size, 0, none⟩ = some (.int .i64 0) := by rw [hwx]; go_simp
  have tc1 : wx.cell? ⟨w1.heap.size, 1, none⟩ = some (.int .i64 0) := by rw [hwx]; go_simp
  have tc2 : wx.cell? ⟨w1.heap.size, 2, none⟩ = some (.int .i64 0) := by rw [hwx]; go_simp
  have tc3 : wx.cell? ⟨w1.heap.size, 3, none⟩ = some (.int .i64 0) := by rw [hwx]; go_simp
  have tc4 : wx.cell? ⟨w1.heap.size, 4, none⟩ = some (.int .i64 0) := by rw [hwx]; go_simp
  have tc5 : wx.cell? ⟨w1.heap.size, 5, none⟩ = some (.int .i64 0) := by rw [hwx]; go_simp
  have ax0 : wx.cell? ⟨w.heap.size, 0, none⟩ = some (.int .i64 a0) := by rw [hwx]; go_simp
  have ax1 : wx.cell? ⟨w.heap.size, 1, none⟩ = some (.int .i64 a1) := by rw [hwx]; go_simp
  have bx0 : wx.cell? ⟨w.heap.size + 1, 0, none⟩ = some (.int .i64 b0) := by rw [hwx]; go_simp
  have bx1 : wx.cell? ⟨w.heap.size + 1, 1, none⟩ = some (.int .i64 b1) := by rw [hwx]; go_simp
  have cx0 : wx.cell? ⟨w.heap.size + 1 + 1, 0, none⟩ = some (.int .i64 c0) := by rw [hwx]; go_simp
  have cx1 : wx.cell? ⟨w.heap.size + 1 + 1, 1, none⟩ = some (.int .i64 c1) := by rw [hwx]; go_simp
  have lc0 : wx.cell? ⟨kl, 0, none⟩ = some (.int .i64 a0) := by rw [hwx, hkl]; go_simp
  have lc1 : wx.cell? ⟨kl, 1, none⟩ = some (.int .i64 a1) := by rw [hwx, hkl]; go_simp
  have lc2 : wx.cell? ⟨kl, 2, none⟩ = some (.int .i64 c0) := by rw [hwx, hkl]; go_simp
  have lc3 : wx.cell? ⟨kl, 3, none⟩ = some (.int .i64 c1) := by rw [hwx, hkl]; go_simp
  have lc4 : wx.cell? ⟨kl, 4, none⟩ = some (.int .i64 b0) := by rw [hwx, hkl]; go_simp
  have lc5 : wx.cell? ⟨kl, 5, none⟩ = some (.int .i64 b1) := by rw [hwx, hkl]; go_simp
  have lc6 : wx.cell? ⟨kl, 6, none⟩ = some (.int .i64 b0) := by rw [hwx, hkl]; go_simp
  have lc7 : wx.cell? ⟨kl, 7, none⟩ = some (.int .i64 b1) := by rw [hwx, hkl]; go_simp
  have lc8 : wx.cell? ⟨kl, 8, none⟩ = some (.int .i64 a0) := by rw [hwx, hkl]; go_simp
  have lc9 : wx.cell? ⟨kl, 9, none⟩ = some (.int .i64 a1) := by rw [hwx, hkl]; go_simp
  have lc10 : wx.cell? ⟨kl, 10, none⟩ = some (.int .i64 c0) := by rw [hwx, hkl]; go_simp
  have lc11 : wx.cell? ⟨kl, 11, none⟩ = some (.int .i64 c1) := by rw [hwx, hkl]; go_simp
  have lc12 : wx.cell? ⟨kl, 12, none⟩ = some (.int .i64 b0) := by rw [hwx, hkl]; go_simp
  have lc13 : wx.cell? ⟨kl, 13, none⟩ = some (.int .i64 b1) := by rw [hwx, hkl]; go_simp
  have lc14 : wx.cell? ⟨kl, 14, none⟩ = some (.int .i64 c0) := by rw [hwx, hkl]; go_simp
  have lc15 : wx.cell? ⟨kl, 15, none⟩ = some (.int .i64 c1) := by rw [hwx, hkl]; go_simp
  have lc16 : wx.cell? ⟨kl, 16, none⟩ = some (.int .i64 a0) := by rw [hwx, hkl]; go_simp
  have lc17 : wx.cell? ⟨kl, 17, none⟩ = some (.int .i64 a1) := by rw [hwx, hkl]; go_simp
  have lc18 : wx.cell? ⟨kl, 18, none⟩ = some (.int .i64 c0) := by rw [hwx, hkl]; go_simp
  have lc19 : wx.cell? ⟨kl, 19, none⟩ = some (.int .i64 c1) := by rw [hwx, hkl]; go_simp
  have lc20 : wx.cell? ⟨kl, 20, none⟩ = some (.int .i64 a0) := by rw [hwx, hkl]; go_simp
  have lc21 : wx.cell? ⟨kl, 21, none⟩ = some (.int .i64 a1) := by rw [hwx, hkl]; go_simp
  have lc22 : wx.cell? ⟨kl, 22, none⟩ = some (.int .i64 b0) := by rw [hwx, hkl]; go_simp
  have lc23 : wx.cell? ⟨kl, 23, none⟩ = some (.int .i64 b1) := by rw [hwx, hkl]; go_simp
  have lc24 : wx.cell? ⟨kl, 24, none⟩ = some (.int .i64 c0) := by rw [hwx, hkl]; go_simp
  have lc25 : wx.cell? ⟨kl, 25, none⟩ = some (.int .i64 c1) := by rw [hwx, hkl]; go_simp
  have lc26 : wx.cell? ⟨kl, 26, none⟩ = some (.int .i64 b0) := by rw [hwx, hkl]; go_simp
  have lc27 : wx.cell? ⟨kl, 27, none⟩ = some (.int .i64 b1) := by rw [hwx, hkl]; go_simp
  have lc28 : wx.cell? ⟨kl, 28, none⟩ = some (.int .i64 a0) := by rw [hwx, hkl]; go_simp
  have lc29 : wx.cell? ⟨kl, 29, none⟩ = some (.int .i64 a1) := by rw [hwx, hkl]; go_simp
  replace HB : Below w.heap.size w wx := by rw [hwx]; exact ba (ba HB _) _
  have HL := Below.refl wx.heap.size wx
  clear hwx hkl ac0 ac1 az an bc0 bc1 bz bn cc0 cc1 cz cn bo co
  go_wp2_with fail
  refine wp_loop_rounds 6 ?_
  rw [rounds_succ]
  go_wp2_with fail
  refine region4_6_0 a0 a1 c0 c1 b0 b1 0 0 0 0 0 0 kl false wx M1.out (by kernel_rfl) rfl rfl rfl ⟨ck HL lc0, ck HL lc1, ck HL lc2, ck HL lc3, ck HL lc4, ck HL lc5, HL⟩ (fun ks0 wq0 hS hN => ?_)
  obtain ⟨-, -, -, -, -, -, HL⟩ := hS
  obtain ⟨s0, s1, s2, s3, s4, s5, -⟩ := hN
  have tq0 := ck HL tc0
  have tq1 := ck HL tc1
  have tq2 := ck HL tc2
  have tq3 := ck HL tc3
  have tq4 := ck HL tc4
  have tq5 := ck HL tc5
  simp only [List.setIfInBounds_toArray, List.set_cons_zero, List.set_cons_succ]
  go_wp2_with fail
  clear s0 s1 s2 s3 s4 s5 tq0 tq1 tq2 tq3 tq4 tq5
  rw [rounds_succ]
  go_wp2_with fail
  refine region4_6_1 b0 b1 a0 a1 c0 c1 0 0 0 0 0 0 kl false wx M2.out (by kernel_rfl) rfl rfl rfl ⟨ck HL lc6, ck HL lc7, ck HL lc8, ck HL lc9, ck HL lc10, ck HL lc11, HL⟩ (fun ks1 wq1 hS hN => ?_)
  obtain ⟨-, -, -, -, -, -, HL⟩ := hS
  obtain ⟨s0, s1, s2, s3, s4, s5, -⟩ := hN
  have tq0 := ck HL tc0
  have tq1 := ck HL tc1
  have tq2 := ck HL tc2
  have tq3 := ck HL tc3
  have tq4 := ck HL tc4
  have tq5 := ck HL tc5
  simp only [List.setIfInBounds_toArray, List.set_cons_zero, List.set_cons_succ]
  go_wp2_with fail
  clear s0 s1 s2 s3 s4 s5 tq0 tq1 tq2 tq3 tq4 tq5
  rw [rounds_succ]
  go_wp2_with fail
  refine region4_6_2 b0 b1 c0 c1 a0 a1 0 0 0 0 0 0 kl false wx M3.out (by kernel_rfl) rfl rfl rfl ⟨ck HL lc12, ck HL lc13, ck HL lc14, ck HL lc15, ck HL lc16, ck HL lc17, HL⟩ (fun ks2 wq2 hS hN => ?_)
  obtain ⟨-, -, -, -, -, -, HL⟩ := hS
  obtain ⟨s0, s1, s2, s3, s4, s5, -⟩ := hN
  have tq0 := ck HL tc0
  have tq1 := ck HL tc1
  have tq2 := ck HL tc2
  have tq3 := ck HL tc3
  have tq4 := ck HL tc4
  have tq5 := ck HL tc5
  simp only [List.setIfInBounds_toArray, List.set_cons_zero, List.set_cons_succ]
  go_wp2_with fail
  clear s0 s1 s2 s3 s4 s5 tq0 tq1 tq2 tq3 tq4 tq5
  rw [rounds_succ]
  go_wp2_with fail
  refine region4_6_3 c0 c1 a0 a1 b0 b1 0 0 0 0 0 0 kl false wx M4.out (by kernel_rfl) rfl rfl rfl ⟨ck HL lc18, ck HL lc19, ck HL lc20, ck HL lc21, ck HL lc22, ck HL lc23, HL⟩ (fun ks3 wq3 hS hN => ?_)
  obtain ⟨-, -, -, -, -, -, HL⟩ := hS
  obtain ⟨s0, s1, s2, s3, s4, s5, -⟩ := hN
  have tq0 := ck HL tc0
  have tq1 := ck HL tc1
  have tq2 := ck HL tc2
  have tq3 := ck HL tc3
  have tq4 := ck HL tc4
  have tq5 := ck HL tc5
  simp only [List.setIfInBounds_toArray, List.set_cons_zero, List.set_cons_succ]
  go_wp2_with fail
  clear s0 s1 s2 s3 s4 s5 tq0 tq1 tq2 tq3 tq4 tq5
  rw [rounds_succ]
  go_wp2_with fail
  refine region4_6_4 c0 c1 b0 b1 a0 a1 0 0 0 0 0 0 kl false wx M5.out (by kernel_rfl) rfl rfl rfl ⟨ck HL lc24, ck HL lc25, ck HL lc26, ck HL lc27, ck HL lc28, ck HL lc29, HL⟩ (fun ks4 wq4 hS hN => ?_)
  obtain ⟨-, -, -, -, -, -, HL⟩ := hS
  obtain ⟨s0, s1, s2, s3, s4, s5, -⟩ := hN
  have tq0 := ck HL tc0
  have tq1 := ck HL tc1
  have tq2 := ck HL tc2
  have tq3 := ck HL tc3
  have tq4 := ck HL tc4
  have tq5 := ck HL tc5
  simp only [List.setIfInBounds_toArray, List.set_cons_zero, List.set_cons_succ]
  go_wp2_with fail
  clear s0 s1 s2 s3 s4 s5 tq0 tq1 tq2 tq3 tq4 tq5
  rw [rounds_succ]
  have tq0 := ck HL tc0
  have tq1 := ck HL tc1
  have tq2 := ck HL tc2
  have tq3 := ck HL tc3
  have tq4 := ck HL tc4
  have tq5 := ck HL tc5
  have aq0 := ck HL ax0
  have aq1 := ck HL ax1
  have bq0 := ck HL bx0
  have bq1 := ck HL bx1
  have cq0 := ck HL cx0
  have cq1 := ck HL cx1
  replace HB := bt HB HL
  clear HL lc0 lc1 lc2 lc3 lc4 lc5 lc6 lc7 lc8 lc9 lc10 lc11 lc12 lc13 lc14 lc15 lc16 lc17 lc18 lc19 lc20 lc21 lc22 lc23 lc24 lc25 lc26 lc27 lc28 lc29 tc0 tc1 tc2 tc3 tc4 tc5 ax0 ax1 bx0 bx1 cx0 cx1
  go_wp2_with fail
  refine (ori37 _ _ _ _ _ _ _).mono ?_; rw [ho.out]; rintro e w3 ⟨rfl, hb⟩; (with_reducible (repeat replace hb := undr hb)); replace HB : Below w.heap.size w w3 := bt (by repeat (first | (with_reducible exact HB) | (with_reducible exact Below.refl _ _) | (with_reducible apply bd) | (with_reducible apply ba) | (with_reducible refine bs ?_ (by first | (simp; done) | (simp; omega)) _))) hb; clear hb
  go_wp2_with (go_at_call 36; refine (awake36 _).mono ?_; rintro e w4 ⟨rfl, hb⟩; (with_reducible (repeat replace hb := undr hb)); replace HB : Below w.heap.size w w4 := bt (by repeat (first | (with_reducible exact HB) | (with_reducible exact Below.refl _ _) | (with_reducible apply bd) | (with_reducible apply ba) | (with_reducible refine bs ?_ (by first | (simp; done) | (simp; omega)) _))) hb; clear hb)
  go_ret
  exact ⟨rfl, by repeat (first | (with_reducible exact HB) | (with_reducible exact Below.refl _ _) | (with_reducible apply bd) | (with_reducible apply ba) | (with_reducible refine bs ?_ (by first | (simp; done) | (simp; omega)) _))⟩

set_option maxHeartbeats 4000000 in
set_option maxRecDepth 100000 in
theorem triOne_yes (a0 a1 b0 b1 c0 c1 d0 d1 e0 e1 f0 f1 y0 y1 z0 z1 : Int) (w : World) (hm : mkT ⟨a0, a1⟩ ⟨b0, b1⟩ ⟨c0, c1⟩ = (⟨⟨d0, d1⟩, ⟨e0, e1⟩, ⟨f0, f1⟩⟩, true)) (hv : valT ⟨⟨d0, d1⟩, ⟨e0, e1⟩, ⟨f0, f1⟩⟩ = true) (ho : ori ⟨d0, d1⟩ ⟨e0, e1⟩ ⟨f0, f1⟩ = 1) (hp : srt ⟨a0, a1⟩ ⟨b0, b1⟩ ⟨c0, c1⟩ = (⟨d0, d1⟩, ⟨y0, y1⟩, ⟨z0, z1⟩)) (hs : srt ⟨d0, d1⟩ ⟨e0, e1⟩ ⟨f0, f1⟩ = (⟨d0, d1⟩, ⟨y0, y1⟩, ⟨z0, z1⟩)) (n1 : (⟨a0, a1⟩ : Pt) ≠ ⟨b0, b1⟩ ∧ (⟨b0, b1⟩ : Pt) ≠ ⟨c0, c1⟩ ∧ (⟨a0, a1⟩ : Pt) ≠ ⟨c0, c1⟩) (n2 : (⟨d0, d1⟩ : Pt) ≠ ⟨e0, e1⟩ ∧ (⟨e0, e1⟩ : Pt) ≠ ⟨f0, f1⟩ ∧ (⟨d0, d1⟩ : Pt) ≠ ⟨f0, f1⟩) :
    Calls Try.prog 4 #[.agg #[.int .i64 a0, .int .i64 a1], .agg #[.int .i64 b0, .int .i64 b1], .agg #[.int .i64 c0, .int .i64 c1]] w fun e w' => e = .returned (.bool true) ∧ Below w.heap.size w w' := by
  obtain ⟨T0, E0⟩ := one_edges hv ho
  replace hp := Lib.hid hp
  replace hs := Lib.hid hs
  replace n1 := Lib.hid n1
  replace n2 := Lib.hid n2
  replace ho := Lib.hid ho
  have g0 : ori ⟨d0, d1⟩ ⟨e0, e1⟩ ⟨f0, f1⟩ = 1 ∧ has ⟨⟨d0, d1⟩, ⟨e0, e1⟩, ⟨f0, f1⟩⟩ ⟨d0, d1⟩ = true ∧ ins ⟨⟨d0, d1⟩, ⟨e0, e1⟩, ⟨f0, f1⟩⟩ ⟨d0, d1⟩ = false := E0 0 (by decide)
  have g1 : ori ⟨e0, e1⟩ ⟨f0, f1⟩ ⟨d0, d1⟩ = 1 ∧ has ⟨⟨d0, d1⟩, ⟨e0, e1⟩, ⟨f0, f1⟩⟩ ⟨e0, e1⟩ = true ∧ ins ⟨⟨d0, d1⟩, ⟨e0, e1⟩, ⟨f0, f1⟩⟩ ⟨e0, e1⟩ = false := E0 1 (by decide)
  have g2 : ori ⟨f0, f1⟩ ⟨d0, d1⟩ ⟨e0, e1⟩ = 1 ∧ has ⟨⟨d0, d1⟩, ⟨e0, e1⟩, ⟨f0, f1⟩⟩ ⟨f0, f1⟩ = true ∧ ins ⟨⟨d0, d1⟩, ⟨e0, e1⟩, ⟨f0, f1⟩⟩ ⟨f0, f1⟩ = false := E0 2 (by decide)
  clear E0
  replace g0 := Lib.hid g0
  replace g1 := Lib.hid g1
  replace g2 := Lib.hid g2
  have HB := Below.refl w.heap.size w
  obtain ⟨M1, M2, M3, M4, M5⟩ : _ ∧ _ ∧ _ ∧ _ ∧ _ := mkT_orders ⟨a0, a1⟩ ⟨b0, b1⟩ ⟨c0, c1⟩
  rw [hm] at M1 M2 M3 M4 M5
  replace M1 := Lib.hid M1
  replace M2 := Lib.hid M2
  replace M3 := Lib.hid M3
  replace M4 := Lib.hid M4
  replace M5 := Lib.hid M5
  replace hm := Lib.hid hm
  go_enter Try.func4, Try.ntmps4
  generalize hR : Code.region 2 _ false = C2
  go_wp2_with fail
  refine (make20 _ _ _ _ _ _ _).mono ?_; rw [hm.out]; rintro e w1 ⟨rfl, hb⟩; (with_reducible (repeat replace hb := undr hb)); replace ac0 := ck hb (a := ⟨w.heap.size, 0, none⟩) (v := .int .i64 a0) (by go_simp); replace ac1 := ck hb (a := ⟨w.heap.size, 1, none⟩) (v := .int .i64 a1) (by go_simp); replace bc0 := ck hb (a := ⟨w.heap.size + 1, 0, none⟩) (v := .int .i64 b0) (by go_simp); replace bc1 := ck hb (a := ⟨w.heap.size + 1, 1, none⟩) (v := .int .i64 b1) (by go_simp); replace cc0 := ck hb (a := ⟨w.heap.size + 1 + 1, 0, none⟩) (v := .int .i64 c0) (by go_simp); replace cc1 := ck hb (a := ⟨w.heap.size + 1 + 1, 1, none⟩) (v := .int .i64 c1) (by go_simp); replace az : w.heap.size < w1.heap.size := World.block_lt_of_cell? w1 _ ac0; replace an : ¬ w.heap.size = w1.heap.size := Nat.ne_of_lt az; replace bz : w.heap.size + 1 < w1.heap.size := World.block_lt_of_cell? w1 _ bc0; replace bn : ¬ w.heap.size + 1 = w1.heap.size := Nat.ne_of_lt bz; replace bo : w.heap.size < w1.heap.size := Nat.lt_of_succ_lt bz; replace cz : w.heap.size + 1 + 1 < w1.heap.size := World.block_lt_of_cell? w1 _ cc0; replace cn : ¬ w.heap.size + 1 + 1 = w1.heap.size := Nat.ne_of_lt cz; replace co : w.heap.size + 1 < w1.heap.size := Nat.lt_of_succ_lt cz; replace HB : Below w.heap.size w w1 := bt (by repeat (first | (with_reducible exact HB) | (with_reducible exact Below.refl _ _) | (with_reducible apply bd) | (with_reducible apply ba) | (with_reducible refine bs ?_ (by first | (simp; done) | (simp; omega)) _))) hb; clear hb
  clear hm
  go_wp2_with fail
  subst hR
  refine region4_2 a0 a1 b0 b1 c0 c1 w.heap.size (w.heap.size + 1) (w.heap.size + 1 + 1) (by kernel_rfl) rfl rfl rfl rfl (by go_simp) (by go_simp) (by go_simp) (by go_simp) (by go_simp) (by go_simp) ?_
  intro kl wx hkl hwx
  simp only [List.setIfInBounds_toArray, List.set_cons_zero, List.set_cons_succ]
  have tc0 : wx.cell? ⟨w1.heap.size, 0, none⟩ = some (.int .i64 d0) := by rw [hwx]; go_simp
  have tc1 : wx.cell? ⟨w1.heap.size, 1, none⟩ = some (.int .i64 d1) := by rw [hwx]; go_simp
  have tc2 : wx.cell? ⟨w1.heap.size, 2, none⟩ = some (.int .i64 e0) := by rw [hwx]; go_simp
  have tc3 : wx.cell? ⟨w1.heap.size, 3, none⟩ = some (.int .i64 e1) := by rw [hwx]; go_simp
  have tc4 : wx.cell? ⟨w1.heap.size, 4, none⟩ = some (.int .i64 f0) := by rw [hwx]; go_simp
  have tc5 : wx.cell? ⟨w1.heap.size, 5, none⟩ = some (.int .i64 f1) := by rw [hwx]; go_simp
  have ax0 : wx.cell? ⟨w.heap.size, 0, none⟩ = some (.int .i64 a0) := by rw [hwx]; go_simp
  have ax1 : wx.cell? ⟨w.heap.size, 1, none⟩ = some (.int .i64 a1) := by rw [hwx]; go_simp
  have bx0 : wx.cell? ⟨w.heap.size + 1, 0, none⟩ = some (.int .i64 b0) := by rw [hwx]; go_simp
  have bx1 : wx.cell? ⟨w.heap.size + 1, 1, none⟩ = some (.int .i64 b1) := by rw [hwx]; go_simp
  have cx0 : wx.cell? ⟨w.heap.size + 1 + 1, 0, none⟩ = some (.int .i64 c0) := by rw [hwx]; go_simp
  have cx1 : wx.cell? ⟨w.heap.size + 1 + 1, 1, none⟩ = some (.int .i64 c1) := by rw [hwx]; go_simp
  have lc0 : wx.cell? ⟨kl, 0, none⟩ = some (.int .i64 a0) := by rw [hwx, hkl]; go_simp
  have lc1 : wx.cell? ⟨kl, 1, none⟩ = some (.int .i64 a1) := by rw [hwx, hkl]; go_simp
  have lc2 : wx.cell? ⟨kl, 2, none⟩ = some (.int .i64 c0) := by rw [hwx, hkl]; go_simp
  have lc3 : wx.cell? ⟨kl, 3, none⟩ = some (.int .i64 c1) := by rw [hwx, hkl]; go_simp
  have lc4 : wx.cell? ⟨kl, 4, none⟩ = some (.int .i64 b0) := by rw [hwx, hkl]; go_simp
  have lc5 : wx.cell? ⟨kl, 5, none⟩ = some (.int .i64 b1) := by rw [hwx, hkl]; go_simp
  have lc6 : wx.cell? ⟨kl, 6, none⟩ = some (.int .i64 b0) := by rw [hwx, hkl]; go_simp
  have lc7 : wx.cell? ⟨kl, 7, none⟩ = some (.int .i64 b1) := by rw [hwx, hkl]; go_simp
  have lc8 : wx.cell? ⟨kl, 8, none⟩ = some (.int .i64 a0) := by rw [hwx, hkl]; go_simp
  have lc9 : wx.cell? ⟨kl, 9, none⟩ = some (.int .i64 a1) := by rw [hwx, hkl]; go_simp
  have lc10 : wx.cell? ⟨kl, 10, none⟩ = some (.int .i64 c0) := by rw [hwx, hkl]; go_simp
  have lc11 : wx.cell? ⟨kl, 11, none⟩ = some (.int .i64 c1) := by rw [hwx, hkl]; go_simp
  have lc12 : wx.cell? ⟨kl, 12, none⟩ = some (.int .i64 b0) := by rw [hwx, hkl]; go_simp
  have lc13 : wx.cell? ⟨kl, 13, none⟩ = some (.int .i64 b1) := by rw [hwx, hkl]; go_simp
  have lc14 : wx.cell? ⟨kl, 14, none⟩ = some (.int .i64 c0) := by rw [hwx, hkl]; go_simp
  have lc15 : wx.cell? ⟨kl, 15, none⟩ = some (.int .i64 c1) := by rw [hwx, hkl]; go_simp
  have lc16 : wx.cell? ⟨kl, 16, none⟩ = some (.int .i64 a0) := by rw [hwx, hkl]; go_simp
  have lc17 : wx.cell? ⟨kl, 17, none⟩ = some (.int .i64 a1) := by rw [hwx, hkl]; go_simp
  have lc18 : wx.cell? ⟨kl, 18, none⟩ = some (.int .i64 c0) := by rw [hwx, hkl]; go_simp
  have lc19 : wx.cell? ⟨kl, 19, none⟩ = some (.int .i64 c1) := by rw [hwx, hkl]; go_simp
  have lc20 : wx.cell? ⟨kl, 20, none⟩ = some (.int .i64 a0) := by rw [hwx, hkl]; go_simp
  have lc21 : wx.cell? ⟨kl, 21, none⟩ = some (.int .i64 a1) := by rw [hwx, hkl]; go_simp
  have lc22 : wx.cell? ⟨kl, 22, none⟩ = some (.int .i64 b0) := by rw [hwx, hkl]; go_simp
  have lc23 : wx.cell? ⟨kl, 23, none⟩ = some (.int .i64 b1) := by rw [hwx, hkl]; go_simp
  have lc24 : wx.cell? ⟨kl, 24, none⟩ = some (.int .i64 c0) := by rw [hwx, hkl]; go_simp
  have lc25 : wx.cell? ⟨kl, 25, none⟩ = some (.int .i64 c1) := by rw [hwx, hkl]; go_simp
  have lc26 : wx.cell? ⟨kl, 26, none⟩ = some (.int .i64 b0) := by rw [hwx, hkl]; go_simp
  have lc27 : wx.cell? ⟨kl, 27, none⟩ = some (.int .i64 b1) := by rw [hwx, hkl]; go_simp
  have lc28 : wx.cell? ⟨kl, 28, none⟩ = some (.int .i64 a0) := by rw [hwx, hkl]; go_simp
  have lc29 : wx.cell? ⟨kl, 29, none⟩ = some (.int .i64 a1) := by rw [hwx, hkl]; go_simp
  replace HB : Below w.heap.size w wx := by rw [hwx]; exact ba (ba HB _) _
  have HL := Below.refl wx.heap.size wx
  clear hwx hkl ac0 ac1 az an bc0 bc1 bz bn cc0 cc1 cz cn bo co
  go_wp2_with fail
  refine wp_loop_rounds 6 ?_
  rw [rounds_succ]
  go_wp2_with fail
  refine region4_6_0 a0 a1 c0 c1 b0 b1 d0 d1 e0 e1 f0 f1 kl true wx M1.out (by kernel_rfl) rfl rfl rfl ⟨ck HL lc0, ck HL lc1, ck HL lc2, ck HL lc3, ck HL lc4, ck HL lc5, HL⟩ (fun ks0 wq0 hS hN => ?_)
  obtain ⟨-, -, -, -, -, -, HL⟩ := hS
  obtain ⟨s0, s1, s2, s3, s4, s5, -⟩ := hN
  have tq0 := ck HL tc0
  have tq1 := ck HL tc1
  have tq2 := ck HL tc2
  have tq3 := ck HL tc3
  have tq4 := ck HL tc4
  have tq5 := ck HL tc5
  simp only [List.setIfInBounds_toArray, List.set_cons_zero, List.set_cons_succ]
  go_wp2_with fail
  clear s0 s1 s2 s3 s4 s5 tq0 tq1 tq2 tq3 tq4 tq5
  rw [rounds_succ]
  go_wp2_with fail
  refine region4_6_1 b0 b1 a0 a1 c0 c1 d0 d1 e0 e1 f0 f1 kl true wx M2.out (by kernel_rfl) rfl rfl rfl ⟨ck HL lc6, ck HL lc7, ck HL lc8, ck HL lc9, ck HL lc10, ck HL lc11, HL⟩ (fun ks1 wq1 hS hN => ?_)
  obtain ⟨-, -, -, -, -, -, HL⟩ := hS
  obtain ⟨s0, s1, s2, s3, s4, s5, -⟩ := hN
  have tq0 := ck HL tc0
  have tq1 := ck HL tc1
  have tq2 := ck HL tc2
  have tq3 := ck HL tc3
  have tq4 := ck HL tc4
  have tq5 := ck HL tc5
  simp only [List.setIfInBounds_toArray, List.set_cons_zero, List.set_cons_succ]
  go_wp2_with fail
  clear s0 s1 s2 s3 s4 s5 tq0 tq1 tq2 tq3 tq4 tq5
  rw [rounds_succ]
  go_wp2_with fail
  refine region4_6_2 b0 b1 c0 c1 a0 a1 d0 d1 e0 e1 f0 f1 kl true wx M3.out (by kernel_rfl) rfl rfl rfl ⟨ck HL lc12, ck HL lc13, ck HL lc14, ck HL lc15, ck HL lc16, ck HL lc17, HL⟩ (fun ks2 wq2 hS hN => ?_)
  obtain ⟨-, -, -, -, -, -, HL⟩ := hS
  obtain ⟨s0, s1, s2, s3, s4, s5, -⟩ := hN
  have tq0 := ck HL tc0
  have tq1 := ck HL tc1
  have tq2 := ck HL tc2
  have tq3 := ck HL tc3
  have tq4 := ck HL tc4
  have tq5 := ck HL tc5
  simp only [List.setIfInBounds_toArray, List.set_cons_zero, List.set_cons_succ]
  go_wp2_with fail
  clear s0 s1 s2 s3 s4 s5 tq0 tq1 tq2 tq3 tq4 tq5
  rw [rounds_succ]
  go_wp2_with fail
  refine region4_6_3 c0 c1 a0 a1 b0 b1 d0 d1 e0 e1 f0 f1 kl true wx M4.out (by kernel_rfl) rfl rfl rfl ⟨ck HL lc18, ck HL lc19, ck HL lc20, ck HL lc21, ck HL lc22, ck HL lc23, HL⟩ (fun ks3 wq3 hS hN => ?_)
  obtain ⟨-, -, -, -, -, -, HL⟩ := hS
  obtain ⟨s0, s1, s2, s3, s4, s5, -⟩ := hN
  have tq0 := ck HL tc0
  have tq1 := ck HL tc1
  have tq2 := ck HL tc2
  have tq3 := ck HL tc3
  have tq4 := ck HL tc4
  have tq5 := ck HL tc5
  simp only [List.setIfInBounds_toArray, List.set_cons_zero, List.set_cons_succ]
  go_wp2_with fail
  clear s0 s1 s2 s3 s4 s5 tq0 tq1 tq2 tq3 tq4 tq5
  rw [rounds_succ]
  go_wp2_with fail
  refine region4_6_4 c0 c1 b0 b1 a0 a1 d0 d1 e0 e1 f0 f1 kl true wx M5.out (by kernel_rfl) rfl rfl rfl ⟨ck HL lc24, ck HL lc25, ck HL lc26, ck HL lc27, ck HL lc28, ck HL lc29, HL⟩ (fun ks4 wq4 hS hN => ?_)
  obtain ⟨-, -, -, -, -, -, HL⟩ := hS
  obtain ⟨s0, s1, s2, s3, s4, s5, -⟩ := hN
  have tq0 := ck HL tc0
  have tq1 := ck HL tc1
  have tq2 := ck HL tc2
  have tq3 := ck HL tc3
  have tq4 := ck HL tc4
  have tq5 := ck HL tc5
  simp only [List.setIfInBounds_toArray, List.set_cons_zero, List.set_cons_succ]
  go_wp2_with fail
  clear s0 s1 s2 s3 s4 s5 tq0 tq1 tq2 tq3 tq4 tq5
  rw [rounds_succ]
  have tq0 := ck HL tc0
  have tq1 := ck HL tc1
  have tq2 := ck HL tc2
  have tq3 := ck HL tc3
  have tq4 := ck HL tc4
  have tq5 := ck HL tc5
  have aq0 := ck HL ax0
  have aq1 := ck HL ax1
  have bq0 := ck HL bx0
  have bq1 := ck HL bx1
  have cq0 := ck HL cx0
  have cq1 := ck HL cx1
  replace HB := bt HB HL
  clear HL lc0 lc1 lc2 lc3 lc4 lc5 lc6 lc7 lc8 lc9 lc10 lc11 lc12 lc13 lc14 lc15 lc16 lc17 lc18 lc19 lc20 lc21 lc22 lc23 lc24 lc25 lc26 lc27 lc28 lc29 tc0 tc1 tc2 tc3 tc4 tc5 ax0 ax1 bx0 bx1 cx0 cx1
  go_wp2_with fail
  go_at_call 38
  refine (srt38 _ 3 a0 a1 b0 b1 c0 c1 _ (by go_simp) (by go_simp) (by go_simp) (by go_simp) (by go_simp) (by go_simp) n1.out.1 n1.out.2.1 n1.out.2.2).mono ?_
  rw [hp.out]
  rintro e w3 ⟨kp, cp, rfl, hb, p0, p1, p2, p3, p4, p5⟩
  have tc0 := ck hb (ga tq0); have tc1 := ck hb (ga tq1); have tc2 := ck hb (ga tq2); have tc3 := ck hb (ga tq3); have tc4 := ck hb (ga tq4); have tc5 := ck hb (ga tq5)
  replace HB := bt (ba HB _) hb
  clear hb tq0 tq1 tq2 tq3 tq4 tq5 aq0 aq1 bq0 bq1 cq0 cq1
  go_wp2_with fail
  refine region4_12 d0 d1 e0 e1 f0 f1 y0 y1 z0 z1 w1.heap.size kp cp w hs.out n2.out.1 n2.out.2.1 n2.out.2.2 (by kernel_rfl) rfl rfl rfl ⟨tc0, tc1, tc2, tc3, tc4, tc5, p0, p1, p2, p3, p4, p5, HB⟩ (fun k1 k2 cq wy hS => ?_)
  clear tc0 tc1 tc2 tc3 tc4 tc5 p0 p1 p2 p3 p4 p5 HB
  obtain ⟨tc0, tc1, tc2, tc3, tc4, tc5, -, -, -, -, -, -, HB⟩ := hS
  have tz := World.block_lt_of_cell? wy _ tc0
  have tn := Nat.ne_of_lt tz
  dsimp only at tz tn
  simp only [List.setIfInBounds_toArray, List.set_cons_zero, List.set_cons_succ]
  go_wp2_with fail
  refine wp_loop_rounds 4 ?_
  rw [rounds_succ]
  go_wp2_with fail
  refine (edge22 _ _ _ _ _ _ _ _).mono ?_; rw [show cor ⟨⟨d0, d1⟩, ⟨e0, e1⟩, ⟨f0, f1⟩⟩ 0 = ⟨d0, d1⟩ from rfl, show cor ⟨⟨d0, d1⟩, ⟨e0, e1⟩, ⟨f0, f1⟩⟩ (0 + 1) = ⟨e0, e1⟩ from rfl]; rintro e we0 ⟨rfl, hb⟩; (with_reducible (repeat replace hb := undr hb)); replace tc0 := ck hb (a := ⟨w1.heap.size, 0, none⟩) (v := .int .i64 d0) (by go_simp); replace tc1 := ck hb (a := ⟨w1.heap.size, 1, none⟩) (v := .int .i64 d1) (by go_simp); replace tc2 := ck hb (a := ⟨w1.heap.size, 2, none⟩) (v := .int .i64 e0) (by go_simp); replace tc3 := ck hb (a := ⟨w1.heap.size, 3, none⟩) (v := .int .i64 e1) (by go_simp); replace tc4 := ck hb (a := ⟨w1.heap.size, 4, none⟩) (v := .int .i64 f0) (by go_simp); replace tc5 := ck hb (a := ⟨w1.heap.size, 5, none⟩) (v := .int .i64 f1) (by go_simp); replace tz : w1.heap.size < we0.heap.size := World.block_lt_of_cell? we0 _ tc0; replace tn : ¬ w1.heap.size = we0.heap.size := Nat.ne_of_lt tz; replace HB : Below w.heap.size w we0 := bt (by repeat (first | (with_reducible exact HB) | (with_reducible exact Below.refl _ _) | (with_reducible apply bd) | (with_reducible apply ba) | (with_reducible refine bs ?_ (by first | (simp; done) | (simp; omega)) _))) hb; clear hb
  go_wp2_with fail
  refine region4_18 d0 d1 e0 e1 f0 f1 d0 d1 e0 e1 f0 f1 0 w1.heap.size we0.heap.size (we0.heap.size + 1) w rfl rfl g0.out.1 g0.out.2.1 g0.out.2.2 (by kernel_rfl) rfl rfl rfl rfl rfl ⟨?_, ?_, ?_, ?_, ?_, ?_, ?_, ?_, ?_, ?_, ?_⟩ (fun wz0 hS => ?_)
  iterate 10 (focus (go_simp; done))
  · exact (by repeat (first | (with_reducible exact HB) | (with_reducible exact Below.refl _ _) | (with_reducible apply bd) | (with_reducible apply ba) | (with_reducible refine bs ?_ (by first | (simp; done) | (simp; omega)) _)))
  clear tc0 tc1 tc2 tc3 tc4 tc5 HB tz tn
  obtain ⟨tc0, tc1, tc2, tc3, tc4, tc5, -, -, -, -, HB⟩ := hS
  have tz := World.block_lt_of_cell? wz0 _ tc0
  have tn := Nat.ne_of_lt tz
  dsimp only at tz tn
  simp only [List.setIfInBounds_toArray, List.set_cons_zero, List.set_cons_succ]
  go_wp2_with fail
  rw [rounds_succ]
  go_wp2_with fail
  refine (edge22 _ _ _ _ _ _ _ _).mono ?_; rw [show cor ⟨⟨d0, d1⟩, ⟨e0, e1⟩, ⟨f0, f1⟩⟩ 1 = ⟨e0, e1⟩ from rfl, show cor ⟨⟨d0, d1⟩, ⟨e0, e1⟩, ⟨f0, f1⟩⟩ (1 + 1) = ⟨f0, f1⟩ from rfl]; rintro e we1 ⟨rfl, hb⟩; (with_reducible (repeat replace hb := undr hb)); replace tc0 := ck hb (a := ⟨w1.heap.size, 0, none⟩) (v := .int .i64 d0) (by go_simp); replace tc1 := ck hb (a := ⟨w1.heap.size, 1, none⟩) (v := .int .i64 d1) (by go_simp); replace tc2 := ck hb (a := ⟨w1.heap.size, 2, none⟩) (v := .int .i64 e0) (by go_simp); replace tc3 := ck hb (a := ⟨w1.heap.size, 3, none⟩) (v := .int .i64 e1) (by go_simp); replace tc4 := ck hb (a := ⟨w1.heap.size, 4, none⟩) (v := .int .i64 f0) (by go_simp); replace tc5 := ck hb (a := ⟨w1.heap.size, 5, none⟩) (v := .int .i64 f1) (by go_simp); replace tz : w1.heap.size < we1.heap.size := World.block_lt_of_cell? we1 _ tc0; replace tn : ¬ w1.heap.size = we1.heap.size := Nat.ne_of_lt tz; replace HB : Below w.heap.size w we1 := bt (by repeat (first | (with_reducible exact HB) | (with_reducible exact Below.refl _ _) | (with_reducible apply bd) | (with_reducible apply ba) | (with_reducible refine bs ?_ (by first | (simp; done) | (simp; omega)) _))) hb; clear hb
  go_wp2_with fail
  refine region4_18 d0 d1 e0 e1 f0 f1 e0 e1 f0 f1 d0 d1 1 w1.heap.size we1.heap.size (we1.heap.size + 1) w rfl rfl g1.out.1 g1.out.2.1 g1.out.2.2 (by kernel_rfl) rfl rfl rfl rfl rfl ⟨?_, ?_, ?_, ?_, ?_, ?_, ?_, ?_, ?_, ?_, ?_⟩ (fun wz1 hS => ?_)
  iterate 10 (focus (go_simp; done))
  · exact (by repeat (first | (with_reducible exact HB) | (with_reducible exact Below.refl _ _) | (with_reducible apply bd) | (with_reducible apply ba) | (with_reducible refine bs ?_ (by first | (simp; done) | (simp; omega)) _)))
  clear tc0 tc1 tc2 tc3 tc4 tc5 HB tz tn
  obtain ⟨tc0, tc1, tc2, tc3, tc4, tc5, -, -, -, -, HB⟩ := hS
  have tz := World.block_lt_of_cell? wz1 _ tc0
  have tn := Nat.ne_of_lt tz
  dsimp only at tz tn
  simp only [List.setIfInBounds_toArray, List.set_cons_zero, List.set_cons_succ]
  go_wp2_with fail
  rw [rounds_succ]
  go_wp2_with fail
  refine (edge22 _ _ _ _ _ _ _ _).mono ?_; rw [show cor ⟨⟨d0, d1⟩, ⟨e0, e1⟩, ⟨f0, f1⟩⟩ 2 = ⟨f0, f1⟩ from rfl, show cor ⟨⟨d0, d1⟩, ⟨e0, e1⟩, ⟨f0, f1⟩⟩ (2 + 1) = ⟨d0, d1⟩ from rfl]; rintro e we2 ⟨rfl, hb⟩; (with_reducible (repeat replace hb := undr hb)); replace tc0 := ck hb (a := ⟨w1.heap.size, 0, none⟩) (v := .int .i64 d0) (by go_simp); replace tc1 := ck hb (a := ⟨w1.heap.size, 1, none⟩) (v := .int .i64 d1) (by go_simp); replace tc2 := ck hb (a := ⟨w1.heap.size, 2, none⟩) (v := .int .i64 e0) (by go_simp); replace tc3 := ck hb (a := ⟨w1.heap.size, 3, none⟩) (v := .int .i64 e1) (by go_simp); replace tc4 := ck hb (a := ⟨w1.heap.size, 4, none⟩) (v := .int .i64 f0) (by go_simp); replace tc5 := ck hb (a := ⟨w1.heap.size, 5, none⟩) (v := .int .i64 f1) (by go_simp); replace tz : w1.heap.size < we2.heap.size := World.block_lt_of_cell? we2 _ tc0; replace tn : ¬ w1.heap.size = we2.heap.size := Nat.ne_of_lt tz; replace HB : Below w.heap.size w we2 := bt (by repeat (first | (with_reducible exact HB) | (with_reducible exact Below.refl _ _) | (with_reducible apply bd) | (with_reducible apply ba) | (with_reducible refine bs ?_ (by first | (simp; done) | (simp; omega)) _))) hb; clear hb
  go_wp2_with fail
  refine region4_18 d0 d1 e0 e1 f0 f1 f0 f1 d0 d1 e0 e1 2 w1.heap.size we2.heap.size (we2.heap.size + 1) w rfl rfl g2.out.1 g2.out.2.1 g2.out.2.2 (by kernel_rfl) rfl rfl rfl rfl rfl ⟨?_, ?_, ?_, ?_, ?_, ?_, ?_, ?_, ?_, ?_, ?_⟩ (fun wz2 hS => ?_)
  iterate 10 (focus (go_simp; done))
  · exact (by repeat (first | (with_reducible exact HB) | (with_reducible exact Below.refl _ _) | (with_reducible apply bd) | (with_reducible apply ba) | (with_reducible refine bs ?_ (by first | (simp; done) | (simp; omega)) _)))
  clear tc0 tc1 tc2 tc3 tc4 tc5 HB tz tn
  obtain ⟨tc0, tc1, tc2, tc3, tc4, tc5, -, -, -, -, HB⟩ := hS
  have tz := World.block_lt_of_cell? wz2 _ tc0
  have tn := Nat.ne_of_lt tz
  dsimp only at tz tn
  simp only [List.setIfInBounds_toArray, List.set_cons_zero, List.set_cons_succ]
  go_wp2_with fail
  rw [rounds_succ]
  go_wp2_with (first | (go_at_call 24; refine (valT24 _ _ _ _ _ _ _).mono ?_; rw [hv]; rintro e wv ⟨rfl, hb⟩; (with_reducible (repeat replace hb := undr hb)); replace tc0 := ck hb (a := ⟨w1.heap.size, 0, none⟩) (v := .int .i64 d0) (by go_simp); replace tc1 := ck hb (a := ⟨w1.heap.size, 1, none⟩) (v := .int .i64 d1) (by go_simp); replace tc2 := ck hb (a := ⟨w1.heap.size, 2, none⟩) (v := .int .i64 e0) (by go_simp); replace tc3 := ck hb (a := ⟨w1.heap.size, 3, none⟩) (v := .int .i64 e1) (by go_simp); replace tc4 := ck hb (a := ⟨w1.heap.size, 4, none⟩) (v := .int .i64 f0) (by go_simp); replace tc5 := ck hb (a := ⟨w1.heap.size, 5, none⟩) (v := .int .i64 f1) (by go_simp); replace tz : w1.heap.size < wv.heap.size := World.block_lt_of_cell? wv _ tc0; replace tn : ¬ w1.heap.size = wv.heap.size := Nat.ne_of_lt tz; replace HB : Below w.heap.size w wv := bt (by repeat (first | (with_reducible exact HB) | (with_reducible exact Below.refl _ _) | (with_reducible apply bd) | (with_reducible apply ba) | (with_reducible refine bs ?_ (by first | (simp; done) | (simp; omega)) _))) hb; clear hb) | (go_at_call 34; refine (twT34 _ _ _ _ _ _ _).mono ?_; rintro e wt ⟨rfl, hb⟩; (with_reducible (repeat replace hb := undr hb)); replace tc0 := ck hb (a := ⟨w1.heap.size, 0, none⟩) (v := .int .i64 d0) (by go_simp); replace tc1 := ck hb (a := ⟨w1.heap.size, 1, none⟩) (v := .int .i64 d1) (by go_simp); replace tc2 := ck hb (a := ⟨w1.heap.size, 2, none⟩) (v := .int .i64 e0) (by go_simp); replace tc3 := ck hb (a := ⟨w1.heap.size, 3, none⟩) (v := .int .i64 e1) (by go_simp); replace tc4 := ck hb (a := ⟨w1.heap.size, 4, none⟩) (v := .int .i64 f0) (by go_simp); replace tc5 := ck hb (a := ⟨w1.heap.size, 5, none⟩) (v := .int .i64 f1) (by go_simp); replace tz : w1.heap.size < wt.heap.size := World.block_lt_of_cell? wt _ tc0; replace tn : ¬ w1.heap.size = wt.heap.size := Nat.ne_of_lt tz; replace HB : Below w.heap.size w wt := bt (by repeat (first | (with_reducible exact HB) | (with_reducible exact Below.refl _ _) | (with_reducible apply bd) | (with_reducible apply ba) | (with_reducible refine bs ?_ (by first | (simp; done) | (simp; omega)) _))) hb; clear hb) | (go_at_call 36; refine (awake36 _).mono ?_; rintro e wk ⟨rfl, hb⟩; (with_reducible (repeat replace hb := undr hb)); replace HB : Below w.heap.size w wk := bt (by repeat (first | (with_reducible exact HB) | (with_reducible exact Below.refl _ _) | (with_reducible apply bd) | (with_reducible apply ba) | (with_reducible refine bs ?_ (by first | (simp; done) | (simp; omega)) _))) hb; clear hb))
  go_ret
  exact ⟨rfl, by repeat (first | (with_reducible exact HB) | (with_reducible exact Below.refl _ _) | (with_reducible apply bd) | (with_reducible apply ba) | (with_reducible refine bs ?_ (by first | (simp; done) | (simp; omega)) _))⟩

theorem triOne_walk (a0 a1 b0 b1 c0 c1 : Int) (w : World) :
    Calls Try.prog 4 #[.agg #[.int .i64 a0, .int .i64 a1], .agg #[.int .i64 b0, .int .i64 b1], .agg #[.int .i64 c0, .int .i64 c1]] w fun e w' => e = .returned (.bool true) ∧ Below w.heap.size w w' := by
  cases h : (mkT ⟨a0, a1⟩ ⟨b0, b1⟩ ⟨c0, c1⟩).2
  · have hm := mk_no h
    exact triOne_no a0 a1 b0 b1 c0 c1 w (Prod.ext hm.1 h) hm.2
  · obtain ⟨h1, h2, -⟩ := mk_ok h
    obtain ⟨⟨⟨d0, d1⟩, ⟨e0, e1⟩, ⟨f0, f1⟩⟩, hm⟩ : ∃ m, (mkT ⟨a0, a1⟩ ⟨b0, b1⟩ ⟨c0, c1⟩).1 = m := ⟨_, rfl⟩
    rw [hm] at h1 h2
    obtain ⟨n1, n2, s1, s2⟩ := one_sort (Prod.ext hm h : mkT ⟨a0, a1⟩ ⟨b0, b1⟩ ⟨c0, c1⟩ = (⟨⟨d0, d1⟩, ⟨e0, e1⟩, ⟨f0, f1⟩⟩, true))
    obtain ⟨⟨⟨x0, x1⟩, ⟨y0, y1⟩, ⟨z0, z1⟩⟩, hp⟩ : ∃ s, srt ⟨a0, a1⟩ ⟨b0, b1⟩ ⟨c0, c1⟩ = s := ⟨_, rfl⟩
    rw [hp] at s1 s2
    obtain ⟨rfl, rfl⟩ : x0 = d0 ∧ x1 = d1 := by simpa using s2
    exact triOne_yes a0 a1 b0 b1 c0 c1 x0 x1 e0 e1 f0 f1 y0 y1 z0 z1 w (Prod.ext hm h) h1 h2 hp s1 n1 n2

end Go.Proofs.Ytandgbpbabmdfaa
