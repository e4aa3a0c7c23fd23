import Derived.Test.YtandgbpbabmdfaaT52
import Derived.Test.YtandgbpbabmdfaaR44
import Derived.IntWalk
namespace Go.Proofs.Ytandgbpbabmdfaa
open Go.RowKit
attribute [local go_sem high] eq23 eq25 mn_two mx_two mn_three mx_three mx_four

/-- What holds of the loop over a triangle's sides, against a window, in the reference. -/
def OvRelR (w w2 : World) (d0 d1 e0 e1 f0 f1 x0 y0 x1 y1 : Int) (vi : Value) (wr : World) : Prop :=
  ∃ (k : Nat), k ≤ 3 ∧ vi = .int .i64 k ∧ Hid (noR ⟨⟨d0, d1⟩, ⟨e0, e1⟩, ⟨f0, f1⟩⟩ x0 y0 x1 y1 k = true) ∧ Below w.heap.size w wr ∧ wr.cell? ⟨w.heap.size, 0, none⟩ = some (.int .i64 d0) ∧ wr.cell? ⟨w.heap.size, 1, none⟩ = some (.int .i64 d1) ∧ wr.cell? ⟨w.heap.size, 2, none⟩ = some (.int .i64 e0) ∧ wr.cell? ⟨w.heap.size, 3, none⟩ = some (.int .i64 e1) ∧ wr.cell? ⟨w.heap.size, 4, none⟩ = some (.int .i64 f0) ∧ wr.cell? ⟨w.heap.size, 5, none⟩ = some (.int .i64 f1) ∧ wr.cell? ⟨w2.heap.size, 0, none⟩ = some (.int .i64 x0) ∧ wr.cell? ⟨w2.heap.size, 1, none⟩ = some (.int .i64 y0) ∧ wr.cell? ⟨w2.heap.size, 2, none⟩ = some (.int .i64 x1) ∧ wr.cell? ⟨w2.heap.size, 3, none⟩ = some (.int .i64 y0) ∧ wr.cell? ⟨w2.heap.size, 4, none⟩ = some (.int .i64 x1) ∧ wr.cell? ⟨w2.heap.size, 5, none⟩ = some (.int .i64 y1) ∧ wr.cell? ⟨w2.heap.size, 6, none⟩ = some (.int .i64 x0) ∧ wr.cell? ⟨w2.heap.size, 7, none⟩ = some (.int .i64 y1)

set_option maxHeartbeats 4000000 in
set_option maxRecDepth 100000 in
theorem ovl44_yes (d0 d1 e0 e1 f0 f1 x0 y0 x1 y1 : Int) (w : World) (v1 : valT ⟨⟨d0, d1⟩, ⟨e0, e1⟩, ⟨f0, f1⟩⟩ = true) (v2 : win x0 y0 x1 y1 = true) (v3 : decide (mx (mx d0 e0) f0 < x0) = false) (v4 : decide (x1 < mn (mn d0 e0) f0) = false) (v5 : decide (mx (mx d1 e1) f1 < y0) = false) (v6 : decide (y1 < mn (mn d1 e1) f1) = false) :
    Calls Try.prog 44 #[.agg #[.int .i64 d0, .int .i64 d1, .int .i64 e0, .int .i64 e1, .int .i64 f0, .int .i64 f1], .agg #[.int .i64 x0, .int .i64 y0, .int .i64 x1, .int .i64 y1]] w fun e w' => e = .returned (.bool (noR ⟨⟨d0, d1⟩, ⟨e0, e1⟩, ⟨f0, f1⟩⟩ x0 y0 x1 y1 3)) ∧ Below w.heap.size w w' := by
  have HB := Below.refl w.heap.size w
  go_enter Try.func44, Try.ntmps44
  go_wp2_with fail
  refine (valT25 _ _ _ _ _ _ _).mono ?_; rw [v1]; rintro e w1 ⟨rfl, hb⟩; (with_reducible (repeat replace hb := undr hb)); replace tc0 := ck hb (a := ⟨w.heap.size, 0, none⟩) (v := .int .i64 d0) (by go_simp); replace tc1 := ck hb (a := ⟨w.heap.size, 1, none⟩) (v := .int .i64 d1) (by go_simp); replace tc2 := ck hb (a := ⟨w.heap.size, 2, none⟩) (v := .int .i64 e0) (by go_simp); replace tc3 := ck hb (a := ⟨w.heap.size, 3, none⟩) (v := .int .i64 e1) (by go_simp); replace tc4 := ck hb (a := ⟨w.heap.size, 4, none⟩) (v := .int .i64 f0) (by go_simp); replace tc5 := ck hb (a := ⟨w.heap.size, 5, none⟩) (v := .int .i64 f1) (by go_simp); replace rc0 := ck hb (a := ⟨w.heap.size + 1, 0, none⟩) (v := .int .i64 x0) (by go_simp); replace rc1 := ck hb (a := ⟨w.heap.size + 1, 1, none⟩) (v := .int .i64 y0) (by go_simp); replace rc2 := ck hb (a := ⟨w.heap.size + 1, 2, none⟩) (v := .int .i64 x1) (by go_simp); replace rc3 := ck hb (a := ⟨w.heap.size + 1, 3, none⟩) (v := .int .i64 y1) (by go_simp); replace tz : w.heap.size < w1.heap.size := World.block_lt_of_cell? w1 _ tc0; replace tn : ¬ w.heap.size = w1.heap.size := Nat.ne_of_lt tz; replace rz : w.heap.size + 1 < w1.heap.size := World.block_lt_of_cell? w1 _ rc0; replace rn : ¬ w.heap.size + 1 = w1.heap.size := Nat.ne_of_lt rz; replace ro : w.heap.size < w1.heap.size := Nat.lt_of_succ_lt rz; replace HB : Below w.heap.size w w1 := bt (by repeat (first | (with_reducible exact HB) | (with_reducible exact Below.refl _ _) | (with_reducible apply bd) | (with_reducible apply ba) | (with_reducible refine bs ?_ (by first | (simp; done) | (simp; omega)) _))) hb; clear hb
  go_wp2_with fail
  refine (win42 _ _ _ _ _).mono ?_; rw [v2]; rintro e w2 ⟨rfl, hb⟩; (with_reducible (repeat replace hb := undr hb)); replace tc0 := ck hb (a := ⟨w.heap.size, 0, none⟩) (v := .int .i64 d0) (by go_simp); replace tc1 := ck hb (a := ⟨w.heap.size, 1, none⟩) (v := .int .i64 d1) (by go_simp); replace tc2 := ck hb (a := ⟨w.heap.size, 2, none⟩) (v := .int .i64 e0) (by go_simp); replace tc3 := ck hb (a := ⟨w.heap.size, 3, none⟩) (v := .int .i64 e1) (by go_simp); replace tc4 := ck hb (a := ⟨w.heap.size, 4, none⟩) (v := .int .i64 f0) (by go_simp); replace tc5 := ck hb (a := ⟨w.heap.size, 5, none⟩) (v := .int .i64 f1) (by go_simp); replace rc0 := ck hb (a := ⟨w.heap.size + 1, 0, none⟩) (v := .int .i64 x0) (by go_simp); replace rc1 := ck hb (a := ⟨w.heap.size + 1, 1, none⟩) (v := .int .i64 y0) (by go_simp); replace rc2 := ck hb (a := ⟨w.heap.size + 1, 2, none⟩) (v := .int .i64 x1) (by go_simp); replace rc3 := ck hb (a := ⟨w.heap.size + 1, 3, none⟩) (v := .int .i64 y1) (by go_simp); replace tz : w.heap.size < w2.heap.size := World.block_lt_of_cell? w2 _ tc0; replace tn : ¬ w.heap.size = w2.heap.size := Nat.ne_of_lt tz; replace rz : w.heap.size + 1 < w2.heap.size := World.block_lt_of_cell? w2 _ rc0; replace rn : ¬ w.heap.size + 1 = w2.heap.size := Nat.ne_of_lt rz; replace ro : w.heap.size < w2.heap.size := Nat.lt_of_succ_lt rz; replace HB : Below w.heap.size w w2 := bt (by repeat (first | (with_reducible exact HB) | (with_reducible exact Below.refl _ _) | (with_reducible apply bd) | (with_reducible apply ba) | (with_reducible refine bs ?_ (by first | (simp; done) | (simp; omega)) _))) hb; clear hb
  go_wp2_with fail
  clear v1 v2 v3 v4 v5 v6
  go_loopw [6] (fun vi wr => OvRelR w w2 d0 d1 e0 e1 f0 f1 x0 y0 x1 y1 vi wr) (fun vi _ => 3 - (intOf vi).toNat)
  case atStart =>
    refine ⟨0, by omega, rfl, rfl, by repeat (first | (with_reducible exact HB) | (with_reducible exact Below.refl _ _) | (with_reducible apply bd) | (with_reducible apply ba) | (with_reducible refine bs ?_ (by first | (simp; done) | (simp; omega)) _)), ?_⟩
    refine ⟨?_, ?_, ?_, ?_, ?_, ?_, ?_, ?_, ?_, ?_, ?_, ?_, ?_, ?_⟩ <;> go_simp
  case round =>
    clear tc0 tc1 tc2 tc3 tc4 tc5 rc0 rc1 rc2 rc3 HB
    obtain ⟨k, hk3, rfl, hs, HB, tc0, tc1, tc2, tc3, tc4, tc5, csc0, csc1, csc2, csc3, csc4, csc5, csc6, csc7⟩ := hrel
    by_cases hlt : k < 3
    · obtain ⟨⟨p0, p1⟩, hE⟩ : ∃ m, cor ⟨⟨d0, d1⟩, ⟨e0, e1⟩, ⟨f0, f1⟩⟩ k = m := ⟨_, rfl⟩
      obtain ⟨⟨q0, q1⟩, hF⟩ : ∃ m, cor ⟨⟨d0, d1⟩, ⟨e0, e1⟩, ⟨f0, f1⟩⟩ (k + 1) = m := ⟨_, rfl⟩
      have sE : edR ⟨⟨d0, d1⟩, ⟨e0, e1⟩, ⟨f0, f1⟩⟩ x0 y0 x1 y1 k = (decide (ori ⟨p0, p1⟩ ⟨q0, q1⟩ ⟨x0, y0⟩ < 0) && decide (ori ⟨p0, p1⟩ ⟨q0, q1⟩ ⟨x1, y0⟩ < 0) && decide (ori ⟨p0, p1⟩ ⟨q0, q1⟩ ⟨x1, y1⟩ < 0) && decide (ori ⟨p0, p1⟩ ⟨q0, q1⟩ ⟨x0, y1⟩ < 0)) := by unfold edR; rw [hE, hF]
      have sK : noR ⟨⟨d0, d1⟩, ⟨e0, e1⟩, ⟨f0, f1⟩⟩ x0 y0 x1 y1 (k + 1) = !edR ⟨⟨d0, d1⟩, ⟨e0, e1⟩, ⟨f0, f1⟩⟩ x0 y0 x1 y1 k := by simp only [noR]; rw [hs.out]; rfl
      replace sE := Lib.hid sE
      replace sK := Lib.hid sK
      have eq1 : IntKind.i64.wrap ((k : Int) + 1) = k + 1 := IntWalk.i64_in _ (by omega)
      have tk : decide ((k : Int) < 3) = true := decide_eq_true (by omega)
      clear hs
      go_wp2_with fail
      refine wp_loop_rounds 5 ?_
      rw [rounds_succ]
      go_wp2_with fail
      cases o0 : decide (ori ⟨p0, p1⟩ ⟨q0, q1⟩ ⟨x0, y0⟩ < 0)
      · refine region44_0 d0 d1 e0 e1 f0 f1 p0 p1 q0 q1 x0 y0 x1 y1 k _ w.heap.size w2.heap.size false w hE hF eq1 rfl o0 (by kernel_rfl) rfl rfl rfl rfl rfl ⟨tc0, tc1, tc2, tc3, tc4, tc5, csc0, csc1, csc2, csc3, csc4, csc5, csc6, csc7, bd HB⟩ (fun w3 hS => ?_)
        obtain ⟨tc0, tc1, tc2, tc3, tc4, tc5, csc0, csc1, csc2, csc3, csc4, csc5, csc6, csc7, HB⟩ := hS
        simp only [List.setIfInBounds_toArray, List.set_cons_zero, List.set_cons_succ]
        go_wp2_with fail
        rw [rounds_succ]
        go_wp2_with fail
        cases o1 : decide (ori ⟨p0, p1⟩ ⟨q0, q1⟩ ⟨x1, y0⟩ < 0)
        · refine region44_1 d0 d1 e0 e1 f0 f1 p0 p1 q0 q1 x0 y0 x1 y1 k _ w.heap.size w2.heap.size false w hE hF eq1 rfl o1 (by kernel_rfl) rfl rfl rfl rfl rfl ⟨tc0, tc1, tc2, tc3, tc4, tc5, csc0, csc1, csc2, csc3, csc4, csc5, csc6, csc7, bd HB⟩ (fun w4 hS => ?_)
          obtain ⟨tc0, tc1, tc2, tc3, tc4, tc5, csc0, csc1, csc2, csc3, csc4, csc5, csc6, csc7, HB⟩ := hS
          simp only [List.setIfInBounds_toArray, List.set_cons_zero, List.set_cons_succ]
          go_wp2_with fail
          rw [rounds_succ]
          go_wp2_with fail
          cases o2 : decide (ori ⟨p0, p1⟩ ⟨q0, q1⟩ ⟨x1, y1⟩ < 0)
          · refine region44_2 d0 d1 e0 e1 f0 f1 p0 p1 q0 q1 x0 y0 x1 y1 k _ w.heap.size w2.heap.size false w hE hF eq1 rfl o2 (by kernel_rfl) rfl rfl rfl rfl rfl ⟨tc0, tc1, tc2, tc3, tc4, tc5, csc0, csc1, csc2, csc3, csc4, csc5, csc6, csc7, bd HB⟩ (fun w5 hS => ?_)
            obtain ⟨tc0, tc1, tc2, tc3, tc4, tc5, csc0, csc1, csc2, csc3, csc4, csc5, csc6, csc7, HB⟩ := hS
            simp only [List.setIfInBounds_toArray, List.set_cons_zero, List.set_cons_succ]
            go_wp2_with fail
            rw [rounds_succ]
            go_wp2_with fail
            cases o3 : decide (ori ⟨p0, p1⟩ ⟨q0, q1⟩ ⟨x0, y1⟩ < 0)
            · refine region44_3 d0 d1 e0 e1 f0 f1 p0 p1 q0 q1 x0 y0 x1 y1 k _ w.heap.size w2.heap.size false w hE hF eq1 rfl o3 (by kernel_rfl) rfl rfl rfl rfl rfl ⟨tc0, tc1, tc2, tc3, tc4, tc5, csc0, csc1, csc2, csc3, csc4, csc5, csc6, csc7, bd HB⟩ (fun w6 hS => ?_)
              obtain ⟨tc0, tc1, tc2, tc3, tc4, tc5, csc0, csc1, csc2, csc3, csc4, csc5, csc6, csc7, HB⟩ := hS
              simp only [List.setIfInBounds_toArray, List.set_cons_zero, List.set_cons_succ]
              go_wp2_with fail
              have sV : edR ⟨⟨d0, d1⟩, ⟨e0, e1⟩, ⟨f0, f1⟩⟩ x0 y0 x1 y1 k = false := by rw [sE.out, o0, o1, o2, o3]; rfl
              rw [rounds_succ]
              have sN : noR ⟨⟨d0, d1⟩, ⟨e0, e1⟩, ⟨f0, f1⟩⟩ x0 y0 x1 y1 (k + 1) = true := by rw [sK.out, sV]; rfl
              replace sN := Lib.hid sN
              clear sV sE sK
              go_wp2
              exact ⟨⟨k + 1, by omega, by go_num, sN, HB, tc0, tc1, tc2, tc3, tc4, tc5, csc0, csc1, csc2, csc3, csc4, csc5, csc6, csc7⟩, by simp [intOf]; omega⟩
            · refine region44_3 d0 d1 e0 e1 f0 f1 p0 p1 q0 q1 x0 y0 x1 y1 k _ w.heap.size w2.heap.size true w hE hF eq1 rfl o3 (by kernel_rfl) rfl rfl rfl rfl rfl ⟨tc0, tc1, tc2, tc3, tc4, tc5, csc0, csc1, csc2, csc3, csc4, csc5, csc6, csc7, bd HB⟩ (fun w6 hS => ?_)
              obtain ⟨tc0, tc1, tc2, tc3, tc4, tc5, csc0, csc1, csc2, csc3, csc4, csc5, csc6, csc7, HB⟩ := hS
              simp only [List.setIfInBounds_toArray, List.set_cons_zero, List.set_cons_succ]
              go_wp2_with fail
              have sV : edR ⟨⟨d0, d1⟩, ⟨e0, e1⟩, ⟨f0, f1⟩⟩ x0 y0 x1 y1 k = false := by rw [sE.out, o0, o1, o2, o3]; rfl
              rw [rounds_succ]
              have sN : noR ⟨⟨d0, d1⟩, ⟨e0, e1⟩, ⟨f0, f1⟩⟩ x0 y0 x1 y1 (k + 1) = true := by rw [sK.out, sV]; rfl
              replace sN := Lib.hid sN
              clear sV sE sK
              go_wp2
              exact ⟨⟨k + 1, by omega, by go_num, sN, HB, tc0, tc1, tc2, tc3, tc4, tc5, csc0, csc1, csc2, csc3, csc4, csc5, csc6, csc7⟩, by simp [intOf]; omega⟩
          · refine region44_2 d0 d1 e0 e1 f0 f1 p0 p1 q0 q1 x0 y0 x1 y1 k _ w.heap.size w2.heap.size true w hE hF eq1 rfl o2 (by kernel_rfl) rfl rfl rfl rfl rfl ⟨tc0, tc1, tc2, tc3, tc4, tc5, csc0, csc1, csc2, csc3, csc4, csc5, csc6, csc7, bd HB⟩ (fun w5 hS => ?_)
            obtain ⟨tc0, tc1, tc2, tc3, tc4, tc5, csc0, csc1, csc2, csc3, csc4, csc5, csc6, csc7, HB⟩ := hS
            simp only [List.setIfInBounds_toArray, List.set_cons_zero, List.set_cons_succ]
            go_wp2_with fail
            rw [rounds_succ]
            go_wp2_with fail
            cases o3 : decide (ori ⟨p0, p1⟩ ⟨q0, q1⟩ ⟨x0, y1⟩ < 0)
            · refine region44_3 d0 d1 e0 e1 f0 f1 p0 p1 q0 q1 x0 y0 x1 y1 k _ w.heap.size w2.heap.size false w hE hF eq1 rfl o3 (by kernel_rfl) rfl rfl rfl rfl rfl ⟨tc0, tc1, tc2, tc3, tc4, tc5, csc0, csc1, csc2, csc3, csc4, csc5, csc6, csc7, bd HB⟩ (fun w6 hS => ?_)
              obtain ⟨tc0, tc1, tc2, tc3, tc4, tc5, csc0, csc1, csc2, csc3, csc4, csc5, csc6, csc7, HB⟩ := hS
              simp only [List.setIfInBounds_toArray, List.set_cons_zero, List.set_cons_succ]
              go_wp2_with fail
              have sV : edR ⟨⟨d0, d1⟩, ⟨e0, e1⟩, ⟨f0, f1⟩⟩ x0 y0 x1 y1 k = false := by rw [sE.out, o0, o1, o2, o3]; rfl
              rw [rounds_succ]
              have sN : noR ⟨⟨d0, d1⟩, ⟨e0, e1⟩, ⟨f0, f1⟩⟩ x0 y0 x1 y1 (k + 1) = true := by rw [sK.out, sV]; rfl
              replace sN := Lib.hid sN
              clear sV sE sK
              go_wp2
              exact ⟨⟨k + 1, by omega, by go_num, sN, HB, tc0, tc1, tc2, tc3, tc4, tc5, csc0, csc1, csc2, csc3, csc4, csc5, csc6, csc7⟩, by simp [intOf]; omega⟩
            · refine region44_3 d0 d1 e0 e1 f0 f1 p0 p1 q0 q1 x0 y0 x1 y1 k _ w.heap.size w2.heap.size true w hE hF eq1 rfl o3 (by kernel_rfl) rfl rfl rfl rfl rfl ⟨tc0, tc1, tc2, tc3, tc4, tc5, csc0, csc1, csc2, csc3, csc4, csc5, csc6, csc7, bd HB⟩ (fun w6 hS => ?_)
              obtain ⟨tc0, tc1, tc2, tc3, tc4, tc5, csc0, csc1, csc2, csc3, csc4, csc5, csc6, csc7, HB⟩ := hS
              simp only [List.setIfInBounds_toArray, List.set_cons_zero, List.set_cons_succ]
              go_wp2_with fail
              have sV : edR ⟨⟨d0, d1⟩, ⟨e0, e1⟩, ⟨f0, f1⟩⟩ x0 y0 x1 y1 k = false := by rw [sE.out, o0, o1, o2, o3]; rfl
              rw [rounds_succ]
              have sN : noR ⟨⟨d0, d1⟩, ⟨e0, e1⟩, ⟨f0, f1⟩⟩ x0 y0 x1 y1 (k + 1) = true := by rw [sK.out, sV]; rfl
              replace sN := Lib.hid sN
              clear sV sE sK
              go_wp2
              exact ⟨⟨k + 1, by omega, by go_num, sN, HB, tc0, tc1, tc2, tc3, tc4, tc5, csc0, csc1, csc2, csc3, csc4, csc5, csc6, csc7⟩, by simp [intOf]; omega⟩
        · refine region44_1 d0 d1 e0 e1 f0 f1 p0 p1 q0 q1 x0 y0 x1 y1 k _ w.heap.size w2.heap.size true w hE hF eq1 rfl o1 (by kernel_rfl) rfl rfl rfl rfl rfl ⟨tc0, tc1, tc2, tc3, tc4, tc5, csc0, csc1, csc2, csc3, csc4, csc5, csc6, csc7, bd HB⟩ (fun w4 hS => ?_)
          obtain ⟨tc0, tc1, tc2, tc3, tc4, tc5, csc0, csc1, csc2, csc3, csc4, csc5, csc6, csc7, HB⟩ := hS
          simp only [List.setIfInBounds_toArray, List.set_cons_zero, List.set_cons_succ]
          go_wp2_with fail
          rw [rounds_succ]
          go_wp2_with fail
          cases o2 : decide (ori ⟨p0, p1⟩ ⟨q0, q1⟩ ⟨x1, y1⟩ < 0)
          · refine region44_2 d0 d1 e0 e1 f0 f1 p0 p1 q0 q1 x0 y0 x1 y1 k _ w.heap.size w2.heap.size false w hE hF eq1 rfl o2 (by kernel_rfl) rfl rfl rfl rfl rfl ⟨tc0, tc1, tc2, tc3, tc4, tc5, csc0, csc1, csc2, csc3, csc4, csc5, csc6, csc7, bd HB⟩ (fun w5 hS => ?_)
            obtain ⟨tc0, tc1, tc2, tc3, tc4, tc5, csc0, csc1, csc2, csc3, csc4, csc5, csc6, csc7, HB⟩ := hS
            simp only [List.setIfInBounds_toArray, List.set_cons_zero, List.set_cons_succ]
            go_wp2_with fail
            rw [rounds_succ]
            go_wp2_with fail
            cases o3 : decide (ori ⟨p0, p1⟩ ⟨q0, q1⟩ ⟨x0, y1⟩ < 0)
            · refine region44_3 d0 d1 e0 e1 f0 f1 p0 p1 q0 q1 x0 y0 x1 y1 k _ w.heap.size w2.heap.size false w hE hF eq1 rfl o3 (by kernel_rfl) rfl rfl rfl rfl rfl ⟨tc0, tc1, tc2, tc3, tc4, tc5, csc0, csc1, csc2, csc3, csc4, csc5, csc6, csc7, bd HB⟩ (fun w6 hS => ?_)
              obtain ⟨tc0, tc1, tc2, tc3, tc4, tc5, csc0, csc1, csc2, csc3, csc4, csc5, csc6, csc7, HB⟩ := hS
              simp only [List.setIfInBounds_toArray, List.set_cons_zero, List.set_cons_succ]
              go_wp2_with fail
              have sV : edR ⟨⟨d0, d1⟩, ⟨e0, e1⟩, ⟨f0, f1⟩⟩ x0 y0 x1 y1 k = false := by rw [sE.out, o0, o1, o2, o3]; rfl
              rw [rounds_succ]
              have sN : noR ⟨⟨d0, d1⟩, ⟨e0, e1⟩, ⟨f0, f1⟩⟩ x0 y0 x1 y1 (k + 1) = true := by rw [sK.out, sV]; rfl
              replace sN := Lib.hid sN
              clear sV sE sK
              go_wp2
              exact ⟨⟨k + 1, by omega, by go_num, sN, HB, tc0, tc1, tc2, tc3, tc4, tc5, csc0, csc1, csc2, csc3, csc4, csc5, csc6, csc7⟩, by simp [intOf]; omega⟩
            · refine region44_3 d0 d1 e0 e1 f0 f1 p0 p1 q0 q1 x0 y0 x1 y1 k _ w.heap.size w2.heap.size true w hE hF eq1 rfl o3 (by kernel_rfl) rfl rfl rfl rfl rfl ⟨tc0, tc1, tc2, tc3, tc4, tc5, csc0, csc1, csc2, csc3, csc4, csc5, csc6, csc7, bd HB⟩ (fun w6 hS => ?_)
              obtain ⟨tc0, tc1, tc2, tc3, tc4, tc5, csc0, csc1, csc2, csc3, csc4, csc5, csc6, csc7, HB⟩ := hS
              simp only [List.setIfInBounds_toArray, List.set_cons_zero, List.set_cons_succ]
              go_wp2_with fail
              have sV : edR ⟨⟨d0, d1⟩, ⟨e0, e1⟩, ⟨f0, f1⟩⟩ x0 y0 x1 y1 k = false := by rw [sE.out, o0, o1, o2, o3]; rfl
              rw [rounds_succ]
              have sN : noR ⟨⟨d0, d1⟩, ⟨e0, e1⟩, ⟨f0, f1⟩⟩ x0 y0 x1 y1 (k + 1) = true := by rw [sK.out, sV]; rfl
              replace sN := Lib.hid sN
              clear sV sE sK
              go_wp2
              exact ⟨⟨k + 1, by omega, by go_num, sN, HB, tc0, tc1, tc2, tc3, tc4, tc5, csc0, csc1, csc2, csc3, csc4, csc5, csc6, csc7⟩, by simp [intOf]; omega⟩
          · refine region44_2 d0 d1 e0 e1 f0 f1 p0 p1 q0 q1 x0 y0 x1 y1 k _ w.heap.size w2.heap.size true w hE hF eq1 rfl o2 (by kernel_rfl) rfl rfl rfl rfl rfl ⟨tc0, tc1, tc2, tc3, tc4, tc5, csc0, csc1, csc2, csc3, csc4, csc5, csc6, csc7, bd HB⟩ (fun w5 hS => ?_)
            obtain ⟨tc0, tc1, tc2, tc3, tc4, tc5, csc0, csc1, csc2, csc3, csc4, csc5, csc6, csc7, HB⟩ := hS
            simp only [List.setIfInBounds_toArray, List.set_cons_zero, List.set_cons_succ]
            go_wp2_with fail
            rw [rounds_succ]
            go_wp2_with fail
            cases o3 : decide (ori ⟨p0, p1⟩ ⟨q0, q1⟩ ⟨x0, y1⟩ < 0)
            · refine region44_3 d0 d1 e0 e1 f0 f1 p0 p1 q0 q1 x0 y0 x1 y1 k _ w.heap.size w2.heap.size false w hE hF eq1 rfl o3 (by kernel_rfl) rfl rfl rfl rfl rfl ⟨tc0, tc1, tc2, tc3, tc4, tc5, csc0, csc1, csc2, csc3, csc4, csc5, csc6, csc7, bd HB⟩ (fun w6 hS => ?_)
              obtain ⟨tc0, tc1, tc2, tc3, tc4, tc5, csc0, csc1, csc2, csc3, csc4, csc5, csc6, csc7, HB⟩ := hS
              simp only [List.setIfInBounds_toArray, List.set_cons_zero, List.set_cons_succ]
              go_wp2_with fail
              have sV : edR ⟨⟨d0, d1⟩, ⟨e0, e1⟩, ⟨f0, f1⟩⟩ x0 y0 x1 y1 k = false := by rw [sE.out, o0, o1, o2, o3]; rfl
              rw [rounds_succ]
              have sN : noR ⟨⟨d0, d1⟩, ⟨e0, e1⟩, ⟨f0, f1⟩⟩ x0 y0 x1 y1 (k + 1) = true := by rw [sK.out, sV]; rfl
              replace sN := Lib.hid sN
              clear sV sE sK
              go_wp2
              exact ⟨⟨k + 1, by omega, by go_num, sN, HB, tc0, tc1, tc2, tc3, tc4, tc5, csc0, csc1, csc2, csc3, csc4, csc5, csc6, csc7⟩, by simp [intOf]; omega⟩
            · refine region44_3 d0 d1 e0 e1 f0 f1 p0 p1 q0 q1 x0 y0 x1 y1 k _ w.heap.size w2.heap.size true w hE hF eq1 rfl o3 (by kernel_rfl) rfl rfl rfl rfl rfl ⟨tc0, tc1, tc2, tc3, tc4, tc5, csc0, csc1, csc2, csc3, csc4, csc5, csc6, csc7, bd HB⟩ (fun w6 hS => ?_)
              obtain ⟨tc0, tc1, tc2, tc3, tc4, tc5, csc0, csc1, csc2, csc3, csc4, csc5, csc6, csc7, HB⟩ := hS
              simp only [List.setIfInBounds_toArray, List.set_cons_zero, List.set_cons_succ]
              go_wp2_with fail
              have sV : edR ⟨⟨d0, d1⟩, ⟨e0, e1⟩, ⟨f0, f1⟩⟩ x0 y0 x1 y1 k = false := by rw [sE.out, o0, o1, o2, o3]; rfl
              rw [rounds_succ]
              have sN : noR ⟨⟨d0, d1⟩, ⟨e0, e1⟩, ⟨f0, f1⟩⟩ x0 y0 x1 y1 (k + 1) = true := by rw [sK.out, sV]; rfl
              replace sN := Lib.hid sN
              clear sV sE sK
              go_wp2
              exact ⟨⟨k + 1, by omega, by go_num, sN, HB, tc0, tc1, tc2, tc3, tc4, tc5, csc0, csc1, csc2, csc3, csc4, csc5, csc6, csc7⟩, by simp [intOf]; omega⟩
      · refine region44_0 d0 d1 e0 e1 f0 f1 p0 p1 q0 q1 x0 y0 x1 y1 k _ w.heap.size w2.heap.size true w hE hF eq1 rfl o0 (by kernel_rfl) rfl rfl rfl rfl rfl ⟨tc0, tc1, tc2, tc3, tc4, tc5, csc0, csc1, csc2, csc3, csc4, csc5, csc6, csc7, bd HB⟩ (fun w3 hS => ?_)
        obtain ⟨tc0, tc1, tc2, tc3, tc4, tc5, csc0, csc1, csc2, csc3, csc4, csc5, csc6, csc7, HB⟩ := hS
        simp only [List.setIfInBounds_toArray, List.set_cons_zero, List.set_cons_succ]
        go_wp2_with fail
        rw [rounds_succ]
        go_wp2_with fail
        cases o1 : decide (ori ⟨p0, p1⟩ ⟨q0, q1⟩ ⟨x1, y0⟩ < 0)
        · refine region44_1 d0 d1 e0 e1 f0 f1 p0 p1 q0 q1 x0 y0 x1 y1 k _ w.heap.size w2.heap.size false w hE hF eq1 rfl o1 (by kernel_rfl) rfl rfl rfl rfl rfl ⟨tc0, tc1, tc2, tc3, tc4, tc5, csc0, csc1, csc2, csc3, csc4, csc5, csc6, csc7, bd HB⟩ (fun w4 hS => ?_)
          obtain ⟨tc0, tc1, tc2, tc3, tc4, tc5, csc0, csc1, csc2, csc3, csc4, csc5, csc6, csc7, HB⟩ := hS
          simp only [List.setIfInBounds_toArray, List.set_cons_zero, List.set_cons_succ]
          go_wp2_with fail
          rw [rounds_succ]
          go_wp2_with fail
          cases o2 : decide (ori ⟨p0, p1⟩ ⟨q0, q1⟩ ⟨x1, y1⟩ < 0)
          · refine region44_2 d0 d1 e0 e1 f0 f1 p0 p1 q0 q1 x0 y0 x1 y1 k _ w.heap.size w2.heap.size false w hE hF eq1 rfl o2 (by kernel_rfl) rfl rfl rfl rfl rfl ⟨tc0, tc1, tc2, tc3, tc4, tc5, csc0, csc1, csc2, csc3, csc4, csc5, csc6, csc7, bd HB⟩ (fun w5 hS => ?_)
            obtain ⟨tc0, tc1, tc2, tc3, tc4, tc5, csc0, csc1, csc2, csc3, csc4, csc5, csc6, csc7, HB⟩ := hS
            simp only [List.setIfInBounds_toArray, List.set_cons_zero, List.set_cons_succ]
            go_wp2_with fail
            rw [rounds_succ]
            go_wp2_with fail
            cases o3 : decide (ori ⟨p0, p1⟩ ⟨q0, q1⟩ ⟨x0, y1⟩ < 0)
            · refine region44_3 d0 d1 e0 e1 f0 f1 p0 p1 q0 q1 x0 y0 x1 y1 k _ w.heap.size w2.heap.size false w hE hF eq1 rfl o3 (by kernel_rfl) rfl rfl rfl rfl rfl ⟨tc0, tc1, tc2, tc3, tc4, tc5, csc0, csc1, csc2, csc3, csc4, csc5, csc6, csc7, bd HB⟩ (fun w6 hS => ?_)
              obtain ⟨tc0, tc1, tc2, tc3, tc4, tc5, csc0, csc1, csc2, csc3, csc4, csc5, csc6, csc7, HB⟩ := hS
              simp only [List.setIfInBounds_toArray, List.set_cons_zero, List.set_cons_succ]
              go_wp2_with fail
              have sV : edR ⟨⟨d0, d1⟩, ⟨e0, e1⟩, ⟨f0, f1⟩⟩ x0 y0 x1 y1 k = false := by rw [sE.out, o0, o1, o2, o3]; rfl
              rw [rounds_succ]
              have sN : noR ⟨⟨d0, d1⟩, ⟨e0, e1⟩, ⟨f0, f1⟩⟩ x0 y0 x1 y1 (k + 1) = true := by rw [sK.out, sV]; rfl
              replace sN := Lib.hid sN
              clear sV sE sK
              go_wp2
              exact ⟨⟨k + 1, by omega, by go_num, sN, HB, tc0, tc1, tc2, tc3, tc4, tc5, csc0, csc1, csc2, csc3, csc4, csc5, csc6, csc7⟩, by simp [intOf]; omega⟩
            · refine region44_3 d0 d1 e0 e1 f0 f1 p0 p1 q0 q1 x0 y0 x1 y1 k _ w.heap.size w2.heap.size true w hE hF eq1 rfl o3 (by kernel_rfl) rfl rfl rfl rfl rfl ⟨tc0, tc1, tc2, tc3, tc4, tc5, csc0, csc1, csc2, csc3, csc4, csc5, csc6, csc7, bd HB⟩ (fun w6 hS => ?_)
              obtain ⟨tc0, tc1, tc2, tc3, tc4, tc5, csc0, csc1, csc2, csc3, csc4, csc5, csc6, csc7, HB⟩ := hS
              simp only [List.setIfInBounds_toArray, List.set_cons_zero, List.set_cons_succ]
              go_wp2_with fail
              have sV : edR ⟨⟨d0, d1⟩, ⟨e0, e1⟩, ⟨f0, f1⟩⟩ x0 y0 x1 y1 k = false := by rw [sE.out, o0, o1, o2, o3]; rfl
              rw [rounds_succ]
              have sN : noR ⟨⟨d0, d1⟩, ⟨e0, e1⟩, ⟨f0, f1⟩⟩ x0 y0 x1 y1 (k + 1) = true := by rw [sK.out, sV]; rfl
              replace sN := Lib.hid sN
              clear sV sE sK
              go_wp2
              exact ⟨⟨k + 1, by omega, by go_num, sN, HB, tc0, tc1, tc2, tc3, tc4, tc5, csc0, csc1, csc2, csc3, csc4, csc5, csc6, csc7⟩, by simp [intOf]; omega⟩
          · refine region44_2 d0 d1 e0 e1 f0 f1 p0 p1 q0 q1 x0 y0 x1 y1 k _ w.heap.size w2.heap.size true w hE hF eq1 rfl o2 (by kernel_rfl) rfl rfl rfl rfl rfl ⟨tc0, tc1, tc2, tc3, tc4, tc5, csc0, csc1, csc2, csc3, csc4, csc5, csc6, csc7, bd HB⟩ (fun w5 hS => ?_)
            obtain ⟨tc0, tc1, tc2, tc3, tc4, tc5, csc0, csc1, csc2, csc3, csc4, csc5, csc6, csc7, HB⟩ := hS
            simp only [List.setIfInBounds_toArray, List.set_cons_zero, List.set_cons_succ]
            go_wp2_with fail
            rw [rounds_succ]
            go_wp2_with fail
            cases o3 : decide (ori ⟨p0, p1⟩ ⟨q0, q1⟩ ⟨x0, y1⟩ < 0)
            · refine region44_3 d0 d1 e0 e1 f0 f1 p0 p1 q0 q1 x0 y0 x1 y1 k _ w.heap.size w2.heap.size false w hE hF eq1 rfl o3 (by kernel_rfl) rfl rfl rfl rfl rfl ⟨tc0, tc1, tc2, tc3, tc4, tc5, csc0, csc1, csc2, csc3, csc4, csc5, csc6, csc7, bd HB⟩ (fun w6 hS => ?_)
              obtain ⟨tc0, tc1, tc2, tc3, tc4, tc5, csc0, csc1, csc2, csc3, csc4, csc5, csc6, csc7, HB⟩ := hS
              simp only [List.setIfInBounds_toArray, List.set_cons_zero, List.set_cons_succ]
              go_wp2_with fail
              have sV : edR ⟨⟨d0, d1⟩, ⟨e0, e1⟩, ⟨f0, f1⟩⟩ x0 y0 x1 y1 k = false := by rw [sE.out, o0, o1, o2, o3]; rfl
              rw [rounds_succ]
              have sN : noR ⟨⟨d0, d1⟩, ⟨e0, e1⟩, ⟨f0, f1⟩⟩ x0 y0 x1 y1 (k + 1) = true := by rw [sK.out, sV]; rfl
              replace sN := Lib.hid sN
              clear sV sE sK
              go_wp2
              exact ⟨⟨k + 1, by omega, by go_num, sN, HB, tc0, tc1, tc2, tc3, tc4, tc5, csc0, csc1, csc2, csc3, csc4, csc5, csc6, csc7⟩, by simp [intOf]; omega⟩
            · refine region44_3 d0 d1 e0 e1 f0 f1 p0 p1 q0 q1 x0 y0 x1 y1 k _ w.heap.size w2.heap.size true w hE hF eq1 rfl o3 (by kernel_rfl) rfl rfl rfl rfl rfl ⟨tc0, tc1, tc2, tc3, tc4, tc5, csc0, csc1, csc2, csc3, csc4, csc5, csc6, csc7, bd HB⟩ (fun w6 hS => ?_)
              obtain ⟨tc0, tc1, tc2, tc3, tc4, tc5, csc0, csc1, csc2, csc3, csc4, csc5, csc6, csc7, HB⟩ := hS
              simp only [List.setIfInBounds_toArray, List.set_cons_zero, List.set_cons_succ]
              go_wp2_with fail
              have sV : edR ⟨⟨d0, d1⟩, ⟨e0, e1⟩, ⟨f0, f1⟩⟩ x0 y0 x1 y1 k = false := by rw [sE.out, o0, o1, o2, o3]; rfl
              rw [rounds_succ]
              have sN : noR ⟨⟨d0, d1⟩, ⟨e0, e1⟩, ⟨f0, f1⟩⟩ x0 y0 x1 y1 (k + 1) = true := by rw [sK.out, sV]; rfl
              replace sN := Lib.hid sN
              clear sV sE sK
              go_wp2
              exact ⟨⟨k + 1, by omega, by go_num, sN, HB, tc0, tc1, tc2, tc3, tc4, tc5, csc0, csc1, csc2, csc3, csc4, csc5, csc6, csc7⟩, by simp [intOf]; omega⟩
        · refine region44_1 d0 d1 e0 e1 f0 f1 p0 p1 q0 q1 x0 y0 x1 y1 k _ w.heap.size w2.heap.size true w hE hF eq1 rfl o1 (by kernel_rfl) rfl rfl rfl rfl rfl ⟨tc0, tc1, tc2, tc3, tc4, tc5, csc0, csc1, csc2, csc3, csc4, csc5, csc6, csc7, bd HB⟩ (fun w4 hS => ?_)
          obtain ⟨tc0, tc1, tc2, tc3, tc4, tc5, csc0, csc1, csc2, csc3, csc4, csc5, csc6, csc7, HB⟩ := hS
          simp only [List.setIfInBounds_toArray, List.set_cons_zero, List.set_cons_succ]
          go_wp2_with fail
          rw [rounds_succ]
          go_wp2_with fail
          cases o2 : decide (ori ⟨p0, p1⟩ ⟨q0, q1⟩ ⟨x1, y1⟩ < 0)
          · refine region44_2 d0 d1 e0 e1 f0 f1 p0 p1 q0 q1 x0 y0 x1 y1 k _ w.heap.size w2.heap.size false w hE hF eq1 rfl o2 (by kernel_rfl) rfl rfl rfl rfl rfl ⟨tc0, tc1, tc2, tc3, tc4, tc5, csc0, csc1, csc2, csc3, csc4, csc5, csc6, csc7, bd HB⟩ (fun w5 hS => ?_)
            obtain ⟨tc0, tc1, tc2, tc3, tc4, tc5, csc0, csc1, csc2, csc3, csc4, csc5, csc6, csc7, HB⟩ := hS
            simp only [List.setIfInBounds_toArray, List.set_cons_zero, List.set_cons_succ]
            go_wp2_with fail
            rw [rounds_succ]
            go_wp2_with fail
            cases o3 : decide (ori ⟨p0, p1⟩ ⟨q0, q1⟩ ⟨x0, y1⟩ < 0)
            · refine region44_3 d0 d1 e0 e1 f0 f1 p0 p1 q0 q1 x0 y0 x1 y1 k _ w.heap.size w2.heap.size false w hE hF eq1 rfl o3 (by kernel_rfl) rfl rfl rfl rfl rfl ⟨tc0, tc1, tc2, tc3, tc4, tc5, csc0, csc1, csc2, csc3, csc4, csc5, csc6, csc7, bd HB⟩ (fun w6 hS => ?_)
              obtain ⟨tc0, tc1, tc2, tc3, tc4, tc5, csc0, csc1, csc2, csc3, csc4, csc5, csc6, csc7, HB⟩ := hS
              simp only [List.setIfInBounds_toArray, List.set_cons_zero, List.set_cons_succ]
              go_wp2_with fail
              have sV : edR ⟨⟨d0, d1⟩, ⟨e0, e1⟩, ⟨f0, f1⟩⟩ x0 y0 x1 y1 k = false := by rw [sE.out, o0, o1, o2, o3]; rfl
              rw [rounds_succ]
              have sN : noR ⟨⟨d0, d1⟩, ⟨e0, e1⟩, ⟨f0, f1⟩⟩ x0 y0 x1 y1 (k + 1) = true := by rw [sK.out, sV]; rfl
              replace sN := Lib.hid sN
              clear sV sE sK
              go_wp2
              exact ⟨⟨k + 1, by omega, by go_num, sN, HB, tc0, tc1, tc2, tc3, tc4, tc5, csc0, csc1, csc2, csc3, csc4, csc5, csc6, csc7⟩, by simp [intOf]; omega⟩
            · refine region44_3 d0 d1 e0 e1 f0 f1 p0 p1 q0 q1 x0 y0 x1 y1 k _ w.heap.size w2.heap.size true w hE hF eq1 rfl o3 (by kernel_rfl) rfl rfl rfl rfl rfl ⟨tc0, tc1, tc2, tc3, tc4, tc5, csc0, csc1, csc2, csc3, csc4, csc5, csc6, csc7, bd HB⟩ (fun w6 hS => ?_)
              obtain ⟨tc0, tc1, tc2, tc3, tc4, tc5, csc0, csc1, csc2, csc3, csc4, csc5, csc6, csc7, HB⟩ := hS
              simp only [List.setIfInBounds_toArray, List.set_cons_zero, List.set_cons_succ]
              go_wp2_with fail
              have sV : edR ⟨⟨d0, d1⟩, ⟨e0, e1⟩, ⟨f0, f1⟩⟩ x0 y0 x1 y1 k = false := by rw [sE.out, o0, o1, o2, o3]; rfl
              rw [rounds_succ]
              have sN : noR ⟨⟨d0, d1⟩, ⟨e0, e1⟩, ⟨f0, f1⟩⟩ x0 y0 x1 y1 (k + 1) = true := by rw [sK.out, sV]; rfl
              replace sN := Lib.hid sN
              clear sV sE sK
              go_wp2
              exact ⟨⟨k + 1, by omega, by go_num, sN, HB, tc0, tc1, tc2, tc3, tc4, tc5, csc0, csc1, csc2, csc3, csc4, csc5, csc6, csc7⟩, by simp [intOf]; omega⟩
          · refine region44_2 d0 d1 e0 e1 f0 f1 p0 p1 q0 q1 x0 y0 x1 y1 k _ w.heap.size w2.heap.size true w hE hF eq1 rfl o2 (by kernel_rfl) rfl rfl rfl rfl rfl ⟨tc0, tc1, tc2, tc3, tc4, tc5, csc0, csc1, csc2, csc3, csc4, csc5, csc6, csc7, bd HB⟩ (fun w5 hS => ?_)
            obtain ⟨tc0, tc1, tc2, tc3, tc4, tc5, csc0, csc1, csc2, csc3, csc4, csc5, csc6, csc7, HB⟩ := hS
            simp only [List.setIfInBounds_toArray, List.set_cons_zero, List.set_cons_succ]
            go_wp2_with fail
            rw [rounds_succ]
            go_wp2_with fail
            cases o3 : decide (ori ⟨p0, p1⟩ ⟨q0, q1⟩ ⟨x0, y1⟩ < 0)
            · refine region44_3 d0 d1 e0 e1 f0 f1 p0 p1 q0 q1 x0 y0 x1 y1 k _ w.heap.size w2.heap.size false w hE hF eq1 rfl o3 (by kernel_rfl) rfl rfl rfl rfl rfl ⟨tc0, tc1, tc2, tc3, tc4, tc5, csc0, csc1, csc2, csc3, csc4, csc5, csc6, csc7, bd HB⟩ (fun w6 hS => ?_)
              obtain ⟨tc0, tc1, tc2, tc3, tc4, tc5, csc0, csc1, csc2, csc3, csc4, csc5, csc6, csc7, HB⟩ := hS
              simp only [List.setIfInBounds_toArray, List.set_cons_zero, List.set_cons_succ]
              go_wp2_with fail
              have sV : edR ⟨⟨d0, d1⟩, ⟨e0, e1⟩, ⟨f0, f1⟩⟩ x0 y0 x1 y1 k = false := by rw [sE.out, o0, o1, o2, o3]; rfl
              rw [rounds_succ]
              have sN : noR ⟨⟨d0, d1⟩, ⟨e0, e1⟩, ⟨f0, f1⟩⟩ x0 y0 x1 y1 (k + 1) = true := by rw [sK.out, sV]; rfl
              replace sN := Lib.hid sN
              clear sV sE sK
              go_wp2
              exact ⟨⟨k + 1, by omega, by go_num, sN, HB, tc0, tc1, tc2, tc3, tc4, tc5, csc0, csc1, csc2, csc3, csc4, csc5, csc6, csc7⟩, by simp [intOf]; omega⟩
            · refine region44_3 d0 d1 e0 e1 f0 f1 p0 p1 q0 q1 x0 y0 x1 y1 k _ w.heap.size w2.heap.size true w hE hF eq1 rfl o3 (by kernel_rfl) rfl rfl rfl rfl rfl ⟨tc0, tc1, tc2, tc3, tc4, tc5, csc0, csc1, csc2, csc3, csc4, csc5, csc6, csc7, bd HB⟩ (fun w6 hS => ?_)
              obtain ⟨tc0, tc1, tc2, tc3, tc4, tc5, csc0, csc1, csc2, csc3, csc4, csc5, csc6, csc7, HB⟩ := hS
              simp only [List.setIfInBounds_toArray, List.set_cons_zero, List.set_cons_succ]
              go_wp2_with fail
              have sV : edR ⟨⟨d0, d1⟩, ⟨e0, e1⟩, ⟨f0, f1⟩⟩ x0 y0 x1 y1 k = true := by rw [sE.out, o0, o1, o2, o3]; rfl
              rw [rounds_succ]
              have sN := Lib.hid (noR_false sV 3 (by omega))
              clear sV sE sK
              go_wp2
              go_ret
              exact ⟨rb sN.out.symm, by repeat (first | (with_reducible exact HB) | (with_reducible exact Below.refl _ _) | (with_reducible apply bd) | (with_reducible apply ba) | (with_reducible refine bs ?_ (by first | (simp; done) | (simp; omega)) _))⟩
    · obtain rfl : k = 3 := by omega
      go_wp2
      go_ret
      exact ⟨rb hs.out.symm, by repeat (first | (with_reducible exact HB) | (with_reducible exact Below.refl _ _) | (with_reducible apply bd) | (with_reducible apply ba) | (with_reducible refine bs ?_ (by first | (simp; done) | (simp; omega)) _))⟩

theorem ovl44 (d0 d1 e0 e1 f0 f1 x0 y0 x1 y1 : Int) (w : World) :
    Calls Try.prog 44 #[.agg #[.int .i64 d0, .int .i64 d1, .int .i64 e0, .int .i64 e1, .int .i64 f0, .int .i64 f1], .agg #[.int .i64 x0, .int .i64 y0, .int .i64 x1, .int .i64 y1]] w fun e w' => e = .returned (.bool (ovl ⟨⟨d0, d1⟩, ⟨e0, e1⟩, ⟨f0, f1⟩⟩ x0 y0 x1 y1)) ∧ Below w.heap.size w w' := by
  cases h : (valT ⟨⟨d0, d1⟩, ⟨e0, e1⟩, ⟨f0, f1⟩⟩ && win x0 y0 x1 y1 && !decide (mx (mx d0 e0) f0 < x0) && !decide (x1 < mn (mn d0 e0) f0) && !decide (mx (mx d1 e1) f1 < y0) && !decide (y1 < mn (mn d1 e1) f1))
  · have e : ovl ⟨⟨d0, d1⟩, ⟨e0, e1⟩, ⟨f0, f1⟩⟩ x0 y0 x1 y1 = false := by unfold ovl; dsimp only; rw [h]; rfl
    rw [e]
    exact ovl44_no d0 d1 e0 e1 f0 f1 x0 y0 x1 y1 w h
  · have e : ovl ⟨⟨d0, d1⟩, ⟨e0, e1⟩, ⟨f0, f1⟩⟩ x0 y0 x1 y1 = noR ⟨⟨d0, d1⟩, ⟨e0, e1⟩, ⟨f0, f1⟩⟩ x0 y0 x1 y1 3 := by unfold ovl; dsimp only; rw [h]; rfl
    rw [e]
    simp only [Bool.and_eq_true, Bool.not_eq_true'] at h
    obtain ⟨⟨⟨⟨⟨h1, h2⟩, h3⟩, h4⟩, h5⟩, h6⟩ := h
    exact ovl44_yes d0 d1 e0 e1 f0 f1 x0 y0 x1 y1 w h1 h2 h3 h4 h5 h6

end Go.Proofs.Ytandgbpbabmdfaa
