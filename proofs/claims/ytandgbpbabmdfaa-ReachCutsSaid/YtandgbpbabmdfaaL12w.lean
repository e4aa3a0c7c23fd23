import Derived.Test.YtandgbpbabmdfaaT18
import Derived.Test.YtandgbpbabmdfaaT19
import Derived.Test.YtandgbpbabmdfaaMp
import Derived.Test.YtandgbpbabmdfaaR12
import Derived.IntWalk
namespace Go.Proofs.Ytandgbpbabmdfaa
open Go.RowKit
attribute [local go_sem high] eq23 eq25 mn_two mx_two mn_three mx_three mx_four

set_option maxHeartbeats 4000000 in
set_option maxRecDepth 100000 in
theorem reachCuts_no (d0 d1 e0 e1 f0 f1 r0 r1 r2 r3 i : Int) (w : World) (v : win r0 r1 r2 r3 = false) :
    Calls Try.prog 12 #[.agg #[.int .i64 d0, .int .i64 d1, .int .i64 e0, .int .i64 e1, .int .i64 f0, .int .i64 f1], .agg #[.int .i64 r0, .int .i64 r1, .int .i64 r2, .int .i64 r3], .int .i64 i] w fun e w' => e = .returned (.bool true) ∧ Below w.heap.size w w' := by
  have HB := Below.refl w.heap.size w
  go_enter Try.func12, Try.ntmps12
  go_wp2_with (first | (go_at_call 42; refine (win42 _ _ _ _ _).mono ?_; rw [v]; rintro e w1 ⟨rfl, hb⟩; (with_reducible (repeat replace hb := undr hb)); replace tc0 := ck hb (a := ⟨w.heap.size, 0, none⟩) (v := .int .i64 d0) (by go_simp); replace tc1 := ck hb (a := ⟨w.heap.size, 1, none⟩) (v := .int .i64 d1) (by go_simp); replace tc2 := ck hb (a := ⟨w.heap.size, 2, none⟩) (v := .int .i64 e0) (by go_simp); replace tc3 := ck hb (a := ⟨w.heap.size, 3, none⟩) (v := .int .i64 e1) (by go_simp); replace tc4 := ck hb (a := ⟨w.heap.size, 4, none⟩) (v := .int .i64 f0) (by go_simp); replace tc5 := ck hb (a := ⟨w.heap.size, 5, none⟩) (v := .int .i64 f1) (by go_simp); replace rc0 := ck hb (a := ⟨w.heap.size + 1, 0, none⟩) (v := .int .i64 r0) (by go_simp); replace rc1 := ck hb (a := ⟨w.heap.size + 1, 1, none⟩) (v := .int .i64 r1) (by go_simp); replace rc2 := ck hb (a := ⟨w.heap.size + 1, 2, none⟩) (v := .int .i64 r2) (by go_simp); replace rc3 := ck hb (a := ⟨w.heap.size + 1, 3, none⟩) (v := .int .i64 r3) (by go_simp); replace tz : w.heap.size < w1.heap.size := World.block_lt_of_cell? w1 _ tc0; replace tn : ¬ w.heap.size = w1.heap.size := Nat.ne_of_lt tz; replace tp : w.heap.size < w1.heap.size + 1 := Nat.lt_succ_of_lt tz; replace tq : w.heap.size < w1.heap.size + 1 + 1 := Nat.lt_succ_of_lt tp; replace rz : w.heap.size + 1 < w1.heap.size := World.block_lt_of_cell? w1 _ rc0; replace rn : ¬ w.heap.size + 1 = w1.heap.size := Nat.ne_of_lt rz; replace rp : w.heap.size + 1 < w1.heap.size + 1 := Nat.lt_succ_of_lt rz; replace rq : w.heap.size + 1 < w1.heap.size + 1 + 1 := Nat.lt_succ_of_lt rp; replace ro : w.heap.size < w1.heap.size := Nat.lt_of_succ_lt rz; replace HB : Below w.heap.size w w1 := bt (by repeat (first | (with_reducible exact HB) | (with_reducible exact Below.refl _ _) | (with_reducible apply bd) | (with_reducible apply ba) | (with_reducible refine bs ?_ (by first | (simp; done) | (simp; omega)) _))) hb; clear hb) | (go_at_call 47; refine (awake47 _).mono ?_; rintro e w2 ⟨rfl, hb⟩; (with_reducible (repeat replace hb := undr hb)); replace HB : Below w.heap.size w w2 := bt (by repeat (first | (with_reducible exact HB) | (with_reducible exact Below.refl _ _) | (with_reducible apply bd) | (with_reducible apply ba) | (with_reducible refine bs ?_ (by first | (simp; done) | (simp; omega)) _))) hb; clear hb))
  go_ret
  exact ⟨rfl, by repeat (first | (with_reducible exact HB) | (with_reducible exact Below.refl _ _) | (with_reducible apply bd) | (with_reducible apply ba) | (with_reducible refine bs ?_ (by first | (simp; done) | (simp; omega)) _))⟩

set_option maxHeartbeats 4000000 in
set_option maxRecDepth 100000 in
theorem reachCuts_thin (d0 d1 e0 e1 f0 f1 r0 r1 r2 r3 i : Int) (w : World) (v : win r0 r1 r2 r3 = true) (hx : (r2 == r0) = true) :
    Calls Try.prog 12 #[.agg #[.int .i64 d0, .int .i64 d1, .int .i64 e0, .int .i64 e1, .int .i64 f0, .int .i64 f1], .agg #[.int .i64 r0, .int .i64 r1, .int .i64 r2, .int .i64 r3], .int .i64 i] w fun e w' => e = .returned (.bool true) ∧ Below w.heap.size w w' := by
  have HB := Below.refl w.heap.size w
  go_enter Try.func12, Try.ntmps12
  go_wp2_with (first | (go_at_call 42; refine (win42 _ _ _ _ _).mono ?_; rw [v]; rintro e w1 ⟨rfl, hb⟩; (with_reducible (repeat replace hb := undr hb)); replace tc0 := ck hb (a := ⟨w.heap.size, 0, none⟩) (v := .int .i64 d0) (by go_simp); replace tc1 := ck hb (a := ⟨w.heap.size, 1, none⟩) (v := .int .i64 d1) (by go_simp); replace tc2 := ck hb (a := ⟨w.heap.size, 2, none⟩) (v := .int .i64 e0) (by go_simp); replace tc3 := ck hb (a := ⟨w.heap.size, 3, none⟩) (v := .int .i64 e1) (by go_simp); replace tc4 := ck hb (a := ⟨w.heap.size, 4, none⟩) (v := .int .i64 f0) (by go_simp); replace tc5 := ck hb (a := ⟨w.heap.size, 5, none⟩) (v := .int .i64 f1) (by go_simp); replace rc0 := ck hb (a := ⟨w.heap.size + 1, 0, none⟩) (v := .int .i64 r0) (by go_simp); replace rc1 := ck hb (a := ⟨w.heap.size + 1, 1, none⟩) (v := .int .i64 r1) (by go_simp); replace rc2 := ck hb (a := ⟨w.heap.size + 1, 2, none⟩) (v := .int .i64 r2) (by go_simp); replace rc3 := ck hb (a := ⟨w.heap.size + 1, 3, none⟩) (v := .int .i64 r3) (by go_simp); replace tz : w.heap.size < w1.heap.size := World.block_lt_of_cell? w1 _ tc0; replace tn : ¬ w.heap.size = w1.heap.size := Nat.ne_of_lt tz; replace tp : w.heap.size < w1.heap.size + 1 := Nat.lt_succ_of_lt tz; replace tq : w.heap.size < w1.heap.size + 1 + 1 := Nat.lt_succ_of_lt tp; replace rz : w.heap.size + 1 < w1.heap.size := World.block_lt_of_cell? w1 _ rc0; replace rn : ¬ w.heap.size + 1 = w1.heap.size := Nat.ne_of_lt rz; replace rp : w.heap.size + 1 < w1.heap.size + 1 := Nat.lt_succ_of_lt rz; replace rq : w.heap.size + 1 < w1.heap.size + 1 + 1 := Nat.lt_succ_of_lt rp; replace ro : w.heap.size < w1.heap.size := Nat.lt_of_succ_lt rz; replace HB : Below w.heap.size w w1 := bt (by repeat (first | (with_reducible exact HB) | (with_reducible exact Below.refl _ _) | (with_reducible apply bd) | (with_reducible apply ba) | (with_reducible refine bs ?_ (by first | (simp; done) | (simp; omega)) _))) hb; clear hb) | (go_at_call 47; refine (awake47 _).mono ?_; rintro e w2 ⟨rfl, hb⟩; (with_reducible (repeat replace hb := undr hb)); replace HB : Below w.heap.size w w2 := bt (by repeat (first | (with_reducible exact HB) | (with_reducible exact Below.refl _ _) | (with_reducible apply bd) | (with_reducible apply ba) | (with_reducible refine bs ?_ (by first | (simp; done) | (simp; omega)) _))) hb; clear hb))
  go_ret
  exact ⟨rfl, by repeat (first | (with_reducible exact HB) | (with_reducible exact Below.refl _ _) | (with_reducible apply bd) | (with_reducible apply ba) | (with_reducible refine bs ?_ (by first | (simp; done) | (simp; omega)) _))⟩

set_option maxHeartbeats 4000000 in
set_option maxRecDepth 100000 in
theorem reachCuts_yes (d0 d1 e0 e1 f0 f1 r0 r1 r2 r3 i s k l m : Int) (w : World) (v : win r0 r1 r2 r3 = true) (hx : (r2 == r0) = false) (eq1 : IntKind.i64.wrap (r2 - r0) = s) (eq2 : IntKind.i64.wrap (r0 + k) = m) (eq3 : IntKind.i64.wrap (m + 1) = l)
    (rd23 : ∀ w : World, Calls Try.prog 23 #[.int .i64 i, .int .i64 s] w fun e w' => e = .returned (.int .i64 k) ∧ w = w')
    (hA : ovl ⟨⟨d0, d1⟩, ⟨e0, e1⟩, ⟨f0, f1⟩⟩ r0 r1 r2 r3 = (ovl ⟨⟨d0, d1⟩, ⟨e0, e1⟩, ⟨f0, f1⟩⟩ r0 r1 l r3 || ovl ⟨⟨d0, d1⟩, ⟨e0, e1⟩, ⟨f0, f1⟩⟩ m r1 r2 r3)) :
    Calls Try.prog 12 #[.agg #[.int .i64 d0, .int .i64 d1, .int .i64 e0, .int .i64 e1, .int .i64 f0, .int .i64 f1], .agg #[.int .i64 r0, .int .i64 r1, .int .i64 r2, .int .i64 r3], .int .i64 i] w fun e w' => e = .returned (.bool true) ∧ Below w.heap.size w w' := by
  have K : (ovl ⟨⟨d0, d1⟩, ⟨e0, e1⟩, ⟨f0, f1⟩⟩ r0 r1 r2 r3 = true ∧ ovl ⟨⟨d0, d1⟩, ⟨e0, e1⟩, ⟨f0, f1⟩⟩ r0 r1 l r3 = true) ∨ (ovl ⟨⟨d0, d1⟩, ⟨e0, e1⟩, ⟨f0, f1⟩⟩ r0 r1 r2 r3 = true ∧ ovl ⟨⟨d0, d1⟩, ⟨e0, e1⟩, ⟨f0, f1⟩⟩ r0 r1 l r3 = false ∧ ovl ⟨⟨d0, d1⟩, ⟨e0, e1⟩, ⟨f0, f1⟩⟩ m r1 r2 r3 = true) ∨ (ovl ⟨⟨d0, d1⟩, ⟨e0, e1⟩, ⟨f0, f1⟩⟩ r0 r1 r2 r3 = false ∧ ovl ⟨⟨d0, d1⟩, ⟨e0, e1⟩, ⟨f0, f1⟩⟩ r0 r1 l r3 = false ∧ ovl ⟨⟨d0, d1⟩, ⟨e0, e1⟩, ⟨f0, f1⟩⟩ m r1 r2 r3 = false) := by
    rw [hA]; cases ovl ⟨⟨d0, d1⟩, ⟨e0, e1⟩, ⟨f0, f1⟩⟩ r0 r1 l r3 <;> cases ovl ⟨⟨d0, d1⟩, ⟨e0, e1⟩, ⟨f0, f1⟩⟩ m r1 r2 r3 <;> simp
  clear hA
  have HB := Below.refl w.heap.size w
  go_enter Try.func12, Try.ntmps12
  go_wp2_with (first | (go_at_call 42; refine (win42 _ _ _ _ _).mono ?_; rw [v]; rintro e wa ⟨rfl, hb⟩; (with_reducible (repeat replace hb := undr hb)); replace tc0 := ck hb (a := ⟨w.heap.size, 0, none⟩) (v := .int .i64 d0) (by go_simp); replace tc1 := ck hb (a := ⟨w.heap.size, 1, none⟩) (v := .int .i64 d1) (by go_simp); replace tc2 := ck hb (a := ⟨w.heap.size, 2, none⟩) (v := .int .i64 e0) (by go_simp); replace tc3 := ck hb (a := ⟨w.heap.size, 3, none⟩) (v := .int .i64 e1) (by go_simp); replace tc4 := ck hb (a := ⟨w.heap.size, 4, none⟩) (v := .int .i64 f0) (by go_simp); replace tc5 := ck hb (a := ⟨w.heap.size, 5, none⟩) (v := .int .i64 f1) (by go_simp); replace rc0 := ck hb (a := ⟨w.heap.size + 1, 0, none⟩) (v := .int .i64 r0) (by go_simp); replace rc1 := ck hb (a := ⟨w.heap.size + 1, 1, none⟩) (v := .int .i64 r1) (by go_simp); replace rc2 := ck hb (a := ⟨w.heap.size + 1, 2, none⟩) (v := .int .i64 r2) (by go_simp); replace rc3 := ck hb (a := ⟨w.heap.size + 1, 3, none⟩) (v := .int .i64 r3) (by go_simp); replace tz : w.heap.size < wa.heap.size := World.block_lt_of_cell? wa _ tc0; replace tn : ¬ w.heap.size = wa.heap.size := Nat.ne_of_lt tz; replace tp : w.heap.size < wa.heap.size + 1 := Nat.lt_succ_of_lt tz; replace tq : w.heap.size < wa.heap.size + 1 + 1 := Nat.lt_succ_of_lt tp; replace rz : w.heap.size + 1 < wa.heap.size := World.block_lt_of_cell? wa _ rc0; replace rn : ¬ w.heap.size + 1 = wa.heap.size := Nat.ne_of_lt rz; replace rp : w.heap.size + 1 < wa.heap.size + 1 := Nat.lt_succ_of_lt rz; replace rq : w.heap.size + 1 < wa.heap.size + 1 + 1 := Nat.lt_succ_of_lt rp; replace ro : w.heap.size < wa.heap.size := Nat.lt_of_succ_lt rz; replace HB : Below w.heap.size w wa := bt (by repeat (first | (with_reducible exact HB) | (with_reducible exact Below.refl _ _) | (with_reducible apply bd) | (with_reducible apply ba) | (with_reducible refine bs ?_ (by first | (simp; done) | (simp; omega)) _))) hb; clear hb))
  refine region12r d0 d1 e0 e1 f0 f1 r0 r1 r2 r3 i s k m w.heap.size (w.heap.size + 1) w eq1 eq2 rd23 (by kernel_rfl) rfl rfl rfl ⟨?_, ?_, ?_, ?_, ?_, ?_, ?_, ?_, ?_, ?_, ?_⟩ (fun wb hS => ?_)
  iterate 10 (focus (go_simp; done))
  · exact (by repeat (first | (with_reducible exact HB) | (with_reducible exact Below.refl _ _) | (with_reducible apply bd) | (with_reducible apply ba) | (with_reducible refine bs ?_ (by first | (simp; done) | (simp; omega)) _)))
  obtain ⟨tc0, tc1, tc2, tc3, tc4, tc5, rc0, rc1, rc2, rc3, HB⟩ := hS
  have ltt := World.block_lt_of_cell? wb _ tc0
  have ltr := World.block_lt_of_cell? wb _ rc0
  simp only [List.setIfInBounds_toArray, List.set_cons_zero, List.set_cons_succ]
  go_wp2_with fail
  refine region12v d0 d1 e0 e1 f0 f1 r0 r1 r2 r3 w.heap.size (w.heap.size + 1) w (by kernel_rfl) rfl rfl ⟨?_, ?_, ?_, ?_, ?_, ?_, ?_, ?_, ?_, ?_, ?_⟩ (fun ku ko w' hS hN => ?_)
  iterate 10 (focus (go_simp; done))
  · exact (by repeat (first | (with_reducible exact HB) | (with_reducible exact Below.refl _ _) | (with_reducible apply bd) | (with_reducible apply ba) | (with_reducible refine bs ?_ (by first | (simp; done) | (simp; omega)) _)))
  obtain ⟨tc0, tc1, tc2, tc3, tc4, tc5, rc0, rc1, rc2, rc3, HB⟩ := hS
  obtain ⟨uc0, uc1, uc2, uc3, oc0, oc1, oc2, oc3, uf0, uf1, uf2, uf3, of0, of1, of2, of3, gu, go, ne⟩ := hN
  have q1 : ¬ w.heap.size = ku := Nat.ne_of_lt (Nat.lt_of_lt_of_le ltt gu)
  have q2 : ¬ w.heap.size = ko := Nat.ne_of_lt (Nat.lt_of_lt_of_le ltt go)
  have q3 : ¬ w.heap.size + 1 = ku := Nat.ne_of_lt (Nat.lt_of_lt_of_le ltr gu)
  have q4 : ¬ w.heap.size + 1 = ko := Nat.ne_of_lt (Nat.lt_of_lt_of_le ltr go)
  have q5 : ¬ ku = w.heap.size := fun h => q1 h.symm
  have q6 : ¬ ko = w.heap.size := fun h => q2 h.symm
  have q7 : ¬ ku = w.heap.size + 1 := fun h => q3 h.symm
  have q8 : ¬ ko = w.heap.size + 1 := fun h => q4 h.symm
  have q9 := ne.symm
  have s1 : w.heap.size ≤ ku := Nat.le_trans (Nat.le_of_lt ltt) gu
  have s2 : w.heap.size ≤ ko := Nat.le_trans (Nat.le_of_lt ltt) go
  simp only [List.setIfInBounds_toArray, List.set_cons_zero, List.set_cons_succ]
  go_wp2_with fail
  rcases K with ⟨m1, m2⟩ | ⟨m1, m2, m3⟩ | ⟨m1, m2, m3⟩
  · refine region12a d0 d1 e0 e1 f0 f1 r0 r1 r2 r3 l m w.heap.size (w.heap.size + 1) ku ko w m1 m2 (by kernel_rfl) rfl rfl rfl rfl ⟨?_, ?_, ?_, ?_, ?_, ?_, ?_, ?_, ?_, ?_, ?_, ?_, ?_, ?_, ?_, ?_, ?_, ?_, ?_⟩ (fun w' hS => ?_); (iterate 18 (focus (go_simp; done))); (focus exact (bd (bs (bs HB s1 _) s2 _))); obtain ⟨_, _, _, _, _, _, _, _, _, _, _, _, _, _, _, _, _, _, HB⟩ := hS; simp only [List.setIfInBounds_toArray, List.set_cons_zero, List.set_cons_succ]; go_wp2; go_ret; exact ⟨rfl, by repeat (first | (with_reducible exact HB) | (with_reducible exact Below.refl _ _) | (with_reducible apply bd) | (with_reducible apply ba) | (with_reducible refine bs ?_ (by first | (simp; done) | (simp; omega)) _))⟩
  · refine region12b d0 d1 e0 e1 f0 f1 r0 r1 r2 r3 l m w.heap.size (w.heap.size + 1) ku ko w m1 m2 m3 (by kernel_rfl) rfl rfl rfl rfl rfl ⟨?_, ?_, ?_, ?_, ?_, ?_, ?_, ?_, ?_, ?_, ?_, ?_, ?_, ?_, ?_, ?_, ?_, ?_, ?_⟩ (fun w' hS => ?_); (iterate 18 (focus (go_simp; done))); (focus exact (bd (bs (bs HB s1 _) s2 _))); obtain ⟨_, _, _, _, _, _, _, _, _, _, _, _, _, _, _, _, _, _, HB⟩ := hS; simp only [List.setIfInBounds_toArray, List.set_cons_zero, List.set_cons_succ]; go_wp2; go_ret; exact ⟨rfl, by repeat (first | (with_reducible exact HB) | (with_reducible exact Below.refl _ _) | (with_reducible apply bd) | (with_reducible apply ba) | (with_reducible refine bs ?_ (by first | (simp; done) | (simp; omega)) _))⟩
  · refine region12c d0 d1 e0 e1 f0 f1 r0 r1 r2 r3 l m w.heap.size (w.heap.size + 1) ku ko w m1 m2 m3 (by kernel_rfl) rfl rfl rfl rfl rfl ⟨?_, ?_, ?_, ?_, ?_, ?_, ?_, ?_, ?_, ?_, ?_, ?_, ?_, ?_, ?_, ?_, ?_, ?_, ?_⟩ (fun w' hS => ?_); (iterate 18 (focus (go_simp; done))); (focus exact (bd (bs (bs HB s1 _) s2 _))); obtain ⟨_, _, _, _, _, _, _, _, _, _, _, _, _, _, _, _, _, _, HB⟩ := hS; simp only [List.setIfInBounds_toArray, List.set_cons_zero, List.set_cons_succ]; go_wp2; go_ret; exact ⟨rfl, by repeat (first | (with_reducible exact HB) | (with_reducible exact Below.refl _ _) | (with_reducible apply bd) | (with_reducible apply ba) | (with_reducible refine bs ?_ (by first | (simp; done) | (simp; omega)) _))⟩

theorem reachCuts_walk (d0 d1 e0 e1 f0 f1 r0 r1 r2 r3 i : Int) (w : World) :
    Calls Try.prog 12 #[.agg #[.int .i64 d0, .int .i64 d1, .int .i64 e0, .int .i64 e1, .int .i64 f0, .int .i64 f1], .agg #[.int .i64 r0, .int .i64 r1, .int .i64 r2, .int .i64 r3], .int .i64 i] w fun e w' => e = .returned (.bool true) ∧ Below w.heap.size w w' := by
  cases v : win r0 r1 r2 r3
  · exact reachCuts_no d0 d1 e0 e1 f0 f1 r0 r1 r2 r3 i w v
  cases hx : (r2 == r0)
  · obtain ⟨w1, w2, w3, w4, w5, w6⟩ := win_iff.1 v
    have hne : r2 ≠ r0 := by intro e; rw [e] at hx; simp at hx
    have hs : IntKind.i64.wrap (r2 - r0) = r2 - r0 := IntWalk.i64_in _ (by omega)
    have k1 := Int.emod_nonneg i (show r2 - r0 ≠ 0 by omega)
    have k2 := Int.emod_lt_of_pos i (show 0 < r2 - r0 by omega)
    have hm : IntKind.i64.wrap (r0 + i % (r2 - r0)) = r0 + i % (r2 - r0) := IntWalk.i64_in _ (by omega)
    have hl : IntKind.i64.wrap (r0 + i % (r2 - r0) + 1) = r0 + i % (r2 - r0) + 1 := IntWalk.i64_in _ (by omega)
    exact reachCuts_yes d0 d1 e0 e1 f0 f1 r0 r1 r2 r3 i _ _ _ _ w v hx hs hm hl (fun w => round23 i (r2 - r0) w (by omega) (by omega)) (cuts_law v (by omega) (by omega))
  · exact reachCuts_thin d0 d1 e0 e1 f0 f1 r0 r1 r2 r3 i w v hx

end Go.Proofs.Ytandgbpbabmdfaa
