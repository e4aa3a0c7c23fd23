import Derived.Test.YtandgbpbabmdfaaR38
namespace Go.Proofs.Ytandgbpbabmdfaa
open Go.RowKit
attribute [local go_sem high] eq23 eq25 mn_two mx_two mn_three mx_three mx_four

theorem new2 (w : World) (u0 u1 : Value) : ∀ (j : Nat) (u : Value), [u0, u1][j]? = some u → (w.alloc (.cells #[u0, u1] 23)).cell? ((⟨w.heap.size, 0, none⟩ : Addr).add j) = some u := by
  intro j u h
  rcases j with _ | _ | j
  · simp at h; subst h; go_simp
  · simp at h; subst h; go_simp
  · simp at h
theorem ga {w : World} {o : Obj} {a : Addr} {v : Value} (h : w.cell? a = some v) : (w.alloc o).cell? a = some v := by
  rw [World.cell?_alloc_lt _ _ _ (World.block_lt_of_cell? w a h)]; exact h
theorem own_slice2 {w : World} {base n : Nat} {v : Value} {xs : List Value} (h : w.ownsRow base 23 2 v n xs) (hn : n ≠ 0) :
    ∃ g cap, v = .slice (some ⟨g, 0, none⟩) n cap ∧ base ≤ g ∧ w.ownsRow base 23 2 (.slice (some ⟨g, 0, none⟩) n cap) n xs := by
  have h' := h
  rcases h.2 with ⟨_, h0⟩ | ⟨g, cap, cur, rfl, hb, _⟩
  · exact absurd h0 hn
  · exact ⟨g, cap, rfl, hb, h'⟩

/-- Three points, put in order one by one. -/
def srt (a b c : Pt) : Pt × Pt × Pt :=
  if 0 < cmpP a b then (if 0 < cmpP a c then (if 0 < cmpP b c then (c, b, a) else (b, c, a)) else (b, a, c))
  else (if 0 < cmpP b c then (if 0 < cmpP a c then (c, a, b) else (a, c, b)) else (a, b, c))

set_option maxHeartbeats 8000000 in
set_option maxRecDepth 100000 in
/-- The reference's SortPoints, of three points that are three. -/
theorem srt38 (g c : Nat) (a0 a1 b0 b1 c0 c1 : Int) (w : World) (gc0 : w.cell? ⟨g, 0, none⟩ = some (.int .i64 a0)) (gc1 : w.cell? ⟨g, 1, none⟩ = some (.int .i64 a1)) (gc2 : w.cell? ⟨g, 2, none⟩ = some (.int .i64 b0)) (gc3 : w.cell? ⟨g, 3, none⟩ = some (.int .i64 b1)) (gc4 : w.cell? ⟨g, 4, none⟩ = some (.int .i64 c0)) (gc5 : w.cell? ⟨g, 5, none⟩ = some (.int .i64 c1))
    (nab : (⟨a0, a1⟩ : Pt) ≠ ⟨b0, b1⟩) (nbc : (⟨b0, b1⟩ : Pt) ≠ ⟨c0, c1⟩) (nac : (⟨a0, a1⟩ : Pt) ≠ ⟨c0, c1⟩) :
    Calls Try.prog 38 #[.slice (some ⟨g, 0, none⟩) 3 c] w fun e w' => ∃ k cap : Nat, e = .returned (.slice (some ⟨k, 0, none⟩) 3 cap) ∧ Below w.heap.size w w' ∧ w'.cell? ⟨k, 0, none⟩ = some (.int .i64 ((srt ⟨a0, a1⟩ ⟨b0, b1⟩ ⟨c0, c1⟩).1).x) ∧ w'.cell? ⟨k, 1, none⟩ = some (.int .i64 ((srt ⟨a0, a1⟩ ⟨b0, b1⟩ ⟨c0, c1⟩).1).y) ∧ w'.cell? ⟨k, 2, none⟩ = some (.int .i64 ((srt ⟨a0, a1⟩ ⟨b0, b1⟩ ⟨c0, c1⟩).2.1).x) ∧ w'.cell? ⟨k, 3, none⟩ = some (.int .i64 ((srt ⟨a0, a1⟩ ⟨b0, b1⟩ ⟨c0, c1⟩).2.1).y) ∧ w'.cell? ⟨k, 4, none⟩ = some (.int .i64 ((srt ⟨a0, a1⟩ ⟨b0, b1⟩ ⟨c0, c1⟩).2.2).x) ∧ w'.cell? ⟨k, 5, none⟩ = some (.int .i64 ((srt ⟨a0, a1⟩ ⟨b0, b1⟩ ⟨c0, c1⟩).2.2).y) := by
  obtain ⟨i0, hi, hz0, hz1, hz2⟩ := info_parts info23
  have eab := pt_beq nab
  have ebc := pt_beq nbc
  have eac := pt_beq nac
  have eba := pt_beq nab.symm
  have hg := World.block_lt_of_cell? w _ gc0
  dsimp only at hg
  have HB := Below.refl w.heap.size w
  go_enter Try.func38, Try.ntmps38
  go_wp2_with fail
  refine wp_loop_rounds 4 ?_
  rw [rounds_succ]
  go_wp2_with fail
  refine wp_loop_rounds 1 ?_
  rw [rounds_succ]
  go_wp2_with fail
  refine region38_00 a0 a1 b0 b1 c0 c1 g w (by kernel_rfl) rfl rfl ⟨gc0, gc1, gc2, gc3, gc4, gc5, bd HB⟩ (fun wq hS => ?_)
  obtain ⟨gc0, gc1, gc2, gc3, gc4, gc5, HB⟩ := hS
  simp only [List.setIfInBounds_toArray, List.set_cons_zero, List.set_cons_succ]
  go_wp2_with fail
  refine region38_8_00 a0 a1 b0 b1 c0 c1 g w (by kernel_rfl) rfl rfl ⟨gc0, gc1, gc2, gc3, gc4, gc5, bd HB⟩ (fun wq hS => ?_)
  obtain ⟨gc0, gc1, gc2, gc3, gc4, gc5, HB⟩ := hS
  simp only [List.setIfInBounds_toArray, List.set_cons_zero, List.set_cons_succ]
  go_wp2_with (at_builtin; refine wpList_append_own _ rfl _ _ 41 rfl w.heap.size 23 i0 (.agg #[.int .i64 0, .int .i64 0]) 2 16 Try.underlying41 hi hz0 hz1 hz2 rfl (by decide) _ 0 [] rfl (World.ownsRow_nil _ _ _ _) ⟨wq.heap.size, 0, none⟩ 1 1 [.int .i64 a0, .int .i64 a1] rfl rfl ?_ ?_ (by decide) (by decide) ?_ ?_)
  case refine_1 => exact new2 _ _ _
  case refine_2 => intro u hu; simp at hu; rcases hu with rfl | rfl <;> rfl
  case refine_3 => exact Nat.le_trans HB.size (by simp)
  intro v0 wr hown2 hgrow _
  obtain ⟨ko0, cap0, rfl, geko0, hown⟩ := own_slice2 hown2 (by decide)
  replace gc0 := hgrow.cell (ga gc0) (by intro h; cases h)
  replace gc1 := hgrow.cell (ga gc1) (by intro h; cases h)
  replace gc2 := hgrow.cell (ga gc2) (by intro h; cases h)
  replace gc3 := hgrow.cell (ga gc3) (by intro h; cases h)
  replace gc4 := hgrow.cell (ga gc4) (by intro h; cases h)
  replace gc5 := hgrow.cell (ga gc5) (by intro h; cases h)
  replace HB := Below.grown (ba HB _) hgrow (Nat.le_trans HB.size (by simp)) (fun k hk => by cases hk)
  have neko0 : ¬ g = ko0 := Nat.ne_of_lt (Nat.lt_of_lt_of_le hg geko0)
  clear hown2 hgrow
  have oc0 : wr.cell? ⟨ko0, 0, none⟩ = some (.int .i64 a0) := hown.cellAt 0 (by decide)
  have of0 := hown.frozenAt 0
  have oc1 : wr.cell? ⟨ko0, 1, none⟩ = some (.int .i64 a1) := hown.cellAt 1 (by decide)
  have of1 := hown.frozenAt 1
  have nzko0 : ¬ ko0 = g := fun h => neko0 h.symm
  go_wp2_with fail
  refine wp_loop_rounds 1 ?_
  rw [rounds_succ]
  go_wp2_with fail
  replace oc0 := sb (o' := 1) (u := .int .i64 a1) (ss (v := .int .i64 a0) (oc0)) (by decide)
  replace oc1 := ss (v := .int .i64 a1) (sb (o' := 0) (u := .int .i64 a0) (oc1) (by decide))
  replace gc0 := so (o' := 1) (u := .int .i64 a1) (so (o' := 0) (u := .int .i64 a0) (gc0) neko0) neko0
  replace gc1 := so (o' := 1) (u := .int .i64 a1) (so (o' := 0) (u := .int .i64 a0) (gc1) neko0) neko0
  replace gc2 := so (o' := 1) (u := .int .i64 a1) (so (o' := 0) (u := .int .i64 a0) (gc2) neko0) neko0
  replace gc3 := so (o' := 1) (u := .int .i64 a1) (so (o' := 0) (u := .int .i64 a0) (gc3) neko0) neko0
  replace gc4 := so (o' := 1) (u := .int .i64 a1) (so (o' := 0) (u := .int .i64 a0) (gc4) neko0) neko0
  replace gc5 := so (o' := 1) (u := .int .i64 a1) (so (o' := 0) (u := .int .i64 a0) (gc5) neko0) neko0
  replace hown : World.ownsRow _ w.heap.size 23 2 (.slice (some ⟨ko0, 0, none⟩) 1 cap0) 1 [.int .i64 a0, .int .i64 a1] := (World.ownsRow.stored ((World.ownsRow.stored (hown) 0 (.int .i64 a0)).1) 1 (.int .i64 a1)).1
  replace HB := bs (p := ⟨ko0, 1, none⟩) (bs (p := ⟨ko0, 0, none⟩) (HB) geko0 (.int .i64 a0)) geko0 (.int .i64 a1)
  clear of0 of1
  rw [rounds_succ]
  go_wp2_with fail
  refine wp_loop_rounds 2 ?_
  rw [rounds_succ]
  go_wp2_with fail
  cases kab : decide (0 < cmpP ⟨a0, a1⟩ ⟨b0, b1⟩)
  · refine region38_11 a0 a1 b0 b1 c0 c1 a0 a1 _ g ko0 cap0 c false w rfl kab (by kernel_rfl) rfl rfl rfl rfl rfl ⟨gc0, gc1, gc2, gc3, gc4, gc5, oc0, oc1, hown.drew, bd HB⟩ (fun wq hS => ?_)
    obtain ⟨gc0, gc1, gc2, gc3, gc4, gc5, oc0, oc1, hown, HB⟩ := hS
    simp only [List.setIfInBounds_toArray, List.set_cons_zero, List.set_cons_succ]
    go_wp2_with fail
    refine region38_8_11 a0 a1 b0 b1 c0 c1 a0 a1 g ko0 cap0 c w eab (by kernel_rfl) rfl rfl rfl rfl rfl ⟨gc0, gc1, gc2, gc3, gc4, gc5, oc0, oc1, hown.drew, bd HB⟩ (fun wq hS => ?_)
    obtain ⟨gc0, gc1, gc2, gc3, gc4, gc5, oc0, oc1, hown, HB⟩ := hS
    simp only [List.setIfInBounds_toArray, List.set_cons_zero, List.set_cons_succ]
    go_wp2_with (at_builtin; refine wpList_append_own _ rfl _ _ 41 rfl w.heap.size 23 i0 (.agg #[.int .i64 0, .int .i64 0]) 2 16 Try.underlying41 hi hz0 hz1 hz2 rfl (by decide) _ 1 [.int .i64 a0, .int .i64 a1] rfl (hown.alloc _) ⟨wq.heap.size, 0, none⟩ 1 1 [.int .i64 b0, .int .i64 b1] rfl rfl ?_ ?_ (by decide) (by decide) ?_ ?_)
    case refine_1 => exact new2 _ _ _
    case refine_2 => intro u hu; simp at hu; rcases hu with rfl | rfl <;> rfl
    case refine_3 => exact Nat.le_trans HB.size (by simp)
    intro v1 wr hown2 hgrow _
    obtain ⟨ko1, cap1, rfl, geko1, hown⟩ := own_slice2 hown2 (by decide)
    replace gc0 := hgrow.cell (ga gc0) (fun h => neko0 (Option.some.inj h))
    replace gc1 := hgrow.cell (ga gc1) (fun h => neko0 (Option.some.inj h))
    replace gc2 := hgrow.cell (ga gc2) (fun h => neko0 (Option.some.inj h))
    replace gc3 := hgrow.cell (ga gc3) (fun h => neko0 (Option.some.inj h))
    replace gc4 := hgrow.cell (ga gc4) (fun h => neko0 (Option.some.inj h))
    replace gc5 := hgrow.cell (ga gc5) (fun h => neko0 (Option.some.inj h))
    replace HB := Below.grown (ba HB _) hgrow (Nat.le_trans HB.size (by simp)) (fun k hk => by obtain rfl := Option.some.inj hk; exact geko0)
    have neko1 : ¬ g = ko1 := Nat.ne_of_lt (Nat.lt_of_lt_of_le hg geko1)
    clear hown2 hgrow
    have oc0 : wr.cell? ⟨ko1, 0, none⟩ = some (.int .i64 a0) := hown.cellAt 0 (by decide)
    have of0 := hown.frozenAt 0
    have oc1 : wr.cell? ⟨ko1, 1, none⟩ = some (.int .i64 a1) := hown.cellAt 1 (by decide)
    have of1 := hown.frozenAt 1
    have oc2 : wr.cell? ⟨ko1, 2, none⟩ = some (.int .i64 b0) := hown.cellAt 2 (by decide)
    have of2 := hown.frozenAt 2
    have oc3 : wr.cell? ⟨ko1, 3, none⟩ = some (.int .i64 b1) := hown.cellAt 3 (by decide)
    have of3 := hown.frozenAt 3
    have nzko1 : ¬ ko1 = g := fun h => neko1 h.symm
    go_wp2_with fail
    refine wp_loop_rounds 1 ?_
    rw [rounds_succ]
    go_wp2_with fail
    replace oc0 := sb (o' := 3) (u := .int .i64 b1) (sb (o' := 2) (u := .int .i64 b0) (oc0) (by decide)) (by decide)
    replace oc1 := sb (o' := 3) (u := .int .i64 b1) (sb (o' := 2) (u := .int .i64 b0) (oc1) (by decide)) (by decide)
    replace oc2 := sb (o' := 3) (u := .int .i64 b1) (ss (v := .int .i64 b0) (oc2)) (by decide)
    replace oc3 := ss (v := .int .i64 b1) (sb (o' := 2) (u := .int .i64 b0) (oc3) (by decide))
    replace gc0 := so (o' := 3) (u := .int .i64 b1) (so (o' := 2) (u := .int .i64 b0) (gc0) neko1) neko1
    replace gc1 := so (o' := 3) (u := .int .i64 b1) (so (o' := 2) (u := .int .i64 b0) (gc1) neko1) neko1
    replace gc2 := so (o' := 3) (u := .int .i64 b1) (so (o' := 2) (u := .int .i64 b0) (gc2) neko1) neko1
    replace gc3 := so (o' := 3) (u := .int .i64 b1) (so (o' := 2) (u := .int .i64 b0) (gc3) neko1) neko1
    replace gc4 := so (o' := 3) (u := .int .i64 b1) (so (o' := 2) (u := .int .i64 b0) (gc4) neko1) neko1
    replace gc5 := so (o' := 3) (u := .int .i64 b1) (so (o' := 2) (u := .int .i64 b0) (gc5) neko1) neko1
    replace hown : World.ownsRow _ w.heap.size 23 2 (.slice (some ⟨ko1, 0, none⟩) 2 cap1) 2 [.int .i64 a0, .int .i64 a1, .int .i64 b0, .int .i64 b1] := (World.ownsRow.stored ((World.ownsRow.stored (hown) 2 (.int .i64 b0)).1) 3 (.int .i64 b1)).1
    replace HB := bs (p := ⟨ko1, 3, none⟩) (bs (p := ⟨ko1, 2, none⟩) (HB) geko1 (.int .i64 b0)) geko1 (.int .i64 b1)
    clear of0 of1 of2 of3
    rw [rounds_succ]
    go_wp2_with fail
    refine wp_loop_rounds 3 ?_
    rw [rounds_succ]
    go_wp2_with fail
    cases kbc : decide (0 < cmpP ⟨b0, b1⟩ ⟨c0, c1⟩)
    · refine region38_22 a0 a1 b0 b1 c0 c1 a0 a1 b0 b1 _ g ko1 cap1 c false w rfl kbc (by kernel_rfl) rfl rfl rfl rfl rfl ⟨gc0, gc1, gc2, gc3, gc4, gc5, oc0, oc1, oc2, oc3, hown.drew, bd HB⟩ (fun wq hS => ?_)
      obtain ⟨gc0, gc1, gc2, gc3, gc4, gc5, oc0, oc1, oc2, oc3, hown, HB⟩ := hS
      simp only [List.setIfInBounds_toArray, List.set_cons_zero, List.set_cons_succ]
      go_wp2_with fail
      refine region38_8_22 a0 a1 b0 b1 c0 c1 a0 a1 b0 b1 g ko1 cap1 c w ebc (by kernel_rfl) rfl rfl rfl rfl rfl ⟨gc0, gc1, gc2, gc3, gc4, gc5, oc0, oc1, oc2, oc3, hown.drew, bd HB⟩ (fun wq hS => ?_)
      obtain ⟨gc0, gc1, gc2, gc3, gc4, gc5, oc0, oc1, oc2, oc3, hown, HB⟩ := hS
      simp only [List.setIfInBounds_toArray, List.set_cons_zero, List.set_cons_succ]
      go_wp2_with (at_builtin; refine wpList_append_own _ rfl _ _ 41 rfl w.heap.size 23 i0 (.agg #[.int .i64 0, .int .i64 0]) 2 16 Try.underlying41 hi hz0 hz1 hz2 rfl (by decide) _ 2 [.int .i64 a0, .int .i64 a1, .int .i64 b0, .int .i64 b1] rfl (hown.alloc _) ⟨wq.heap.size, 0, none⟩ 1 1 [.int .i64 c0, .int .i64 c1] rfl rfl ?_ ?_ (by decide) (by decide) ?_ ?_)
      case refine_1 => exact new2 _ _ _
      case refine_2 => intro u hu; simp at hu; rcases hu with rfl | rfl <;> rfl
      case refine_3 => exact Nat.le_trans HB.size (by simp)
      intro v2 wr hown2 hgrow _
      obtain ⟨ko2, cap2, rfl, geko2, hown⟩ := own_slice2 hown2 (by decide)
      replace gc0 := hgrow.cell (ga gc0) (fun h => neko1 (Option.some.inj h))
      replace gc1 := hgrow.cell (ga gc1) (fun h => neko1 (Option.some.inj h))
      replace gc2 := hgrow.cell (ga gc2) (fun h => neko1 (Option.some.inj h))
      replace gc3 := hgrow.cell (ga gc3) (fun h => neko1 (Option.some.inj h))
      replace gc4 := hgrow.cell (ga gc4) (fun h => neko1 (Option.some.inj h))
      replace gc5 := hgrow.cell (ga gc5) (fun h => neko1 (Option.some.inj h))
      replace HB := Below.grown (ba HB _) hgrow (Nat.le_trans HB.size (by simp)) (fun k hk => by obtain rfl := Option.some.inj hk; exact geko1)
      have neko2 : ¬ g = ko2 := Nat.ne_of_lt (Nat.lt_of_lt_of_le hg geko2)
      clear hown2 hgrow
      have oc0 : wr.cell? ⟨ko2, 0, none⟩ = some (.int .i64 a0) := hown.cellAt 0 (by decide)
      have of0 := hown.frozenAt 0
      have oc1 : wr.cell? ⟨ko2, 1, none⟩ = some (.int .i64 a1) := hown.cellAt 1 (by decide)
      have of1 := hown.frozenAt 1
      have oc2 : wr.cell? ⟨ko2, 2, none⟩ = some (.int .i64 b0) := hown.cellAt 2 (by decide)
      have of2 := hown.frozenAt 2
      have oc3 : wr.cell? ⟨ko2, 3, none⟩ = some (.int .i64 b1) := hown.cellAt 3 (by decide)
      have of3 := hown.frozenAt 3
      have oc4 : wr.cell? ⟨ko2, 4, none⟩ = some (.int .i64 c0) := hown.cellAt 4 (by decide)
      have of4 := hown.frozenAt 4
      have oc5 : wr.cell? ⟨ko2, 5, none⟩ = some (.int .i64 c1) := hown.cellAt 5 (by decide)
      have of5 := hown.frozenAt 5
      have nzko2 : ¬ ko2 = g := fun h => neko2 h.symm
      go_wp2_with fail
      refine wp_loop_rounds 1 ?_
      rw [rounds_succ]
      go_wp2_with fail
      replace oc0 := sb (o' := 5) (u := .int .i64 c1) (sb (o' := 4) (u := .int .i64 c0) (oc0) (by decide)) (by decide)
      replace oc1 := sb (o' := 5) (u := .int .i64 c1) (sb (o' := 4) (u := .int .i64 c0) (oc1) (by decide)) (by decide)
      replace oc2 := sb (o' := 5) (u := .int .i64 c1) (sb (o' := 4) (u := .int .i64 c0) (oc2) (by decide)) (by decide)
      replace oc3 := sb (o' := 5) (u := .int .i64 c1) (sb (o' := 4) (u := .int .i64 c0) (oc3) (by decide)) (by decide)
      replace oc4 := sb (o' := 5) (u := .int .i64 c1) (ss (v := .int .i64 c0) (oc4)) (by decide)
      replace oc5 := ss (v := .int .i64 c1) (sb (o' := 4) (u := .int .i64 c0) (oc5) (by decide))
      replace gc0 := so (o' := 5) (u := .int .i64 c1) (so (o' := 4) (u := .int .i64 c0) (gc0) neko2) neko2
      replace gc1 := so (o' := 5) (u := .int .i64 c1) (so (o' := 4) (u := .int .i64 c0) (gc1) neko2) neko2
      replace gc2 := so (o' := 5) (u := .int .i64 c1) (so (o' := 4) (u := .int .i64 c0) (gc2) neko2) neko2
      replace gc3 := so (o' := 5) (u := .int .i64 c1) (so (o' := 4) (u := .int .i64 c0) (gc3) neko2) neko2
      replace gc4 := so (o' := 5) (u := .int .i64 c1) (so (o' := 4) (u := .int .i64 c0) (gc4) neko2) neko2
      replace gc5 := so (o' := 5) (u := .int .i64 c1) (so (o' := 4) (u := .int .i64 c0) (gc5) neko2) neko2
      replace hown : World.ownsRow _ w.heap.size 23 2 (.slice (some ⟨ko2, 0, none⟩) 3 cap2) 3 [.int .i64 a0, .int .i64 a1, .int .i64 b0, .int .i64 b1, .int .i64 c0, .int .i64 c1] := (World.ownsRow.stored ((World.ownsRow.stored (hown) 4 (.int .i64 c0)).1) 5 (.int .i64 c1)).1
      replace HB := bs (p := ⟨ko2, 5, none⟩) (bs (p := ⟨ko2, 4, none⟩) (HB) geko2 (.int .i64 c0)) geko2 (.int .i64 c1)
      clear of0 of1 of2 of3 of4 of5
      rw [rounds_succ]
      go_wp2
      go_ret
      have hs : srt ⟨a0, a1⟩ ⟨b0, b1⟩ ⟨c0, c1⟩ = (⟨a0, a1⟩, ⟨b0, b1⟩, ⟨c0, c1⟩) := by unfold srt; simp [of_decide_eq_false kab, of_decide_eq_false kbc]
      rw [hs]
      exact ⟨ko2, cap2, rfl, HB, oc0, oc1, oc2, oc3, oc4, oc5⟩
    · refine region38_22 a0 a1 b0 b1 c0 c1 a0 a1 b0 b1 _ g ko1 cap1 c true w rfl kbc (by kernel_rfl) rfl rfl rfl rfl rfl ⟨gc0, gc1, gc2, gc3, gc4, gc5, oc0, oc1, oc2, oc3, hown.drew, bd HB⟩ (fun wq hS => ?_)
      obtain ⟨gc0, gc1, gc2, gc3, gc4, gc5, oc0, oc1, oc2, oc3, hown, HB⟩ := hS
      simp only [List.setIfInBounds_toArray, List.set_cons_zero, List.set_cons_succ]
      go_wp2_with fail
      rw [rounds_succ]
      go_wp2_with fail
      cases kac : decide (0 < cmpP ⟨a0, a1⟩ ⟨c0, c1⟩)
      · refine region38_21 a0 a1 b0 b1 c0 c1 a0 a1 b0 b1 _ g ko1 cap1 c false w rfl kac (by kernel_rfl) rfl rfl rfl rfl rfl ⟨gc0, gc1, gc2, gc3, gc4, gc5, oc0, oc1, oc2, oc3, hown.drew, bd HB⟩ (fun wq hS => ?_)
        obtain ⟨gc0, gc1, gc2, gc3, gc4, gc5, oc0, oc1, oc2, oc3, hown, HB⟩ := hS
        simp only [List.setIfInBounds_toArray, List.set_cons_zero, List.set_cons_succ]
        go_wp2_with fail
        refine region38_8_21 a0 a1 b0 b1 c0 c1 a0 a1 b0 b1 g ko1 cap1 c w eac (by kernel_rfl) rfl rfl rfl rfl rfl ⟨gc0, gc1, gc2, gc3, gc4, gc5, oc0, oc1, oc2, oc3, hown.drew, bd HB⟩ (fun wq hS => ?_)
        obtain ⟨gc0, gc1, gc2, gc3, gc4, gc5, oc0, oc1, oc2, oc3, hown, HB⟩ := hS
        simp only [List.setIfInBounds_toArray, List.set_cons_zero, List.set_cons_succ]
        go_wp2_with (at_builtin; refine wpList_append_own _ rfl _ _ 41 rfl w.heap.size 23 i0 (.agg #[.int .i64 0, .int .i64 0]) 2 16 Try.underlying41 hi hz0 hz1 hz2 rfl (by decide) _ 2 [.int .i64 a0, .int .i64 a1, .int .i64 b0, .int .i64 b1] rfl (hown.alloc _) ⟨wq.heap.size, 0, none⟩ 1 1 [.int .i64 c0, .int .i64 c1] rfl rfl ?_ ?_ (by decide) (by decide) ?_ ?_)
        case refine_1 => exact new2 _ _ _
        case refine_2 => intro u hu; simp at hu; rcases hu with rfl | rfl <;> rfl
        case refine_3 => exact Nat.le_trans HB.size (by simp)
        intro v2 wr hown2 hgrow _
        obtain ⟨ko2, cap2, rfl, geko2, hown⟩ := own_slice2 hown2 (by decide)
        replace gc0 := hgrow.cell (ga gc0) (fun h => neko1 (Option.some.inj h))
        replace gc1 := hgrow.cell (ga gc1) (fun h => neko1 (Option.some.inj h))
        replace gc2 := hgrow.cell (ga gc2) (fun h => neko1 (Option.some.inj h))
        replace gc3 := hgrow.cell (ga gc3) (fun h => neko1 (Option.some.inj h))
        replace gc4 := hgrow.cell (ga gc4) (fun h => neko1 (Option.some.inj h))
        replace gc5 := hgrow.cell (ga gc5) (fun h => neko1 (Option.some.inj h))
        replace HB := Below.grown (ba HB _) hgrow (Nat.le_trans HB.size (by simp)) (fun k hk => by obtain rfl := Option.some.inj hk; exact geko1)
        have neko2 : ¬ g = ko2 := Nat.ne_of_lt (Nat.lt_of_lt_of_le hg geko2)
        clear hown2 hgrow
        have oc0 : wr.cell? ⟨ko2, 0, none⟩ = some (.int .i64 a0) := hown.cellAt 0 (by decide)
        have of0 := hown.frozenAt 0
        have oc1 : wr.cell? ⟨ko2, 1, none⟩ = some (.int .i64 a1) := hown.cellAt 1 (by decide)
        have of1 := hown.frozenAt 1
        have oc2 : wr.cell? ⟨ko2, 2, none⟩ = some (.int .i64 b0) := hown.cellAt 2 (by decide)
        have of2 := hown.frozenAt 2
        have oc3 : wr.cell? ⟨ko2, 3, none⟩ = some (.int .i64 b1) := hown.cellAt 3 (by decide)
        have of3 := hown.frozenAt 3
        have oc4 : wr.cell? ⟨ko2, 4, none⟩ = some (.int .i64 c0) := hown.cellAt 4 (by decide)
        have of4 := hown.frozenAt 4
        have oc5 : wr.cell? ⟨ko2, 5, none⟩ = some (.int .i64 c1) := hown.cellAt 5 (by decide)
        have of5 := hown.frozenAt 5
        have nzko2 : ¬ ko2 = g := fun h => neko2 h.symm
        go_wp2_with fail
        refine wp_loop_rounds 2 ?_
        rw [rounds_succ]
        go_wp2_with fail
        rw [rounds_succ]
        go_wp2_with fail
        replace oc0 := sb (o' := 3) (u := .int .i64 c1) (sb (o' := 2) (u := .int .i64 c0) (sb (o' := 5) (u := .int .i64 b1) (sb (o' := 4) (u := .int .i64 b0) (oc0) (by decide)) (by decide)) (by decide)) (by decide)
        replace oc1 := sb (o' := 3) (u := .int .i64 c1) (sb (o' := 2) (u := .int .i64 c0) (sb (o' := 5) (u := .int .i64 b1) (sb (o' := 4) (u := .int .i64 b0) (oc1) (by decide)) (by decide)) (by decide)) (by decide)
        replace oc2 := sb (o' := 3) (u := .int .i64 c1) (ss (v := .int .i64 c0) (sb (o' := 5) (u := .int .i64 b1) (sb (o' := 4) (u := .int .i64 b0) (oc2) (by decide)) (by decide))) (by decide)
        replace oc3 := ss (v := .int .i64 c1) (sb (o' := 2) (u := .int .i64 c0) (sb (o' := 5) (u := .int .i64 b1) (sb (o' := 4) (u := .int .i64 b0) (oc3) (by decide)) (by decide)) (by decide))
        replace oc4 := sb (o' := 3) (u := .int .i64 c1) (sb (o' := 2) (u := .int .i64 c0) (sb (o' := 5) (u := .int .i64 b1) (ss (v := .int .i64 b0) (oc4)) (by decide)) (by decide)) (by decide)
        replace oc5 := sb (o' := 3) (u := .int .i64 c1) (sb (o' := 2) (u := .int .i64 c0) (ss (v := .int .i64 b1) (sb (o' := 4) (u := .int .i64 b0) (oc5) (by decide))) (by decide)) (by decide)
        replace gc0 := so (o' := 3) (u := .int .i64 c1) (so (o' := 2) (u := .int .i64 c0) (so (o' := 5) (u := .int .i64 b1) (so (o' := 4) (u := .int .i64 b0) (gc0) neko2) neko2) neko2) neko2
        replace gc1 := so (o' := 3) (u := .int .i64 c1) (so (o' := 2) (u := .int .i64 c0) (so (o' := 5) (u := .int .i64 b1) (so (o' := 4) (u := .int .i64 b0) (gc1) neko2) neko2) neko2) neko2
        replace gc2 := so (o' := 3) (u := .int .i64 c1) (so (o' := 2) (u := .int .i64 c0) (so (o' := 5) (u := .int .i64 b1) (so (o' := 4) (u := .int .i64 b0) (gc2) neko2) neko2) neko2) neko2
        replace gc3 := so (o' := 3) (u := .int .i64 c1) (so (o' := 2) (u := .int .i64 c0) (so (o' := 5) (u := .int .i64 b1) (so (o' := 4) (u := .int .i64 b0) (gc3) neko2) neko2) neko2) neko2
        replace gc4 := so (o' := 3) (u := .int .i64 c1) (so (o' := 2) (u := .int .i64 c0) (so (o' := 5) (u := .int .i64 b1) (so (o' := 4) (u := .int .i64 b0) (gc4) neko2) neko2) neko2) neko2
        replace gc5 := so (o' := 3) (u := .int .i64 c1) (so (o' := 2) (u := .int .i64 c0) (so (o' := 5) (u := .int .i64 b1) (so (o' := 4) (u := .int .i64 b0) (gc5) neko2) neko2) neko2) neko2
        replace hown : World.ownsRow _ w.heap.size 23 2 (.slice (some ⟨ko2, 0, none⟩) 3 cap2) 3 [.int .i64 a0, .int .i64 a1, .int .i64 c0, .int .i64 c1, .int .i64 b0, .int .i64 b1] := (World.ownsRow.stored ((World.ownsRow.stored ((World.ownsRow.stored ((World.ownsRow.stored (hown) 4 (.int .i64 b0)).1) 5 (.int .i64 b1)).1) 2 (.int .i64 c0)).1) 3 (.int .i64 c1)).1
        replace HB := bs (p := ⟨ko2, 3, none⟩) (bs (p := ⟨ko2, 2, none⟩) (bs (p := ⟨ko2, 5, none⟩) (bs (p := ⟨ko2, 4, none⟩) (HB) geko2 (.int .i64 b0)) geko2 (.int .i64 b1)) geko2 (.int .i64 c0)) geko2 (.int .i64 c1)
        clear of0 of1 of2 of3 of4 of5
        rw [rounds_succ]
        go_wp2
        go_ret
        have hs : srt ⟨a0, a1⟩ ⟨b0, b1⟩ ⟨c0, c1⟩ = (⟨a0, a1⟩, ⟨c0, c1⟩, ⟨b0, b1⟩) := by unfold srt; simp [of_decide_eq_false kab, of_decide_eq_true kbc, of_decide_eq_false kac]
        rw [hs]
        exact ⟨ko2, cap2, rfl, HB, oc0, oc1, oc2, oc3, oc4, oc5⟩
      · refine region38_21 a0 a1 b0 b1 c0 c1 a0 a1 b0 b1 _ g ko1 cap1 c true w rfl kac (by kernel_rfl) rfl rfl rfl rfl rfl ⟨gc0, gc1, gc2, gc3, gc4, gc5, oc0, oc1, oc2, oc3, hown.drew, bd HB⟩ (fun wq hS => ?_)
        obtain ⟨gc0, gc1, gc2, gc3, gc4, gc5, oc0, oc1, oc2, oc3, hown, HB⟩ := hS
        simp only [List.setIfInBounds_toArray, List.set_cons_zero, List.set_cons_succ]
        go_wp2_with fail
        rw [rounds_succ]
        go_wp2_with fail
        refine region38_20 a0 a1 b0 b1 c0 c1 a0 a1 b0 b1 g ko1 cap1 w (by kernel_rfl) rfl rfl ⟨gc0, gc1, gc2, gc3, gc4, gc5, oc0, oc1, oc2, oc3, hown.drew, bd HB⟩ (fun wq hS => ?_)
        obtain ⟨gc0, gc1, gc2, gc3, gc4, gc5, oc0, oc1, oc2, oc3, hown, HB⟩ := hS
        simp only [List.setIfInBounds_toArray, List.set_cons_zero, List.set_cons_succ]
        go_wp2_with fail
        refine region38_8_20 a0 a1 b0 b1 c0 c1 a0 a1 b0 b1 g ko1 cap1 w (by kernel_rfl) rfl rfl ⟨gc0, gc1, gc2, gc3, gc4, gc5, oc0, oc1, oc2, oc3, hown.drew, bd HB⟩ (fun wq hS => ?_)
        obtain ⟨gc0, gc1, gc2, gc3, gc4, gc5, oc0, oc1, oc2, oc3, hown, HB⟩ := hS
        simp only [List.setIfInBounds_toArray, List.set_cons_zero, List.set_cons_succ]
        go_wp2_with (at_builtin; refine wpList_append_own _ rfl _ _ 41 rfl w.heap.size 23 i0 (.agg #[.int .i64 0, .int .i64 0]) 2 16 Try.underlying41 hi hz0 hz1 hz2 rfl (by decide) _ 2 [.int .i64 a0, .int .i64 a1, .int .i64 b0, .int .i64 b1] rfl (hown.alloc _) ⟨wq.heap.size, 0, none⟩ 1 1 [.int .i64 c0, .int .i64 c1] rfl rfl ?_ ?_ (by decide) (by decide) ?_ ?_)
        case refine_1 => exact new2 _ _ _
        case refine_2 => intro u hu; simp at hu; rcases hu with rfl | rfl <;> rfl
        case refine_3 => exact Nat.le_trans HB.size (by simp)
        intro v2 wr hown2 hgrow _
        obtain ⟨ko2, cap2, rfl, geko2, hown⟩ := own_slice2 hown2 (by decide)
        replace gc0 := hgrow.cell (ga gc0) (fun h => neko1 (Option.some.inj h))
        replace gc1 := hgrow.cell (ga gc1) (fun h => neko1 (Option.some.inj h))
        replace gc2 := hgrow.cell (ga gc2) (fun h => neko1 (Option.some.inj h))
        replace gc3 := hgrow.cell (ga gc3) (fun h => neko1 (Option.some.inj h))
        replace gc4 := hgrow.cell (ga gc4) (fun h => neko1 (Option.some.inj h))
        replace gc5 := hgrow.cell (ga gc5) (fun h => neko1 (Option.some.inj h))
        replace HB := Below.grown (ba HB _) hgrow (Nat.le_trans HB.size (by simp)) (fun k hk => by obtain rfl := Option.some.inj hk; exact geko1)
        have neko2 : ¬ g = ko2 := Nat.ne_of_lt (Nat.lt_of_lt_of_le hg geko2)
        clear hown2 hgrow
        have oc0 : wr.cell? ⟨ko2, 0, none⟩ = some (.int .i64 a0) := hown.cellAt 0 (by decide)
        have of0 := hown.frozenAt 0
        have oc1 : wr.cell? ⟨ko2, 1, none⟩ = some (.int .i64 a1) := hown.cellAt 1 (by decide)
        have of1 := hown.frozenAt 1
        have oc2 : wr.cell? ⟨ko2, 2, none⟩ = some (.int .i64 b0) := hown.cellAt 2 (by decide)
        have of2 := hown.frozenAt 2
        have oc3 : wr.cell? ⟨ko2, 3, none⟩ = some (.int .i64 b1) := hown.cellAt 3 (by decide)
        have of3 := hown.frozenAt 3
        have oc4 : wr.cell? ⟨ko2, 4, none⟩ = some (.int .i64 c0) := hown.cellAt 4 (by decide)
        have of4 := hown.frozenAt 4
        have oc5 : wr.cell? ⟨ko2, 5, none⟩ = some (.int .i64 c1) := hown.cellAt 5 (by decide)
        have of5 := hown.frozenAt 5
        have nzko2 : ¬ ko2 = g := fun h => neko2 h.symm
        go_wp2_with fail
        refine wp_loop_rounds 3 ?_
        rw [rounds_succ]
        go_wp2_with fail
        rw [rounds_succ]
        go_wp2_with fail
        rw [rounds_succ]
        go_wp2_with fail
        replace oc0 := sb (o' := 1) (u := .int .i64 c1) (ss (v := .int .i64 c0) (sb (o' := 3) (u := .int .i64 a1) (sb (o' := 2) (u := .int .i64 a0) (sb (o' := 5) (u := .int .i64 b1) (sb (o' := 4) (u := .int .i64 b0) (oc0) (by decide)) (by decide)) (by decide)) (by decide))) (by decide)
        replace oc1 := ss (v := .int .i64 c1) (sb (o' := 0) (u := .int .i64 c0) (sb (o' := 3) (u := .int .i64 a1) (sb (o' := 2) (u := .int .i64 a0) (sb (o' := 5) (u := .int .i64 b1) (sb (o' := 4) (u := .int .i64 b0) (oc1) (by decide)) (by decide)) (by decide)) (by decide)) (by decide))
        replace oc2 := sb (o' := 1) (u := .int .i64 c1) (sb (o' := 0) (u := .int .i64 c0) (sb (o' := 3) (u := .int .i64 a1) (ss (v := .int .i64 a0) (sb (o' := 5) (u := .int .i64 b1) (sb (o' := 4) (u := .int .i64 b0) (oc2) (by decide)) (by decide))) (by decide)) (by decide)) (by decide)
        replace oc3 := sb (o' := 1) (u := .int .i64 c1) (sb (o' := 0) (u := .int .i64 c0) (ss (v := .int .i64 a1) (sb (o' := 2) (u := .int .i64 a0) (sb (o' := 5) (u := .int .i64 b1) (sb (o' := 4) (u := .int .i64 b0) (oc3) (by decide)) (by decide)) (by decide))) (by decide)) (by decide)
        replace oc4 := sb (o' := 1) (u := .int .i64 c1) (sb (o' := 0) (u := .int .i64 c0) (sb (o' := 3) (u := .int .i64 a1) (sb (o' := 2) (u := .int .i64 a0) (sb (o' := 5) (u := .int .i64 b1) (ss (v := .int .i64 b0) (oc4)) (by decide)) (by decide)) (by decide)) (by decide)) (by decide)
        replace oc5 := sb (o' := 1) (u := .int .i64 c1) (sb (o' := 0) (u := .int .i64 c0) (sb (o' := 3) (u := .int .i64 a1) (sb (o' := 2) (u := .int .i64 a0) (ss (v := .int .i64 b1) (sb (o' := 4) (u := .int .i64 b0) (oc5) (by decide))) (by decide)) (by decide)) (by decide)) (by decide)
        replace gc0 := so (o' := 1) (u := .int .i64 c1) (so (o' := 0) (u := .int .i64 c0) (so (o' := 3) (u := .int .i64 a1) (so (o' := 2) (u := .int .i64 a0) (so (o' := 5) (u := .int .i64 b1) (so (o' := 4) (u := .int .i64 b0) (gc0) neko2) neko2) neko2) neko2) neko2) neko2
        replace gc1 := so (o' := 1) (u := .int .i64 c1) (so (o' := 0) (u := .int .i64 c0) (so (o' := 3) (u := .int .i64 a1) (so (o' := 2) (u := .int .i64 a0) (so (o' := 5) (u := .int .i64 b1) (so (o' := 4) (u := .int .i64 b0) (gc1) neko2) neko2) neko2) neko2) neko2) neko2
        replace gc2 := so (o' := 1) (u := .int .i64 c1) (so (o' := 0) (u := .int .i64 c0) (so (o' := 3) (u := .int .i64 a1) (so (o' := 2) (u := .int .i64 a0) (so (o' := 5) (u := .int .i64 b1) (so (o' := 4) (u := .int .i64 b0) (gc2) neko2) neko2) neko2) neko2) neko2) neko2
        replace gc3 := so (o' := 1) (u := .int .i64 c1) (so (o' := 0) (u := .int .i64 c0) (so (o' := 3) (u := .int .i64 a1) (so (o' := 2) (u := .int .i64 a0) (so (o' := 5) (u := .int .i64 b1) (so (o' := 4) (u := .int .i64 b0) (gc3) neko2) neko2) neko2) neko2) neko2) neko2
        replace gc4 := so (o' := 1) (u := .int .i64 c1) (so (o' := 0) (u := .int .i64 c0) (so (o' := 3) (u := .int .i64 a1) (so (o' := 2) (u := .int .i64 a0) (so (o' := 5) (u := .int .i64 b1) (so (o' := 4) (u := .int .i64 b0) (gc4) neko2) neko2) neko2) neko2) neko2) neko2
        replace gc5 := so (o' := 1) (u := .int .i64 c1) (so (o' := 0) (u := .int .i64 c0) (so (o' := 3) (u := .int .i64 a1) (so (o' := 2) (u := .int .i64 a0) (so (o' := 5) (u := .int .i64 b1) (so (o' := 4) (u := .int .i64 b0) (gc5) neko2) neko2) neko2) neko2) neko2) neko2
        replace hown : World.ownsRow _ w.heap.size 23 2 (.slice (some ⟨ko2, 0, none⟩) 3 cap2) 3 [.int .i64 c0, .int .i64 c1, .int .i64 a0, .int .i64 a1, .int .i64 b0, .int .i64 b1] := (World.ownsRow.stored ((World.ownsRow.stored ((World.ownsRow.stored ((World.ownsRow.stored ((World.ownsRow.stored ((World.ownsRow.stored (hown) 4 (.int .i64 b0)).1) 5 (.int .i64 b1)).1) 2 (.int .i64 a0)).1) 3 (.int .i64 a1)).1) 0 (.int .i64 c0)).1) 1 (.int .i64 c1)).1
        replace HB := bs (p := ⟨ko2, 1, none⟩) (bs (p := ⟨ko2, 0, none⟩) (bs (p := ⟨ko2, 3, none⟩) (bs (p := ⟨ko2, 2, none⟩) (bs (p := ⟨ko2, 5, none⟩) (bs (p := ⟨ko2, 4, none⟩) (HB) geko2 (.int .i64 b0)) geko2 (.int .i64 b1)) geko2 (.int .i64 a0)) geko2 (.int .i64 a1)) geko2 (.int .i64 c0)) geko2 (.int .i64 c1)
        clear of0 of1 of2 of3 of4 of5
        rw [rounds_succ]
        go_wp2
        go_ret
        have hs : srt ⟨a0, a1⟩ ⟨b0, b1⟩ ⟨c0, c1⟩ = (⟨c0, c1⟩, ⟨a0, a1⟩, ⟨b0, b1⟩) := by unfold srt; simp [of_decide_eq_false kab, of_decide_eq_true kbc, of_decide_eq_true kac]
        rw [hs]
        exact ⟨ko2, cap2, rfl, HB, oc0, oc1, oc2, oc3, oc4, oc5⟩
  · refine region38_11 a0 a1 b0 b1 c0 c1 a0 a1 _ g ko0 cap0 c true w rfl kab (by kernel_rfl) rfl rfl rfl rfl rfl ⟨gc0, gc1, gc2, gc3, gc4, gc5, oc0, oc1, hown.drew, bd HB⟩ (fun wq hS => ?_)
    obtain ⟨gc0, gc1, gc2, gc3, gc4, gc5, oc0, oc1, hown, HB⟩ := hS
    simp only [List.setIfInBounds_toArray, List.set_cons_zero, List.set_cons_succ]
    go_wp2_with fail
    rw [rounds_succ]
    go_wp2_with fail
    refine region38_10 a0 a1 b0 b1 c0 c1 a0 a1 g ko0 cap0 w (by kernel_rfl) rfl rfl ⟨gc0, gc1, gc2, gc3, gc4, gc5, oc0, oc1, hown.drew, bd HB⟩ (fun wq hS => ?_)
    obtain ⟨gc0, gc1, gc2, gc3, gc4, gc5, oc0, oc1, hown, HB⟩ := hS
    simp only [List.setIfInBounds_toArray, List.set_cons_zero, List.set_cons_succ]
    go_wp2_with fail
    refine region38_8_10 a0 a1 b0 b1 c0 c1 a0 a1 g ko0 cap0 w (by kernel_rfl) rfl rfl ⟨gc0, gc1, gc2, gc3, gc4, gc5, oc0, oc1, hown.drew, bd HB⟩ (fun wq hS => ?_)
    obtain ⟨gc0, gc1, gc2, gc3, gc4, gc5, oc0, oc1, hown, HB⟩ := hS
    simp only [List.setIfInBounds_toArray, List.set_cons_zero, List.set_cons_succ]
    go_wp2_with (at_builtin; refine wpList_append_own _ rfl _ _ 41 rfl w.heap.size 23 i0 (.agg #[.int .i64 0, .int .i64 0]) 2 16 Try.underlying41 hi hz0 hz1 hz2 rfl (by decide) _ 1 [.int .i64 a0, .int .i64 a1] rfl (hown.alloc _) ⟨wq.heap.size, 0, none⟩ 1 1 [.int .i64 b0, .int .i64 b1] rfl rfl ?_ ?_ (by decide) (by decide) ?_ ?_)
    case refine_1 => exact new2 _ _ _
    case refine_2 => intro u hu; simp at hu; rcases hu with rfl | rfl <;> rfl
    case refine_3 => exact Nat.le_trans HB.size (by simp)
    intro v1 wr hown2 hgrow _
    obtain ⟨ko1, cap1, rfl, geko1, hown⟩ := own_slice2 hown2 (by decide)
    replace gc0 := hgrow.cell (ga gc0) (fun h => neko0 (Option.some.inj h))
    replace gc1 := hgrow.cell (ga gc1) (fun h => neko0 (Option.some.inj h))
    replace gc2 := hgrow.cell (ga gc2) (fun h => neko0 (Option.some.inj h))
    replace gc3 := hgrow.cell (ga gc3) (fun h => neko0 (Option.some.inj h))
    replace gc4 := hgrow.cell (ga gc4) (fun h => neko0 (Option.some.inj h))
    replace gc5 := hgrow.cell (ga gc5) (fun h => neko0 (Option.some.inj h))
    replace HB := Below.grown (ba HB _) hgrow (Nat.le_trans HB.size (by simp)) (fun k hk => by obtain rfl := Option.some.inj hk; exact geko0)
    have neko1 : ¬ g = ko1 := Nat.ne_of_lt (Nat.lt_of_lt_of_le hg geko1)
    clear hown2 hgrow
    have oc0 : wr.cell? ⟨ko1, 0, none⟩ = some (.int .i64 a0) := hown.cellAt 0 (by decide)
    have of0 := hown.frozenAt 0
    have oc1 : wr.cell? ⟨ko1, 1, none⟩ = some (.int .i64 a1) := hown.cellAt 1 (by decide)
    have of1 := hown.frozenAt 1
    have oc2 : wr.cell? ⟨ko1, 2, none⟩ = some (.int .i64 b0) := hown.cellAt 2 (by decide)
    have of2 := hown.frozenAt 2
    have oc3 : wr.cell? ⟨ko1, 3, none⟩ = some (.int .i64 b1) := hown.cellAt 3 (by decide)
    have of3 := hown.frozenAt 3
    have nzko1 : ¬ ko1 = g := fun h => neko1 h.symm
    go_wp2_with fail
    refine wp_loop_rounds 2 ?_
    rw [rounds_succ]
    go_wp2_with fail
    rw [rounds_succ]
    go_wp2_with fail
    replace oc0 := sb (o' := 1) (u := .int .i64 b1) (ss (v := .int .i64 b0) (sb (o' := 3) (u := .int .i64 a1) (sb (o' := 2) (u := .int .i64 a0) (oc0) (by decide)) (by decide))) (by decide)
    replace oc1 := ss (v := .int .i64 b1) (sb (o' := 0) (u := .int .i64 b0) (sb (o' := 3) (u := .int .i64 a1) (sb (o' := 2) (u := .int .i64 a0) (oc1) (by decide)) (by decide)) (by decide))
    replace oc2 := sb (o' := 1) (u := .int .i64 b1) (sb (o' := 0) (u := .int .i64 b0) (sb (o' := 3) (u := .int .i64 a1) (ss (v := .int .i64 a0) (oc2)) (by decide)) (by decide)) (by decide)
    replace oc3 := sb (o' := 1) (u := .int .i64 b1) (sb (o' := 0) (u := .int .i64 b0) (ss (v := .int .i64 a1) (sb (o' := 2) (u := .int .i64 a0) (oc3) (by decide))) (by decide)) (by decide)
    replace gc0 := so (o' := 1) (u := .int .i64 b1) (so (o' := 0) (u := .int .i64 b0) (so (o' := 3) (u := .int .i64 a1) (so (o' := 2) (u := .int .i64 a0) (gc0) neko1) neko1) neko1) neko1
    replace gc1 := so (o' := 1) (u := .int .i64 b1) (so (o' := 0) (u := .int .i64 b0) (so (o' := 3) (u := .int .i64 a1) (so (o' := 2) (u := .int .i64 a0) (gc1) neko1) neko1) neko1) neko1
    replace gc2 := so (o' := 1) (u := .int .i64 b1) (so (o' := 0) (u := .int .i64 b0) (so (o' := 3) (u := .int .i64 a1) (so (o' := 2) (u := .int .i64 a0) (gc2) neko1) neko1) neko1) neko1
    replace gc3 := so (o' := 1) (u := .int .i64 b1) (so (o' := 0) (u := .int .i64 b0) (so (o' := 3) (u := .int .i64 a1) (so (o' := 2) (u := .int .i64 a0) (gc3) neko1) neko1) neko1) neko1
    replace gc4 := so (o' := 1) (u := .int .i64 b1) (so (o' := 0) (u := .int .i64 b0) (so (o' := 3) (u := .int .i64 a1) (so (o' := 2) (u := .int .i64 a0) (gc4) neko1) neko1) neko1) neko1
    replace gc5 := so (o' := 1) (u := .int .i64 b1) (so (o' := 0) (u := .int .i64 b0) (so (o' := 3) (u := .int .i64 a1) (so (o' := 2) (u := .int .i64 a0) (gc5) neko1) neko1) neko1) neko1
    replace hown : World.ownsRow _ w.heap.size 23 2 (.slice (some ⟨ko1, 0, none⟩) 2 cap1) 2 [.int .i64 b0, .int .i64 b1, .int .i64 a0, .int .i64 a1] := (World.ownsRow.stored ((World.ownsRow.stored ((World.ownsRow.stored ((World.ownsRow.stored (hown) 2 (.int .i64 a0)).1) 3 (.int .i64 a1)).1) 0 (.int .i64 b0)).1) 1 (.int .i64 b1)).1
    replace HB := bs (p := ⟨ko1, 1, none⟩) (bs (p := ⟨ko1, 0, none⟩) (bs (p := ⟨ko1, 3, none⟩) (bs (p := ⟨ko1, 2, none⟩) (HB) geko1 (.int .i64 a0)) geko1 (.int .i64 a1)) geko1 (.int .i64 b0)) geko1 (.int .i64 b1)
    clear of0 of1 of2 of3
    rw [rounds_succ]
    go_wp2_with fail
    refine wp_loop_rounds 3 ?_
    rw [rounds_succ]
    go_wp2_with fail
    cases kac : decide (0 < cmpP ⟨a0, a1⟩ ⟨c0, c1⟩)
    · refine region38_22 a0 a1 b0 b1 c0 c1 b0 b1 a0 a1 _ g ko1 cap1 c false w rfl kac (by kernel_rfl) rfl rfl rfl rfl rfl ⟨gc0, gc1, gc2, gc3, gc4, gc5, oc0, oc1, oc2, oc3, hown.drew, bd HB⟩ (fun wq hS => ?_)
      obtain ⟨gc0, gc1, gc2, gc3, gc4, gc5, oc0, oc1, oc2, oc3, hown, HB⟩ := hS
      simp only [List.setIfInBounds_toArray, List.set_cons_zero, List.set_cons_succ]
      go_wp2_with fail
      refine region38_8_22 a0 a1 b0 b1 c0 c1 b0 b1 a0 a1 g ko1 cap1 c w eac (by kernel_rfl) rfl rfl rfl rfl rfl ⟨gc0, gc1, gc2, gc3, gc4, gc5, oc0, oc1, oc2, oc3, hown.drew, bd HB⟩ (fun wq hS => ?_)
      obtain ⟨gc0, gc1, gc2, gc3, gc4, gc5, oc0, oc1, oc2, oc3, hown, HB⟩ := hS
      simp only [List.setIfInBounds_toArray, List.set_cons_zero, List.set_cons_succ]
      go_wp2_with (at_builtin; refine wpList_append_own _ rfl _ _ 41 rfl w.heap.size 23 i0 (.agg #[.int .i64 0, .int .i64 0]) 2 16 Try.underlying41 hi hz0 hz1 hz2 rfl (by decide) _ 2 [.int .i64 b0, .int .i64 b1, .int .i64 a0, .int .i64 a1] rfl (hown.alloc _) ⟨wq.heap.size, 0, none⟩ 1 1 [.int .i64 c0, .int .i64 c1] rfl rfl ?_ ?_ (by decide) (by decide) ?_ ?_)
      case refine_1 => exact new2 _ _ _
      case refine_2 => intro u hu; simp at hu; rcases hu with rfl | rfl <;> rfl
      case refine_3 => exact Nat.le_trans HB.size (by simp)
      intro v2 wr hown2 hgrow _
      obtain ⟨ko2, cap2, rfl, geko2, hown⟩ := own_slice2 hown2 (by decide)
      replace gc0 := hgrow.cell (ga gc0) (fun h => neko1 (Option.some.inj h))
      replace gc1 := hgrow.cell (ga gc1) (fun h => neko1 (Option.some.inj h))
      replace gc2 := hgrow.cell (ga gc2) (fun h => neko1 (Option.some.inj h))
      replace gc3 := hgrow.cell (ga gc3) (fun h => neko1 (Option.some.inj h))
      replace gc4 := hgrow.cell (ga gc4) (fun h => neko1 (Option.some.inj h))
      replace gc5 := hgrow.cell (ga gc5) (fun h => neko1 (Option.some.inj h))
      replace HB := Below.grown (ba HB _) hgrow (Nat.le_trans HB.size (by simp)) (fun k hk => by obtain rfl := Option.some.inj hk; exact geko1)
      have neko2 : ¬ g = ko2 := Nat.ne_of_lt (Nat.lt_of_lt_of_le hg geko2)
      clear hown2 hgrow
      have oc0 : wr.cell? ⟨ko2, 0, none⟩ = some (.int .i64 b0) := hown.cellAt 0 (by decide)
      have of0 := hown.frozenAt 0
      have oc1 : wr.cell? ⟨ko2, 1, none⟩ = some (.int .i64 b1) := hown.cellAt 1 (by decide)
      have of1 := hown.frozenAt 1
      have oc2 : wr.cell? ⟨ko2, 2, none⟩ = some (.int .i64 a0) := hown.cellAt 2 (by decide)
      have of2 := hown.frozenAt 2
      have oc3 : wr.cell? ⟨ko2, 3, none⟩ = some (.int .i64 a1) := hown.cellAt 3 (by decide)
      have of3 := hown.frozenAt 3
      have oc4 : wr.cell? ⟨ko2, 4, none⟩ = some (.int .i64 c0) := hown.cellAt 4 (by decide)
      have of4 := hown.frozenAt 4
      have oc5 : wr.cell? ⟨ko2, 5, none⟩ = some (.int .i64 c1) := hown.cellAt 5 (by decide)
      have of5 := hown.frozenAt 5
      have nzko2 : ¬ ko2 = g := fun h => neko2 h.symm
      go_wp2_with fail
      refine wp_loop_rounds 1 ?_
      rw [rounds_succ]
      go_wp2_with fail
      replace oc0 := sb (o' := 5) (u := .int .i64 c1) (sb (o' := 4) (u := .int .i64 c0) (oc0) (by decide)) (by decide)
      replace oc1 := sb (o' := 5) (u := .int .i64 c1) (sb (o' := 4) (u := .int .i64 c0) (oc1) (by decide)) (by decide)
      replace oc2 := sb (o' := 5) (u := .int .i64 c1) (sb (o' := 4) (u := .int .i64 c0) (oc2) (by decide)) (by decide)
      replace oc3 := sb (o' := 5) (u := .int .i64 c1) (sb (o' := 4) (u := .int .i64 c0) (oc3) (by decide)) (by decide)
      replace oc4 := sb (o' := 5) (u := .int .i64 c1) (ss (v := .int .i64 c0) (oc4)) (by decide)
      replace oc5 := ss (v := .int .i64 c1) (sb (o' := 4) (u := .int .i64 c0) (oc5) (by decide))
      replace gc0 := so (o' := 5) (u := .int .i64 c1) (so (o' := 4) (u := .int .i64 c0) (gc0) neko2) neko2
      replace gc1 := so (o' := 5) (u := .int .i64 c1) (so (o' := 4) (u := .int .i64 c0) (gc1) neko2) neko2
      replace gc2 := so (o' := 5) (u := .int .i64 c1) (so (o' := 4) (u := .int .i64 c0) (gc2) neko2) neko2
      replace gc3 := so (o' := 5) (u := .int .i64 c1) (so (o' := 4) (u := .int .i64 c0) (gc3) neko2) neko2
      replace gc4 := so (o' := 5) (u := .int .i64 c1) (so (o' := 4) (u := .int .i64 c0) (gc4) neko2) neko2
      replace gc5 := so (o' := 5) (u := .int .i64 c1) (so (o' := 4) (u := .int .i64 c0) (gc5) neko2) neko2
      replace hown : World.ownsRow _ w.heap.size 23 2 (.slice (some ⟨ko2, 0, none⟩) 3 cap2) 3 [.int .i64 b0, .int .i64 b1, .int .i64 a0, .int .i64 a1, .int .i64 c0, .int .i64 c1] := (World.ownsRow.stored ((World.ownsRow.stored (hown) 4 (.int .i64 c0)).1) 5 (.int .i64 c1)).1
      replace HB := bs (p := ⟨ko2, 5, none⟩) (bs (p := ⟨ko2, 4, none⟩) (HB) geko2 (.int .i64 c0)) geko2 (.int .i64 c1)
      clear of0 of1 of2 of3 of4 of5
      rw [rounds_succ]
      go_wp2
      go_ret
      have hs : srt ⟨a0, a1⟩ ⟨b0, b1⟩ ⟨c0, c1⟩ = (⟨b0, b1⟩, ⟨a0, a1⟩, ⟨c0, c1⟩) := by unfold srt; simp [of_decide_eq_true kab, of_decide_eq_false kac]
      rw [hs]
      exact ⟨ko2, cap2, rfl, HB, oc0, oc1, oc2, oc3, oc4, oc5⟩
    · refine region38_22 a0 a1 b0 b1 c0 c1 b0 b1 a0 a1 _ g ko1 cap1 c true w rfl kac (by kernel_rfl) rfl rfl rfl rfl rfl ⟨gc0, gc1, gc2, gc3, gc4, gc5, oc0, oc1, oc2, oc3, hown.drew, bd HB⟩ (fun wq hS => ?_)
      obtain ⟨gc0, gc1, gc2, gc3, gc4, gc5, oc0, oc1, oc2, oc3, hown, HB⟩ := hS
      simp only [List.setIfInBounds_toArray, List.set_cons_zero, List.set_cons_succ]
      go_wp2_with fail
      rw [rounds_succ]
      go_wp2_with fail
      cases kbc : decide (0 < cmpP ⟨b0, b1⟩ ⟨c0, c1⟩)
      · refine region38_21 a0 a1 b0 b1 c0 c1 b0 b1 a0 a1 _ g ko1 cap1 c false w rfl kbc (by kernel_rfl) rfl rfl rfl rfl rfl ⟨gc0, gc1, gc2, gc3, gc4, gc5, oc0, oc1, oc2, oc3, hown.drew, bd HB⟩ (fun wq hS => ?_)
        obtain ⟨gc0, gc1, gc2, gc3, gc4, gc5, oc0, oc1, oc2, oc3, hown, HB⟩ := hS
        simp only [List.setIfInBounds_toArray, List.set_cons_zero, List.set_cons_succ]
        go_wp2_with fail
        refine region38_8_21 a0 a1 b0 b1 c0 c1 b0 b1 a0 a1 g ko1 cap1 c w ebc (by kernel_rfl) rfl rfl rfl rfl rfl ⟨gc0, gc1, gc2, gc3, gc4, gc5, oc0, oc1, oc2, oc3, hown.drew, bd HB⟩ (fun wq hS => ?_)
        obtain ⟨gc0, gc1, gc2, gc3, gc4, gc5, oc0, oc1, oc2, oc3, hown, HB⟩ := hS
        simp only [List.setIfInBounds_toArray, List.set_cons_zero, List.set_cons_succ]
        go_wp2_with (at_builtin; refine wpList_append_own _ rfl _ _ 41 rfl w.heap.size 23 i0 (.agg #[.int .i64 0, .int .i64 0]) 2 16 Try.underlying41 hi hz0 hz1 hz2 rfl (by decide) _ 2 [.int .i64 b0, .int .i64 b1, .int .i64 a0, .int .i64 a1] rfl (hown.alloc _) ⟨wq.heap.size, 0, none⟩ 1 1 [.int .i64 c0, .int .i64 c1] rfl rfl ?_ ?_ (by decide) (by decide) ?_ ?_)
        case refine_1 => exact new2 _ _ _
        case refine_2 => intro u hu; simp at hu; rcases hu with rfl | rfl <;> rfl
        case refine_3 => exact Nat.le_trans HB.size (by simp)
        intro v2 wr hown2 hgrow _
        obtain ⟨ko2, cap2, rfl, geko2, hown⟩ := own_slice2 hown2 (by decide)
        replace gc0 := hgrow.cell (ga gc0) (fun h => neko1 (Option.some.inj h))
        replace gc1 := hgrow.cell (ga gc1) (fun h => neko1 (Option.some.inj h))
        replace gc2 := hgrow.cell (ga gc2) (fun h => neko1 (Option.some.inj h))
        replace gc3 := hgrow.cell (ga gc3) (fun h => neko1 (Option.some.inj h))
        replace gc4 := hgrow.cell (ga gc4) (fun h => neko1 (Option.some.inj h))
        replace gc5 := hgrow.cell (ga gc5) (fun h => neko1 (Option.some.inj h))
        replace HB := Below.grown (ba HB _) hgrow (Nat.le_trans HB.size (by simp)) (fun k hk => by obtain rfl := Option.some.inj hk; exact geko1)
        have neko2 : ¬ g = ko2 := Nat.ne_of_lt (Nat.lt_of_lt_of_le hg geko2)
        clear hown2 hgrow
        have oc0 : wr.cell? ⟨ko2, 0, none⟩ = some (.int .i64 b0) := hown.cellAt 0 (by decide)
        have of0 := hown.frozenAt 0
        have oc1 : wr.cell? ⟨ko2, 1, none⟩ = some (.int .i64 b1) := hown.cellAt 1 (by decide)
        have of1 := hown.frozenAt 1
        have oc2 : wr.cell? ⟨ko2, 2, none⟩ = some (.int .i64 a0) := hown.cellAt 2 (by decide)
        have of2 := hown.frozenAt 2
        have oc3 : wr.cell? ⟨ko2, 3, none⟩ = some (.int .i64 a1) := hown.cellAt 3 (by decide)
        have of3 := hown.frozenAt 3
        have oc4 : wr.cell? ⟨ko2, 4, none⟩ = some (.int .i64 c0) := hown.cellAt 4 (by decide)
        have of4 := hown.frozenAt 4
        have oc5 : wr.cell? ⟨ko2, 5, none⟩ = some (.int .i64 c1) := hown.cellAt 5 (by decide)
        have of5 := hown.frozenAt 5
        have nzko2 : ¬ ko2 = g := fun h => neko2 h.symm
        go_wp2_with fail
        refine wp_loop_rounds 2 ?_
        rw [rounds_succ]
        go_wp2_with fail
        rw [rounds_succ]
        go_wp2_with fail
        replace oc0 := sb (o' := 3) (u := .int .i64 c1) (sb (o' := 2) (u := .int .i64 c0) (sb (o' := 5) (u := .int .i64 a1) (sb (o' := 4) (u := .int .i64 a0) (oc0) (by decide)) (by decide)) (by decide)) (by decide)
        replace oc1 := sb (o' := 3) (u := .int .i64 c1) (sb (o' := 2) (u := .int .i64 c0) (sb (o' := 5) (u := .int .i64 a1) (sb (o' := 4) (u := .int .i64 a0) (oc1) (by decide)) (by decide)) (by decide)) (by decide)
        replace oc2 := sb (o' := 3) (u := .int .i64 c1) (ss (v := .int .i64 c0) (sb (o' := 5) (u := .int .i64 a1) (sb (o' := 4) (u := .int .i64 a0) (oc2) (by decide)) (by decide))) (by decide)
        replace oc3 := ss (v := .int .i64 c1) (sb (o' := 2) (u := .int .i64 c0) (sb (o' := 5) (u := .int .i64 a1) (sb (o' := 4) (u := .int .i64 a0) (oc3) (by decide)) (by decide)) (by decide))
        replace oc4 := sb (o' := 3) (u := .int .i64 c1) (sb (o' := 2) (u := .int .i64 c0) (sb (o' := 5) (u := .int .i64 a1) (ss (v := .int .i64 a0) (oc4)) (by decide)) (by decide)) (by decide)
        replace oc5 := sb (o' := 3) (u := .int .i64 c1) (sb (o' := 2) (u := .int .i64 c0) (ss (v := .int .i64 a1) (sb (o' := 4) (u := .int .i64 a0) (oc5) (by decide))) (by decide)) (by decide)
        replace gc0 := so (o' := 3) (u := .int .i64 c1) (so (o' := 2) (u := .int .i64 c0) (so (o' := 5) (u := .int .i64 a1) (so (o' := 4) (u := .int .i64 a0) (gc0) neko2) neko2) neko2) neko2
        replace gc1 := so (o' := 3) (u := .int .i64 c1) (so (o' := 2) (u := .int .i64 c0) (so (o' := 5) (u := .int .i64 a1) (so (o' := 4) (u := .int .i64 a0) (gc1) neko2) neko2) neko2) neko2
        replace gc2 := so (o' := 3) (u := .int .i64 c1) (so (o' := 2) (u := .int .i64 c0) (so (o' := 5) (u := .int .i64 a1) (so (o' := 4) (u := .int .i64 a0) (gc2) neko2) neko2) neko2) neko2
        replace gc3 := so (o' := 3) (u := .int .i64 c1) (so (o' := 2) (u := .int .i64 c0) (so (o' := 5) (u := .int .i64 a1) (so (o' := 4) (u := .int .i64 a0) (gc3) neko2) neko2) neko2) neko2
        replace gc4 := so (o' := 3) (u := .int .i64 c1) (so (o' := 2) (u := .int .i64 c0) (so (o' := 5) (u := .int .i64 a1) (so (o' := 4) (u := .int .i64 a0) (gc4) neko2) neko2) neko2) neko2
        replace gc5 := so (o' := 3) (u := .int .i64 c1) (so (o' := 2) (u := .int .i64 c0) (so (o' := 5) (u := .int .i64 a1) (so (o' := 4) (u := .int .i64 a0) (gc5) neko2) neko2) neko2) neko2
        replace hown : World.ownsRow _ w.heap.size 23 2 (.slice (some ⟨ko2, 0, none⟩) 3 cap2) 3 [.int .i64 b0, .int .i64 b1, .int .i64 c0, .int .i64 c1, .int .i64 a0, .int .i64 a1] := (World.ownsRow.stored ((World.ownsRow.stored ((World.ownsRow.stored ((World.ownsRow.stored (hown) 4 (.int .i64 a0)).1) 5 (.int .i64 a1)).1) 2 (.int .i64 c0)).1) 3 (.int .i64 c1)).1
        replace HB := bs (p := ⟨ko2, 3, none⟩) (bs (p := ⟨ko2, 2, none⟩) (bs (p := ⟨ko2, 5, none⟩) (bs (p := ⟨ko2, 4, none⟩) (HB) geko2 (.int .i64 a0)) geko2 (.int .i64 a1)) geko2 (.int .i64 c0)) geko2 (.int .i64 c1)
        clear of0 of1 of2 of3 of4 of5
        rw [rounds_succ]
        go_wp2
        go_ret
        have hs : srt ⟨a0, a1⟩ ⟨b0, b1⟩ ⟨c0, c1⟩ = (⟨b0, b1⟩, ⟨c0, c1⟩, ⟨a0, a1⟩) := by unfold srt; simp [of_decide_eq_true kab, of_decide_eq_true kac, of_decide_eq_false kbc]
        rw [hs]
        exact ⟨ko2, cap2, rfl, HB, oc0, oc1, oc2, oc3, oc4, oc5⟩
      · refine region38_21 a0 a1 b0 b1 c0 c1 b0 b1 a0 a1 _ g ko1 cap1 c true w rfl kbc (by kernel_rfl) rfl rfl rfl rfl rfl ⟨gc0, gc1, gc2, gc3, gc4, gc5, oc0, oc1, oc2, oc3, hown.drew, bd HB⟩ (fun wq hS => ?_)
        obtain ⟨gc0, gc1, gc2, gc3, gc4, gc5, oc0, oc1, oc2, oc3, hown, HB⟩ := hS
        simp only [List.setIfInBounds_toArray, List.set_cons_zero, List.set_cons_succ]
        go_wp2_with fail
        rw [rounds_succ]
        go_wp2_with fail
        refine region38_20 a0 a1 b0 b1 c0 c1 b0 b1 a0 a1 g ko1 cap1 w (by kernel_rfl) rfl rfl ⟨gc0, gc1, gc2, gc3, gc4, gc5, oc0, oc1, oc2, oc3, hown.drew, bd HB⟩ (fun wq hS => ?_)
        obtain ⟨gc0, gc1, gc2, gc3, gc4, gc5, oc0, oc1, oc2, oc3, hown, HB⟩ := hS
        simp only [List.setIfInBounds_toArray, List.set_cons_zero, List.set_cons_succ]
        go_wp2_with fail
        refine region38_8_20 a0 a1 b0 b1 c0 c1 b0 b1 a0 a1 g ko1 cap1 w (by kernel_rfl) rfl rfl ⟨gc0, gc1, gc2, gc3, gc4, gc5, oc0, oc1, oc2, oc3, hown.drew, bd HB⟩ (fun wq hS => ?_)
        obtain ⟨gc0, gc1, gc2, gc3, gc4, gc5, oc0, oc1, oc2, oc3, hown, HB⟩ := hS
        simp only [List.setIfInBounds_toArray, List.set_cons_zero, List.set_cons_succ]
        go_wp2_with (at_builtin; refine wpList_append_own _ rfl _ _ 41 rfl w.heap.size 23 i0 (.agg #[.int .i64 0, .int .i64 0]) 2 16 Try.underlying41 hi hz0 hz1 hz2 rfl (by decide) _ 2 [.int .i64 b0, .int .i64 b1, .int .i64 a0, .int .i64 a1] rfl (hown.alloc _) ⟨wq.heap.size, 0, none⟩ 1 1 [.int .i64 c0, .int .i64 c1] rfl rfl ?_ ?_ (by decide) (by decide) ?_ ?_)
        case refine_1 => exact new2 _ _ _
        case refine_2 => intro u hu; simp at hu; rcases hu with rfl | rfl <;> rfl
        case refine_3 => exact Nat.le_trans HB.size (by simp)
        intro v2 wr hown2 hgrow _
        obtain ⟨ko2, cap2, rfl, geko2, hown⟩ := own_slice2 hown2 (by decide)
        replace gc0 := hgrow.cell (ga gc0) (fun h => neko1 (Option.some.inj h))
        replace gc1 := hgrow.cell (ga gc1) (fun h => neko1 (Option.some.inj h))
        replace gc2 := hgrow.cell (ga gc2) (fun h => neko1 (Option.some.inj h))
        replace gc3 := hgrow.cell (ga gc3) (fun h => neko1 (Option.some.inj h))
        replace gc4 := hgrow.cell (ga gc4) (fun h => neko1 (Option.some.inj h))
        replace gc5 := hgrow.cell (ga gc5) (fun h => neko1 (Option.some.inj h))
        replace HB := Below.grown (ba HB _) hgrow (Nat.le_trans HB.size (by simp)) (fun k hk => by obtain rfl := Option.some.inj hk; exact geko1)
        have neko2 : ¬ g = ko2 := Nat.ne_of_lt (Nat.lt_of_lt_of_le hg geko2)
        clear hown2 hgrow
        have oc0 : wr.cell? ⟨ko2, 0, none⟩ = some (.int .i64 b0) := hown.cellAt 0 (by decide)
        have of0 := hown.frozenAt 0
        have oc1 : wr.cell? ⟨ko2, 1, none⟩ = some (.int .i64 b1) := hown.cellAt 1 (by decide)
        have of1 := hown.frozenAt 1
        have oc2 : wr.cell? ⟨ko2, 2, none⟩ = some (.int .i64 a0) := hown.cellAt 2 (by decide)
        have of2 := hown.frozenAt 2
        have oc3 : wr.cell? ⟨ko2, 3, none⟩ = some (.int .i64 a1) := hown.cellAt 3 (by decide)
        have of3 := hown.frozenAt 3
        have oc4 : wr.cell? ⟨ko2, 4, none⟩ = some (.int .i64 c0) := hown.cellAt 4 (by decide)
        have of4 := hown.frozenAt 4
        have oc5 : wr.cell? ⟨ko2, 5, none⟩ = some (.int .i64 c1) := hown.cellAt 5 (by decide)
        have of5 := hown.frozenAt 5
        have nzko2 : ¬ ko2 = g := fun h => neko2 h.symm
        go_wp2_with fail
        refine wp_loop_rounds 3 ?_
        rw [rounds_succ]
        go_wp2_with fail
        rw [rounds_succ]
        go_wp2_with fail
        rw [rounds_succ]
        go_wp2_with fail
        replace oc0 := sb (o' := 1) (u := .int .i64 c1) (ss (v := .int .i64 c0) (sb (o' := 3) (u := .int .i64 b1) (sb (o' := 2) (u := .int .i64 b0) (sb (o' := 5) (u := .int .i64 a1) (sb (o' := 4) (u := .int .i64 a0) (oc0) (by decide)) (by decide)) (by decide)) (by decide))) (by decide)
        replace oc1 := ss (v := .int .i64 c1) (sb (o' := 0) (u := .int .i64 c0) (sb (o' := 3) (u := .int .i64 b1) (sb (o' := 2) (u := .int .i64 b0) (sb (o' := 5) (u := .int .i64 a1) (sb (o' := 4) (u := .int .i64 a0) (oc1) (by decide)) (by decide)) (by decide)) (by decide)) (by decide))
        replace oc2 := sb (o' := 1) (u := .int .i64 c1) (sb (o' := 0) (u := .int .i64 c0) (sb (o' := 3) (u := .int .i64 b1) (ss (v := .int .i64 b0) (sb (o' := 5) (u := .int .i64 a1) (sb (o' := 4) (u := .int .i64 a0) (oc2) (by decide)) (by decide))) (by decide)) (by decide)) (by decide)
        replace oc3 := sb (o' := 1) (u := .int .i64 c1) (sb (o' := 0) (u := .int .i64 c0) (ss (v := .int .i64 b1) (sb (o' := 2) (u := .int .i64 b0) (sb (o' := 5) (u := .int .i64 a1) (sb (o' := 4) (u := .int .i64 a0) (oc3) (by decide)) (by decide)) (by decide))) (by decide)) (by decide)
        replace oc4 := sb (o' := 1) (u := .int .i64 c1) (sb (o' := 0) (u := .int .i64 c0) (sb (o' := 3) (u := .int .i64 b1) (sb (o' := 2) (u := .int .i64 b0) (sb (o' := 5) (u := .int .i64 a1) (ss (v := .int .i64 a0) (oc4)) (by decide)) (by decide)) (by decide)) (by decide)) (by decide)
        replace oc5 := sb (o' := 1) (u := .int .i64 c1) (sb (o' := 0) (u := .int .i64 c0) (sb (o' := 3) (u := .int .i64 b1) (sb (o' := 2) (u := .int .i64 b0) (ss (v := .int .i64 a1) (sb (o' := 4) (u := .int .i64 a0) (oc5) (by decide))) (by decide)) (by decide)) (by decide)) (by decide)
        replace gc0 := so (o' := 1) (u := .int .i64 c1) (so (o' := 0) (u := .int .i64 c0) (so (o' := 3) (u := .int .i64 b1) (so (o' := 2) (u := .int .i64 b0) (so (o' := 5) (u := .int .i64 a1) (so (o' := 4) (u := .int .i64 a0) (gc0) neko2) neko2) neko2) neko2) neko2) neko2
        replace gc1 := so (o' := 1) (u := .int .i64 c1) (so (o' := 0) (u := .int .i64 c0) (so (o' := 3) (u := .int .i64 b1) (so (o' := 2) (u := .int .i64 b0) (so (o' := 5) (u := .int .i64 a1) (so (o' := 4) (u := .int .i64 a0) (gc1) neko2) neko2) neko2) neko2) neko2) neko2
        replace gc2 := so (o' := 1) (u := .int .i64 c1) (so (o' := 0) (u := .int .i64 c0) (so (o' := 3) (u := .int .i64 b1) (so (o' := 2) (u := .int .i64 b0) (so (o' := 5) (u := .int .i64 a1) (so (o' := 4) (u := .int .i64 a0) (gc2) neko2) neko2) neko2) neko2) neko2) neko2
        replace gc3 := so (o' := 1) (u := .int .i64 c1) (so (o' := 0) (u := .int .i64 c0) (so (o' := 3) (u := .int .i64 b1) (so (o' := 2) (u := .int .i64 b0) (so (o' := 5) (u := .int .i64 a1) (so (o' := 4) (u := .int .i64 a0) (gc3) neko2) neko2) neko2) neko2) neko2) neko2
        replace gc4 := so (o' := 1) (u := .int .i64 c1) (so (o' := 0) (u := .int .i64 c0) (so (o' := 3) (u := .int .i64 b1) (so (o' := 2) (u := .int .i64 b0) (so (o' := 5) (u := .int .i64 a1) (so (o' := 4) (u := .int .i64 a0) (gc4) neko2) neko2) neko2) neko2) neko2) neko2
        replace gc5 := so (o' := 1) (u := .int .i64 c1) (so (o' := 0) (u := .int .i64 c0) (so (o' := 3) (u := .int .i64 b1) (so (o' := 2) (u := .int .i64 b0) (so (o' := 5) (u := .int .i64 a1) (so (o' := 4) (u := .int .i64 a0) (gc5) neko2) neko2) neko2) neko2) neko2) neko2
        replace hown : World.ownsRow _ w.heap.size 23 2 (.slice (some ⟨ko2, 0, none⟩) 3 cap2) 3 [.int .i64 c0, .int .i64 c1, .int .i64 b0, .int .i64 b1, .int .i64 a0, .int .i64 a1] := (World.ownsRow.stored ((World.ownsRow.stored ((World.ownsRow.stored ((World.ownsRow.stored ((World.ownsRow.stored ((World.ownsRow.stored (hown) 4 (.int .i64 a0)).1) 5 (.int .i64 a1)).1) 2 (.int .i64 b0)).1) 3 (.int .i64 b1)).1) 0 (.int .i64 c0)).1) 1 (.int .i64 c1)).1
        replace HB := bs (p := ⟨ko2, 1, none⟩) (bs (p := ⟨ko2, 0, none⟩) (bs (p := ⟨ko2, 3, none⟩) (bs (p := ⟨ko2, 2, none⟩) (bs (p := ⟨ko2, 5, none⟩) (bs (p := ⟨ko2, 4, none⟩) (HB) geko2 (.int .i64 a0)) geko2 (.int .i64 a1)) geko2 (.int .i64 b0)) geko2 (.int .i64 b1)) geko2 (.int .i64 c0)) geko2 (.int .i64 c1)
        clear of0 of1 of2 of3 of4 of5
        rw [rounds_succ]
        go_wp2
        go_ret
        have hs : srt ⟨a0, a1⟩ ⟨b0, b1⟩ ⟨c0, c1⟩ = (⟨c0, c1⟩, ⟨b0, b1⟩, ⟨a0, a1⟩) := by unfold srt; simp [of_decide_eq_true kab, of_decide_eq_true kac, of_decide_eq_true kbc]
        rw [hs]
        exact ⟨ko2, cap2, rfl, HB, oc0, oc1, oc2, oc3, oc4, oc5⟩

end Go.Proofs.Ytandgbpbabmdfaa
