import Derived.Test.YtandgbpbabmdfaaT2
namespace Go.Proofs.Ytandgbpbabmdfaa
open Go.RowKit

theorem rb {a b : Bool} (h : a = b) : Ending.returned (.bool a) = .returned (.bool b) := by rw [h]
theorem ri {k : IntKind} {a b : Int} (h : a = b) : Ending.returned (.int k a) = .returned (.int k b) := by rw [h]
theorem aft {W w1 : World} (hb : Below W.heap.size W w1) : (∀ b o, b < W.heap.size → w1.cell? ⟨b, o, none⟩ = W.cell? ⟨b, o, none⟩) ∧ (∀ b o, b < W.heap.size → w1.frozen? ⟨b, o, none⟩ = W.frozen? ⟨b, o, none⟩) ∧ W.heap.size ≤ w1.heap.size :=
  ⟨fun b o h => hb.cell (p := ⟨b, o, none⟩) h, fun b o h => hb.frozen (p := ⟨b, o, none⟩) h, hb.size⟩
theorem undr {w w1 : World} (hb : Below w.drew.heap.size w.drew w1) : Below w.heap.size w w1 := ⟨hb.os, hb.tape, hb.output, hb.size, hb.block⟩
theorem ck {w w1 : World} (hb : Below w.heap.size w w1) {a : Addr} {v : Value} (h : w.cell? a = some v) : w1.cell? a = some v := by
  have := World.block_lt_of_cell? w _ h
  rw [hb.cell this]; exact h
theorem bs {W w : World} (h : Below W.heap.size W w) {p : Addr} (hp : W.heap.size ≤ p.block) (u : Value) : Below W.heap.size W (w.setCell p u) := h.setCell hp u

set_option maxHeartbeats 1000000 in
set_option maxRecDepth 100000 in
theorem valid49 (ax ay : Int) (w : World) :
    Calls Try.prog 49 #[.agg #[.int .i64 ax, .int .i64 ay]] w fun e w' => e = .returned (.bool (val ⟨ax, ay⟩)) ∧ Below w.heap.size w w' := by
  go_enter Try.func49, Try.ntmps49
  go_wp2
  all_goals
    go_ret
    exact ⟨rb (by rw [Bool.eq_iff_iff]; simp [val]; omega), by repeat (first | exact Below.refl _ _ | apply bd | apply ba | refine bt ?_ ‹_›)⟩

set_option maxHeartbeats 1000000 in
set_option maxRecDepth 100000 in
theorem valid48 (ax ay : Int) (w : World) :
    Calls Try.prog 48 #[.agg #[.int .i64 ax, .int .i64 ay]] w fun e w' => e = .returned (.bool (val ⟨ax, ay⟩)) ∧ Below w.heap.size w w' := by
  go_enter Try.func48, Try.ntmps48
  go_wp2
  all_goals
    go_ret
    exact ⟨rb (by rw [Bool.eq_iff_iff]; simp [val]; omega), by repeat (first | exact Below.refl _ _ | apply bd | apply ba | refine bt ?_ ‹_›)⟩

set_option maxHeartbeats 1000000 in
set_option maxRecDepth 100000 in
theorem cmp51 (px py qx qy : Int) (w : World) :
    Calls Try.prog 51 #[.agg #[.int .i64 px, .int .i64 py], .agg #[.int .i64 qx, .int .i64 qy]] w fun e w' => e = .returned (.int .i64 (cmpP ⟨px, py⟩ ⟨qx, qy⟩)) ∧ Below w.heap.size w w' := by
  go_enter Try.func51, Try.ntmps51
  go_wp2
  all_goals
    go_ret
    exact ⟨ri (by unfold cmpP or2 cmpI; dsimp only; (repeat' split) <;> omega), by repeat (first | exact Below.refl _ _ | apply bd | apply ba | refine bt ?_ ‹_›)⟩

set_option maxHeartbeats 1000000 in
set_option maxRecDepth 100000 in
theorem all3 (g c : Nat) (px py qx qy rx ry : Int) (w : World) (h0 : w.cell? ⟨g, 0, none⟩ = some (.int .i64 px)) (h1 : w.cell? ⟨g, 1, none⟩ = some (.int .i64 py)) (h2 : w.cell? ⟨g, 2, none⟩ = some (.int .i64 qx)) (h3 : w.cell? ⟨g, 3, none⟩ = some (.int .i64 qy)) (h4 : w.cell? ⟨g, 4, none⟩ = some (.int .i64 rx)) (h5 : w.cell? ⟨g, 5, none⟩ = some (.int .i64 ry)) :
    Calls Try.prog 69 #[.slice (some ⟨g, 0, none⟩) 3 c] w fun e w' => e = .returned (.bool (val ⟨px, py⟩ && val ⟨qx, qy⟩ && val ⟨rx, ry⟩)) ∧ Below w.heap.size w w' := by
  have hg := World.block_lt_of_cell? w _ h0
  simp only at hg
  cases vp : val ⟨px, py⟩
  · go_enter Try.func69, Try.ntmps69
    go_wp2
    refine wp_loop_rounds 4 ?_
    rw [rounds_succ]
    go_wp2_with (go_at_call 49; refine (valid49 _ _ _).mono ?_; rintro e w1 ⟨rfl, hb1⟩; obtain ⟨hc1, hf1, hz1⟩ := aft hb1; have z1 : g < w1.heap.size := by (simp at hz1; omega))
    go_ret
    exact ⟨rb (by simp), by repeat (first | exact Below.refl _ _ | apply bd | apply ba | refine bt ?_ ‹_›)⟩
  · skip
    cases vq : val ⟨qx, qy⟩
    · go_enter Try.func69, Try.ntmps69
      go_wp2
      refine wp_loop_rounds 4 ?_
      rw [rounds_succ]
      go_wp2_with (go_at_call 49; refine (valid49 _ _ _).mono ?_; rintro e w1 ⟨rfl, hb1⟩; obtain ⟨hc1, hf1, hz1⟩ := aft hb1; have z1 : g < w1.heap.size := by (simp at hz1; omega))
      rw [rounds_succ]
      go_wp2_with (go_at_call 49; refine (valid49 _ _ _).mono ?_; rintro e w2 ⟨rfl, hb2⟩; obtain ⟨hc2, hf2, hz2⟩ := aft hb2; have z2 : g < w2.heap.size := by (simp at hz2; omega))
      go_ret
      exact ⟨rb (by simp), by repeat (first | exact Below.refl _ _ | apply bd | apply ba | refine bt ?_ ‹_›)⟩
    · skip
      cases vr : val ⟨rx, ry⟩
      · go_enter Try.func69, Try.ntmps69
        go_wp2
        refine wp_loop_rounds 4 ?_
        rw [rounds_succ]
        go_wp2_with (go_at_call 49; refine (valid49 _ _ _).mono ?_; rintro e w1 ⟨rfl, hb1⟩; obtain ⟨hc1, hf1, hz1⟩ := aft hb1; have z1 : g < w1.heap.size := by (simp at hz1; omega))
        rw [rounds_succ]
        go_wp2_with (go_at_call 49; refine (valid49 _ _ _).mono ?_; rintro e w2 ⟨rfl, hb2⟩; obtain ⟨hc2, hf2, hz2⟩ := aft hb2; have z2 : g < w2.heap.size := by (simp at hz2; omega))
        rw [rounds_succ]
        go_wp2_with (go_at_call 49; refine (valid49 _ _ _).mono ?_; rintro e w3 ⟨rfl, hb3⟩; obtain ⟨hc3, hf3, hz3⟩ := aft hb3; have z3 : g < w3.heap.size := by (simp at hz3; omega))
        go_ret
        exact ⟨rb (by simp), by repeat (first | exact Below.refl _ _ | apply bd | apply ba | refine bt ?_ ‹_›)⟩
      · skip
        go_enter Try.func69, Try.ntmps69
        go_wp2
        refine wp_loop_rounds 4 ?_
        rw [rounds_succ]
        go_wp2_with (go_at_call 49; refine (valid49 _ _ _).mono ?_; rintro e w1 ⟨rfl, hb1⟩; obtain ⟨hc1, hf1, hz1⟩ := aft hb1; have z1 : g < w1.heap.size := by (simp at hz1; omega))
        rw [rounds_succ]
        go_wp2_with (go_at_call 49; refine (valid49 _ _ _).mono ?_; rintro e w2 ⟨rfl, hb2⟩; obtain ⟨hc2, hf2, hz2⟩ := aft hb2; have z2 : g < w2.heap.size := by (simp at hz2; omega))
        rw [rounds_succ]
        go_wp2_with (go_at_call 49; refine (valid49 _ _ _).mono ?_; rintro e w3 ⟨rfl, hb3⟩; obtain ⟨hc3, hf3, hz3⟩ := aft hb3; have z3 : g < w3.heap.size := by (simp at hz3; omega))
        rw [rounds_succ]
        go_wp2
        go_ret
        exact ⟨rb (by simp), by repeat (first | exact Below.refl _ _ | apply bd | apply ba | refine bt ?_ ‹_›)⟩

set_option maxHeartbeats 1000000 in
set_option maxRecDepth 100000 in
theorem all4 (g c : Nat) (px py qx qy rx ry sx sy : Int) (w : World) (h0 : w.cell? ⟨g, 0, none⟩ = some (.int .i64 px)) (h1 : w.cell? ⟨g, 1, none⟩ = some (.int .i64 py)) (h2 : w.cell? ⟨g, 2, none⟩ = some (.int .i64 qx)) (h3 : w.cell? ⟨g, 3, none⟩ = some (.int .i64 qy)) (h4 : w.cell? ⟨g, 4, none⟩ = some (.int .i64 rx)) (h5 : w.cell? ⟨g, 5, none⟩ = some (.int .i64 ry)) (h6 : w.cell? ⟨g, 6, none⟩ = some (.int .i64 sx)) (h7 : w.cell? ⟨g, 7, none⟩ = some (.int .i64 sy)) :
    Calls Try.prog 69 #[.slice (some ⟨g, 0, none⟩) 4 c] w fun e w' => e = .returned (.bool (val ⟨px, py⟩ && val ⟨qx, qy⟩ && val ⟨rx, ry⟩ && val ⟨sx, sy⟩)) ∧ Below w.heap.size w w' := by
  have hg := World.block_lt_of_cell? w _ h0
  simp only at hg
  cases vp : val ⟨px, py⟩
  · go_enter Try.func69, Try.ntmps69
    go_wp2
    refine wp_loop_rounds 5 ?_
    rw [rounds_succ]
    go_wp2_with (go_at_call 49; refine (valid49 _ _ _).mono ?_; rintro e w1 ⟨rfl, hb1⟩; obtain ⟨hc1, hf1, hz1⟩ := aft hb1; have z1 : g < w1.heap.size := by (simp at hz1; omega))
    go_ret
    exact ⟨rb (by simp), by repeat (first | exact Below.refl _ _ | apply bd | apply ba | refine bt ?_ ‹_›)⟩
  · skip
    cases vq : val ⟨qx, qy⟩
    · go_enter Try.func69, Try.ntmps69
      go_wp2
      refine wp_loop_rounds 5 ?_
      rw [rounds_succ]
      go_wp2_with (go_at_call 49; refine (valid49 _ _ _).mono ?_; rintro e w1 ⟨rfl, hb1⟩; obtain ⟨hc1, hf1, hz1⟩ := aft hb1; have z1 : g < w1.heap.size := by (simp at hz1; omega))
      rw [rounds_succ]
      go_wp2_with (go_at_call 49; refine (valid49 _ _ _).mono ?_; rintro e w2 ⟨rfl, hb2⟩; obtain ⟨hc2, hf2, hz2⟩ := aft hb2; have z2 : g < w2.heap.size := by (simp at hz2; omega))
      go_ret
      exact ⟨rb (by simp), by repeat (first | exact Below.refl _ _ | apply bd | apply ba | refine bt ?_ ‹_›)⟩
    · skip
      cases vr : val ⟨rx, ry⟩
      · go_enter Try.func69, Try.ntmps69
        go_wp2
        refine wp_loop_rounds 5 ?_
        rw [rounds_succ]
        go_wp2_with (go_at_call 49; refine (valid49 _ _ _).mono ?_; rintro e w1 ⟨rfl, hb1⟩; obtain ⟨hc1, hf1, hz1⟩ := aft hb1; have z1 : g < w1.heap.size := by (simp at hz1; omega))
        rw [rounds_succ]
        go_wp2_with (go_at_call 49; refine (valid49 _ _ _).mono ?_; rintro e w2 ⟨rfl, hb2⟩; obtain ⟨hc2, hf2, hz2⟩ := aft hb2; have z2 : g < w2.heap.size := by (simp at hz2; omega))
        rw [rounds_succ]
        go_wp2_with (go_at_call 49; refine (valid49 _ _ _).mono ?_; rintro e w3 ⟨rfl, hb3⟩; obtain ⟨hc3, hf3, hz3⟩ := aft hb3; have z3 : g < w3.heap.size := by (simp at hz3; omega))
        go_ret
        exact ⟨rb (by simp), by repeat (first | exact Below.refl _ _ | apply bd | apply ba | refine bt ?_ ‹_›)⟩
      · skip
        cases vs : val ⟨sx, sy⟩
        · go_enter Try.func69, Try.ntmps69
          go_wp2
          refine wp_loop_rounds 5 ?_
          rw [rounds_succ]
          go_wp2_with (go_at_call 49; refine (valid49 _ _ _).mono ?_; rintro e w1 ⟨rfl, hb1⟩; obtain ⟨hc1, hf1, hz1⟩ := aft hb1; have z1 : g < w1.heap.size := by (simp at hz1; omega))
          rw [rounds_succ]
          go_wp2_with (go_at_call 49; refine (valid49 _ _ _).mono ?_; rintro e w2 ⟨rfl, hb2⟩; obtain ⟨hc2, hf2, hz2⟩ := aft hb2; have z2 : g < w2.heap.size := by (simp at hz2; omega))
          rw [rounds_succ]
          go_wp2_with (go_at_call 49; refine (valid49 _ _ _).mono ?_; rintro e w3 ⟨rfl, hb3⟩; obtain ⟨hc3, hf3, hz3⟩ := aft hb3; have z3 : g < w3.heap.size := by (simp at hz3; omega))
          rw [rounds_succ]
          go_wp2_with (go_at_call 49; refine (valid49 _ _ _).mono ?_; rintro e w4 ⟨rfl, hb4⟩; obtain ⟨hc4, hf4, hz4⟩ := aft hb4; have z4 : g < w4.heap.size := by (simp at hz4; omega))
          go_ret
          exact ⟨rb (by simp), by repeat (first | exact Below.refl _ _ | apply bd | apply ba | refine bt ?_ ‹_›)⟩
        · skip
          go_enter Try.func69, Try.ntmps69
          go_wp2
          refine wp_loop_rounds 5 ?_
          rw [rounds_succ]
          go_wp2_with (go_at_call 49; refine (valid49 _ _ _).mono ?_; rintro e w1 ⟨rfl, hb1⟩; obtain ⟨hc1, hf1, hz1⟩ := aft hb1; have z1 : g < w1.heap.size := by (simp at hz1; omega))
          rw [rounds_succ]
          go_wp2_with (go_at_call 49; refine (valid49 _ _ _).mono ?_; rintro e w2 ⟨rfl, hb2⟩; obtain ⟨hc2, hf2, hz2⟩ := aft hb2; have z2 : g < w2.heap.size := by (simp at hz2; omega))
          rw [rounds_succ]
          go_wp2_with (go_at_call 49; refine (valid49 _ _ _).mono ?_; rintro e w3 ⟨rfl, hb3⟩; obtain ⟨hc3, hf3, hz3⟩ := aft hb3; have z3 : g < w3.heap.size := by (simp at hz3; omega))
          rw [rounds_succ]
          go_wp2_with (go_at_call 49; refine (valid49 _ _ _).mono ?_; rintro e w4 ⟨rfl, hb4⟩; obtain ⟨hc4, hf4, hz4⟩ := aft hb4; have z4 : g < w4.heap.size := by (simp at hz4; omega))
          rw [rounds_succ]
          go_wp2
          go_ret
          exact ⟨rb (by simp), by repeat (first | exact Below.refl _ _ | apply bd | apply ba | refine bt ?_ ‹_›)⟩
end Go.Proofs.Ytandgbpbabmdfaa
