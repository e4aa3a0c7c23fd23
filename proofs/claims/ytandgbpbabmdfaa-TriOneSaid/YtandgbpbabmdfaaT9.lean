import Derived.Test.YtandgbpbabmdfaaT8
namespace Go.Proofs.Ytandgbpbabmdfaa
open Go.RowKit
attribute [local go_sem high] eq23 eq25
theorem cmpT_or (s t : Tr) : cmpT s t = or2 (cmpP s.a t.a) (or2 (cmpP s.b t.b) (cmpP s.c t.c)) := rfl

set_option maxHeartbeats 1000000 in
set_option maxRecDepth 100000 in
theorem or3_calls (g k : Nat) (a b c : Int) (w : World) (h0 : w.cell? ⟨g, 0, none⟩ = some (.int .i64 a)) (h1 : w.cell? ⟨g, 1, none⟩ = some (.int .i64 b)) (h2 : w.cell? ⟨g, 2, none⟩ = some (.int .i64 c)) :
    Calls Try.prog 59 #[.slice (some ⟨g, 0, none⟩) 3 k] w fun e w' => e = .returned (.int .i64 (or2 a (or2 b c))) ∧ w = w' := by
  by_cases ha : a = 0
  · by_cases hb : b = 0
    · by_cases hc : c = 0
      · have H := Lib.hid (show or2 a (or2 b c) = 0 by unfold or2; rw [if_pos ha, if_pos hb]; exact hc)
        have a1 : (a == 0) = true := beq_iff_eq.mpr ha
        have a2 : (a != 0) = false := bne_eq_false_iff_eq.mpr ha
        have b1 : (b == 0) = true := beq_iff_eq.mpr hb
        have b2 : (b != 0) = false := bne_eq_false_iff_eq.mpr hb
        have c1 : (c == 0) = true := beq_iff_eq.mpr hc
        have c2 : (c != 0) = false := bne_eq_false_iff_eq.mpr hc
        clear ha hb hc
        go_enter Try.func59, Try.ntmps59
        go_wp2
        refine wp_loop_rounds 4 ?_
        rw [rounds_succ]
        go_wp2
        rw [rounds_succ]
        go_wp2
        rw [rounds_succ]
        go_wp2
        rw [rounds_succ]
        go_wp2
        go_ret
        exact ⟨by rw [H.out]; rfl, rfl⟩
      · have H := Lib.hid (show or2 a (or2 b c) = c by unfold or2; rw [if_pos ha, if_pos hb])
        have a1 : (a == 0) = true := beq_iff_eq.mpr ha
        have a2 : (a != 0) = false := bne_eq_false_iff_eq.mpr ha
        have b1 : (b == 0) = true := beq_iff_eq.mpr hb
        have b2 : (b != 0) = false := bne_eq_false_iff_eq.mpr hb
        have c1 : (c == 0) = false := beq_eq_false_iff_ne.mpr hc
        have c2 : (c != 0) = true := bne_iff_ne.mpr hc
        clear ha hb hc
        go_enter Try.func59, Try.ntmps59
        go_wp2
        refine wp_loop_rounds 4 ?_
        rw [rounds_succ]
        go_wp2
        rw [rounds_succ]
        go_wp2
        rw [rounds_succ]
        go_wp2
        go_ret
        exact ⟨by rw [H.out]; rfl, rfl⟩
    · have H := Lib.hid (show or2 a (or2 b c) = b by unfold or2; rw [if_pos ha, if_neg hb])
      have a1 : (a == 0) = true := beq_iff_eq.mpr ha
      have a2 : (a != 0) = false := bne_eq_false_iff_eq.mpr ha
      have b1 : (b == 0) = false := beq_eq_false_iff_ne.mpr hb
      have b2 : (b != 0) = true := bne_iff_ne.mpr hb
      clear ha hb
      go_enter Try.func59, Try.ntmps59
      go_wp2
      refine wp_loop_rounds 4 ?_
      rw [rounds_succ]
      go_wp2
      rw [rounds_succ]
      go_wp2
      go_ret
      exact ⟨by rw [H.out]; rfl, rfl⟩
  · have H := Lib.hid (show or2 a (or2 b c) = a by unfold or2; rw [if_neg ha])
    have a1 : (a == 0) = false := beq_eq_false_iff_ne.mpr ha
    have a2 : (a != 0) = true := bne_iff_ne.mpr ha
    clear ha
    go_enter Try.func59, Try.ntmps59
    go_wp2
    refine wp_loop_rounds 4 ?_
    rw [rounds_succ]
    go_wp2
    go_ret
    exact ⟨by rw [H.out]; rfl, rfl⟩

set_option maxHeartbeats 1000000 in
set_option maxRecDepth 100000 in
theorem cmpT26 (a0 a1 b0 b1 c0 c1 d0 d1 e0 e1 f0 f1 : Int) (w : World) :
    Calls Try.prog 26 #[.agg #[.int .i64 a0, .int .i64 a1, .int .i64 b0, .int .i64 b1, .int .i64 c0, .int .i64 c1], .agg #[.int .i64 d0, .int .i64 d1, .int .i64 e0, .int .i64 e1, .int .i64 f0, .int .i64 f1]] w fun e w' => e = .returned (.int .i64 (cmpT ⟨⟨a0, a1⟩, ⟨b0, b1⟩, ⟨c0, c1⟩⟩ ⟨⟨d0, d1⟩, ⟨e0, e1⟩, ⟨f0, f1⟩⟩)) ∧ Below w.heap.size w w' := by
  rw [cmpT_or]
  go_enter Try.func26, Try.ntmps26
  go_wp2_with fail
  go_region_held3 (fun w' => w'.cell? ⟨w.heap.size, 0, none⟩ = some (.int .i64 a0) ∧ w'.cell? ⟨w.heap.size, 1, none⟩ = some (.int .i64 a1) ∧ w'.cell? ⟨w.heap.size, 2, none⟩ = some (.int .i64 b0) ∧ w'.cell? ⟨w.heap.size, 3, none⟩ = some (.int .i64 b1) ∧ w'.cell? ⟨w.heap.size, 4, none⟩ = some (.int .i64 c0) ∧ w'.cell? ⟨w.heap.size, 5, none⟩ = some (.int .i64 c1) ∧ w'.cell? ⟨w.heap.size + 1, 0, none⟩ = some (.int .i64 d0) ∧ w'.cell? ⟨w.heap.size + 1, 1, none⟩ = some (.int .i64 d1) ∧ w'.cell? ⟨w.heap.size + 1, 2, none⟩ = some (.int .i64 e0) ∧ w'.cell? ⟨w.heap.size + 1, 3, none⟩ = some (.int .i64 e1) ∧ w'.cell? ⟨w.heap.size + 1, 4, none⟩ = some (.int .i64 f0) ∧ w'.cell? ⟨w.heap.size + 1, 5, none⟩ = some (.int .i64 f1)) ((repeat' apply And.intro) <;> go_simp) (first | (go_at_call 50; refine (cmp50 _ _ _ _ _).mono ?_; rintro e w1 ⟨rfl, hb⟩; (with_reducible (repeat replace hb := undr hb)); obtain ⟨hc, hf, hz⟩ := aft hb; have z0 : w.heap.size < w1.heap.size := (by (try simp at hz); omega); have n0 : ¬ w.heap.size = w1.heap.size := (by omega); have z1 : w.heap.size + 1 < w1.heap.size := (by (try simp at hz); omega); have n1 : ¬ w.heap.size + 1 = w1.heap.size := (by omega); clear hz) | (go_at_call 59; refine (or3_calls _ _ (cmpP ⟨a0, a1⟩ ⟨d0, d1⟩) (cmpP ⟨b0, b1⟩ ⟨e0, e1⟩) (cmpP ⟨c0, c1⟩ ⟨f0, f1⟩) _ (by go_simp) (by go_simp) (by go_simp)).mono ?_; rintro e w' ⟨rfl, rfl⟩))
  all_goals
    go_wp2
    go_ret
    exact ⟨rfl, by repeat (first | (with_reducible exact Below.refl _ _) | (with_reducible assumption) | (with_reducible apply bd) | (with_reducible apply ba) | (with_reducible refine bs ?_ (by first | (simp; done) | (simp; omega)) _) | (with_reducible refine bt ?_ ‹_›))⟩

end Go.Proofs.Ytandgbpbabmdfaa
