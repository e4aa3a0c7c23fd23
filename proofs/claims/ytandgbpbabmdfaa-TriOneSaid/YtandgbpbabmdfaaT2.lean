import Derived.Test.YtandgbpbabmdfaaT1
import Derived.Deep.RegionHeld3
import Derived.Deep.QuietTactic
import Derived.BigQuiet
import Derived.LoopN
namespace Go.Proofs.Ytandgbpbabmdfaa
open Go.RowKit

theorem bcell {W w1 : World} (hb : Below W.heap.size W w1) : (∀ b o, b < W.heap.size → w1.cell? ⟨b, o, none⟩ = W.cell? ⟨b, o, none⟩) ∧ (∀ b o, b < W.heap.size → w1.frozen? ⟨b, o, none⟩ = W.frozen? ⟨b, o, none⟩) :=
  ⟨fun b o h => hb.cell (p := ⟨b, o, none⟩) h, fun b o h => hb.frozen (p := ⟨b, o, none⟩) h⟩

theorem ba {W w : World} (h : Below W.heap.size W w) (o : Obj) : Below W.heap.size W (w.alloc o) := h.alloc h.size o
theorem bd {W w : World} (h : Below W.heap.size W w) : Below W.heap.size W w.drew := h.drew
theorem bt {W w w1 : World} (h : Below W.heap.size W w) (k : Below w.heap.size w w1) : Below W.heap.size W w1 := h.trans (k.mono h.size)

set_option maxHeartbeats 400000 in
set_option maxRecDepth 100000 in
theorem or2_calls (g c : Nat) (a b : Int) (w : World) (h0 : w.cell? ⟨g, 0, none⟩ = some (.int .i64 a)) (h1 : w.cell? ⟨g, 1, none⟩ = some (.int .i64 b)) :
    Calls Try.prog 59 #[.slice (some ⟨g, 0, none⟩) 2 c] w fun e w' => e = .returned (.int .i64 (or2 a b)) ∧ w = w' := by
  by_cases ha : a = 0
  · have H : or2 a b = b := by unfold or2; rw [if_pos ha]
    replace H := Lib.hid H
    have a1 : (a == 0) = true := beq_iff_eq.mpr ha
    have a2 : (a != 0) = false := bne_eq_false_iff_eq.mpr ha
    clear ha
    by_cases hb : b = 0
    · have b1 : (b == 0) = true := beq_iff_eq.mpr hb
      have b2 : (b != 0) = false := bne_eq_false_iff_eq.mpr hb
      replace hb := Lib.hid hb
      go_enter Try.func59, Try.ntmps59
      go_wp2
      refine wp_loop_rounds 3 ?_
      rw [rounds_succ]
      go_wp2
      rw [rounds_succ]
      go_wp2
      rw [rounds_succ]
      go_wp2
      go_ret
      exact ⟨by rw [H.out, hb.out]; rfl, rfl⟩
    · have b1 : (b == 0) = false := beq_eq_false_iff_ne.mpr hb
      have b2 : (b != 0) = true := bne_iff_ne.mpr hb
      clear hb
      go_enter Try.func59, Try.ntmps59
      go_wp2
      refine wp_loop_rounds 3 ?_
      rw [rounds_succ]
      go_wp2
      rw [rounds_succ]
      go_wp2
      go_ret
      exact ⟨by rw [H.out]; rfl, rfl⟩
  · have H : or2 a b = a := by unfold or2; rw [if_neg ha]
    replace H := Lib.hid H
    have a1 : (a == 0) = false := beq_eq_false_iff_ne.mpr ha
    have a2 : (a != 0) = true := bne_iff_ne.mpr ha
    clear ha
    go_enter Try.func59, Try.ntmps59
    go_wp2
    refine wp_loop_rounds 3 ?_
    rw [rounds_succ]
    go_wp2
    go_ret
    exact ⟨by rw [H.out]; rfl, rfl⟩

set_option maxHeartbeats 400000 in
set_option maxRecDepth 100000 in
theorem cmp50 (p0 p1 q0 q1 : Int) (w : World) :
    Calls Try.prog 50 #[.agg #[.int .i64 p0, .int .i64 p1], .agg #[.int .i64 q0, .int .i64 q1]] w fun e w' => e = .returned (.int .i64 (cmpP ⟨p0, p1⟩ ⟨q0, q1⟩)) ∧ Below w.heap.size w w' := by
  go_enter Try.func50, Try.ntmps50
  go_wp2_with fail
  go_region_held3 (fun w' => w'.cell? ⟨w.heap.size, 0, none⟩ = some (.int .i64 p0) ∧ w'.cell? ⟨w.heap.size, 1, none⟩ = some (.int .i64 p1) ∧ w'.cell? ⟨w.heap.size + 1, 0, none⟩ = some (.int .i64 q0) ∧ w'.cell? ⟨w.heap.size + 1, 1, none⟩ = some (.int .i64 q1)) (go_keep)
    (first | (go_at_call 68; refine (compare_calls _ _ _).mono ?_; rintro e w' ⟨rfl, rfl⟩) | (go_at_call 59; refine (or2_calls _ _ (cmpI p0 q0) (cmpI p1 q1) _ (by go_simp) (by go_simp)).mono ?_; rintro e w' ⟨rfl, rfl⟩))
  all_goals
    go_wp2
    go_ret
    exact ⟨by rfl, by repeat (first | exact Below.refl _ _ | apply bd | apply ba)⟩
end Go.Proofs.Ytandgbpbabmdfaa
