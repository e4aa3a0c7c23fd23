import Derived.Test.YtandgbpbabmdfaaT4
import Derived.KernelRfl
namespace Go.Proofs.Ytandgbpbabmdfaa
open Go.RowKit

theorem tm (i : Int) : i.tmod 3 = if 0 ≤ i then i % 3 else -((-i) % 3) := by
  split
  · rw [Int.tmod_eq_emod_of_nonneg ‹_›]
  · have h : i = -(-i) := by omega
    rw [h, Int.neg_tmod, Int.tmod_eq_emod_of_nonneg (by omega)]; simp
theorem mod3 (i : Int) : (i.tmod 3 + 3).tmod 3 = i % 3 := by
  have h := tm i
  split at h
  · rw [Int.tmod_eq_emod_of_nonneg (by omega)]; omega
  · rw [Int.tmod_eq_emod_of_nonneg (by omega)]; omega
theorem tm3 (i : Int) : -3 < i.tmod 3 ∧ i.tmod 3 < 3 := by
  have h := tm i
  split at h <;> omega

set_option maxHeartbeats 1000000 in
set_option maxRecDepth 100000 in
theorem cor28 (a0 a1 b0 b1 c0 c1 i : Int) (w : World) :
    Calls Try.prog 28 #[.agg #[.int .i64 a0, .int .i64 a1, .int .i64 b0, .int .i64 b1, .int .i64 c0, .int .i64 c1], .int .i64 i] w fun e w' =>
      e = .returned (.agg #[.int .i64 (cor ⟨⟨a0, a1⟩, ⟨b0, b1⟩, ⟨c0, c1⟩⟩ i).x, .int .i64 (cor ⟨⟨a0, a1⟩, ⟨b0, b1⟩, ⟨c0, c1⟩⟩ i).y]) ∧ Below w.heap.size w w' := by
  have k0 : ∀ w, (Instr.index 38 (.agg #[.int .i64 a0, .int .i64 a1, .int .i64 b0, .int .i64 b1, .int .i64 c0, .int .i64 c1]) (.int .i64 0)).run Try.prog w = .ok (.agg #[.int .i64 a0, .int .i64 a1]) w := fun _ => by kernel_rfl
  have k1 : ∀ w, (Instr.index 38 (.agg #[.int .i64 a0, .int .i64 a1, .int .i64 b0, .int .i64 b1, .int .i64 c0, .int .i64 c1]) (.int .i64 1)).run Try.prog w = .ok (.agg #[.int .i64 b0, .int .i64 b1]) w := fun _ => by kernel_rfl
  have k2 : ∀ w, (Instr.index 38 (.agg #[.int .i64 a0, .int .i64 a1, .int .i64 b0, .int .i64 b1, .int .i64 c0, .int .i64 c1]) (.int .i64 2)).run Try.prog w = .ok (.agg #[.int .i64 c0, .int .i64 c1]) w := fun _ => by kernel_rfl
  have hm := mod3 i
  obtain ⟨t1, t2⟩ := tm3 i
  rcases (by omega : i % 3 = 0 ∨ i % 3 = 1 ∨ i % 3 = 2) with h | h | h
  · have H : cor ⟨⟨a0, a1⟩, ⟨b0, b1⟩, ⟨c0, c1⟩⟩ i = ⟨a0, a1⟩ := by unfold cor; rw [if_pos h]
    rw [h] at hm; clear h k1 k2
    rw [H]; clear H
    go_enter Try.func28, Try.ntmps28
    go_wp2
    exact bodyPost_ret (v := .agg #[.int .i64 a0, .int .i64 a1]) (by simp [results, Try.results28, go_sem]) rfl ⟨rfl, by repeat (first | exact Below.refl _ _ | apply bd | apply ba)⟩
  · have H : cor ⟨⟨a0, a1⟩, ⟨b0, b1⟩, ⟨c0, c1⟩⟩ i = ⟨b0, b1⟩ := by unfold cor; rw [if_neg (by omega), if_pos h]
    rw [h] at hm; clear h k0 k2
    rw [H]; clear H
    go_enter Try.func28, Try.ntmps28
    go_wp2
    exact bodyPost_ret (v := .agg #[.int .i64 b0, .int .i64 b1]) (by simp [results, Try.results28, go_sem]) rfl ⟨rfl, by repeat (first | exact Below.refl _ _ | apply bd | apply ba)⟩
  · have H : cor ⟨⟨a0, a1⟩, ⟨b0, b1⟩, ⟨c0, c1⟩⟩ i = ⟨c0, c1⟩ := by unfold cor; rw [if_neg (by omega), if_neg (by omega)]
    rw [h] at hm; clear h k0 k1
    rw [H]; clear H
    go_enter Try.func28, Try.ntmps28
    go_wp2
    exact bodyPost_ret (v := .agg #[.int .i64 c0, .int .i64 c1]) (by simp [results, Try.results28, go_sem]) rfl ⟨rfl, by repeat (first | exact Below.refl _ _ | apply bd | apply ba)⟩

end Go.Proofs.Ytandgbpbabmdfaa
