import Derived.Test.YtandgbpbabmdfaaT7
import Derived.Test.YtandgbpbabmdfaaMb
namespace Go.Proofs.Ytandgbpbabmdfaa
open Go.RowKit
attribute [local go_sem high] eq23 eq25

set_option maxHeartbeats 1000000 in
set_option maxRecDepth 100000 in
theorem cor29 (a0 a1 b0 b1 c0 c1 i : Int) (w : World) :
    Calls Try.prog 29 #[.agg #[.int .i64 a0, .int .i64 a1, .int .i64 b0, .int .i64 b1, .int .i64 c0, .int .i64 c1], .int .i64 i] w fun e w' =>
      e = .returned (.agg #[.int .i64 (cor ⟨⟨a0, a1⟩, ⟨b0, b1⟩, ⟨c0, c1⟩⟩ i).x, .int .i64 (cor ⟨⟨a0, a1⟩, ⟨b0, b1⟩, ⟨c0, c1⟩⟩ i).y]) ∧ Below w.heap.size w w' := by
  have k0 : ∀ w, (Instr.index 38 (.agg #[.int .i64 a0, .int .i64 a1, .int .i64 b0, .int .i64 b1, .int .i64 c0, .int .i64 c1]) (.int .i64 0)).run Try.prog w = .ok (.agg #[.int .i64 a0, .int .i64 a1]) w := fun _ => by kernel_rfl
  have k1 : ∀ w, (Instr.index 38 (.agg #[.int .i64 a0, .int .i64 a1, .int .i64 b0, .int .i64 b1, .int .i64 c0, .int .i64 c1]) (.int .i64 1)).run Try.prog w = .ok (.agg #[.int .i64 b0, .int .i64 b1]) w := fun _ => by kernel_rfl
  have k2 : ∀ w, (Instr.index 38 (.agg #[.int .i64 a0, .int .i64 a1, .int .i64 b0, .int .i64 b1, .int .i64 c0, .int .i64 c1]) (.int .i64 2)).run Try.prog w = .ok (.agg #[.int .i64 c0, .int .i64 c1]) w := fun _ => by kernel_rfl
  have hm := mod3 i
  obtain ⟨t1, t2⟩ := tm3 i
  rcases (by omega : i % 3 = 0 ∨ i % 3 = 1 ∨ i % 3 = 2) with h | h | h
  · have H : cor ⟨⟨a0, a1⟩, ⟨b0, b1⟩, ⟨c0, c1⟩⟩ i = ⟨a0, a1⟩ := by unfold cor; rw [if_pos h]
    rw [h] at hm; clear h k1 k2
    rw [H]; clear H
    go_enter Try.func29, Try.ntmps29
    go_wp2
    exact bodyPost_ret (v := .agg #[.int .i64 a0, .int .i64 a1]) (by simp [results, Try.results29, go_sem]) rfl ⟨rfl, by repeat (first | exact Below.refl _ _ | apply bd | apply ba)⟩
  · have H : cor ⟨⟨a0, a1⟩, ⟨b0, b1⟩, ⟨c0, c1⟩⟩ i = ⟨b0, b1⟩ := by unfold cor; rw [if_neg (by omega), if_pos h]
    rw [h] at hm; clear h k0 k2
    rw [H]; clear H
    go_enter Try.func29, Try.ntmps29
    go_wp2
    exact bodyPost_ret (v := .agg #[.int .i64 b0, .int .i64 b1]) (by simp [results, Try.results29, go_sem]) rfl ⟨rfl, by repeat (first | exact Below.refl _ _ | apply bd | apply ba)⟩
  · have H : cor ⟨⟨a0, a1⟩, ⟨b0, b1⟩, ⟨c0, c1⟩⟩ i = ⟨c0, c1⟩ := by unfold cor; rw [if_neg (by omega), if_neg (by omega)]
    rw [h] at hm; clear h k0 k1
    rw [H]; clear H
    go_enter Try.func29, Try.ntmps29
    go_wp2
    exact bodyPost_ret (v := .agg #[.int .i64 c0, .int .i64 c1]) (by simp [results, Try.results29, go_sem]) rfl ⟨rfl, by repeat (first | exact Below.refl _ _ | apply bd | apply ba)⟩


set_option maxHeartbeats 1000000 in
set_option maxRecDepth 100000 in
theorem edge22 (a0 a1 b0 b1 c0 c1 i : Int) (w : World) :
    Calls Try.prog 22 #[.agg #[.int .i64 a0, .int .i64 a1, .int .i64 b0, .int .i64 b1, .int .i64 c0, .int .i64 c1], .int .i64 i] w fun e w' => e = .returned (.tuple #[.agg #[.int .i64 (cor ⟨⟨a0, a1⟩, ⟨b0, b1⟩, ⟨c0, c1⟩⟩ i).x, .int .i64 (cor ⟨⟨a0, a1⟩, ⟨b0, b1⟩, ⟨c0, c1⟩⟩ i).y], .agg #[.int .i64 (cor ⟨⟨a0, a1⟩, ⟨b0, b1⟩, ⟨c0, c1⟩⟩ (i + 1)).x, .int .i64 (cor ⟨⟨a0, a1⟩, ⟨b0, b1⟩, ⟨c0, c1⟩⟩ (i + 1)).y]]) ∧ Below w.heap.size w w' := by
  rw [← cor_tmod, ← cor_tmod1]
  obtain ⟨t1, t2⟩ := tm3 i
  have hw : IntKind.i64.wrap (i.tmod 3 + 1) = i.tmod 3 + 1 := IntWalk.i64_in _ (by omega)
  go_enter Try.func22, Try.ntmps22
  go_wp2_with fail
  go_region_held3 (fun w' => w'.cell? ⟨w.heap.size, 0, none⟩ = some (.int .i64 a0) ∧ w'.cell? ⟨w.heap.size, 1, none⟩ = some (.int .i64 a1) ∧ w'.cell? ⟨w.heap.size, 2, none⟩ = some (.int .i64 b0) ∧ w'.cell? ⟨w.heap.size, 3, none⟩ = some (.int .i64 b1) ∧ w'.cell? ⟨w.heap.size, 4, none⟩ = some (.int .i64 c0) ∧ w'.cell? ⟨w.heap.size, 5, none⟩ = some (.int .i64 c1) ∧ w'.frozen? ⟨w.heap.size + 1, 0, none⟩ = false ∧ w'.frozen? ⟨w.heap.size + 1, 1, none⟩ = false ∧ w'.frozen? ⟨w.heap.size + 1 + 1, 0, none⟩ = false ∧ w'.frozen? ⟨w.heap.size + 1 + 1, 1, none⟩ = false) (((repeat' apply And.intro) <;> go_simp)) (first | (go_at_call 28; refine (cor28 _ _ _ _ _ _ _ _).mono ?_; rintro e w1 ⟨rfl, hb⟩; (with_reducible (repeat replace hb := undr hb)); obtain ⟨hc, hf, hz⟩ := aft hb; have z0 : w.heap.size < w1.heap.size := (by (try simp at hz); omega); have n0 : ¬ w.heap.size = w1.heap.size := (by omega); have z1 : w.heap.size + 1 < w1.heap.size := (by (try simp at hz); omega); have n1 : ¬ w.heap.size + 1 = w1.heap.size := (by omega); have z2 : w.heap.size + 1 + 1 < w1.heap.size := (by (try simp at hz); omega); have n2 : ¬ w.heap.size + 1 + 1 = w1.heap.size := (by omega); clear hz))
  all_goals
    clear hw
    go_wp2
    (try simp only [Exit.inBlock, Exit.then])
    refine bodyPost_ret (v := .tuple #[.agg #[.int .i64 (cor ⟨⟨a0, a1⟩, ⟨b0, b1⟩, ⟨c0, c1⟩⟩ (i.tmod 3)).x, .int .i64 (cor ⟨⟨a0, a1⟩, ⟨b0, b1⟩, ⟨c0, c1⟩⟩ (i.tmod 3)).y], .agg #[.int .i64 (cor ⟨⟨a0, a1⟩, ⟨b0, b1⟩, ⟨c0, c1⟩⟩ (i.tmod 3 + 1)).x, .int .i64 (cor ⟨⟨a0, a1⟩, ⟨b0, b1⟩, ⟨c0, c1⟩⟩ (i.tmod 3 + 1)).y]]) ?_ ?_ ?_
    · simp [results, Try.results22, go_sem, *]
    · rfl
    refine ⟨rfl, ?_⟩
    repeat (first | (with_reducible exact Below.refl _ _) | (with_reducible assumption) | (with_reducible apply bd) | (with_reducible apply ba) | (with_reducible refine bs ?_ (by first | (simp; done) | (simp; omega)) _) | (with_reducible refine bt ?_ ‹_›))

end Go.Proofs.Ytandgbpbabmdfaa
