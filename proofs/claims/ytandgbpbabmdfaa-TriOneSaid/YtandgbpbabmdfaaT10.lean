import Derived.Test.YtandgbpbabmdfaaT9
namespace Go.Proofs.Ytandgbpbabmdfaa
open Go.RowKit
attribute [local go_sem high] eq23 eq25

set_option maxHeartbeats 1000000 in
set_option maxRecDepth 100000 in
theorem cmpT27 (a0 a1 b0 b1 c0 c1 d0 d1 e0 e1 f0 f1 : Int) (w : World) :
    Calls Try.prog 27 #[.agg #[.int .i64 a0, .int .i64 a1, .int .i64 b0, .int .i64 b1, .int .i64 c0, .int .i64 c1], .agg #[.int .i64 d0, .int .i64 d1, .int .i64 e0, .int .i64 e1, .int .i64 f0, .int .i64 f1]] w fun e w' => e = .returned (.int .i64 (cmpT ⟨⟨a0, a1⟩, ⟨b0, b1⟩, ⟨c0, c1⟩⟩ ⟨⟨d0, d1⟩, ⟨e0, e1⟩, ⟨f0, f1⟩⟩)) ∧ Below w.heap.size w w' := by
  by_cases ha : cmpP ⟨a0, a1⟩ ⟨d0, d1⟩ = 0
  · by_cases hb : cmpP ⟨b0, b1⟩ ⟨e0, e1⟩ = 0
    · have H := Lib.hid (show cmpT ⟨⟨a0, a1⟩, ⟨b0, b1⟩, ⟨c0, c1⟩⟩ ⟨⟨d0, d1⟩, ⟨e0, e1⟩, ⟨f0, f1⟩⟩ = cmpP ⟨c0, c1⟩ ⟨f0, f1⟩ by rw [cmpT_or]; unfold or2; rw [if_pos ha, if_pos hb])
      have k1 : (cmpP ⟨a0, a1⟩ ⟨d0, d1⟩ == 0) = true := beq_iff_eq.mpr ha
      have k2 : (cmpP ⟨b0, b1⟩ ⟨e0, e1⟩ == 0) = true := beq_iff_eq.mpr hb
      clear ha hb
      go_enter Try.func27, Try.ntmps27
      go_wp2_with (go_at_call 51; refine (cmp51 _ _ _ _ _).mono ?_; rintro e w1 ⟨rfl, hb⟩; (with_reducible (repeat replace hb := undr hb)); obtain ⟨hc, hf, hz⟩ := aft hb; have z0 : w.heap.size < w1.heap.size := (by (try simp at hz); omega); have n0 : ¬ w.heap.size = w1.heap.size := (by omega); have z1 : w.heap.size + 1 < w1.heap.size := (by (try simp at hz); omega); have n1 : ¬ w.heap.size + 1 = w1.heap.size := (by omega); clear hz)
      go_ret
      exact ⟨ri H.out.symm, by repeat (first | (with_reducible exact Below.refl _ _) | (with_reducible assumption) | (with_reducible apply bd) | (with_reducible apply ba) | (with_reducible refine bs ?_ (by first | (simp; done) | (simp; omega)) _) | (with_reducible refine bt ?_ ‹_›))⟩
    · have H := Lib.hid (show cmpT ⟨⟨a0, a1⟩, ⟨b0, b1⟩, ⟨c0, c1⟩⟩ ⟨⟨d0, d1⟩, ⟨e0, e1⟩, ⟨f0, f1⟩⟩ = cmpP ⟨b0, b1⟩ ⟨e0, e1⟩ by rw [cmpT_or]; unfold or2; rw [if_pos ha, if_neg hb])
      have k1 : (cmpP ⟨a0, a1⟩ ⟨d0, d1⟩ == 0) = true := beq_iff_eq.mpr ha
      have k2 : (cmpP ⟨b0, b1⟩ ⟨e0, e1⟩ == 0) = false := beq_eq_false_iff_ne.mpr hb
      clear ha hb
      go_enter Try.func27, Try.ntmps27
      go_wp2_with (go_at_call 51; refine (cmp51 _ _ _ _ _).mono ?_; rintro e w1 ⟨rfl, hb⟩; (with_reducible (repeat replace hb := undr hb)); obtain ⟨hc, hf, hz⟩ := aft hb; have z0 : w.heap.size < w1.heap.size := (by (try simp at hz); omega); have n0 : ¬ w.heap.size = w1.heap.size := (by omega); have z1 : w.heap.size + 1 < w1.heap.size := (by (try simp at hz); omega); have n1 : ¬ w.heap.size + 1 = w1.heap.size := (by omega); clear hz)
      go_ret
      exact ⟨ri H.out.symm, by repeat (first | (with_reducible exact Below.refl _ _) | (with_reducible assumption) | (with_reducible apply bd) | (with_reducible apply ba) | (with_reducible refine bs ?_ (by first | (simp; done) | (simp; omega)) _) | (with_reducible refine bt ?_ ‹_›))⟩
  · have H := Lib.hid (show cmpT ⟨⟨a0, a1⟩, ⟨b0, b1⟩, ⟨c0, c1⟩⟩ ⟨⟨d0, d1⟩, ⟨e0, e1⟩, ⟨f0, f1⟩⟩ = cmpP ⟨a0, a1⟩ ⟨d0, d1⟩ by rw [cmpT_or]; unfold or2; rw [if_neg ha])
    have k1 : (cmpP ⟨a0, a1⟩ ⟨d0, d1⟩ == 0) = false := beq_eq_false_iff_ne.mpr ha
    clear ha
    go_enter Try.func27, Try.ntmps27
    go_wp2_with (go_at_call 51; refine (cmp51 _ _ _ _ _).mono ?_; rintro e w1 ⟨rfl, hb⟩; (with_reducible (repeat replace hb := undr hb)); obtain ⟨hc, hf, hz⟩ := aft hb; have z0 : w.heap.size < w1.heap.size := (by (try simp at hz); omega); have n0 : ¬ w.heap.size = w1.heap.size := (by omega); have z1 : w.heap.size + 1 < w1.heap.size := (by (try simp at hz); omega); have n1 : ¬ w.heap.size + 1 = w1.heap.size := (by omega); clear hz)
    go_ret
    exact ⟨ri H.out.symm, by repeat (first | (with_reducible exact Below.refl _ _) | (with_reducible assumption) | (with_reducible apply bd) | (with_reducible apply ba) | (with_reducible refine bs ?_ (by first | (simp; done) | (simp; omega)) _) | (with_reducible refine bt ?_ ‹_›))⟩

end Go.Proofs.Ytandgbpbabmdfaa
