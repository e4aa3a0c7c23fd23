/- The laws of the triangles' order. -/
import Derived.Test.YtandgbpbabmdfaaMc
namespace Go.Proofs.Ytandgbpbabmdfaa

theorem cmpT_anti (s t : Tr) : cmpT s t = -cmpT t s := by
  unfold cmpT or2
  rw [cmpP_anti s.a t.a, cmpP_anti s.b t.b, cmpP_anti s.c t.c]
  (repeat' split) <;> omega
theorem cmpT_zero (s t : Tr) : cmpT s t = 0 ↔ s = t := by
  obtain ⟨a, b, c⟩ := s
  obtain ⟨d, e, f⟩ := t
  have h1 := cmpP_zero a d
  have h2 := cmpP_zero b e
  have h3 := cmpP_zero c f
  simp only [Tr.mk.injEq]
  rw [← h1, ← h2, ← h3]
  unfold cmpT or2
  dsimp only
  (repeat' split) <;> omega
theorem cmpP_trans {p q r : Pt} (h1 : cmpP p q ≤ 0) (h2 : cmpP q r ≤ 0) : cmpP p r ≤ 0 := by
  have a1 := cmpP_pos p q
  have a2 := cmpP_pos q r
  have a3 := cmpP_pos p r
  omega
theorem cmpP_lt_trans {p q r : Pt} (h1 : cmpP p q < 0) (h2 : cmpP q r < 0) : cmpP p r < 0 := by
  have a1 := cmpP_neg p q
  have a2 := cmpP_neg q r
  have a3 := cmpP_neg p r
  omega
theorem cmpT_le (s t : Tr) : cmpT s t ≤ 0 ↔ (cmpP s.a t.a < 0 ∨ s.a = t.a ∧ (cmpP s.b t.b < 0 ∨ s.b = t.b ∧ cmpP s.c t.c ≤ 0)) := by
  rw [← cmpP_zero s.a t.a, ← cmpP_zero s.b t.b]
  unfold cmpT or2
  (repeat' split) <;> omega
theorem cmpT_trans {s t u : Tr} (h1 : cmpT s t ≤ 0) (h2 : cmpT t u ≤ 0) : cmpT s u ≤ 0 := by
  rw [cmpT_le] at h1 h2 ⊢
  rcases h1 with h1 | ⟨e1, h1⟩
  · rcases h2 with h2 | ⟨e2, _⟩
    · exact .inl (cmpP_lt_trans h1 h2)
    · exact .inl (e2 ▸ h1)
  · rcases h2 with h2 | ⟨e2, h2⟩
    · exact .inl (e1 ▸ h2)
    · refine .inr ⟨e1.trans e2, ?_⟩
      rcases h1 with h1 | ⟨f1, h1⟩
      · rcases h2 with h2 | ⟨f2, _⟩
        · exact .inl (cmpP_lt_trans h1 h2)
        · exact .inl (f2 ▸ h1)
      · rcases h2 with h2 | ⟨f2, h2⟩
        · exact .inl (f1 ▸ h2)
        · exact .inr ⟨f1.trans f2, cmpP_trans h1 h2⟩
theorem cmpT_rng (s t : Tr) : -1 ≤ cmpT s t ∧ cmpT s t ≤ 1 := by
  have h1 := cmpP_cases s.a t.a
  have h2 := cmpP_cases s.b t.b
  have h3 := cmpP_cases s.c t.c
  unfold cmpT or2
  (repeat' split) <;> omega

end Go.Proofs.Ytandgbpbabmdfaa
