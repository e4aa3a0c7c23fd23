/- Small laws of the words of the geometry. -/
import Derived.Test.YtandgbpbabmdfaaMa
namespace Go.Proofs.Ytandgbpbabmdfaa

theorem cor_congr (t : Tr) {i j : Int} (h : i % 3 = j % 3) : cor t i = cor t j := by unfold cor; rw [h]
theorem tmod_emod (i : Int) : i.tmod 3 % 3 = i % 3 := by
  by_cases h : 0 ≤ i
  · rw [Int.tmod_eq_emod_of_nonneg h]; omega
  · have e : i = -(-i) := by omega
    rw [e, Int.neg_tmod, Int.tmod_eq_emod_of_nonneg (by omega)]; omega
theorem cor_tmod (t : Tr) (i : Int) : cor t (i.tmod 3) = cor t i := cor_congr t (tmod_emod i)
theorem cor_tmod1 (t : Tr) (i : Int) : cor t (i.tmod 3 + 1) = cor t (i + 1) := cor_congr t (by have := tmod_emod i; omega)

theorem has_no {t : Tr} {p : Pt} (h : (valT t && val p) = false) : has t p = false := by unfold has; rw [h]; simp
theorem ins_no1 {t : Tr} {p : Pt} (h : valT t = false) : ins t p = false := by unfold ins; rw [h]; simp
theorem ins_no2 {t : Tr} {p : Pt} (h : val p = false) : ins t p = false := by
  unfold ins; rw [ori_not (.inr (.inr h))]; simp
theorem ins_no {t : Tr} {p : Pt} (h : (valT t && val p) = false) : ins t p = false := by
  cases h1 : valT t
  · exact ins_no1 h1
  · rw [h1] at h; exact ins_no2 (by simpa using h)
theorem has_yes {t : Tr} {p : Pt} (h1 : valT t = true) (h2 : val p = true) : has t p = (decide (0 ≤ ori t.a t.b p) && decide (0 ≤ ori t.b t.c p) && decide (0 ≤ ori t.c t.a p)) := by
  unfold has; rw [h1, h2]; simp
theorem ins_yes {t : Tr} {p : Pt} (h1 : valT t = true) : ins t p = (decide (0 < ori t.a t.b p) && decide (0 < ori t.b t.c p) && decide (0 < ori t.c t.a p)) := by
  unfold ins; rw [h1]; simp

end Go.Proofs.Ytandgbpbabmdfaa
